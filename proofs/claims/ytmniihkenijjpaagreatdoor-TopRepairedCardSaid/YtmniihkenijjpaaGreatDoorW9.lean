/-
  Rules of the abstract run, plain laws, and what functions answer, for the law TopRepaired.
  Conditions: none.
-/
import Derived.Test.YtmniihkenijjpaaGreatDoorW8
import Derived.Test.YtmniihkenijjpaaGreatDoorChecked
set_option linter.all false
namespace Go.Proofs.YtmniihkenijjpaaGreatDoor
open Go Go.RowKit Go.Sw
set_option maxRecDepth 100000
set_option maxHeartbeats 16000000
instance Ye(l:List Nat):DenI Tryz.prog 230 [.c (lmc l)] (True) (.c (lmc (ah l))):=⟨λhp=>by
 refine aa7 ζ (λhl=>?_);simp only[acz,abX,cellsOf,aN,and_true,true_and]at hl
 all_goals refine aA Tryz.func230 rfl ?_
 all_goals first
  |((conv=>whnf);refine Sw.Loop.inv (α:=Nat) (λx=>[(0,.c (lmc (l.take x)))]) (λx=>[]) (λx=>x<=l.length/\∀j,x<=j->l.getD j 0=0) (λx=>x) l.length ?_ ?_ ?_ (λx hx=>?_))
 all_goals(repeat'((try(conv=>whnf));first
  |(with_reducible first|refine aam ?_|refine aao ?_|refine aah (λ_=>?_) (λ_=>?_))|refine aa2 ?_ ?_|(with_reducible refine aaB ?_ ?_)|apply zaq))
 all_goals(try apply zar)
 all_goals first|(show SubE _ _;repeat'(first|exact trivial|refine And.intro ?_ ?_))|(show SubB _ _;repeat'(first|exact trivial|refine And.intro ?_ ?_))|skip
 all_goals(try simp(disch:=omega) only[aN,qy,fB,xC,aT,bW,wu64,Ap,xK,QC,jO,jR]at *)
 all_goals first
  |(rw[AQ];rfl)|exact⟨gW _,λj hj=>getD_none hj⟩|exact mZ hx (.inl ω)|exact mZ hx (.inr ω)|((conv=>whnf);exact⟨x-1,⟨⟨TA hx.1 ω (by simp only[vP];omega),trivial⟩,⟨⟩,⟨ω,pK hx.2 (take_zero ω ω)⟩,by show x-1<x;omega⟩⟩)|exact zaz⟩
instance Wp(l:List Nat):DenI Tryz.prog 142 [.c (lmc l)] (True) (.c (lmc (ah l))):=⟨λhp=>by
 refine aa7 ζ (λhl=>?_);simp only[acz,abX,cellsOf,aN,and_true,true_and]at hl
 all_goals refine aA Tryz.func142 rfl ?_
 all_goals first
  |((conv=>whnf);refine Sw.Loop.inv (α:=Nat) (λx=>[(0,.c (lmc (l.take x)))]) (λx=>[]) (λx=>x<=l.length/\∀j,x<=j->l.getD j 0=0) (λx=>x) l.length ?_ ?_ ?_ (λx hx=>?_))
 all_goals(repeat'((try(conv=>whnf));first
  |(with_reducible first|refine aam ?_|refine aao ?_|refine aah (λ_=>?_) (λ_=>?_))|refine aa2 ?_ ?_|(with_reducible refine aaB ?_ ?_)|apply zaq))
 all_goals(try apply zar)
 all_goals first|(show SubE _ _;repeat'(first|exact trivial|refine And.intro ?_ ?_))|(show SubB _ _;repeat'(first|exact trivial|refine And.intro ?_ ?_))|skip
 all_goals(try simp(disch:=omega) only[aN,qy,fB,xC,aT,bW,wu64,Ap,xK,QC,jO,jR]at *)
 all_goals first
  |(rw[AQ];rfl)|exact⟨gW _,λj hj=>getD_none hj⟩|exact mZ hx (.inl ω)|exact mZ hx (.inr ω)|((conv=>whnf);exact⟨x-1,⟨⟨TA hx.1 ω (by simp only[vP];omega),trivial⟩,⟨⟩,⟨ω,pK hx.2 (take_zero ω ω)⟩,by show x-1<x;omega⟩⟩)|exact zaz⟩
instance Uk(neg:Bool)(l:List Nat):DenI Tryz.prog 160 [.bool neg,.c (lmc l)] (Lb l) (Z (bH neg (val l))):=⟨λhp=>by
 refine aa7 ζ (λhl=>?_);simp only[acz,abX,cellsOf,aN,and_true,true_and]at hl
 all_goals refine aA Tryz.func160 rfl ?_
 all_goals first
  |((conv=>whnf);refine Sw.Loop.inv (α:=Nat) (λx=>[(0,.bool neg),(1,.c (lmc l)),(4,.ptr 4 0),(5,.int .i64 x)]) (λx=>[(4,.var [.v (.bool false),.sl 1 []])]) (λx=>x<=l.length/\∀j,x<=j->l.getD j 0=0) (λx=>x) l.length ?_ ?_ ?_ (λx hx=>?_))
 all_goals(repeat'((try(conv=>whnf));first
  |(with_reducible first|refine aam ?_|refine aao ?_|refine aah (λ_=>?_) (λ_=>?_))|refine zat (λ_=>?_) (λ_=>?_)|refine aa2 ?_ ?_|(with_reducible refine aaB ?_ ?_)|apply zaq))
 all_goals(try apply zar)
 all_goals first|(show SubE _ _;repeat'(first|exact trivial|refine And.intro ?_ ?_))|(show SubB _ _;repeat'(first|exact trivial|refine And.intro ?_ ?_))|skip
 all_goals(try rfl)
 all_goals(try simp(disch:=omega) only[aN,qy,fB,xC,aT,bW,wu64,Ap,xK,QC,jO,jR]at *)
 all_goals first
  |(subst neg;exact sg1 hp hx (.inl ω) rfl (by simp only[vP];omega) rfl)|(subst neg;exact YU hp hx (.inl ω) rfl (by simp only[vP];omega))|(subst neg;exact sg1 hp hx (.inr ω) rfl (by simp only[vP];omega) rfl)|(subst neg;exact YU hp hx (.inr ω) rfl (by simp only[vP];omega))|exact⟨gW _,λj hj=>getD_none hj⟩|rfl|((conv=>whnf);exact⟨x-1,⟨⟨rfl,rfl,rfl,U1 ω ω,trivial⟩,⟨rfl,trivial⟩,⟨ω,pK hx.2 ω⟩,by show x-1<x;omega⟩⟩)|exact zaz⟩
instance SH(neg:Bool)(l:List Nat):DenI Tryz.prog 107 [.bool neg,.c (lmc l)] (Lb l) (Z (bH neg (val l))):=⟨λhp=>by
 refine aa7 ζ (λhl=>?_);simp only[acz,abX,cellsOf,aN,and_true,true_and]at hl
 all_goals refine aA Tryz.func107 rfl ?_
 all_goals(repeat'((try(conv=>whnf));first
  |refine aaj ?_|(with_reducible first|refine aam ?_|refine aao ?_)|refine zat (λ_=>?_) (λ_=>?_)|apply zaq))
 all_goals first
  |(subst neg;exact Yy hp (by rw[aN]))|(subst neg;exact Zf hp)⟩
instance SK(a b:List Nat):DenI Tryz.prog 198 [.c (lmc a),.c (lmc b)] (Lb a/\Lb b) (.int .i64 (dD (val a) (val b))):=⟨λhp=>by
 refine aa7 ζ (λhl=>?_);simp only[acz,abX,cellsOf,aN,and_true,true_and]at hl;have ha:=cO a;have hb:=cO b
 all_goals refine aA Tryz.func198 rfl ?_
 all_goals(repeat'((try(conv=>whnf));first
  |refine aaj ?_|(with_reducible first|refine aah (λ_=>?_) (λ_=>?_)|refine aav (λ_=>?_) (λ_=>?_))|apply zaq))
 all_goals first
  |((conv=>whnf);refine Sw.Loop.inv (α:=Nat) (λx=>[(0,.c (lmc (ah a))),(1,.c (lmc (ah b))),(5,.int .i64 ((x:Int)-1))]) (λx=>[]) (λx=>x<=(ah a).length/\∀j,x<=j->(ah a).getD j 0=(ah b).getD j 0) (λx=>x) ((ah a).length) ?_ ?_ ?_ (λx hx=>?_))|skip
 all_goals(repeat'((try(conv=>whnf));first
  |(with_reducible refine aah (λ_=>?_) (λ_=>?_))|refine zas ζ ?_|(with_reducible refine aaB ?_ ?_)|apply zaq))
 all_goals(try apply zar)
 all_goals first|(show SubE _ _;repeat'(first|exact trivial|refine And.intro ?_ ?_))|(show SubB _ _;repeat'(first|exact trivial|refine And.intro ?_ ?_))|skip
 all_goals(try rfl)
 all_goals(try simp(disch:=omega) only[aN,qy,fB,xC,aT,bW,wu64,Ap,xK,QC,jO,jR]at *)
 all_goals(try simp only[<-bJ a,<-bJ b])
 all_goals first
  |exact Ob (bM hp.1) (bM hp.2) ω|exact Oj (bM hp.1) (bM hp.2) ω|exact TP (bM hp.1) (bM hp.2) hx ω ω ω|exact UD (bM hp.1) (bM hp.2) hx ω ω ω|exact SX hx ω ω|exact Z7 ω|((conv=>whnf);exact⟨x-1,⟨⟨rfl,rfl,AU ω ω,trivial⟩,⟨⟩,⟨ω,agree_step hx.2 ω⟩,by show x-1<x;omega⟩⟩)|rfl|exact zaz⟩
instance Wi(a b:List Nat):DenI Tryz.prog 161 [.c (lmc a),.c (lmc b)] (a.length<=1000000000000/\b.length<=1000000000000/\Lb a/\Lb b) (.c (lmc (pad (a.length+b.length) (val a*val b)))):=⟨λhp=>by
 refine aa7 ζ (λhl=>?_);simp only[acz,abX,cellsOf,aN,and_true,true_and]at hl
 all_goals refine aA Tryz.func161 rfl ?_
 all_goals(repeat'((try(conv=>whnf));first
  |refine aaW ?_ ?_))
 all_goals(try apply zar)
 all_goals first
  |((conv=>whnf);refine Sw.Loop.inv (α:=List Nat×Nat) (λx=>[(1,.c (lmc b)),(5,.gs 17 (a.length+b.length)),(18,.c (lmc a)),(19,.int .i64 a.length),(20,.int .i64 (x.2:Nat))]) (λx=>[(17,.grow 154 1 (x.1.map λx=>[.v (u32 x)]))]) (λx=>x.2<=a.length/\x.1.length=a.length+b.length/\Lb x.1/\val (x.1.take (x.2+b.length))=val (a.take x.2)*val b) (λx=>a.length-x.2) (List.replicate (a.length+b.length) 0,0) ?_ ?_ ?_ (λx hx=>?_))|skip
 all_goals(repeat'((try(conv=>whnf));first
  |(with_reducible refine aah (λ_=>?_) (λ_=>?_))|refine aax ?_ ?_|(with_reducible refine aaB ?_ ?_)|apply zaq))
 all_goals(try apply zar)
 all_goals first
  |((conv=>whnf);refine Sw.Loop.inv (α:=List Nat×Nat×Nat) (λy=>[(1,.c (lmc b)),(5,.gs 17 (a.length+b.length)),(6,.int .i64 (x.2:Nat)),(7,.int .u32 (a.getD x.2 0:Nat)),(8,.int .u64 (y.2.1:Nat)),(18,.c (lmc a)),(19,.int .i64 a.length),(20,.int .i64 (x.2:Nat)),(25,.c (lmc b)),(26,.int .i64 b.length),(27,.int .i64 (y.2.2:Nat))]) (λy=>[(17,.grow 154 1 (y.1.map λx=>[.v (u32 x)]))]) (λy=>y.2.2<=b.length/\y.1.length=a.length+b.length/\Lb y.1/\y.2.1<1000000000/\val (y.1.take (x.2+b.length))+1000000000^(x.2+y.2.2)*y.2.1=val (a.take x.2)*val b+1000000000^x.2*(a.getD x.2 0*val (b.take y.2.2))) (λy=>b.length-y.2.2) (x.1,0,0) ?_ ?_ ?_ (λy hy=>?_))|skip
 all_goals(repeat'((try(conv=>whnf));first
  |(with_reducible refine aah (λ_=>?_) (λ_=>?_))|refine aax ?_ ?_|(with_reducible refine aaB ?_ ?_)))
 all_goals(try apply zar)
 all_goals first|(show SubE _ _;repeat'(first|exact trivial|refine And.intro ?_ ?_))|(show SubB _ _;repeat'(first|exact trivial|refine And.intro ?_ ?_))|skip
 all_goals(try rfl)
 all_goals(try simp(disch:=omega) only[aN,xC,fB,aT,yO]at *)
 all_goals first
  |omega|rfl|exact vO _ _|exact⟨ω,η,iQ _,KW _ _ _ _⟩|exact⟨ω,hx.2.1,hx.2.2.1,ω,by simp[val,hx.2.2.2]⟩|exact QV hx.2.2.1 hx.2.1 (EL hx.2.1 ω hx.2.2.2)|(have ga:=hp.2.2.1.getD x.2;have gb:=hp.2.2.2.getD y.2.2;have go:=hy.2.2.1.getD (x.2+y.2.2);obtain⟨c1,c2⟩:=xR ga gb go hy.2.2.2.1;obtain⟨h1,h2,h3,h4,h5⟩:=hy;(conv=>whnf);exact⟨(y.1.set (x.2+y.2.2) ((y.1.getD (x.2+y.2.2) 0+a.getD x.2 0*b.getD y.2.2 0+y.2.1)%1000000000),(y.1.getD (x.2+y.2.2) 0+a.getD x.2 0*b.getD y.2.2 0+y.2.1)/1000000000,y.2.2+1),⟨⟨rfl,rfl,rfl,rfl,iS (by(try simp(disch:=omega) only[bW,wu64,aT,jO,jR,yO])<;>omega),rfl,rfl,rfl,rfl,rfl,aK ω,trivial⟩,⟨Bc (by(try simp(disch:=omega) only[bW,wu64,aT,jO,jR,yO])<;>omega) (by(try simp(disch:=omega) only[bW,wu64,aT,jO,jR,yO])<;>omega),trivial⟩,⟨by show y.2.2+1<=_;omega,by simp only[Hg];exact h2,dN h3 (oO _ ψ),c2,sO ω ω h5 rfl rfl rfl⟩,by show _-(y.2.2+1)<_-y.2.2;omega⟩⟩)|(obtain⟨h1,h2,h3,h4,h5⟩:=hy;(conv=>whnf);exact⟨(y.1.set (x.2+b.length) y.2.1,x.2+1),⟨⟨rfl,rfl,rfl,rfl,aK ω,trivial⟩,⟨Bc (by(try simp(disch:=omega) only[bW,wu64,aT,jO,jR,yO])<;>omega) (by(try simp(disch:=omega) only[bW,wu64,aT,jO,jR,yO])<;>omega),trivial⟩,⟨by show x.2+1<=_;omega,by simp only[Hg];exact h2,dN h3 h4,uq ω (by rw[show y.2.2=b.length by omega]at h5;exact h5)⟩,by show _-(x.2+1)<_-x.2;omega⟩⟩)⟩
instance UH(n:Nat):DenI Tryz.prog 117 [.int .u64 (n:Nat)] (n<18446744073709551616) (.c (lmc (lim n))):=⟨λhp=>by
 refine aa7 ζ (λhl=>?_);simp only[acz,abX,cellsOf,aN,and_true,true_and]at hl
 all_goals refine aA Tryz.func117 rfl ?_
 all_goals first
  |((conv=>whnf);refine Sw.Loop.ghost 3 11 154 1 ?_ rfl rfl rfl ψ)
 all_goals first
  |((conv=>whnf);refine Sw.Loop.inv (α:=List Nat×Nat) (λx=>[(0,.int .u64 (x.2:Nat)),(3,.gs 11 x.1.length)]) (λx=>[(11,.grow 154 1 (x.1.map λx=>[.v (u32 x)]))]) (λx=>x.2<=n/\lim n=x.1++lim x.2) (λx=>x.2) ([],n) ?_ ?_ ?_ (λx hx=>?_))
 all_goals(repeat'((try(conv=>whnf));first
  |(with_reducible refine aah (λ_=>?_) (λ_=>?_))|refine aax ?_ ?_|apply zaq))
 all_goals(try apply zar)
 all_goals first|(show SubE _ _;repeat'(first|exact trivial|refine And.intro ?_ ?_))|(show SubB _ _;repeat'(first|exact trivial|refine And.intro ?_ ?_))|skip
 all_goals(try rfl)
 all_goals(try simp only[aN,xC,fB]at *)
 all_goals first
  |omega|exact⟨gW _,rfl⟩|exact Fp hx ω|(have:=FC hp hx ω;simp only[dY,aN,dK,dZ];omega)|(have h2:=hx.1;((conv=>whnf);exact⟨(x.1++[x.2%1000000000],x.2/1000000000),⟨⟨iS (by(try simp(disch:=omega) only[bW,wu64,aT,jO,jR,xK,yO,Jb,Gh,GU,IK,IL])<;>omega),UY η,trivial⟩,⟨yJ (by(try simp(disch:=omega) only[bW,wu64,aT,jO,jR,xK,yO,Jb,Gh,GU,IK,IL])<;>omega),trivial⟩,(Bo hx ω),by show x.2/1000000000<x.2;omega⟩⟩))⟩
instance V8(n:Nat):DenI Tryz.prog 196 [.int .u64 (n:Nat)] (n<18446744073709551616) (.c (lmc (pad 3 n))):=⟨λhp=>by
 refine aa7 ζ (λhl=>?_);simp only[acz,abX,cellsOf,aN,and_true,true_and]at hl
 all_goals refine aA Tryz.func196 rfl ?_
 all_goals(repeat'((try(conv=>whnf));first
  |refine aax ?_ ?_|apply zaq))
 all_goals(try apply zar)
 all_goals first
  |omega|exact Ei ω (by(try simp(disch:=omega) only[bW,wu64,aT,jO,jR,xK,yO,Jb,Gh,GU,IK,IL])<;>omega) (by(try simp(disch:=omega) only[bW,wu64,aT,jO,jR,xK,yO,Jb,Gh,GU,IK,IL])<;>omega) (by(try simp(disch:=omega) only[bW,wu64,aT,jO,jR,xK,yO,Jb,Gh,GU,IK,IL])<;>omega)⟩
instance WV(a:Int):DenI Tryz.prog 195 [Z a] (True) (.tup [.int .u64 ((if sz a<=2 then a.natAbs else 0:Nat):Int),.bool (decide (sz a<=2))]):=⟨λhp=>by
 refine aa7 ζ (λhl=>?_);simp only[acz,abX,cellsOf,aN,and_true,true_and]at hl
 all_goals refine aA Tryz.func195 rfl ?_
 all_goals(repeat'((try(conv=>whnf));first
  |(with_reducible refine aah (λ_=>?_) (λ_=>?_))|refine zas ζ ?_|(with_reducible refine aaB ?_ ?_)|apply zaq))
 all_goals(try apply zar)
 all_goals(try simp only[aN,xC,fB]at *)
 all_goals(have g0:=(aV a.natAbs).getD 0;have g1:=(aV a.natAbs).getD 1)
 all_goals first
  |omega|exact RJ ω|exact QL ω (by(try simp(disch:=omega) only[bW,wu64,aT,jO,jR,xK,yO,Jb,Gh,GU,IK,IL])<;>omega)|exact PX ω (by(try simp(disch:=omega) only[bW,wu64,aT,jO,jR,xK,yO,Jb,Gh,GU,IK,IL])<;>omega)|exact Qe ω⟩
instance S9(a:List Nat)(b:Nat):DenI Tryz.prog 231 [.c (lmc a),.int .u32 (b:Nat)] (a.length<=1000000000000/\Lb a/\0<b/\b<1000000000) (.tup [.c (lmc (pad a.length (val a / b))),.c (lmc [val a % b])]):=⟨λhp=>by
 refine aa7 ζ (λhl=>?_);simp only[acz,abX,cellsOf,aN,and_true,true_and]at hl
 all_goals refine aA Tryz.func231 rfl ?_
 all_goals(repeat'((try(conv=>whnf));first
  |refine aaW ?_ ?_))
 all_goals(try apply zar)
 all_goals first
  |((conv=>whnf);refine Sw.Loop.inv (α:=List Nat×Nat×Nat) (λx=>[(0,.c (lmc a)),(1,.int .u32 (b:Nat)),(6,.gs 12 a.length),(7,.int .u64 (x.2.1:Nat)),(8,.int .i64 ((x.2.2:Int)-1))]) (λx=>[(12,.grow 154 1 (x.1.map λx=>[.v (u32 x)]))]) (λx=>x.2.2<=a.length/\x.1.length=a.length/\Lb x.1/\x.2.1<b/\val (a.drop x.2.2)=b*val (x.1.drop x.2.2)+x.2.1) (λx=>x.2.2) (List.replicate a.length 0,0,a.length) ?_ ?_ ?_ (λx hx=>?_))|skip
 all_goals(repeat'((try(conv=>whnf));first
  |(with_reducible refine aah (λ_=>?_) (λ_=>?_))|refine aax ?_ ?_|refine zas ζ ?_|(with_reducible refine aaB ?_ ?_)|apply zaq))
 all_goals(try apply zar)
 all_goals first|(show SubE _ _;repeat'(first|exact trivial|refine And.intro ?_ ?_))|(show SubB _ _;repeat'(first|exact trivial|refine And.intro ?_ ?_))|skip
 all_goals(try rfl)
 all_goals(try simp(disch:=omega) only[aN,qy,fB,xC,aT,bW,wu64,Ap,xK,QC,jO,jR]at *)
 all_goals first
  |omega|rfl|exact vO _ _|exact⟨ω,η,iQ _,ω,by rw[iC (gW _),iC η];simp⟩|(have h2:=hx.2.2.2.2;rw[show x.2.2=0 by omega]at h2;exact KL hp.2.2.1 hx.2.2.2.1 hx.2.1 hx.2.2.1 h2)|(have ga:=hp.2.1.getD (x.2.2-1);have c4:=Int.natCast_nonneg ((x.2.1*1000000000+a.getD (x.2.2-1) 0)/b);obtain⟨c1,c2,c3⟩:=EM hx.2.2.2.1 hp.2.2.2 ga (t:=_) rfl;obtain⟨h1,h2,h3,h4,h5⟩:=hx;((conv=>whnf);exact⟨(x.1.set (x.2.2-1) ((x.2.1*1000000000+a.getD (x.2.2-1) 0)/b),(x.2.1*1000000000+a.getD (x.2.2-1) 0)%b,x.2.2-1),⟨⟨rfl,rfl,rfl,iS (by(try simp(disch:=omega) only[bW,wu64,aT,jO,jR,xK,yO,Jb,Gh,GU,IK,IL])<;>omega),AU ω ω,trivial⟩,⟨Bc (by(try simp(disch:=omega) only[bW,wu64,aT,jO,jR,xK,yO,Jb,Gh,GU,IK,IL])<;>omega) (by(try simp(disch:=omega) only[bW,wu64,aT,jO,jR,xK,yO,Jb,Gh,GU,IK,IL])<;>omega),trivial⟩,⟨by show x.2.2-1<=_;omega,by simp only[Hg];exact h2,dN h3 c1,c2,yw ω h1 ω h5 rfl rfl⟩,by show x.2.2-1<x.2.2;omega⟩⟩))⟩
instance UE(a b:List Nat):DenI Tryz.prog 144 [.c (lmc a),.c (lmc b)] (a.length<=1000000000000/\b.length<=1000000000000/\Lb a/\Lb b/\b.length<=a.length/\val b<=val a) (.c (lmc (lim (val a-val b)))):=⟨λhp=>by
 refine aa7 ζ (λhl=>?_);simp only[acz,abX,cellsOf,aN,and_true,true_and]at hl
 all_goals refine aA Tryz.func144 rfl ?_
 all_goals(repeat'((try(conv=>whnf));first
  |refine aaW ?_ ?_))
 all_goals(try apply zar)
 all_goals first
  |((conv=>whnf);refine Sw.Loop.inv (α:=List Nat×Nat×Nat) (λx=>[(0,.c (lmc a)),(1,.c (lmc b)),(5,.gs 11 a.length),(6,.int .u32 (x.2.1:Nat)),(7,.int .i64 (x.2.2:Nat))]) (λx=>[(11,.grow 154 1 (x.1.map λx=>[.v (u32 x)]))]) (λx=>x.2.2<=a.length/\x.1.length=a.length/\Lb x.1/\x.2.1<=1/\val (x.1.take x.2.2)+val (b.take x.2.2)=val (a.take x.2.2)+1000000000^x.2.2*x.2.1) (λx=>a.length-x.2.2) (List.replicate a.length 0,0,0) ?_ ?_ ?_ (λx hx=>?_))|skip
 all_goals(repeat'((try(conv=>whnf));first
  |refine aaj ?_|(with_reducible refine aah (λ_=>?_) (λ_=>?_))|refine aax ?_ ?_|(with_reducible refine aaB ?_ ?_)|apply zaq))
 all_goals(try apply zar)
 all_goals first|(show SubE _ _;repeat'(first|exact trivial|refine And.intro ?_ ?_))|(show SubB _ _;repeat'(first|exact trivial|refine And.intro ?_ ?_))|skip
 all_goals(try rfl)
 all_goals(try simp only[aN,xC,fB]at *)
 all_goals first
  |omega|rfl|exact vO _ _|exact⟨ω,η,iQ _,ω,by simp[val]⟩|exact EF hx.2.2.1 hp.2.2.1 hx.2.1 ω hp.2.2.2.2.1 hp.2.2.2.2.2 hx.2.2.2.2|(obtain⟨h1,h2,h3,h4,h5⟩:=hx;have ga:=hp.2.2.1.getD x.2.2;have gb:=hp.2.2.2.1.getD x.2.2;have gz:=getD_none (l:=b) (k:=x.2.2) ω;(try simp(disch:=omega) only[bW]at *);(conv=>whnf);exact⟨(x.1.set x.2.2 ((a.getD x.2.2 0+1000000000-x.2.1-b.getD x.2.2 0)%1000000000),1-(a.getD x.2.2 0+1000000000-x.2.1-b.getD x.2.2 0)/1000000000,x.2.2+1),⟨⟨rfl,rfl,rfl,iS (by(try simp(disch:=omega) only[bW,wu64,aT,jO,jR])<;>omega),aK ω,trivial⟩,⟨Bc rfl (by(try simp(disch:=omega) only[bW,wu64,aT,jO,jR])<;>omega),trivial⟩,⟨by show x.2.2+1<=_;omega,by simp only[Hg];exact h2,dN h3 (oO _ ψ),by show 1-_/1000000000<=1;omega,jS ω h5 (by dsimp only;omega)⟩,by show _-(x.2.2+1)<_-x.2.2;omega⟩⟩)|(obtain⟨h1,h2,h3,h4,h5⟩:=hx;have ga:=hp.2.2.1.getD x.2.2;have gb:=hp.2.2.2.1.getD x.2.2;(try simp(disch:=omega) only[bW]at *);(conv=>whnf);exact⟨(x.1.set x.2.2 ((a.getD x.2.2 0+1000000000-x.2.1-b.getD x.2.2 0)%1000000000),1-(a.getD x.2.2 0+1000000000-x.2.1-b.getD x.2.2 0)/1000000000,x.2.2+1),⟨⟨rfl,rfl,rfl,iS (by(try simp(disch:=omega) only[bW,wu64,aT,jO,jR])<;>omega),aK ω,trivial⟩,⟨Bc rfl (by(try simp(disch:=omega) only[bW,wu64,aT,jO,jR])<;>omega),trivial⟩,⟨by show x.2.2+1<=_;omega,by simp only[Hg];exact h2,dN h3 (oO _ ψ),by show 1-_/1000000000<=1;omega,jS ω h5 (by dsimp only;omega)⟩,by show _-(x.2.2+1)<_-x.2.2;omega⟩⟩)⟩
instance V9(a b:List Nat):DenI Tryz.prog 236 [.c (lmc a),.c (lmc b)] (a.length<=1000000000000/\b.length<=1000000000000/\Lb a/\Lb b/\b.length<=a.length/\val b<=val a) (.c (lmc (pad a.length (val a-val b)))):=⟨λhp=>by
 refine aa7 ζ (λhl=>?_);simp only[acz,abX,cellsOf,aN,and_true,true_and]at hl
 all_goals refine aA Tryz.func236 rfl ?_
 all_goals(repeat'((try(conv=>whnf));first
  |refine aaW ?_ ?_))
 all_goals(try apply zar)
 all_goals first
  |((conv=>whnf);refine Sw.Loop.inv (α:=List Nat×Nat×Nat) (λx=>[(1,.c (lmc b)),(5,.gs 12 a.length),(6,.int .u32 (x.2.1:Nat)),(13,.c (lmc a)),(14,.int .i64 a.length),(15,.int .i64 (x.2.2:Nat))]) (λx=>[(12,.grow 154 1 (x.1.map λx=>[.v (u32 x)]))]) (λx=>x.2.2<=a.length/\x.1.length=a.length/\Lb x.1/\x.2.1<=1/\val (x.1.take x.2.2)+val (b.take x.2.2)=val (a.take x.2.2)+1000000000^x.2.2*x.2.1) (λx=>a.length-x.2.2) (List.replicate a.length 0,0,0) ?_ ?_ ?_ (λx hx=>?_))|skip
 all_goals(repeat'((try(conv=>whnf));first
  |(with_reducible refine aah (λ_=>?_) (λ_=>?_))|refine aax ?_ ?_|(with_reducible refine aaB ?_ ?_)|apply zaq))
 all_goals(try apply zar)
 all_goals first|(show SubE _ _;repeat'(first|exact trivial|refine And.intro ?_ ?_))|(show SubB _ _;repeat'(first|exact trivial|refine And.intro ?_ ?_))|skip
 all_goals(try rfl)
 all_goals(try simp only[aN,xC,fB]at *)
 all_goals first
  |omega|rfl|exact vO _ _|(obtain⟨h1,h2,h3,h4,h5⟩:=hx;have ga:=hp.2.2.1.getD x.2.2;have gb:=hp.2.2.2.1.getD x.2.2;have gz:=getD_none (l:=b) (k:=x.2.2) ω;(try simp(disch:=omega) only[bW]at *);(conv=>whnf);exact⟨(x.1.set x.2.2 ((a.getD x.2.2 0+1000000000-x.2.1-b.getD x.2.2 0)%1000000000),1-(a.getD x.2.2 0+1000000000-x.2.1-b.getD x.2.2 0)/1000000000,x.2.2+1),⟨⟨rfl,rfl,iS (by(try simp(disch:=omega) only[bW,wu64,aT,jO,jR])<;>omega),rfl,rfl,aK ω,trivial⟩,⟨Bc rfl (by(try simp(disch:=omega) only[bW,wu64,aT,jO,jR])<;>omega),trivial⟩,⟨by show x.2.2+1<=_;omega,by simp only[Hg];exact h2,dN h3 (oO _ ψ),by show 1-_/1000000000<=1;omega,jS ω h5 (by dsimp only;omega)⟩,by show _-(x.2.2+1)<_-x.2.2;omega⟩⟩)|(obtain⟨h1,h2,h3,h4,h5⟩:=hx;have ga:=hp.2.2.1.getD x.2.2;have gb:=hp.2.2.2.1.getD x.2.2;(try simp(disch:=omega) only[bW]at *);(conv=>whnf);exact⟨(x.1.set x.2.2 ((a.getD x.2.2 0+1000000000-x.2.1-b.getD x.2.2 0)%1000000000),1-(a.getD x.2.2 0+1000000000-x.2.1-b.getD x.2.2 0)/1000000000,x.2.2+1),⟨⟨rfl,rfl,iS (by(try simp(disch:=omega) only[bW,wu64,aT,jO,jR])<;>omega),rfl,rfl,aK ω,trivial⟩,⟨Bc rfl (by(try simp(disch:=omega) only[bW,wu64,aT,jO,jR])<;>omega),trivial⟩,⟨by show x.2.2+1<=_;omega,by simp only[Hg];exact h2,dN h3 (oO _ ψ),by show 1-_/1000000000<=1;omega,jS ω h5 (by dsimp only;omega)⟩,by show _-(x.2.2+1)<_-x.2.2;omega⟩⟩)|exact⟨ω,η,iQ _,ω,by simp[val]⟩|exact QV hx.2.2.1 hx.2.1 (uI hx.2.2.1 hp.2.2.1 hx.2.1 ω hp.2.2.2.2.1 hp.2.2.2.2.2 hx.2.2.2.2)⟩
instance XE(a b:List Nat):DenI Tryz.prog 235 [.c (lmc a),.c (lmc b)] (a.length<=1000000000000/\b.length<=1000000000000/\Lb a/\Lb b) (.c (lmc (pad (max a.length b.length+1) (val a+val b)))):=⟨λhp=>by
 refine aa7 ζ (λhl=>?_);simp only[acz,abX,cellsOf,aN,and_true,true_and]at hl
 all_goals refine aA Tryz.func235 rfl ?_
 all_goals(repeat'((try(conv=>whnf));first
  |(with_reducible refine aah (λ_=>?_) (λ_=>?_))|refine aaW ?_ ?_))
 all_goals(try apply zar)
 all_goals(try simp(disch:=omega) only[aN,qy,fB,xC,aT,bW,wu64,Ap,xK,QC,jO,jR]at *)
 all_goals first
  |(have hh:b.length<=a.length:=ω;(conv=>whnf);refine Sw.Loop.inv (α:=List Nat×Nat×Nat) (λx=>[(1,.c (lmc b)),(5,.gs 19 x.1.length),(6,.int .u32 (x.2.1:Nat)),(20,.c (lmc a)),(21,.int .i64 a.length),(22,.int .i64 (x.2.2:Nat))]) (λx=>[(19,.grow 154 1 (x.1.map λx=>[.v (u32 x)]))]) (λx=>x.2.2<=a.length/\x.1.length=x.2.2/\Lb x.1/\x.2.1<=1/\val x.1+1000000000^x.2.2*x.2.1=val (a.take x.2.2)+val (b.take x.2.2)) (λx=>a.length-x.2.2) ([],0,0) ?_ ?_ ?_ (λx hx=>?_))|(have hh:a.length<=b.length:=ω;(conv=>whnf);refine Sw.Loop.inv (α:=List Nat×Nat×Nat) (λx=>[(1,.c (lmc a)),(5,.gs 19 x.1.length),(6,.int .u32 (x.2.1:Nat)),(20,.c (lmc b)),(21,.int .i64 b.length),(22,.int .i64 (x.2.2:Nat))]) (λx=>[(19,.grow 154 1 (x.1.map λx=>[.v (u32 x)]))]) (λx=>x.2.2<=b.length/\x.1.length=x.2.2/\Lb x.1/\x.2.1<=1/\val x.1+1000000000^x.2.2*x.2.1=val (b.take x.2.2)+val (a.take x.2.2)) (λx=>b.length-x.2.2) ([],0,0) ?_ ?_ ?_ (λx hx=>?_))|skip
 all_goals(repeat'((try(conv=>whnf));first
  |(with_reducible refine aah (λ_=>?_) (λ_=>?_))|refine aax ?_ ?_|(with_reducible refine aaB ?_ ?_)|apply zaq))
 all_goals(try apply zar)
 all_goals first|(show SubE _ _;repeat'(first|exact trivial|refine And.intro ?_ ?_))|(show SubB _ _;repeat'(first|exact trivial|refine And.intro ?_ ?_))|skip
 all_goals(try rfl)
 all_goals(try simp only[aN,xC,fB]at *)
 all_goals first
  |omega|rfl|(obtain⟨h1,h2,h3,h4,h5⟩:=hx;have ga:=hp.2.2.1.getD x.2.2;have gb:=hp.2.2.2.getD x.2.2;have gz:=getD_none (l:=b) (k:=x.2.2) ω;(try simp(disch:=omega) only[bW]at *);(conv=>whnf);exact⟨(x.1++[(x.2.1+a.getD x.2.2 0+b.getD x.2.2 0)%1000000000],(x.2.1+a.getD x.2.2 0+b.getD x.2.2 0)/1000000000,x.2.2+1),⟨⟨rfl,UY η,iS (by(try simp(disch:=omega) only[bW,wu64,aT,jO,jR])<;>omega),rfl,rfl,aK ω,trivial⟩,⟨yJ (by(try simp(disch:=omega) only[bW,wu64,aT,jO,jR])<;>omega),trivial⟩,⟨by show x.2.2+1<=_;omega,by simp only[dY,dK,dZ];omega,jY h3 (oO _ ψ),by show _/1000000000<=1;omega,lI h2 h5 rfl rfl rfl⟩,by show _-(x.2.2+1)<_-x.2.2;omega⟩⟩)|(obtain⟨h1,h2,h3,h4,h5⟩:=hx;have ga:=hp.2.2.1.getD x.2.2;have gb:=hp.2.2.2.getD x.2.2;(try simp(disch:=omega) only[bW]at *);(conv=>whnf);exact⟨(x.1++[(x.2.1+a.getD x.2.2 0+b.getD x.2.2 0)%1000000000],(x.2.1+a.getD x.2.2 0+b.getD x.2.2 0)/1000000000,x.2.2+1),⟨⟨rfl,UY η,iS (by(try simp(disch:=omega) only[bW,wu64,aT,jO,jR])<;>omega),rfl,rfl,aK ω,trivial⟩,⟨yJ (by(try simp(disch:=omega) only[bW,wu64,aT,jO,jR])<;>omega),trivial⟩,⟨by show x.2.2+1<=_;omega,by simp only[dY,dK,dZ];omega,jY h3 (oO _ ψ),by show _/1000000000<=1;omega,lI h2 h5 rfl rfl rfl⟩,by show _-(x.2.2+1)<_-x.2.2;omega⟩⟩)|(obtain⟨h1,h2,h3,h4,h5⟩:=hx;have ga:=hp.2.2.2.getD x.2.2;have gb:=hp.2.2.1.getD x.2.2;have gz:=getD_none (l:=a) (k:=x.2.2) ω;(try simp(disch:=omega) only[bW]at *);(conv=>whnf);exact⟨(x.1++[(x.2.1+b.getD x.2.2 0+a.getD x.2.2 0)%1000000000],(x.2.1+b.getD x.2.2 0+a.getD x.2.2 0)/1000000000,x.2.2+1),⟨⟨rfl,UY η,iS (by(try simp(disch:=omega) only[bW,wu64,aT,jO,jR])<;>omega),rfl,rfl,aK ω,trivial⟩,⟨yJ (by(try simp(disch:=omega) only[bW,wu64,aT,jO,jR])<;>omega),trivial⟩,⟨by show x.2.2+1<=_;omega,by simp only[dY,dK,dZ];omega,jY h3 (oO _ ψ),by show _/1000000000<=1;omega,lI h2 h5 rfl rfl rfl⟩,by show _-(x.2.2+1)<_-x.2.2;omega⟩⟩)|(obtain⟨h1,h2,h3,h4,h5⟩:=hx;have ga:=hp.2.2.2.getD x.2.2;have gb:=hp.2.2.1.getD x.2.2;(try simp(disch:=omega) only[bW]at *);(conv=>whnf);exact⟨(x.1++[(x.2.1+b.getD x.2.2 0+a.getD x.2.2 0)%1000000000],(x.2.1+b.getD x.2.2 0+a.getD x.2.2 0)/1000000000,x.2.2+1),⟨⟨rfl,UY η,iS (by(try simp(disch:=omega) only[bW,wu64,aT,jO,jR])<;>omega),rfl,rfl,aK ω,trivial⟩,⟨yJ (by(try simp(disch:=omega) only[bW,wu64,aT,jO,jR])<;>omega),trivial⟩,⟨by show x.2.2+1<=_;omega,by simp only[dY,dK,dZ];omega,jY h3 (oO _ ψ),by show _/1000000000<=1;omega,lI h2 h5 rfl rfl rfl⟩,by show _-(x.2.2+1)<_-x.2.2;omega⟩⟩)|exact⟨ω,rfl,Lb.nil,ω,by simp[val]⟩|(simp only[aN,dY,dK,dZ];omega)|(refine Ua hx.2.2.1 ω ω ?_;have h5:=hx.2.2.2.2;rw[aO (l:=a) ω,aO (l:=b) ω]at h5;rw[hx.2.1];omega)⟩
end Go.Proofs.YtmniihkenijjpaaGreatDoor
namespace Go.Sw
open Go
theorem H7{n:Int}(h:0<=n)(h2:n<=9223372036854775807):IntKind.u64.wrap n=((n.natAbs:Nat):Int):=by rw[IntKind.wrap_u64];omega
theorem JE{n:Int}(h:n<0)(h2 : -9223372036854775808<=n):IntKind.u64.wrap (0-IntKind.u64.wrap n)=((n.natAbs:Nat):Int):=by rw[IntKind.wrap_u64,IntKind.wrap_u64];omega
theorem KR{x y:Int}(h:x=y):aai [Z x]=Z y:=by rw[h];rfl
theorem IQ{a b qs rs:List Nat}(h4:Lb qs)(h5:Lb rs)(h6:val a=val b*val qs+val rs)(h7:val rs<val b)(h8:qs.length=KE a b)(h9:rs.length=Hr a b):qs=pad (KE a b) (val a/val b)/\rs=pad (Hr a b) (val a%val b):=by
 have h1:val a/val b=val qs:=by rw[h6,wU,Nat.add_comm,Nat.add_mul_div_right _ _ ω,Nat.div_eq_of_lt h7,nU]
 have h2:val a%val b=val rs:=by rw[h6,Nat.mul_add_mod,EH h7]
 rw[h1,h2,<-h8,<-h9];exact⟨qW _ h4,qW _ h5⟩
section
variable {a b:Int}
theorem Tf(h:(((lim a.natAbs).length:Nat):Int)=0):aai [AV.c (Cell.v (.int .i64 0))]=AV.int .i64 (fD a):=iE (by have:=aY (n:=a.natAbs);unfold fD;repeat' split;all_goals omega)
theorem UQ(h:a<0):aai [AV.c (Cell.v (.int .i64 (-1)))]=AV.int .i64 (fD a):=iE (by unfold fD;repeat' split;all_goals omega)
theorem Tv(h:¬a<0)(h2:(((lim a.natAbs).length:Nat):Int)>0):aai [AV.c (Cell.v (.int .i64 1))]=AV.int .i64 (fD a):=iE (by have:=aY (n:=a.natAbs);unfold fD;repeat' split;all_goals omega)
theorem Tq(h:(decide (a<0) != decide (b<0))=true)(ha:a<0):aai [AV.c (Cell.v (.int .i64 (-1)))]=AV.int .i64 (fC a b):=iE (by have hb:¬b<0:=(λhb=>by simp[ha,hb]at h);rw[MX ω])
theorem VI(h:(decide (a<0) != decide (b<0))=true)(ha:¬a<0):aai [AV.c (Cell.v (.int .i64 1))]=AV.int .i64 (fC a b):=iE (by have hb:b<0:=Decidable.byContradiction (λhb=>by simp[ha,hb]at h);rw[Oe ω])
theorem Tt(h:(decide (a<0) != decide (b<0))=false)(ha:a<0):aai [AV.c (Cell.v (.int .i64 (dD (val (lim b.natAbs)) (val (lim a.natAbs)))))]=AV.int .i64 (fC a b) :=
 iE (by rw[au,au,JO ha (Decidable.byContradiction λhb=>by simp[ha,hb]at h)])
theorem TJ(h:(decide (a<0) != decide (b<0))=false)(ha:¬a<0):aai [AV.c (Cell.v (.int .i64 (dD (val (lim a.natAbs)) (val (lim b.natAbs)))))]=AV.int .i64 (fC a b) :=
 iE (by rw[au,au,Hu ha (λhb=>by simp[ha,hb]at h)])
theorem U8(h:(decide (a<0) == decide (b<0))=true):decide (a<0)=decide (b<0):=by simpa using h
theorem O5(h:(decide (a<0) == decide (b<0))=false):¬decide (a<0)=decide (b<0):=by simpa using h
theorem Vm:aai [Z (bH (!decide (a<0)) (val (lim a.natAbs)))]=Z (-a):=KR (by rw[au];exact FX a)
theorem Uj:aai [Z (bH (decide (a<0) != decide (b<0)) (val (pad ((lim a.natAbs).length+(lim b.natAbs).length) (val (lim a.natAbs)*val (lim b.natAbs)))))]=Z (a*b):=KR (by
 rw[gU _ _ (by rw[Nat.pow_add];exact Nat.mul_lt_mul'' (bV _ (aV _)) (bV _ (aV _))),au,au];exact Iw a b)
theorem SY(h:(decide (a<0) == decide (b<0))=true):aai [Z (bH (decide (a<0)) (val (pad (max (lim a.natAbs).length (lim b.natAbs).length+1) (val (lim a.natAbs)+val (lim b.natAbs)))))]=Z (a+b):=KR (by
 have h1:=bV _ (aV a.natAbs);have h2:=bV _ (aV b.natAbs);have h3:=xM (n:=1000000000) ψ (Nat.le_max_left (lim a.natAbs).length (lim b.natAbs).length);have h4:=xM (n:=1000000000) ψ (Nat.le_max_right (lim a.natAbs).length (lim b.natAbs).length)
 rw[gU _ _ (by rw[uK];omega),au,au];exact Js (U8 h))
theorem TU(h:(decide (a<0) == decide (b<0))=false)(h2:¬dD (val (lim a.natAbs)) (val (lim b.natAbs))<0):aai [Z (bH (decide (a<0)) (val (pad (lim a.natAbs).length (val (lim a.natAbs)-val (lim b.natAbs)))))]=Z (a+b):=KR (by
 have h1:=bV _ (aV a.natAbs);rw[gU _ _ ω]
 rw[au,au]at h2 ⊢;exact xX (O5 h) (xZ.1 ω))
theorem Tz(h:(decide (a<0) == decide (b<0))=false)(h2:dD (val (lim a.natAbs)) (val (lim b.natAbs))<0):aai [Z (bH (decide (b<0)) (val (pad (lim b.natAbs).length (val (lim b.natAbs)-val (lim a.natAbs)))))]=Z (a+b):=KR (by
 have h1:=bV _ (aV b.natAbs);rw[gU _ _ ω]
 rw[au,au]at h2 ⊢;rw[Int.add_comm];exact xX (λe=>O5 h e.symm) (by have:=nD.1 h2;omega))
theorem IY(h1:sz a<=1000000000)(h2:sz b<=1000000000)(h:b.natAbs<=a.natAbs):(lim a.natAbs).length<=1000000000000/\(lim b.natAbs).length<=1000000000000/\Lb (lim a.natAbs)/\Lb (lim b.natAbs)/\(lim b.natAbs).length<=(lim a.natAbs).length/\val (lim b.natAbs)<=val (lim a.natAbs):=by
 unfold sz at h1 h2;exact⟨ω,ω,aV _,aV _,jT h,by rw[au,au];exact h⟩
theorem Jl(h1:sz a<=1000000000)(h2:sz b<=1000000000):(lim a.natAbs).length<=1000000000000/\(lim b.natAbs).length<=1000000000000/\Lb (lim a.natAbs)/\Lb (lim b.natAbs):=by
 unfold sz at h1 h2;exact⟨ω,ω,aV _,aV _⟩
theorem Qv(h:¬b<0):AV.agg [Cell.v (.bool (decide ((((lim b.natAbs).map λx=>[Cell.v (u32 x)]).length:Int)>0))),zl b]=Z (-b):=by
 show _=AV.agg [zs (-b),zl (-b)];unfold zs zl;have:=aY (n:=b.natAbs);rw[Int.natAbs_neg,aN,show decide ((((lim b.natAbs).length:Nat):Int)>0)=decide (-b<0) by rw[decide_eq_decide];omega]
theorem RS(h:b<0):AV.agg [Cell.v (.bool false),zl b]=Z (-b):=by
 show _=AV.agg [zs (-b),zl (-b)];unfold zs zl;rw[Int.natAbs_neg,decide_eq_false (show¬-b<0 by omega)]
theorem Vs(h:fC a (-9223372036854775808)<0):aai [AV.c (Cell.v (.int .i64 0)),AV.c (Cell.v (.bool false))]=AV.tup [.int .i64 (if -9223372036854775808<=a/\a<=9223372036854775807 then a else 0),.bool (decide (-9223372036854775808<=a/\a<=9223372036854775807))]:=by
 have:=sG.1 h;rw[if_neg ω,decide_eq_false ω];rfl
theorem VG(h:fC a 9223372036854775807>0):aai [AV.c (Cell.v (.int .i64 0)),AV.c (Cell.v (.bool false))]=AV.tup [.int .i64 (if -9223372036854775808<=a/\a<=9223372036854775807 then a else 0),.bool (decide (-9223372036854775808<=a/\a<=9223372036854775807))]:=by
 have:=rY.1 h;rw[if_neg ω,decide_eq_false ω];rfl
theorem TN(h:¬fC a (-9223372036854775808)<0)(h2:¬fC a 9223372036854775807>0):-9223372036854775808<=a/\a<=9223372036854775807:=by
 have h3:=mt sG.2 h;have h4:=mt rY.2 h2;omega
theorem U4{x:Int}(hb : -9223372036854775808<=a/\a<=9223372036854775807)(hx:x=a):aai [AV.c (Cell.v (.int .i64 x)),AV.c (Cell.v (.bool true))]=AV.tup [.int .i64 (if -9223372036854775808<=a/\a<=9223372036854775807 then a else 0),.bool (decide (-9223372036854775808<=a/\a<=9223372036854775807))]:=by
 rw[if_pos hb,decide_eq_true hb,hx];rfl
theorem Va(hb : -9223372036854775808<=a/\a<=9223372036854775807):(lim a.natAbs).length<=1000000000000/\Lb (lim a.natAbs)/\val (lim a.natAbs)<18446744073709551616:=by
 have:=fV hb.1 hb.2;unfold sz at this;exact⟨ω,aV _,by rw[au];omega⟩
theorem JJ(h1:sz a<=1000000000)(h2:sz b<=1000000000)(h:¬b.natAbs=0):(lim a.natAbs).length<=100000000000/\(lim b.natAbs).length<=100000000000/\Lb (lim a.natAbs)/\Lb (lim b.natAbs)/\0<b.natAbs:=by
 unfold sz at h1 h2;exact⟨ω,ω,aV _,aV _,ω⟩
theorem ZB(h:¬b.natAbs=0):val (pad (KE (lim a.natAbs) (lim b.natAbs)) (a.natAbs/b.natAbs))=a.natAbs/b.natAbs:=by
 have:=Rw (aV a.natAbs) (aV b.natAbs) (by rw[au];omega)
 rwa [au,au]at this
theorem XL(h:¬b.natAbs=0):val (pad (Hr (lim a.natAbs) (lim b.natAbs)) (a.natAbs%b.natAbs))=a.natAbs%b.natAbs:=by
 have:=Sz (aV a.natAbs) (aV b.natAbs) (by rw[au];omega)
 rwa [au,au]at this
theorem Oh{r:Nat}(h0:0<r)(h:((decide (a<0)&&decide (0<r)) != decide (b<0))=true):(decide (a<0) != decide (b<0))=true:=by rwa [decide_eq_true h0,Bool.and_true]at h
theorem NM{r:Nat}(h0:0<r)(h:((decide (a<0)&&decide (0<r)) != decide (b<0))=false):¬(decide (a<0) != decide (b<0))=true:=by rw[decide_eq_true h0,Bool.and_true]at h;rw[h];decide
theorem WQ(h:sz a<=1000000000)(s:Bool):sz (bH s (a.natAbs/b.natAbs))<=1000000000:=aU (CO _ _ a (Ky _ _)) h
theorem Xi(h:sz a<=1000000000)(s:Bool):sz (bH s (a.natAbs%b.natAbs))<=1000000000:=aU (CO _ _ a (Nat.mod_le _ _)) h
theorem WU:sz 1<=1000000000:=aU (fV ψ ψ) ψ
end
section
variable {a b:Int} {m n:Nat}
theorem MQ{x:Nat}(h0:n=0)(hg:Nat.gcd m n=Nat.gcd a.natAbs b.natAbs)(hx:x=m):aai [Z (bH false x)]=Z ((Nat.gcd a.natAbs b.natAbs:Nat):Int):=KR (by
 subst h0 hx;rw[<-hg,Nat.gcd_zero_right];rfl)
theorem UZ(u v:Nat):(u:Int).tmod (v:Int)=((u%v:Nat):Int):=by rw[Int.tmod_eq_emod_of_nonneg ω];rfl
theorem YA{u v:Nat}:some (AV.int .u64 ((u:Int).tmod (v:Int)))=some (AV.int .u64 ((u%v:Nat):Int)):=by rw[UZ]
theorem Ie(x y:Int)(h:x=y):some (Bk.var [zs x,zl x])=some (Bk.var [zs y,zl y]):=by rw[h]
theorem ZL(h:sz ((m:Nat):Int)<=2):some (AV.int .u64 ((if sz ((m:Nat):Int)<=2 then((m:Nat):Int).natAbs else 0:Nat):Int))=some (AV.int .u64 ((m:Nat):Int)):=by rw[if_pos h];rfl
theorem Xn(h1:sz ((m:Nat):Int)<=1000000000)(h2:sz ((n:Nat):Int)<=1000000000)(h:(((lim ((n:Nat):Int).natAbs).length:Nat):Int)>0):(lim ((m:Nat):Int).natAbs).length<=100000000000/\(lim ((n:Nat):Int).natAbs).length<=100000000000/\Lb (lim ((m:Nat):Int).natAbs)/\Lb (lim ((n:Nat):Int).natAbs)/\0<val (lim ((n:Nat):Int).natAbs):=by
 have:=aY (n:=((n:Nat):Int).natAbs);have k:=JJ h1 h2 ω;rw[au];exact k
theorem ZN(h:(((lim ((n:Nat):Int).natAbs).length:Nat):Int)>0):bH false (val (pad (Hr (lim ((m:Nat):Int).natAbs) (lim ((n:Nat):Int).natAbs)) (val (lim ((m:Nat):Int).natAbs)%val (lim ((n:Nat):Int).natAbs))))=((m%n:Nat):Int):=by
 have:=aY (n:=((n:Nat):Int).natAbs);rw[au,au,XL ω];rfl
theorem X4(h:(((lim ((n:Nat):Int).natAbs).length:Nat):Int)>0):0<n:=by
 have h2:=aY (n:=((n:Nat):Int).natAbs);rw[AP]at h2 h;omega
theorem Vu(h:¬(((lim ((n:Nat):Int).natAbs).length:Nat):Int)>0):n=0:=by
 have h2:=aY (n:=((n:Nat):Int).natAbs);rw[AP]at h2 h;omega
end
end Go.Sw
namespace Go.Proofs.YtmniihkenijjpaaGreatDoor
open Go Go.RowKit Go.Sw
set_option maxRecDepth 100000
set_option maxHeartbeats 16000000
instance WI(n:Int):DenI Tryz.prog 80 [.int .i64 n] (-9223372036854775808<=n/\n<=9223372036854775807) (Z n):=⟨λhp=>by
 refine aA Tryz.func80 rfl ?_
 repeat'((try(conv=>whnf));first
  |(with_reducible refine aah (λ_=>?_) (λ_=>?_)))
 all_goals(try((conv=>whnf);simp(disch:=omega) only[H7,JE]))
 all_goals(repeat'((try(conv=>whnf));first
  |refine y5 ?_ ?_|apply zaq))
 all_goals(try apply zar)
 all_goals first
  |exact aV _|omega|(refine KR ?_;rw[au];first|exact IB ω|exact Ji ω)⟩
instance Wh(n:Int):DenI Tryz.prog 199 [.int .i64 n] (-9223372036854775808<=n/\n<=9223372036854775807) (Z n):=⟨λhp=>by
 refine aA Tryz.func199 rfl ?_
 repeat'((try(conv=>whnf));first
  |(with_reducible refine aah (λ_=>?_) (λ_=>?_)))
 all_goals(try((conv=>whnf);simp(disch:=omega) only[H7,JE]))
 all_goals(repeat'((try(conv=>whnf));first
  |refine y5 ?_ ?_|apply zaq))
 all_goals(try apply zar)
 all_goals first
  |exact mF _ _|omega|(refine KR ?_;rw[gU _ _ ω];first|exact IB ω|exact Ji ω|exact qE n)⟩
instance WG(a:Int):DenI Tryz.prog 90 [Z a] (True) (.int .i64 (fD a)):=⟨λhp=>by
 refine aA Tryz.func90 rfl ?_
 repeat'((try(conv=>whnf));first
  |(with_reducible refine aah (λ_=>?_) (λ_=>?_))|apply zaq)
 all_goals(try simp only[aN]at *)
 all_goals first
  |with_reducible exact Tf ω|with_reducible exact UQ ω|with_reducible exact Tv ω ω⟩
instance Xh(a b:Int):DenI Tryz.prog 157 [Z a,Z b] (True) (.int .i64 (fC a b)):=⟨λhp=>by
 refine aA Tryz.func157 rfl ?_
 repeat'((try(conv=>whnf));first
  |refine y5 ?_ ?_|(with_reducible refine aah (λ_=>?_) (λ_=>?_))|refine zat (λ_=>?_) (λ_=>?_)|apply zaq)
 all_goals(try apply zar)
 all_goals first
  |with_reducible exact⟨aV _,aV _⟩|with_reducible exact Tq ξ ξ|with_reducible exact VI ξ ξ|with_reducible exact Tt ξ ξ|with_reducible exact TJ ξ ξ⟩
instance Xo(a:Int):DenI Tryz.prog 155 [Z a] (sz a<=1000000000) (Z (-a)):=⟨λhp=>by
 refine aA Tryz.func155 rfl ?_
 repeat'((try(conv=>whnf));first
  |refine y5 ?_ ?_|refine aax ?_ ?_|refine zas ζ ?_|apply zaq)
 all_goals(try apply zar)
 all_goals(try simp only[aN]at *)
 all_goals first
  |with_reducible exact aV _|with_reducible exact Vm|(unfold sz at hp;omega)⟩
instance Yi(a b:Int):DenI Tryz.prog 122 [Z a,Z b] (sz a<=1000000000/\sz b<=1000000000) (Z (a*b)):=⟨λhp=>by
 refine aA Tryz.func122 rfl ?_
 repeat'((try(conv=>whnf));first
  |refine y5 ?_ ?_|refine zas ζ ?_|apply zaq)
 all_goals(try apply zar)
 all_goals first
  |with_reducible exact mF _ _|with_reducible exact Jl hp.1 hp.2|with_reducible exact Uj⟩
instance Xk(a b:Int):DenI Tryz.prog 201 [Z a,Z b] (sz a<=1000000000/\sz b<=1000000000) (Z (a+b)):=⟨λhp=>by
 refine aA Tryz.func201 rfl ?_
 repeat'((try(conv=>whnf));first
  |refine y5 ?_ ?_|(with_reducible refine aah (λ_=>?_) (λ_=>?_))|refine zat (λ_=>?_) (λ_=>?_)|refine zas ζ ?_|apply zaq)
 all_goals(try apply zar)
 all_goals first
  |with_reducible exact⟨aV _,aV _⟩|with_reducible exact mF _ _|with_reducible exact Jl hp.1 hp.2|exact IY hp.1 hp.2 (xZ.1 (by rename_i h;rw[au,au]at h;omega))|exact IY hp.2 hp.1 (by rename_i h;rw[au,au]at h;have:=nD.1 h;omega)|with_reducible exact SY ξ|with_reducible exact TU ξ ξ|with_reducible exact Tz ξ ξ⟩
end Go.Proofs.YtmniihkenijjpaaGreatDoor
namespace Go.Sw
open Go Go.RowKit
section
variable {P:Program} {f:FuncId} {xs:List AV} {w:World} {X:List Nat} {vs:List Value}
theorem Vx{u:Value}{x:AV}(h:RepD w X u x):∀(i:Nat) a b,[u][i]?=some a->[x][i]?=some b->RepD w X a b:=λi a b h1 h2=>by
 cases i with
 |zero=>simp at h1 h2;subst h1 h2;exact h
 |succ i=>simp at h1
theorem OM{u v:Value}{x y:AV}(h:RepD w X u x)(k:RepD w X v y):∀(i:Nat) a b,[u,v][i]?=some a->[x,y][i]?=some b->RepD w X a b:=λi a b h1 h2=>by
 match i with
 |0=>simp at h1 h2;subst h1 h2;exact h
 |1=>simp at h1 h2;subst h1 h2;exact k
 |_+2=>simp at h1
theorem J7{u:Value}{c:Cell}(h:RepR w X u (.c c)):RepC w X u c:=by
 generalize hv:AV.c c=v at h;cases h with
 |d h =>
  cases h with
  |c h=>injection hv with hv;subst hv;exact h
  |agg h=>cases hv
 |tup _ _=>cases hv
theorem Rz{u x:Value}(h:RepC w X u (.v x)):u=x:=by
 generalize hc:Cell.v x=c at h;cases h with
 |v _ _=>injection hc with hc;exact hc.symm
 |sl=>cases hc
 |p=>cases hc
 |fn=>cases hc
theorem Uz{l:List Nat}(h : @Den P (Wld.any P) f xs (.c (lmc l)))(hX:∀m∈X,m<w.heap.size)(hl:vs.length=xs.length)(hr:∀(i:Nat) u v,vs[i]?=some u->xs[i]?=some v->RepD w X u v):Calls P f vs.toArray w (Ret λr w'=>UL w' X r l/\Below w.heap.size w w') :=
 ((@Den.old P (Wld.any P) _ _ _ h (acd hl hr)).2 w X vs trivial hX hl hr).mono λe w' ⟨u,he,hR,hb⟩=>⟨u,he,UL.of_rep (J7 hR.r),hb⟩
theorem WT{x:Value}(h : @Den P (Wld.any P) f xs (.c (.v x)))(hX:∀m∈X,m<w.heap.size)(hl:vs.length=xs.length)(hr:∀(i:Nat) u v,vs[i]?=some u->xs[i]?=some v->RepD w X u v):Calls P f vs.toArray w (Ret λr w'=>r=x/\Below w.heap.size w w') :=
 ((@Den.old P (Wld.any P) _ _ _ h (acd hl hr)).2 w X vs trivial hX hl hr).mono λe w' ⟨u,he,hR,hb⟩=>⟨u,he,Rz (J7 hR.r),hb⟩
theorem LU{u:Value}{l m:List Nat}(h:RepR w X u (.tup [.c (lmc l),.c (lmc m)])):∃r0 r1,u=.tuple #[r0,r1]/\UL w X r0 l/\UL w X r1 m:=by
 generalize hv:AV.tup [.c (lmc l),.c (lmc m)]=v at h;cases h with
 |d h=>cases h with
  |c h=>cases hv
  |agg h=>cases hv
 |@tup us vs hl h =>
  injection hv with hv
  subst hv
  match us,hl with
  |[r0,r1],_=>exact⟨r0,r1,rfl,(h 0 r0 _ rfl rfl).ul,(h 1 r1 _ rfl rfl).ul⟩
theorem VB{l m:List Nat}(h : @Den P (Wld.any P) f xs (.tup [.c (lmc l),.c (lmc m)]))(hX:∀m∈X,m<w.heap.size)(hl:vs.length=xs.length)(hr:∀(i:Nat) u v,vs[i]?=some u->xs[i]?=some v->RepD w X u v):Calls P f vs.toArray w (Ret λr w'=>(∃r0 r1,r=.tuple #[r0,r1]/\UL w' X r0 l/\UL w' X r1 m)/\Below w.heap.size w w') :=
 ((@Den.old P (Wld.any P) _ _ _ h (acd hl hr)).2 w X vs trivial hX hl hr).mono λe w' ⟨u,he,hR,hb⟩=>⟨u,he,LU hR.r,hb⟩
end
end Go.Sw
namespace Go.Proofs.YtmniihkenijjpaaGreatDoor
open Go Go.RowKit Go.Sw
set_option maxRecDepth 100000
set_option maxHeartbeats 16000000
theorem fF{w:World}{X:List Nat}(hX:∀m∈X,m<w.heap.size){v_l:Value}{l:List Nat}(h_l:UL w X v_l (l)):
 Calls Tryz.prog 230 #[v_l] w (Ret λr w'=>(UL w' X r (ah l))/\Below w.heap.size w w'):=Uz ((inferInstance:DenI Tryz.prog 230 [.c (lmc l)] _ _).den trivial) hX rfl (Vx (.c h_l.rep))
theorem l9{w:World}{X:List Nat}(hX:∀m∈X,m<w.heap.size){v_a:Value}{a:List Nat}(h_a:UL w X v_a (a)){v_b:Value}{b:List Nat}(h_b:UL w X v_b (b))(ha:Lb a)(hb:Lb b):
 Calls Tryz.prog 198 #[v_a,v_b] w (Ret λr w'=>(r=.int .i64 (dD (val a) (val b)))/\Below w.heap.size w w'):=WT ((inferInstance:DenI Tryz.prog 198 [.c (lmc a),.c (lmc b)] _ _).den ⟨ha,hb⟩) hX rfl (OM (.c h_a.rep) (.c h_b.rep))
theorem iZ{w:World}{X:List Nat}(hX:∀m∈X,m<w.heap.size){v_a:Value}{a:List Nat}(h_a:UL w X v_a (a))(b:Nat)(hn_a:a.length<=1000000000000)(hb_a:Lb a)(hb0:0<b)(hb1:b<1000000000):
 Calls Tryz.prog 231 #[v_a,(.int .u32 ((b:Nat):Int))] w (Ret λr w'=>(∃qs:List Nat,∃rs:List Nat,∃r0 r1,r=.tuple #[r0,r1]/\UL w' X r0 (qs)/\UL w' X r1 (rs)/\Lb qs/\Lb rs/\val a=b*val qs+val rs/\val rs<b/\qs.length=a.length/\rs.length=1)/\Below w.heap.size w w'):=(VB ((inferInstance:DenI Tryz.prog 231 [.c (lmc a),.int .u32 (b:Nat)] _ _).den ⟨hn_a,hb_a,hb0,hb1⟩) hX rfl (OM (.c h_a.rep) (.c (.v _ rfl)))).mono λe w' ⟨u,he,⟨r0,r1,h1,h2,h3⟩,hb⟩=>⟨u,he,⟨_,_,r0,r1,h1,h2,h3,Ko hb_a hb0 hb1⟩,hb⟩
end Go.Proofs.YtmniihkenijjpaaGreatDoor
namespace Go.Proofs.YtmniihkenijjpaaGreatDoor
open Go Go.RowKit Go.Sw
set_option maxRecDepth 20000
namespace TfE
theorem el154:Sw.elemOf Tryz.prog 154=some (#[.int .u32 0],1,4):=ζ
theorem one154:aa4 Tryz.prog 154=true:=ζ
theorem size154:(Tryz.prog.info? 154).map (λi=>i.size)=some 1:=ζ
theorem sl26:sliceOf Tryz.prog 26=some (154,1):=ζ
theorem sls26:(sliceOf Tryz.prog 26).isSome=true:=ζ
theorem und152:Tryz.prog.underlying 152=some (TypeDesc.int .u64):=ζ
theorem und154:Tryz.prog.underlying 154=some (TypeDesc.int .u32):=ζ
theorem unds152:(Tryz.prog.underlying 152).isSome=true:=ζ
theorem unds154:(Tryz.prog.underlying 154).isSome=true:=ζ
end TfE
theorem jm{w:World}{X:List Nat}(hX:∀m∈X,m<w.heap.size){v_a:Value}{a:List Nat}(h_a:UL w X v_a (a)){v_b:Value}{b:List Nat}(h_b:UL w X v_b (b))(hn_a:a.length<=1000000000000)(hn_b:b.length<=1000000000000)(hb_a:Lb a)(hb_b:Lb b):
 Calls Tryz.prog 161 #[v_a,v_b] w (Ret λr w'=>(∃o:List Nat,U0 154 w w' r (o)/\Lb o/\val o=val a*val b/\o.length=a.length+b.length)/\Below w.heap.size w w'):=by
 refine enter (N:=68) (fn:=Tryz.f161) (vs:=[v_a,v_b]) Tryz.func161 rfl rfl rfl ?_;intro fa hF;obtain⟨A_a,_,c_a,rfl,rfl,hu_a⟩:=h_a;have hl_a:=hu_a.len;have hc_a:=hu_a.cap;obtain⟨A_b,_,c_b,rfl,rfl,hu_b⟩:=h_b;have hl_b:=hu_b.len;have hc_b:=hu_b.cap;replace hF:Frm 68 fa [(0,(.slice (A_a) (a.length) (c_a))),(1,(.slice (A_b) (b.length) (c_b)))]:=hF;have hS:=St.refl w;refine aak ?_;refine aal ?_;refine pr hF (pa rfl <| PR.nil) ?_;clear hF fa;intro fa hF;refine aj ?_;refine aak ?_;refine aal ?_;refine pr hF (pm rfl <| pg (λ_ hF=>gy TfE.sls26 (hF.ev rfl)) <| pm rfl <| pg (λ_ hF=>gy TfE.sls26 (hF.ev rfl)) <| pg (λ_ hF=>aaC (hF.ev rfl) (hF.ev rfl) eH) <| PR.nil) ?_;clear hF fa;intro fa hF;refine st rfl (Dy (X:=X) (nl:=a.length+b.length) (nc:=a.length+b.length) hF hS rfl TfE.sl26 TfE.el154 rfl rfl ω ω ω ω ω (vS _) ?_);intro g1 w2 hg4 hS E3;refine kF ?_;clear hF fa;intro fa hF;rw[Nat.mul_one]at hS;refine pr hF (pa rfl <| PR.nil) ?_;clear hF fa;intro fa hF;refine aj ?_;refine aak ?_;refine aak ?_;refine aal ?_;refine pr hF (pm rfl <| pg (λ_ hF=>gy TfE.sls26 (hF.ev rfl)) <| pm rfl <| PR.nil) ?_;clear hF fa;intro fa hF;refine aj ?_;refine aa8 ?_;refine oW (λmu fa w'=>∃o:List Nat,∃i:Nat,Frm 68 fa [(0,(.slice (A_a) (a.length) (c_a))),(1,(.slice (A_b) (b.length) (c_b))),(4,(.slice (none) (0) (0))),(5,(.slice (some ⟨g1,0,none⟩) (a.length+b.length) (a.length+b.length))),(18,(.slice (A_a) (a.length) (c_a))),(19,(.int .i64 (((a.length:Nat):Int)))),(20,(.int .i64 (((i:Nat):Int))))]/\St w w' [(g1,154,(us (o)).toArray)]/\Ext w2 (g1::X) w' (g1::X)/\(i<=a.length)/\(o.length=a.length+b.length)/\(Lb o)/\(val (o.take (i+b.length))=val (a.take i)*val b)/\a.length-i=mu) ?_ ?_
 ·
  exact⟨_,List.replicate (a.length+b.length) 0,0,(hF.all ⟨rfl,rfl,rfl,rfl,rfl,rfl,(aJ rfl ω),trivial⟩),hS,Ext.refl _ _,ω,η,(iQ _),(by simp[pF,List.take_replicate,val]),rfl⟩
 clear hF fa;intro n0_ fa w' hI;clear hS;obtain⟨o,i,hF,hS,E6,hi,ho,hbo,hv,rfl⟩:=hI
 rename World=>w5
 refine aak ?_;refine aal ?_;refine pr hF (pg (λ_ hF=>ab5 (hF.ev rfl) (hF.ev rfl)) <| PR.nil) ?_;clear hF fa;intro fa hF;refine aj ?_;refine aak ?_;refine dS hF rfl (λhc7=>?_) (λhc7=>?_)
 ·
  have hc7p:((i:Nat):Int)<((a.length:Nat):Int):=by first|simpa using hc7|exact aW hc7|exact aX hc7
  refine aa1 ?_;refine aaG ?_;refine aak ?_;refine aa8 ?_;refine aak ?_;refine aal ?_;refine pr hF (pm rfl <| PR.nil) ?_;clear hF fa;intro fa hF;obtain⟨ad8,hA9,hq10⟩:=(hu_a.ext (E3.trans E6)).cl.at_ (gI (l:=a) (i:=i) ω);refine pr hF (pg (λ_ hF=>gK (j:=i) TfE.sl26 (hF.ev rfl) hA9 (hF.ev rfl) ω ω) <| pg (λ_ hF=>aaT TfE.one154 (hF.ev rfl) hq10) <| pa rfl <| pa rfl <| PR.nil) ?_;clear hF fa;intro fa hF;refine aj ?_;refine aak ?_;refine aal ?_;refine pr hF (pa rfl <| PR.nil) ?_;clear hF fa;intro fa hF;refine aj ?_;refine aak ?_;refine aak ?_;refine aal ?_;refine pr hF (pm rfl <| pg (λ_ hF=>gy TfE.sls26 (hF.ev rfl)) <| pm rfl <| PR.nil) ?_;clear hF fa;intro fa hF;refine aj ?_;refine aa8 ?_;refine oW (λmu fa w'=>∃o2:List Nat,∃cr:Nat,∃k:Nat,Frm 68 fa [(0,(.slice (A_a) (a.length) (c_a))),(1,(.slice (A_b) (b.length) (c_b))),(4,(.slice (none) (0) (0))),(5,(.slice (some ⟨g1,0,none⟩) (a.length+b.length) (a.length+b.length))),(18,(.slice (A_a) (a.length) (c_a))),(19,(.int .i64 (((a.length:Nat):Int)))),(20,(.int .i64 (((i:Nat):Int)))),(21,(.bool (decide (((i:Nat):Int)<((a.length:Nat):Int))))),(6,(.int .i64 (((i:Nat):Int)))),(7,(.int .u32 (((a.getD (i) 0:Nat):Int)))),(25,(.slice (A_b) (b.length) (c_b))),(26,(.int .i64 (((b.length:Nat):Int)))),(8,(.int .u64 (((cr:Nat):Int)))),(27,(.int .i64 (((k:Nat):Int))))]/\St w w' [(g1,154,(us (o2)).toArray)]/\Ext w5 (g1::X) w' (g1::X)/\(k<=b.length)/\(o2.length=a.length+b.length)/\(Lb o2)/\(cr<1000000000)/\(val (o2.take (i+b.length))+1000000000^(i+k)*cr=val (a.take i)*val b+1000000000^i*(a.getD i 0*val (b.take k)))/\b.length-k=mu) ?_ ?_
  ·
   exact⟨_,o,0,0,(hF.all ⟨rfl,rfl,rfl,rfl,rfl,rfl,rfl,rfl,rfl,rfl,rfl,rfl,(aJ rfl ω),(aJ rfl ω),trivial⟩),hS,Ext.refl _ _,ω,(ho),(hbo),ω,(by simp[val,hv]),rfl⟩
  clear hF fa;intro n1_ fa w' hI;clear hS;obtain⟨o2,cr,k,hF,hS,E12,hk,ho2,hbo2,hcr,hv2,rfl⟩:=hI
  rename World=>yE
  have hak:=hb_a.getD i;have hbk:=hb_b.getD k;have hok:=hbo2.getD (i+k);have hca:=xR hak hbk hok hcr;have hca1:=hca.1;have hca2:=hca.2;refine aak ?_;refine aal ?_;refine pr hF (pg (λ_ hF=>ab5 (hF.ev rfl) (hF.ev rfl)) <| PR.nil) ?_;clear hF fa;intro fa hF;refine aj ?_;refine aak ?_;refine dS hF rfl (λhc13=>?_) (λhc13=>?_)
  ·
   have hc13p:((k:Nat):Int)<((b.length:Nat):Int):=by first|simpa using hc13|exact aW hc13|exact aX hc13
   refine aa1 ?_;refine aaG ?_;refine aak ?_;refine aa8 ?_;refine aak ?_;refine aal ?_;refine pr hF (pm rfl <| PR.nil) ?_;clear hF fa;intro fa hF;obtain⟨ad14,hA15,hq16⟩:=(hu_b.ext ((E3.trans E6).trans E12)).cl.at_ (gI (l:=b) (i:=k) ω);refine pr hF (pg (λ_ hF=>gK (j:=k) TfE.sl26 (hF.ev rfl) hA15 (hF.ev rfl) ω ω) <| pg (λ_ hF=>aaT TfE.one154 (hF.ev rfl) hq16) <| pa rfl <| pa rfl <| PR.nil) ?_;clear hF fa;intro fa hF;replace hF:Frm 68 fa [(0,(.slice (A_a) (a.length) (c_a))),(1,(.slice (A_b) (b.length) (c_b))),(4,(.slice (none) (0) (0))),(5,(.slice (some ⟨g1,0,none⟩) (a.length+b.length) (a.length+b.length))),(18,(.slice (A_a) (a.length) (c_a))),(19,(.int .i64 (((a.length:Nat):Int)))),(20,(.int .i64 (((i:Nat):Int)))),(21,(.bool (decide (((i:Nat):Int)<((a.length:Nat):Int))))),(6,(.int .i64 (((i:Nat):Int)))),(7,(.int .u32 (((a.getD (i) 0:Nat):Int)))),(25,(.slice (A_b) (b.length) (c_b))),(26,(.int .i64 (((b.length:Nat):Int)))),(8,(.int .u64 (((cr:Nat):Int)))),(27,(.int .i64 (((k:Nat):Int)))),(28,(.bool (decide (((k:Nat):Int)<((b.length:Nat):Int))))),(9,(.int .i64 (((k:Nat):Int)))),(10,(.int .u32 (((b.getD (k) 0:Nat):Int))))]:=(hF.all ⟨rfl,rfl,rfl,rfl,rfl,rfl,rfl,rfl,rfl,rfl,rfl,rfl,rfl,rfl,rfl,rfl,rfl,trivial⟩)
   refine aj ?_;refine aak ?_;refine aal ?_;refine pr hF (pm rfl <| pm rfl <| pm rfl <| pg (λ_ hF=>aaC (hF.ev rfl) (hF.ev rfl) eH) <| pg (λ_ hF=>iW (j:=i+k) TfE.sl26 (hF.ev rfl) (hF.ev rfl) ω ω) <| pg (λ_ hF=>dG TfE.one154 (hF.ev rfl) (hS.get 0 rfl) (PN (by first|omega|(simp;omega)))) <| pg (λ_ hF=>aaJ TfE.unds154 TfE.und152 (hF.ev rfl) (iI ω)) <| pm rfl <| pg (λ_ hF=>aaJ TfE.unds154 TfE.und152 (hF.ev rfl) (iI ω)) <| pm rfl <| pg (λ_ hF=>aaJ TfE.unds154 TfE.und152 (hF.ev rfl) (iI ω)) <| pg (λ_ hF=>adp (hF.ev rfl) (hF.ev rfl) iG) <| pg (λ_ hF=>aaC (hF.ev rfl) (hF.ev rfl) iG) <| pm rfl <| pg (λ_ hF=>aaC (hF.ev rfl) (hF.ev rfl) iG) <| pa rfl <| PR.nil) ?_;clear hF fa;intro fa hF;replace hF:Frm 68 fa [(0,(.slice (A_a) (a.length) (c_a))),(1,(.slice (A_b) (b.length) (c_b))),(4,(.slice (none) (0) (0))),(5,(.slice (some ⟨g1,0,none⟩) (a.length+b.length) (a.length+b.length))),(18,(.slice (A_a) (a.length) (c_a))),(19,(.int .i64 (((a.length:Nat):Int)))),(20,(.int .i64 (((i:Nat):Int)))),(21,(.bool (decide (((i:Nat):Int)<((a.length:Nat):Int))))),(6,(.int .i64 (((i:Nat):Int)))),(7,(.int .u32 (((a.getD (i) 0:Nat):Int)))),(25,(.slice (A_b) (b.length) (c_b))),(26,(.int .i64 (((b.length:Nat):Int)))),(8,(.int .u64 (((cr:Nat):Int)))),(27,(.int .i64 (((k:Nat):Int)))),(28,(.bool (decide (((k:Nat):Int)<((b.length:Nat):Int))))),(9,(.int .i64 (((k:Nat):Int)))),(10,(.int .u32 (((b.getD (k) 0:Nat):Int)))),(11,(.int .u64 ((((o2.getD (i+k) 0:Nat):Int)+(((a.getD (i) 0:Nat):Int)*((b.getD (k) 0:Nat):Int)))+((cr:Nat):Int))))]:=(hF.all ⟨rfl,rfl,rfl,rfl,rfl,rfl,rfl,rfl,rfl,rfl,rfl,rfl,rfl,rfl,rfl,rfl,rfl,rfl,trivial⟩)
   refine aj ?_;refine aal ?_;refine pr hF (pm rfl <| pm rfl <| pm rfl <| pg (λ_ hF=>aaC (hF.ev rfl) (hF.ev rfl) eH) <| pm rfl <| pg (λ_ hF=>ad2 (hF.ev rfl) (hF.ev rfl) ω (BQ (x:=((o2.getD (i+k) 0)+((a.getD (i) 0)*(b.getD (k) 0)))+cr) (y:=1000000000) ω ω)) <| pg (λ_ hF=>aaJ TfE.unds152 TfE.und154 (hF.ev rfl) (Dx ω)) <| pm rfl <| pg (λ_ hF=>adf (hF.ev rfl) (hF.ev rfl) ω (yu (x:=((o2.getD (i+k) 0)+((a.getD (i) 0)*(b.getD (k) 0)))+cr) (y:=1000000000) ω ω ω)) <| pg (λ_ hF=>iW (j:=i+k) TfE.sl26 (hF.ev rfl) (hF.ev rfl) ω ω) <| PR.nil) ?_;clear hF fa;intro fa hF;refine st rfl (dP (vs:=#[.int .u32 (((((o2.getD (i+k) 0)+((a.getD (i) 0)*(b.getD (k) 0)))+cr)%1000000000:Nat):Int)]) (v:=.int .u32 (((((o2.getD (i+k) 0)+((a.getD (i) 0)*(b.getD (k) 0)))+cr)%1000000000:Nat):Int)) (X:=(g1::X)) hF hS 0 rfl η rfl (dV rfl ω) rfl TfE.size154 rfl (wC (by first|omega|(simp;omega))) ?_);intro w17 hS E18;rw[kU (by first|omega|(simp;omega))]at hS;refine pr hF (pa rfl <| PR.nil) ?_;clear hF fa;intro fa hF;refine dX ?_;refine acV ?_;refine aaG ?_;refine aal ?_;refine pr hF (pg (λ_ hF=>aaC (hF.ev rfl) (hF.ev rfl) eH) <| pm rfl <| PR.nil) ?_;clear hF fa;intro fa hF;refine dX ?_;refine aaG ?_;exact⟨_,ω,o2.set (i+k) ((((o2.getD (i+k) 0)+((a.getD (i) 0)*(b.getD (k) 0)))+cr)%1000000000),(((o2.getD (i+k) 0)+((a.getD (i) 0)*(b.getD (k) 0)))+cr)/1000000000,(k+1),(hF.all ⟨rfl,rfl,rfl,rfl,rfl,rfl,rfl,rfl,rfl,rfl,rfl,rfl,(aJ rfl ω),(aJ rfl ω),trivial⟩),hS,(E12.trans E18),ω,κ,(dN hbo2 ω),ω,(sO ω ω hv2 ω rfl rfl),rfl⟩
  have hc13p:¬(((k:Nat):Int)<((b.length:Nat):Int)):=by first|simpa using hc13|exact aW hc13|exact aX hc13
  refine acr ?_;refine acG ?_;refine acG ?_;refine afl ?_;refine aaG ?_;refine aal ?_;refine pr hF (pm rfl <| pm rfl <| pm rfl <| pg (λ_ hF=>gy TfE.sls26 (hF.ev rfl)) <| pg (λ_ hF=>aaC (hF.ev rfl) (hF.ev rfl) eH) <| pm rfl <| pg (λ_ hF=>aaJ TfE.unds152 TfE.und154 (hF.ev rfl) (Dx ω)) <| pg (λ_ hF=>iW (j:=i+b.length) TfE.sl26 (hF.ev rfl) (hF.ev rfl) ω ω) <| PR.nil) ?_;clear hF fa;intro fa hF;refine st rfl (dP (vs:=#[.int .u32 ((cr:Nat):Int)]) (v:=.int .u32 ((cr:Nat):Int)) (X:=(g1::X)) hF hS 0 rfl η rfl (dV rfl ω) rfl TfE.size154 rfl (wC (by first|omega|(simp;omega))) ?_);intro w19 hS E20;rw[kU (by first|omega|(simp;omega))]at hS;replace hF:Frm 68 fa [(0,(.slice (A_a) (a.length) (c_a))),(1,(.slice (A_b) (b.length) (c_b))),(4,(.slice (none) (0) (0))),(5,(.slice (some ⟨g1,0,none⟩) (a.length+b.length) (a.length+b.length))),(18,(.slice (A_a) (a.length) (c_a))),(19,(.int .i64 (((a.length:Nat):Int)))),(20,(.int .i64 (((i:Nat):Int)))),(21,(.bool (decide (((i:Nat):Int)<((a.length:Nat):Int))))),(6,(.int .i64 (((i:Nat):Int)))),(7,(.int .u32 (((a.getD (i) 0:Nat):Int)))),(25,(.slice (A_b) (b.length) (c_b))),(26,(.int .i64 (((b.length:Nat):Int)))),(8,(.int .u64 (((cr:Nat):Int)))),(27,(.int .i64 (((k:Nat):Int)))),(28,(.bool (decide (((k:Nat):Int)<((b.length:Nat):Int)))))]:=(hF.all ⟨rfl,rfl,rfl,rfl,rfl,rfl,rfl,rfl,rfl,rfl,rfl,rfl,rfl,rfl,rfl,trivial⟩)
  refine dX ?_;refine acV ?_;refine aaG ?_;refine aal ?_;refine pr hF (pg (λ_ hF=>aaC (hF.ev rfl) (hF.ev rfl) eH) <| pm rfl <| PR.nil) ?_;clear hF fa;intro fa hF;refine dX ?_;refine aaG ?_;exact⟨_,ω,o2.set (i+b.length) (cr),(i+1),(hF.all ⟨rfl,rfl,rfl,rfl,rfl,rfl,(aJ rfl ω),trivial⟩),hS,((E6.trans E12).trans E20),ω,κ,(dN hbo2 ω),(uq ω (by rw[show k=b.length by omega]at hv2;exact hv2)),rfl⟩
 have hc7p:¬(((i:Nat):Int)<((a.length:Nat):Int)):=by first|simpa using hc7|exact aW hc7|exact aX hc7
 refine acr ?_;refine acG ?_;refine acG ?_;refine afl ?_;refine aaG ?_;refine aak ?_;refine aal ?_;refine pr hF (pm rfl <| pa rfl <| PR.nil) ?_;clear hF fa;intro fa hF;refine aj ?_;refine ac6 ?_;rw[aO (l:=o) ω,aO (l:=a) ω]at hv;refine Qs hF rfl (iD hF rfl) ?_;exact⟨_,rfl,⟨o,(Own.mk_ (L:=o) (hS.get 0 rfl) (hS.base 0 rfl) ω ω (rfl)),(hbo),(hv),(ho)⟩,hS.below⟩
end Go.Proofs.YtmniihkenijjpaaGreatDoor
