/-
  Rules of the abstract run, plain laws, and what functions answer, for the law TopMeetings.
  Conditions: none.
-/
import Derived.Test.YtdpkjhnfklkkjaaGreatM7
import Derived.Test.YtdpkjhnfklkkjaaGreatChecked
set_option linter.all false
namespace Go.Proofs.YtdpkjhnfklkkjaaGreat
open Go Go.RowKit Go.Sw Go.Proofs.Tryz
set_option maxRecDepth 100000
set_option maxHeartbeats 16000000
instance ai7(a b:List Nat):DenI prog 274 [.c (dB a),.c (dB b)] (a.length<=1000000000000/\b.length<=1000000000000/\Lb a/\Lb b) (.c (dB (pad (a.length+b.length) (val a*val b)))):=⟨λhp=>by
 refine iJ ζ (λhl=>?_);simp only[qL,nX,cellsOf,bW,and_true,true_and]at hl
 all_goals refine aS func274 rfl ?_
 all_goals(repeat'((try(conv=>whnf));first
  |refine aJ ?_ ?_))
 all_goals(try apply zab)
 all_goals first
  |((conv=>whnf);refine Sw.Loop.inv (α:=List Nat×Nat) (λx=>[(1,.c (dB b)),(5,.gs 17 (a.length+b.length)),(18,.c (dB a)),(19,.int .i64 a.length),(20,.int .i64 (x.2:Nat))]) (λx=>[(17,.grow 209 1 (x.1.map λx=>[.v (u32 x)]))]) (λx=>x.2<=a.length/\x.1.length=a.length+b.length/\Lb x.1/\val (x.1.take (x.2+b.length))=val (a.take x.2)*val b) (λx=>a.length-x.2) (List.replicate (a.length+b.length) 0,0) ?_ ?_ ?_ (λx hx=>?_))|skip
 all_goals(repeat'((try(conv=>whnf));first
  |(with_reducible refine aO (λ_=>?_) (λ_=>?_))|refine aK ?_ ?_|(with_reducible refine au ?_ ?_)|apply zaa))
 all_goals(try apply zab)
 all_goals first
  |((conv=>whnf);refine Sw.Loop.inv (α:=List Nat×Nat×Nat) (λy=>[(1,.c (dB b)),(5,.gs 17 (a.length+b.length)),(6,.int .i64 (x.2:Nat)),(7,.int .u32 (a.getD x.2 0:Nat)),(8,.int .u64 (y.2.1:Nat)),(18,.c (dB a)),(19,.int .i64 a.length),(20,.int .i64 (x.2:Nat)),(25,.c (dB b)),(26,.int .i64 b.length),(27,.int .i64 (y.2.2:Nat))]) (λy=>[(17,.grow 209 1 (y.1.map λx=>[.v (u32 x)]))]) (λy=>y.2.2<=b.length/\y.1.length=a.length+b.length/\Lb y.1/\y.2.1<1000000000/\val (y.1.take (x.2+b.length))+1000000000^(x.2+y.2.2)*y.2.1=val (a.take x.2)*val b+1000000000^x.2*(a.getD x.2 0*val (b.take y.2.2))) (λy=>b.length-y.2.2) (x.1,0,0) ?_ ?_ ?_ (λy hy=>?_))|skip
 all_goals(repeat'((try(conv=>whnf));first
  |(with_reducible refine aO (λ_=>?_) (λ_=>?_))|refine aK ?_ ?_|(with_reducible refine au ?_ ?_)))
 all_goals(try apply zab)
 all_goals first|(show SubE _ _;repeat'(first|exact trivial|refine And.intro ?_ ?_))|(show SubB _ _;repeat'(first|exact trivial|refine And.intro ?_ ?_))|skip
 all_goals(try rfl)
 all_goals(try simp(disch:=omega) only[bW,AO,dI,bG,yU]at *)
 all_goals first
  |omega|rfl|exact lQ _ _|exact⟨ω,η,gV _,Q9 _ _ _ _⟩|exact⟨ω,hx.2.1,hx.2.2.1,ω,by simp[val,hx.2.2.2]⟩|exact afp hx.2.2.1 hx.2.1 (Gp hx.2.1 ω hx.2.2.2)|(have ga:=hp.2.2.1.getD x.2;have gb:=hp.2.2.2.getD y.2.2;have go:=hy.2.2.1.getD (x.2+y.2.2);obtain⟨c1,c2⟩:=Df ga gb go hy.2.2.2.1;obtain⟨h1,h2,h3,h4,h5⟩:=hy;(conv=>whnf);exact⟨(y.1.set (x.2+y.2.2) ((y.1.getD (x.2+y.2.2) 0+a.getD x.2 0*b.getD y.2.2 0+y.2.1)%1000000000),(y.1.getD (x.2+y.2.2) 0+a.getD x.2 0*b.getD y.2.2 0+y.2.1)/1000000000,y.2.2+1),⟨⟨rfl,rfl,rfl,rfl,iS (by(try simp(disch:=omega) only[dO,wu64,bG,kR,kS,yU])<;>omega),rfl,rfl,rfl,rfl,rfl,kC ω,trivial⟩,⟨xC (by(try simp(disch:=omega) only[dO,wu64,bG,kR,kS,yU])<;>omega) (by(try simp(disch:=omega) only[dO,wu64,bG,kR,kS,yU])<;>omega),trivial⟩,⟨by show y.2.2+1<=_;omega,by simp only[kG];exact h2,gG h3 (qx _ ψ),c2,wO ω ω h5 rfl rfl rfl⟩,by show _-(y.2.2+1)<_-y.2.2;omega⟩⟩)|(obtain⟨h1,h2,h3,h4,h5⟩:=hy;(conv=>whnf);exact⟨(y.1.set (x.2+b.length) y.2.1,x.2+1),⟨⟨rfl,rfl,rfl,rfl,kC ω,trivial⟩,⟨xC (by(try simp(disch:=omega) only[dO,wu64,bG,kR,kS,yU])<;>omega) (by(try simp(disch:=omega) only[dO,wu64,bG,kR,kS,yU])<;>omega),trivial⟩,⟨by show x.2+1<=_;omega,by simp only[kG];exact h2,gG h3 h4,zM ω (by rw[show y.2.2=b.length by omega]at h5;exact h5)⟩,by show _-(x.2+1)<_-x.2;omega⟩⟩)⟩
instance aiv(a b:List Nat):DenI prog 232 [.c (dB a),.c (dB b)] (a.length<=1000000000000/\b.length<=1000000000000/\Lb a/\Lb b) (.c (dB (lim (val a*val b)))):=⟨λhp=>by
 refine iJ ζ (λhl=>?_);simp only[qL,nX,cellsOf,bW,and_true,true_and]at hl
 all_goals refine aS func232 rfl ?_
 all_goals(repeat'((try(conv=>whnf));first
  |refine aJ ?_ ?_))
 all_goals(try apply zab)
 all_goals first
  |((conv=>whnf);refine Sw.Loop.inv (α:=List Nat×Nat) (λx=>[(0,.c (dB a)),(1,.c (dB b)),(5,.gs 14 (a.length+b.length)),(6,.int .i64 (x.2:Nat))]) (λx=>[(14,.grow 209 1 (x.1.map λx=>[.v (u32 x)]))]) (λx=>x.2<=a.length/\x.1.length=a.length+b.length/\Lb x.1/\val (x.1.take (x.2+b.length))=val (a.take x.2)*val b) (λx=>a.length-x.2) (List.replicate (a.length+b.length) 0,0) ?_ ?_ ?_ (λx hx=>?_))|skip
 all_goals(repeat'((try(conv=>whnf));first
  |refine aC ?_|(with_reducible refine aO (λ_=>?_) (λ_=>?_))|refine aK ?_ ?_|apply zaa))
 all_goals(try apply zab)
 all_goals first
  |((conv=>whnf);refine Sw.Loop.inv (α:=List Nat×Nat×Nat) (λy=>[(0,.c (dB a)),(1,.c (dB b)),(5,.gs 14 (a.length+b.length)),(6,.int .i64 (x.2:Nat)),(7,.int .u64 (y.2.1:Nat)),(8,.int .i64 (y.2.2:Nat))]) (λy=>[(14,.grow 209 1 (y.1.map λx=>[.v (u32 x)]))]) (λy=>y.2.2<=b.length/\y.1.length=a.length+b.length/\Lb y.1/\y.2.1<1000000000/\val (y.1.take (x.2+b.length))+1000000000^(x.2+y.2.2)*y.2.1=val (a.take x.2)*val b+1000000000^x.2*(a.getD x.2 0*val (b.take y.2.2))) (λy=>b.length-y.2.2) (x.1,0,0) ?_ ?_ ?_ (λy hy=>?_))|skip
 all_goals(repeat'((try(conv=>whnf));first
  |(with_reducible refine aO (λ_=>?_) (λ_=>?_))|refine aK ?_ ?_|refine zac ζ ?_|(with_reducible refine au ?_ ?_)))
 all_goals(try apply zab)
 all_goals first|(show SubE _ _;repeat'(first|exact trivial|refine And.intro ?_ ?_))|(show SubB _ _;repeat'(first|exact trivial|refine And.intro ?_ ?_))|skip
 all_goals(try rfl)
 all_goals(try simp(disch:=omega) only[bW,AO,dI,bG,yU]at *)
 all_goals first
  |omega|rfl|exact lQ _ _|exact⟨ω,η,gV _,Q9 _ _ _ _⟩|exact⟨ω,hx.2.1,hx.2.2.1,ω,by simp[val,hx.2.2.2]⟩|exact lE (by rw[<-Gp hx.2.1 ω hx.2.2.2,kQ _ hx.2.2.1])|(have ga:=hp.2.2.1.getD x.2;have gb:=hp.2.2.2.getD y.2.2;have go:=hy.2.2.1.getD (x.2+y.2.2);obtain⟨c1,c2⟩:=Df ga gb go hy.2.2.2.1;obtain⟨h1,h2,h3,h4,h5⟩:=hy;(conv=>whnf);exact⟨(y.1.set (x.2+y.2.2) ((y.1.getD (x.2+y.2.2) 0+a.getD x.2 0*b.getD y.2.2 0+y.2.1)%1000000000),(y.1.getD (x.2+y.2.2) 0+a.getD x.2 0*b.getD y.2.2 0+y.2.1)/1000000000,y.2.2+1),⟨⟨rfl,rfl,rfl,rfl,iS (by(try simp(disch:=omega) only[dO,wu64,bG,kR,kS,yU])<;>omega),kC ω,trivial⟩,⟨xC (by(try simp(disch:=omega) only[dO,wu64,bG,kR,kS,yU])<;>omega) (by(try simp(disch:=omega) only[dO,wu64,bG,kR,kS,yU])<;>omega),trivial⟩,⟨by show y.2.2+1<=_;omega,by simp only[kG];exact h2,gG h3 (qx _ ψ),c2,wO ω ω h5 rfl rfl rfl⟩,by show _-(y.2.2+1)<_-y.2.2;omega⟩⟩)|(obtain⟨h1,h2,h3,h4,h5⟩:=hy;(conv=>whnf);exact⟨(y.1.set (x.2+b.length) y.2.1,x.2+1),⟨⟨rfl,rfl,rfl,kC ω,trivial⟩,⟨xC (by(try simp(disch:=omega) only[dO,wu64,bG,kR,kS,yU])<;>omega) (by(try simp(disch:=omega) only[dO,wu64,bG,kR,kS,yU])<;>omega),trivial⟩,⟨by show x.2+1<=_;omega,by simp only[kG];exact h2,gG h3 h4,zM ω (by rw[show y.2.2=b.length by omega]at h5;exact h5)⟩,by show _-(x.2+1)<_-x.2;omega⟩⟩)⟩
instance af7(l:List Nat):DenI prog 266 [.c (dB l)] (l.length<=1000000000000/\Lb l/\val l<18446744073709551616) (.int .u64 ((val l:Nat):Int)):=⟨λhp=>by
 refine iJ ζ (λhl=>?_);simp only[qL,nX,cellsOf,bW,and_true,true_and]at hl
 all_goals refine aS func266 rfl ?_
 all_goals first
  |((conv=>whnf);refine Sw.Loop.inv (α:=Nat) (λx=>[(0,.c (dB l)),(3,.int .u64 (val (l.drop x):Nat)),(4,.int .i64 ((x:Int)-1))]) (λx=>[]) (λx=>x<=l.length) (λx=>x) l.length ?_ ?_ ?_ (λx hx=>?_))
 all_goals(repeat'((try(conv=>whnf));first
  |(with_reducible first|refine aO (λ_=>?_) (λ_=>?_)|refine au ?_ ?_)|apply zaa))
 all_goals(try apply zab)
 all_goals first|(show SubE _ _;repeat'(first|exact trivial|refine And.intro ?_ ?_))|(show SubB _ _;repeat'(first|exact trivial|refine And.intro ?_ ?_))|skip
 all_goals(try rfl)
 all_goals(try simp(disch:=omega) only[bW,xB,dI,AO,bG,dO,wu64,zO,jB,Uo,kR,kS]at *)
 all_goals first
  |omega|rfl|(rw[dA (jg _)];rfl)|(refine iE ?_;rw[show x=0 by omega,UW])|(have hd:=ru (l:=l) (k:=x) ω hx;have hle:=Ag l (x-1);have hg:=hp.2.1.getD (x-1);((conv=>whnf);exact⟨x-1,⟨⟨rfl,iS (by(try simp(disch:=omega) only[dO,wu64,bG,kR,kS,jB,yU,Qx,P9,Gw,MW,NH])<;>omega),xu ω ω,trivial⟩,⟨⟩,ω,by show x-1<x;omega⟩⟩))⟩
instance aiF(n:Nat):DenI prog 192 [.int .u64 (n:Nat)] (n<18446744073709551616) (.c (dB (lim n))):=⟨λhp=>by
 refine iJ ζ (λhl=>?_);simp only[qL,nX,cellsOf,bW,and_true,true_and]at hl
 all_goals refine aS func192 rfl ?_
 all_goals first
  |((conv=>whnf);refine Sw.Loop.ghost 3 11 209 1 ?_ rfl rfl rfl ψ)
 all_goals first
  |((conv=>whnf);refine Sw.Loop.inv (α:=List Nat×Nat) (λx=>[(0,.int .u64 (x.2:Nat)),(3,.gs 11 x.1.length)]) (λx=>[(11,.grow 209 1 (x.1.map λx=>[.v (u32 x)]))]) (λx=>x.2<=n/\lim n=x.1++lim x.2) (λx=>x.2) ([],n) ?_ ?_ ?_ (λx hx=>?_))
 all_goals(repeat'((try(conv=>whnf));first
  |(with_reducible refine aO (λ_=>?_) (λ_=>?_))|refine aK ?_ ?_|apply zaa))
 all_goals(try apply zab)
 all_goals first|(show SubE _ _;repeat'(first|exact trivial|refine And.intro ?_ ?_))|(show SubB _ _;repeat'(first|exact trivial|refine And.intro ?_ ?_))|skip
 all_goals(try rfl)
 all_goals(try simp only[bW,AO,dI]at *)
 all_goals first
  |omega|exact⟨jg _,rfl⟩|exact UF hx ω|(have:=Si hp hx ω;simp only[rQ,bW,ji,mg];omega)|(have h2:=hx.1;((conv=>whnf);exact⟨(x.1++[x.2%1000000000],x.2/1000000000),⟨⟨iS (by(try simp(disch:=omega) only[dO,wu64,bG,kR,kS,jB,yU,Qx,P9,Gw,MW,NH])<;>omega),gsE η,trivial⟩,⟨Md (by(try simp(disch:=omega) only[dO,wu64,bG,kR,kS,jB,yU,Qx,P9,Gw,MW,NH])<;>omega),trivial⟩,(NG hx ω),by show x.2/1000000000<x.2;omega⟩⟩))⟩
instance ai0(n:Nat):DenI prog 220 [.int .u64 (n:Nat)] (n<18446744073709551616) (.c (dB (pad 3 n))):=⟨λhp=>by
 refine iJ ζ (λhl=>?_);simp only[qL,nX,cellsOf,bW,and_true,true_and]at hl
 all_goals refine aS func220 rfl ?_
 all_goals(repeat'((try(conv=>whnf));first
  |refine aK ?_ ?_|apply zaa))
 all_goals(try apply zab)
 all_goals first
  |omega|exact SH ω (by(try simp(disch:=omega) only[dO,wu64,bG,kR,kS,jB,yU,Qx,P9,Gw,MW,NH])<;>omega) (by(try simp(disch:=omega) only[dO,wu64,bG,kR,kS,jB,yU,Qx,P9,Gw,MW,NH])<;>omega) (by(try simp(disch:=omega) only[dO,wu64,bG,kR,kS,jB,yU,Qx,P9,Gw,MW,NH])<;>omega)⟩
instance akG(a:Int):DenI prog 313 [Z a] (True) (.tup [.int .u64 ((if sz a<=2 then a.natAbs else 0:Nat):Int),.bool (decide (sz a<=2))]):=⟨λhp=>by
 refine iJ ζ (λhl=>?_);simp only[qL,nX,cellsOf,bW,and_true,true_and]at hl
 all_goals refine aS func313 rfl ?_
 all_goals(repeat'((try(conv=>whnf));first
  |(with_reducible refine aO (λ_=>?_) (λ_=>?_))|refine zac ζ ?_|(with_reducible refine au ?_ ?_)|apply zaa))
 all_goals(try apply zab)
 all_goals(try simp only[bW,AO,dI]at *)
 all_goals(have g0:=(bJ a.natAbs).getD 0;have g1:=(bJ a.natAbs).getD 1)
 all_goals first
  |omega|exact aeu ω|exact aeN ω (by(try simp(disch:=omega) only[dO,wu64,bG,kR,kS,jB,yU,Qx,P9,Gw,MW,NH])<;>omega)|exact aee ω (by(try simp(disch:=omega) only[dO,wu64,bG,kR,kS,jB,yU,Qx,P9,Gw,MW,NH])<;>omega)|exact aeZ ω⟩
instance ahv(a:List Nat)(b:Nat):DenI prog 315 [.c (dB a),.int .u32 (b:Nat)] (a.length<=1000000000000/\Lb a/\0<b/\b<1000000000) (.tup [.c (dB (pad a.length (val a / b))),.c (dB [val a % b])]):=⟨λhp=>by
 refine iJ ζ (λhl=>?_);simp only[qL,nX,cellsOf,bW,and_true,true_and]at hl
 all_goals refine aS func315 rfl ?_
 all_goals(repeat'((try(conv=>whnf));first
  |refine aJ ?_ ?_))
 all_goals(try apply zab)
 all_goals first
  |((conv=>whnf);refine Sw.Loop.inv (α:=List Nat×Nat×Nat) (λx=>[(0,.c (dB a)),(1,.int .u32 (b:Nat)),(6,.gs 12 a.length),(7,.int .u64 (x.2.1:Nat)),(8,.int .i64 ((x.2.2:Int)-1))]) (λx=>[(12,.grow 209 1 (x.1.map λx=>[.v (u32 x)]))]) (λx=>x.2.2<=a.length/\x.1.length=a.length/\Lb x.1/\x.2.1<b/\val (a.drop x.2.2)=b*val (x.1.drop x.2.2)+x.2.1) (λx=>x.2.2) (List.replicate a.length 0,0,a.length) ?_ ?_ ?_ (λx hx=>?_))|skip
 all_goals(repeat'((try(conv=>whnf));first
  |(with_reducible refine aO (λ_=>?_) (λ_=>?_))|refine aK ?_ ?_|refine zac ζ ?_|(with_reducible refine au ?_ ?_)|apply zaa))
 all_goals(try apply zab)
 all_goals first|(show SubE _ _;repeat'(first|exact trivial|refine And.intro ?_ ?_))|(show SubB _ _;repeat'(first|exact trivial|refine And.intro ?_ ?_))|skip
 all_goals(try rfl)
 all_goals(try simp(disch:=omega) only[bW,xB,dI,AO,bG,dO,wu64,zO,jB,Uo,kR,kS]at *)
 all_goals first
  |omega|rfl|exact lQ _ _|exact⟨ω,η,gV _,ω,by rw[dA (jg _),dA η];simp⟩|(have h2:=hx.2.2.2.2;rw[show x.2.2=0 by omega]at h2;exact aaL hp.2.2.1 hx.2.2.2.1 hx.2.1 hx.2.2.1 h2)|(have ga:=hp.2.1.getD (x.2.2-1);have c4:=Int.natCast_nonneg ((x.2.1*1000000000+a.getD (x.2.2-1) 0)/b);obtain⟨c1,c2,c3⟩:=Fh hx.2.2.2.1 hp.2.2.2 ga (t:=_) rfl;obtain⟨h1,h2,h3,h4,h5⟩:=hx;((conv=>whnf);exact⟨(x.1.set (x.2.2-1) ((x.2.1*1000000000+a.getD (x.2.2-1) 0)/b),(x.2.1*1000000000+a.getD (x.2.2-1) 0)%b,x.2.2-1),⟨⟨rfl,rfl,rfl,iS (by(try simp(disch:=omega) only[dO,wu64,bG,kR,kS,jB,yU,Qx,P9,Gw,MW,NH])<;>omega),xu ω ω,trivial⟩,⟨xC (by(try simp(disch:=omega) only[dO,wu64,bG,kR,kS,jB,yU,Qx,P9,Gw,MW,NH])<;>omega) (by(try simp(disch:=omega) only[dO,wu64,bG,kR,kS,jB,yU,Qx,P9,Gw,MW,NH])<;>omega),trivial⟩,⟨by show x.2.2-1<=_;omega,by simp only[kG];exact h2,gG h3 c1,c2,zW ω h1 ω h5 rfl rfl⟩,by show x.2.2-1<x.2.2;omega⟩⟩))⟩
instance(b:Nat):DenI prog 254 [.c (.sl 1 [[.v (.int .u32 (b:Nat))]])] True (.c (dB (aG [b]))):=⟨λhp=>(inferInstance:DenI prog 254 [.c (dB [b])] _ _).den hp⟩
instance anA(a:List Nat)(b:Nat):DenI prog 312 [.c (dB a),.int .u32 (b:Nat)] (a.length<=1000000000000/\Lb a/\b<1000000000) (.c (dB (lim (val a*b)))):=⟨λhp=>by
 refine iJ ζ (λhl=>?_);simp only[qL,nX,cellsOf,bW,and_true,true_and]at hl
 all_goals refine aS func312 rfl ?_
 all_goals(repeat'((try(conv=>whnf));first
  |refine aC ?_|refine ak ?_ ?_|apply zaa))
 all_goals(try apply zab)
 all_goals first
  |exact⟨hp.1,by have:=iq [b];simp at this;omega,hp.2.1,pK (Lb.cons hp.2.2 Lb.nil)⟩|(refine lE ?_;rw[gQ];simp[val])⟩
instance ajv(a b:List Nat):DenI prog 270 [.c (dB a),.c (dB b)] (a.length<=1000000000000/\b.length<=1000000000000/\Lb a/\Lb b) (.c (dB (lim (val a+val b)))):=⟨λhp=>by
 refine iJ ζ (λhl=>?_);simp only[qL,nX,cellsOf,bW,and_true,true_and]at hl
 all_goals refine aS func270 rfl ?_
 all_goals(repeat'((try(conv=>whnf));first
  |(with_reducible refine aO (λ_=>?_) (λ_=>?_))|refine aJ ?_ ?_))
 all_goals(try apply zab)
 all_goals(try simp(disch:=omega) only[bW,xB,dI,AO,bG,dO,wu64,zO,jB,Uo,kR,kS]at *)
 all_goals first
  |(have hh:b.length<=a.length:=ω;(conv=>whnf);refine Sw.Loop.inv (α:=List Nat×Nat×Nat) (λx=>[(0,.c (dB a)),(1,.c (dB b)),(5,.gs 18 (a.length+1)),(6,.int .u32 (x.2.1:Nat)),(7,.int .i64 (x.2.2:Nat))]) (λx=>[(18,.grow 209 1 (x.1.map λx=>[.v (u32 x)]))]) (λx=>x.2.2<=a.length/\x.1.length=a.length+1/\Lb x.1/\x.2.1<=1/\val (x.1.take x.2.2)+1000000000^x.2.2*x.2.1=val (a.take x.2.2)+val (b.take x.2.2)) (λx=>a.length-x.2.2) (List.replicate (a.length+1) 0,0,0) ?_ ?_ ?_ (λx hx=>?_))|(have hh:a.length<=b.length:=ω;(conv=>whnf);refine Sw.Loop.inv (α:=List Nat×Nat×Nat) (λx=>[(0,.c (dB b)),(1,.c (dB a)),(5,.gs 18 (b.length+1)),(6,.int .u32 (x.2.1:Nat)),(7,.int .i64 (x.2.2:Nat))]) (λx=>[(18,.grow 209 1 (x.1.map λx=>[.v (u32 x)]))]) (λx=>x.2.2<=b.length/\x.1.length=b.length+1/\Lb x.1/\x.2.1<=1/\val (x.1.take x.2.2)+1000000000^x.2.2*x.2.1=val (b.take x.2.2)+val (a.take x.2.2)) (λx=>b.length-x.2.2) (List.replicate (b.length+1) 0,0,0) ?_ ?_ ?_ (λx hx=>?_))|skip
 all_goals(repeat'((try(conv=>whnf));first
  |(with_reducible refine aO (λ_=>?_) (λ_=>?_))|refine aK ?_ ?_|(with_reducible refine au ?_ ?_)))
 all_goals(try apply zab)
 all_goals first|(show SubE _ _;repeat'(first|exact trivial|refine And.intro ?_ ?_))|(show SubB _ _;repeat'(first|exact trivial|refine And.intro ?_ ?_))|skip
 all_goals(try rfl)
 all_goals(try simp only[bW,AO,dI]at *)
 all_goals first
  |omega|exact lQ _ _|(obtain⟨h1,h2,h3,h4,h5⟩:=hx;have ga:=hp.2.2.1.getD x.2.2;have gb:=hp.2.2.2.getD x.2.2;have gz:=getD_none (l:=b) (k:=x.2.2) ω;(conv=>whnf);exact⟨(x.1.set x.2.2 ((x.2.1+a.getD x.2.2 0+b.getD x.2.2 0)%1000000000),(x.2.1+a.getD x.2.2 0+b.getD x.2.2 0)/1000000000,x.2.2+1),⟨⟨rfl,rfl,rfl,iS (by(try simp(disch:=omega) only[dO,wu64,bG,kR,kS])<;>omega),kC ω,trivial⟩,⟨xC rfl (by(try simp(disch:=omega) only[dO,wu64,bG,kR,kS])<;>omega),trivial⟩,⟨by show x.2.2+1<=_;omega,by simp only[kG];exact h2,gG h3 (qx _ ψ),by show _/1000000000<=1;omega,vN ω h5 rfl rfl rfl⟩,by show _-(x.2.2+1)<_-x.2.2;omega⟩⟩)|(obtain⟨h1,h2,h3,h4,h5⟩:=hx;have ga:=hp.2.2.1.getD x.2.2;have gb:=hp.2.2.2.getD x.2.2;(conv=>whnf);exact⟨(x.1.set x.2.2 ((x.2.1+a.getD x.2.2 0+b.getD x.2.2 0)%1000000000),(x.2.1+a.getD x.2.2 0+b.getD x.2.2 0)/1000000000,x.2.2+1),⟨⟨rfl,rfl,rfl,iS (by(try simp(disch:=omega) only[dO,wu64,bG,kR,kS])<;>omega),kC ω,trivial⟩,⟨xC rfl (by(try simp(disch:=omega) only[dO,wu64,bG,kR,kS])<;>omega),trivial⟩,⟨by show x.2.2+1<=_;omega,by simp only[kG];exact h2,gG h3 (qx _ ψ),by show _/1000000000<=1;omega,vN ω h5 rfl rfl rfl⟩,by show _-(x.2.2+1)<_-x.2.2;omega⟩⟩)|(obtain⟨h1,h2,h3,h4,h5⟩:=hx;have ga:=hp.2.2.2.getD x.2.2;have gb:=hp.2.2.1.getD x.2.2;have gz:=getD_none (l:=a) (k:=x.2.2) ω;(conv=>whnf);exact⟨(x.1.set x.2.2 ((x.2.1+b.getD x.2.2 0+a.getD x.2.2 0)%1000000000),(x.2.1+b.getD x.2.2 0+a.getD x.2.2 0)/1000000000,x.2.2+1),⟨⟨rfl,rfl,rfl,iS (by(try simp(disch:=omega) only[dO,wu64,bG,kR,kS])<;>omega),kC ω,trivial⟩,⟨xC rfl (by(try simp(disch:=omega) only[dO,wu64,bG,kR,kS])<;>omega),trivial⟩,⟨by show x.2.2+1<=_;omega,by simp only[kG];exact h2,gG h3 (qx _ ψ),by show _/1000000000<=1;omega,vN ω h5 rfl rfl rfl⟩,by show _-(x.2.2+1)<_-x.2.2;omega⟩⟩)|(obtain⟨h1,h2,h3,h4,h5⟩:=hx;have ga:=hp.2.2.2.getD x.2.2;have gb:=hp.2.2.1.getD x.2.2;(conv=>whnf);exact⟨(x.1.set x.2.2 ((x.2.1+b.getD x.2.2 0+a.getD x.2.2 0)%1000000000),(x.2.1+b.getD x.2.2 0+a.getD x.2.2 0)/1000000000,x.2.2+1),⟨⟨rfl,rfl,rfl,iS (by(try simp(disch:=omega) only[dO,wu64,bG,kR,kS])<;>omega),kC ω,trivial⟩,⟨xC rfl (by(try simp(disch:=omega) only[dO,wu64,bG,kR,kS])<;>omega),trivial⟩,⟨by show x.2.2+1<=_;omega,by simp only[kG];exact h2,gG h3 (qx _ ψ),by show _/1000000000<=1;omega,vN ω h5 rfl rfl rfl⟩,by show _-(x.2.2+1)<_-x.2.2;omega⟩⟩)|exact⟨ω,η,gV _,ω,by simp[val]⟩|skip
 all_goals(try simp only[akO]at *)
 all_goals(repeat'((try(conv=>whnf));first
  |refine aC ?_|apply zaa))
 all_goals first
  |(simp only[bW,kG];omega)|exact YO hx.2.1 ω hh hx.2.2.1 hx.2.2.2.1 hx.2.2.2.2 ω⟩
instance aiJ(a b:List Nat):DenI prog 271 [.c (dB a),.c (dB b)] (a.length<=1000000000000/\b.length<=1000000000000/\Lb a/\Lb b/\b.length<=a.length/\val b<=val a) (.c (dB (lim (val a-val b)))):=⟨λhp=>by
 refine iJ ζ (λhl=>?_);simp only[qL,nX,cellsOf,bW,and_true,true_and]at hl
 all_goals refine aS func271 rfl ?_
 all_goals(repeat'((try(conv=>whnf));first
  |refine aJ ?_ ?_))
 all_goals(try apply zab)
 all_goals first
  |((conv=>whnf);refine Sw.Loop.inv (α:=List Nat×Nat×Nat) (λx=>[(0,.c (dB a)),(1,.c (dB b)),(5,.gs 11 a.length),(6,.int .u32 (x.2.1:Nat)),(7,.int .i64 (x.2.2:Nat))]) (λx=>[(11,.grow 209 1 (x.1.map λx=>[.v (u32 x)]))]) (λx=>x.2.2<=a.length/\x.1.length=a.length/\Lb x.1/\x.2.1<=1/\val (x.1.take x.2.2)+val (b.take x.2.2)=val (a.take x.2.2)+1000000000^x.2.2*x.2.1) (λx=>a.length-x.2.2) (List.replicate a.length 0,0,0) ?_ ?_ ?_ (λx hx=>?_))|skip
 all_goals(repeat'((try(conv=>whnf));first
  |refine aC ?_|(with_reducible refine aO (λ_=>?_) (λ_=>?_))|refine aK ?_ ?_|(with_reducible refine au ?_ ?_)|apply zaa))
 all_goals(try apply zab)
 all_goals first|(show SubE _ _;repeat'(first|exact trivial|refine And.intro ?_ ?_))|(show SubB _ _;repeat'(first|exact trivial|refine And.intro ?_ ?_))|skip
 all_goals(try rfl)
 all_goals(try simp only[bW,AO,dI]at *)
 all_goals first
  |omega|rfl|exact lQ _ _|exact⟨ω,η,gV _,ω,by simp[val]⟩|exact Un hx.2.2.1 hp.2.2.1 hx.2.1 ω hp.2.2.2.2.1 hp.2.2.2.2.2 hx.2.2.2.2|(obtain⟨h1,h2,h3,h4,h5⟩:=hx;have ga:=hp.2.2.1.getD x.2.2;have gb:=hp.2.2.2.1.getD x.2.2;have gz:=getD_none (l:=b) (k:=x.2.2) ω;(try simp(disch:=omega) only[dO]at *);(conv=>whnf);exact⟨(x.1.set x.2.2 ((a.getD x.2.2 0+1000000000-x.2.1-b.getD x.2.2 0)%1000000000),1-(a.getD x.2.2 0+1000000000-x.2.1-b.getD x.2.2 0)/1000000000,x.2.2+1),⟨⟨rfl,rfl,rfl,iS (by(try simp(disch:=omega) only[dO,wu64,bG,kR,kS])<;>omega),kC ω,trivial⟩,⟨xC rfl (by(try simp(disch:=omega) only[dO,wu64,bG,kR,kS])<;>omega),trivial⟩,⟨by show x.2.2+1<=_;omega,by simp only[kG];exact h2,gG h3 (qx _ ψ),by show 1-_/1000000000<=1;omega,tK ω h5 (by dsimp only;omega)⟩,by show _-(x.2.2+1)<_-x.2.2;omega⟩⟩)|(obtain⟨h1,h2,h3,h4,h5⟩:=hx;have ga:=hp.2.2.1.getD x.2.2;have gb:=hp.2.2.2.1.getD x.2.2;(try simp(disch:=omega) only[dO]at *);(conv=>whnf);exact⟨(x.1.set x.2.2 ((a.getD x.2.2 0+1000000000-x.2.1-b.getD x.2.2 0)%1000000000),1-(a.getD x.2.2 0+1000000000-x.2.1-b.getD x.2.2 0)/1000000000,x.2.2+1),⟨⟨rfl,rfl,rfl,iS (by(try simp(disch:=omega) only[dO,wu64,bG,kR,kS])<;>omega),kC ω,trivial⟩,⟨xC rfl (by(try simp(disch:=omega) only[dO,wu64,bG,kR,kS])<;>omega),trivial⟩,⟨by show x.2.2+1<=_;omega,by simp only[kG];exact h2,gG h3 (qx _ ψ),by show 1-_/1000000000<=1;omega,tK ω h5 (by dsimp only;omega)⟩,by show _-(x.2.2+1)<_-x.2.2;omega⟩⟩)⟩
instance ai9(a b:List Nat):DenI prog 319 [.c (dB a),.c (dB b)] (a.length<=1000000000000/\b.length<=1000000000000/\Lb a/\Lb b/\b.length<=a.length/\val b<=val a) (.c (dB (pad a.length (val a-val b)))):=⟨λhp=>by
 refine iJ ζ (λhl=>?_);simp only[qL,nX,cellsOf,bW,and_true,true_and]at hl
 all_goals refine aS func319 rfl ?_
 all_goals(repeat'((try(conv=>whnf));first
  |refine aJ ?_ ?_))
 all_goals(try apply zab)
 all_goals first
  |((conv=>whnf);refine Sw.Loop.inv (α:=List Nat×Nat×Nat) (λx=>[(1,.c (dB b)),(5,.gs 12 a.length),(6,.int .u32 (x.2.1:Nat)),(13,.c (dB a)),(14,.int .i64 a.length),(15,.int .i64 (x.2.2:Nat))]) (λx=>[(12,.grow 209 1 (x.1.map λx=>[.v (u32 x)]))]) (λx=>x.2.2<=a.length/\x.1.length=a.length/\Lb x.1/\x.2.1<=1/\val (x.1.take x.2.2)+val (b.take x.2.2)=val (a.take x.2.2)+1000000000^x.2.2*x.2.1) (λx=>a.length-x.2.2) (List.replicate a.length 0,0,0) ?_ ?_ ?_ (λx hx=>?_))|skip
 all_goals(repeat'((try(conv=>whnf));first
  |(with_reducible refine aO (λ_=>?_) (λ_=>?_))|refine aK ?_ ?_|(with_reducible refine au ?_ ?_)|apply zaa))
 all_goals(try apply zab)
 all_goals first|(show SubE _ _;repeat'(first|exact trivial|refine And.intro ?_ ?_))|(show SubB _ _;repeat'(first|exact trivial|refine And.intro ?_ ?_))|skip
 all_goals(try rfl)
 all_goals(try simp only[bW,AO,dI]at *)
 all_goals first
  |omega|rfl|exact lQ _ _|(obtain⟨h1,h2,h3,h4,h5⟩:=hx;have ga:=hp.2.2.1.getD x.2.2;have gb:=hp.2.2.2.1.getD x.2.2;have gz:=getD_none (l:=b) (k:=x.2.2) ω;(try simp(disch:=omega) only[dO]at *);(conv=>whnf);exact⟨(x.1.set x.2.2 ((a.getD x.2.2 0+1000000000-x.2.1-b.getD x.2.2 0)%1000000000),1-(a.getD x.2.2 0+1000000000-x.2.1-b.getD x.2.2 0)/1000000000,x.2.2+1),⟨⟨rfl,rfl,iS (by(try simp(disch:=omega) only[dO,wu64,bG,kR,kS])<;>omega),rfl,rfl,kC ω,trivial⟩,⟨xC rfl (by(try simp(disch:=omega) only[dO,wu64,bG,kR,kS])<;>omega),trivial⟩,⟨by show x.2.2+1<=_;omega,by simp only[kG];exact h2,gG h3 (qx _ ψ),by show 1-_/1000000000<=1;omega,tK ω h5 (by dsimp only;omega)⟩,by show _-(x.2.2+1)<_-x.2.2;omega⟩⟩)|(obtain⟨h1,h2,h3,h4,h5⟩:=hx;have ga:=hp.2.2.1.getD x.2.2;have gb:=hp.2.2.2.1.getD x.2.2;(try simp(disch:=omega) only[dO]at *);(conv=>whnf);exact⟨(x.1.set x.2.2 ((a.getD x.2.2 0+1000000000-x.2.1-b.getD x.2.2 0)%1000000000),1-(a.getD x.2.2 0+1000000000-x.2.1-b.getD x.2.2 0)/1000000000,x.2.2+1),⟨⟨rfl,rfl,iS (by(try simp(disch:=omega) only[dO,wu64,bG,kR,kS])<;>omega),rfl,rfl,kC ω,trivial⟩,⟨xC rfl (by(try simp(disch:=omega) only[dO,wu64,bG,kR,kS])<;>omega),trivial⟩,⟨by show x.2.2+1<=_;omega,by simp only[kG];exact h2,gG h3 (qx _ ψ),by show 1-_/1000000000<=1;omega,tK ω h5 (by dsimp only;omega)⟩,by show _-(x.2.2+1)<_-x.2.2;omega⟩⟩)|exact⟨ω,η,gV _,ω,by simp[val]⟩|exact afp hx.2.2.1 hx.2.1 (Fz hx.2.2.1 hp.2.2.1 hx.2.1 ω hp.2.2.2.2.1 hp.2.2.2.2.2 hx.2.2.2.2)⟩
instance alh(a b:List Nat):DenI prog 318 [.c (dB a),.c (dB b)] (a.length<=1000000000000/\b.length<=1000000000000/\Lb a/\Lb b) (.c (dB (pad (max a.length b.length+1) (val a+val b)))):=⟨λhp=>by
 refine iJ ζ (λhl=>?_);simp only[qL,nX,cellsOf,bW,and_true,true_and]at hl
 all_goals refine aS func318 rfl ?_
 all_goals(repeat'((try(conv=>whnf));first
  |(with_reducible refine aO (λ_=>?_) (λ_=>?_))|refine aJ ?_ ?_))
 all_goals(try apply zab)
 all_goals(try simp(disch:=omega) only[bW,xB,dI,AO,bG,dO,wu64,zO,jB,Uo,kR,kS]at *)
 all_goals first
  |(have hh:b.length<=a.length:=ω;(conv=>whnf);refine Sw.Loop.inv (α:=List Nat×Nat×Nat) (λx=>[(1,.c (dB b)),(5,.gs 19 x.1.length),(6,.int .u32 (x.2.1:Nat)),(20,.c (dB a)),(21,.int .i64 a.length),(22,.int .i64 (x.2.2:Nat))]) (λx=>[(19,.grow 209 1 (x.1.map λx=>[.v (u32 x)]))]) (λx=>x.2.2<=a.length/\x.1.length=x.2.2/\Lb x.1/\x.2.1<=1/\val x.1+1000000000^x.2.2*x.2.1=val (a.take x.2.2)+val (b.take x.2.2)) (λx=>a.length-x.2.2) ([],0,0) ?_ ?_ ?_ (λx hx=>?_))|(have hh:a.length<=b.length:=ω;(conv=>whnf);refine Sw.Loop.inv (α:=List Nat×Nat×Nat) (λx=>[(1,.c (dB a)),(5,.gs 19 x.1.length),(6,.int .u32 (x.2.1:Nat)),(20,.c (dB b)),(21,.int .i64 b.length),(22,.int .i64 (x.2.2:Nat))]) (λx=>[(19,.grow 209 1 (x.1.map λx=>[.v (u32 x)]))]) (λx=>x.2.2<=b.length/\x.1.length=x.2.2/\Lb x.1/\x.2.1<=1/\val x.1+1000000000^x.2.2*x.2.1=val (b.take x.2.2)+val (a.take x.2.2)) (λx=>b.length-x.2.2) ([],0,0) ?_ ?_ ?_ (λx hx=>?_))|skip
 all_goals(repeat'((try(conv=>whnf));first
  |(with_reducible refine aO (λ_=>?_) (λ_=>?_))|refine aK ?_ ?_|(with_reducible refine au ?_ ?_)|apply zaa))
 all_goals(try apply zab)
 all_goals first|(show SubE _ _;repeat'(first|exact trivial|refine And.intro ?_ ?_))|(show SubB _ _;repeat'(first|exact trivial|refine And.intro ?_ ?_))|skip
 all_goals(try rfl)
 all_goals(try simp only[bW,AO,dI]at *)
 all_goals first
  |omega|rfl|(obtain⟨h1,h2,h3,h4,h5⟩:=hx;have ga:=hp.2.2.1.getD x.2.2;have gb:=hp.2.2.2.getD x.2.2;have gz:=getD_none (l:=b) (k:=x.2.2) ω;(try simp(disch:=omega) only[dO]at *);(conv=>whnf);exact⟨(x.1++[(x.2.1+a.getD x.2.2 0+b.getD x.2.2 0)%1000000000],(x.2.1+a.getD x.2.2 0+b.getD x.2.2 0)/1000000000,x.2.2+1),⟨⟨rfl,gsE η,iS (by(try simp(disch:=omega) only[dO,wu64,bG,kR,kS])<;>omega),rfl,rfl,kC ω,trivial⟩,⟨Md (by(try simp(disch:=omega) only[dO,wu64,bG,kR,kS])<;>omega),trivial⟩,⟨by show x.2.2+1<=_;omega,by simp only[rQ,ji,mg];omega,sW h3 (qx _ ψ),by show _/1000000000<=1;omega,vH h2 h5 rfl rfl rfl⟩,by show _-(x.2.2+1)<_-x.2.2;omega⟩⟩)|(obtain⟨h1,h2,h3,h4,h5⟩:=hx;have ga:=hp.2.2.1.getD x.2.2;have gb:=hp.2.2.2.getD x.2.2;(try simp(disch:=omega) only[dO]at *);(conv=>whnf);exact⟨(x.1++[(x.2.1+a.getD x.2.2 0+b.getD x.2.2 0)%1000000000],(x.2.1+a.getD x.2.2 0+b.getD x.2.2 0)/1000000000,x.2.2+1),⟨⟨rfl,gsE η,iS (by(try simp(disch:=omega) only[dO,wu64,bG,kR,kS])<;>omega),rfl,rfl,kC ω,trivial⟩,⟨Md (by(try simp(disch:=omega) only[dO,wu64,bG,kR,kS])<;>omega),trivial⟩,⟨by show x.2.2+1<=_;omega,by simp only[rQ,ji,mg];omega,sW h3 (qx _ ψ),by show _/1000000000<=1;omega,vH h2 h5 rfl rfl rfl⟩,by show _-(x.2.2+1)<_-x.2.2;omega⟩⟩)|(obtain⟨h1,h2,h3,h4,h5⟩:=hx;have ga:=hp.2.2.2.getD x.2.2;have gb:=hp.2.2.1.getD x.2.2;have gz:=getD_none (l:=a) (k:=x.2.2) ω;(try simp(disch:=omega) only[dO]at *);(conv=>whnf);exact⟨(x.1++[(x.2.1+b.getD x.2.2 0+a.getD x.2.2 0)%1000000000],(x.2.1+b.getD x.2.2 0+a.getD x.2.2 0)/1000000000,x.2.2+1),⟨⟨rfl,gsE η,iS (by(try simp(disch:=omega) only[dO,wu64,bG,kR,kS])<;>omega),rfl,rfl,kC ω,trivial⟩,⟨Md (by(try simp(disch:=omega) only[dO,wu64,bG,kR,kS])<;>omega),trivial⟩,⟨by show x.2.2+1<=_;omega,by simp only[rQ,ji,mg];omega,sW h3 (qx _ ψ),by show _/1000000000<=1;omega,vH h2 h5 rfl rfl rfl⟩,by show _-(x.2.2+1)<_-x.2.2;omega⟩⟩)|(obtain⟨h1,h2,h3,h4,h5⟩:=hx;have ga:=hp.2.2.2.getD x.2.2;have gb:=hp.2.2.1.getD x.2.2;(try simp(disch:=omega) only[dO]at *);(conv=>whnf);exact⟨(x.1++[(x.2.1+b.getD x.2.2 0+a.getD x.2.2 0)%1000000000],(x.2.1+b.getD x.2.2 0+a.getD x.2.2 0)/1000000000,x.2.2+1),⟨⟨rfl,gsE η,iS (by(try simp(disch:=omega) only[dO,wu64,bG,kR,kS])<;>omega),rfl,rfl,kC ω,trivial⟩,⟨Md (by(try simp(disch:=omega) only[dO,wu64,bG,kR,kS])<;>omega),trivial⟩,⟨by show x.2.2+1<=_;omega,by simp only[rQ,ji,mg];omega,sW h3 (qx _ ψ),by show _/1000000000<=1;omega,vH h2 h5 rfl rfl rfl⟩,by show _-(x.2.2+1)<_-x.2.2;omega⟩⟩)|exact⟨ω,rfl,Lb.nil,ω,by simp[val]⟩|(simp only[bW,rQ,ji,mg];omega)|(refine adk hx.2.2.1 ω ω ?_;have h5:=hx.2.2.2.2;rw[cZ (l:=a) ω,cZ (l:=b) ω]at h5;rw[hx.2.1];omega)⟩
end Go.Proofs.YtdpkjhnfklkkjaaGreat
namespace Go.Sw
open Go
theorem Oc{n:Int}(h:0<=n)(h2:n<=9223372036854775807):IntKind.u64.wrap n=((n.natAbs:Nat):Int):=by rw[IntKind.wrap_u64];omega
theorem Oh{n:Int}(h:n<0)(h2 : -9223372036854775808<=n):IntKind.u64.wrap (0-IntKind.u64.wrap n)=((n.natAbs:Nat):Int):=by rw[IntKind.wrap_u64,IntKind.wrap_u64];omega
theorem Rz{x y:Int}(h:x=y):aW [Z x]=Z y:=by rw[h];rfl
theorem Yl{a b qs rs:List Nat}(h4:Lb qs)(h5:Lb rs)(h6:val a=val b*val qs+val rs)(h7:val rs<val b)(h8:qs.length=Zx a b)(h9:rs.length=Ya a b):qs=pad (Zx a b) (val a/val b)/\rs=pad (Ya a b) (val a%val b):=by
 have h1:val a/val b=val qs:=by rw[h6,Gx,Nat.add_comm,Nat.add_mul_div_right _ _ ω,Nat.div_eq_of_lt h7,uY]
 have h2:val a%val b=val rs:=by rw[h6,Nat.mul_add_mod,YT h7]
 rw[h1,h2,<-h8,<-h9];exact⟨BF _ h4,BF _ h5⟩
section
variable {a b:Int}
theorem acE(h:(((lim a.natAbs).length:Nat):Int)=0):aW [AV.c (Cell.v (.int .i64 0))]=AV.int .i64 (qj a):=iE (by have:=eH (n:=a.natAbs);unfold qj;repeat' split;all_goals omega)
theorem adn(h:a<0):aW [AV.c (Cell.v (.int .i64 (-1)))]=AV.int .i64 (qj a):=iE (by unfold qj;repeat' split;all_goals omega)
theorem acJ(h:¬a<0)(h2:(((lim a.natAbs).length:Nat):Int)>0):aW [AV.c (Cell.v (.int .i64 1))]=AV.int .i64 (qj a):=iE (by have:=eH (n:=a.natAbs);unfold qj;repeat' split;all_goals omega)
theorem acW(h:(decide (a<0) != decide (b<0))=true)(ha:a<0):aW [AV.c (Cell.v (.int .i64 (-1)))]=AV.int .i64 (kF a b):=iE (by have hb:¬b<0:=(λhb=>by simp[ha,hb]at h);rw[aby ω])
theorem adt(h:(decide (a<0) != decide (b<0))=true)(ha:¬a<0):aW [AV.c (Cell.v (.int .i64 1))]=AV.int .i64 (kF a b):=iE (by have hb:b<0:=Decidable.byContradiction (λhb=>by simp[ha,hb]at h);rw[ZH ω])
theorem acL(h:(decide (a<0) != decide (b<0))=false)(ha:a<0):aW [AV.c (Cell.v (.int .i64 (iy (val (lim b.natAbs)) (val (lim a.natAbs)))))]=AV.int .i64 (kF a b) :=
 iE (by rw[aX,aX,Yy ha (Decidable.byContradiction λhb=>by simp[ha,hb]at h)])
theorem ady(h:(decide (a<0) != decide (b<0))=false)(ha:¬a<0):aW [AV.c (Cell.v (.int .i64 (iy (val (lim a.natAbs)) (val (lim b.natAbs)))))]=AV.int .i64 (kF a b) :=
 iE (by rw[aX,aX,VQ ha (λhb=>by simp[ha,hb]at h)])
theorem Xg(h:(decide (a<0) == decide (b<0))=true):decide (a<0)=decide (b<0):=by simpa using h
theorem KE(h:(decide (a<0) == decide (b<0))=false):¬decide (a<0)=decide (b<0):=by simpa using h
theorem ael(h:(decide (a<0) == decide (b<0))=true):aW [AV.c (Cell.v (.bool (decide (iy (val (lim a.natAbs)) (val (lim b.natAbs))=0))))]=AV.bool (decide (a=b)) :=
 bE (by have h:=Xg h;rw[decide_eq_decide]at h;rw[aX,aX,decide_eq_decide,Xu];omega)
theorem adU(h:(decide (a<0) == decide (b<0))=false):aW [AV.c (Cell.v (.bool false))]=AV.bool (decide (a=b)) :=
 bE (by have h:=KE h;rw[decide_eq_decide]at h;symm;rw[decide_eq_false_iff_not];omega)
theorem adC:aW [Z (gW (!decide (a<0)) (val (lim a.natAbs)))]=Z (-a):=Rz (by rw[aX];exact WT a)
theorem acQ:aW [Z (gW (decide (a<0) != decide (b<0)) (val (lim (val (lim a.natAbs)*val (lim b.natAbs)))))]=Z (a*b):=Rz (by rw[aX,aX,aX];exact MH a b)
theorem acH:aW [Z (gW (decide (a<0) != decide (b<0)) (val (pad ((lim a.natAbs).length+(lim b.natAbs).length) (val (lim a.natAbs)*val (lim b.natAbs)))))]=Z (a*b):=Rz (by
 rw[nI _ _ (by rw[Nat.pow_add];exact Nat.mul_lt_mul'' (iG _ (bJ _)) (iG _ (bJ _))),aX,aX];exact MH a b)
theorem adB(h:(decide (a<0) == decide (b<0))=true):aW [Z (gW (decide (a<0)) (val (lim (val (lim a.natAbs)+val (lim b.natAbs)))))]=Z (a+b):=Rz (by rw[aX,aX,aX];exact JU (Xg h))
theorem adf(h:(decide (a<0) == decide (b<0))=false)(h2:iy (val (lim a.natAbs)) (val (lim b.natAbs))>=0):aW [Z (gW (decide (a<0)) (val (lim (val (lim a.natAbs)-val (lim b.natAbs)))))]=Z (a+b):=Rz (by
 rw[aX,aX]at h2 ⊢;rw[aX];exact xR (KE h) (oW.1 h2))
theorem adv(h:(decide (a<0) == decide (b<0))=false)(h2:¬iy (val (lim a.natAbs)) (val (lim b.natAbs))>=0):aW [Z (gW (decide (b<0)) (val (lim (val (lim b.natAbs)-val (lim a.natAbs)))))]=Z (a+b):=Rz (by
 rw[aX,aX]at h2 ⊢;rw[aX,Int.add_comm];exact xR (λe=>KE h e.symm) (by have:=mt oW.2 h2;omega))
theorem adu(h:(decide (a<0) == decide (b<0))=true):aW [Z (gW (decide (a<0)) (val (pad (max (lim a.natAbs).length (lim b.natAbs).length+1) (val (lim a.natAbs)+val (lim b.natAbs)))))]=Z (a+b):=Rz (by
 have h1:=iG _ (bJ a.natAbs);have h2:=iG _ (bJ b.natAbs);have h3:=Gi (n:=1000000000) ψ (Nat.le_max_left (lim a.natAbs).length (lim b.natAbs).length);have h4:=Gi (n:=1000000000) ψ (Nat.le_max_right (lim a.natAbs).length (lim b.natAbs).length)
 rw[nI _ _ (by rw[EU];omega),aX,aX];exact JU (Xg h))
theorem adi(h:(decide (a<0) == decide (b<0))=false)(h2:¬iy (val (lim a.natAbs)) (val (lim b.natAbs))<0):aW [Z (gW (decide (a<0)) (val (pad (lim a.natAbs).length (val (lim a.natAbs)-val (lim b.natAbs)))))]=Z (a+b):=Rz (by
 have h1:=iG _ (bJ a.natAbs);rw[nI _ _ ω]
 rw[aX,aX]at h2 ⊢;exact xR (KE h) (oW.1 ω))
theorem ac7(h:(decide (a<0) == decide (b<0))=false)(h2:iy (val (lim a.natAbs)) (val (lim b.natAbs))<0):aW [Z (gW (decide (b<0)) (val (pad (lim b.natAbs).length (val (lim b.natAbs)-val (lim a.natAbs)))))]=Z (a+b):=Rz (by
 have h1:=iG _ (bJ b.natAbs);rw[nI _ _ ω]
 rw[aX,aX]at h2 ⊢;rw[Int.add_comm];exact xR (λe=>KE h e.symm) (by have:=uy.1 h2;omega))
theorem zh(h1:sz a<=1000000000)(h2:sz b<=1000000000)(h:b.natAbs<=a.natAbs):(lim a.natAbs).length<=1000000000000/\(lim b.natAbs).length<=1000000000000/\Lb (lim a.natAbs)/\Lb (lim b.natAbs)/\(lim b.natAbs).length<=(lim a.natAbs).length/\val (lim b.natAbs)<=val (lim a.natAbs):=by
 unfold sz at h1 h2;exact⟨ω,ω,bJ _,bJ _,jv h,by rw[aX,aX];exact h⟩
theorem G6(h1:sz a<=1000000000)(h2:sz b<=1000000000):(lim a.natAbs).length<=1000000000000/\(lim b.natAbs).length<=1000000000000/\Lb (lim a.natAbs)/\Lb (lim b.natAbs):=by
 unfold sz at h1 h2;exact⟨ω,ω,bJ _,bJ _⟩
theorem aez(h:¬b<0):AV.agg [Cell.v (.bool (decide ((((lim b.natAbs).map λx=>[Cell.v (u32 x)]).length:Int)>0))),zl b]=Z (-b):=by
 show _=AV.agg [zs (-b),zl (-b)];unfold zs zl;have:=eH (n:=b.natAbs);rw[Int.natAbs_neg,bW,show decide ((((lim b.natAbs).length:Nat):Int)>0)=decide (-b<0) by rw[decide_eq_decide];omega]
theorem ad6(h:b<0):AV.agg [Cell.v (.bool false),zl b]=Z (-b):=by
 show _=AV.agg [zs (-b),zl (-b)];unfold zs zl;rw[Int.natAbs_neg,decide_eq_false (show¬-b<0 by omega)]
theorem ahg(h:kF a (-9223372036854775808)<0):aW [AV.c (Cell.v (.int .i64 0)),AV.c (Cell.v (.bool false))]=AV.tup [.int .i64 (if -9223372036854775808<=a/\a<=9223372036854775807 then a else 0),.bool (decide (-9223372036854775808<=a/\a<=9223372036854775807))]:=by
 have:=DW.1 h;rw[if_neg ω,decide_eq_false ω];rfl
theorem agQ(h:kF a 9223372036854775807>0):aW [AV.c (Cell.v (.int .i64 0)),AV.c (Cell.v (.bool false))]=AV.tup [.int .i64 (if -9223372036854775808<=a/\a<=9223372036854775807 then a else 0),.bool (decide (-9223372036854775808<=a/\a<=9223372036854775807))]:=by
 have:=Ce.1 h;rw[if_neg ω,decide_eq_false ω];rfl
theorem aiO(h:¬kF a (-9223372036854775808)<0)(h2:¬kF a 9223372036854775807>0):-9223372036854775808<=a/\a<=9223372036854775807:=by
 have h3:=mt DW.2 h;have h4:=mt Ce.2 h2;omega
theorem agL{x:Int}(hb : -9223372036854775808<=a/\a<=9223372036854775807)(hx:x=a):aW [AV.c (Cell.v (.int .i64 x)),AV.c (Cell.v (.bool true))]=AV.tup [.int .i64 (if -9223372036854775808<=a/\a<=9223372036854775807 then a else 0),.bool (decide (-9223372036854775808<=a/\a<=9223372036854775807))]:=by
 rw[if_pos hb,decide_eq_true hb,hx];rfl
theorem agh(hb : -9223372036854775808<=a/\a<=9223372036854775807):(lim a.natAbs).length<=1000000000000/\Lb (lim a.natAbs)/\val (lim a.natAbs)<18446744073709551616:=by
 have:=jP hb.1 hb.2;unfold sz at this;exact⟨ω,bJ _,by rw[aX];omega⟩
theorem Vo(h1:sz a<=1000000000)(h2:sz b<=1000000000)(h:¬b.natAbs=0):(lim a.natAbs).length<=100000000000/\(lim b.natAbs).length<=100000000000/\Lb (lim a.natAbs)/\Lb (lim b.natAbs)/\0<b.natAbs:=by
 unfold sz at h1 h2;exact⟨ω,ω,bJ _,bJ _,ω⟩
theorem dqI(h:¬b.natAbs=0):val (pad (Zx (lim a.natAbs) (lim b.natAbs)) (a.natAbs/b.natAbs))=a.natAbs/b.natAbs:=by
 have:=aeP (bJ a.natAbs) (bJ b.natAbs) (by rw[aX];omega)
 rwa [aX,aX]at this
theorem drI(h:¬b.natAbs=0):val (pad (Ya (lim a.natAbs) (lim b.natAbs)) (a.natAbs%b.natAbs))=a.natAbs%b.natAbs:=by
 have:=afN (bJ a.natAbs) (bJ b.natAbs) (by rw[aX];omega)
 rwa [aX,aX]at this
theorem aar{r:Nat}(h0:0<r)(h:((decide (a<0)&&decide (0<r)) != decide (b<0))=true):(decide (a<0) != decide (b<0))=true:=by rwa [decide_eq_true h0,Bool.and_true]at h
theorem aao{r:Nat}(h0:0<r)(h:((decide (a<0)&&decide (0<r)) != decide (b<0))=false):¬(decide (a<0) != decide (b<0))=true:=by rw[decide_eq_true h0,Bool.and_true]at h;rw[h];decide
theorem amj(h:sz a<=1000000000)(s:Bool):sz (gW s (a.natAbs/b.natAbs))<=1000000000:=fZ (Bq _ _ a (OU _ _)) h
theorem amo(h:sz a<=1000000000)(s:Bool):sz (gW s (a.natAbs%b.natAbs))<=1000000000:=fZ (Bq _ _ a (Nat.mod_le _ _)) h
theorem amm:sz 1<=1000000000:=fZ (jP ψ ψ) ψ
end
section
variable {a b:Int} {m n:Nat}
theorem ajG(h1:(lim m).length<=1000000000)(h2:(lim n).length<=1000000000)(h:(((lim n).length:Nat):Int)>0):(lim m).length<=1000000000/\(lim n).length<=1000000000/\CanL (lim m)/\CanL (lim n)/\0<val (lim n):=by
 have:=eH (n:=n);exact⟨h1,h2,CanL.lim _,CanL.lim _,by rw[aX];omega⟩
theorem Yj(h:¬(((lim m).length:Nat):Int)>2):(lim m).length<=1000000000000/\Lb (lim m)/\val (lim m)<18446744073709551616:=by
 have:=uj (n:=m) ω;exact⟨ω,bJ _,by rw[aX];omega⟩
theorem aln:some (AV.c (dB (lim (val (lim m)%val (lim n)))))=some (AV.c (dB (lim (m%n)))):=by rw[aX,aX]
theorem abu{x:Nat}(h0:n=0)(hg:Nat.gcd m n=Nat.gcd a.natAbs b.natAbs)(hx:x=m):aW [Z (gW false x)]=Z ((Nat.gcd a.natAbs b.natAbs:Nat):Int):=Rz (by
 subst h0 hx;rw[<-hg,Nat.gcd_zero_right];rfl)
theorem gv:some (AV.int .u64 ((val (lim m):Nat):Int))=some (AV.int .u64 ((m:Nat):Int)):=by rw[aX]
theorem glt(h:¬(((lim m).length:Nat):Int)>2):m<1000000000000000000:=uj ω
theorem ah6(u v:Nat):(u:Int).tmod (v:Int)=((u%v:Nat):Int):=by rw[Int.tmod_eq_emod_of_nonneg ω];rfl
theorem gm2{u v:Nat}:some (AV.int .u64 ((u:Int).tmod (v:Int)))=some (AV.int .u64 ((u%v:Nat):Int)):=by rw[ah6]
theorem Yc(x y:Int)(h:x=y):some (Bk.var [zs x,zl x])=some (Bk.var [zs y,zl y]):=by rw[h]
theorem wif(h:sz ((m:Nat):Int)<=2):some (AV.int .u64 ((if sz ((m:Nat):Int)<=2 then((m:Nat):Int).natAbs else 0:Nat):Int))=some (AV.int .u64 ((m:Nat):Int)):=by rw[if_pos h];rfl
theorem akz(h1:sz ((m:Nat):Int)<=1000000000)(h2:sz ((n:Nat):Int)<=1000000000)(h:(((lim ((n:Nat):Int).natAbs).length:Nat):Int)>0):(lim ((m:Nat):Int).natAbs).length<=100000000000/\(lim ((n:Nat):Int).natAbs).length<=100000000000/\Lb (lim ((m:Nat):Int).natAbs)/\Lb (lim ((n:Nat):Int).natAbs)/\0<val (lim ((n:Nat):Int).natAbs):=by
 have:=eH (n:=((n:Nat):Int).natAbs);have k:=Vo h1 h2 ω;rw[aX];exact k
theorem gst(h:(((lim ((n:Nat):Int).natAbs).length:Nat):Int)>0):gW false (val (pad (Ya (lim ((m:Nat):Int).natAbs) (lim ((n:Nat):Int).natAbs)) (val (lim ((m:Nat):Int).natAbs)%val (lim ((n:Nat):Int).natAbs))))=((m%n:Nat):Int):=by
 have:=eH (n:=((n:Nat):Int).natAbs);rw[aX,aX,drI ω];rfl
theorem ak0(h:(((lim ((n:Nat):Int).natAbs).length:Nat):Int)>0):0<n:=by
 have h2:=eH (n:=((n:Nat):Int).natAbs);rw[uP]at h2 h;omega
theorem aiK(h:¬(((lim ((n:Nat):Int).natAbs).length:Nat):Int)>0):n=0:=by
 have h2:=eH (n:=((n:Nat):Int).natAbs);rw[uP]at h2 h;omega
end
end Go.Sw
namespace Go.Proofs.YtdpkjhnfklkkjaaGreat
open Go Go.RowKit Go.Sw Go.Proofs.Tryz
set_option maxRecDepth 100000
set_option maxHeartbeats 16000000
instance ajw(n:Int):DenI prog 109 [.int .i64 n] (-9223372036854775808<=n/\n<=9223372036854775807) (Z n):=⟨λhp=>by
 refine aS func109 rfl ?_
 repeat'((try(conv=>whnf));first
  |(with_reducible refine aO (λ_=>?_) (λ_=>?_)))
 all_goals(try((conv=>whnf);simp(disch:=omega) only[Oc,Oh]))
 all_goals(repeat'((try(conv=>whnf));first
  |refine ak ?_ ?_|apply zaa))
 all_goals(try apply zab)
 all_goals first
  |exact bJ _|omega|(refine Rz ?_;rw[aX];first|exact Zc ω|exact X3 ω)⟩
instance ai2(n:Int):DenI prog 134 [.int .i64 n] (-9223372036854775808<=n/\n<=9223372036854775807) (Z n):=⟨λhp=>by
 refine aS func134 rfl ?_
 repeat'((try(conv=>whnf));first
  |(with_reducible refine aO (λ_=>?_) (λ_=>?_)))
 all_goals(try((conv=>whnf);simp(disch:=omega) only[Oc,Oh]))
 all_goals(repeat'((try(conv=>whnf));first
  |refine ak ?_ ?_|apply zaa))
 all_goals(try apply zab)
 all_goals first
  |exact lW _ _|omega|(refine Rz ?_;rw[nI _ _ ω];first|exact Zc ω|exact X3 ω|exact aay n)⟩
instance ajd(a:Int):DenI prog 89 [Z a] (True) (.int .i64 (qj a)):=⟨λhp=>by
 refine aS func89 rfl ?_
 repeat'((try(conv=>whnf));first
  |(with_reducible refine aO (λ_=>?_) (λ_=>?_))|apply zaa)
 all_goals(try simp only[bW]at *)
 all_goals first
  |with_reducible exact acE ω|with_reducible exact adn ω|with_reducible exact acJ ω ω⟩
instance ai6(a:Int):DenI prog 125 [Z a] (True) (.int .i64 (qj a)):=⟨λhp=>by
 refine aS func125 rfl ?_
 repeat'((try(conv=>whnf));first
  |(with_reducible refine aO (λ_=>?_) (λ_=>?_))|apply zaa)
 all_goals(try simp only[bW]at *)
 all_goals first
  |with_reducible exact acE ω|with_reducible exact adn ω|with_reducible exact acJ ω ω⟩
instance aj1(a b:Int):DenI prog 150 [Z a,Z b] (True) (.int .i64 (kF a b)):=⟨λhp=>by
 refine aS func150 rfl ?_
 repeat'((try(conv=>whnf));first
  |refine ak ?_ ?_|(with_reducible refine aO (λ_=>?_) (λ_=>?_))|refine zad (λ_=>?_) (λ_=>?_)|apply zaa)
 all_goals(try apply zab)
 all_goals first
  |with_reducible exact⟨CanL.lim _,CanL.lim _⟩|with_reducible exact acW ξ ξ|with_reducible exact adt ξ ξ|with_reducible exact acL ξ ξ|with_reducible exact ady ξ ξ⟩
instance ajB(a b:Int):DenI prog 211 [Z a,Z b] (True) (.int .i64 (kF a b)):=⟨λhp=>by
 refine aS func211 rfl ?_
 repeat'((try(conv=>whnf));first
  |refine ak ?_ ?_|(with_reducible refine aO (λ_=>?_) (λ_=>?_))|refine zad (λ_=>?_) (λ_=>?_)|apply zaa)
 all_goals(try apply zab)
 all_goals first
  |with_reducible exact⟨bJ _,bJ _⟩|with_reducible exact acW ξ ξ|with_reducible exact adt ξ ξ|with_reducible exact acL ξ ξ|with_reducible exact ady ξ ξ⟩
instance ajo(a b:Int):DenI prog 269 [Z a,Z b] (True) (.bool (decide (a=b))):=⟨λhp=>by
 refine aS func269 rfl ?_
 repeat'((try(conv=>whnf));first
  |refine ak ?_ ?_|(with_reducible first|refine aN ?_|refine aI ?_)|refine zad (λ_=>?_) (λ_=>?_)|apply zaa)
 all_goals(try apply zab)
 all_goals first
  |with_reducible exact⟨CanL.lim _,CanL.lim _⟩|with_reducible exact ael ξ|with_reducible exact adU ξ⟩
instance ami(a:Int):DenI prog 203 [Z a] (sz a<=1000000000) (Z (-a)):=⟨λhp=>by
 refine aS func203 rfl ?_
 repeat'((try(conv=>whnf));first
  |refine ak ?_ ?_|apply zaa)
 all_goals(try apply zab)
 all_goals first
  |with_reducible exact bJ _|with_reducible exact adC⟩
instance akD(a:Int):DenI prog 122 [Z a] (sz a<=1000000000) (Z (-a)):=⟨λhp=>by
 refine aS func122 rfl ?_
 repeat'((try(conv=>whnf));first
  |refine ak ?_ ?_|refine aK ?_ ?_|refine zac ζ ?_|apply zaa)
 all_goals(try apply zab)
 all_goals(try simp only[bW]at *)
 all_goals first
  |with_reducible exact bJ _|with_reducible exact adC|(unfold sz at hp;omega)⟩
instance ajV(a b:Int):DenI prog 151 [Z a,Z b] (sz a<=1000000000/\sz b<=1000000000) (Z (a*b)):=⟨λhp=>by
 refine aS func151 rfl ?_
 repeat'((try(conv=>whnf));first
  |refine ak ?_ ?_|refine zac ζ ?_|apply zaa)
 all_goals(try apply zab)
 all_goals first
  |with_reducible exact bJ _|with_reducible exact G6 hp.1 hp.2|with_reducible exact acQ⟩
instance alx(a b:Int):DenI prog 210 [Z a,Z b] (sz a<=1000000000/\sz b<=1000000000) (Z (a*b)):=⟨λhp=>by
 refine aS func210 rfl ?_
 repeat'((try(conv=>whnf));first
  |refine ak ?_ ?_|refine zac ζ ?_|apply zaa)
 all_goals(try apply zab)
 all_goals first
  |with_reducible exact lW _ _|with_reducible exact G6 hp.1 hp.2|with_reducible exact acH⟩
instance alZ(a b:Int):DenI prog 208 [Z a,Z b] (sz a<=1000000000/\sz b<=1000000000) (Z (a+b)):=⟨λhp=>by
 refine aS func208 rfl ?_
 repeat'((try(conv=>whnf));first
  |refine ak ?_ ?_|(with_reducible refine aO (λ_=>?_) (λ_=>?_))|refine zad (λ_=>?_) (λ_=>?_)|refine zac ζ ?_|apply zaa)
 all_goals(try apply zab)
 all_goals first
  |with_reducible exact⟨CanL.lim _,CanL.lim _⟩|with_reducible exact bJ _|with_reducible exact G6 hp.1 hp.2|exact zh hp.1 hp.2 (oW.1 (by rename_i h;rw[aX,aX]at h;omega))|exact zh hp.2 hp.1 (by rename_i h;rw[aX,aX]at h;have:=mt oW.2 h;omega)|with_reducible exact adB ξ|with_reducible exact adf ξ ξ|with_reducible exact adv ξ ξ⟩
instance alV(a b:Int):DenI prog 278 [Z a,Z b] (sz a<=1000000000/\sz b<=1000000000) (Z (a+b)):=⟨λhp=>by
 refine aS func278 rfl ?_
 repeat'((try(conv=>whnf));first
  |refine ak ?_ ?_|(with_reducible refine aO (λ_=>?_) (λ_=>?_))|refine zad (λ_=>?_) (λ_=>?_)|refine zac ζ ?_|apply zaa)
 all_goals(try apply zab)
 all_goals first
  |with_reducible exact⟨bJ _,bJ _⟩|with_reducible exact lW _ _|with_reducible exact G6 hp.1 hp.2|exact zh hp.1 hp.2 (oW.1 (by rename_i h;rw[aX,aX]at h;omega))|exact zh hp.2 hp.1 (by rename_i h;rw[aX,aX]at h;have:=uy.1 h;omega)|with_reducible exact adu ξ|with_reducible exact adi ξ ξ|with_reducible exact ac7 ξ ξ⟩
end Go.Proofs.YtdpkjhnfklkkjaaGreat
namespace Go.Sw
open Go Go.RowKit
section
variable {P:Program} {f:FuncId} {xs:List AV} {w:World} {X:List Nat} {vs:List Value}
theorem agO{u:Value}{x:AV}(h:RepD w X u x):∀(i:Nat) a b,[u][i]?=some a->[x][i]?=some b->RepD w X a b:=λi a b h1 h2=>by
 cases i with
 |zero=>simp at h1 h2;subst h1 h2;exact h
 |succ i=>simp at h1
theorem acX{u v:Value}{x y:AV}(h:RepD w X u x)(k:RepD w X v y):∀(i:Nat) a b,[u,v][i]?=some a->[x,y][i]?=some b->RepD w X a b:=λi a b h1 h2=>by
 match i with
 |0=>simp at h1 h2;subst h1 h2;exact h
 |1=>simp at h1 h2;subst h1 h2;exact k
 |_+2=>simp at h1
theorem YD{u:Value}{c:Cell}(h:RepR w X u (.c c)):RepC w X u c:=by
 generalize hv:AV.c c=v at h;cases h with
 |d h =>
  cases h with
  |c h=>injection hv with hv;subst hv;exact h
  |agg h=>cases hv
 |tup _ _=>cases hv
theorem adR{u x:Value}(h:RepC w X u (.v x)):u=x:=by
 generalize hc:Cell.v x=c at h;cases h with
 |v _ _=>injection hc with hc;exact hc.symm
 |sl=>cases hc
 |p=>cases hc
 |fn=>cases hc
theorem ahL{l:List Nat}(h : @Den P (Wld.any P) f xs (.c (dB l)))(hX:∀m∈X,m<w.heap.size)(hl:vs.length=xs.length)(hr:∀(i:Nat) u v,vs[i]?=some u->xs[i]?=some v->RepD w X u v):Calls P f vs.toArray w (Ar λr w'=>UL w' X r l/\Below w.heap.size w w') :=
 ((@Den.old P (Wld.any P) _ _ _ h (rP hl hr)).2 w X vs trivial hX hl hr).mono λe w' ⟨u,he,hR,hb⟩=>⟨u,he,UL.of_rep (YD hR.r),hb⟩
theorem akv{x:Value}(h : @Den P (Wld.any P) f xs (.c (.v x)))(hX:∀m∈X,m<w.heap.size)(hl:vs.length=xs.length)(hr:∀(i:Nat) u v,vs[i]?=some u->xs[i]?=some v->RepD w X u v):Calls P f vs.toArray w (Ar λr w'=>r=x/\Below w.heap.size w w') :=
 ((@Den.old P (Wld.any P) _ _ _ h (rP hl hr)).2 w X vs trivial hX hl hr).mono λe w' ⟨u,he,hR,hb⟩=>⟨u,he,adR (YD hR.r),hb⟩
theorem abM{u:Value}{l m:List Nat}(h:RepR w X u (.tup [.c (dB l),.c (dB m)])):∃r0 r1,u=.tuple #[r0,r1]/\UL w X r0 l/\UL w X r1 m:=by
 generalize hv:AV.tup [.c (dB l),.c (dB m)]=v at h;cases h with
 |d h=>cases h with
  |c h=>cases hv
  |agg h=>cases hv
 |@tup us vs hl h =>
  injection hv with hv
  subst hv
  match us,hl with
  |[r0,r1],_=>exact⟨r0,r1,rfl,(h 0 r0 _ rfl rfl).ul,(h 1 r1 _ rfl rfl).ul⟩
theorem agE{l m:List Nat}(h : @Den P (Wld.any P) f xs (.tup [.c (dB l),.c (dB m)]))(hX:∀m∈X,m<w.heap.size)(hl:vs.length=xs.length)(hr:∀(i:Nat) u v,vs[i]?=some u->xs[i]?=some v->RepD w X u v):Calls P f vs.toArray w (Ar λr w'=>(∃r0 r1,r=.tuple #[r0,r1]/\UL w' X r0 l/\UL w' X r1 m)/\Below w.heap.size w w') :=
 ((@Den.old P (Wld.any P) _ _ _ h (rP hl hr)).2 w X vs trivial hX hl hr).mono λe w' ⟨u,he,hR,hb⟩=>⟨u,he,abM hR.r,hb⟩
end
end Go.Sw
namespace Go.Proofs.YtdpkjhnfklkkjaaGreat
open Go Go.RowKit Go.Sw Go.Proofs.Tryz
set_option maxRecDepth 100000
set_option maxHeartbeats 16000000
theorem kU{w:World}{X:List Nat}(hX:∀m∈X,m<w.heap.size){v_l:Value}{l:List Nat}(h_l:UL w X v_l (l)):
 Calls prog 314 #[v_l] w (Ar λr w'=>(UL w' X r (aG l))/\Below w.heap.size w w'):=ahL ((inferInstance:DenI prog 314 [.c (dB l)] _ _).den trivial) hX rfl (agO (.c h_l.rep))
theorem wU{w:World}{X:List Nat}(hX:∀m∈X,m<w.heap.size){v_a:Value}{a:List Nat}(h_a:UL w X v_a (a)){v_b:Value}{b:List Nat}(h_b:UL w X v_b (b))(ha:Lb a)(hb:Lb b):
 Calls prog 275 #[v_a,v_b] w (Ar λr w'=>(r=.int .i64 (iy (val a) (val b)))/\Below w.heap.size w w'):=akv ((inferInstance:DenI prog 275 [.c (dB a),.c (dB b)] _ _).den ⟨ha,hb⟩) hX rfl (acX (.c h_a.rep) (.c h_b.rep))
theorem qC{w:World}{X:List Nat}(hX:∀m∈X,m<w.heap.size){v_a:Value}{a:List Nat}(h_a:UL w X v_a (a))(b:Nat)(hn_a:a.length<=1000000000000)(hb_a:Lb a)(hb0:0<b)(hb1:b<1000000000):
 Calls prog 315 #[v_a,(.int .u32 ((b:Nat):Int))] w (Ar λr w'=>(∃qs:List Nat,∃rs:List Nat,∃r0 r1,r=.tuple #[r0,r1]/\UL w' X r0 (qs)/\UL w' X r1 (rs)/\Lb qs/\Lb rs/\val a=b*val qs+val rs/\val rs<b/\qs.length=a.length/\rs.length=1)/\Below w.heap.size w w'):=(agE ((inferInstance:DenI prog 315 [.c (dB a),.int .u32 (b:Nat)] _ _).den ⟨hn_a,hb_a,hb0,hb1⟩) hX rfl (acX (.c h_a.rep) (.c (.v _ rfl)))).mono λe w' ⟨u,he,⟨r0,r1,h1,h2,h3⟩,hb⟩=>⟨u,he,⟨_,_,r0,r1,h1,h2,h3,U6 hb_a hb0 hb1⟩,hb⟩
end Go.Proofs.YtdpkjhnfklkkjaaGreat
namespace Go.Proofs.YtdpkjhnfklkkjaaGreat
open Go Go.RowKit Go.Sw Go.Proofs.Tryz
set_option maxRecDepth 20000
namespace TfE
theorem el209:Sw.elemOf prog 209=some (#[.int .u32 0],1,4):=ζ
theorem one209:jq prog 209=true:=ζ
theorem size209:(prog.info? 209).map (λi=>i.size)=some 1:=ζ
theorem sl27:sliceOf prog 27=some (209,1):=ζ
theorem sls27:(sliceOf prog 27).isSome=true:=ζ
theorem und194:prog.underlying 194=some (TypeDesc.int .u64):=ζ
theorem und209:prog.underlying 209=some (TypeDesc.int .u32):=ζ
theorem unds194:(prog.underlying 194).isSome=true:=ζ
theorem unds209:(prog.underlying 209).isSome=true:=ζ
end TfE
theorem qV{w:World}{X:List Nat}(hX:∀m∈X,m<w.heap.size){v_a:Value}{a:List Nat}(h_a:UL w X v_a (a)){v_b:Value}{b:List Nat}(h_b:UL w X v_b (b))(hn_a:a.length<=1000000000000)(hn_b:b.length<=1000000000000)(hb_a:Lb a)(hb_b:Lb b):
 Calls prog 274 #[v_a,v_b] w (Ar λr w'=>(∃o:List Nat,ahZ 209 w w' r (o)/\Lb o/\val o=val a*val b/\o.length=a.length+b.length)/\Below w.heap.size w w'):=by
 refine enter (N:=68) (fn:=Tryz.f274) (vs:=[v_a,v_b]) func274 rfl rfl rfl ?_;intro fa hF;obtain⟨A_a,_,c_a,rfl,rfl,hu_a⟩:=h_a;have hl_a:=hu_a.len;have hc_a:=hu_a.cap;obtain⟨A_b,_,c_b,rfl,rfl,hu_b⟩:=h_b;have hl_b:=hu_b.len;have hc_b:=hu_b.cap;replace hF:Frm 68 fa [(0,(.slice (A_a) (a.length) (c_a))),(1,(.slice (A_b) (b.length) (c_b)))]:=hF;have hS:=St.refl w;refine bI ?_;refine bK ?_;refine pr hF (pa rfl <| PR.nil) ?_;clear hF fa;intro fa hF;refine aV ?_;refine bI ?_;refine bK ?_;refine pr hF (pm rfl <| pg (λ_ hF=>mP TfE.sls27 (hF.ev rfl)) <| pm rfl <| pg (λ_ hF=>mP TfE.sls27 (hF.ev rfl)) <| pg (λ_ hF=>dX (hF.ev rfl) (hF.ev rfl) jY) <| PR.nil) ?_;clear hF fa;intro fa hF;refine st rfl (Qu (X:=X) (nl:=a.length+b.length) (nc:=a.length+b.length) hF hS rfl TfE.sl27 TfE.el209 rfl rfl ω ω ω ω ω (I9 _) ?_);intro g1 w2 hg4 hS E3;refine qh ?_;clear hF fa;intro fa hF;rw[Nat.mul_one]at hS;refine pr hF (pa rfl <| PR.nil) ?_;clear hF fa;intro fa hF;refine aV ?_;refine bI ?_;refine bI ?_;refine bK ?_;refine pr hF (pm rfl <| pg (λ_ hF=>mP TfE.sls27 (hF.ev rfl)) <| pm rfl <| PR.nil) ?_;clear hF fa;intro fa hF;refine aV ?_;refine iK ?_;refine uQ (λmu fa w'=>∃o:List Nat,∃i:Nat,Frm 68 fa [(0,(.slice (A_a) (a.length) (c_a))),(1,(.slice (A_b) (b.length) (c_b))),(4,(.slice (none) (0) (0))),(5,(.slice (some ⟨g1,0,none⟩) (a.length+b.length) (a.length+b.length))),(18,(.slice (A_a) (a.length) (c_a))),(19,(.int .i64 (((a.length:Nat):Int)))),(20,(.int .i64 (((i:Nat):Int))))]/\St w w' [(g1,209,(us (o)).toArray)]/\Ext w2 (g1::X) w' (g1::X)/\(i<=a.length)/\(o.length=a.length+b.length)/\(Lb o)/\(val (o.take (i+b.length))=val (a.take i)*val b)/\a.length-i=mu) ?_ ?_
 ·
  exact⟨_,List.replicate (a.length+b.length) 0,0,(hF.all ⟨rfl,rfl,rfl,rfl,rfl,rfl,(dH rfl ω),trivial⟩),hS,Ext.refl _ _,ω,η,(gV _),(by simp[vU,List.take_replicate,val]),rfl⟩
 clear hF fa;intro n0_ fa w' hI;clear hS;obtain⟨o,i,hF,hS,E6,hi,ho,hbo,hv,rfl⟩:=hI
 rename World=>w5
 refine bI ?_;refine bK ?_;refine pr hF (pg (λ_ hF=>qF (hF.ev rfl) (hF.ev rfl)) <| PR.nil) ?_;clear hF fa;intro fa hF;refine aV ?_;refine bI ?_;refine iY hF rfl (λhc7=>?_) (λhc7=>?_)
 ·
  have hc7p:((i:Nat):Int)<((a.length:Nat):Int):=by first|simpa using hc7|exact eP hc7|exact eG hc7
  refine jo ?_;refine dW ?_;refine bI ?_;refine iK ?_;refine bI ?_;refine bK ?_;refine pr hF (pm rfl <| PR.nil) ?_;clear hF fa;intro fa hF;obtain⟨ad8,hA9,hq10⟩:=(hu_a.ext (E3.trans E6)).cl.at_ (mW (l:=a) (i:=i) ω);refine pr hF (pg (λ_ hF=>mZ (j:=i) TfE.sl27 (hF.ev rfl) hA9 (hF.ev rfl) ω ω) <| pg (λ_ hF=>iP TfE.one209 (hF.ev rfl) hq10) <| pa rfl <| pa rfl <| PR.nil) ?_;clear hF fa;intro fa hF;refine aV ?_;refine bI ?_;refine bK ?_;refine pr hF (pa rfl <| PR.nil) ?_;clear hF fa;intro fa hF;refine aV ?_;refine bI ?_;refine bI ?_;refine bK ?_;refine pr hF (pm rfl <| pg (λ_ hF=>mP TfE.sls27 (hF.ev rfl)) <| pm rfl <| PR.nil) ?_;clear hF fa;intro fa hF;refine aV ?_;refine iK ?_;refine uQ (λmu fa w'=>∃o2:List Nat,∃cr:Nat,∃k:Nat,Frm 68 fa [(0,(.slice (A_a) (a.length) (c_a))),(1,(.slice (A_b) (b.length) (c_b))),(4,(.slice (none) (0) (0))),(5,(.slice (some ⟨g1,0,none⟩) (a.length+b.length) (a.length+b.length))),(18,(.slice (A_a) (a.length) (c_a))),(19,(.int .i64 (((a.length:Nat):Int)))),(20,(.int .i64 (((i:Nat):Int)))),(21,(.bool (decide (((i:Nat):Int)<((a.length:Nat):Int))))),(6,(.int .i64 (((i:Nat):Int)))),(7,(.int .u32 (((a.getD (i) 0:Nat):Int)))),(25,(.slice (A_b) (b.length) (c_b))),(26,(.int .i64 (((b.length:Nat):Int)))),(8,(.int .u64 (((cr:Nat):Int)))),(27,(.int .i64 (((k:Nat):Int))))]/\St w w' [(g1,209,(us (o2)).toArray)]/\Ext w5 (g1::X) w' (g1::X)/\(k<=b.length)/\(o2.length=a.length+b.length)/\(Lb o2)/\(cr<1000000000)/\(val (o2.take (i+b.length))+1000000000^(i+k)*cr=val (a.take i)*val b+1000000000^i*(a.getD i 0*val (b.take k)))/\b.length-k=mu) ?_ ?_
  ·
   exact⟨_,o,0,0,(hF.all ⟨rfl,rfl,rfl,rfl,rfl,rfl,rfl,rfl,rfl,rfl,rfl,rfl,(dH rfl ω),(dH rfl ω),trivial⟩),hS,Ext.refl _ _,ω,(ho),(hbo),ω,(by simp[val,hv]),rfl⟩
  clear hF fa;intro n1_ fa w' hI;clear hS;obtain⟨o2,cr,k,hF,hS,E12,hk,ho2,hbo2,hcr,hv2,rfl⟩:=hI
  rename World=>EP
  have hak:=hb_a.getD i;have hbk:=hb_b.getD k;have hok:=hbo2.getD (i+k);have hca:=Df hak hbk hok hcr;have hca1:=hca.1;have hca2:=hca.2;refine bI ?_;refine bK ?_;refine pr hF (pg (λ_ hF=>qF (hF.ev rfl) (hF.ev rfl)) <| PR.nil) ?_;clear hF fa;intro fa hF;refine aV ?_;refine bI ?_;refine iY hF rfl (λhc13=>?_) (λhc13=>?_)
  ·
   have hc13p:((k:Nat):Int)<((b.length:Nat):Int):=by first|simpa using hc13|exact eP hc13|exact eG hc13
   refine jo ?_;refine dW ?_;refine bI ?_;refine iK ?_;refine bI ?_;refine bK ?_;refine pr hF (pm rfl <| PR.nil) ?_;clear hF fa;intro fa hF;obtain⟨ad14,hA15,hq16⟩:=(hu_b.ext ((E3.trans E6).trans E12)).cl.at_ (mW (l:=b) (i:=k) ω);refine pr hF (pg (λ_ hF=>mZ (j:=k) TfE.sl27 (hF.ev rfl) hA15 (hF.ev rfl) ω ω) <| pg (λ_ hF=>iP TfE.one209 (hF.ev rfl) hq16) <| pa rfl <| pa rfl <| PR.nil) ?_;clear hF fa;intro fa hF;replace hF:Frm 68 fa [(0,(.slice (A_a) (a.length) (c_a))),(1,(.slice (A_b) (b.length) (c_b))),(4,(.slice (none) (0) (0))),(5,(.slice (some ⟨g1,0,none⟩) (a.length+b.length) (a.length+b.length))),(18,(.slice (A_a) (a.length) (c_a))),(19,(.int .i64 (((a.length:Nat):Int)))),(20,(.int .i64 (((i:Nat):Int)))),(21,(.bool (decide (((i:Nat):Int)<((a.length:Nat):Int))))),(6,(.int .i64 (((i:Nat):Int)))),(7,(.int .u32 (((a.getD (i) 0:Nat):Int)))),(25,(.slice (A_b) (b.length) (c_b))),(26,(.int .i64 (((b.length:Nat):Int)))),(8,(.int .u64 (((cr:Nat):Int)))),(27,(.int .i64 (((k:Nat):Int)))),(28,(.bool (decide (((k:Nat):Int)<((b.length:Nat):Int))))),(9,(.int .i64 (((k:Nat):Int)))),(10,(.int .u32 (((b.getD (k) 0:Nat):Int))))]:=(hF.all ⟨rfl,rfl,rfl,rfl,rfl,rfl,rfl,rfl,rfl,rfl,rfl,rfl,rfl,rfl,rfl,rfl,rfl,trivial⟩)
   refine aV ?_;refine bI ?_;refine bK ?_;refine pr hF (pm rfl <| pm rfl <| pm rfl <| pg (λ_ hF=>dX (hF.ev rfl) (hF.ev rfl) jY) <| pg (λ_ hF=>qo (j:=i+k) TfE.sl27 (hF.ev rfl) (hF.ev rfl) ω ω) <| pg (λ_ hF=>jZ TfE.one209 (hF.ev rfl) (hS.get 0 rfl) (adY (by first|omega|(simp;omega)))) <| pg (λ_ hF=>fH TfE.unds209 TfE.und194 (hF.ev rfl) (mF ω)) <| pm rfl <| pg (λ_ hF=>fH TfE.unds209 TfE.und194 (hF.ev rfl) (mF ω)) <| pm rfl <| pg (λ_ hF=>fH TfE.unds209 TfE.und194 (hF.ev rfl) (mF ω)) <| pg (λ_ hF=>zT (hF.ev rfl) (hF.ev rfl) oJ) <| pg (λ_ hF=>dX (hF.ev rfl) (hF.ev rfl) oJ) <| pm rfl <| pg (λ_ hF=>dX (hF.ev rfl) (hF.ev rfl) oJ) <| pa rfl <| PR.nil) ?_;clear hF fa;intro fa hF;replace hF:Frm 68 fa [(0,(.slice (A_a) (a.length) (c_a))),(1,(.slice (A_b) (b.length) (c_b))),(4,(.slice (none) (0) (0))),(5,(.slice (some ⟨g1,0,none⟩) (a.length+b.length) (a.length+b.length))),(18,(.slice (A_a) (a.length) (c_a))),(19,(.int .i64 (((a.length:Nat):Int)))),(20,(.int .i64 (((i:Nat):Int)))),(21,(.bool (decide (((i:Nat):Int)<((a.length:Nat):Int))))),(6,(.int .i64 (((i:Nat):Int)))),(7,(.int .u32 (((a.getD (i) 0:Nat):Int)))),(25,(.slice (A_b) (b.length) (c_b))),(26,(.int .i64 (((b.length:Nat):Int)))),(8,(.int .u64 (((cr:Nat):Int)))),(27,(.int .i64 (((k:Nat):Int)))),(28,(.bool (decide (((k:Nat):Int)<((b.length:Nat):Int))))),(9,(.int .i64 (((k:Nat):Int)))),(10,(.int .u32 (((b.getD (k) 0:Nat):Int)))),(11,(.int .u64 ((((o2.getD (i+k) 0:Nat):Int)+(((a.getD (i) 0:Nat):Int)*((b.getD (k) 0:Nat):Int)))+((cr:Nat):Int))))]:=(hF.all ⟨rfl,rfl,rfl,rfl,rfl,rfl,rfl,rfl,rfl,rfl,rfl,rfl,rfl,rfl,rfl,rfl,rfl,rfl,trivial⟩)
   refine aV ?_;refine bK ?_;refine pr hF (pm rfl <| pm rfl <| pm rfl <| pg (λ_ hF=>dX (hF.ev rfl) (hF.ev rfl) jY) <| pm rfl <| pg (λ_ hF=>Ep (hF.ev rfl) (hF.ev rfl) ω (Ro (x:=((o2.getD (i+k) 0)+((a.getD (i) 0)*(b.getD (k) 0)))+cr) (y:=1000000000) ω ω)) <| pg (λ_ hF=>fH TfE.unds194 TfE.und209 (hF.ev rfl) (DK ω)) <| pm rfl <| pg (λ_ hF=>zJ (hF.ev rfl) (hF.ev rfl) ω (LV (x:=((o2.getD (i+k) 0)+((a.getD (i) 0)*(b.getD (k) 0)))+cr) (y:=1000000000) ω ω ω)) <| pg (λ_ hF=>qo (j:=i+k) TfE.sl27 (hF.ev rfl) (hF.ev rfl) ω ω) <| PR.nil) ?_;clear hF fa;intro fa hF;refine st rfl (iT (vs:=#[.int .u32 (((((o2.getD (i+k) 0)+((a.getD (i) 0)*(b.getD (k) 0)))+cr)%1000000000:Nat):Int)]) (v:=.int .u32 (((((o2.getD (i+k) 0)+((a.getD (i) 0)*(b.getD (k) 0)))+cr)%1000000000:Nat):Int)) (X:=(g1::X)) hF hS 0 rfl η rfl (jH rfl ω) rfl TfE.size209 rfl (H7 (by first|omega|(simp;omega))) ?_);intro w17 hS E18;rw[vK (by first|omega|(simp;omega))]at hS;refine pr hF (pa rfl <| PR.nil) ?_;clear hF fa;intro fa hF;refine jM ?_;refine uq ?_;refine dW ?_;refine bK ?_;refine pr hF (pg (λ_ hF=>dX (hF.ev rfl) (hF.ev rfl) jY) <| pm rfl <| PR.nil) ?_;clear hF fa;intro fa hF;refine jM ?_;refine dW ?_;exact⟨_,ω,o2.set (i+k) ((((o2.getD (i+k) 0)+((a.getD (i) 0)*(b.getD (k) 0)))+cr)%1000000000),(((o2.getD (i+k) 0)+((a.getD (i) 0)*(b.getD (k) 0)))+cr)/1000000000,(k+1),(hF.all ⟨rfl,rfl,rfl,rfl,rfl,rfl,rfl,rfl,rfl,rfl,rfl,rfl,(dH rfl ω),(dH rfl ω),trivial⟩),hS,(E12.trans E18),ω,κ,(gG hbo2 ω),ω,(wO ω ω hv2 ω rfl rfl),rfl⟩
  have hc13p:¬(((k:Nat):Int)<((b.length:Nat):Int)):=by first|simpa using hc13|exact eP hc13|exact eG hc13
  refine sF ?_;refine rZ ?_;refine rZ ?_;refine EX ?_;refine dW ?_;refine bK ?_;refine pr hF (pm rfl <| pm rfl <| pm rfl <| pg (λ_ hF=>mP TfE.sls27 (hF.ev rfl)) <| pg (λ_ hF=>dX (hF.ev rfl) (hF.ev rfl) jY) <| pm rfl <| pg (λ_ hF=>fH TfE.unds194 TfE.und209 (hF.ev rfl) (DK ω)) <| pg (λ_ hF=>qo (j:=i+b.length) TfE.sl27 (hF.ev rfl) (hF.ev rfl) ω ω) <| PR.nil) ?_;clear hF fa;intro fa hF;refine st rfl (iT (vs:=#[.int .u32 ((cr:Nat):Int)]) (v:=.int .u32 ((cr:Nat):Int)) (X:=(g1::X)) hF hS 0 rfl η rfl (jH rfl ω) rfl TfE.size209 rfl (H7 (by first|omega|(simp;omega))) ?_);intro w19 hS E20;rw[vK (by first|omega|(simp;omega))]at hS;replace hF:Frm 68 fa [(0,(.slice (A_a) (a.length) (c_a))),(1,(.slice (A_b) (b.length) (c_b))),(4,(.slice (none) (0) (0))),(5,(.slice (some ⟨g1,0,none⟩) (a.length+b.length) (a.length+b.length))),(18,(.slice (A_a) (a.length) (c_a))),(19,(.int .i64 (((a.length:Nat):Int)))),(20,(.int .i64 (((i:Nat):Int)))),(21,(.bool (decide (((i:Nat):Int)<((a.length:Nat):Int))))),(6,(.int .i64 (((i:Nat):Int)))),(7,(.int .u32 (((a.getD (i) 0:Nat):Int)))),(25,(.slice (A_b) (b.length) (c_b))),(26,(.int .i64 (((b.length:Nat):Int)))),(8,(.int .u64 (((cr:Nat):Int)))),(27,(.int .i64 (((k:Nat):Int)))),(28,(.bool (decide (((k:Nat):Int)<((b.length:Nat):Int)))))]:=(hF.all ⟨rfl,rfl,rfl,rfl,rfl,rfl,rfl,rfl,rfl,rfl,rfl,rfl,rfl,rfl,rfl,trivial⟩)
  refine jM ?_;refine uq ?_;refine dW ?_;refine bK ?_;refine pr hF (pg (λ_ hF=>dX (hF.ev rfl) (hF.ev rfl) jY) <| pm rfl <| PR.nil) ?_;clear hF fa;intro fa hF;refine jM ?_;refine dW ?_;exact⟨_,ω,o2.set (i+b.length) (cr),(i+1),(hF.all ⟨rfl,rfl,rfl,rfl,rfl,rfl,(dH rfl ω),trivial⟩),hS,((E6.trans E12).trans E20),ω,κ,(gG hbo2 ω),(zM ω (by rw[show k=b.length by omega]at hv2;exact hv2)),rfl⟩
 have hc7p:¬(((i:Nat):Int)<((a.length:Nat):Int)):=by first|simpa using hc7|exact eP hc7|exact eG hc7
 refine sF ?_;refine rZ ?_;refine rZ ?_;refine EX ?_;refine dW ?_;refine bI ?_;refine bK ?_;refine pr hF (pm rfl <| pa rfl <| PR.nil) ?_;clear hF fa;intro fa hF;refine aV ?_;refine tV ?_;rw[cZ (l:=o) ω,cZ (l:=a) ω]at hv;refine Xj hF rfl (kP hF rfl) ?_;exact⟨_,rfl,⟨o,(Own.mk_ (L:=o) (hS.get 0 rfl) (hS.base 0 rfl) ω ω (rfl)),(hbo),(hv),(ho)⟩,hS.below⟩
end Go.Proofs.YtdpkjhnfklkkjaaGreat
namespace Go.Proofs.YtdpkjhnfklkkjaaGreat
open Go Go.RowKit Go.Sw Go.Proofs.Tryz
set_option maxRecDepth 20000
namespace TfQ
theorem one209:jq prog 209=true:=ζ
theorem size209:(prog.info? 209).map (λi=>i.size)=some 1:=ζ
theorem sl27:sliceOf prog 27=some (209,1):=ζ
theorem sls27:(sliceOf prog 27).isSome=true:=ζ
theorem und194:prog.underlying 194=some (TypeDesc.int .u64):=ζ
theorem und209:prog.underlying 209=some (TypeDesc.int .u32):=ζ
theorem unds194:(prog.underlying 194).isSome=true:=ζ
theorem unds209:(prog.underlying 209).isSome=true:=ζ
end TfQ
theorem wB{w0 w:World}{X:List Nat}{So:List Bx}{R:List Value}{g_U c_U:Nat}{U:List Nat}(hX:∀m∈X,m<w0.heap.size)(hS:St w0 w ((g_U,209,(us U++R).toArray)::So))(k m:Nat){v_v:Value}{v:List Nat}(h_v:UL w (g_U ::(bl So++X)) v_v (v))(bw:Nat)(hU:U.length<=1000000000000)(hkm:k+m<=U.length)(hvm:v.length<=m)(hb_U:Lb U)(hb_v:Lb v)(hbw:bw<1000000000):
 Calls prog 316 #[(.slice (some ⟨g_U,k,none⟩) m c_U),v_v,(.int .u64 ((bw:Nat):Int))] w (Ar λr w'=>∃o:List Nat,∃cy:Nat,r=.bool (decide (0<cy))/\o.length=U.length/\Lb o/\o.take k=U.take k/\o.drop (k+m)=U.drop (k+m)/\val (win o k m)+val v*bw=val (win U k m)+1000000000^m*cy/\St w0 w' ((g_U,209,(us o++R).toArray)::So)/\Ext w (g_U ::(bl So++X)) w' (g_U ::(bl So++X))):=by
 refine enter (N:=62) (fn:=Tryz.f316) (vs:=[(.slice (some ⟨g_U,k,none⟩) m c_U),v_v,(.int .u64 ((bw:Nat):Int))]) func316 rfl rfl rfl ?_;intro fa hF;obtain⟨A_v,_,c_v,rfl,rfl,hu_v⟩:=h_v;have hl_v:=hu_v.len;have hc_v:=hu_v.cap;replace hF:Frm 62 fa [(0,(.slice (some ⟨g_U,k,none⟩) (m) (c_U))),(1,(.slice (A_v) (v.length) (c_v))),(2,(.int .u64 (((bw:Nat):Int))))]:=hF;refine bI ?_;refine bK ?_;refine pr hF (pa rfl <| PR.nil) ?_;clear hF fa;intro fa hF;refine aV ?_;refine bI ?_;refine bK ?_;refine pr hF (pa rfl <| pa rfl <| PR.nil) ?_;clear hF fa;intro fa hF;refine aV ?_;refine bI ?_;refine bI ?_;refine bK ?_;refine pr hF (pm rfl <| pg (λ_ hF=>mP TfQ.sls27 (hF.ev rfl)) <| pm rfl <| PR.nil) ?_;clear hF fa;intro fa hF;refine aV ?_;refine iK ?_;refine uQ (λmu fa w'=>∃o:List Nat,∃cr:Nat,∃br:Nat,∃i:Nat,Frm 62 fa [(0,(.slice (some ⟨g_U,k,none⟩) (m) (c_U))),(1,(.slice (A_v) (v.length) (c_v))),(2,(.int .u64 (((bw:Nat):Int)))),(6,(.bool (false))),(14,(.int .i64 (((m:Nat):Int)))),(7,(.int .u64 (((cr:Nat):Int)))),(8,(.int .u64 (((br:Nat):Int)))),(15,(.int .i64 (((i:Nat):Int))))]/\St w0 w' ([(g_U,209,(us (o)++R).toArray)]++So)/\Ext w (g_U ::(bl So++X)) w' (g_U ::(bl So++X))/\(i<=m)/\(o.length=U.length)/\(Lb o)/\(o.take k=U.take k)/\(o.drop (k+i)=U.drop (k+i))/\(cr<1000000000)/\(br<=1)/\(val (win o k i)+val (v.take i)*bw=val (win U k i)+1000000000^i*(cr+br))/\m-i=mu) ?_ ?_
 ·
  exact⟨_,U,0,0,0,(hF.all ⟨rfl,rfl,rfl,rfl,rfl,(dH rfl ω),(dH rfl ω),(dH rfl ω),trivial⟩),hS,Ext.refl _ _,ω,(rfl),(hb_U),(rfl),(rfl),ω,ω,(by simp[win_zero,val]),rfl⟩
 clear hF fa;intro n0_ fa w' hI;clear hS;obtain⟨o,cr,br,i,hF,hS,E2,hi,ho,hbo,htk,hdr,hcr,hbr,hv,rfl⟩:=hI
 rename World=>w1
 have hox:=Gs hdr;have hoi:=hbo.getD (k+i);have hvi:=hb_v.getD i;have hgn:=λh=>getD_none (l:=v) (k:=i) h
 have hmul:v.getD i 0*bw<=999999999*999999999:=MZ ω ω;refine bI ?_;refine bK ?_;refine pr hF (pg (λ_ hF=>qF (hF.ev rfl) (hF.ev rfl)) <| PR.nil) ?_;clear hF fa;intro fa hF;refine aV ?_;refine bI ?_;refine iY hF rfl (λhc3=>?_) (λhc3=>?_)
 ·
  have hc3p:((i:Nat):Int)<((m:Nat):Int):=by first|simpa using hc3|exact eP hc3|exact eG hc3
  refine jo ?_;refine dW ?_;refine bI ?_;refine iK ?_;refine bI ?_;refine bK ?_;refine pr hF (pm rfl <| pa rfl <| PR.nil) ?_;clear hF fa;intro fa hF;refine aV ?_;refine bI ?_;refine bK ?_;refine pr hF (pm rfl <| pa rfl <| PR.nil) ?_;clear hF fa;intro fa hF;refine aV ?_;refine bI ?_;refine bI ?_;refine bK ?_;refine pr hF (pm rfl <| pm rfl <| pg (λ_ hF=>mP TfQ.sls27 (hF.ev rfl)) <| pg (λ_ hF=>qF (hF.ev rfl) (hF.ev rfl)) <| PR.nil) ?_;clear hF fa;intro fa hF;refine aV ?_;refine iY hF rfl (λhc4=>?_) (λhc4=>?_)
  ·
   have hc4p:((i:Nat):Int)<((v.length:Nat):Int):=by first|simpa using hc4|exact eP hc4|exact eG hc4
   refine bK ?_;refine pr hF (pm rfl <| pm rfl <| pm rfl <| PR.nil) ?_;clear hF fa;intro fa hF;obtain⟨ad5,hA6,hq7⟩:=(hu_v.ext E2).cl.at_ (mW (l:=v) (i:=i) ω);refine pr hF (pg (λ_ hF=>mZ (j:=i) TfQ.sl27 (hF.ev rfl) hA6 (hF.ev rfl) ω ω) <| pg (λ_ hF=>iP TfQ.one209 (hF.ev rfl) hq7) <| pg (λ_ hF=>fH TfQ.unds209 TfQ.und194 (hF.ev rfl) (mF ω)) <| pm rfl <| pg (λ_ hF=>zT (hF.ev rfl) (hF.ev rfl) oJ) <| pg (λ_ hF=>dX (hF.ev rfl) (hF.ev rfl) oJ) <| pa rfl <| PR.nil) ?_;clear hF fa;intro fa hF;replace hF:Frm 62 fa [(0,(.slice (some ⟨g_U,k,none⟩) (m) (c_U))),(1,(.slice (A_v) (v.length) (c_v))),(2,(.int .u64 (((bw:Nat):Int)))),(6,(.bool (false))),(14,(.int .i64 (((m:Nat):Int)))),(7,(.int .u64 (((cr:Nat):Int)))),(8,(.int .u64 (((br:Nat):Int)))),(15,(.int .i64 (((i:Nat):Int)))),(16,(.bool (decide (((i:Nat):Int)<((m:Nat):Int))))),(9,(.int .i64 (((i:Nat):Int)))),(10,(.int .u64 (((cr:Nat):Int)+(((v.getD (i) 0:Nat):Int)*((bw:Nat):Int))))),(22,(.bool (decide (((i:Nat):Int)<((v.length:Nat):Int)))))]:=(hF.all ⟨rfl,rfl,rfl,rfl,rfl,rfl,rfl,rfl,rfl,rfl,rfl,rfl,trivial⟩)
   refine aV ?_;refine bI ?_;refine bK ?_;refine pr hF (pm rfl <| pg (λ_ hF=>zJ (hF.ev rfl) (hF.ev rfl) ω (LV (x:=cr+((v.getD (i) 0)*bw)) (y:=1000000000) ω ω ω)) <| pa rfl <| PR.nil) ?_;clear hF fa;intro fa hF;refine aV ?_;refine bI ?_;refine bK ?_;refine pr hF (pm rfl <| pg (λ_ hF=>Ep (hF.ev rfl) (hF.ev rfl) ω (Ro (x:=cr+((v.getD (i) 0)*bw)) (y:=1000000000) ω ω)) <| pm rfl <| pg (λ_ hF=>dX (hF.ev rfl) (hF.ev rfl) oJ) <| pa rfl <| PR.nil) ?_;clear hF fa;intro fa hF;refine aV ?_;refine bI ?_;refine bK ?_;refine pr hF (pa rfl <| PR.nil) ?_;clear hF fa;intro fa hF;refine aV ?_;refine bI ?_;refine bK ?_;refine pr hF (pm rfl <| pm rfl <| pg (λ_ hF=>lZ (o:=k) (j:=i) TfQ.sl27 (hF.ev rfl) (hF.ev rfl) ω ω) <| pg (λ_ hF=>jZ TfQ.one209 (hF.ev rfl) (hS.get 0 rfl) (uS (by first|omega|(simp;omega)))) <| pg (λ_ hF=>fH TfQ.unds209 TfQ.und194 (hF.ev rfl) (mF ω)) <| pa rfl <| PR.nil) ?_;clear hF fa;intro fa hF;refine aV ?_;refine bI ?_;refine bI ?_;refine bK ?_;refine pr hF (pm rfl <| pm rfl <| pg (λ_ hF=>qF (hF.ev rfl) (hF.ev rfl)) <| PR.nil) ?_;clear hF fa;intro fa hF;replace hF:Frm 62 fa [(0,(.slice (some ⟨g_U,k,none⟩) (m) (c_U))),(1,(.slice (A_v) (v.length) (c_v))),(2,(.int .u64 (((bw:Nat):Int)))),(6,(.bool (false))),(14,(.int .i64 (((m:Nat):Int)))),(7,(.int .u64 ((((cr+((v.getD (i) 0)*bw))/1000000000:Nat):Int)))),(8,(.int .u64 (0))),(15,(.int .i64 (((i:Nat):Int)))),(16,(.bool (decide (((i:Nat):Int)<((m:Nat):Int))))),(9,(.int .i64 (((i:Nat):Int)))),(10,(.int .u64 (((cr:Nat):Int)+(((v.getD (i) 0:Nat):Int)*((bw:Nat):Int))))),(22,(.bool (decide (((i:Nat):Int)<((v.length:Nat):Int))))),(11,(.int .u64 ((((cr+((v.getD (i) 0)*bw))%1000000000:Nat):Int)+((br:Nat):Int)))),(12,(.int .u64 (((o.getD (k+i) 0:Nat):Int)))),(45,(.bool (decide (((o.getD (k+i) 0:Nat):Int)<((((cr+((v.getD (i) 0)*bw))%1000000000:Nat):Int)+((br:Nat):Int))))))]:=(hF.all ⟨rfl,rfl,rfl,rfl,rfl,rfl,rfl,rfl,rfl,rfl,rfl,rfl,rfl,rfl,rfl,trivial⟩)
   refine aV ?_;refine iY hF rfl (λhc8=>?_) (λhc8=>?_)
   ·
    have hc8p:((o.getD (k+i) 0:Nat):Int)<((((cr+((v.getD (i) 0)*bw))%1000000000:Nat):Int)+((br:Nat):Int)):=by first|simpa using hc8|exact eP hc8|exact eG hc8
    refine bK ?_;refine pr hF (pm rfl <| pg (λ_ hF=>dX (hF.ev rfl) (hF.ev rfl) oJ) <| pa rfl <| pa rfl <| PR.nil) ?_;clear hF fa;intro fa hF;refine aV ?_;refine bK ?_;refine pr hF (pm rfl <| pm rfl <| pm rfl <| pm rfl <| pg (λ_ hF=>iI (hF.ev rfl) (hF.ev rfl) oJ) <| pg (λ_ hF=>fH TfQ.unds194 TfQ.und209 (hF.ev rfl) Hl) <| pg (λ_ hF=>lZ (o:=k) (j:=i) TfQ.sl27 (hF.ev rfl) (hF.ev rfl) ω ω) <| PR.nil) ?_;clear hF fa;intro fa hF;refine st rfl (iT (vs:=#[.int .u32 ((((o.getD (k+i) 0)+1000000000)-(((cr+((v.getD (i) 0)*bw))%1000000000)+br):Nat):Int)]) (v:=.int .u32 ((((o.getD (k+i) 0)+1000000000)-(((cr+((v.getD (i) 0)*bw))%1000000000)+br):Nat):Int)) (X:=(g_U ::(bl So++X))) hF hS 0 rfl η rfl (jH rfl ω) rfl TfQ.size209 rfl (qm (by first|omega|(simp;omega))) ?_);intro w9 hS E10;rw[jW (by first|omega|(simp;omega))]at hS;refine jM ?_;refine uq ?_;refine dW ?_;refine bK ?_;refine pr hF (pg (λ_ hF=>dX (hF.ev rfl) (hF.ev rfl) jY) <| pm rfl <| PR.nil) ?_;clear hF fa;intro fa hF;refine jM ?_;refine dW ?_;exact⟨_,ω,o.set (k+i) (((o.getD (k+i) 0)+1000000000)-(((cr+((v.getD (i) 0)*bw))%1000000000)+br)),(cr+((v.getD (i) 0)*bw))/1000000000,1,(i+1),(hF.all ⟨rfl,rfl,rfl,rfl,rfl,(dH rfl ω),(dH rfl ω),(dH rfl ω),trivial⟩),hS,(E2.trans E10),ω,κ,(gG hbo ω),(by rw[nO];exact htk),(by rw[set_drop];exact lu hdr),ω,ω,(xU (x:=o.getD (k+i) 0) ω hv hox.symm (by first|rfl|exact zam) ω),rfl⟩
   have hc8p:¬(((o.getD (k+i) 0:Nat):Int)<((((cr+((v.getD (i) 0)*bw))%1000000000:Nat):Int)+((br:Nat):Int))):=by first|simpa using hc8|exact eP hc8|exact eG hc8
   refine jo ?_;refine dW ?_;refine bK ?_;refine pr hF (pm rfl <| pm rfl <| pm rfl <| pm rfl <| pg (λ_ hF=>iI (hF.ev rfl) (hF.ev rfl) oJ) <| pg (λ_ hF=>fH TfQ.unds194 TfQ.und209 (hF.ev rfl) Hl) <| pg (λ_ hF=>lZ (o:=k) (j:=i) TfQ.sl27 (hF.ev rfl) (hF.ev rfl) ω ω) <| PR.nil) ?_;clear hF fa;intro fa hF;refine st rfl (iT (vs:=#[.int .u32 (((o.getD (k+i) 0)-(((cr+((v.getD (i) 0)*bw))%1000000000)+br):Nat):Int)]) (v:=.int .u32 (((o.getD (k+i) 0)-(((cr+((v.getD (i) 0)*bw))%1000000000)+br):Nat):Int)) (X:=(g_U ::(bl So++X))) hF hS 0 rfl η rfl (jH rfl ω) rfl TfQ.size209 rfl (qm (by first|omega|(simp;omega))) ?_);intro EP hS E12;rw[jW (by first|omega|(simp;omega))]at hS;refine jM ?_;refine uq ?_;refine dW ?_;refine bK ?_;refine pr hF (pg (λ_ hF=>dX (hF.ev rfl) (hF.ev rfl) jY) <| pm rfl <| PR.nil) ?_;clear hF fa;intro fa hF;refine jM ?_;refine dW ?_;exact⟨_,ω,o.set (k+i) ((o.getD (k+i) 0)-(((cr+((v.getD (i) 0)*bw))%1000000000)+br)),(cr+((v.getD (i) 0)*bw))/1000000000,0,(i+1),(hF.all ⟨rfl,rfl,rfl,rfl,rfl,(dH rfl ω),(dH rfl ω),(dH rfl ω),trivial⟩),hS,(E2.trans E12),ω,κ,(gG hbo ω),(by rw[nO];exact htk),(by rw[set_drop];exact lu hdr),ω,ω,(xU (x:=o.getD (k+i) 0) ω hv hox.symm (by first|rfl|exact zam) ω),rfl⟩
  have hc4p:¬(((i:Nat):Int)<((v.length:Nat):Int)):=by first|simpa using hc4|exact eP hc4|exact eG hc4
  refine jo ?_;refine dW ?_;refine bI ?_;refine bK ?_;refine pr hF (pm rfl <| pg (λ_ hF=>zJ (hF.ev rfl) (hF.ev rfl) ω (LV (x:=cr) (y:=1000000000) ω ω ω)) <| pa rfl <| PR.nil) ?_;clear hF fa;intro fa hF;refine aV ?_;refine bI ?_;refine bK ?_;refine pr hF (pm rfl <| pg (λ_ hF=>Ep (hF.ev rfl) (hF.ev rfl) ω (Ro (x:=cr) (y:=1000000000) ω ω)) <| pm rfl <| pg (λ_ hF=>dX (hF.ev rfl) (hF.ev rfl) oJ) <| pa rfl <| PR.nil) ?_;clear hF fa;intro fa hF;replace hF:Frm 62 fa [(0,(.slice (some ⟨g_U,k,none⟩) (m) (c_U))),(1,(.slice (A_v) (v.length) (c_v))),(2,(.int .u64 (((bw:Nat):Int)))),(6,(.bool (false))),(14,(.int .i64 (((m:Nat):Int)))),(7,(.int .u64 (((cr/1000000000:Nat):Int)))),(8,(.int .u64 (((br:Nat):Int)))),(15,(.int .i64 (((i:Nat):Int)))),(16,(.bool (decide (((i:Nat):Int)<((m:Nat):Int))))),(9,(.int .i64 (((i:Nat):Int)))),(10,(.int .u64 (((cr:Nat):Int)))),(22,(.bool (decide (((i:Nat):Int)<((v.length:Nat):Int))))),(11,(.int .u64 (((cr%1000000000:Nat):Int)+((br:Nat):Int))))]:=(hF.all ⟨rfl,rfl,rfl,rfl,rfl,rfl,rfl,rfl,rfl,rfl,rfl,rfl,rfl,trivial⟩)
  refine aV ?_;refine bI ?_;refine bK ?_;refine pr hF (pa rfl <| PR.nil) ?_;clear hF fa;intro fa hF;refine aV ?_;refine bI ?_;refine bK ?_;refine pr hF (pm rfl <| pm rfl <| pg (λ_ hF=>lZ (o:=k) (j:=i) TfQ.sl27 (hF.ev rfl) (hF.ev rfl) ω ω) <| pg (λ_ hF=>jZ TfQ.one209 (hF.ev rfl) (hS.get 0 rfl) (uS (by first|omega|(simp;omega)))) <| pg (λ_ hF=>fH TfQ.unds209 TfQ.und194 (hF.ev rfl) (mF ω)) <| pa rfl <| PR.nil) ?_;clear hF fa;intro fa hF;refine aV ?_;refine bI ?_;refine bI ?_;refine bK ?_;refine pr hF (pm rfl <| pm rfl <| pg (λ_ hF=>qF (hF.ev rfl) (hF.ev rfl)) <| PR.nil) ?_;clear hF fa;intro fa hF;refine aV ?_;refine iY hF rfl (λhc13=>?_) (λhc13=>?_)
  ·
   have hc13p:((o.getD (k+i) 0:Nat):Int)<(((cr%1000000000:Nat):Int)+((br:Nat):Int)):=by first|simpa using hc13|exact eP hc13|exact eG hc13
   refine bK ?_;refine pr hF (pm rfl <| pg (λ_ hF=>dX (hF.ev rfl) (hF.ev rfl) oJ) <| pa rfl <| pa rfl <| PR.nil) ?_;clear hF fa;intro fa hF;refine aV ?_;refine bK ?_;refine pr hF (pm rfl <| pm rfl <| pm rfl <| pm rfl <| pg (λ_ hF=>iI (hF.ev rfl) (hF.ev rfl) oJ) <| pg (λ_ hF=>fH TfQ.unds194 TfQ.und209 (hF.ev rfl) Hl) <| pg (λ_ hF=>lZ (o:=k) (j:=i) TfQ.sl27 (hF.ev rfl) (hF.ev rfl) ω ω) <| PR.nil) ?_;clear hF fa;intro fa hF;refine st rfl (iT (vs:=#[.int .u32 ((((o.getD (k+i) 0)+1000000000)-((cr%1000000000)+br):Nat):Int)]) (v:=.int .u32 ((((o.getD (k+i) 0)+1000000000)-((cr%1000000000)+br):Nat):Int)) (X:=(g_U ::(bl So++X))) hF hS 0 rfl η rfl (jH rfl ω) rfl TfQ.size209 rfl (qm (by first|omega|(simp;omega))) ?_);intro w14 hS E15;rw[jW (by first|omega|(simp;omega))]at hS;replace hF:Frm 62 fa [(0,(.slice (some ⟨g_U,k,none⟩) (m) (c_U))),(1,(.slice (A_v) (v.length) (c_v))),(2,(.int .u64 (((bw:Nat):Int)))),(6,(.bool (false))),(14,(.int .i64 (((m:Nat):Int)))),(7,(.int .u64 (((cr/1000000000:Nat):Int)))),(8,(.int .u64 (1))),(15,(.int .i64 (((i:Nat):Int)))),(16,(.bool (decide (((i:Nat):Int)<((m:Nat):Int))))),(9,(.int .i64 (((i:Nat):Int)))),(10,(.int .u64 (((cr:Nat):Int)))),(22,(.bool (decide (((i:Nat):Int)<((v.length:Nat):Int))))),(11,(.int .u64 (((cr%1000000000:Nat):Int)+((br:Nat):Int)))),(12,(.int .u64 (((o.getD (k+i) 0:Nat):Int)+1000000000))),(45,(.bool (decide (((o.getD (k+i) 0:Nat):Int)<(((cr%1000000000:Nat):Int)+((br:Nat):Int))))))]:=(hF.all ⟨rfl,rfl,rfl,rfl,rfl,rfl,rfl,rfl,rfl,rfl,rfl,rfl,rfl,rfl,rfl,trivial⟩)
   refine jM ?_;refine uq ?_;refine dW ?_;refine bK ?_;refine pr hF (pg (λ_ hF=>dX (hF.ev rfl) (hF.ev rfl) jY) <| pm rfl <| PR.nil) ?_;clear hF fa;intro fa hF;refine jM ?_;refine dW ?_;exact⟨_,ω,o.set (k+i) (((o.getD (k+i) 0)+1000000000)-((cr%1000000000)+br)),cr/1000000000,1,(i+1),(hF.all ⟨rfl,rfl,rfl,rfl,rfl,(dH rfl ω),(dH rfl ω),(dH rfl ω),trivial⟩),hS,(E2.trans E15),ω,κ,(gG hbo ω),(by rw[nO];exact htk),(by rw[set_drop];exact lu hdr),ω,ω,(xU (x:=o.getD (k+i) 0) ω hv hox.symm (by first|rfl|exact zam) ω),rfl⟩
  have hc13p:¬(((o.getD (k+i) 0:Nat):Int)<(((cr%1000000000:Nat):Int)+((br:Nat):Int))):=by first|simpa using hc13|exact eP hc13|exact eG hc13
  refine jo ?_;refine dW ?_;refine bK ?_;refine pr hF (pm rfl <| pm rfl <| pm rfl <| pm rfl <| pg (λ_ hF=>iI (hF.ev rfl) (hF.ev rfl) oJ) <| pg (λ_ hF=>fH TfQ.unds194 TfQ.und209 (hF.ev rfl) Hl) <| pg (λ_ hF=>lZ (o:=k) (j:=i) TfQ.sl27 (hF.ev rfl) (hF.ev rfl) ω ω) <| PR.nil) ?_;clear hF fa;intro fa hF;refine st rfl (iT (vs:=#[.int .u32 (((o.getD (k+i) 0)-((cr%1000000000)+br):Nat):Int)]) (v:=.int .u32 (((o.getD (k+i) 0)-((cr%1000000000)+br):Nat):Int)) (X:=(g_U ::(bl So++X))) hF hS 0 rfl η rfl (jH rfl ω) rfl TfQ.size209 rfl (qm (by first|omega|(simp;omega))) ?_);intro w16 hS E17;rw[jW (by first|omega|(simp;omega))]at hS;replace hF:Frm 62 fa [(0,(.slice (some ⟨g_U,k,none⟩) (m) (c_U))),(1,(.slice (A_v) (v.length) (c_v))),(2,(.int .u64 (((bw:Nat):Int)))),(6,(.bool (false))),(14,(.int .i64 (((m:Nat):Int)))),(7,(.int .u64 (((cr/1000000000:Nat):Int)))),(8,(.int .u64 (0))),(15,(.int .i64 (((i:Nat):Int)))),(16,(.bool (decide (((i:Nat):Int)<((m:Nat):Int))))),(9,(.int .i64 (((i:Nat):Int)))),(10,(.int .u64 (((cr:Nat):Int)))),(22,(.bool (decide (((i:Nat):Int)<((v.length:Nat):Int))))),(11,(.int .u64 (((cr%1000000000:Nat):Int)+((br:Nat):Int)))),(12,(.int .u64 (((o.getD (k+i) 0:Nat):Int)))),(45,(.bool (decide (((o.getD (k+i) 0:Nat):Int)<(((cr%1000000000:Nat):Int)+((br:Nat):Int))))))]:=(hF.all ⟨rfl,rfl,rfl,rfl,rfl,rfl,rfl,rfl,rfl,rfl,rfl,rfl,rfl,rfl,rfl,trivial⟩)
  refine jM ?_;refine uq ?_;refine dW ?_;refine bK ?_;refine pr hF (pg (λ_ hF=>dX (hF.ev rfl) (hF.ev rfl) jY) <| pm rfl <| PR.nil) ?_;clear hF fa;intro fa hF;refine jM ?_;refine dW ?_;exact⟨_,ω,o.set (k+i) ((o.getD (k+i) 0)-((cr%1000000000)+br)),cr/1000000000,0,(i+1),(hF.all ⟨rfl,rfl,rfl,rfl,rfl,(dH rfl ω),(dH rfl ω),(dH rfl ω),trivial⟩),hS,(E2.trans E17),ω,κ,(gG hbo ω),(by rw[nO];exact htk),(by rw[set_drop];exact lu hdr),ω,ω,(xU (x:=o.getD (k+i) 0) ω hv hox.symm (by first|rfl|exact zam) ω),rfl⟩
 have hc3p:¬(((i:Nat):Int)<((m:Nat):Int)):=by first|simpa using hc3|exact eP hc3|exact eG hc3
 refine sF ?_;refine rZ ?_;refine rZ ?_;refine EX ?_;refine dW ?_;refine bI ?_;refine bK ?_;refine pr hF (pm rfl <| pg (λ_ hF=>I4 (hF.ev rfl) (hF.ev rfl)) <| pm rfl <| PR.nil) ?_;clear hF fa;intro fa hF;rcases Bool.eq_false_or_eq_true (decide (((br:Nat):Int)>0))with hg18|hg18
 ·
  replace hF:=hF.cons (t:=58) (v:=.bool true) ((hF.get 58 _ rfl).trans (congrArg Value.bool hg18));have hg18p:((br:Nat):Int)>0:=by simpa using hg18
  refine pr hF (psk rfl rfl <| psk rfl rfl <| pg (λ_ hF=>vS (hF.ev rfl) (λ_=>hF.ev rfl) (v:=undef) (λh=>by cases h) rfl) <| pa rfl <| PR.nil) ?_;clear hF fa;intro fa hF;refine aV ?_;refine tV ?_;refine Xj hF rfl (kP hF rfl) ?_;exact⟨_,rfl,o,(cr+br),(congrArg Value.bool (by symm;rw[decide_eq_true_eq];omega)),(ho),(hbo),(htk),(by rw[show m=i by omega];exact hdr),(by have h1:=hv;rw[cZ (l:=v) ω,show i=m by omega]at h1;exact h1),hS,E2⟩
 replace hF:=hF.cons (t:=58) (v:=.bool false) ((hF.get 58 _ rfl).trans (congrArg Value.bool hg18));have hg18p:¬(((br:Nat):Int)>0):=by simpa using hg18
 refine pr hF (pgg (λ_ hF=>bT (hF.ev rfl)) <| pgg (λ_ hF=>I4 (hF.ev rfl) (hF.ev rfl)) <| pg (λ_ hF=>vS (hF.ev rfl) (u:=undef) (λh=>by cases h) (λ_=>hF.ev rfl) rfl) <| pa rfl <| PR.nil) ?_;clear hF fa;intro fa hF;refine aV ?_;refine tV ?_;refine Xj hF rfl (kP hF rfl) ?_;exact⟨_,rfl,o,(cr+br),(congrArg Value.bool (by rw[decide_eq_decide];omega)),(ho),(hbo),(htk),(by rw[show m=i by omega];exact hdr),(by have h1:=hv;rw[cZ (l:=v) ω,show i=m by omega]at h1;exact h1),hS,E2⟩
theorem xE{w0 w:World}{X:List Nat}{So:List Bx}{R:List Value}{g_U c_U:Nat}{U:List Nat}(hX:∀m∈X,m<w0.heap.size)(hS:St w0 w ((g_U,209,(us U++R).toArray)::So))(k m:Nat){v_v:Value}{v:List Nat}(h_v:UL w (g_U ::(bl So++X)) v_v (v))(hU:U.length<=1000000000000)(hkm:k+m<=U.length)(hvm:v.length<=m)(hb_U:Lb U)(hb_v:Lb v):
 Calls prog 317 #[(.slice (some ⟨g_U,k,none⟩) m c_U),v_v] w (Ar λr w'=>∃o:List Nat,∃cy:Nat,r=.tuple #[]/\o.length=U.length/\Lb o/\o.take k=U.take k/\o.drop (k+m)=U.drop (k+m)/\val (win o k m)+1000000000^m*cy=val (win U k m)+val v/\cy<=1/\St w0 w' ((g_U,209,(us o++R).toArray)::So)/\Ext w (g_U ::(bl So++X)) w' (g_U ::(bl So++X))):=by
 refine enter (N:=37) (fn:=Tryz.f317) (vs:=[(.slice (some ⟨g_U,k,none⟩) m c_U),v_v]) func317 rfl rfl rfl ?_;intro fa hF;obtain⟨A_v,_,c_v,rfl,rfl,hu_v⟩:=h_v;have hl_v:=hu_v.len;have hc_v:=hu_v.cap;replace hF:Frm 37 fa [(0,(.slice (some ⟨g_U,k,none⟩) (m) (c_U))),(1,(.slice (A_v) (v.length) (c_v)))]:=hF;refine bI ?_;refine bK ?_;refine pr hF (pa rfl <| PR.nil) ?_;clear hF fa;intro fa hF;refine aV ?_;refine bI ?_;refine bK ?_;refine pr hF (pm rfl <| pg (λ_ hF=>mP TfQ.sls27 (hF.ev rfl)) <| pm rfl <| PR.nil) ?_;clear hF fa;intro fa hF;refine aV ?_;refine iK ?_;refine uQ (λmu fa w'=>∃o:List Nat,∃cr:Nat,∃i:Nat,Frm 37 fa [(0,(.slice (some ⟨g_U,k,none⟩) (m) (c_U))),(1,(.slice (A_v) (v.length) (c_v))),(8,(.int .i64 (((m:Nat):Int)))),(4,(.int .u32 (((cr:Nat):Int)))),(9,(.int .i64 (((i:Nat):Int))))]/\St w0 w' ([(g_U,209,(us (o)++R).toArray)]++So)/\Ext w (g_U ::(bl So++X)) w' (g_U ::(bl So++X))/\(i<=m)/\(o.length=U.length)/\(Lb o)/\(o.take k=U.take k)/\(o.drop (k+i)=U.drop (k+i))/\(cr<=1)/\(val (win o k i)+1000000000^i*cr=val (win U k i)+val (v.take i))/\m-i=mu) ?_ ?_
 ·
  exact⟨_,U,0,0,(hF.all ⟨rfl,rfl,rfl,(dH rfl ω),(dH rfl ω),trivial⟩),hS,Ext.refl _ _,ω,(rfl),(hb_U),(rfl),(rfl),ω,(by simp[win_zero,val]),rfl⟩
 clear hF fa;intro n0_ fa w' hI;clear hS;obtain⟨o,cr,i,hF,hS,E2,hi,ho,hbo,htk,hdr,hcr,hv,rfl⟩:=hI
 rename World=>w1
 have hox:=Gs hdr;have hoi:=hbo.getD (k+i);have hvi:=hb_v.getD i;have hgn:=λh=>getD_none (l:=v) (k:=i) h
 refine bI ?_;refine bK ?_;refine pr hF (pg (λ_ hF=>qF (hF.ev rfl) (hF.ev rfl)) <| PR.nil) ?_;clear hF fa;intro fa hF;refine aV ?_;refine bI ?_;refine iY hF rfl (λhc3=>?_) (λhc3=>?_)
 ·
  have hc3p:((i:Nat):Int)<((m:Nat):Int):=by first|simpa using hc3|exact eP hc3|exact eG hc3
  refine jo ?_;refine dW ?_;refine bI ?_;refine iK ?_;refine bI ?_;refine bK ?_;refine pr hF (pm rfl <| pa rfl <| PR.nil) ?_;clear hF fa;intro fa hF;refine aV ?_;refine bI ?_;refine bK ?_;refine pr hF (pm rfl <| pm rfl <| pg (λ_ hF=>lZ (o:=k) (j:=i) TfQ.sl27 (hF.ev rfl) (hF.ev rfl) ω ω) <| pg (λ_ hF=>jZ TfQ.one209 (hF.ev rfl) (hS.get 0 rfl) (uS (by first|omega|(simp;omega)))) <| pm rfl <| pg (λ_ hF=>dX (hF.ev rfl) (hF.ev rfl) Hl) <| pa rfl <| PR.nil) ?_;clear hF fa;intro fa hF;refine aV ?_;refine bI ?_;refine bI ?_;refine bK ?_;refine pr hF (pm rfl <| pm rfl <| pg (λ_ hF=>mP TfQ.sls27 (hF.ev rfl)) <| pg (λ_ hF=>qF (hF.ev rfl) (hF.ev rfl)) <| PR.nil) ?_;clear hF fa;intro fa hF;refine aV ?_;refine iY hF rfl (λhc4=>?_) (λhc4=>?_)
  ·
   have hc4p:((i:Nat):Int)<((v.length:Nat):Int):=by first|simpa using hc4|exact eP hc4|exact eG hc4
   refine bK ?_;refine pr hF (pm rfl <| pm rfl <| pm rfl <| PR.nil) ?_;clear hF fa;intro fa hF;obtain⟨ad5,hA6,hq7⟩:=(hu_v.ext E2).cl.at_ (mW (l:=v) (i:=i) ω);refine pr hF (pg (λ_ hF=>mZ (j:=i) TfQ.sl27 (hF.ev rfl) hA6 (hF.ev rfl) ω ω) <| pg (λ_ hF=>iP TfQ.one209 (hF.ev rfl) hq7) <| pg (λ_ hF=>dX (hF.ev rfl) (hF.ev rfl) Hl) <| pa rfl <| PR.nil) ?_;clear hF fa;intro fa hF;replace hF:Frm 37 fa [(0,(.slice (some ⟨g_U,k,none⟩) (m) (c_U))),(1,(.slice (A_v) (v.length) (c_v))),(8,(.int .i64 (((m:Nat):Int)))),(4,(.int .u32 (((cr:Nat):Int)))),(9,(.int .i64 (((i:Nat):Int)))),(10,(.bool (decide (((i:Nat):Int)<((m:Nat):Int))))),(5,(.int .i64 (((i:Nat):Int)))),(6,(.int .u32 ((((o.getD (k+i) 0:Nat):Int)+((cr:Nat):Int))+((v.getD (i) 0:Nat):Int)))),(21,(.bool (decide (((i:Nat):Int)<((v.length:Nat):Int)))))]:=(hF.all ⟨rfl,rfl,rfl,rfl,rfl,rfl,rfl,rfl,rfl,trivial⟩)
   refine aV ?_;refine bI ?_;refine bK ?_;refine pr hF (pa rfl <| PR.nil) ?_;clear hF fa;intro fa hF;refine aV ?_;refine bI ?_;refine bI ?_;refine bK ?_;refine pr hF (pm rfl <| pg (λ_ hF=>uo (hF.ev rfl) (hF.ev rfl)) <| PR.nil) ?_;clear hF fa;intro fa hF;refine aV ?_;refine iY hF rfl (λhc8=>?_) (λhc8=>?_)
   ·
    have hc8p:((((o.getD (k+i) 0:Nat):Int)+((cr:Nat):Int))+((v.getD (i) 0:Nat):Int))>=1000000000:=by first|simpa using hc8|exact eP hc8|exact eG hc8
    refine bK ?_;refine pr hF (pm rfl <| pg (λ_ hF=>iI (hF.ev rfl) (hF.ev rfl) Hl) <| pa rfl <| pa rfl <| PR.nil) ?_;clear hF fa;intro fa hF;refine aV ?_;refine bK ?_;refine pr hF (pm rfl <| pm rfl <| pm rfl <| pg (λ_ hF=>lZ (o:=k) (j:=i) TfQ.sl27 (hF.ev rfl) (hF.ev rfl) ω ω) <| PR.nil) ?_;clear hF fa;intro fa hF;refine st rfl (iT (vs:=#[.int .u32 (((((o.getD (k+i) 0)+cr)+(v.getD (i) 0))-1000000000:Nat):Int)]) (v:=.int .u32 (((((o.getD (k+i) 0)+cr)+(v.getD (i) 0))-1000000000:Nat):Int)) (X:=(g_U ::(bl So++X))) hF hS 0 rfl η rfl (jH rfl ω) rfl TfQ.size209 rfl (qm (by first|omega|(simp;omega))) ?_);intro w9 hS E10;rw[jW (by first|omega|(simp;omega))]at hS;refine jM ?_;refine uq ?_;refine dW ?_;refine bK ?_;refine pr hF (pg (λ_ hF=>dX (hF.ev rfl) (hF.ev rfl) jY) <| pm rfl <| PR.nil) ?_;clear hF fa;intro fa hF;refine jM ?_;refine dW ?_;exact⟨_,ω,o.set (k+i) ((((o.getD (k+i) 0)+cr)+(v.getD (i) 0))-1000000000),1,(i+1),(hF.all ⟨rfl,rfl,rfl,(dH rfl ω),(dH rfl ω),trivial⟩),hS,(E2.trans E10),ω,κ,(gG hbo ω),(by rw[nO];exact htk),(by rw[set_drop];exact lu hdr),ω,(yu (x:=o.getD (k+i) 0) ω hv hox.symm (by first|omega|exact zam)),rfl⟩
   have hc8p:¬(((((o.getD (k+i) 0:Nat):Int)+((cr:Nat):Int))+((v.getD (i) 0:Nat):Int))>=1000000000):=by first|simpa using hc8|exact eP hc8|exact eG hc8
   refine jo ?_;refine dW ?_;refine bK ?_;refine pr hF (pm rfl <| pm rfl <| pm rfl <| pg (λ_ hF=>lZ (o:=k) (j:=i) TfQ.sl27 (hF.ev rfl) (hF.ev rfl) ω ω) <| PR.nil) ?_;clear hF fa;intro fa hF;refine st rfl (iT (vs:=#[.int .u32 ((((o.getD (k+i) 0)+cr)+(v.getD (i) 0):Nat):Int)]) (v:=.int .u32 ((((o.getD (k+i) 0)+cr)+(v.getD (i) 0):Nat):Int)) (X:=(g_U ::(bl So++X))) hF hS 0 rfl η rfl (jH rfl ω) rfl TfQ.size209 rfl (qm (by first|omega|(simp;omega))) ?_);intro EP hS E12;rw[jW (by first|omega|(simp;omega))]at hS;refine jM ?_;refine uq ?_;refine dW ?_;refine bK ?_;refine pr hF (pg (λ_ hF=>dX (hF.ev rfl) (hF.ev rfl) jY) <| pm rfl <| PR.nil) ?_;clear hF fa;intro fa hF;refine jM ?_;refine dW ?_;exact⟨_,ω,o.set (k+i) (((o.getD (k+i) 0)+cr)+(v.getD (i) 0)),0,(i+1),(hF.all ⟨rfl,rfl,rfl,(dH rfl ω),(dH rfl ω),trivial⟩),hS,(E2.trans E12),ω,κ,(gG hbo ω),(by rw[nO];exact htk),(by rw[set_drop];exact lu hdr),ω,(yu (x:=o.getD (k+i) 0) ω hv hox.symm (by first|omega|exact zam)),rfl⟩
  have hc4p:¬(((i:Nat):Int)<((v.length:Nat):Int)):=by first|simpa using hc4|exact eP hc4|exact eG hc4
  refine jo ?_;refine dW ?_;refine bI ?_;refine bK ?_;refine pr hF (pa rfl <| PR.nil) ?_;clear hF fa;intro fa hF;refine aV ?_;refine bI ?_;refine bI ?_;refine bK ?_;refine pr hF (pm rfl <| pg (λ_ hF=>uo (hF.ev rfl) (hF.ev rfl)) <| PR.nil) ?_;clear hF fa;intro fa hF;replace hF:Frm 37 fa [(0,(.slice (some ⟨g_U,k,none⟩) (m) (c_U))),(1,(.slice (A_v) (v.length) (c_v))),(8,(.int .i64 (((m:Nat):Int)))),(4,(.int .u32 (0))),(9,(.int .i64 (((i:Nat):Int)))),(10,(.bool (decide (((i:Nat):Int)<((m:Nat):Int))))),(5,(.int .i64 (((i:Nat):Int)))),(6,(.int .u32 (((o.getD (k+i) 0:Nat):Int)+((cr:Nat):Int)))),(21,(.bool (decide (((i:Nat):Int)<((v.length:Nat):Int))))),(29,(.bool (decide ((((o.getD (k+i) 0:Nat):Int)+((cr:Nat):Int))>=1000000000))))]:=(hF.all ⟨rfl,rfl,rfl,rfl,rfl,rfl,rfl,rfl,rfl,rfl,trivial⟩)
  refine aV ?_;refine iY hF rfl (λhc13=>?_) (λhc13=>?_)
  ·
   have hc13p:(((o.getD (k+i) 0:Nat):Int)+((cr:Nat):Int))>=1000000000:=by first|simpa using hc13|exact eP hc13|exact eG hc13
   refine bK ?_;refine pr hF (pm rfl <| pg (λ_ hF=>iI (hF.ev rfl) (hF.ev rfl) Hl) <| pa rfl <| pa rfl <| PR.nil) ?_;clear hF fa;intro fa hF;refine aV ?_;refine bK ?_;refine pr hF (pm rfl <| pm rfl <| pm rfl <| pg (λ_ hF=>lZ (o:=k) (j:=i) TfQ.sl27 (hF.ev rfl) (hF.ev rfl) ω ω) <| PR.nil) ?_;clear hF fa;intro fa hF;refine st rfl (iT (vs:=#[.int .u32 ((((o.getD (k+i) 0)+cr)-1000000000:Nat):Int)]) (v:=.int .u32 ((((o.getD (k+i) 0)+cr)-1000000000:Nat):Int)) (X:=(g_U ::(bl So++X))) hF hS 0 rfl η rfl (jH rfl ω) rfl TfQ.size209 rfl (qm (by first|omega|(simp;omega))) ?_);intro w14 hS E15;rw[jW (by first|omega|(simp;omega))]at hS;refine jM ?_;refine uq ?_;refine dW ?_;refine bK ?_;refine pr hF (pg (λ_ hF=>dX (hF.ev rfl) (hF.ev rfl) jY) <| pm rfl <| PR.nil) ?_;clear hF fa;intro fa hF;refine jM ?_;refine dW ?_;exact⟨_,ω,o.set (k+i) (((o.getD (k+i) 0)+cr)-1000000000),1,(i+1),(hF.all ⟨rfl,rfl,rfl,(dH rfl ω),(dH rfl ω),trivial⟩),hS,(E2.trans E15),ω,κ,(gG hbo ω),(by rw[nO];exact htk),(by rw[set_drop];exact lu hdr),ω,(yu (x:=o.getD (k+i) 0) ω hv hox.symm (by first|omega|exact zam)),rfl⟩
  have hc13p:¬((((o.getD (k+i) 0:Nat):Int)+((cr:Nat):Int))>=1000000000):=by first|simpa using hc13|exact eP hc13|exact eG hc13
  refine jo ?_;refine dW ?_;refine bK ?_;refine pr hF (pm rfl <| pm rfl <| pm rfl <| pg (λ_ hF=>lZ (o:=k) (j:=i) TfQ.sl27 (hF.ev rfl) (hF.ev rfl) ω ω) <| PR.nil) ?_;clear hF fa;intro fa hF;refine st rfl (iT (vs:=#[.int .u32 (((o.getD (k+i) 0)+cr:Nat):Int)]) (v:=.int .u32 (((o.getD (k+i) 0)+cr:Nat):Int)) (X:=(g_U ::(bl So++X))) hF hS 0 rfl η rfl (jH rfl ω) rfl TfQ.size209 rfl (qm (by first|omega|(simp;omega))) ?_);intro w16 hS E17;rw[jW (by first|omega|(simp;omega))]at hS;refine jM ?_;refine uq ?_;refine dW ?_;refine bK ?_;refine pr hF (pg (λ_ hF=>dX (hF.ev rfl) (hF.ev rfl) jY) <| pm rfl <| PR.nil) ?_;clear hF fa;intro fa hF;refine jM ?_;refine dW ?_;exact⟨_,ω,o.set (k+i) ((o.getD (k+i) 0)+cr),0,(i+1),(hF.all ⟨rfl,rfl,rfl,(dH rfl ω),(dH rfl ω),trivial⟩),hS,(E2.trans E17),ω,κ,(gG hbo ω),(by rw[nO];exact htk),(by rw[set_drop];exact lu hdr),ω,(yu (x:=o.getD (k+i) 0) ω hv hox.symm (by first|omega|exact zam)),rfl⟩
 have hc3p:¬(((i:Nat):Int)<((m:Nat):Int)):=by first|simpa using hc3|exact eP hc3|exact eG hc3
 refine sF ?_;refine rZ ?_;refine rZ ?_;refine EX ?_;refine ajT hF rfl ?_;exact⟨_,rfl,o,cr,rfl,(ho),(hbo),(htk),(by rw[show m=i by omega];exact hdr),(by have h1:=hv;rw[cZ (l:=v) ω,show i=m by omega]at h1;exact h1),(hcr),hS,E2⟩
end Go.Proofs.YtdpkjhnfklkkjaaGreat
