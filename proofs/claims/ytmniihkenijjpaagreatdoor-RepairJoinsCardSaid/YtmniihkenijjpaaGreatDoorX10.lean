/-
  Rules of the abstract run, plain laws, and what functions answer, for the law RepairJoins.
  Conditions: none.
-/
import Derived.Test.YtmniihkenijjpaaGreatDoorX9
import Derived.Test.YtmniihkenijjpaaGreatDoorChecked
set_option linter.all false
namespace Go.Proofs.YtmniihkenijjpaaGreatDoor
open Go Go.RowKit Go.Sw
set_option maxRecDepth 100000
set_option maxHeartbeats 8000000
instance af7(a b:List Nat):DenI Tryz.prog 161 [.c (aV a),.c (aV b)] (a.length≤1000000000000∧b.length≤1000000000000∧Lb a∧Lb b) (.c (aV (pad (a.length+b.length) (val a*val b)))):=⟨λhp=>by
 refine gI (by kernel_rfl) (λhl=>?_);simp only[oV,mD,cellsOf,aZ,and_true,true_and]at hl
 all_goals refine aC Tryz.func161 rfl ?_
 all_goals(repeat'((try(conv=>whnf));first
  |refine gu ?_ ?_))
 all_goals(try refine Pr.mk ?_)
 all_goals first
  |((conv=>whnf);refine Sw.Loop.inv (α:=List Nat×Nat) (λx=>[(1,.c (aV b)),(5,.gs 17 (a.length+b.length)),(18,.c (aV a)),(19,.int .i64 a.length),(20,.int .i64 (x.2:Nat))]) (λx=>[(17,.grow 154 1 (x.1.map λx=>[.v (u32 x)]))]) (λx=>x.2≤a.length∧x.1.length=a.length+b.length∧Lb x.1∧val (x.1.take (x.2+b.length))=val (a.take x.2)*val b) (λx=>a.length-x.2) (List.replicate (a.length+b.length) 0,0) ?_ ?_ ?_ (λx hx=>?_))|skip
 all_goals(repeat'((try(conv=>whnf));first
  |(with_reducible refine au (λ_=>?_) (λ_=>?_))|refine bI ?_ ?_|(with_reducible refine bZ ?_ ?_)|refine Ends.mk ?_))
 all_goals(try refine Pr.mk ?_)
 all_goals first
  |((conv=>whnf);refine Sw.Loop.inv (α:=List Nat×Nat×Nat) (λy=>[(1,.c (aV b)),(5,.gs 17 (a.length+b.length)),(6,.int .i64 (x.2:Nat)),(7,.int .u32 (a.getD x.2 0:Nat)),(8,.int .u64 (y.2.1:Nat)),(18,.c (aV a)),(19,.int .i64 a.length),(20,.int .i64 (x.2:Nat)),(25,.c (aV b)),(26,.int .i64 b.length),(27,.int .i64 (y.2.2:Nat))]) (λy=>[(17,.grow 154 1 (y.1.map λx=>[.v (u32 x)]))]) (λy=>y.2.2≤b.length∧y.1.length=a.length+b.length∧Lb y.1∧y.2.1<1000000000∧val (y.1.take (x.2+b.length))+1000000000^(x.2+y.2.2)*y.2.1=val (a.take x.2)*val b+1000000000^x.2*(a.getD x.2 0*val (b.take y.2.2))) (λy=>b.length-y.2.2) (x.1,0,0) ?_ ?_ ?_ (λy hy=>?_))|skip
 all_goals(repeat'((try(conv=>whnf));first
  |(with_reducible refine au (λ_=>?_) (λ_=>?_))|refine bI ?_ ?_|(with_reducible refine bZ ?_ ?_)))
 all_goals(try refine Pr.mk ?_)
 all_goals first|(show SubE _ _;repeat'(first|exact trivial|refine And.intro ?_ ?_))|(show SubB _ _;repeat'(first|exact trivial|refine And.intro ?_ ?_))|skip
 all_goals(try rfl)
 all_goals(try simp(disch:=omega) only[aZ,zO,gU,bP,xQ]at *)
 all_goals first
  |omega|rfl|exact sU _ _|exact⟨by omega,by simp,jG _,Px _ _ _ _⟩|exact⟨by omega,hx.2.1,hx.2.2.1,by omega,by simp[val,hx.2.2.2]⟩|exact aaQ hx.2.2.1 hx.2.1 (ET hx.2.1 (by omega) hx.2.2.2)|(have ga:=hp.2.2.1.getD x.2;have gb:=hp.2.2.2.getD y.2.2;have go:=hy.2.2.1.getD (x.2+y.2.2);obtain⟨c1,c2⟩:=BP ga gb go hy.2.2.2.1;obtain⟨h1,h2,h3,h4,h5⟩:=hy;(conv=>whnf);exact⟨(y.1.set (x.2+y.2.2) ((y.1.getD (x.2+y.2.2) 0+a.getD x.2 0*b.getD y.2.2 0+y.2.1)%1000000000),(y.1.getD (x.2+y.2.2) 0+a.getD x.2 0*b.getD y.2.2 0+y.2.1)/1000000000,y.2.2+1),⟨⟨rfl,rfl,rfl,rfl,iS (by(try simp(disch:=omega) only[dL,wu64,bP,lC,lH,xQ])<;>omega),rfl,rfl,rfl,rfl,rfl,bQ (by omega),trivial⟩,⟨BI (by(try simp(disch:=omega) only[dL,wu64,bP,lC,lH,xQ])<;>omega) (by(try simp(disch:=omega) only[dL,wu64,bP,lC,lH,xQ])<;>omega),trivial⟩,⟨by show y.2.2+1≤_;omega,by simp only[NC];exact h2,fQ h3 (xU _ (by decide)),c2,vN (by omega) (by omega) h5 rfl rfl rfl⟩,by show _-(y.2.2+1)<_-y.2.2;omega⟩⟩)|(obtain⟨h1,h2,h3,h4,h5⟩:=hy;(conv=>whnf);exact⟨(y.1.set (x.2+b.length) y.2.1,x.2+1),⟨⟨rfl,rfl,rfl,rfl,bQ (by omega),trivial⟩,⟨BI (by(try simp(disch:=omega) only[dL,wu64,bP,lC,lH,xQ])<;>omega) (by(try simp(disch:=omega) only[dL,wu64,bP,lC,lH,xQ])<;>omega),trivial⟩,⟨by show x.2+1≤_;omega,by simp only[NC];exact h2,fQ h3 h4,yC (by omega) (by rw[show y.2.2=b.length by omega]at h5;exact h5)⟩,by show _-(x.2+1)<_-x.2;omega⟩⟩)⟩
instance ad9(a b:List Nat):DenI Tryz.prog 108 [.c (aV a),.c (aV b)] (a.length≤1000000000000∧b.length≤1000000000000∧Lb a∧Lb b) (.c (aV (lim (val a*val b)))):=⟨λhp=>by
 refine gI (by kernel_rfl) (λhl=>?_);simp only[oV,mD,cellsOf,aZ,and_true,true_and]at hl
 all_goals refine aC Tryz.func108 rfl ?_
 all_goals(repeat'((try(conv=>whnf));first
  |refine aG ?_|refine aj ?_ ?_|(with_reducible first|refine aQ ?_|refine aP ?_|refine au (λ_=>?_) (λ_=>?_)|refine cZ (λ_=>?_) (λ_=>?_))|refine OnB.mk (λ_=>?_) (λ_=>?_)|refine bI ?_ ?_|refine Drw.mk (by kernel_rfl) ?_|refine gu ?_ ?_|refine iG ?_ ?_|(with_reducible first|refine bZ ?_ ?_|refine dn ?_|refine dM ?_)|refine Ends.mk ?_))
 all_goals(try refine Pr.mk ?_)
 all_goals first
  |((conv=>whnf);refine Sw.Loop.inv (α:=List Nat×Nat) (λx=>[(0,.c (aV a)),(1,.c (aV b)),(5,.gs 14 (a.length+b.length)),(6,.int .i64 (x.2:Nat))]) (λx=>[(14,.grow 154 1 (x.1.map λx=>[.v (u32 x)]))]) (λx=>x.2≤a.length∧x.1.length=a.length+b.length∧Lb x.1∧val (x.1.take (x.2+b.length))=val (a.take x.2)*val b) (λx=>a.length-x.2) (List.replicate (a.length+b.length) 0,0) ?_ ?_ ?_ (λx hx=>?_))|skip
 all_goals(repeat'((try(conv=>whnf));first
  |refine aG ?_|refine aj ?_ ?_|(with_reducible first|refine aQ ?_|refine aP ?_|refine au (λ_=>?_) (λ_=>?_)|refine cZ (λ_=>?_) (λ_=>?_))|refine OnB.mk (λ_=>?_) (λ_=>?_)|refine bI ?_ ?_|refine Drw.mk (by kernel_rfl) ?_|refine gu ?_ ?_|refine iG ?_ ?_|(with_reducible first|refine bZ ?_ ?_|refine dn ?_|refine dM ?_)|refine Ends.mk ?_))
 all_goals(try refine Pr.mk ?_)
 all_goals first
  |((conv=>whnf);refine Sw.Loop.inv (α:=List Nat×Nat×Nat) (λy=>[(0,.c (aV a)),(1,.c (aV b)),(5,.gs 14 (a.length+b.length)),(6,.int .i64 (x.2:Nat)),(7,.int .u64 (y.2.1:Nat)),(8,.int .i64 (y.2.2:Nat))]) (λy=>[(14,.grow 154 1 (y.1.map λx=>[.v (u32 x)]))]) (λy=>y.2.2≤b.length∧y.1.length=a.length+b.length∧Lb y.1∧y.2.1<1000000000∧val (y.1.take (x.2+b.length))+1000000000^(x.2+y.2.2)*y.2.1=val (a.take x.2)*val b+1000000000^x.2*(a.getD x.2 0*val (b.take y.2.2))) (λy=>b.length-y.2.2) (x.1,0,0) ?_ ?_ ?_ (λy hy=>?_))|skip
 all_goals(repeat'((try(conv=>whnf));first
  |refine aG ?_|refine aj ?_ ?_|(with_reducible first|refine aQ ?_|refine aP ?_|refine au (λ_=>?_) (λ_=>?_)|refine cZ (λ_=>?_) (λ_=>?_))|refine OnB.mk (λ_=>?_) (λ_=>?_)|refine bI ?_ ?_|refine Drw.mk (by kernel_rfl) ?_|refine gu ?_ ?_|refine iG ?_ ?_|(with_reducible first|refine bZ ?_ ?_|refine dn ?_|refine dM ?_)|refine Ends.mk ?_))
 all_goals(try refine Pr.mk ?_)
 all_goals first|(show SubE _ _;repeat'(first|exact trivial|refine And.intro ?_ ?_))|(show SubB _ _;repeat'(first|exact trivial|refine And.intro ?_ ?_))|skip
 all_goals(try rfl)
 all_goals(try simp(disch:=omega) only[aZ,zO,gU,bP,xQ]at *)
 all_goals first
  |omega|rfl|exact sU _ _|(constructor<;>omega)|exact bQ (by omega)|(simp(disch:=omega) only[aZ,bP];omega)|exact⟨by omega,by simp,jG _,Px _ _ _ _⟩|exact⟨by omega,hx.2.1,hx.2.2.1,by omega,by simp[val,hx.2.2.2]⟩|exact lE (by rw[←ET hx.2.1 (by omega) hx.2.2.2,lF _ hx.2.2.1])|(have ga:=hp.2.2.1.getD x.2;have gb:=hp.2.2.2.getD y.2.2;have go:=hy.2.2.1.getD (x.2+y.2.2);obtain⟨c1,c2⟩:=BP ga gb go hy.2.2.2.1;obtain⟨h1,h2,h3,h4,h5⟩:=hy;(conv=>whnf);exact⟨(y.1.set (x.2+y.2.2) ((y.1.getD (x.2+y.2.2) 0+a.getD x.2 0*b.getD y.2.2 0+y.2.1)%1000000000),(y.1.getD (x.2+y.2.2) 0+a.getD x.2 0*b.getD y.2.2 0+y.2.1)/1000000000,y.2.2+1),⟨⟨rfl,rfl,rfl,rfl,iS (by(try simp(disch:=omega) only[dL,wu64,bP,lC,lH,xQ])<;>omega),bQ (by omega),trivial⟩,⟨BI (by(try simp(disch:=omega) only[dL,wu64,bP,lC,lH,xQ])<;>omega) (by(try simp(disch:=omega) only[dL,wu64,bP,lC,lH,xQ])<;>omega),trivial⟩,⟨by show y.2.2+1≤_;omega,by simp only[NC];exact h2,fQ h3 (xU _ (by decide)),c2,vN (by omega) (by omega) h5 rfl rfl rfl⟩,by show _-(y.2.2+1)<_-y.2.2;omega⟩⟩)|(obtain⟨h1,h2,h3,h4,h5⟩:=hy;(conv=>whnf);exact⟨(y.1.set (x.2+b.length) y.2.1,x.2+1),⟨⟨rfl,rfl,rfl,bQ (by omega),trivial⟩,⟨BI (by(try simp(disch:=omega) only[dL,wu64,bP,lC,lH,xQ])<;>omega) (by(try simp(disch:=omega) only[dL,wu64,bP,lC,lH,xQ])<;>omega),trivial⟩,⟨by show x.2+1≤_;omega,by simp only[NC];exact h2,fQ h3 h4,yC (by omega) (by rw[show y.2.2=b.length by omega]at h5;exact h5)⟩,by show _-(x.2+1)<_-x.2;omega⟩⟩)|skip⟩
instance aez(l:List Nat):DenI Tryz.prog 154 [.c (aV l)] (l.length≤1000000000000∧Lb l∧val l<18446744073709551616) (.int .u64 ((val l:Nat):Int)):=⟨λhp=>by
 refine gI (by kernel_rfl) (λhl=>?_);simp only[oV,mD,cellsOf,aZ,and_true,true_and]at hl
 all_goals refine aC Tryz.func154 rfl ?_
 all_goals(repeat'((try(conv=>whnf));first
  |refine aG ?_|refine aj ?_ ?_|(with_reducible first|refine aQ ?_|refine aP ?_|refine au (λ_=>?_) (λ_=>?_)|refine cZ (λ_=>?_) (λ_=>?_))|refine OnB.mk (λ_=>?_) (λ_=>?_)|refine bI ?_ ?_|refine Drw.mk (by kernel_rfl) ?_|refine gu ?_ ?_|refine iG ?_ ?_|(with_reducible first|refine bZ ?_ ?_|refine dn ?_|refine dM ?_)|refine Ends.mk ?_))
 all_goals(try refine Pr.mk ?_)
 all_goals first
  |((conv=>whnf);refine Sw.Loop.inv (α:=Nat) (λx=>[(0,.c (aV l)),(3,.int .u64 (val (l.drop x):Nat)),(4,.int .i64 ((x:Int)-1))]) (λx=>[]) (λx=>x≤l.length) (λx=>x) l.length ?_ ?_ ?_ (λx hx=>?_))|skip
 all_goals(repeat'((try(conv=>whnf));first
  |refine aG ?_|refine aj ?_ ?_|(with_reducible first|refine aQ ?_|refine aP ?_|refine au (λ_=>?_) (λ_=>?_)|refine cZ (λ_=>?_) (λ_=>?_))|refine OnB.mk (λ_=>?_) (λ_=>?_)|refine bI ?_ ?_|refine Drw.mk (by kernel_rfl) ?_|refine gu ?_ ?_|refine iG ?_ ?_|(with_reducible first|refine bZ ?_ ?_|refine dn ?_|refine dM ?_)|refine Ends.mk ?_))
 all_goals(try refine Pr.mk ?_)
 all_goals first|(show SubE _ _;repeat'(first|exact trivial|refine And.intro ?_ ?_))|(show SubB _ _;repeat'(first|exact trivial|refine And.intro ?_ ?_))|skip
 all_goals(try rfl)
 all_goals(try simp(disch:=omega) only[aZ,uM,gU,zO,bP,dL,wu64,Bo,wP,Uk,lC,lH]at *)
 all_goals first
  |omega|rfl|exact sU _ _|(constructor<;>omega)|(rw[fH (jE _)];rfl)|(refine iE ?_;rw[show x=0 by omega,SX])|(have hd:=pK (l:=l) (k:=x) (by omega) hx;have hle:=zi l (x-1);have hg:=hp.2.1.getD (x-1);((conv=>whnf);exact⟨x-1,⟨⟨rfl,iS (by(try simp(disch:=omega) only[dL,wu64,bP,lC,lH,wP,xQ,PG,P9,KA,KZ,MG])<;>omega),vw (by omega) (by omega),trivial⟩,⟨⟩,(by omega),by show x-1<x;omega⟩⟩))|skip⟩
instance ae6(n:Nat):DenI Tryz.prog 117 [.int .u64 (n:Nat)] (n<18446744073709551616) (.c (aV (lim n))):=⟨λhp=>by
 refine gI (by kernel_rfl) (λhl=>?_);simp only[oV,mD,cellsOf,aZ,and_true,true_and]at hl
 all_goals refine aC Tryz.func117 rfl ?_
 all_goals first
  |((conv=>whnf);refine Sw.Loop.ghost 3 11 154 1 ?_ rfl rfl rfl (by decide))
 all_goals first
  |((conv=>whnf);refine Sw.Loop.inv (α:=List Nat×Nat) (λx=>[(0,.int .u64 (x.2:Nat)),(3,.gs 11 x.1.length)]) (λx=>[(11,.grow 154 1 (x.1.map λx=>[.v (u32 x)]))]) (λx=>x.2≤n∧lim n=x.1++lim x.2) (λx=>x.2) ([],n) ?_ ?_ ?_ (λx hx=>?_))
 all_goals(repeat'((try(conv=>whnf));first
  |(with_reducible refine au (λ_=>?_) (λ_=>?_))|refine bI ?_ ?_|refine Ends.mk ?_))
 all_goals(try refine Pr.mk ?_)
 all_goals first|(show SubE _ _;repeat'(first|exact trivial|refine And.intro ?_ ?_))|(show SubB _ _;repeat'(first|exact trivial|refine And.intro ?_ ?_))|skip
 all_goals(try rfl)
 all_goals(try simp only[aZ,zO,gU]at *)
 all_goals first
  |omega|exact⟨jE _,rfl⟩|exact Rw hx (by omega)|(have:=QI hp hx (by omega);simp only[iy,aZ,iR,jB];omega)|(have h2:=hx.1;((conv=>whnf);exact⟨(x.1++[x.2%1000000000],x.2/1000000000),⟨⟨iS (by(try simp(disch:=omega) only[dL,wu64,bP,lC,lH,wP,xQ,PG,P9,KA,KZ,MG])<;>omega),gsE (by simp),trivial⟩,⟨JM (by(try simp(disch:=omega) only[dL,wu64,bP,lC,lH,wP,xQ,PG,P9,KA,KZ,MG])<;>omega),trivial⟩,(Nu hx (by omega)),by show x.2/1000000000<x.2;omega⟩⟩))⟩
instance afY(n:Nat):DenI Tryz.prog 196 [.int .u64 (n:Nat)] (n<18446744073709551616) (.c (aV (pad 3 n))):=⟨λhp=>by
 refine gI (by kernel_rfl) (λhl=>?_);simp only[oV,mD,cellsOf,aZ,and_true,true_and]at hl
 all_goals refine aC Tryz.func196 rfl ?_
 all_goals(repeat'((try(conv=>whnf));first
  |refine bI ?_ ?_|refine Ends.mk ?_))
 all_goals(try refine Pr.mk ?_)
 all_goals first
  |omega|exact QO (by omega) (by(try simp(disch:=omega) only[dL,wu64,bP,lC,lH,wP,xQ,PG,P9,KA,KZ,MG])<;>omega) (by(try simp(disch:=omega) only[dL,wu64,bP,lC,lH,wP,xQ,PG,P9,KA,KZ,MG])<;>omega) (by(try simp(disch:=omega) only[dL,wu64,bP,lC,lH,wP,xQ,PG,P9,KA,KZ,MG])<;>omega)⟩
instance agQ(a:Int):DenI Tryz.prog 195 [Z a] (True) (.tup [.int .u64 ((if sz a≤2 then a.natAbs else 0:Nat):Int),.bool (decide (sz a≤2))]):=⟨λhp=>by
 refine gI (by kernel_rfl) (λhl=>?_);simp only[oV,mD,cellsOf,aZ,and_true,true_and]at hl
 all_goals refine aC Tryz.func195 rfl ?_
 all_goals(repeat'((try(conv=>whnf));first
  |(with_reducible refine au (λ_=>?_) (λ_=>?_))|refine Drw.mk (by kernel_rfl) ?_|(with_reducible refine bZ ?_ ?_)|refine Ends.mk ?_))
 all_goals(try refine Pr.mk ?_)
 all_goals(try simp only[aZ,zO,gU]at *)
 all_goals(have g0:=(bn a.natAbs).getD 0;have g1:=(bn a.natAbs).getD 1)
 all_goals first
  |omega|exact abW (by omega)|exact abD (by omega) (by(try simp(disch:=omega) only[dL,wu64,bP,lC,lH,wP,xQ,PG,P9,KA,KZ,MG])<;>omega)|exact acs (by omega) (by(try simp(disch:=omega) only[dL,wu64,bP,lC,lH,wP,xQ,PG,P9,KA,KZ,MG])<;>omega)|exact adn (by omega)⟩
instance aeM(a:List Nat)(b:Nat):DenI Tryz.prog 231 [.c (aV a),.int .u32 (b:Nat)] (a.length≤1000000000000∧Lb a∧0<b∧b<1000000000) (.tup [.c (aV (pad a.length (val a / b))),.c (aV [val a % b])]):=⟨λhp=>by
 refine gI (by kernel_rfl) (λhl=>?_);simp only[oV,mD,cellsOf,aZ,and_true,true_and]at hl
 all_goals refine aC Tryz.func231 rfl ?_
 all_goals(repeat'((try(conv=>whnf));first
  |refine gu ?_ ?_))
 all_goals(try refine Pr.mk ?_)
 all_goals first
  |((conv=>whnf);refine Sw.Loop.inv (α:=List Nat×Nat×Nat) (λx=>[(0,.c (aV a)),(1,.int .u32 (b:Nat)),(6,.gs 12 a.length),(7,.int .u64 (x.2.1:Nat)),(8,.int .i64 ((x.2.2:Int)-1))]) (λx=>[(12,.grow 154 1 (x.1.map λx=>[.v (u32 x)]))]) (λx=>x.2.2≤a.length∧x.1.length=a.length∧Lb x.1∧x.2.1<b∧val (a.drop x.2.2)=b*val (x.1.drop x.2.2)+x.2.1) (λx=>x.2.2) (List.replicate a.length 0,0,a.length) ?_ ?_ ?_ (λx hx=>?_))|skip
 all_goals(repeat'((try(conv=>whnf));first
  |(with_reducible refine au (λ_=>?_) (λ_=>?_))|refine bI ?_ ?_|refine Drw.mk (by kernel_rfl) ?_|(with_reducible refine bZ ?_ ?_)|refine Ends.mk ?_))
 all_goals(try refine Pr.mk ?_)
 all_goals first|(show SubE _ _;repeat'(first|exact trivial|refine And.intro ?_ ?_))|(show SubB _ _;repeat'(first|exact trivial|refine And.intro ?_ ?_))|skip
 all_goals(try rfl)
 all_goals(try simp(disch:=omega) only[aZ,uM,gU,zO,bP,dL,wu64,Bo,wP,Uk,lC,lH]at *)
 all_goals first
  |omega|rfl|exact sU _ _|exact⟨by omega,by simp,jG _,by omega,by rw[fH (jE _),fH (by simp)];simp⟩|(have h2:=hx.2.2.2.2;rw[show x.2.2=0 by omega]at h2;exact ZP hp.2.2.1 hx.2.2.2.1 hx.2.1 hx.2.2.1 h2)|(have ga:=hp.2.1.getD (x.2.2-1);have c4:=Int.natCast_nonneg ((x.2.1*1000000000+a.getD (x.2.2-1) 0)/b);obtain⟨c1,c2,c3⟩:=En hx.2.2.2.1 hp.2.2.2 ga (t:=_) rfl;obtain⟨h1,h2,h3,h4,h5⟩:=hx;((conv=>whnf);exact⟨(x.1.set (x.2.2-1) ((x.2.1*1000000000+a.getD (x.2.2-1) 0)/b),(x.2.1*1000000000+a.getD (x.2.2-1) 0)%b,x.2.2-1),⟨⟨rfl,rfl,rfl,iS (by(try simp(disch:=omega) only[dL,wu64,bP,lC,lH,wP,xQ,PG,P9,KA,KZ,MG])<;>omega),vw (by omega) (by omega),trivial⟩,⟨BI (by(try simp(disch:=omega) only[dL,wu64,bP,lC,lH,wP,xQ,PG,P9,KA,KZ,MG])<;>omega) (by(try simp(disch:=omega) only[dL,wu64,bP,lC,lH,wP,xQ,PG,P9,KA,KZ,MG])<;>omega),trivial⟩,⟨by show x.2.2-1≤_;omega,by simp only[NC];exact h2,fQ h3 c1,c2,zo (by omega) h1 (by omega) h5 rfl rfl⟩,by show x.2.2-1<x.2.2;omega⟩⟩))⟩
instance(b:Nat):DenI Tryz.prog 142 [.c (.sl 1 [[.v (.int .u32 (b:Nat))]])] True (.c (aV (ah [b]))):=⟨λhp=>(inferInstance:DenI Tryz.prog 142 [.c (aV [b])] _ _).den hp⟩
instance aiJ(a:List Nat)(b:Nat):DenI Tryz.prog 194 [.c (aV a),.int .u32 (b:Nat)] (a.length≤1000000000000∧Lb a∧b<1000000000) (.c (aV (lim (val a*b)))):=⟨λhp=>by
 refine gI (by kernel_rfl) (λhl=>?_);simp only[oV,mD,cellsOf,aZ,and_true,true_and]at hl
 all_goals refine aC Tryz.func194 rfl ?_
 all_goals(repeat'((try(conv=>whnf));first
  |refine aG ?_|refine aj ?_ ?_|(with_reducible first|refine aQ ?_|refine aP ?_|refine au (λ_=>?_) (λ_=>?_)|refine cZ (λ_=>?_) (λ_=>?_))|refine OnB.mk (λ_=>?_) (λ_=>?_)|refine bI ?_ ?_|refine Drw.mk (by kernel_rfl) ?_|refine gu ?_ ?_|refine iG ?_ ?_|(with_reducible first|refine bZ ?_ ?_|refine dn ?_|refine dM ?_)|refine Ends.mk ?_))
 all_goals(try refine Pr.mk ?_)
 all_goals first
  |exact⟨hp.1,by have:=fA [b];simp at this;omega,hp.2.1,mX (Lb.cons hp.2.2 Lb.nil)⟩|(refine lE ?_;rw[dZ];simp[val])|skip⟩
instance ae5(a b:List Nat):DenI Tryz.prog 144 [.c (aV a),.c (aV b)] (a.length≤1000000000000∧b.length≤1000000000000∧Lb a∧Lb b∧b.length≤a.length∧val b≤val a) (.c (aV (lim (val a-val b)))):=⟨λhp=>by
 refine gI (by kernel_rfl) (λhl=>?_);simp only[oV,mD,cellsOf,aZ,and_true,true_and]at hl
 all_goals refine aC Tryz.func144 rfl ?_
 all_goals(repeat'((try(conv=>whnf));first
  |refine gu ?_ ?_))
 all_goals(try refine Pr.mk ?_)
 all_goals first
  |((conv=>whnf);refine Sw.Loop.inv (α:=List Nat×Nat×Nat) (λx=>[(0,.c (aV a)),(1,.c (aV b)),(5,.gs 11 a.length),(6,.int .u32 (x.2.1:Nat)),(7,.int .i64 (x.2.2:Nat))]) (λx=>[(11,.grow 154 1 (x.1.map λx=>[.v (u32 x)]))]) (λx=>x.2.2≤a.length∧x.1.length=a.length∧Lb x.1∧x.2.1≤1∧val (x.1.take x.2.2)+val (b.take x.2.2)=val (a.take x.2.2)+1000000000^x.2.2*x.2.1) (λx=>a.length-x.2.2) (List.replicate a.length 0,0,0) ?_ ?_ ?_ (λx hx=>?_))|skip
 all_goals(repeat'((try(conv=>whnf));first
  |refine aG ?_|(with_reducible refine au (λ_=>?_) (λ_=>?_))|refine bI ?_ ?_|(with_reducible refine bZ ?_ ?_)|refine Ends.mk ?_))
 all_goals(try refine Pr.mk ?_)
 all_goals first|(show SubE _ _;repeat'(first|exact trivial|refine And.intro ?_ ?_))|(show SubB _ _;repeat'(first|exact trivial|refine And.intro ?_ ?_))|skip
 all_goals(try rfl)
 all_goals(try simp only[aZ,zO,gU]at *)
 all_goals first
  |omega|rfl|exact sU _ _|exact⟨by omega,by simp,jG _,by omega,by simp[val]⟩|exact Ri hx.2.2.1 hp.2.2.1 hx.2.1 (by omega) hp.2.2.2.2.1 hp.2.2.2.2.2 hx.2.2.2.2|(obtain⟨h1,h2,h3,h4,h5⟩:=hx;have ga:=hp.2.2.1.getD x.2.2;have gb:=hp.2.2.2.1.getD x.2.2;have gz:=getD_none (l:=b) (k:=x.2.2) (by omega);(try simp(disch:=omega) only[dL]at *);(conv=>whnf);exact⟨(x.1.set x.2.2 ((a.getD x.2.2 0+1000000000-x.2.1-b.getD x.2.2 0)%1000000000),1-(a.getD x.2.2 0+1000000000-x.2.1-b.getD x.2.2 0)/1000000000,x.2.2+1),⟨⟨rfl,rfl,rfl,iS (by(try simp(disch:=omega) only[dL,wu64,bP,lC,lH])<;>omega),bQ (by omega),trivial⟩,⟨BI rfl (by(try simp(disch:=omega) only[dL,wu64,bP,lC,lH])<;>omega),trivial⟩,⟨by show x.2.2+1≤_;omega,by simp only[NC];exact h2,fQ h3 (xU _ (by decide)),by show 1-_/1000000000≤1;omega,qo (by omega) h5 (by dsimp only;omega)⟩,by show _-(x.2.2+1)<_-x.2.2;omega⟩⟩)|(obtain⟨h1,h2,h3,h4,h5⟩:=hx;have ga:=hp.2.2.1.getD x.2.2;have gb:=hp.2.2.2.1.getD x.2.2;(try simp(disch:=omega) only[dL]at *);(conv=>whnf);exact⟨(x.1.set x.2.2 ((a.getD x.2.2 0+1000000000-x.2.1-b.getD x.2.2 0)%1000000000),1-(a.getD x.2.2 0+1000000000-x.2.1-b.getD x.2.2 0)/1000000000,x.2.2+1),⟨⟨rfl,rfl,rfl,iS (by(try simp(disch:=omega) only[dL,wu64,bP,lC,lH])<;>omega),bQ (by omega),trivial⟩,⟨BI rfl (by(try simp(disch:=omega) only[dL,wu64,bP,lC,lH])<;>omega),trivial⟩,⟨by show x.2.2+1≤_;omega,by simp only[NC];exact h2,fQ h3 (xU _ (by decide)),by show 1-_/1000000000≤1;omega,qo (by omega) h5 (by dsimp only;omega)⟩,by show _-(x.2.2+1)<_-x.2.2;omega⟩⟩)⟩
instance af2(a b:List Nat):DenI Tryz.prog 236 [.c (aV a),.c (aV b)] (a.length≤1000000000000∧b.length≤1000000000000∧Lb a∧Lb b∧b.length≤a.length∧val b≤val a) (.c (aV (pad a.length (val a-val b)))):=⟨λhp=>by
 refine gI (by kernel_rfl) (λhl=>?_);simp only[oV,mD,cellsOf,aZ,and_true,true_and]at hl
 all_goals refine aC Tryz.func236 rfl ?_
 all_goals(repeat'((try(conv=>whnf));first
  |refine gu ?_ ?_))
 all_goals(try refine Pr.mk ?_)
 all_goals first
  |((conv=>whnf);refine Sw.Loop.inv (α:=List Nat×Nat×Nat) (λx=>[(1,.c (aV b)),(5,.gs 12 a.length),(6,.int .u32 (x.2.1:Nat)),(13,.c (aV a)),(14,.int .i64 a.length),(15,.int .i64 (x.2.2:Nat))]) (λx=>[(12,.grow 154 1 (x.1.map λx=>[.v (u32 x)]))]) (λx=>x.2.2≤a.length∧x.1.length=a.length∧Lb x.1∧x.2.1≤1∧val (x.1.take x.2.2)+val (b.take x.2.2)=val (a.take x.2.2)+1000000000^x.2.2*x.2.1) (λx=>a.length-x.2.2) (List.replicate a.length 0,0,0) ?_ ?_ ?_ (λx hx=>?_))|skip
 all_goals(repeat'((try(conv=>whnf));first
  |(with_reducible refine au (λ_=>?_) (λ_=>?_))|refine bI ?_ ?_|(with_reducible refine bZ ?_ ?_)|refine Ends.mk ?_))
 all_goals(try refine Pr.mk ?_)
 all_goals first|(show SubE _ _;repeat'(first|exact trivial|refine And.intro ?_ ?_))|(show SubB _ _;repeat'(first|exact trivial|refine And.intro ?_ ?_))|skip
 all_goals(try rfl)
 all_goals(try simp only[aZ,zO,gU]at *)
 all_goals first
  |omega|rfl|exact sU _ _|(obtain⟨h1,h2,h3,h4,h5⟩:=hx;have ga:=hp.2.2.1.getD x.2.2;have gb:=hp.2.2.2.1.getD x.2.2;have gz:=getD_none (l:=b) (k:=x.2.2) (by omega);(try simp(disch:=omega) only[dL]at *);(conv=>whnf);exact⟨(x.1.set x.2.2 ((a.getD x.2.2 0+1000000000-x.2.1-b.getD x.2.2 0)%1000000000),1-(a.getD x.2.2 0+1000000000-x.2.1-b.getD x.2.2 0)/1000000000,x.2.2+1),⟨⟨rfl,rfl,iS (by(try simp(disch:=omega) only[dL,wu64,bP,lC,lH])<;>omega),rfl,rfl,bQ (by omega),trivial⟩,⟨BI rfl (by(try simp(disch:=omega) only[dL,wu64,bP,lC,lH])<;>omega),trivial⟩,⟨by show x.2.2+1≤_;omega,by simp only[NC];exact h2,fQ h3 (xU _ (by decide)),by show 1-_/1000000000≤1;omega,qo (by omega) h5 (by dsimp only;omega)⟩,by show _-(x.2.2+1)<_-x.2.2;omega⟩⟩)|(obtain⟨h1,h2,h3,h4,h5⟩:=hx;have ga:=hp.2.2.1.getD x.2.2;have gb:=hp.2.2.2.1.getD x.2.2;(try simp(disch:=omega) only[dL]at *);(conv=>whnf);exact⟨(x.1.set x.2.2 ((a.getD x.2.2 0+1000000000-x.2.1-b.getD x.2.2 0)%1000000000),1-(a.getD x.2.2 0+1000000000-x.2.1-b.getD x.2.2 0)/1000000000,x.2.2+1),⟨⟨rfl,rfl,iS (by(try simp(disch:=omega) only[dL,wu64,bP,lC,lH])<;>omega),rfl,rfl,bQ (by omega),trivial⟩,⟨BI rfl (by(try simp(disch:=omega) only[dL,wu64,bP,lC,lH])<;>omega),trivial⟩,⟨by show x.2.2+1≤_;omega,by simp only[NC];exact h2,fQ h3 (xU _ (by decide)),by show 1-_/1000000000≤1;omega,qo (by omega) h5 (by dsimp only;omega)⟩,by show _-(x.2.2+1)<_-x.2.2;omega⟩⟩)|exact⟨by omega,by simp,jG _,by omega,by simp[val]⟩|exact aaQ hx.2.2.1 hx.2.1 (Fa hx.2.2.1 hp.2.2.1 hx.2.1 (by omega) hp.2.2.2.2.1 hp.2.2.2.2.2 hx.2.2.2.2)⟩
instance ahb(a b:List Nat):DenI Tryz.prog 235 [.c (aV a),.c (aV b)] (a.length≤1000000000000∧b.length≤1000000000000∧Lb a∧Lb b) (.c (aV (pad (max a.length b.length+1) (val a+val b)))):=⟨λhp=>by
 refine gI (by kernel_rfl) (λhl=>?_);simp only[oV,mD,cellsOf,aZ,and_true,true_and]at hl
 all_goals refine aC Tryz.func235 rfl ?_
 all_goals(repeat'((try(conv=>whnf));first
  |(with_reducible refine au (λ_=>?_) (λ_=>?_))|refine gu ?_ ?_))
 all_goals(try refine Pr.mk ?_)
 all_goals(try simp(disch:=omega) only[aZ,uM,gU,zO,bP,dL,wu64,Bo,wP,Uk,lC,lH]at *)
 all_goals first
  |(have hh:b.length≤a.length:=(by omega);(conv=>whnf);refine Sw.Loop.inv (α:=List Nat×Nat×Nat) (λx=>[(1,.c (aV b)),(5,.gs 19 x.1.length),(6,.int .u32 (x.2.1:Nat)),(20,.c (aV a)),(21,.int .i64 a.length),(22,.int .i64 (x.2.2:Nat))]) (λx=>[(19,.grow 154 1 (x.1.map λx=>[.v (u32 x)]))]) (λx=>x.2.2≤a.length∧x.1.length=x.2.2∧Lb x.1∧x.2.1≤1∧val x.1+1000000000^x.2.2*x.2.1=val (a.take x.2.2)+val (b.take x.2.2)) (λx=>a.length-x.2.2) ([],0,0) ?_ ?_ ?_ (λx hx=>?_))|(have hh:a.length≤b.length:=(by omega);(conv=>whnf);refine Sw.Loop.inv (α:=List Nat×Nat×Nat) (λx=>[(1,.c (aV a)),(5,.gs 19 x.1.length),(6,.int .u32 (x.2.1:Nat)),(20,.c (aV b)),(21,.int .i64 b.length),(22,.int .i64 (x.2.2:Nat))]) (λx=>[(19,.grow 154 1 (x.1.map λx=>[.v (u32 x)]))]) (λx=>x.2.2≤b.length∧x.1.length=x.2.2∧Lb x.1∧x.2.1≤1∧val x.1+1000000000^x.2.2*x.2.1=val (b.take x.2.2)+val (a.take x.2.2)) (λx=>b.length-x.2.2) ([],0,0) ?_ ?_ ?_ (λx hx=>?_))|skip
 all_goals(repeat'((try(conv=>whnf));first
  |(with_reducible refine au (λ_=>?_) (λ_=>?_))|refine bI ?_ ?_|(with_reducible refine bZ ?_ ?_)|refine Ends.mk ?_))
 all_goals(try refine Pr.mk ?_)
 all_goals first|(show SubE _ _;repeat'(first|exact trivial|refine And.intro ?_ ?_))|(show SubB _ _;repeat'(first|exact trivial|refine And.intro ?_ ?_))|skip
 all_goals(try rfl)
 all_goals(try simp only[aZ,zO,gU]at *)
 all_goals first
  |omega|rfl|(obtain⟨h1,h2,h3,h4,h5⟩:=hx;have ga:=hp.2.2.1.getD x.2.2;have gb:=hp.2.2.2.getD x.2.2;have gz:=getD_none (l:=b) (k:=x.2.2) (by omega);(try simp(disch:=omega) only[dL]at *);(conv=>whnf);exact⟨(x.1++[(x.2.1+a.getD x.2.2 0+b.getD x.2.2 0)%1000000000],(x.2.1+a.getD x.2.2 0+b.getD x.2.2 0)/1000000000,x.2.2+1),⟨⟨rfl,gsE (by simp),iS (by(try simp(disch:=omega) only[dL,wu64,bP,lC,lH])<;>omega),rfl,rfl,bQ (by omega),trivial⟩,⟨JM (by(try simp(disch:=omega) only[dL,wu64,bP,lC,lH])<;>omega),trivial⟩,⟨by show x.2.2+1≤_;omega,by simp only[iy,iR,jB];omega,qO h3 (xU _ (by decide)),by show _/1000000000≤1;omega,tu h2 h5 rfl rfl rfl⟩,by show _-(x.2.2+1)<_-x.2.2;omega⟩⟩)|(obtain⟨h1,h2,h3,h4,h5⟩:=hx;have ga:=hp.2.2.1.getD x.2.2;have gb:=hp.2.2.2.getD x.2.2;(try simp(disch:=omega) only[dL]at *);(conv=>whnf);exact⟨(x.1++[(x.2.1+a.getD x.2.2 0+b.getD x.2.2 0)%1000000000],(x.2.1+a.getD x.2.2 0+b.getD x.2.2 0)/1000000000,x.2.2+1),⟨⟨rfl,gsE (by simp),iS (by(try simp(disch:=omega) only[dL,wu64,bP,lC,lH])<;>omega),rfl,rfl,bQ (by omega),trivial⟩,⟨JM (by(try simp(disch:=omega) only[dL,wu64,bP,lC,lH])<;>omega),trivial⟩,⟨by show x.2.2+1≤_;omega,by simp only[iy,iR,jB];omega,qO h3 (xU _ (by decide)),by show _/1000000000≤1;omega,tu h2 h5 rfl rfl rfl⟩,by show _-(x.2.2+1)<_-x.2.2;omega⟩⟩)|(obtain⟨h1,h2,h3,h4,h5⟩:=hx;have ga:=hp.2.2.2.getD x.2.2;have gb:=hp.2.2.1.getD x.2.2;have gz:=getD_none (l:=a) (k:=x.2.2) (by omega);(try simp(disch:=omega) only[dL]at *);(conv=>whnf);exact⟨(x.1++[(x.2.1+b.getD x.2.2 0+a.getD x.2.2 0)%1000000000],(x.2.1+b.getD x.2.2 0+a.getD x.2.2 0)/1000000000,x.2.2+1),⟨⟨rfl,gsE (by simp),iS (by(try simp(disch:=omega) only[dL,wu64,bP,lC,lH])<;>omega),rfl,rfl,bQ (by omega),trivial⟩,⟨JM (by(try simp(disch:=omega) only[dL,wu64,bP,lC,lH])<;>omega),trivial⟩,⟨by show x.2.2+1≤_;omega,by simp only[iy,iR,jB];omega,qO h3 (xU _ (by decide)),by show _/1000000000≤1;omega,tu h2 h5 rfl rfl rfl⟩,by show _-(x.2.2+1)<_-x.2.2;omega⟩⟩)|(obtain⟨h1,h2,h3,h4,h5⟩:=hx;have ga:=hp.2.2.2.getD x.2.2;have gb:=hp.2.2.1.getD x.2.2;(try simp(disch:=omega) only[dL]at *);(conv=>whnf);exact⟨(x.1++[(x.2.1+b.getD x.2.2 0+a.getD x.2.2 0)%1000000000],(x.2.1+b.getD x.2.2 0+a.getD x.2.2 0)/1000000000,x.2.2+1),⟨⟨rfl,gsE (by simp),iS (by(try simp(disch:=omega) only[dL,wu64,bP,lC,lH])<;>omega),rfl,rfl,bQ (by omega),trivial⟩,⟨JM (by(try simp(disch:=omega) only[dL,wu64,bP,lC,lH])<;>omega),trivial⟩,⟨by show x.2.2+1≤_;omega,by simp only[iy,iR,jB];omega,qO h3 (xU _ (by decide)),by show _/1000000000≤1;omega,tu h2 h5 rfl rfl rfl⟩,by show _-(x.2.2+1)<_-x.2.2;omega⟩⟩)|exact⟨by omega,rfl,Lb.nil,by omega,by simp[val]⟩|(simp only[aZ,iy,iR,jB];omega)|(refine aeb hx.2.2.1 (by omega) (by omega) ?_;have h5:=hx.2.2.2.2;rw[bT (l:=a) (by omega),bT (l:=b) (by omega)]at h5;rw[hx.2.1];omega)⟩
end Go.Proofs.YtmniihkenijjpaaGreatDoor
namespace Go.Sw
open Go
theorem VI{n:Int}(h:0≤n)(h2:n≤9223372036854775807):IntKind.u64.wrap n=((n.natAbs:Nat):Int):=by rw[IntKind.wrap_u64];omega
theorem Uf{n:Int}(h:n<0)(h2 : -9223372036854775808≤n):IntKind.u64.wrap (0-IntKind.u64.wrap n)=((n.natAbs:Nat):Int):=by rw[IntKind.wrap_u64,IntKind.wrap_u64];omega
theorem XL{x y:Int}(h:x=y):aA [Z x]=Z y:=by rw[h];rfl
theorem Xf{a b qs rs:List Nat}(h4:Lb qs)(h5:Lb rs)(h6:val a=val b*val qs+val rs)(h7:val rs<val b)(h8:qs.length=XT a b)(h9:rs.length=WE a b):qs=pad (XT a b) (val a/val b)∧rs=pad (WE a b) (val a%val b):=by
 have h1:val a/val b=val qs:=by rw[h6,Dy,Nat.add_comm,Nat.add_mul_div_right _ _ (by omega),Nat.div_eq_of_lt h7,uX]
 have h2:val a%val b=val rs:=by rw[h6,Nat.mul_add_mod,PX h7]
 rw[h1,h2,←h8,←h9];exact⟨Ae _ h4,Ae _ h5⟩
section
variable {a b:Int}
theorem aaI(h:(((lim a.natAbs).length:Nat):Int)=0):aA [AV.c (Cell.v (.int .i64 0))]=AV.int .i64 (jr a):=iE (by have:=dI (n:=a.natAbs);unfold jr;repeat' split;all_goals omega)
theorem aaH(h:a<0):aA [AV.c (Cell.v (.int .i64 (-1)))]=AV.int .i64 (jr a):=iE (by unfold jr;repeat' split;all_goals omega)
theorem aau(h:¬a<0)(h2:(((lim a.natAbs).length:Nat):Int)>0):aA [AV.c (Cell.v (.int .i64 1))]=AV.int .i64 (jr a):=iE (by have:=dI (n:=a.natAbs);unfold jr;repeat' split;all_goals omega)
theorem afi(h:(decide (a<0) != decide (b<0))=true)(ha:a<0):aA [AV.c (Cell.v (.int .i64 (-1)))]=AV.int .i64 (jC a b):=iE (by have hb:¬b<0:=(λhb=>by simp[ha,hb]at h);rw[YK (by omega)])
theorem aeO(h:(decide (a<0) != decide (b<0))=true)(ha:¬a<0):aA [AV.c (Cell.v (.int .i64 1))]=AV.int .i64 (jC a b):=iE (by have hb:b<0:=Decidable.byContradiction (λhb=>by simp[ha,hb]at h);rw[Zn (by omega)])
theorem adP(h:(decide (a<0) != decide (b<0))=false)(ha:a<0):aA [AV.c (Cell.v (.int .i64 (fU (val (lim b.natAbs)) (val (lim a.natAbs)))))]=AV.int .i64 (jC a b) :=
 iE (by rw[aB,aB,Xv ha (Decidable.byContradiction λhb=>by simp[ha,hb]at h)])
theorem afg(h:(decide (a<0) != decide (b<0))=false)(ha:¬a<0):aA [AV.c (Cell.v (.int .i64 (fU (val (lim a.natAbs)) (val (lim b.natAbs)))))]=AV.int .i64 (jC a b) :=
 iE (by rw[aB,aB,Ud ha (λhb=>by simp[ha,hb]at h)])
theorem aaE(h:(decide (a<0) == decide (b<0))=true):decide (a<0)=decide (b<0):=by simpa using h
theorem WI(h:(decide (a<0) == decide (b<0))=false):¬decide (a<0)=decide (b<0):=by simpa using h
theorem ach(h:(decide (a<0) == decide (b<0))=true):aA [AV.c (Cell.v (.bool (decide (fU (val (lim a.natAbs)) (val (lim b.natAbs))=0))))]=AV.bool (decide (a=b)) :=
 bE (by have h:=aaE h;rw[decide_eq_decide]at h;rw[aB,aB,decide_eq_decide,Uy];omega)
theorem acr(h:(decide (a<0) == decide (b<0))=false):aA [AV.c (Cell.v (.bool false))]=AV.bool (decide (a=b)) :=
 bE (by have h:=WI h;rw[decide_eq_decide]at h;symm;rw[decide_eq_false_iff_not];omega)
theorem afS:aA [Z (eG (!decide (a<0)) (val (lim a.natAbs)))]=Z (-a):=XL (by rw[aB];exact XC a)
theorem aft:aA [Z (eG (decide (a<0) != decide (b<0)) (val (pad ((lim a.natAbs).length+(lim b.natAbs).length) (val (lim a.natAbs)*val (lim b.natAbs)))))]=Z (a*b):=XL (by
 rw[lD _ _ (by rw[Nat.pow_add];exact Nat.mul_lt_mul'' (fF _ (bn _)) (fF _ (bn _))),aB,aB];exact Tm a b)
theorem adG(h:(decide (a<0) == decide (b<0))=true):aA [Z (eG (decide (a<0)) (val (pad (max (lim a.natAbs).length (lim b.natAbs).length+1) (val (lim a.natAbs)+val (lim b.natAbs)))))]=Z (a+b):=XL (by
 have h1:=fF _ (bn a.natAbs);have h2:=fF _ (bn b.natAbs);have h3:=Ik (n:=1000000000) (by decide) (Nat.le_max_left (lim a.natAbs).length (lim b.natAbs).length);have h4:=Ik (n:=1000000000) (by decide) (Nat.le_max_right (lim a.natAbs).length (lim b.natAbs).length)
 rw[lD _ _ (by rw[AB];omega),aB,aB];exact Tv (aaE h))
theorem ael(h:(decide (a<0) == decide (b<0))=false)(h2:¬fU (val (lim a.natAbs)) (val (lim b.natAbs))<0):aA [Z (eG (decide (a<0)) (val (pad (lim a.natAbs).length (val (lim a.natAbs)-val (lim b.natAbs)))))]=Z (a+b):=XL (by
 have h1:=fF _ (bn a.natAbs);rw[lD _ _ (by omega)]
 rw[aB,aB]at h2 ⊢;exact J6 (WI h) (IX.1 (by omega)))
theorem adu(h:(decide (a<0) == decide (b<0))=false)(h2:fU (val (lim a.natAbs)) (val (lim b.natAbs))<0):aA [Z (eG (decide (b<0)) (val (pad (lim b.natAbs).length (val (lim b.natAbs)-val (lim a.natAbs)))))]=Z (a+b):=XL (by
 have h1:=fF _ (bn b.natAbs);rw[lD _ _ (by omega)]
 rw[aB,aB]at h2 ⊢;rw[Int.add_comm];exact J6 (λe=>WI h e.symm) (by have:=wV.1 h2;omega))
theorem VB(h1:sz a≤1000000000)(h2:sz b≤1000000000)(h:b.natAbs≤a.natAbs):(lim a.natAbs).length≤1000000000000∧(lim b.natAbs).length≤1000000000000∧Lb (lim a.natAbs)∧Lb (lim b.natAbs)∧(lim b.natAbs).length≤(lim a.natAbs).length∧val (lim b.natAbs)≤val (lim a.natAbs):=by
 unfold sz at h1 h2;exact⟨by omega,by omega,bn _,bn _,iJ h,by rw[aB,aB];exact h⟩
theorem WJ(h1:sz a≤1000000000)(h2:sz b≤1000000000):(lim a.natAbs).length≤1000000000000∧(lim b.natAbs).length≤1000000000000∧Lb (lim a.natAbs)∧Lb (lim b.natAbs):=by
 unfold sz at h1 h2;exact⟨by omega,by omega,bn _,bn _⟩
theorem abh(h:¬b<0):AV.agg [Cell.v (.bool (decide ((((lim b.natAbs).map λx=>[Cell.v (u32 x)]).length:Int)>0))),zl b]=Z (-b):=by
 show _=AV.agg [zs (-b),zl (-b)];unfold zs zl;have:=dI (n:=b.natAbs);rw[Int.natAbs_neg,aZ,show decide ((((lim b.natAbs).length:Nat):Int)>0)=decide (-b<0) by rw[decide_eq_decide];omega]
theorem aa8(h:b<0):AV.agg [Cell.v (.bool false),zl b]=Z (-b):=by
 show _=AV.agg [zs (-b),zl (-b)];unfold zs zl;rw[Int.natAbs_neg,decide_eq_false (show¬-b<0 by omega)]
theorem afy(h:jC a (-9223372036854775808)<0):aA [AV.c (Cell.v (.int .i64 0)),AV.c (Cell.v (.bool false))]=AV.tup [.int .i64 (if -9223372036854775808≤a∧a≤9223372036854775807 then a else 0),.bool (decide (-9223372036854775808≤a∧a≤9223372036854775807))]:=by
 have:=Ce.1 h;rw[if_neg (by omega),decide_eq_false (by omega)];rfl
theorem afl(h:jC a 9223372036854775807>0):aA [AV.c (Cell.v (.int .i64 0)),AV.c (Cell.v (.bool false))]=AV.tup [.int .i64 (if -9223372036854775808≤a∧a≤9223372036854775807 then a else 0),.bool (decide (-9223372036854775808≤a∧a≤9223372036854775807))]:=by
 have:=Dq.1 h;rw[if_neg (by omega),decide_eq_false (by omega)];rfl
theorem adT(h:¬jC a (-9223372036854775808)<0)(h2:¬jC a 9223372036854775807>0):-9223372036854775808≤a∧a≤9223372036854775807:=by
 have h3:=mt Ce.2 h;have h4:=mt Dq.2 h2;omega
theorem aev{x:Int}(hb : -9223372036854775808≤a∧a≤9223372036854775807)(hx:x=a):aA [AV.c (Cell.v (.int .i64 x)),AV.c (Cell.v (.bool true))]=AV.tup [.int .i64 (if -9223372036854775808≤a∧a≤9223372036854775807 then a else 0),.bool (decide (-9223372036854775808≤a∧a≤9223372036854775807))]:=by
 rw[if_pos hb,decide_eq_true hb,hx];rfl
theorem ad2(hb : -9223372036854775808≤a∧a≤9223372036854775807):(lim a.natAbs).length≤1000000000000∧Lb (lim a.natAbs)∧val (lim a.natAbs)<18446744073709551616:=by
 have:=kM hb.1 hb.2;unfold sz at this;exact⟨by omega,bn _,by rw[aB];omega⟩
theorem VX(h1:sz a≤1000000000)(h2:sz b≤1000000000)(h:¬b.natAbs=0):(lim a.natAbs).length≤100000000000∧(lim b.natAbs).length≤100000000000∧Lb (lim a.natAbs)∧Lb (lim b.natAbs)∧0<b.natAbs:=by
 unfold sz at h1 h2;exact⟨by omega,by omega,bn _,bn _,by omega⟩
theorem dqI(h:¬b.natAbs=0):val (pad (XT (lim a.natAbs) (lim b.natAbs)) (a.natAbs/b.natAbs))=a.natAbs/b.natAbs:=by
 have:=acG (bn a.natAbs) (bn b.natAbs) (by rw[aB];omega)
 rwa [aB,aB]at this
theorem drI(h:¬b.natAbs=0):val (pad (WE (lim a.natAbs) (lim b.natAbs)) (a.natAbs%b.natAbs))=a.natAbs%b.natAbs:=by
 have:=ac1 (bn a.natAbs) (bn b.natAbs) (by rw[aB];omega)
 rwa [aB,aB]at this
theorem ZG{r:Nat}(h0:0<r)(h:((decide (a<0)&&decide (0<r)) != decide (b<0))=true):(decide (a<0) != decide (b<0))=true:=by rwa [decide_eq_true h0,Bool.and_true]at h
theorem Ym{r:Nat}(h0:0<r)(h:((decide (a<0)&&decide (0<r)) != decide (b<0))=false):¬(decide (a<0) != decide (b<0))=true:=by rw[decide_eq_true h0,Bool.and_true]at h;rw[h];decide
theorem ahG(h:sz a≤1000000000)(s:Bool):sz (eG s (a.natAbs/b.natAbs))≤1000000000:=dh (Ql _ _ a (RQ _ _)) h
theorem agY(h:sz a≤1000000000)(s:Bool):sz (eG s (a.natAbs%b.natAbs))≤1000000000:=dh (Ql _ _ a (Nat.mod_le _ _)) h
theorem ahN:sz 1≤1000000000:=dh (kM (by decide) (by decide)) (by decide)
end
section
variable {a b:Int} {m n:Nat}
theorem agm(h1:(lim m).length≤1000000000)(h2:(lim n).length≤1000000000)(h:(((lim n).length:Nat):Int)>0):(lim m).length≤1000000000∧(lim n).length≤1000000000∧CanL (lim m)∧CanL (lim n)∧0<val (lim n):=by
 have:=dI (n:=n);exact⟨h1,h2,CanL.lim _,CanL.lim _,by rw[aB];omega⟩
theorem acD(h:¬(((lim m).length:Nat):Int)>2):(lim m).length≤1000000000000∧Lb (lim m)∧val (lim m)<18446744073709551616:=by
 have:=rZ (n:=m) (by omega);exact⟨by omega,bn _,by rw[aB];omega⟩
theorem ag1:some (AV.c (aV (lim (val (lim m)%val (lim n)))))=some (AV.c (aV (lim (m%n)))):=by rw[aB,aB]
theorem YP{x:Nat}(h0:n=0)(hg:Nat.gcd m n=Nat.gcd a.natAbs b.natAbs)(hx:x=m):aA [Z (eG false x)]=Z ((Nat.gcd a.natAbs b.natAbs:Nat):Int):=XL (by
 subst h0 hx;rw[←hg,Nat.gcd_zero_right];rfl)
theorem gv:some (AV.int .u64 ((val (lim m):Nat):Int))=some (AV.int .u64 ((m:Nat):Int)):=by rw[aB]
theorem glt(h:¬(((lim m).length:Nat):Int)>2):m<1000000000000000000:=rZ (by omega)
theorem adt(u v:Nat):(u:Int).tmod (v:Int)=((u%v:Nat):Int):=by rw[Int.tmod_eq_emod_of_nonneg (by omega)];rfl
theorem gm2{u v:Nat}:some (AV.int .u64 ((u:Int).tmod (v:Int)))=some (AV.int .u64 ((u%v:Nat):Int)):=by rw[adt]
theorem UK(x y:Int)(h:x=y):some (Bk.var [zs x,zl x])=some (Bk.var [zs y,zl y]):=by rw[h]
theorem wif(h:sz ((m:Nat):Int)≤2):some (AV.int .u64 ((if sz ((m:Nat):Int)≤2 then((m:Nat):Int).natAbs else 0:Nat):Int))=some (AV.int .u64 ((m:Nat):Int)):=by rw[if_pos h];rfl
theorem ahx(h1:sz ((m:Nat):Int)≤1000000000)(h2:sz ((n:Nat):Int)≤1000000000)(h:(((lim ((n:Nat):Int).natAbs).length:Nat):Int)>0):(lim ((m:Nat):Int).natAbs).length≤100000000000∧(lim ((n:Nat):Int).natAbs).length≤100000000000∧Lb (lim ((m:Nat):Int).natAbs)∧Lb (lim ((n:Nat):Int).natAbs)∧0<val (lim ((n:Nat):Int).natAbs):=by
 have:=dI (n:=((n:Nat):Int).natAbs);have k:=VX h1 h2 (by omega);rw[aB];exact k
theorem gst(h:(((lim ((n:Nat):Int).natAbs).length:Nat):Int)>0):eG false (val (pad (WE (lim ((m:Nat):Int).natAbs) (lim ((n:Nat):Int).natAbs)) (val (lim ((m:Nat):Int).natAbs)%val (lim ((n:Nat):Int).natAbs))))=((m%n:Nat):Int):=by
 have:=dI (n:=((n:Nat):Int).natAbs);rw[aB,aB,drI (by omega)];rfl
theorem ag4(h:(((lim ((n:Nat):Int).natAbs).length:Nat):Int)>0):0<n:=by
 have h2:=dI (n:=((n:Nat):Int).natAbs);rw[Nz]at h2 h;omega
theorem adv(h:¬(((lim ((n:Nat):Int).natAbs).length:Nat):Int)>0):n=0:=by
 have h2:=dI (n:=((n:Nat):Int).natAbs);rw[Nz]at h2 h;omega
end
end Go.Sw
namespace Go.Proofs.YtmniihkenijjpaaGreatDoor
open Go Go.RowKit Go.Sw
set_option maxRecDepth 100000
set_option maxHeartbeats 8000000
instance af5(n:Int):DenI Tryz.prog 80 [.int .i64 n] (-9223372036854775808≤n∧n≤9223372036854775807) (Z n):=⟨λhp=>by
 refine aC Tryz.func80 rfl ?_
 repeat'((try(conv=>whnf));first
  |(with_reducible refine au (λ_=>?_) (λ_=>?_)))
 all_goals(try((conv=>whnf);simp(disch:=omega) only[VI,Uf]))
 all_goals(repeat'((try(conv=>whnf));first
  |refine aj ?_ ?_|refine Ends.mk ?_))
 all_goals(try refine Pr.mk ?_)
 all_goals first
  |exact bn _|omega|(refine XL ?_;rw[aB];first|exact VO (by omega)|exact Xu (by omega))⟩
instance afW(n:Int):DenI Tryz.prog 199 [.int .i64 n] (-9223372036854775808≤n∧n≤9223372036854775807) (Z n):=⟨λhp=>by
 refine aC Tryz.func199 rfl ?_
 repeat'((try(conv=>whnf));first
  |(with_reducible refine au (λ_=>?_) (λ_=>?_)))
 all_goals(try((conv=>whnf);simp(disch:=omega) only[VI,Uf]))
 all_goals(repeat'((try(conv=>whnf));first
  |refine aj ?_ ?_|refine Ends.mk ?_))
 all_goals(try refine Pr.mk ?_)
 all_goals first
  |exact sF _ _|omega|(refine XL ?_;rw[lD _ _ (by omega)];first|exact VO (by omega)|exact Xu (by omega)|exact Aj n)⟩
instance afV(a:Int):DenI Tryz.prog 65 [Z a] (True) (.int .i64 (jr a)):=⟨λhp=>by
 refine aC Tryz.func65 rfl ?_
 repeat'((try(conv=>whnf));first
  |refine aG ?_|refine aj ?_ ?_|(with_reducible first|refine aQ ?_|refine aP ?_|refine au (λ_=>?_) (λ_=>?_)|refine cZ (λ_=>?_) (λ_=>?_))|refine OnB.mk (λ_=>?_) (λ_=>?_)|refine bI ?_ ?_|refine Drw.mk (by kernel_rfl) ?_|refine gu ?_ ?_|refine iG ?_ ?_|(with_reducible first|refine bZ ?_ ?_|refine dn ?_|refine dM ?_)|refine Ends.mk ?_)
 all_goals(try refine Pr.mk ?_)
 all_goals(try simp only[aZ]at *)
 all_goals first
  |with_reducible exact aaI (by omega)|with_reducible exact aaH (by omega)|with_reducible exact aau (by omega) (by omega)|skip⟩
instance agk(a:Int):DenI Tryz.prog 90 [Z a] (True) (.int .i64 (jr a)):=⟨λhp=>by
 refine aC Tryz.func90 rfl ?_
 repeat'((try(conv=>whnf));first
  |(with_reducible refine au (λ_=>?_) (λ_=>?_))|refine Ends.mk ?_)
 all_goals(try simp only[aZ]at *)
 all_goals first
  |with_reducible exact aaI (by omega)|with_reducible exact aaH (by omega)|with_reducible exact aau (by omega) (by omega)⟩
instance ahv(a b:Int):DenI Tryz.prog 157 [Z a,Z b] (True) (.int .i64 (jC a b)):=⟨λhp=>by
 refine aC Tryz.func157 rfl ?_
 repeat'((try(conv=>whnf));first
  |refine aj ?_ ?_|(with_reducible refine au (λ_=>?_) (λ_=>?_))|refine OnB.mk (λ_=>?_) (λ_=>?_)|refine Ends.mk ?_)
 all_goals(try refine Pr.mk ?_)
 all_goals first
  |with_reducible exact⟨bn _,bn _⟩|with_reducible exact afi (by assumption) (by assumption)|with_reducible exact aeO (by assumption) (by assumption)|with_reducible exact adP (by assumption) (by assumption)|with_reducible exact afg (by assumption) (by assumption)⟩
instance af4(a b:Int):DenI Tryz.prog 111 [Z a,Z b] (True) (.bool (decide (a=b))):=⟨λhp=>by
 refine aC Tryz.func111 rfl ?_
 repeat'((try(conv=>whnf));first
  |refine aG ?_|refine aj ?_ ?_|(with_reducible first|refine aQ ?_|refine aP ?_|refine au (λ_=>?_) (λ_=>?_)|refine cZ (λ_=>?_) (λ_=>?_))|refine OnB.mk (λ_=>?_) (λ_=>?_)|refine bI ?_ ?_|refine Drw.mk (by kernel_rfl) ?_|refine gu ?_ ?_|refine iG ?_ ?_|(with_reducible first|refine bZ ?_ ?_|refine dn ?_|refine dM ?_)|refine Ends.mk ?_)
 all_goals(try refine Pr.mk ?_)
 all_goals first
  |with_reducible exact⟨CanL.lim _,CanL.lim _⟩|with_reducible exact⟨bn _,bn _⟩|with_reducible exact bn _|with_reducible exact sF _ _|with_reducible exact ach (by assumption)|with_reducible exact acr (by assumption)|skip⟩
instance ags(a:Int):DenI Tryz.prog 155 [Z a] (sz a≤1000000000) (Z (-a)):=⟨λhp=>by
 refine aC Tryz.func155 rfl ?_
 repeat'((try(conv=>whnf));first
  |refine aj ?_ ?_|refine bI ?_ ?_|refine Drw.mk (by kernel_rfl) ?_|refine Ends.mk ?_)
 all_goals(try refine Pr.mk ?_)
 all_goals(try simp only[aZ]at *)
 all_goals first
  |with_reducible exact bn _|with_reducible exact afS|(unfold sz at hp;omega)⟩
instance ahq(a b:Int):DenI Tryz.prog 122 [Z a,Z b] (sz a≤1000000000∧sz b≤1000000000) (Z (a*b)):=⟨λhp=>by
 refine aC Tryz.func122 rfl ?_
 repeat'((try(conv=>whnf));first
  |refine aj ?_ ?_|refine Drw.mk (by kernel_rfl) ?_|refine Ends.mk ?_)
 all_goals(try refine Pr.mk ?_)
 all_goals first
  |with_reducible exact sF _ _|with_reducible exact WJ hp.1 hp.2|with_reducible exact aft⟩
instance ahy(a b:Int):DenI Tryz.prog 201 [Z a,Z b] (sz a≤1000000000∧sz b≤1000000000) (Z (a+b)):=⟨λhp=>by
 refine aC Tryz.func201 rfl ?_
 repeat'((try(conv=>whnf));first
  |refine aj ?_ ?_|(with_reducible refine au (λ_=>?_) (λ_=>?_))|refine OnB.mk (λ_=>?_) (λ_=>?_)|refine Drw.mk (by kernel_rfl) ?_|refine Ends.mk ?_)
 all_goals(try refine Pr.mk ?_)
 all_goals first
  |with_reducible exact⟨bn _,bn _⟩|with_reducible exact sF _ _|with_reducible exact WJ hp.1 hp.2|exact VB hp.1 hp.2 (IX.1 (by rename_i h;rw[aB,aB]at h;omega))|exact VB hp.2 hp.1 (by rename_i h;rw[aB,aB]at h;have:=wV.1 h;omega)|with_reducible exact adG (by assumption)|with_reducible exact ael (by assumption) (by assumption)|with_reducible exact adu (by assumption) (by assumption)⟩
end Go.Proofs.YtmniihkenijjpaaGreatDoor
namespace Go.Sw
open Go Go.RowKit
section
variable {P:Program} {f:FuncId} {xs:List AV} {w:World} {X:List Nat} {vs:List Value}
theorem adC{u:Value}{x:AV}(h:RepD w X u x):∀(i:Nat) a b,[u][i]?=some a→[x][i]?=some b→RepD w X a b:=λi a b h1 h2=>by
 cases i with
 |zero=>simp at h1 h2;subst h1 h2;exact h
 |succ i=>simp at h1
theorem aaD{u v:Value}{x y:AV}(h:RepD w X u x)(k:RepD w X v y):∀(i:Nat) a b,[u,v][i]?=some a→[x,y][i]?=some b→RepD w X a b:=λi a b h1 h2=>by
 match i with
 |0=>simp at h1 h2;subst h1 h2;exact h
 |1=>simp at h1 h2;subst h1 h2;exact k
 |_+2=>simp at h1
theorem UY{u:Value}{c:Cell}(h:RepR w X u (.c c)):RepC w X u c:=by
 generalize hv:AV.c c=v at h;cases h with
 |d h =>
  cases h with
  |c h=>injection hv with hv;subst hv;exact h
  |agg h=>cases hv
 |tup _ _=>cases hv
theorem acp{u x:Value}(h:RepC w X u (.v x)):u=x:=by
 generalize hc:Cell.v x=c at h;cases h with
 |v _ _=>injection hc with hc;exact hc.symm
 |sl=>cases hc
 |p=>cases hc
 |fn=>cases hc
theorem aem{l:List Nat}(h : @Den P (Wld.any P) f xs (.c (aV l)))(hX:∀m∈X,m<w.heap.size)(hl:vs.length=xs.length)(hr:∀(i:Nat) u v,vs[i]?=some u→xs[i]?=some v→RepD w X u v):Calls P f vs.toArray w (BG λr w'=>UL w' X r l∧Below w.heap.size w w') :=
 ((@Den.old P (Wld.any P) _ _ _ h (pI hl hr)).2 w X vs trivial hX hl hr).mono λe w' ⟨u,he,hR,hb⟩=>⟨u,he,UL.of_rep (UY hR.r),hb⟩
theorem ag0{x:Value}(h : @Den P (Wld.any P) f xs (.c (.v x)))(hX:∀m∈X,m<w.heap.size)(hl:vs.length=xs.length)(hr:∀(i:Nat) u v,vs[i]?=some u→xs[i]?=some v→RepD w X u v):Calls P f vs.toArray w (BG λr w'=>r=x∧Below w.heap.size w w') :=
 ((@Den.old P (Wld.any P) _ _ _ h (pI hl hr)).2 w X vs trivial hX hl hr).mono λe w' ⟨u,he,hR,hb⟩=>⟨u,he,acp (UY hR.r),hb⟩
theorem aad{u:Value}{l m:List Nat}(h:RepR w X u (.tup [.c (aV l),.c (aV m)])):∃r0 r1,u=.tuple #[r0,r1]∧UL w X r0 l∧UL w X r1 m:=by
 generalize hv:AV.tup [.c (aV l),.c (aV m)]=v at h;cases h with
 |d h=>cases h with
  |c h=>cases hv
  |agg h=>cases hv
 |@tup us vs hl h =>
  injection hv with hv
  subst hv
  match us,hl with
  |[r0,r1],_=>exact⟨r0,r1,rfl,(h 0 r0 _ rfl rfl).ul,(h 1 r1 _ rfl rfl).ul⟩
theorem aeg{l m:List Nat}(h : @Den P (Wld.any P) f xs (.tup [.c (aV l),.c (aV m)]))(hX:∀m∈X,m<w.heap.size)(hl:vs.length=xs.length)(hr:∀(i:Nat) u v,vs[i]?=some u→xs[i]?=some v→RepD w X u v):Calls P f vs.toArray w (BG λr w'=>(∃r0 r1,r=.tuple #[r0,r1]∧UL w' X r0 l∧UL w' X r1 m)∧Below w.heap.size w w') :=
 ((@Den.old P (Wld.any P) _ _ _ h (pI hl hr)).2 w X vs trivial hX hl hr).mono λe w' ⟨u,he,hR,hb⟩=>⟨u,he,aad hR.r,hb⟩
end
end Go.Sw
namespace Go.Proofs.YtmniihkenijjpaaGreatDoor
open Go Go.RowKit Go.Sw
set_option maxRecDepth 100000
set_option maxHeartbeats 8000000
theorem jI{w:World}{X:List Nat}(hX:∀m∈X,m<w.heap.size){v_l:Value}{l:List Nat}(h_l:UL w X v_l (l)):
 Calls Tryz.prog 230 #[v_l] w (BG λr w'=>(UL w' X r (ah l))∧Below w.heap.size w w'):=aem ((inferInstance:DenI Tryz.prog 230 [.c (aV l)] _ _).den trivial) hX rfl (adC (.c h_l.rep))
theorem vU{w:World}{X:List Nat}(hX:∀m∈X,m<w.heap.size){v_a:Value}{a:List Nat}(h_a:UL w X v_a (a)){v_b:Value}{b:List Nat}(h_b:UL w X v_b (b))(ha:Lb a)(hb:Lb b):
 Calls Tryz.prog 198 #[v_a,v_b] w (BG λr w'=>(r=.int .i64 (fU (val a) (val b)))∧Below w.heap.size w w'):=ag0 ((inferInstance:DenI Tryz.prog 198 [.c (aV a),.c (aV b)] _ _).den ⟨ha,hb⟩) hX rfl (aaD (.c h_a.rep) (.c h_b.rep))
theorem nZ{w:World}{X:List Nat}(hX:∀m∈X,m<w.heap.size){v_a:Value}{a:List Nat}(h_a:UL w X v_a (a))(b:Nat)(hn_a:a.length≤1000000000000)(hb_a:Lb a)(hb0:0<b)(hb1:b<1000000000):
 Calls Tryz.prog 231 #[v_a,(.int .u32 ((b:Nat):Int))] w (BG λr w'=>(∃qs:List Nat,∃rs:List Nat,∃r0 r1,r=.tuple #[r0,r1]∧UL w' X r0 (qs)∧UL w' X r1 (rs)∧Lb qs∧Lb rs∧val a=b*val qs+val rs∧val rs<b∧qs.length=a.length∧rs.length=1)∧Below w.heap.size w w'):=(aeg ((inferInstance:DenI Tryz.prog 231 [.c (aV a),.int .u32 (b:Nat)] _ _).den ⟨hn_a,hb_a,hb0,hb1⟩) hX rfl (aaD (.c h_a.rep) (.c (.v _ rfl)))).mono λe w' ⟨u,he,⟨r0,r1,h1,h2,h3⟩,hb⟩=>⟨u,he,⟨_,_,r0,r1,h1,h2,h3,Uj hb_a hb0 hb1⟩,hb⟩
end Go.Proofs.YtmniihkenijjpaaGreatDoor
namespace Go.Proofs.YtmniihkenijjpaaGreatDoor
open Go Go.RowKit Go.Sw
set_option maxRecDepth 20000
namespace TfE
theorem el154:Sw.elemOf Tryz.prog 154=some (#[.int .u32 0],1,4):=by kernel_rfl
theorem one154:iH Tryz.prog 154=true:=by kernel_rfl
theorem size154:(Tryz.prog.info? 154).map (λi=>i.size)=some 1:=by kernel_rfl
theorem sl26:sliceOf Tryz.prog 26=some (154,1):=by kernel_rfl
theorem sls26:(sliceOf Tryz.prog 26).isSome=true:=by kernel_rfl
theorem und152:Tryz.prog.underlying 152=some (TypeDesc.int .u64):=by kernel_rfl
theorem und154:Tryz.prog.underlying 154=some (TypeDesc.int .u32):=by kernel_rfl
theorem unds152:(Tryz.prog.underlying 152).isSome=true:=by kernel_rfl
theorem unds154:(Tryz.prog.underlying 154).isSome=true:=by kernel_rfl
end TfE
set_option maxHeartbeats 4000000 in
theorem oZ{w:World}{X:List Nat}(hX:∀m∈X,m<w.heap.size){v_a:Value}{a:List Nat}(h_a:UL w X v_a (a)){v_b:Value}{b:List Nat}(h_b:UL w X v_b (b))(hn_a:a.length≤1000000000000)(hn_b:b.length≤1000000000000)(hb_a:Lb a)(hb_b:Lb b):
 Calls Tryz.prog 161 #[v_a,v_b] w (BG λr w'=>(∃o:List Nat,adJ 154 w w' r (o)∧Lb o∧val o=val a*val b∧o.length=a.length+b.length)∧Below w.heap.size w w'):=by
 refine enter (N:=68) (fn:=Tryz.f161) (vs:=[v_a,v_b]) Tryz.func161 rfl rfl rfl ?_;intro fa hF;obtain⟨A_a,_,c_a,rfl,rfl,hu_a⟩:=h_a;have hl_a:=hu_a.len;have hc_a:=hu_a.cap;obtain⟨A_b,_,c_b,rfl,rfl,hu_b⟩:=h_b;have hl_b:=hu_b.len;have hc_b:=hu_b.cap;replace hF:Frm 68 fa [(0,(.slice (A_a) (a.length) (c_a))),(1,(.slice (A_b) (b.length) (c_b)))]:=hF;have hS:=St.refl w;refine aF ?_;refine aI ?_;refine pr hF (pa rfl <| PR.nil) ?_;clear hF fa;intro fa hF;refine ak ?_;refine aF ?_;refine aI ?_;refine pr hF (pm rfl <| pg (λ_ hF=>kY TfE.sls26 (hF.ev rfl)) <| pm rfl <| pg (λ_ hF=>kY TfE.sls26 (hF.ev rfl)) <| pg (λ_ hF=>dF (hF.ev rfl) (hF.ev rfl) jm) <| PR.nil) ?_;clear hF fa;intro fa hF;refine st rfl (OA (X:=X) (nl:=a.length+b.length) (nc:=a.length+b.length) hF hS rfl TfE.sl26 TfE.el154 rfl rfl (by omega) (by omega) (by omega) (by omega) (by omega) (Hw _) ?_);intro g1 w2 hg4 hS E3;refine qY ?_;clear hF fa;intro fa hF;rw[Nat.mul_one]at hS;refine pr hF (pa rfl <| PR.nil) ?_;clear hF fa;intro fa hF;refine ak ?_;refine aF ?_;refine aF ?_;refine aI ?_;refine pr hF (pm rfl <| pg (λ_ hF=>kY TfE.sls26 (hF.ev rfl)) <| pm rfl <| PR.nil) ?_;clear hF fa;intro fa hF;refine ak ?_;refine fZ ?_;refine sJ (λmu fa w'=>∃o:List Nat,∃i:Nat,Frm 68 fa [(0,(.slice (A_a) (a.length) (c_a))),(1,(.slice (A_b) (b.length) (c_b))),(4,(.slice (none) (0) (0))),(5,(.slice (some ⟨g1,0,none⟩) (a.length+b.length) (a.length+b.length))),(18,(.slice (A_a) (a.length) (c_a))),(19,(.int .i64 (((a.length:Nat):Int)))),(20,(.int .i64 (((i:Nat):Int))))]∧St w w' [(g1,154,(us (o)).toArray)]∧Ext w2 (g1::X) w' (g1::X)∧(i≤a.length)∧(o.length=a.length+b.length)∧(Lb o)∧(val (o.take (i+b.length))=val (a.take i)*val b)∧a.length-i=mu) ?_ ?_
 ·
  exact⟨_,List.replicate (a.length+b.length) 0,0,(hF.all ⟨rfl,rfl,rfl,rfl,rfl,rfl,(bV rfl (by omega)),trivial⟩),hS,Ext.refl _ _,(by omega),(by simp),(jG _),(by simp[yD,List.take_replicate,val]),rfl⟩
 clear hF fa;intro n0_ fa w' hI;clear hS;obtain⟨o,i,hF,hS,E6,hi,ho,hbo,hv,rfl⟩:=hI
 rename World=>w5
 refine aF ?_;refine aI ?_;refine pr hF (pg (λ_ hF=>oL (hF.ev rfl) (hF.ev rfl)) <| PR.nil) ?_;clear hF fa;intro fa hF;refine ak ?_;refine aF ?_;refine iW hF rfl (λhc7=>?_) (λhc7=>?_)
 ·
  have hc7p:((i:Nat):Int)<((a.length:Nat):Int):=by first|simpa using hc7|exact dK hc7|exact dJ hc7
  refine fM ?_;refine bY ?_;refine aF ?_;refine fZ ?_;refine aF ?_;refine aI ?_;refine pr hF (pm rfl <| PR.nil) ?_;clear hF fa;intro fa hF;obtain⟨ad8,hA9,hq10⟩:=(hu_a.ext (E3.trans E6)).cl.at_ (kZ (l:=a) (i:=i) (by omega));refine pr hF (pg (λ_ hF=>kV (j:=i) TfE.sl26 (hF.ev rfl) hA9 (hF.ev rfl) (by omega) (by omega)) <| pg (λ_ hF=>gQ TfE.one154 (hF.ev rfl) hq10) <| pa rfl <| pa rfl <| PR.nil) ?_;clear hF fa;intro fa hF;refine ak ?_;refine aF ?_;refine aI ?_;refine pr hF (pa rfl <| PR.nil) ?_;clear hF fa;intro fa hF;refine ak ?_;refine aF ?_;refine aF ?_;refine aI ?_;refine pr hF (pm rfl <| pg (λ_ hF=>kY TfE.sls26 (hF.ev rfl)) <| pm rfl <| PR.nil) ?_;clear hF fa;intro fa hF;refine ak ?_;refine fZ ?_;refine sJ (λmu fa w'=>∃o2:List Nat,∃cr:Nat,∃k:Nat,Frm 68 fa [(0,(.slice (A_a) (a.length) (c_a))),(1,(.slice (A_b) (b.length) (c_b))),(4,(.slice (none) (0) (0))),(5,(.slice (some ⟨g1,0,none⟩) (a.length+b.length) (a.length+b.length))),(18,(.slice (A_a) (a.length) (c_a))),(19,(.int .i64 (((a.length:Nat):Int)))),(20,(.int .i64 (((i:Nat):Int)))),(21,(.bool (decide (((i:Nat):Int)<((a.length:Nat):Int))))),(6,(.int .i64 (((i:Nat):Int)))),(7,(.int .u32 (((a.getD (i) 0:Nat):Int)))),(25,(.slice (A_b) (b.length) (c_b))),(26,(.int .i64 (((b.length:Nat):Int)))),(8,(.int .u64 (((cr:Nat):Int)))),(27,(.int .i64 (((k:Nat):Int))))]∧St w w' [(g1,154,(us (o2)).toArray)]∧Ext w5 (g1::X) w' (g1::X)∧(k≤b.length)∧(o2.length=a.length+b.length)∧(Lb o2)∧(cr<1000000000)∧(val (o2.take (i+b.length))+1000000000^(i+k)*cr=val (a.take i)*val b+1000000000^i*(a.getD i 0*val (b.take k)))∧b.length-k=mu) ?_ ?_
  ·
   exact⟨_,o,0,0,(hF.all ⟨rfl,rfl,rfl,rfl,rfl,rfl,rfl,rfl,rfl,rfl,rfl,rfl,(bV rfl (by omega)),(bV rfl (by omega)),trivial⟩),hS,Ext.refl _ _,(by omega),(ho),(hbo),(by omega),(by simp[val,hv]),rfl⟩
  clear hF fa;intro n1_ fa w' hI;clear hS;obtain⟨o2,cr,k,hF,hS,E12,hk,ho2,hbo2,hcr,hv2,rfl⟩:=hI
  rename World=>IU
  have hak:=hb_a.getD i;have hbk:=hb_b.getD k;have hok:=hbo2.getD (i+k);have hca:=BP hak hbk hok hcr;have hca1:=hca.1;have hca2:=hca.2;refine aF ?_;refine aI ?_;refine pr hF (pg (λ_ hF=>oL (hF.ev rfl) (hF.ev rfl)) <| PR.nil) ?_;clear hF fa;intro fa hF;refine ak ?_;refine aF ?_;refine iW hF rfl (λhc13=>?_) (λhc13=>?_)
  ·
   have hc13p:((k:Nat):Int)<((b.length:Nat):Int):=by first|simpa using hc13|exact dK hc13|exact dJ hc13
   refine fM ?_;refine bY ?_;refine aF ?_;refine fZ ?_;refine aF ?_;refine aI ?_;refine pr hF (pm rfl <| PR.nil) ?_;clear hF fa;intro fa hF;obtain⟨ad14,hA15,hq16⟩:=(hu_b.ext ((E3.trans E6).trans E12)).cl.at_ (kZ (l:=b) (i:=k) (by omega));refine pr hF (pg (λ_ hF=>kV (j:=k) TfE.sl26 (hF.ev rfl) hA15 (hF.ev rfl) (by omega) (by omega)) <| pg (λ_ hF=>gQ TfE.one154 (hF.ev rfl) hq16) <| pa rfl <| pa rfl <| PR.nil) ?_;clear hF fa;intro fa hF;replace hF:Frm 68 fa [(0,(.slice (A_a) (a.length) (c_a))),(1,(.slice (A_b) (b.length) (c_b))),(4,(.slice (none) (0) (0))),(5,(.slice (some ⟨g1,0,none⟩) (a.length+b.length) (a.length+b.length))),(18,(.slice (A_a) (a.length) (c_a))),(19,(.int .i64 (((a.length:Nat):Int)))),(20,(.int .i64 (((i:Nat):Int)))),(21,(.bool (decide (((i:Nat):Int)<((a.length:Nat):Int))))),(6,(.int .i64 (((i:Nat):Int)))),(7,(.int .u32 (((a.getD (i) 0:Nat):Int)))),(25,(.slice (A_b) (b.length) (c_b))),(26,(.int .i64 (((b.length:Nat):Int)))),(8,(.int .u64 (((cr:Nat):Int)))),(27,(.int .i64 (((k:Nat):Int)))),(28,(.bool (decide (((k:Nat):Int)<((b.length:Nat):Int))))),(9,(.int .i64 (((k:Nat):Int)))),(10,(.int .u32 (((b.getD (k) 0:Nat):Int))))]:=(hF.all ⟨rfl,rfl,rfl,rfl,rfl,rfl,rfl,rfl,rfl,rfl,rfl,rfl,rfl,rfl,rfl,rfl,rfl,trivial⟩)
   refine ak ?_;refine aF ?_;refine aI ?_;refine pr hF (pm rfl <| pm rfl <| pm rfl <| pg (λ_ hF=>dF (hF.ev rfl) (hF.ev rfl) jm) <| pg (λ_ hF=>nY (j:=i+k) TfE.sl26 (hF.ev rfl) (hF.ev rfl) (by omega) (by omega)) <| pg (λ_ hF=>ig TfE.one154 (hF.ev rfl) (hS.get 0 rfl) (ac7 (by first|omega|(simp;omega)))) <| pg (λ_ hF=>dO TfE.unds154 TfE.und152 (hF.ev rfl) (kQ (by omega))) <| pm rfl <| pg (λ_ hF=>dO TfE.unds154 TfE.und152 (hF.ev rfl) (kQ (by omega))) <| pm rfl <| pg (λ_ hF=>dO TfE.unds154 TfE.und152 (hF.ev rfl) (kQ (by omega))) <| pg (λ_ hF=>y5 (hF.ev rfl) (hF.ev rfl) mO) <| pg (λ_ hF=>dF (hF.ev rfl) (hF.ev rfl) mO) <| pm rfl <| pg (λ_ hF=>dF (hF.ev rfl) (hF.ev rfl) mO) <| pa rfl <| PR.nil) ?_;clear hF fa;intro fa hF;replace hF:Frm 68 fa [(0,(.slice (A_a) (a.length) (c_a))),(1,(.slice (A_b) (b.length) (c_b))),(4,(.slice (none) (0) (0))),(5,(.slice (some ⟨g1,0,none⟩) (a.length+b.length) (a.length+b.length))),(18,(.slice (A_a) (a.length) (c_a))),(19,(.int .i64 (((a.length:Nat):Int)))),(20,(.int .i64 (((i:Nat):Int)))),(21,(.bool (decide (((i:Nat):Int)<((a.length:Nat):Int))))),(6,(.int .i64 (((i:Nat):Int)))),(7,(.int .u32 (((a.getD (i) 0:Nat):Int)))),(25,(.slice (A_b) (b.length) (c_b))),(26,(.int .i64 (((b.length:Nat):Int)))),(8,(.int .u64 (((cr:Nat):Int)))),(27,(.int .i64 (((k:Nat):Int)))),(28,(.bool (decide (((k:Nat):Int)<((b.length:Nat):Int))))),(9,(.int .i64 (((k:Nat):Int)))),(10,(.int .u32 (((b.getD (k) 0:Nat):Int)))),(11,(.int .u64 ((((o2.getD (i+k) 0:Nat):Int)+(((a.getD (i) 0:Nat):Int)*((b.getD (k) 0:Nat):Int)))+((cr:Nat):Int))))]:=(hF.all ⟨rfl,rfl,rfl,rfl,rfl,rfl,rfl,rfl,rfl,rfl,rfl,rfl,rfl,rfl,rfl,rfl,rfl,rfl,trivial⟩)
   refine ak ?_;refine aI ?_;refine pr hF (pm rfl <| pm rfl <| pm rfl <| pg (λ_ hF=>dF (hF.ev rfl) (hF.ev rfl) jm) <| pm rfl <| pg (λ_ hF=>BL (hF.ev rfl) (hF.ev rfl) (by omega) (PO (x:=((o2.getD (i+k) 0)+((a.getD (i) 0)*(b.getD (k) 0)))+cr) (y:=1000000000) (by omega) (by omega))) <| pg (λ_ hF=>dO TfE.unds152 TfE.und154 (hF.ev rfl) (E5 (by omega))) <| pm rfl <| pg (λ_ hF=>yR (hF.ev rfl) (hF.ev rfl) (by omega) (KR (x:=((o2.getD (i+k) 0)+((a.getD (i) 0)*(b.getD (k) 0)))+cr) (y:=1000000000) (by omega) (by omega) (by omega))) <| pg (λ_ hF=>nY (j:=i+k) TfE.sl26 (hF.ev rfl) (hF.ev rfl) (by omega) (by omega)) <| PR.nil) ?_;clear hF fa;intro fa hF;refine st rfl (iL (vs:=#[.int .u32 (((((o2.getD (i+k) 0)+((a.getD (i) 0)*(b.getD (k) 0)))+cr)%1000000000:Nat):Int)]) (v:=.int .u32 (((((o2.getD (i+k) 0)+((a.getD (i) 0)*(b.getD (k) 0)))+cr)%1000000000:Nat):Int)) (X:=(g1::X)) hF hS 0 rfl (by simp) rfl (iT rfl (by omega)) rfl TfE.size154 rfl (GV (by first|omega|(simp;omega))) ?_);intro w17 hS E18;rw[tJ (by first|omega|(simp;omega))]at hS;refine pr hF (pa rfl <| PR.nil) ?_;clear hF fa;intro fa hF;refine iO ?_;refine ru ?_;refine bY ?_;refine aI ?_;refine pr hF (pg (λ_ hF=>dF (hF.ev rfl) (hF.ev rfl) jm) <| pm rfl <| PR.nil) ?_;clear hF fa;intro fa hF;refine iO ?_;refine bY ?_;exact⟨_,(by omega),o2.set (i+k) ((((o2.getD (i+k) 0)+((a.getD (i) 0)*(b.getD (k) 0)))+cr)%1000000000),(((o2.getD (i+k) 0)+((a.getD (i) 0)*(b.getD (k) 0)))+cr)/1000000000,(k+1),(hF.all ⟨rfl,rfl,rfl,rfl,rfl,rfl,rfl,rfl,rfl,rfl,rfl,rfl,(bV rfl (by omega)),(bV rfl (by omega)),trivial⟩),hS,(E12.trans E18),(by omega),(by simp;omega),(fQ hbo2 (by omega)),(by omega),(vN (by omega) (by omega) hv2 (by omega) rfl rfl),rfl⟩
  have hc13p:¬(((k:Nat):Int)<((b.length:Nat):Int)):=by first|simpa using hc13|exact dK hc13|exact dJ hc13
  refine qF ?_;refine qP ?_;refine qP ?_;refine Bz ?_;refine bY ?_;refine aI ?_;refine pr hF (pm rfl <| pm rfl <| pm rfl <| pg (λ_ hF=>kY TfE.sls26 (hF.ev rfl)) <| pg (λ_ hF=>dF (hF.ev rfl) (hF.ev rfl) jm) <| pm rfl <| pg (λ_ hF=>dO TfE.unds152 TfE.und154 (hF.ev rfl) (E5 (by omega))) <| pg (λ_ hF=>nY (j:=i+b.length) TfE.sl26 (hF.ev rfl) (hF.ev rfl) (by omega) (by omega)) <| PR.nil) ?_;clear hF fa;intro fa hF;refine st rfl (iL (vs:=#[.int .u32 ((cr:Nat):Int)]) (v:=.int .u32 ((cr:Nat):Int)) (X:=(g1::X)) hF hS 0 rfl (by simp) rfl (iT rfl (by omega)) rfl TfE.size154 rfl (GV (by first|omega|(simp;omega))) ?_);intro w19 hS E20;rw[tJ (by first|omega|(simp;omega))]at hS;replace hF:Frm 68 fa [(0,(.slice (A_a) (a.length) (c_a))),(1,(.slice (A_b) (b.length) (c_b))),(4,(.slice (none) (0) (0))),(5,(.slice (some ⟨g1,0,none⟩) (a.length+b.length) (a.length+b.length))),(18,(.slice (A_a) (a.length) (c_a))),(19,(.int .i64 (((a.length:Nat):Int)))),(20,(.int .i64 (((i:Nat):Int)))),(21,(.bool (decide (((i:Nat):Int)<((a.length:Nat):Int))))),(6,(.int .i64 (((i:Nat):Int)))),(7,(.int .u32 (((a.getD (i) 0:Nat):Int)))),(25,(.slice (A_b) (b.length) (c_b))),(26,(.int .i64 (((b.length:Nat):Int)))),(8,(.int .u64 (((cr:Nat):Int)))),(27,(.int .i64 (((k:Nat):Int)))),(28,(.bool (decide (((k:Nat):Int)<((b.length:Nat):Int)))))]:=(hF.all ⟨rfl,rfl,rfl,rfl,rfl,rfl,rfl,rfl,rfl,rfl,rfl,rfl,rfl,rfl,rfl,trivial⟩)
  refine iO ?_;refine ru ?_;refine bY ?_;refine aI ?_;refine pr hF (pg (λ_ hF=>dF (hF.ev rfl) (hF.ev rfl) jm) <| pm rfl <| PR.nil) ?_;clear hF fa;intro fa hF;refine iO ?_;refine bY ?_;exact⟨_,(by omega),o2.set (i+b.length) (cr),(i+1),(hF.all ⟨rfl,rfl,rfl,rfl,rfl,rfl,(bV rfl (by omega)),trivial⟩),hS,((E6.trans E12).trans E20),(by omega),(by simp;omega),(fQ hbo2 (by omega)),(yC (by omega) (by rw[show k=b.length by omega]at hv2;exact hv2)),rfl⟩
 have hc7p:¬(((i:Nat):Int)<((a.length:Nat):Int)):=by first|simpa using hc7|exact dK hc7|exact dJ hc7
 refine qF ?_;refine qP ?_;refine qP ?_;refine Bz ?_;refine bY ?_;refine aF ?_;refine aI ?_;refine pr hF (pm rfl <| pa rfl <| PR.nil) ?_;clear hF fa;intro fa hF;refine ak ?_;refine xq ?_;rw[bT (l:=o) (by omega),bT (l:=a) (by omega)]at hv;refine acB hF rfl (mJ hF rfl) ?_;exact⟨_,rfl,⟨o,(Own.mk_ (L:=o) (hS.get 0 rfl) (hS.base 0 rfl) (by omega) (by omega) (rfl)),(hbo),(hv),(ho)⟩,hS.below⟩
end Go.Proofs.YtmniihkenijjpaaGreatDoor
namespace Go.Proofs.YtmniihkenijjpaaGreatDoor
open Go Go.RowKit Go.Sw
set_option maxRecDepth 20000
namespace TfQ
theorem one154:iH Tryz.prog 154=true:=by kernel_rfl
theorem size154:(Tryz.prog.info? 154).map (λi=>i.size)=some 1:=by kernel_rfl
theorem sl26:sliceOf Tryz.prog 26=some (154,1):=by kernel_rfl
theorem sls26:(sliceOf Tryz.prog 26).isSome=true:=by kernel_rfl
theorem und152:Tryz.prog.underlying 152=some (TypeDesc.int .u64):=by kernel_rfl
theorem und154:Tryz.prog.underlying 154=some (TypeDesc.int .u32):=by kernel_rfl
theorem unds152:(Tryz.prog.underlying 152).isSome=true:=by kernel_rfl
theorem unds154:(Tryz.prog.underlying 154).isSome=true:=by kernel_rfl
end TfQ
set_option maxHeartbeats 4000000 in
theorem uz{w0 w:World}{X:List Nat}{So:List Bx}{R:List Value}{g_U c_U:Nat}{U:List Nat}(hX:∀m∈X,m<w0.heap.size)(hS:St w0 w ((g_U,154,(us U++R).toArray)::So))(k m:Nat){v_v:Value}{v:List Nat}(h_v:UL w (g_U ::(bl So++X)) v_v (v))(bw:Nat)(hU:U.length≤1000000000000)(hkm:k+m≤U.length)(hvm:v.length≤m)(hb_U:Lb U)(hb_v:Lb v)(hbw:bw<1000000000):
 Calls Tryz.prog 232 #[(.slice (some ⟨g_U,k,none⟩) m c_U),v_v,(.int .u64 ((bw:Nat):Int))] w (BG λr w'=>∃o:List Nat,∃cy:Nat,r=.bool (decide (0<cy))∧o.length=U.length∧Lb o∧o.take k=U.take k∧o.drop (k+m)=U.drop (k+m)∧val (win o k m)+val v*bw=val (win U k m)+1000000000^m*cy∧St w0 w' ((g_U,154,(us o++R).toArray)::So)∧Ext w (g_U ::(bl So++X)) w' (g_U ::(bl So++X))):=by
 refine enter (N:=62) (fn:=Tryz.f232) (vs:=[(.slice (some ⟨g_U,k,none⟩) m c_U),v_v,(.int .u64 ((bw:Nat):Int))]) Tryz.func232 rfl rfl rfl ?_;intro fa hF;obtain⟨A_v,_,c_v,rfl,rfl,hu_v⟩:=h_v;have hl_v:=hu_v.len;have hc_v:=hu_v.cap;replace hF:Frm 62 fa [(0,(.slice (some ⟨g_U,k,none⟩) (m) (c_U))),(1,(.slice (A_v) (v.length) (c_v))),(2,(.int .u64 (((bw:Nat):Int))))]:=hF;refine aF ?_;refine aI ?_;refine pr hF (pa rfl <| PR.nil) ?_;clear hF fa;intro fa hF;refine ak ?_;refine aF ?_;refine aI ?_;refine pr hF (pa rfl <| pa rfl <| PR.nil) ?_;clear hF fa;intro fa hF;refine ak ?_;refine aF ?_;refine aF ?_;refine aI ?_;refine pr hF (pm rfl <| pg (λ_ hF=>kY TfQ.sls26 (hF.ev rfl)) <| pm rfl <| PR.nil) ?_;clear hF fa;intro fa hF;refine ak ?_;refine fZ ?_;refine sJ (λmu fa w'=>∃o:List Nat,∃cr:Nat,∃br:Nat,∃i:Nat,Frm 62 fa [(0,(.slice (some ⟨g_U,k,none⟩) (m) (c_U))),(1,(.slice (A_v) (v.length) (c_v))),(2,(.int .u64 (((bw:Nat):Int)))),(6,(.bool (false))),(14,(.int .i64 (((m:Nat):Int)))),(7,(.int .u64 (((cr:Nat):Int)))),(8,(.int .u64 (((br:Nat):Int)))),(15,(.int .i64 (((i:Nat):Int))))]∧St w0 w' ([(g_U,154,(us (o)++R).toArray)]++So)∧Ext w (g_U ::(bl So++X)) w' (g_U ::(bl So++X))∧(i≤m)∧(o.length=U.length)∧(Lb o)∧(o.take k=U.take k)∧(o.drop (k+i)=U.drop (k+i))∧(cr<1000000000)∧(br≤1)∧(val (win o k i)+val (v.take i)*bw=val (win U k i)+1000000000^i*(cr+br))∧m-i=mu) ?_ ?_
 ·
  exact⟨_,U,0,0,0,(hF.all ⟨rfl,rfl,rfl,rfl,rfl,(bV rfl (by omega)),(bV rfl (by omega)),(bV rfl (by omega)),trivial⟩),hS,Ext.refl _ _,(by omega),(rfl),(hb_U),(rfl),(rfl),(by omega),(by omega),(by simp[win_zero,val]),rfl⟩
 clear hF fa;intro n0_ fa w' hI;clear hS;obtain⟨o,cr,br,i,hF,hS,E2,hi,ho,hbo,htk,hdr,hcr,hbr,hv,rfl⟩:=hI
 rename World=>w1
 have hox:=Eu hdr;have hoi:=hbo.getD (k+i);have hvi:=hb_v.getD i;have hgn:=λh=>getD_none (l:=v) (k:=i) h
 have hmul:v.getD i 0*bw≤999999999*999999999:=PD (by omega) (by omega);refine aF ?_;refine aI ?_;refine pr hF (pg (λ_ hF=>oL (hF.ev rfl) (hF.ev rfl)) <| PR.nil) ?_;clear hF fa;intro fa hF;refine ak ?_;refine aF ?_;refine iW hF rfl (λhc3=>?_) (λhc3=>?_)
 ·
  have hc3p:((i:Nat):Int)<((m:Nat):Int):=by first|simpa using hc3|exact dK hc3|exact dJ hc3
  refine fM ?_;refine bY ?_;refine aF ?_;refine fZ ?_;refine aF ?_;refine aI ?_;refine pr hF (pm rfl <| pa rfl <| PR.nil) ?_;clear hF fa;intro fa hF;refine ak ?_;refine aF ?_;refine aI ?_;refine pr hF (pm rfl <| pa rfl <| PR.nil) ?_;clear hF fa;intro fa hF;refine ak ?_;refine aF ?_;refine aF ?_;refine aI ?_;refine pr hF (pm rfl <| pm rfl <| pg (λ_ hF=>kY TfQ.sls26 (hF.ev rfl)) <| pg (λ_ hF=>oL (hF.ev rfl) (hF.ev rfl)) <| PR.nil) ?_;clear hF fa;intro fa hF;refine ak ?_;refine iW hF rfl (λhc4=>?_) (λhc4=>?_)
  ·
   have hc4p:((i:Nat):Int)<((v.length:Nat):Int):=by first|simpa using hc4|exact dK hc4|exact dJ hc4
   refine aI ?_;refine pr hF (pm rfl <| pm rfl <| pm rfl <| PR.nil) ?_;clear hF fa;intro fa hF;obtain⟨ad5,hA6,hq7⟩:=(hu_v.ext E2).cl.at_ (kZ (l:=v) (i:=i) (by omega));refine pr hF (pg (λ_ hF=>kV (j:=i) TfQ.sl26 (hF.ev rfl) hA6 (hF.ev rfl) (by omega) (by omega)) <| pg (λ_ hF=>gQ TfQ.one154 (hF.ev rfl) hq7) <| pg (λ_ hF=>dO TfQ.unds154 TfQ.und152 (hF.ev rfl) (kQ (by omega))) <| pm rfl <| pg (λ_ hF=>y5 (hF.ev rfl) (hF.ev rfl) mO) <| pg (λ_ hF=>dF (hF.ev rfl) (hF.ev rfl) mO) <| pa rfl <| PR.nil) ?_;clear hF fa;intro fa hF;replace hF:Frm 62 fa [(0,(.slice (some ⟨g_U,k,none⟩) (m) (c_U))),(1,(.slice (A_v) (v.length) (c_v))),(2,(.int .u64 (((bw:Nat):Int)))),(6,(.bool (false))),(14,(.int .i64 (((m:Nat):Int)))),(7,(.int .u64 (((cr:Nat):Int)))),(8,(.int .u64 (((br:Nat):Int)))),(15,(.int .i64 (((i:Nat):Int)))),(16,(.bool (decide (((i:Nat):Int)<((m:Nat):Int))))),(9,(.int .i64 (((i:Nat):Int)))),(10,(.int .u64 (((cr:Nat):Int)+(((v.getD (i) 0:Nat):Int)*((bw:Nat):Int))))),(22,(.bool (decide (((i:Nat):Int)<((v.length:Nat):Int)))))]:=(hF.all ⟨rfl,rfl,rfl,rfl,rfl,rfl,rfl,rfl,rfl,rfl,rfl,rfl,trivial⟩)
   refine ak ?_;refine aF ?_;refine aI ?_;refine pr hF (pm rfl <| pg (λ_ hF=>yR (hF.ev rfl) (hF.ev rfl) (by omega) (KR (x:=cr+((v.getD (i) 0)*bw)) (y:=1000000000) (by omega) (by omega) (by omega))) <| pa rfl <| PR.nil) ?_;clear hF fa;intro fa hF;refine ak ?_;refine aF ?_;refine aI ?_;refine pr hF (pm rfl <| pg (λ_ hF=>BL (hF.ev rfl) (hF.ev rfl) (by omega) (PO (x:=cr+((v.getD (i) 0)*bw)) (y:=1000000000) (by omega) (by omega))) <| pm rfl <| pg (λ_ hF=>dF (hF.ev rfl) (hF.ev rfl) mO) <| pa rfl <| PR.nil) ?_;clear hF fa;intro fa hF;refine ak ?_;refine aF ?_;refine aI ?_;refine pr hF (pa rfl <| PR.nil) ?_;clear hF fa;intro fa hF;refine ak ?_;refine aF ?_;refine aI ?_;refine pr hF (pm rfl <| pm rfl <| pg (λ_ hF=>kG (o:=k) (j:=i) TfQ.sl26 (hF.ev rfl) (hF.ev rfl) (by omega) (by omega)) <| pg (λ_ hF=>ig TfQ.one154 (hF.ev rfl) (hS.get 0 rfl) (tV (by first|omega|(simp;omega)))) <| pg (λ_ hF=>dO TfQ.unds154 TfQ.und152 (hF.ev rfl) (kQ (by omega))) <| pa rfl <| PR.nil) ?_;clear hF fa;intro fa hF;refine ak ?_;refine aF ?_;refine aF ?_;refine aI ?_;refine pr hF (pm rfl <| pm rfl <| pg (λ_ hF=>oL (hF.ev rfl) (hF.ev rfl)) <| PR.nil) ?_;clear hF fa;intro fa hF;replace hF:Frm 62 fa [(0,(.slice (some ⟨g_U,k,none⟩) (m) (c_U))),(1,(.slice (A_v) (v.length) (c_v))),(2,(.int .u64 (((bw:Nat):Int)))),(6,(.bool (false))),(14,(.int .i64 (((m:Nat):Int)))),(7,(.int .u64 ((((cr+((v.getD (i) 0)*bw))/1000000000:Nat):Int)))),(8,(.int .u64 (0))),(15,(.int .i64 (((i:Nat):Int)))),(16,(.bool (decide (((i:Nat):Int)<((m:Nat):Int))))),(9,(.int .i64 (((i:Nat):Int)))),(10,(.int .u64 (((cr:Nat):Int)+(((v.getD (i) 0:Nat):Int)*((bw:Nat):Int))))),(22,(.bool (decide (((i:Nat):Int)<((v.length:Nat):Int))))),(11,(.int .u64 ((((cr+((v.getD (i) 0)*bw))%1000000000:Nat):Int)+((br:Nat):Int)))),(12,(.int .u64 (((o.getD (k+i) 0:Nat):Int)))),(45,(.bool (decide (((o.getD (k+i) 0:Nat):Int)<((((cr+((v.getD (i) 0)*bw))%1000000000:Nat):Int)+((br:Nat):Int))))))]:=(hF.all ⟨rfl,rfl,rfl,rfl,rfl,rfl,rfl,rfl,rfl,rfl,rfl,rfl,rfl,rfl,rfl,trivial⟩)
   refine ak ?_;refine iW hF rfl (λhc8=>?_) (λhc8=>?_)
   ·
    have hc8p:((o.getD (k+i) 0:Nat):Int)<((((cr+((v.getD (i) 0)*bw))%1000000000:Nat):Int)+((br:Nat):Int)):=by first|simpa using hc8|exact dK hc8|exact dJ hc8
    refine aI ?_;refine pr hF (pm rfl <| pg (λ_ hF=>dF (hF.ev rfl) (hF.ev rfl) mO) <| pa rfl <| pa rfl <| PR.nil) ?_;clear hF fa;intro fa hF;refine ak ?_;refine aI ?_;refine pr hF (pm rfl <| pm rfl <| pm rfl <| pm rfl <| pg (λ_ hF=>fO (hF.ev rfl) (hF.ev rfl) mO) <| pg (λ_ hF=>dO TfQ.unds152 TfQ.und154 (hF.ev rfl) FY) <| pg (λ_ hF=>kG (o:=k) (j:=i) TfQ.sl26 (hF.ev rfl) (hF.ev rfl) (by omega) (by omega)) <| PR.nil) ?_;clear hF fa;intro fa hF;refine st rfl (iL (vs:=#[.int .u32 ((((o.getD (k+i) 0)+1000000000)-(((cr+((v.getD (i) 0)*bw))%1000000000)+br):Nat):Int)]) (v:=.int .u32 ((((o.getD (k+i) 0)+1000000000)-(((cr+((v.getD (i) 0)*bw))%1000000000)+br):Nat):Int)) (X:=(g_U ::(bl So++X))) hF hS 0 rfl (by simp) rfl (iT rfl (by omega)) rfl TfQ.size154 rfl (nX (by first|omega|(simp;omega))) ?_);intro w9 hS E10;rw[jf (by first|omega|(simp;omega))]at hS;refine iO ?_;refine ru ?_;refine bY ?_;refine aI ?_;refine pr hF (pg (λ_ hF=>dF (hF.ev rfl) (hF.ev rfl) jm) <| pm rfl <| PR.nil) ?_;clear hF fa;intro fa hF;refine iO ?_;refine bY ?_;exact⟨_,(by omega),o.set (k+i) (((o.getD (k+i) 0)+1000000000)-(((cr+((v.getD (i) 0)*bw))%1000000000)+br)),(cr+((v.getD (i) 0)*bw))/1000000000,1,(i+1),(hF.all ⟨rfl,rfl,rfl,rfl,rfl,(bV rfl (by omega)),(bV rfl (by omega)),(bV rfl (by omega)),trivial⟩),hS,(E2.trans E10),(by omega),(by simp;omega),(fQ hbo (by omega)),(by rw[lV];exact htk),(by rw[set_drop];exact jT hdr),(by omega),(by omega),(xM (x:=o.getD (k+i) 0) (by omega) hv hox.symm (by first|rfl|(rw[hgn (by omega)];omega)) (by omega)),rfl⟩
   have hc8p:¬(((o.getD (k+i) 0:Nat):Int)<((((cr+((v.getD (i) 0)*bw))%1000000000:Nat):Int)+((br:Nat):Int))):=by first|simpa using hc8|exact dK hc8|exact dJ hc8
   refine fM ?_;refine bY ?_;refine aI ?_;refine pr hF (pm rfl <| pm rfl <| pm rfl <| pm rfl <| pg (λ_ hF=>fO (hF.ev rfl) (hF.ev rfl) mO) <| pg (λ_ hF=>dO TfQ.unds152 TfQ.und154 (hF.ev rfl) FY) <| pg (λ_ hF=>kG (o:=k) (j:=i) TfQ.sl26 (hF.ev rfl) (hF.ev rfl) (by omega) (by omega)) <| PR.nil) ?_;clear hF fa;intro fa hF;refine st rfl (iL (vs:=#[.int .u32 (((o.getD (k+i) 0)-(((cr+((v.getD (i) 0)*bw))%1000000000)+br):Nat):Int)]) (v:=.int .u32 (((o.getD (k+i) 0)-(((cr+((v.getD (i) 0)*bw))%1000000000)+br):Nat):Int)) (X:=(g_U ::(bl So++X))) hF hS 0 rfl (by simp) rfl (iT rfl (by omega)) rfl TfQ.size154 rfl (nX (by first|omega|(simp;omega))) ?_);intro IU hS E12;rw[jf (by first|omega|(simp;omega))]at hS;refine iO ?_;refine ru ?_;refine bY ?_;refine aI ?_;refine pr hF (pg (λ_ hF=>dF (hF.ev rfl) (hF.ev rfl) jm) <| pm rfl <| PR.nil) ?_;clear hF fa;intro fa hF;refine iO ?_;refine bY ?_;exact⟨_,(by omega),o.set (k+i) ((o.getD (k+i) 0)-(((cr+((v.getD (i) 0)*bw))%1000000000)+br)),(cr+((v.getD (i) 0)*bw))/1000000000,0,(i+1),(hF.all ⟨rfl,rfl,rfl,rfl,rfl,(bV rfl (by omega)),(bV rfl (by omega)),(bV rfl (by omega)),trivial⟩),hS,(E2.trans E12),(by omega),(by simp;omega),(fQ hbo (by omega)),(by rw[lV];exact htk),(by rw[set_drop];exact jT hdr),(by omega),(by omega),(xM (x:=o.getD (k+i) 0) (by omega) hv hox.symm (by first|rfl|(rw[hgn (by omega)];omega)) (by omega)),rfl⟩
  have hc4p:¬(((i:Nat):Int)<((v.length:Nat):Int)):=by first|simpa using hc4|exact dK hc4|exact dJ hc4
  refine fM ?_;refine bY ?_;refine aF ?_;refine aI ?_;refine pr hF (pm rfl <| pg (λ_ hF=>yR (hF.ev rfl) (hF.ev rfl) (by omega) (KR (x:=cr) (y:=1000000000) (by omega) (by omega) (by omega))) <| pa rfl <| PR.nil) ?_;clear hF fa;intro fa hF;refine ak ?_;refine aF ?_;refine aI ?_;refine pr hF (pm rfl <| pg (λ_ hF=>BL (hF.ev rfl) (hF.ev rfl) (by omega) (PO (x:=cr) (y:=1000000000) (by omega) (by omega))) <| pm rfl <| pg (λ_ hF=>dF (hF.ev rfl) (hF.ev rfl) mO) <| pa rfl <| PR.nil) ?_;clear hF fa;intro fa hF;replace hF:Frm 62 fa [(0,(.slice (some ⟨g_U,k,none⟩) (m) (c_U))),(1,(.slice (A_v) (v.length) (c_v))),(2,(.int .u64 (((bw:Nat):Int)))),(6,(.bool (false))),(14,(.int .i64 (((m:Nat):Int)))),(7,(.int .u64 (((cr/1000000000:Nat):Int)))),(8,(.int .u64 (((br:Nat):Int)))),(15,(.int .i64 (((i:Nat):Int)))),(16,(.bool (decide (((i:Nat):Int)<((m:Nat):Int))))),(9,(.int .i64 (((i:Nat):Int)))),(10,(.int .u64 (((cr:Nat):Int)))),(22,(.bool (decide (((i:Nat):Int)<((v.length:Nat):Int))))),(11,(.int .u64 (((cr%1000000000:Nat):Int)+((br:Nat):Int))))]:=(hF.all ⟨rfl,rfl,rfl,rfl,rfl,rfl,rfl,rfl,rfl,rfl,rfl,rfl,rfl,trivial⟩)
  refine ak ?_;refine aF ?_;refine aI ?_;refine pr hF (pa rfl <| PR.nil) ?_;clear hF fa;intro fa hF;refine ak ?_;refine aF ?_;refine aI ?_;refine pr hF (pm rfl <| pm rfl <| pg (λ_ hF=>kG (o:=k) (j:=i) TfQ.sl26 (hF.ev rfl) (hF.ev rfl) (by omega) (by omega)) <| pg (λ_ hF=>ig TfQ.one154 (hF.ev rfl) (hS.get 0 rfl) (tV (by first|omega|(simp;omega)))) <| pg (λ_ hF=>dO TfQ.unds154 TfQ.und152 (hF.ev rfl) (kQ (by omega))) <| pa rfl <| PR.nil) ?_;clear hF fa;intro fa hF;refine ak ?_;refine aF ?_;refine aF ?_;refine aI ?_;refine pr hF (pm rfl <| pm rfl <| pg (λ_ hF=>oL (hF.ev rfl) (hF.ev rfl)) <| PR.nil) ?_;clear hF fa;intro fa hF;refine ak ?_;refine iW hF rfl (λhc13=>?_) (λhc13=>?_)
  ·
   have hc13p:((o.getD (k+i) 0:Nat):Int)<(((cr%1000000000:Nat):Int)+((br:Nat):Int)):=by first|simpa using hc13|exact dK hc13|exact dJ hc13
   refine aI ?_;refine pr hF (pm rfl <| pg (λ_ hF=>dF (hF.ev rfl) (hF.ev rfl) mO) <| pa rfl <| pa rfl <| PR.nil) ?_;clear hF fa;intro fa hF;refine ak ?_;refine aI ?_;refine pr hF (pm rfl <| pm rfl <| pm rfl <| pm rfl <| pg (λ_ hF=>fO (hF.ev rfl) (hF.ev rfl) mO) <| pg (λ_ hF=>dO TfQ.unds152 TfQ.und154 (hF.ev rfl) FY) <| pg (λ_ hF=>kG (o:=k) (j:=i) TfQ.sl26 (hF.ev rfl) (hF.ev rfl) (by omega) (by omega)) <| PR.nil) ?_;clear hF fa;intro fa hF;refine st rfl (iL (vs:=#[.int .u32 ((((o.getD (k+i) 0)+1000000000)-((cr%1000000000)+br):Nat):Int)]) (v:=.int .u32 ((((o.getD (k+i) 0)+1000000000)-((cr%1000000000)+br):Nat):Int)) (X:=(g_U ::(bl So++X))) hF hS 0 rfl (by simp) rfl (iT rfl (by omega)) rfl TfQ.size154 rfl (nX (by first|omega|(simp;omega))) ?_);intro w14 hS E15;rw[jf (by first|omega|(simp;omega))]at hS;replace hF:Frm 62 fa [(0,(.slice (some ⟨g_U,k,none⟩) (m) (c_U))),(1,(.slice (A_v) (v.length) (c_v))),(2,(.int .u64 (((bw:Nat):Int)))),(6,(.bool (false))),(14,(.int .i64 (((m:Nat):Int)))),(7,(.int .u64 (((cr/1000000000:Nat):Int)))),(8,(.int .u64 (1))),(15,(.int .i64 (((i:Nat):Int)))),(16,(.bool (decide (((i:Nat):Int)<((m:Nat):Int))))),(9,(.int .i64 (((i:Nat):Int)))),(10,(.int .u64 (((cr:Nat):Int)))),(22,(.bool (decide (((i:Nat):Int)<((v.length:Nat):Int))))),(11,(.int .u64 (((cr%1000000000:Nat):Int)+((br:Nat):Int)))),(12,(.int .u64 (((o.getD (k+i) 0:Nat):Int)+1000000000))),(45,(.bool (decide (((o.getD (k+i) 0:Nat):Int)<(((cr%1000000000:Nat):Int)+((br:Nat):Int))))))]:=(hF.all ⟨rfl,rfl,rfl,rfl,rfl,rfl,rfl,rfl,rfl,rfl,rfl,rfl,rfl,rfl,rfl,trivial⟩)
   refine iO ?_;refine ru ?_;refine bY ?_;refine aI ?_;refine pr hF (pg (λ_ hF=>dF (hF.ev rfl) (hF.ev rfl) jm) <| pm rfl <| PR.nil) ?_;clear hF fa;intro fa hF;refine iO ?_;refine bY ?_;exact⟨_,(by omega),o.set (k+i) (((o.getD (k+i) 0)+1000000000)-((cr%1000000000)+br)),cr/1000000000,1,(i+1),(hF.all ⟨rfl,rfl,rfl,rfl,rfl,(bV rfl (by omega)),(bV rfl (by omega)),(bV rfl (by omega)),trivial⟩),hS,(E2.trans E15),(by omega),(by simp;omega),(fQ hbo (by omega)),(by rw[lV];exact htk),(by rw[set_drop];exact jT hdr),(by omega),(by omega),(xM (x:=o.getD (k+i) 0) (by omega) hv hox.symm (by first|rfl|(rw[hgn (by omega)];omega)) (by omega)),rfl⟩
  have hc13p:¬(((o.getD (k+i) 0:Nat):Int)<(((cr%1000000000:Nat):Int)+((br:Nat):Int))):=by first|simpa using hc13|exact dK hc13|exact dJ hc13
  refine fM ?_;refine bY ?_;refine aI ?_;refine pr hF (pm rfl <| pm rfl <| pm rfl <| pm rfl <| pg (λ_ hF=>fO (hF.ev rfl) (hF.ev rfl) mO) <| pg (λ_ hF=>dO TfQ.unds152 TfQ.und154 (hF.ev rfl) FY) <| pg (λ_ hF=>kG (o:=k) (j:=i) TfQ.sl26 (hF.ev rfl) (hF.ev rfl) (by omega) (by omega)) <| PR.nil) ?_;clear hF fa;intro fa hF;refine st rfl (iL (vs:=#[.int .u32 (((o.getD (k+i) 0)-((cr%1000000000)+br):Nat):Int)]) (v:=.int .u32 (((o.getD (k+i) 0)-((cr%1000000000)+br):Nat):Int)) (X:=(g_U ::(bl So++X))) hF hS 0 rfl (by simp) rfl (iT rfl (by omega)) rfl TfQ.size154 rfl (nX (by first|omega|(simp;omega))) ?_);intro w16 hS E17;rw[jf (by first|omega|(simp;omega))]at hS;replace hF:Frm 62 fa [(0,(.slice (some ⟨g_U,k,none⟩) (m) (c_U))),(1,(.slice (A_v) (v.length) (c_v))),(2,(.int .u64 (((bw:Nat):Int)))),(6,(.bool (false))),(14,(.int .i64 (((m:Nat):Int)))),(7,(.int .u64 (((cr/1000000000:Nat):Int)))),(8,(.int .u64 (0))),(15,(.int .i64 (((i:Nat):Int)))),(16,(.bool (decide (((i:Nat):Int)<((m:Nat):Int))))),(9,(.int .i64 (((i:Nat):Int)))),(10,(.int .u64 (((cr:Nat):Int)))),(22,(.bool (decide (((i:Nat):Int)<((v.length:Nat):Int))))),(11,(.int .u64 (((cr%1000000000:Nat):Int)+((br:Nat):Int)))),(12,(.int .u64 (((o.getD (k+i) 0:Nat):Int)))),(45,(.bool (decide (((o.getD (k+i) 0:Nat):Int)<(((cr%1000000000:Nat):Int)+((br:Nat):Int))))))]:=(hF.all ⟨rfl,rfl,rfl,rfl,rfl,rfl,rfl,rfl,rfl,rfl,rfl,rfl,rfl,rfl,rfl,trivial⟩)
  refine iO ?_;refine ru ?_;refine bY ?_;refine aI ?_;refine pr hF (pg (λ_ hF=>dF (hF.ev rfl) (hF.ev rfl) jm) <| pm rfl <| PR.nil) ?_;clear hF fa;intro fa hF;refine iO ?_;refine bY ?_;exact⟨_,(by omega),o.set (k+i) ((o.getD (k+i) 0)-((cr%1000000000)+br)),cr/1000000000,0,(i+1),(hF.all ⟨rfl,rfl,rfl,rfl,rfl,(bV rfl (by omega)),(bV rfl (by omega)),(bV rfl (by omega)),trivial⟩),hS,(E2.trans E17),(by omega),(by simp;omega),(fQ hbo (by omega)),(by rw[lV];exact htk),(by rw[set_drop];exact jT hdr),(by omega),(by omega),(xM (x:=o.getD (k+i) 0) (by omega) hv hox.symm (by first|rfl|(rw[hgn (by omega)];omega)) (by omega)),rfl⟩
 have hc3p:¬(((i:Nat):Int)<((m:Nat):Int)):=by first|simpa using hc3|exact dK hc3|exact dJ hc3
 refine qF ?_;refine qP ?_;refine qP ?_;refine Bz ?_;refine bY ?_;refine aF ?_;refine aI ?_;refine pr hF (pm rfl <| pg (λ_ hF=>Gq (hF.ev rfl) (hF.ev rfl)) <| pm rfl <| PR.nil) ?_;clear hF fa;intro fa hF;rcases Bool.eq_false_or_eq_true (decide (((br:Nat):Int)>0))with hg18|hg18
 ·
  replace hF:=hF.cons (t:=58) (v:=.bool true) ((hF.get 58 _ rfl).trans (congrArg Value.bool hg18));have hg18p:((br:Nat):Int)>0:=by simpa using hg18
  refine pr hF (psk rfl rfl <| psk rfl rfl <| pg (λ_ hF=>xw (hF.ev rfl) (λ_=>hF.ev rfl) (v:=undef) (λh=>by cases h) rfl) <| pa rfl <| PR.nil) ?_;clear hF fa;intro fa hF;refine ak ?_;refine xq ?_;refine acB hF rfl (mJ hF rfl) ?_;exact⟨_,rfl,o,(cr+br),(congrArg Value.bool (by symm;rw[decide_eq_true_eq];omega)),(ho),(hbo),(htk),(by rw[show m=i by omega];exact hdr),(by have h1:=hv;rw[bT (l:=v) (by omega),show i=m by omega]at h1;exact h1),hS,E2⟩
 replace hF:=hF.cons (t:=58) (v:=.bool false) ((hF.get 58 _ rfl).trans (congrArg Value.bool hg18));have hg18p:¬(((br:Nat):Int)>0):=by simpa using hg18
 refine pr hF (pgg (λ_ hF=>bM (hF.ev rfl)) <| pgg (λ_ hF=>Gq (hF.ev rfl) (hF.ev rfl)) <| pg (λ_ hF=>xw (hF.ev rfl) (u:=undef) (λh=>by cases h) (λ_=>hF.ev rfl) rfl) <| pa rfl <| PR.nil) ?_;clear hF fa;intro fa hF;refine ak ?_;refine xq ?_;refine acB hF rfl (mJ hF rfl) ?_;exact⟨_,rfl,o,(cr+br),(congrArg Value.bool (by rw[decide_eq_decide];omega)),(ho),(hbo),(htk),(by rw[show m=i by omega];exact hdr),(by have h1:=hv;rw[bT (l:=v) (by omega),show i=m by omega]at h1;exact h1),hS,E2⟩
set_option maxHeartbeats 4000000 in
theorem vI{w0 w:World}{X:List Nat}{So:List Bx}{R:List Value}{g_U c_U:Nat}{U:List Nat}(hX:∀m∈X,m<w0.heap.size)(hS:St w0 w ((g_U,154,(us U++R).toArray)::So))(k m:Nat){v_v:Value}{v:List Nat}(h_v:UL w (g_U ::(bl So++X)) v_v (v))(hU:U.length≤1000000000000)(hkm:k+m≤U.length)(hvm:v.length≤m)(hb_U:Lb U)(hb_v:Lb v):
 Calls Tryz.prog 233 #[(.slice (some ⟨g_U,k,none⟩) m c_U),v_v] w (BG λr w'=>∃o:List Nat,∃cy:Nat,r=.tuple #[]∧o.length=U.length∧Lb o∧o.take k=U.take k∧o.drop (k+m)=U.drop (k+m)∧val (win o k m)+1000000000^m*cy=val (win U k m)+val v∧cy≤1∧St w0 w' ((g_U,154,(us o++R).toArray)::So)∧Ext w (g_U ::(bl So++X)) w' (g_U ::(bl So++X))):=by
 refine enter (N:=37) (fn:=Tryz.f233) (vs:=[(.slice (some ⟨g_U,k,none⟩) m c_U),v_v]) Tryz.func233 rfl rfl rfl ?_;intro fa hF;obtain⟨A_v,_,c_v,rfl,rfl,hu_v⟩:=h_v;have hl_v:=hu_v.len;have hc_v:=hu_v.cap;replace hF:Frm 37 fa [(0,(.slice (some ⟨g_U,k,none⟩) (m) (c_U))),(1,(.slice (A_v) (v.length) (c_v)))]:=hF;refine aF ?_;refine aI ?_;refine pr hF (pa rfl <| PR.nil) ?_;clear hF fa;intro fa hF;refine ak ?_;refine aF ?_;refine aI ?_;refine pr hF (pm rfl <| pg (λ_ hF=>kY TfQ.sls26 (hF.ev rfl)) <| pm rfl <| PR.nil) ?_;clear hF fa;intro fa hF;refine ak ?_;refine fZ ?_;refine sJ (λmu fa w'=>∃o:List Nat,∃cr:Nat,∃i:Nat,Frm 37 fa [(0,(.slice (some ⟨g_U,k,none⟩) (m) (c_U))),(1,(.slice (A_v) (v.length) (c_v))),(8,(.int .i64 (((m:Nat):Int)))),(4,(.int .u32 (((cr:Nat):Int)))),(9,(.int .i64 (((i:Nat):Int))))]∧St w0 w' ([(g_U,154,(us (o)++R).toArray)]++So)∧Ext w (g_U ::(bl So++X)) w' (g_U ::(bl So++X))∧(i≤m)∧(o.length=U.length)∧(Lb o)∧(o.take k=U.take k)∧(o.drop (k+i)=U.drop (k+i))∧(cr≤1)∧(val (win o k i)+1000000000^i*cr=val (win U k i)+val (v.take i))∧m-i=mu) ?_ ?_
 ·
  exact⟨_,U,0,0,(hF.all ⟨rfl,rfl,rfl,(bV rfl (by omega)),(bV rfl (by omega)),trivial⟩),hS,Ext.refl _ _,(by omega),(rfl),(hb_U),(rfl),(rfl),(by omega),(by simp[win_zero,val]),rfl⟩
 clear hF fa;intro n0_ fa w' hI;clear hS;obtain⟨o,cr,i,hF,hS,E2,hi,ho,hbo,htk,hdr,hcr,hv,rfl⟩:=hI
 rename World=>w1
 have hox:=Eu hdr;have hoi:=hbo.getD (k+i);have hvi:=hb_v.getD i;have hgn:=λh=>getD_none (l:=v) (k:=i) h
 refine aF ?_;refine aI ?_;refine pr hF (pg (λ_ hF=>oL (hF.ev rfl) (hF.ev rfl)) <| PR.nil) ?_;clear hF fa;intro fa hF;refine ak ?_;refine aF ?_;refine iW hF rfl (λhc3=>?_) (λhc3=>?_)
 ·
  have hc3p:((i:Nat):Int)<((m:Nat):Int):=by first|simpa using hc3|exact dK hc3|exact dJ hc3
  refine fM ?_;refine bY ?_;refine aF ?_;refine fZ ?_;refine aF ?_;refine aI ?_;refine pr hF (pm rfl <| pa rfl <| PR.nil) ?_;clear hF fa;intro fa hF;refine ak ?_;refine aF ?_;refine aI ?_;refine pr hF (pm rfl <| pm rfl <| pg (λ_ hF=>kG (o:=k) (j:=i) TfQ.sl26 (hF.ev rfl) (hF.ev rfl) (by omega) (by omega)) <| pg (λ_ hF=>ig TfQ.one154 (hF.ev rfl) (hS.get 0 rfl) (tV (by first|omega|(simp;omega)))) <| pm rfl <| pg (λ_ hF=>dF (hF.ev rfl) (hF.ev rfl) FY) <| pa rfl <| PR.nil) ?_;clear hF fa;intro fa hF;refine ak ?_;refine aF ?_;refine aF ?_;refine aI ?_;refine pr hF (pm rfl <| pm rfl <| pg (λ_ hF=>kY TfQ.sls26 (hF.ev rfl)) <| pg (λ_ hF=>oL (hF.ev rfl) (hF.ev rfl)) <| PR.nil) ?_;clear hF fa;intro fa hF;refine ak ?_;refine iW hF rfl (λhc4=>?_) (λhc4=>?_)
  ·
   have hc4p:((i:Nat):Int)<((v.length:Nat):Int):=by first|simpa using hc4|exact dK hc4|exact dJ hc4
   refine aI ?_;refine pr hF (pm rfl <| pm rfl <| pm rfl <| PR.nil) ?_;clear hF fa;intro fa hF;obtain⟨ad5,hA6,hq7⟩:=(hu_v.ext E2).cl.at_ (kZ (l:=v) (i:=i) (by omega));refine pr hF (pg (λ_ hF=>kV (j:=i) TfQ.sl26 (hF.ev rfl) hA6 (hF.ev rfl) (by omega) (by omega)) <| pg (λ_ hF=>gQ TfQ.one154 (hF.ev rfl) hq7) <| pg (λ_ hF=>dF (hF.ev rfl) (hF.ev rfl) FY) <| pa rfl <| PR.nil) ?_;clear hF fa;intro fa hF;replace hF:Frm 37 fa [(0,(.slice (some ⟨g_U,k,none⟩) (m) (c_U))),(1,(.slice (A_v) (v.length) (c_v))),(8,(.int .i64 (((m:Nat):Int)))),(4,(.int .u32 (((cr:Nat):Int)))),(9,(.int .i64 (((i:Nat):Int)))),(10,(.bool (decide (((i:Nat):Int)<((m:Nat):Int))))),(5,(.int .i64 (((i:Nat):Int)))),(6,(.int .u32 ((((o.getD (k+i) 0:Nat):Int)+((cr:Nat):Int))+((v.getD (i) 0:Nat):Int)))),(21,(.bool (decide (((i:Nat):Int)<((v.length:Nat):Int)))))]:=(hF.all ⟨rfl,rfl,rfl,rfl,rfl,rfl,rfl,rfl,rfl,trivial⟩)
   refine ak ?_;refine aF ?_;refine aI ?_;refine pr hF (pa rfl <| PR.nil) ?_;clear hF fa;intro fa hF;refine ak ?_;refine aF ?_;refine aF ?_;refine aI ?_;refine pr hF (pm rfl <| pg (λ_ hF=>rU (hF.ev rfl) (hF.ev rfl)) <| PR.nil) ?_;clear hF fa;intro fa hF;refine ak ?_;refine iW hF rfl (λhc8=>?_) (λhc8=>?_)
   ·
    have hc8p:((((o.getD (k+i) 0:Nat):Int)+((cr:Nat):Int))+((v.getD (i) 0:Nat):Int))≥1000000000:=by first|simpa using hc8|exact dK hc8|exact dJ hc8
    refine aI ?_;refine pr hF (pm rfl <| pg (λ_ hF=>fO (hF.ev rfl) (hF.ev rfl) FY) <| pa rfl <| pa rfl <| PR.nil) ?_;clear hF fa;intro fa hF;refine ak ?_;refine aI ?_;refine pr hF (pm rfl <| pm rfl <| pm rfl <| pg (λ_ hF=>kG (o:=k) (j:=i) TfQ.sl26 (hF.ev rfl) (hF.ev rfl) (by omega) (by omega)) <| PR.nil) ?_;clear hF fa;intro fa hF;refine st rfl (iL (vs:=#[.int .u32 (((((o.getD (k+i) 0)+cr)+(v.getD (i) 0))-1000000000:Nat):Int)]) (v:=.int .u32 (((((o.getD (k+i) 0)+cr)+(v.getD (i) 0))-1000000000:Nat):Int)) (X:=(g_U ::(bl So++X))) hF hS 0 rfl (by simp) rfl (iT rfl (by omega)) rfl TfQ.size154 rfl (nX (by first|omega|(simp;omega))) ?_);intro w9 hS E10;rw[jf (by first|omega|(simp;omega))]at hS;refine iO ?_;refine ru ?_;refine bY ?_;refine aI ?_;refine pr hF (pg (λ_ hF=>dF (hF.ev rfl) (hF.ev rfl) jm) <| pm rfl <| PR.nil) ?_;clear hF fa;intro fa hF;refine iO ?_;refine bY ?_;exact⟨_,(by omega),o.set (k+i) ((((o.getD (k+i) 0)+cr)+(v.getD (i) 0))-1000000000),1,(i+1),(hF.all ⟨rfl,rfl,rfl,(bV rfl (by omega)),(bV rfl (by omega)),trivial⟩),hS,(E2.trans E10),(by omega),(by simp;omega),(fQ hbo (by omega)),(by rw[lV];exact htk),(by rw[set_drop];exact jT hdr),(by omega),(xu (x:=o.getD (k+i) 0) (by omega) hv hox.symm (by first|omega|(rw[hgn (by omega)];omega))),rfl⟩
   have hc8p:¬(((((o.getD (k+i) 0:Nat):Int)+((cr:Nat):Int))+((v.getD (i) 0:Nat):Int))≥1000000000):=by first|simpa using hc8|exact dK hc8|exact dJ hc8
   refine fM ?_;refine bY ?_;refine aI ?_;refine pr hF (pm rfl <| pm rfl <| pm rfl <| pg (λ_ hF=>kG (o:=k) (j:=i) TfQ.sl26 (hF.ev rfl) (hF.ev rfl) (by omega) (by omega)) <| PR.nil) ?_;clear hF fa;intro fa hF;refine st rfl (iL (vs:=#[.int .u32 ((((o.getD (k+i) 0)+cr)+(v.getD (i) 0):Nat):Int)]) (v:=.int .u32 ((((o.getD (k+i) 0)+cr)+(v.getD (i) 0):Nat):Int)) (X:=(g_U ::(bl So++X))) hF hS 0 rfl (by simp) rfl (iT rfl (by omega)) rfl TfQ.size154 rfl (nX (by first|omega|(simp;omega))) ?_);intro IU hS E12;rw[jf (by first|omega|(simp;omega))]at hS;refine iO ?_;refine ru ?_;refine bY ?_;refine aI ?_;refine pr hF (pg (λ_ hF=>dF (hF.ev rfl) (hF.ev rfl) jm) <| pm rfl <| PR.nil) ?_;clear hF fa;intro fa hF;refine iO ?_;refine bY ?_;exact⟨_,(by omega),o.set (k+i) (((o.getD (k+i) 0)+cr)+(v.getD (i) 0)),0,(i+1),(hF.all ⟨rfl,rfl,rfl,(bV rfl (by omega)),(bV rfl (by omega)),trivial⟩),hS,(E2.trans E12),(by omega),(by simp;omega),(fQ hbo (by omega)),(by rw[lV];exact htk),(by rw[set_drop];exact jT hdr),(by omega),(xu (x:=o.getD (k+i) 0) (by omega) hv hox.symm (by first|omega|(rw[hgn (by omega)];omega))),rfl⟩
  have hc4p:¬(((i:Nat):Int)<((v.length:Nat):Int)):=by first|simpa using hc4|exact dK hc4|exact dJ hc4
  refine fM ?_;refine bY ?_;refine aF ?_;refine aI ?_;refine pr hF (pa rfl <| PR.nil) ?_;clear hF fa;intro fa hF;refine ak ?_;refine aF ?_;refine aF ?_;refine aI ?_;refine pr hF (pm rfl <| pg (λ_ hF=>rU (hF.ev rfl) (hF.ev rfl)) <| PR.nil) ?_;clear hF fa;intro fa hF;replace hF:Frm 37 fa [(0,(.slice (some ⟨g_U,k,none⟩) (m) (c_U))),(1,(.slice (A_v) (v.length) (c_v))),(8,(.int .i64 (((m:Nat):Int)))),(4,(.int .u32 (0))),(9,(.int .i64 (((i:Nat):Int)))),(10,(.bool (decide (((i:Nat):Int)<((m:Nat):Int))))),(5,(.int .i64 (((i:Nat):Int)))),(6,(.int .u32 (((o.getD (k+i) 0:Nat):Int)+((cr:Nat):Int)))),(21,(.bool (decide (((i:Nat):Int)<((v.length:Nat):Int))))),(29,(.bool (decide ((((o.getD (k+i) 0:Nat):Int)+((cr:Nat):Int))≥1000000000))))]:=(hF.all ⟨rfl,rfl,rfl,rfl,rfl,rfl,rfl,rfl,rfl,rfl,trivial⟩)
  refine ak ?_;refine iW hF rfl (λhc13=>?_) (λhc13=>?_)
  ·
   have hc13p:(((o.getD (k+i) 0:Nat):Int)+((cr:Nat):Int))≥1000000000:=by first|simpa using hc13|exact dK hc13|exact dJ hc13
   refine aI ?_;refine pr hF (pm rfl <| pg (λ_ hF=>fO (hF.ev rfl) (hF.ev rfl) FY) <| pa rfl <| pa rfl <| PR.nil) ?_;clear hF fa;intro fa hF;refine ak ?_;refine aI ?_;refine pr hF (pm rfl <| pm rfl <| pm rfl <| pg (λ_ hF=>kG (o:=k) (j:=i) TfQ.sl26 (hF.ev rfl) (hF.ev rfl) (by omega) (by omega)) <| PR.nil) ?_;clear hF fa;intro fa hF;refine st rfl (iL (vs:=#[.int .u32 ((((o.getD (k+i) 0)+cr)-1000000000:Nat):Int)]) (v:=.int .u32 ((((o.getD (k+i) 0)+cr)-1000000000:Nat):Int)) (X:=(g_U ::(bl So++X))) hF hS 0 rfl (by simp) rfl (iT rfl (by omega)) rfl TfQ.size154 rfl (nX (by first|omega|(simp;omega))) ?_);intro w14 hS E15;rw[jf (by first|omega|(simp;omega))]at hS;refine iO ?_;refine ru ?_;refine bY ?_;refine aI ?_;refine pr hF (pg (λ_ hF=>dF (hF.ev rfl) (hF.ev rfl) jm) <| pm rfl <| PR.nil) ?_;clear hF fa;intro fa hF;refine iO ?_;refine bY ?_;exact⟨_,(by omega),o.set (k+i) (((o.getD (k+i) 0)+cr)-1000000000),1,(i+1),(hF.all ⟨rfl,rfl,rfl,(bV rfl (by omega)),(bV rfl (by omega)),trivial⟩),hS,(E2.trans E15),(by omega),(by simp;omega),(fQ hbo (by omega)),(by rw[lV];exact htk),(by rw[set_drop];exact jT hdr),(by omega),(xu (x:=o.getD (k+i) 0) (by omega) hv hox.symm (by first|omega|(rw[hgn (by omega)];omega))),rfl⟩
  have hc13p:¬((((o.getD (k+i) 0:Nat):Int)+((cr:Nat):Int))≥1000000000):=by first|simpa using hc13|exact dK hc13|exact dJ hc13
  refine fM ?_;refine bY ?_;refine aI ?_;refine pr hF (pm rfl <| pm rfl <| pm rfl <| pg (λ_ hF=>kG (o:=k) (j:=i) TfQ.sl26 (hF.ev rfl) (hF.ev rfl) (by omega) (by omega)) <| PR.nil) ?_;clear hF fa;intro fa hF;refine st rfl (iL (vs:=#[.int .u32 (((o.getD (k+i) 0)+cr:Nat):Int)]) (v:=.int .u32 (((o.getD (k+i) 0)+cr:Nat):Int)) (X:=(g_U ::(bl So++X))) hF hS 0 rfl (by simp) rfl (iT rfl (by omega)) rfl TfQ.size154 rfl (nX (by first|omega|(simp;omega))) ?_);intro w16 hS E17;rw[jf (by first|omega|(simp;omega))]at hS;refine iO ?_;refine ru ?_;refine bY ?_;refine aI ?_;refine pr hF (pg (λ_ hF=>dF (hF.ev rfl) (hF.ev rfl) jm) <| pm rfl <| PR.nil) ?_;clear hF fa;intro fa hF;refine iO ?_;refine bY ?_;exact⟨_,(by omega),o.set (k+i) ((o.getD (k+i) 0)+cr),0,(i+1),(hF.all ⟨rfl,rfl,rfl,(bV rfl (by omega)),(bV rfl (by omega)),trivial⟩),hS,(E2.trans E17),(by omega),(by simp;omega),(fQ hbo (by omega)),(by rw[lV];exact htk),(by rw[set_drop];exact jT hdr),(by omega),(xu (x:=o.getD (k+i) 0) (by omega) hv hox.symm (by first|omega|(rw[hgn (by omega)];omega))),rfl⟩
 have hc3p:¬(((i:Nat):Int)<((m:Nat):Int)):=by first|simpa using hc3|exact dK hc3|exact dJ hc3
 refine qF ?_;refine qP ?_;refine qP ?_;refine Bz ?_;refine aht hF rfl ?_;exact⟨_,rfl,o,cr,rfl,(ho),(hbo),(htk),(by rw[show m=i by omega];exact hdr),(by have h1:=hv;rw[bT (l:=v) (by omega),show i=m by omega]at h1;exact h1),(hcr),hS,E2⟩
end Go.Proofs.YtmniihkenijjpaaGreatDoor
