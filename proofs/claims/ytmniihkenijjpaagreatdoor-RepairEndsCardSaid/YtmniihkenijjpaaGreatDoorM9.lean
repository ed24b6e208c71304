/-
  Rules of the abstract run, plain laws, and what functions answer, for the law RepairEnds.
  Conditions: none.
-/
import Derived.Test.YtmniihkenijjpaaGreatDoorM8
import Derived.Test.YtmniihkenijjpaaGreatDoorChecked
set_option linter.all false
namespace Go.Proofs.YtmniihkenijjpaaGreatDoor
open Go Go.RowKit Go.Sw
set_option maxRecDepth 100000
set_option maxHeartbeats 8000000
instance acL(l:List Nat):DenI Tryz.prog 230 [.c (aX l)] (True) (.c (aX (ah l))):=⟨λhp=>by
 refine gQ (by kernel_rfl) (λhl=>?_);simp only [pK,lK,cellsOf,List.length_map,and_true,true_and] at hl
 all_goals refine aB Tryz.func230 rfl ?_
 all_goals first
  |((conv=>whnf);refine Sw.Loop.inv (α:=Nat) (λx=>[(0,.c (aX (l.take x)))]) (λx=>[]) (λx=>x≤l.length∧∀j,x≤j→l.getD j 0=0) (λx=>x) l.length ?_ ?_ ?_ (λx hx=>?_))
 all_goals (repeat' ((try (conv=>whnf));first
  |(with_reducible refine aO ?_)
  |(with_reducible refine aT ?_)
  |(with_reducible refine au (λ_=>?_) (λ_=>?_))
  |refine iV ?_ ?_
  |(with_reducible refine dH ?_ ?_)
  |refine Ends.mk ?_))
 all_goals (try refine Pr.mk ?_)
 all_goals first|(show SubE _ _;repeat' (first|exact trivial|refine And.intro ?_ ?_))|(show SubB _ _;repeat' (first|exact trivial|refine And.intro ?_ ?_))|skip
 all_goals (try simp (disch:=omega) only [List.length_map,List.length_take,Int.toNat_natCast,List.length_replicate,bQ,dZ,wu64,IK,Ec,WR,nS,oq] at *)
 all_goals first
  |(rw [List.take_length];rfl)
  |exact ⟨Nat.le_refl _,λj hj=>getD_none hj⟩
  |exact sS hx (.inl (by omega))
  |exact sS hx (.inr (by omega))
  |((conv=>whnf);exact ⟨x-1,⟨⟨ZL hx.1 (by omega) (by simp only [Option.getD_some];omega),trivial⟩,⟨⟩,⟨by omega,vN hx.2 (take_zero (by omega) (by omega))⟩,by show x-1<x;omega⟩⟩)
  |((repeat' apply And.intro)<;>first|omega|(simp;done)|(simp;omega))⟩
instance ab6(l:List Nat):DenI Tryz.prog 142 [.c (aX l)] (True) (.c (aX (ah l))):=⟨λhp=>by
 refine gQ (by kernel_rfl) (λhl=>?_);simp only [pK,lK,cellsOf,List.length_map,and_true,true_and] at hl
 all_goals refine aB Tryz.func142 rfl ?_
 all_goals first
  |((conv=>whnf);refine Sw.Loop.inv (α:=Nat) (λx=>[(0,.c (aX (l.take x)))]) (λx=>[]) (λx=>x≤l.length∧∀j,x≤j→l.getD j 0=0) (λx=>x) l.length ?_ ?_ ?_ (λx hx=>?_))
 all_goals (repeat' ((try (conv=>whnf));first
  |(with_reducible refine aO ?_)
  |(with_reducible refine aT ?_)
  |(with_reducible refine au (λ_=>?_) (λ_=>?_))
  |refine iV ?_ ?_
  |(with_reducible refine dH ?_ ?_)
  |refine Ends.mk ?_))
 all_goals (try refine Pr.mk ?_)
 all_goals first|(show SubE _ _;repeat' (first|exact trivial|refine And.intro ?_ ?_))|(show SubB _ _;repeat' (first|exact trivial|refine And.intro ?_ ?_))|skip
 all_goals (try simp (disch:=omega) only [List.length_map,List.length_take,Int.toNat_natCast,List.length_replicate,bQ,dZ,wu64,IK,Ec,WR,nS,oq] at *)
 all_goals first
  |(rw [List.take_length];rfl)
  |exact ⟨Nat.le_refl _,λj hj=>getD_none hj⟩
  |exact sS hx (.inl (by omega))
  |exact sS hx (.inr (by omega))
  |((conv=>whnf);exact ⟨x-1,⟨⟨ZL hx.1 (by omega) (by simp only [Option.getD_some];omega),trivial⟩,⟨⟩,⟨by omega,vN hx.2 (take_zero (by omega) (by omega))⟩,by show x-1<x;omega⟩⟩)
  |((repeat' apply And.intro)<;>first|omega|(simp;done)|(simp;omega))⟩
instance ZW(neg:Bool)(l:List Nat):DenI Tryz.prog 160 [.bool neg,.c (aX l)] (Lb l) (Z (dM neg (val l))):=⟨λhp=>by
 refine gQ (by kernel_rfl) (λhl=>?_);simp only [pK,lK,cellsOf,List.length_map,and_true,true_and] at hl
 all_goals refine aB Tryz.func160 rfl ?_
 all_goals first
  |((conv=>whnf);refine Sw.Loop.inv (α:=Nat) (λx=>[(0,.bool neg),(1,.c (aX l)),(4,.ptr 4 0),(5,.int .i64 x)]) (λx=>[(4,.var [.v (.bool false),.sl 1 []])]) (λx=>x≤l.length∧∀j,x≤j→l.getD j 0=0) (λx=>x) l.length ?_ ?_ ?_ (λx hx=>?_))
 all_goals (repeat' ((try (conv=>whnf));first
  |(with_reducible refine aO ?_)
  |(with_reducible refine aT ?_)
  |(with_reducible refine au (λ_=>?_) (λ_=>?_))
  |refine OnB.mk (λ_=>?_) (λ_=>?_)
  |refine iV ?_ ?_
  |(with_reducible refine dH ?_ ?_)
  |refine Ends.mk ?_))
 all_goals (try refine Pr.mk ?_)
 all_goals first|(show SubE _ _;repeat' (first|exact trivial|refine And.intro ?_ ?_))|(show SubB _ _;repeat' (first|exact trivial|refine And.intro ?_ ?_))|skip
 all_goals (try rfl)
 all_goals (try simp (disch:=omega) only [List.length_map,List.length_take,Int.toNat_natCast,List.length_replicate,bQ,dZ,wu64,IK,Ec,WR,nS,oq] at *)
 all_goals first
  |(subst neg;exact sg1 hp hx (.inl (by omega)) rfl (by simp only [Option.getD_some];omega) rfl)
  |(subst neg;exact sg0 hp hx (.inl (by omega)) rfl (by simp only [Option.getD_some];omega))
  |(subst neg;exact sg1 hp hx (.inr (by omega)) rfl (by simp only [Option.getD_some];omega) rfl)
  |(subst neg;exact sg0 hp hx (.inr (by omega)) rfl (by simp only [Option.getD_some];omega))
  |exact ⟨Nat.le_refl _,λj hj=>getD_none hj⟩
  |rfl
  |((conv=>whnf);exact ⟨x-1,⟨⟨rfl,rfl,rfl,abn (by omega) (by omega),trivial⟩,⟨rfl,trivial⟩,⟨by omega,vN hx.2 (by omega)⟩,by show x-1<x;omega⟩⟩)
  |((repeat' apply And.intro)<;>first|omega|(simp;done)|(simp;omega))⟩
instance Zk(neg:Bool)(l:List Nat):DenI Tryz.prog 107 [.bool neg,.c (aX l)] (Lb l) (Z (dM neg (val l))):=⟨λhp=>by
 refine gQ (by kernel_rfl) (λhl=>?_);simp only [pK,lK,cellsOf,List.length_map,and_true,true_and] at hl
 all_goals refine aB Tryz.func107 rfl ?_
 all_goals (repeat' ((try (conv=>whnf));first
  |refine aI ?_
  |(with_reducible refine aO ?_)
  |(with_reducible refine aT ?_)
  |refine OnB.mk (λ_=>?_) (λ_=>?_)
  |refine Ends.mk ?_))
 all_goals first
  |(subst neg;exact zE1 hp (by rw [List.length_map]))
  |(subst neg;exact zE0 hp)⟩
instance Zi(a b:List Nat):DenI Tryz.prog 198 [.c (aX a),.c (aX b)] (Lb a∧Lb b) (.int .i64 (fP (val a) (val b))):=⟨λhp=>by
 refine gQ (by kernel_rfl) (λhl=>?_);simp only [pK,lK,cellsOf,List.length_map,and_true,true_and] at hl;have ha:=fA a;have hb:=fA b
 all_goals refine aB Tryz.func198 rfl ?_
 all_goals (repeat' ((try (conv=>whnf));first
  |refine aI ?_
  |(with_reducible refine au (λ_=>?_) (λ_=>?_))
  |(with_reducible refine dn (λ_=>?_) (λ_=>?_))
  |refine Ends.mk ?_))
 all_goals first
  |((conv=>whnf);refine Sw.Loop.inv (α:=Nat) (λx=>[(0,.c (aX (ah a))),(1,.c (aX (ah b))),(5,.int .i64 ((x:Int)-1))]) (λx=>[]) (λx=>x≤(ah a).length∧∀j,x≤j→(ah a).getD j 0=(ah b).getD j 0) (λx=>x) ((ah a).length) ?_ ?_ ?_ (λx hx=>?_))
  |skip
 all_goals (repeat' ((try (conv=>whnf));first
  |(with_reducible refine au (λ_=>?_) (λ_=>?_))
  |refine Drw.mk (by kernel_rfl) ?_
  |(with_reducible refine dH ?_ ?_)
  |refine Ends.mk ?_))
 all_goals (try refine Pr.mk ?_)
 all_goals first|(show SubE _ _;repeat' (first|exact trivial|refine And.intro ?_ ?_))|(show SubB _ _;repeat' (first|exact trivial|refine And.intro ?_ ?_))|skip
 all_goals (try rfl)
 all_goals (try simp (disch:=omega) only [List.length_map,List.length_take,Int.toNat_natCast,List.length_replicate,bQ,dZ,wu64,IK,Ec,WR,nS,oq] at *)
 all_goals (try simp only [← dP a,← dP b])
 all_goals first
  |exact UE (dR hp.1) (dR hp.2) (by omega)
  |exact Ux (dR hp.1) (dR hp.2) (by omega)
  |exact aaX (dR hp.1) (dR hp.2) hx (by omega) (by omega) (by omega)
  |exact abm (dR hp.1) (dR hp.2) hx (by omega) (by omega) (by omega)
  |exact aa7 hx (by omega) (by omega)
  |exact fz2 (by omega)
  |((conv=>whnf);exact ⟨x-1,⟨⟨rfl,rfl,IB (by omega) (by omega),trivial⟩,⟨⟩,⟨by omega,agree_step hx.2 (by omega)⟩,by show x-1<x;omega⟩⟩)
  |rfl
  |((repeat' apply And.intro)<;>first|omega|(simp;done)|(simp;omega))⟩
instance acg(a b:List Nat):DenI Tryz.prog 161 [.c (aX a),.c (aX b)] (a.length≤1000000000000∧b.length≤1000000000000∧Lb a∧Lb b) (.c (aX (pad (a.length+b.length) (val a*val b)))):=⟨λhp=>by
 refine gQ (by kernel_rfl) (λhl=>?_);simp only [pK,lK,cellsOf,List.length_map,and_true,true_and] at hl
 all_goals refine aB Tryz.func161 rfl ?_
 all_goals (repeat' ((try (conv=>whnf));first
  |refine iD ?_ ?_))
 all_goals (try refine Pr.mk ?_)
 all_goals first
  |((conv=>whnf);refine Sw.Loop.inv (α:=List Nat × Nat) (λx=>[(1,.c (aX b)),(5,.gs 17 (a.length+b.length)),(18,.c (aX a)),(19,.int .i64 a.length),(20,.int .i64 (x.2:Nat))]) (λx=>[(17,.grow 154 1 (x.1.map λx=>[.v (u32 x)]))]) (λx=>x.2≤a.length∧x.1.length=a.length+b.length∧Lb x.1∧val (x.1.take (x.2+b.length))=val (a.take x.2)*val b) (λx=>a.length-x.2) (List.replicate (a.length+b.length) 0,0) ?_ ?_ ?_ (λx hx=>?_))
  |skip
 all_goals (repeat' ((try (conv=>whnf));first
  |(with_reducible refine au (λ_=>?_) (λ_=>?_))
  |refine bH ?_ ?_
  |(with_reducible refine dH ?_ ?_)
  |refine Ends.mk ?_))
 all_goals (try refine Pr.mk ?_)
 all_goals first
  |((conv=>whnf);refine Sw.Loop.inv (α:=List Nat × Nat × Nat) (λy=>[(1,.c (aX b)),(5,.gs 17 (a.length+b.length)),(6,.int .i64 (x.2:Nat)),(7,.int .u32 (a.getD x.2 0:Nat)),(8,.int .u64 (y.2.1:Nat)),(18,.c (aX a)),(19,.int .i64 a.length),(20,.int .i64 (x.2:Nat)),(25,.c (aX b)),(26,.int .i64 b.length),(27,.int .i64 (y.2.2:Nat))]) (λy=>[(17,.grow 154 1 (y.1.map λx=>[.v (u32 x)]))]) (λy=>y.2.2≤b.length∧y.1.length=a.length+b.length∧Lb y.1∧y.2.1<1000000000∧val (y.1.take (x.2+b.length))+1000000000 ^ (x.2+y.2.2)*y.2.1=val (a.take x.2)*val b+1000000000 ^ x.2*(a.getD x.2 0*val (b.take y.2.2))) (λy=>b.length-y.2.2) (x.1,0,0) ?_ ?_ ?_ (λy hy=>?_))
  |skip
 all_goals (repeat' ((try (conv=>whnf));first
  |(with_reducible refine au (λ_=>?_) (λ_=>?_))
  |refine bH ?_ ?_
  |(with_reducible refine dH ?_ ?_)))
 all_goals (try refine Pr.mk ?_)
 all_goals first|(show SubE _ _;repeat' (first|exact trivial|refine And.intro ?_ ?_))|(show SubB _ _;repeat' (first|exact trivial|refine And.intro ?_ ?_))|skip
 all_goals (try rfl)
 all_goals (try simp (disch:=omega) only [List.length_map,List.length_replicate,Int.toNat_natCast,bQ,En] at *)
 all_goals first
  |omega
  |rfl
  |exact Dl _ _
  |exact ⟨by omega,by simp,lI _,Ve _ _ _ _⟩
  |exact ⟨by omega,hx.2.1,hx.2.2.1,by omega,by simp [val,hx.2.2.2]⟩
  |exact WU hx.2.2.1 hx.2.1 (MP hx.2.1 (by omega) hx.2.2.2)
  |(have ga:=hp.2.2.1.getD x.2;have gb:=hp.2.2.2.getD y.2.2;have go:=hy.2.2.1.getD (x.2+y.2.2);obtain ⟨c1,c2⟩:=EN ga gb go hy.2.2.2.1;obtain ⟨h1,h2,h3,h4,h5⟩:=hy;(conv=>whnf);exact ⟨(y.1.set (x.2+y.2.2) ((y.1.getD (x.2+y.2.2) 0+a.getD x.2 0*b.getD y.2.2 0+y.2.1) % 1000000000),(y.1.getD (x.2+y.2.2) 0+a.getD x.2 0*b.getD y.2.2 0+y.2.1) / 1000000000,y.2.2+1),⟨⟨rfl,rfl,rfl,rfl,iS (by (try simp (disch:=omega) only [dZ,wu64,bQ,nS,oq,En])<;>omega),rfl,rfl,rfl,rfl,rfl,bM (by omega),trivial⟩,⟨IG (by (try simp (disch:=omega) only [dZ,wu64,bQ,nS,oq,En])<;>omega) (by (try simp (disch:=omega) only [dZ,wu64,bQ,nS,oq,En])<;>omega),trivial⟩,⟨by show y.2.2+1≤_;omega,by simp only [List.length_set];exact h2,fV h3 (Nat.mod_lt _ (by decide)),c2,xX (by omega) (by omega) h5 rfl rfl rfl⟩,by show _-(y.2.2+1)<_-y.2.2;omega⟩⟩)
  |(obtain ⟨h1,h2,h3,h4,h5⟩:=hy;(conv=>whnf);exact ⟨(y.1.set (x.2+b.length) y.2.1,x.2+1),⟨⟨rfl,rfl,rfl,rfl,bM (by omega),trivial⟩,⟨IG (by (try simp (disch:=omega) only [dZ,wu64,bQ,nS,oq,En])<;>omega) (by (try simp (disch:=omega) only [dZ,wu64,bQ,nS,oq,En])<;>omega),trivial⟩,⟨by show x.2+1≤_;omega,by simp only [List.length_set];exact h2,fV h3 h4,Bd (by omega) (by rw [show y.2.2=b.length by omega] at h5;exact h5)⟩,by show _-(x.2+1)<_-x.2;omega⟩⟩)⟩
instance aax(n:Nat):DenI Tryz.prog 117 [.int .u64 (n:Nat)] (n<18446744073709551616) (.c (aX (lim n))):=⟨λhp=>by
 refine gQ (by kernel_rfl) (λhl=>?_);simp only [pK,lK,cellsOf,List.length_map,and_true,true_and] at hl
 all_goals refine aB Tryz.func117 rfl ?_
 all_goals first
  |((conv=>whnf);refine Sw.Loop.ghost 3 11 154 1 ?_ rfl rfl rfl (by decide))
 all_goals first
  |((conv=>whnf);refine Sw.Loop.inv (α:=List Nat × Nat) (λx=>[(0,.int .u64 (x.2:Nat)),(3,.gs 11 x.1.length)]) (λx=>[(11,.grow 154 1 (x.1.map λx=>[.v (u32 x)]))]) (λx=>x.2≤n∧lim n=x.1++lim x.2) (λx=>x.2) ([],n) ?_ ?_ ?_ (λx hx=>?_))
 all_goals (repeat' ((try (conv=>whnf));first
  |(with_reducible refine au (λ_=>?_) (λ_=>?_))
  |refine bH ?_ ?_
  |refine Ends.mk ?_))
 all_goals (try refine Pr.mk ?_)
 all_goals first|(show SubE _ _;repeat' (first|exact trivial|refine And.intro ?_ ?_))|(show SubB _ _;repeat' (first|exact trivial|refine And.intro ?_ ?_))|skip
 all_goals (try rfl)
 all_goals (try simp only [List.length_map,List.length_replicate,Int.toNat_natCast] at *)
 all_goals first
  |omega
  |exact ⟨Nat.le_refl _,rfl⟩
  |exact NG hx (by omega)
  |(have:=LH hp hx (by omega);simp only [List.length_append,List.length_map,List.length_cons,List.length_nil];omega)
  |(have h2:=hx.1;((conv=>whnf);exact ⟨(x.1++[x.2 % 1000000000],x.2 / 1000000000),⟨⟨iS (by (try simp (disch:=omega) only [dZ,wu64,bQ,nS,oq,Ec,En,Ru,Og,Qd,OY,QO])<;>omega),ZT (by simp),trivial⟩,⟨EU (by (try simp (disch:=omega) only [dZ,wu64,bQ,nS,oq,Ec,En,Ru,Og,Qd,OY,QO])<;>omega),trivial⟩,(Hl hx (by omega)),by show x.2 / 1000000000<x.2;omega⟩⟩))⟩
instance abY(n:Nat):DenI Tryz.prog 196 [.int .u64 (n:Nat)] (n<18446744073709551616) (.c (aX (pad 3 n))):=⟨λhp=>by
 refine gQ (by kernel_rfl) (λhl=>?_);simp only [pK,lK,cellsOf,List.length_map,and_true,true_and] at hl
 all_goals refine aB Tryz.func196 rfl ?_
 all_goals (repeat' ((try (conv=>whnf));first
  |refine bH ?_ ?_
  |refine Ends.mk ?_))
 all_goals (try refine Pr.mk ?_)
 all_goals first
  |omega
  |exact Nl (by omega) (by (try simp (disch:=omega) only [dZ,wu64,bQ,nS,oq,Ec,En,Ru,Og,Qd,OY,QO])<;>omega) (by (try simp (disch:=omega) only [dZ,wu64,bQ,nS,oq,Ec,En,Ru,Og,Qd,OY,QO])<;>omega) (by (try simp (disch:=omega) only [dZ,wu64,bQ,nS,oq,Ec,En,Ru,Og,Qd,OY,QO])<;>omega)⟩
instance adk(a:Int):DenI Tryz.prog 195 [Z a] (True) (.tup [.int .u64 ((if sz a≤2 then a.natAbs else 0:Nat):Int),.bool (decide (sz a≤2))]):=⟨λhp=>by
 refine gQ (by kernel_rfl) (λhl=>?_);simp only [pK,lK,cellsOf,List.length_map,and_true,true_and] at hl
 all_goals refine aB Tryz.func195 rfl ?_
 all_goals (repeat' ((try (conv=>whnf));first
  |(with_reducible refine au (λ_=>?_) (λ_=>?_))
  |refine Drw.mk (by kernel_rfl) ?_
  |(with_reducible refine dH ?_ ?_)
  |refine Ends.mk ?_))
 all_goals (try refine Pr.mk ?_)
 all_goals (try simp only [List.length_map,List.length_replicate,Int.toNat_natCast] at *)
 all_goals (have g0:=(bY a.natAbs).getD 0;have g1:=(bY a.natAbs).getD 1)
 all_goals first
  |omega
  |exact Xf (by omega)
  |exact YF (by omega) (by (try simp (disch:=omega) only [dZ,wu64,bQ,nS,oq,Ec,En,Ru,Og,Qd,OY,QO])<;>omega)
  |exact Xq (by omega) (by (try simp (disch:=omega) only [dZ,wu64,bQ,nS,oq,Ec,En,Ru,Og,Qd,OY,QO])<;>omega)
  |exact YG (by omega)⟩
instance aam(a:List Nat)(b:Nat):DenI Tryz.prog 231 [.c (aX a),.int .u32 (b:Nat)] (a.length≤1000000000000∧Lb a∧0<b∧b<1000000000) (.tup [.c (aX (pad a.length (val a / b))),.c (aX [val a % b])]):=⟨λhp=>by
 refine gQ (by kernel_rfl) (λhl=>?_);simp only [pK,lK,cellsOf,List.length_map,and_true,true_and] at hl
 all_goals refine aB Tryz.func231 rfl ?_
 all_goals (repeat' ((try (conv=>whnf));first
  |refine iD ?_ ?_))
 all_goals (try refine Pr.mk ?_)
 all_goals first
  |((conv=>whnf);refine Sw.Loop.inv (α:=List Nat × Nat × Nat) (λx=>[(0,.c (aX a)),(1,.int .u32 (b:Nat)),(6,.gs 12 a.length),(7,.int .u64 (x.2.1:Nat)),(8,.int .i64 ((x.2.2:Int)-1))]) (λx=>[(12,.grow 154 1 (x.1.map λx=>[.v (u32 x)]))]) (λx=>x.2.2≤a.length∧x.1.length=a.length∧Lb x.1∧x.2.1<b∧val (a.drop x.2.2)=b*val (x.1.drop x.2.2)+x.2.1) (λx=>x.2.2) (List.replicate a.length 0,0,a.length) ?_ ?_ ?_ (λx hx=>?_))
  |skip
 all_goals (repeat' ((try (conv=>whnf));first
  |(with_reducible refine au (λ_=>?_) (λ_=>?_))
  |refine bH ?_ ?_
  |refine Drw.mk (by kernel_rfl) ?_
  |(with_reducible refine dH ?_ ?_)
  |refine Ends.mk ?_))
 all_goals (try refine Pr.mk ?_)
 all_goals first|(show SubE _ _;repeat' (first|exact trivial|refine And.intro ?_ ?_))|(show SubB _ _;repeat' (first|exact trivial|refine And.intro ?_ ?_))|skip
 all_goals (try rfl)
 all_goals (try simp (disch:=omega) only [List.length_map,List.length_take,Int.toNat_natCast,List.length_replicate,bQ,dZ,wu64,IK,Ec,WR,nS,oq] at *)
 all_goals first
  |omega
  |rfl
  |exact Dl _ _
  |exact ⟨by omega,by simp,lI _,by omega,by rw [kJ (Nat.le_refl _),kJ (by simp)];simp⟩
  |(have h2:=hx.2.2.2.2;rw [show x.2.2=0 by omega] at h2;exact Ti hp.2.2.1 hx.2.2.2.1 hx.2.1 hx.2.2.1 h2)
  |(have ga:=hp.2.1.getD (x.2.2-1);have c4:=Int.natCast_nonneg ((x.2.1*1000000000+a.getD (x.2.2-1) 0) / b);obtain ⟨c1,c2,c3⟩:=Mc hx.2.2.2.1 hp.2.2.2 ga (t:=_) rfl;obtain ⟨h1,h2,h3,h4,h5⟩:=hx;((conv=>whnf);exact ⟨(x.1.set (x.2.2-1) ((x.2.1*1000000000+a.getD (x.2.2-1) 0) / b),(x.2.1*1000000000+a.getD (x.2.2-1) 0) % b,x.2.2-1),⟨⟨rfl,rfl,rfl,iS (by (try simp (disch:=omega) only [dZ,wu64,bQ,nS,oq,Ec,En,Ru,Og,Qd,OY,QO])<;>omega),IB (by omega) (by omega),trivial⟩,⟨IG (by (try simp (disch:=omega) only [dZ,wu64,bQ,nS,oq,Ec,En,Ru,Og,Qd,OY,QO])<;>omega) (by (try simp (disch:=omega) only [dZ,wu64,bQ,nS,oq,Ec,En,Ru,Og,Qd,OY,QO])<;>omega),trivial⟩,⟨by show x.2.2-1≤_;omega,by simp only [List.length_set];exact h2,fV h3 c1,c2,EF (by omega) h1 (by omega) h5 rfl rfl⟩,by show x.2.2-1<x.2.2;omega⟩⟩))⟩
instance aaD(a b:List Nat):DenI Tryz.prog 144 [.c (aX a),.c (aX b)] (a.length≤1000000000000∧b.length≤1000000000000∧Lb a∧Lb b∧b.length≤a.length∧val b≤val a) (.c (aX (lim (val a-val b)))):=⟨λhp=>by
 refine gQ (by kernel_rfl) (λhl=>?_);simp only [pK,lK,cellsOf,List.length_map,and_true,true_and] at hl
 all_goals refine aB Tryz.func144 rfl ?_
 all_goals (repeat' ((try (conv=>whnf));first
  |refine iD ?_ ?_))
 all_goals (try refine Pr.mk ?_)
 all_goals first
  |((conv=>whnf);refine Sw.Loop.inv (α:=List Nat × Nat × Nat) (λx=>[(0,.c (aX a)),(1,.c (aX b)),(5,.gs 11 a.length),(6,.int .u32 (x.2.1:Nat)),(7,.int .i64 (x.2.2:Nat))]) (λx=>[(11,.grow 154 1 (x.1.map λx=>[.v (u32 x)]))]) (λx=>x.2.2≤a.length∧x.1.length=a.length∧Lb x.1∧x.2.1≤1∧val (x.1.take x.2.2)+val (b.take x.2.2)=val (a.take x.2.2)+1000000000 ^ x.2.2*x.2.1) (λx=>a.length-x.2.2) (List.replicate a.length 0,0,0) ?_ ?_ ?_ (λx hx=>?_))
  |skip
 all_goals (repeat' ((try (conv=>whnf));first
  |refine aI ?_
  |(with_reducible refine au (λ_=>?_) (λ_=>?_))
  |refine bH ?_ ?_
  |(with_reducible refine dH ?_ ?_)
  |refine Ends.mk ?_))
 all_goals (try refine Pr.mk ?_)
 all_goals first|(show SubE _ _;repeat' (first|exact trivial|refine And.intro ?_ ?_))|(show SubB _ _;repeat' (first|exact trivial|refine And.intro ?_ ?_))|skip
 all_goals (try rfl)
 all_goals (try simp only [List.length_map,List.length_replicate,Int.toNat_natCast] at *)
 all_goals first
  |omega
  |rfl
  |exact Dl _ _
  |exact ⟨by omega,by simp,lI _,by omega,by simp [val]⟩
  |exact MJ hx.2.2.1 hp.2.2.1 hx.2.1 (by omega) hp.2.2.2.2.1 hp.2.2.2.2.2 hx.2.2.2.2
  |(obtain ⟨h1,h2,h3,h4,h5⟩:=hx;have ga:=hp.2.2.1.getD x.2.2;have gb:=hp.2.2.2.1.getD x.2.2;have gz:=getD_none (l:=b) (k:=x.2.2) (by omega);(try simp (disch:=omega) only [dZ] at *);(conv=>whnf);exact ⟨(x.1.set x.2.2 ((a.getD x.2.2 0+1000000000-x.2.1-b.getD x.2.2 0) % 1000000000),1-(a.getD x.2.2 0+1000000000-x.2.1-b.getD x.2.2 0) / 1000000000,x.2.2+1),⟨⟨rfl,rfl,rfl,iS (by (try simp (disch:=omega) only [dZ,wu64,bQ,nS,oq])<;>omega),bM (by omega),trivial⟩,⟨IG rfl (by (try simp (disch:=omega) only [dZ,wu64,bQ,nS,oq])<;>omega),trivial⟩,⟨by show x.2.2+1≤_;omega,by simp only [List.length_set];exact h2,fV h3 (Nat.mod_lt _ (by decide)),by show 1-_ / 1000000000≤1;omega,nO (by omega) h5 (by dsimp only;omega)⟩,by show _-(x.2.2+1)<_-x.2.2;omega⟩⟩)
  |(obtain ⟨h1,h2,h3,h4,h5⟩:=hx;have ga:=hp.2.2.1.getD x.2.2;have gb:=hp.2.2.2.1.getD x.2.2;(try simp (disch:=omega) only [dZ] at *);(conv=>whnf);exact ⟨(x.1.set x.2.2 ((a.getD x.2.2 0+1000000000-x.2.1-b.getD x.2.2 0) % 1000000000),1-(a.getD x.2.2 0+1000000000-x.2.1-b.getD x.2.2 0) / 1000000000,x.2.2+1),⟨⟨rfl,rfl,rfl,iS (by (try simp (disch:=omega) only [dZ,wu64,bQ,nS,oq])<;>omega),bM (by omega),trivial⟩,⟨IG rfl (by (try simp (disch:=omega) only [dZ,wu64,bQ,nS,oq])<;>omega),trivial⟩,⟨by show x.2.2+1≤_;omega,by simp only [List.length_set];exact h2,fV h3 (Nat.mod_lt _ (by decide)),by show 1-_ / 1000000000≤1;omega,nO (by omega) h5 (by dsimp only;omega)⟩,by show _-(x.2.2+1)<_-x.2.2;omega⟩⟩)⟩
instance ab8(a b:List Nat):DenI Tryz.prog 236 [.c (aX a),.c (aX b)] (a.length≤1000000000000∧b.length≤1000000000000∧Lb a∧Lb b∧b.length≤a.length∧val b≤val a) (.c (aX (pad a.length (val a-val b)))):=⟨λhp=>by
 refine gQ (by kernel_rfl) (λhl=>?_);simp only [pK,lK,cellsOf,List.length_map,and_true,true_and] at hl
 all_goals refine aB Tryz.func236 rfl ?_
 all_goals (repeat' ((try (conv=>whnf));first
  |refine iD ?_ ?_))
 all_goals (try refine Pr.mk ?_)
 all_goals first
  |((conv=>whnf);refine Sw.Loop.inv (α:=List Nat × Nat × Nat) (λx=>[(1,.c (aX b)),(5,.gs 12 a.length),(6,.int .u32 (x.2.1:Nat)),(13,.c (aX a)),(14,.int .i64 a.length),(15,.int .i64 (x.2.2:Nat))]) (λx=>[(12,.grow 154 1 (x.1.map λx=>[.v (u32 x)]))]) (λx=>x.2.2≤a.length∧x.1.length=a.length∧Lb x.1∧x.2.1≤1∧val (x.1.take x.2.2)+val (b.take x.2.2)=val (a.take x.2.2)+1000000000 ^ x.2.2*x.2.1) (λx=>a.length-x.2.2) (List.replicate a.length 0,0,0) ?_ ?_ ?_ (λx hx=>?_))
  |skip
 all_goals (repeat' ((try (conv=>whnf));first
  |(with_reducible refine au (λ_=>?_) (λ_=>?_))
  |refine bH ?_ ?_
  |(with_reducible refine dH ?_ ?_)
  |refine Ends.mk ?_))
 all_goals (try refine Pr.mk ?_)
 all_goals first|(show SubE _ _;repeat' (first|exact trivial|refine And.intro ?_ ?_))|(show SubB _ _;repeat' (first|exact trivial|refine And.intro ?_ ?_))|skip
 all_goals (try rfl)
 all_goals (try simp only [List.length_map,List.length_replicate,Int.toNat_natCast] at *)
 all_goals first
  |omega
  |rfl
  |exact Dl _ _
  |(obtain ⟨h1,h2,h3,h4,h5⟩:=hx;have ga:=hp.2.2.1.getD x.2.2;have gb:=hp.2.2.2.1.getD x.2.2;have gz:=getD_none (l:=b) (k:=x.2.2) (by omega);(try simp (disch:=omega) only [dZ] at *);(conv=>whnf);exact ⟨(x.1.set x.2.2 ((a.getD x.2.2 0+1000000000-x.2.1-b.getD x.2.2 0) % 1000000000),1-(a.getD x.2.2 0+1000000000-x.2.1-b.getD x.2.2 0) / 1000000000,x.2.2+1),⟨⟨rfl,rfl,iS (by (try simp (disch:=omega) only [dZ,wu64,bQ,nS,oq])<;>omega),rfl,rfl,bM (by omega),trivial⟩,⟨IG rfl (by (try simp (disch:=omega) only [dZ,wu64,bQ,nS,oq])<;>omega),trivial⟩,⟨by show x.2.2+1≤_;omega,by simp only [List.length_set];exact h2,fV h3 (Nat.mod_lt _ (by decide)),by show 1-_ / 1000000000≤1;omega,nO (by omega) h5 (by dsimp only;omega)⟩,by show _-(x.2.2+1)<_-x.2.2;omega⟩⟩)
  |(obtain ⟨h1,h2,h3,h4,h5⟩:=hx;have ga:=hp.2.2.1.getD x.2.2;have gb:=hp.2.2.2.1.getD x.2.2;(try simp (disch:=omega) only [dZ] at *);(conv=>whnf);exact ⟨(x.1.set x.2.2 ((a.getD x.2.2 0+1000000000-x.2.1-b.getD x.2.2 0) % 1000000000),1-(a.getD x.2.2 0+1000000000-x.2.1-b.getD x.2.2 0) / 1000000000,x.2.2+1),⟨⟨rfl,rfl,iS (by (try simp (disch:=omega) only [dZ,wu64,bQ,nS,oq])<;>omega),rfl,rfl,bM (by omega),trivial⟩,⟨IG rfl (by (try simp (disch:=omega) only [dZ,wu64,bQ,nS,oq])<;>omega),trivial⟩,⟨by show x.2.2+1≤_;omega,by simp only [List.length_set];exact h2,fV h3 (Nat.mod_lt _ (by decide)),by show 1-_ / 1000000000≤1;omega,nO (by omega) h5 (by dsimp only;omega)⟩,by show _-(x.2.2+1)<_-x.2.2;omega⟩⟩)
  |exact ⟨by omega,by simp,lI _,by omega,by simp [val]⟩
  |exact WU hx.2.2.1 hx.2.1 (Ad hx.2.2.1 hp.2.2.1 hx.2.1 (by omega) hp.2.2.2.2.1 hp.2.2.2.2.2 hx.2.2.2.2)⟩
instance adf(a b:List Nat):DenI Tryz.prog 235 [.c (aX a),.c (aX b)] (a.length≤1000000000000∧b.length≤1000000000000∧Lb a∧Lb b) (.c (aX (pad (max a.length b.length+1) (val a+val b)))):=⟨λhp=>by
 refine gQ (by kernel_rfl) (λhl=>?_);simp only [pK,lK,cellsOf,List.length_map,and_true,true_and] at hl
 all_goals refine aB Tryz.func235 rfl ?_
 all_goals (repeat' ((try (conv=>whnf));first
  |(with_reducible refine au (λ_=>?_) (λ_=>?_))
  |refine iD ?_ ?_))
 all_goals (try refine Pr.mk ?_)
 all_goals (try simp (disch:=omega) only [List.length_map,List.length_take,Int.toNat_natCast,List.length_replicate,bQ,dZ,wu64,IK,Ec,WR,nS,oq] at *)
 all_goals first
  |(have hh:b.length≤a.length:=(by omega);(conv=>whnf);refine Sw.Loop.inv (α:=List Nat × Nat × Nat) (λx=>[(1,.c (aX b)),(5,.gs 19 x.1.length),(6,.int .u32 (x.2.1:Nat)),(20,.c (aX a)),(21,.int .i64 a.length),(22,.int .i64 (x.2.2:Nat))]) (λx=>[(19,.grow 154 1 (x.1.map λx=>[.v (u32 x)]))]) (λx=>x.2.2≤a.length∧x.1.length=x.2.2∧Lb x.1∧x.2.1≤1∧val x.1+1000000000 ^ x.2.2*x.2.1=val (a.take x.2.2)+val (b.take x.2.2)) (λx=>a.length-x.2.2) ([],0,0) ?_ ?_ ?_ (λx hx=>?_))
  |(have hh:a.length≤b.length:=(by omega);(conv=>whnf);refine Sw.Loop.inv (α:=List Nat × Nat × Nat) (λx=>[(1,.c (aX a)),(5,.gs 19 x.1.length),(6,.int .u32 (x.2.1:Nat)),(20,.c (aX b)),(21,.int .i64 b.length),(22,.int .i64 (x.2.2:Nat))]) (λx=>[(19,.grow 154 1 (x.1.map λx=>[.v (u32 x)]))]) (λx=>x.2.2≤b.length∧x.1.length=x.2.2∧Lb x.1∧x.2.1≤1∧val x.1+1000000000 ^ x.2.2*x.2.1=val (b.take x.2.2)+val (a.take x.2.2)) (λx=>b.length-x.2.2) ([],0,0) ?_ ?_ ?_ (λx hx=>?_))
  |skip
 all_goals (repeat' ((try (conv=>whnf));first
  |(with_reducible refine au (λ_=>?_) (λ_=>?_))
  |refine bH ?_ ?_
  |(with_reducible refine dH ?_ ?_)
  |refine Ends.mk ?_))
 all_goals (try refine Pr.mk ?_)
 all_goals first|(show SubE _ _;repeat' (first|exact trivial|refine And.intro ?_ ?_))|(show SubB _ _;repeat' (first|exact trivial|refine And.intro ?_ ?_))|skip
 all_goals (try rfl)
 all_goals (try simp only [List.length_map,List.length_replicate,Int.toNat_natCast] at *)
 all_goals first
  |omega
  |rfl
  |(obtain ⟨h1,h2,h3,h4,h5⟩:=hx;have ga:=hp.2.2.1.getD x.2.2;have gb:=hp.2.2.2.getD x.2.2;have gz:=getD_none (l:=b) (k:=x.2.2) (by omega);(try simp (disch:=omega) only [dZ] at *);(conv=>whnf);exact ⟨(x.1++[(x.2.1+a.getD x.2.2 0+b.getD x.2.2 0) % 1000000000],(x.2.1+a.getD x.2.2 0+b.getD x.2.2 0) / 1000000000,x.2.2+1),⟨⟨rfl,ZT (by simp),iS (by (try simp (disch:=omega) only [dZ,wu64,bQ,nS,oq])<;>omega),rfl,rfl,bM (by omega),trivial⟩,⟨EU (by (try simp (disch:=omega) only [dZ,wu64,bQ,nS,oq])<;>omega),trivial⟩,⟨by show x.2.2+1≤_;omega,by simp only [List.length_append,List.length_cons,List.length_nil];omega,nP h3 (Nat.mod_lt _ (by decide)),by show _ / 1000000000≤1;omega,qy h2 h5 rfl rfl rfl⟩,by show _-(x.2.2+1)<_-x.2.2;omega⟩⟩)
  |(obtain ⟨h1,h2,h3,h4,h5⟩:=hx;have ga:=hp.2.2.1.getD x.2.2;have gb:=hp.2.2.2.getD x.2.2;(try simp (disch:=omega) only [dZ] at *);(conv=>whnf);exact ⟨(x.1++[(x.2.1+a.getD x.2.2 0+b.getD x.2.2 0) % 1000000000],(x.2.1+a.getD x.2.2 0+b.getD x.2.2 0) / 1000000000,x.2.2+1),⟨⟨rfl,ZT (by simp),iS (by (try simp (disch:=omega) only [dZ,wu64,bQ,nS,oq])<;>omega),rfl,rfl,bM (by omega),trivial⟩,⟨EU (by (try simp (disch:=omega) only [dZ,wu64,bQ,nS,oq])<;>omega),trivial⟩,⟨by show x.2.2+1≤_;omega,by simp only [List.length_append,List.length_cons,List.length_nil];omega,nP h3 (Nat.mod_lt _ (by decide)),by show _ / 1000000000≤1;omega,qy h2 h5 rfl rfl rfl⟩,by show _-(x.2.2+1)<_-x.2.2;omega⟩⟩)
  |(obtain ⟨h1,h2,h3,h4,h5⟩:=hx;have ga:=hp.2.2.2.getD x.2.2;have gb:=hp.2.2.1.getD x.2.2;have gz:=getD_none (l:=a) (k:=x.2.2) (by omega);(try simp (disch:=omega) only [dZ] at *);(conv=>whnf);exact ⟨(x.1++[(x.2.1+b.getD x.2.2 0+a.getD x.2.2 0) % 1000000000],(x.2.1+b.getD x.2.2 0+a.getD x.2.2 0) / 1000000000,x.2.2+1),⟨⟨rfl,ZT (by simp),iS (by (try simp (disch:=omega) only [dZ,wu64,bQ,nS,oq])<;>omega),rfl,rfl,bM (by omega),trivial⟩,⟨EU (by (try simp (disch:=omega) only [dZ,wu64,bQ,nS,oq])<;>omega),trivial⟩,⟨by show x.2.2+1≤_;omega,by simp only [List.length_append,List.length_cons,List.length_nil];omega,nP h3 (Nat.mod_lt _ (by decide)),by show _ / 1000000000≤1;omega,qy h2 h5 rfl rfl rfl⟩,by show _-(x.2.2+1)<_-x.2.2;omega⟩⟩)
  |(obtain ⟨h1,h2,h3,h4,h5⟩:=hx;have ga:=hp.2.2.2.getD x.2.2;have gb:=hp.2.2.1.getD x.2.2;(try simp (disch:=omega) only [dZ] at *);(conv=>whnf);exact ⟨(x.1++[(x.2.1+b.getD x.2.2 0+a.getD x.2.2 0) % 1000000000],(x.2.1+b.getD x.2.2 0+a.getD x.2.2 0) / 1000000000,x.2.2+1),⟨⟨rfl,ZT (by simp),iS (by (try simp (disch:=omega) only [dZ,wu64,bQ,nS,oq])<;>omega),rfl,rfl,bM (by omega),trivial⟩,⟨EU (by (try simp (disch:=omega) only [dZ,wu64,bQ,nS,oq])<;>omega),trivial⟩,⟨by show x.2.2+1≤_;omega,by simp only [List.length_append,List.length_cons,List.length_nil];omega,nP h3 (Nat.mod_lt _ (by decide)),by show _ / 1000000000≤1;omega,qy h2 h5 rfl rfl rfl⟩,by show _-(x.2.2+1)<_-x.2.2;omega⟩⟩)
  |exact ⟨by omega,rfl,Lb.nil,by omega,by simp [val]⟩
  |(simp only [List.length_map,List.length_append,List.length_cons,List.length_nil];omega)
  |(refine Zo hx.2.2.1 (by omega) (by omega) ?_;have h5:=hx.2.2.2.2;rw [bI (l:=a) (by omega),bI (l:=b) (by omega)] at h5;rw [hx.2.1];omega)⟩
end Go.Proofs.YtmniihkenijjpaaGreatDoor
namespace Go.Sw
open Go
theorem OC{n:Int}(h:0≤n)(h2:n≤9223372036854775807):IntKind.u64.wrap n=((n.natAbs:Nat):Int):=by rw [IntKind.wrap_u64];omega
theorem Rh{n:Int}(h:n<0)(h2 : -9223372036854775808≤n):IntKind.u64.wrap (0-IntKind.u64.wrap n)=((n.natAbs:Nat):Int):=by rw [IntKind.wrap_u64,IntKind.wrap_u64];omega
theorem Vw{x y:Int}(h:x=y):aA [Z x]=Z y:=by rw [h];rfl
theorem Rf{a b qs rs:List Nat}(h4:Lb qs)(h5:Lb rs)(h6:val a=val b*val qs+val rs)(h7:val rs<val b)(h8:qs.length=SE a b)(h9:rs.length=PG a b):qs=pad (SE a b) (val a / val b)∧rs=pad (PG a b) (val a % val b):=by
 have h1:val a / val b=val qs:=by rw [h6,Nat.mul_comm,Nat.add_comm,Nat.add_mul_div_right _ _ (by omega),Nat.div_eq_of_lt h7,Nat.zero_add]
 have h2:val a % val b=val rs:=by rw [h6,Nat.mul_add_mod,Nat.mod_eq_of_lt h7]
 rw [h1,h2,← h8,← h9];exact ⟨xM _ h4,xM _ h5⟩
section
variable {a b:Int}
theorem aaL(h:(((lim a.natAbs).length:Nat):Int)=0):aA [AV.c (Cell.v (.int .i64 0))]=AV.int .i64 (iK a):=iE (by have:=bW (n:=a.natAbs);unfold iK;repeat' split;all_goals omega)
theorem Zx(h:a<0):aA [AV.c (Cell.v (.int .i64 (-1)))]=AV.int .i64 (iK a):=iE (by unfold iK;repeat' split;all_goals omega)
theorem Z5(h:¬a<0)(h2:(((lim a.natAbs).length:Nat):Int) > 0):aA [AV.c (Cell.v (.int .i64 1))]=AV.int .i64 (iK a):=iE (by have:=bW (n:=a.natAbs);unfold iK;repeat' split;all_goals omega)
theorem abC(h:(decide (a<0) != decide (b<0))=true)(ha:a<0):aA [AV.c (Cell.v (.int .i64 (-1)))]=AV.int .i64 (iJ a b):=iE (by have hb:¬b<0:=(λhb=>by simp [ha,hb] at h);rw [Tf (by omega)])
theorem aaR(h:(decide (a<0) != decide (b<0))=true)(ha:¬a<0):aA [AV.c (Cell.v (.int .i64 1))]=AV.int .i64 (iJ a b):=iE (by have hb:b<0:=Decidable.byContradiction (λhb=>by simp [ha,hb] at h);rw [U8 (by omega)])
theorem aaZ(h:(decide (a<0) != decide (b<0))=false)(ha:a<0):aA [AV.c (Cell.v (.int .i64 (fP (val (lim b.natAbs)) (val (lim a.natAbs)))))]=AV.int .i64 (iJ a b) :=
 iE (by rw [aH,aH,Ob ha (Decidable.byContradiction λhb=>by simp [ha,hb] at h)])
theorem aa0(h:(decide (a<0) != decide (b<0))=false)(ha:¬a<0):aA [AV.c (Cell.v (.int .i64 (fP (val (lim a.natAbs)) (val (lim b.natAbs)))))]=AV.int .i64 (iJ a b) :=
 iE (by rw [aH,aH,Ph ha (λhb=>by simp [ha,hb] at h)])
theorem aby(h:(decide (a<0) == decide (b<0))=true):decide (a<0)=decide (b<0):=by simpa using h
theorem V3(h:(decide (a<0) == decide (b<0))=false):¬decide (a<0)=decide (b<0):=by simpa using h
theorem ZY:aA [Z (dM (!decide (a<0)) (val (lim a.natAbs)))]=Z (-a):=Vw (by rw [aH];exact OL a)
theorem abl:aA [Z (dM (decide (a<0) != decide (b<0)) (val (pad ((lim a.natAbs).length+(lim b.natAbs).length) (val (lim a.natAbs)*val (lim b.natAbs)))))]=Z (a*b):=Vw (by
 rw [jM _ _ (by rw [Nat.pow_add];exact Nat.mul_lt_mul'' (eF _ (bY _)) (eF _ (bY _))),aH,aH];exact Qm a b)
theorem aaC(h:(decide (a<0) == decide (b<0))=true):aA [Z (dM (decide (a<0)) (val (pad (max (lim a.natAbs).length (lim b.natAbs).length+1) (val (lim a.natAbs)+val (lim b.natAbs)))))]=Z (a+b):=Vw (by
 have h1:=eF _ (bY a.natAbs);have h2:=eF _ (bY b.natAbs);have h3:=Nat.pow_le_pow_right (n:=1000000000) (by decide) (Nat.le_max_left (lim a.natAbs).length (lim b.natAbs).length);have h4:=Nat.pow_le_pow_right (n:=1000000000) (by decide) (Nat.le_max_right (lim a.natAbs).length (lim b.natAbs).length)
 rw [jM _ _ (by rw [Nat.pow_succ];omega),aH,aH];exact OZ (aby h))
theorem Zu(h:(decide (a<0) == decide (b<0))=false)(h2:¬fP (val (lim a.natAbs)) (val (lim b.natAbs))<0):aA [Z (dM (decide (a<0)) (val (pad (lim a.natAbs).length (val (lim a.natAbs)-val (lim b.natAbs)))))]=Z (a+b):=Vw (by
 have h1:=eF _ (bY a.natAbs);rw [jM _ _ (by omega)]
 rw [aH,aH] at h2 ⊢;exact FX (V3 h) (GH.1 (by omega)))
theorem aaO(h:(decide (a<0) == decide (b<0))=false)(h2:fP (val (lim a.natAbs)) (val (lim b.natAbs))<0):aA [Z (dM (decide (b<0)) (val (pad (lim b.natAbs).length (val (lim b.natAbs)-val (lim a.natAbs)))))]=Z (a+b):=Vw (by
 have h1:=eF _ (bY b.natAbs);rw [jM _ _ (by omega)]
 rw [aH,aH] at h2 ⊢;rw [Int.add_comm];exact FX (λe=>V3 h e.symm) (by have:=tK.1 h2;omega))
theorem Qz(h1:sz a≤1000000000)(h2:sz b≤1000000000)(h:b.natAbs≤a.natAbs):(lim a.natAbs).length≤1000000000000∧(lim b.natAbs).length≤1000000000000∧Lb (lim a.natAbs)∧Lb (lim b.natAbs)∧(lim b.natAbs).length≤(lim a.natAbs).length∧val (lim b.natAbs)≤val (lim a.natAbs):=by
 unfold sz at h1 h2;exact ⟨by omega,by omega,bY _,bY _,oD h,by rw [aH,aH];exact h⟩
theorem RV(h1:sz a≤1000000000)(h2:sz b≤1000000000):(lim a.natAbs).length≤1000000000000∧(lim b.natAbs).length≤1000000000000∧Lb (lim a.natAbs)∧Lb (lim b.natAbs):=by
 unfold sz at h1 h2;exact ⟨by omega,by omega,bY _,bY _⟩
theorem XB(h:¬b<0):AV.agg [Cell.v (.bool (decide ((((lim b.natAbs).map λx=>[Cell.v (u32 x)]).length:Int) > 0))),zl b]=Z (-b):=by
 show _=AV.agg [zs (-b),zl (-b)];unfold zs zl;have:=bW (n:=b.natAbs);rw [Int.natAbs_neg,List.length_map,show decide ((((lim b.natAbs).length:Nat):Int) > 0)=decide (-b<0) by rw [decide_eq_decide];omega]
theorem XI(h:b<0):AV.agg [Cell.v (.bool false),zl b]=Z (-b):=by
 show _=AV.agg [zs (-b),zl (-b)];unfold zs zl;rw [Int.natAbs_neg,decide_eq_false (show ¬-b<0 by omega)]
theorem aag(h:iJ a (-9223372036854775808)<0):aA [AV.c (Cell.v (.int .i64 0)),AV.c (Cell.v (.bool false))]=AV.tup [.int .i64 (if -9223372036854775808≤a∧a≤9223372036854775807 then a else 0),.bool (decide (-9223372036854775808≤a∧a≤9223372036854775807))]:=by
 have:=yA.1 h;rw [if_neg (by omega),decide_eq_false (by omega)];rfl
theorem aaV(h:iJ a 9223372036854775807 > 0):aA [AV.c (Cell.v (.int .i64 0)),AV.c (Cell.v (.bool false))]=AV.tup [.int .i64 (if -9223372036854775808≤a∧a≤9223372036854775807 then a else 0),.bool (decide (-9223372036854775808≤a∧a≤9223372036854775807))]:=by
 have:=zn.1 h;rw [if_neg (by omega),decide_eq_false (by omega)];rfl
theorem abL(h:¬iJ a (-9223372036854775808)<0)(h2:¬iJ a 9223372036854775807 > 0):-9223372036854775808≤a∧a≤9223372036854775807:=by
 have h3:=mt yA.2 h;have h4:=mt zn.2 h2;omega
theorem abu{x:Int}(hb : -9223372036854775808≤a∧a≤9223372036854775807)(hx:x=a):aA [AV.c (Cell.v (.int .i64 x)),AV.c (Cell.v (.bool true))]=AV.tup [.int .i64 (if -9223372036854775808≤a∧a≤9223372036854775807 then a else 0),.bool (decide (-9223372036854775808≤a∧a≤9223372036854775807))]:=by
 rw [if_pos hb,decide_eq_true hb,hx];rfl
theorem abD(hb : -9223372036854775808≤a∧a≤9223372036854775807):(lim a.natAbs).length≤1000000000000∧Lb (lim a.natAbs)∧val (lim a.natAbs)<18446744073709551616:=by
 have:=jf hb.1 hb.2;unfold sz at this;exact ⟨by omega,bY _,by rw [aH];omega⟩
theorem Rn(h1:sz a≤1000000000)(h2:sz b≤1000000000)(h:¬b.natAbs=0):(lim a.natAbs).length≤100000000000∧(lim b.natAbs).length≤100000000000∧Lb (lim a.natAbs)∧Lb (lim b.natAbs)∧0<b.natAbs:=by
 unfold sz at h1 h2;exact ⟨by omega,by omega,bY _,bY _,by omega⟩
theorem dqI(h:¬b.natAbs=0):val (pad (SE (lim a.natAbs) (lim b.natAbs)) (a.natAbs / b.natAbs))=a.natAbs / b.natAbs:=by
 have:=YX (bY a.natAbs) (bY b.natAbs) (by rw [aH];omega)
 rwa [aH,aH] at this
theorem drI(h:¬b.natAbs=0):val (pad (PG (lim a.natAbs) (lim b.natAbs)) (a.natAbs % b.natAbs))=a.natAbs % b.natAbs:=by
 have:=XO (bY a.natAbs) (bY b.natAbs) (by rw [aH];omega)
 rwa [aH,aH] at this
theorem TA{r:Nat}(h0:0<r)(h:((decide (a<0) && decide (0<r)) != decide (b<0))=true):(decide (a<0) != decide (b<0))=true:=by rwa [decide_eq_true h0,Bool.and_true] at h
theorem VQ{r:Nat}(h0:0<r)(h:((decide (a<0) && decide (0<r)) != decide (b<0))=false):¬(decide (a<0) != decide (b<0))=true:=by rw [decide_eq_true h0,Bool.and_true] at h;rw [h];decide
theorem acp(h:sz a≤1000000000)(s:Bool):sz (dM s (a.natAbs / b.natAbs))≤1000000000:=Nat.le_trans (J8 _ _ a (Nat.div_le_self _ _)) h
theorem adH(h:sz a≤1000000000)(s:Bool):sz (dM s (a.natAbs % b.natAbs))≤1000000000:=Nat.le_trans (J8 _ _ a (Nat.mod_le _ _)) h
theorem adv:sz 1≤1000000000:=Nat.le_trans (jf (by decide) (by decide)) (by decide)
end
section
variable {a b:Int} {m n:Nat}
theorem Va{x:Nat}(h0:n=0)(hg:Nat.gcd m n=Nat.gcd a.natAbs b.natAbs)(hx:x=m):aA [Z (dM false x)]=Z ((Nat.gcd a.natAbs b.natAbs:Nat):Int):=Vw (by
 subst h0 hx;rw [← hg,Nat.gcd_zero_right];rfl)
theorem abH(u v:Nat):(u:Int).tmod (v:Int)=((u % v:Nat):Int):=by rw [Int.tmod_eq_emod_of_nonneg (by omega)];rfl
theorem gm2{u v:Nat}:some (AV.int .u64 ((u:Int).tmod (v:Int)))=some (AV.int .u64 ((u % v:Nat):Int)):=by rw [abH]
theorem Qx(x y:Int)(h:x=y):some (Bk.var [zs x,zl x])=some (Bk.var [zs y,zl y]):=by rw [h]
theorem wif(h:sz ((m:Nat):Int)≤2):some (AV.int .u64 ((if sz ((m:Nat):Int)≤2 then ((m:Nat):Int).natAbs else 0:Nat):Int))=some (AV.int .u64 ((m:Nat):Int)):=by rw [if_pos h];rfl
theorem acQ(h1:sz ((m:Nat):Int)≤1000000000)(h2:sz ((n:Nat):Int)≤1000000000)(h:(((lim ((n:Nat):Int).natAbs).length:Nat):Int) > 0):(lim ((m:Nat):Int).natAbs).length≤100000000000∧(lim ((n:Nat):Int).natAbs).length≤100000000000∧Lb (lim ((m:Nat):Int).natAbs)∧Lb (lim ((n:Nat):Int).natAbs)∧0<val (lim ((n:Nat):Int).natAbs):=by
 have:=bW (n:=((n:Nat):Int).natAbs);have k:=Rn h1 h2 (by omega);rw [aH];exact k
theorem gst(h:(((lim ((n:Nat):Int).natAbs).length:Nat):Int) > 0):dM false (val (pad (PG (lim ((m:Nat):Int).natAbs) (lim ((n:Nat):Int).natAbs)) (val (lim ((m:Nat):Int).natAbs) % val (lim ((n:Nat):Int).natAbs))))=((m % n:Nat):Int):=by
 have:=bW (n:=((n:Nat):Int).natAbs);rw [aH,aH,drI (by omega)];rfl
theorem acF(h:(((lim ((n:Nat):Int).natAbs).length:Nat):Int) > 0):0<n:=by
 have h2:=bW (n:=((n:Nat):Int).natAbs);rw [Int.natAbs_natCast] at h2 h;omega
theorem abP(h:¬(((lim ((n:Nat):Int).natAbs).length:Nat):Int) > 0):n=0:=by
 have h2:=bW (n:=((n:Nat):Int).natAbs);rw [Int.natAbs_natCast] at h2 h;omega
end
end Go.Sw
namespace Go.Proofs.YtmniihkenijjpaaGreatDoor
open Go Go.RowKit Go.Sw
set_option maxRecDepth 100000
set_option maxHeartbeats 8000000
instance acd(n:Int):DenI Tryz.prog 80 [.int .i64 n] (-9223372036854775808≤n∧n≤9223372036854775807) (Z n):=⟨λhp=>by
 refine aB Tryz.func80 rfl ?_
 repeat' ((try (conv=>whnf));first
  |(with_reducible refine au (λ_=>?_) (λ_=>?_)))
 all_goals (try ((conv=>whnf);simp (disch:=omega) only [OC,Rh]))
 all_goals (repeat' ((try (conv=>whnf));first
  |refine ak ?_ ?_
  |refine Ends.mk ?_))
 all_goals (try refine Pr.mk ?_)
 all_goals first
  |exact bY _
  |omega
  |(refine Vw ?_;rw [aH];first|exact Sz (by omega)|exact RJ (by omega))⟩
instance abS(n:Int):DenI Tryz.prog 199 [.int .i64 n] (-9223372036854775808≤n∧n≤9223372036854775807) (Z n):=⟨λhp=>by
 refine aB Tryz.func199 rfl ?_
 repeat' ((try (conv=>whnf));first
  |(with_reducible refine au (λ_=>?_) (λ_=>?_)))
 all_goals (try ((conv=>whnf);simp (disch:=omega) only [OC,Rh]))
 all_goals (repeat' ((try (conv=>whnf));first
  |refine ak ?_ ?_
  |refine Ends.mk ?_))
 all_goals (try refine Pr.mk ?_)
 all_goals first
  |exact rF _ _
  |omega
  |(refine Vw ?_;rw [jM _ _ (by omega)];first|exact Sz (by omega)|exact RJ (by omega)|exact xI n)⟩
instance abU(a:Int):DenI Tryz.prog 90 [Z a] (True) (.int .i64 (iK a)):=⟨λhp=>by
 refine aB Tryz.func90 rfl ?_
 repeat' ((try (conv=>whnf));first
  |(with_reducible refine au (λ_=>?_) (λ_=>?_))
  |refine Ends.mk ?_)
 all_goals (try simp only [List.length_map] at *)
 all_goals first
  |with_reducible exact aaL (by omega)
  |with_reducible exact Zx (by omega)
  |with_reducible exact Z5 (by omega) (by omega)⟩
instance adB(a b:Int):DenI Tryz.prog 157 [Z a,Z b] (True) (.int .i64 (iJ a b)):=⟨λhp=>by
 refine aB Tryz.func157 rfl ?_
 repeat' ((try (conv=>whnf));first
  |refine ak ?_ ?_
  |(with_reducible refine au (λ_=>?_) (λ_=>?_))
  |refine OnB.mk (λ_=>?_) (λ_=>?_)
  |refine Ends.mk ?_)
 all_goals (try refine Pr.mk ?_)
 all_goals first
  |with_reducible exact ⟨bY _,bY _⟩
  |with_reducible exact abC (by assumption) (by assumption)
  |with_reducible exact aaR (by assumption) (by assumption)
  |with_reducible exact aaZ (by assumption) (by assumption)
  |with_reducible exact aa0 (by assumption) (by assumption)⟩
instance aco(a:Int):DenI Tryz.prog 155 [Z a] (sz a≤1000000000) (Z (-a)):=⟨λhp=>by
 refine aB Tryz.func155 rfl ?_
 repeat' ((try (conv=>whnf));first
  |refine ak ?_ ?_
  |refine bH ?_ ?_
  |refine Drw.mk (by kernel_rfl) ?_
  |refine Ends.mk ?_)
 all_goals (try refine Pr.mk ?_)
 all_goals (try simp only [List.length_map] at *)
 all_goals first
  |with_reducible exact bY _
  |with_reducible exact ZY
  |(unfold sz at hp;omega)⟩
instance adE(a b:Int):DenI Tryz.prog 122 [Z a,Z b] (sz a≤1000000000∧sz b≤1000000000) (Z (a*b)):=⟨λhp=>by
 refine aB Tryz.func122 rfl ?_
 repeat' ((try (conv=>whnf));first
  |refine ak ?_ ?_
  |refine Drw.mk (by kernel_rfl) ?_
  |refine Ends.mk ?_)
 all_goals (try refine Pr.mk ?_)
 all_goals first
  |with_reducible exact rF _ _
  |with_reducible exact RV hp.1 hp.2
  |with_reducible exact abl⟩
instance ac0(a b:Int):DenI Tryz.prog 201 [Z a,Z b] (sz a≤1000000000∧sz b≤1000000000) (Z (a+b)):=⟨λhp=>by
 refine aB Tryz.func201 rfl ?_
 repeat' ((try (conv=>whnf));first
  |refine ak ?_ ?_
  |(with_reducible refine au (λ_=>?_) (λ_=>?_))
  |refine OnB.mk (λ_=>?_) (λ_=>?_)
  |refine Drw.mk (by kernel_rfl) ?_
  |refine Ends.mk ?_)
 all_goals (try refine Pr.mk ?_)
 all_goals first
  |with_reducible exact ⟨bY _,bY _⟩
  |with_reducible exact rF _ _
  |with_reducible exact RV hp.1 hp.2
  |exact Qz hp.1 hp.2 (GH.1 (by rename_i h;rw [aH,aH] at h;omega))
  |exact Qz hp.2 hp.1 (by rename_i h;rw [aH,aH] at h;have:=tK.1 h;omega)
  |with_reducible exact aaC (by assumption)
  |with_reducible exact Zu (by assumption) (by assumption)
  |with_reducible exact aaO (by assumption) (by assumption)⟩
end Go.Proofs.YtmniihkenijjpaaGreatDoor
namespace Go.Sw
open Go Go.RowKit
section
variable {P:Program} {f:FuncId} {xs:List AV} {w:World} {X:List Nat} {vs:List Value}
theorem abQ{u:Value}{x:AV}(h:RepD w X u x):∀(i:Nat) a b,[u][i]?=some a→[x][i]?=some b→RepD w X a b:=λi a b h1 h2=>by
 cases i with
 |zero=>simp at h1 h2;subst h1 h2;exact h
 |succ i=>simp at h1
theorem V4{u v:Value}{x y:AV}(h:RepD w X u x)(k:RepD w X v y):∀(i:Nat) a b,[u,v][i]?=some a→[x,y][i]?=some b→RepD w X a b:=λi a b h1 h2=>by
 match i with
 |0=>simp at h1 h2;subst h1 h2;exact h
 |1=>simp at h1 h2;subst h1 h2;exact k
 |_+2=>simp at h1
theorem Pq{u:Value}{c:Cell}(h:RepR w X u (.c c)):RepC w X u c:=by
 generalize hv:AV.c c=v at h;cases h with
 |d h =>
  cases h with
  |c h=>injection hv with hv;subst hv;exact h
  |agg h=>cases hv
 |tup _ _=>cases hv
theorem XL{u x:Value}(h:RepC w X u (.v x)):u=x:=by
 generalize hc:Cell.v x=c at h;cases h with
 |v _ _=>injection hc with hc;exact hc.symm
 |sl=>cases hc
 |p=>cases hc
 |fn=>cases hc
theorem abw{l:List Nat}(h : @Den P (Wld.any P) f xs (.c (aX l)))(hX:∀m∈X,m<w.heap.size)(hl:vs.length=xs.length)(hr:∀(i:Nat) u v,vs[i]?=some u→xs[i]?=some v→RepD w X u v):Calls P f vs.toArray w (zy λr w'=>UL w' X r l∧Below w.heap.size w w') :=
 ((@Den.old P (Wld.any P) _ _ _ h (mW hl hr)).2 w X vs trivial hX hl hr).mono λe w' ⟨u,he,hR,hb⟩=>⟨u,he,UL.of_rep (Pq hR.r),hb⟩
theorem adC{x:Value}(h : @Den P (Wld.any P) f xs (.c (.v x)))(hX:∀m∈X,m<w.heap.size)(hl:vs.length=xs.length)(hr:∀(i:Nat) u v,vs[i]?=some u→xs[i]?=some v→RepD w X u v):Calls P f vs.toArray w (zy λr w'=>r=x∧Below w.heap.size w w') :=
 ((@Den.old P (Wld.any P) _ _ _ h (mW hl hr)).2 w X vs trivial hX hl hr).mono λe w' ⟨u,he,hR,hb⟩=>⟨u,he,XL (Pq hR.r),hb⟩
theorem VA{u:Value}{l m:List Nat}(h:RepR w X u (.tup [.c (aX l),.c (aX m)])):∃r0 r1,u=.tuple #[r0,r1]∧UL w X r0 l∧UL w X r1 m:=by
 generalize hv:AV.tup [.c (aX l),.c (aX m)]=v at h;cases h with
 |d h=>cases h with
  |c h=>cases hv
  |agg h=>cases hv
 |@tup us vs hl h =>
  injection hv with hv
  subst hv
  match us,hl with
  |[r0,r1],_=>exact ⟨r0,r1,rfl,(h 0 r0 _ rfl rfl).ul,(h 1 r1 _ rfl rfl).ul⟩
theorem aaY{l m:List Nat}(h : @Den P (Wld.any P) f xs (.tup [.c (aX l),.c (aX m)]))(hX:∀m∈X,m<w.heap.size)(hl:vs.length=xs.length)(hr:∀(i:Nat) u v,vs[i]?=some u→xs[i]?=some v→RepD w X u v):Calls P f vs.toArray w (zy λr w'=>(∃r0 r1,r=.tuple #[r0,r1]∧UL w' X r0 l∧UL w' X r1 m)∧Below w.heap.size w w') :=
 ((@Den.old P (Wld.any P) _ _ _ h (mW hl hr)).2 w X vs trivial hX hl hr).mono λe w' ⟨u,he,hR,hb⟩=>⟨u,he,VA hR.r,hb⟩
end
end Go.Sw
namespace Go.Proofs.YtmniihkenijjpaaGreatDoor
open Go Go.RowKit Go.Sw
set_option maxRecDepth 100000
set_option maxHeartbeats 8000000
theorem iM{w:World}{X:List Nat}(hX:∀m∈X,m<w.heap.size){v_l:Value}{l:List Nat}(h_l:UL w X v_l (l)):
 Calls Tryz.prog 230 #[v_l] w (zy λr w'=>(UL w' X r (ah l))∧Below w.heap.size w w'):=abw ((inferInstance:DenI Tryz.prog 230 [.c (aX l)] _ _).den trivial) hX rfl (abQ (.c h_l.rep))
theorem rO{w:World}{X:List Nat}(hX:∀m∈X,m<w.heap.size){v_a:Value}{a:List Nat}(h_a:UL w X v_a (a)){v_b:Value}{b:List Nat}(h_b:UL w X v_b (b))(ha:Lb a)(hb:Lb b):
 Calls Tryz.prog 198 #[v_a,v_b] w (zy λr w'=>(r=.int .i64 (fP (val a) (val b)))∧Below w.heap.size w w'):=adC ((inferInstance:DenI Tryz.prog 198 [.c (aX a),.c (aX b)] _ _).den ⟨ha,hb⟩) hX rfl (V4 (.c h_a.rep) (.c h_b.rep))
theorem lM{w:World}{X:List Nat}(hX:∀m∈X,m<w.heap.size){v_a:Value}{a:List Nat}(h_a:UL w X v_a (a))(b:Nat)(hn_a:a.length≤1000000000000)(hb_a:Lb a)(hb0:0<b)(hb1:b<1000000000):
 Calls Tryz.prog 231 #[v_a,(.int .u32 ((b:Nat):Int))] w (zy λr w'=>(∃qs:List Nat,∃rs:List Nat,∃r0 r1,r=.tuple #[r0,r1]∧UL w' X r0 (qs)∧UL w' X r1 (rs)∧Lb qs∧Lb rs∧val a=b*val qs+val rs∧val rs<b∧qs.length=a.length∧rs.length=1)∧Below w.heap.size w w'):=(aaY ((inferInstance:DenI Tryz.prog 231 [.c (aX a),.int .u32 (b:Nat)] _ _).den ⟨hn_a,hb_a,hb0,hb1⟩) hX rfl (V4 (.c h_a.rep) (.c (.v _ rfl)))).mono λe w' ⟨u,he,⟨r0,r1,h1,h2,h3⟩,hb⟩=>⟨u,he,⟨_,_,r0,r1,h1,h2,h3,Sm hb_a hb0 hb1⟩,hb⟩
end Go.Proofs.YtmniihkenijjpaaGreatDoor
namespace Go.Proofs.YtmniihkenijjpaaGreatDoor
open Go Go.RowKit Go.Sw
set_option maxRecDepth 20000
namespace TfE
theorem el154:Sw.elemOf Tryz.prog 154=some (#[.int .u32 0],1,4):=by kernel_rfl
theorem one154:fQ Tryz.prog 154=true:=by kernel_rfl
theorem size154:(Tryz.prog.info? 154).map (λi=>i.size)=some 1:=by kernel_rfl
theorem sl26:sliceOf Tryz.prog 26=some (154,1):=by kernel_rfl
theorem sls26:(sliceOf Tryz.prog 26).isSome=true:=by kernel_rfl
theorem und152:Tryz.prog.underlying 152=some (TypeDesc.int .u64):=by kernel_rfl
theorem und154:Tryz.prog.underlying 154=some (TypeDesc.int .u32):=by kernel_rfl
theorem unds152:(Tryz.prog.underlying 152).isSome=true:=by kernel_rfl
theorem unds154:(Tryz.prog.underlying 154).isSome=true:=by kernel_rfl
end TfE
set_option maxHeartbeats 4000000 in
theorem mV{w:World}{X:List Nat}(hX:∀m∈X,m<w.heap.size){v_a:Value}{a:List Nat}(h_a:UL w X v_a (a)){v_b:Value}{b:List Nat}(h_b:UL w X v_b (b))(hn_a:a.length≤1000000000000)(hn_b:b.length≤1000000000000)(hb_a:Lb a)(hb_b:Lb b):
 Calls Tryz.prog 161 #[v_a,v_b] w (zy λr w'=>(∃o:List Nat,abd 154 w w' r (o)∧Lb o∧val o=val a*val b∧o.length=a.length+b.length)∧Below w.heap.size w w'):=by
 refine enter (N:=68) (fn:=Tryz.f161) (vs:=[v_a,v_b]) Tryz.func161 rfl rfl rfl ?_;intro fa hF;obtain ⟨A_a,_,c_a,rfl,rfl,hu_a⟩:=h_a;have hl_a:=hu_a.len;have hc_a:=hu_a.cap;obtain ⟨A_b,_,c_b,rfl,rfl,hu_b⟩:=h_b;have hl_b:=hu_b.len;have hc_b:=hu_b.cap;replace hF:Frm 68 fa [(0,(.slice (A_a) (a.length) (c_a))),(1,(.slice (A_b) (b.length) (c_b)))]:=hF;have hS:=St.refl w;refine aC ?_;refine aF ?_;refine pr hF (pa rfl <| PR.nil) ?_;clear hF fa;intro fa hF;refine aj ?_;refine aC ?_;refine aF ?_;refine pr hF (pm rfl <| pg (λ_ hF=>jH TfE.sls26 (hF.ev rfl)) <| pm rfl <| pg (λ_ hF=>jH TfE.sls26 (hF.ev rfl)) <| pg (λ_ hF=>bP (hF.ev rfl) (hF.ev rfl) iq) <| PR.nil) ?_;clear hF fa;intro fa hF;refine st rfl (J6 (X:=X) (nl:=a.length+b.length) (nc:=a.length+b.length) hF hS rfl TfE.sl26 TfE.el154 rfl rfl (by omega) (by omega) (by omega) (by omega) (by omega) (CB _) ?_);intro g1 w2 hg4 hS E3;refine oW ?_;clear hF fa;intro fa hF;rw [Nat.mul_one] at hS;refine pr hF (pa rfl <| PR.nil) ?_;clear hF fa;intro fa hF;refine aj ?_;refine aC ?_;refine aC ?_;refine aF ?_;refine pr hF (pm rfl <| pg (λ_ hF=>jH TfE.sls26 (hF.ev rfl)) <| pm rfl <| PR.nil) ?_;clear hF fa;intro fa hF;refine aj ?_;refine gK ?_;refine uP (λmu fa w'=>∃o:List Nat,∃i:Nat,Frm 68 fa [(0,(.slice (A_a) (a.length) (c_a))),(1,(.slice (A_b) (b.length) (c_b))),(4,(.slice (none) (0) (0))),(5,(.slice (some ⟨g1,0,none⟩) (a.length+b.length) (a.length+b.length))),(18,(.slice (A_a) (a.length) (c_a))),(19,(.int .i64 (((a.length:Nat):Int)))),(20,(.int .i64 (((i:Nat):Int))))]∧St w w' [(g1,154,(us (o)).toArray)]∧Ext w2 (g1 :: X) w' (g1 :: X)∧(i≤a.length)∧(o.length=a.length+b.length)∧(Lb o)∧(val (o.take (i+b.length))=val (a.take i)*val b)∧a.length-i=mu) ?_ ?_
 ·
  exact ⟨_,List.replicate (a.length+b.length) 0,0,(hF.all ⟨rfl,rfl,rfl,rfl,rfl,rfl,(bD rfl (by omega)),trivial⟩),hS,Ext.refl _ _,(by omega),(by simp),(lI _),(by simp [uO,List.take_replicate,val]),rfl⟩
 clear hF fa;intro n0_ fa w' hI;clear hS;obtain ⟨o,i,hF,hS,E6,hi,ho,hbo,hv,rfl⟩:=hI
 rename World=>w5
 refine aC ?_;refine aF ?_;refine pr hF (pg (λ_ hF=>mM (hF.ev rfl) (hF.ev rfl)) <| PR.nil) ?_;clear hF fa;intro fa hF;refine aj ?_;refine aC ?_;refine gJ hF rfl (λhc7=>?_) (λhc7=>?_)
 ·
  have hc7p:((i:Nat):Int)<((a.length:Nat):Int):=by first|simpa using hc7|exact bZ hc7|exact cO hc7
  refine fM ?_;refine dh ?_;refine aC ?_;refine gK ?_;refine aC ?_;refine aF ?_;refine pr hF (pm rfl <| PR.nil) ?_;clear hF fa;intro fa hF;obtain ⟨ad8,hA9,hq10⟩:=(hu_a.ext (E3.trans E6)).cl.at_ (jG (l:=a) (i:=i) (by omega));refine pr hF (pg (λ_ hF=>jD (j:=i) TfE.sl26 (hF.ev rfl) hA9 (hF.ev rfl) (by omega) (by omega)) <| pg (λ_ hF=>fC TfE.one154 (hF.ev rfl) hq10) <| pa rfl <| pa rfl <| PR.nil) ?_;clear hF fa;intro fa hF;refine aj ?_;refine aC ?_;refine aF ?_;refine pr hF (pa rfl <| PR.nil) ?_;clear hF fa;intro fa hF;refine aj ?_;refine aC ?_;refine aC ?_;refine aF ?_;refine pr hF (pm rfl <| pg (λ_ hF=>jH TfE.sls26 (hF.ev rfl)) <| pm rfl <| PR.nil) ?_;clear hF fa;intro fa hF;refine aj ?_;refine gK ?_;refine uP (λmu fa w'=>∃o2:List Nat,∃cr:Nat,∃k:Nat,Frm 68 fa [(0,(.slice (A_a) (a.length) (c_a))),(1,(.slice (A_b) (b.length) (c_b))),(4,(.slice (none) (0) (0))),(5,(.slice (some ⟨g1,0,none⟩) (a.length+b.length) (a.length+b.length))),(18,(.slice (A_a) (a.length) (c_a))),(19,(.int .i64 (((a.length:Nat):Int)))),(20,(.int .i64 (((i:Nat):Int)))),(21,(.bool (decide (((i:Nat):Int)<((a.length:Nat):Int))))),(6,(.int .i64 (((i:Nat):Int)))),(7,(.int .u32 (((a.getD (i) 0:Nat):Int)))),(25,(.slice (A_b) (b.length) (c_b))),(26,(.int .i64 (((b.length:Nat):Int)))),(8,(.int .u64 (((cr:Nat):Int)))),(27,(.int .i64 (((k:Nat):Int))))]∧St w w' [(g1,154,(us (o2)).toArray)]∧Ext w5 (g1 :: X) w' (g1 :: X)∧(k≤b.length)∧(o2.length=a.length+b.length)∧(Lb o2)∧(cr<1000000000)∧(val (o2.take (i+b.length))+1000000000 ^ (i+k)*cr=val (a.take i)*val b+1000000000 ^ i*(a.getD i 0*val (b.take k)))∧b.length-k=mu) ?_ ?_
  ·
   exact ⟨_,o,0,0,(hF.all ⟨rfl,rfl,rfl,rfl,rfl,rfl,rfl,rfl,rfl,rfl,rfl,rfl,(bD rfl (by omega)),(bD rfl (by omega)),trivial⟩),hS,Ext.refl _ _,(by omega),(ho),(hbo),(by omega),(by simp [val,hv]),rfl⟩
  clear hF fa;intro n1_ fa w' hI;clear hS;obtain ⟨o2,cr,k,hF,hS,E12,hk,ho2,hbo2,hcr,hv2,rfl⟩:=hI
  rename World=>GX
  have hak:=hb_a.getD i;have hbk:=hb_b.getD k;have hok:=hbo2.getD (i+k);have hca:=EN hak hbk hok hcr;have hca1:=hca.1;have hca2:=hca.2;refine aC ?_;refine aF ?_;refine pr hF (pg (λ_ hF=>mM (hF.ev rfl) (hF.ev rfl)) <| PR.nil) ?_;clear hF fa;intro fa hF;refine aj ?_;refine aC ?_;refine gJ hF rfl (λhc13=>?_) (λhc13=>?_)
  ·
   have hc13p:((k:Nat):Int)<((b.length:Nat):Int):=by first|simpa using hc13|exact bZ hc13|exact cO hc13
   refine fM ?_;refine dh ?_;refine aC ?_;refine gK ?_;refine aC ?_;refine aF ?_;refine pr hF (pm rfl <| PR.nil) ?_;clear hF fa;intro fa hF;obtain ⟨ad14,hA15,hq16⟩:=(hu_b.ext ((E3.trans E6).trans E12)).cl.at_ (jG (l:=b) (i:=k) (by omega));refine pr hF (pg (λ_ hF=>jD (j:=k) TfE.sl26 (hF.ev rfl) hA15 (hF.ev rfl) (by omega) (by omega)) <| pg (λ_ hF=>fC TfE.one154 (hF.ev rfl) hq16) <| pa rfl <| pa rfl <| PR.nil) ?_;clear hF fa;intro fa hF;replace hF:Frm 68 fa [(0,(.slice (A_a) (a.length) (c_a))),(1,(.slice (A_b) (b.length) (c_b))),(4,(.slice (none) (0) (0))),(5,(.slice (some ⟨g1,0,none⟩) (a.length+b.length) (a.length+b.length))),(18,(.slice (A_a) (a.length) (c_a))),(19,(.int .i64 (((a.length:Nat):Int)))),(20,(.int .i64 (((i:Nat):Int)))),(21,(.bool (decide (((i:Nat):Int)<((a.length:Nat):Int))))),(6,(.int .i64 (((i:Nat):Int)))),(7,(.int .u32 (((a.getD (i) 0:Nat):Int)))),(25,(.slice (A_b) (b.length) (c_b))),(26,(.int .i64 (((b.length:Nat):Int)))),(8,(.int .u64 (((cr:Nat):Int)))),(27,(.int .i64 (((k:Nat):Int)))),(28,(.bool (decide (((k:Nat):Int)<((b.length:Nat):Int))))),(9,(.int .i64 (((k:Nat):Int)))),(10,(.int .u32 (((b.getD (k) 0:Nat):Int))))]:=(hF.all ⟨rfl,rfl,rfl,rfl,rfl,rfl,rfl,rfl,rfl,rfl,rfl,rfl,rfl,rfl,rfl,rfl,rfl,trivial⟩)
   refine aj ?_;refine aC ?_;refine aF ?_;refine pr hF (pm rfl <| pm rfl <| pm rfl <| pg (λ_ hF=>bP (hF.ev rfl) (hF.ev rfl) iq) <| pg (λ_ hF=>lV (j:=i+k) TfE.sl26 (hF.ev rfl) (hF.ev rfl) (by omega) (by omega)) <| pg (λ_ hF=>fJ TfE.one154 (hF.ev rfl) (hS.get 0 rfl) (Y7 (by first|omega|(simp;omega)))) <| pg (λ_ hF=>dw TfE.unds154 TfE.und152 (hF.ev rfl) (lH (by omega))) <| pm rfl <| pg (λ_ hF=>dw TfE.unds154 TfE.und152 (hF.ev rfl) (lH (by omega))) <| pm rfl <| pg (λ_ hF=>dw TfE.unds154 TfE.und152 (hF.ev rfl) (lH (by omega))) <| pg (λ_ hF=>uU (hF.ev rfl) (hF.ev rfl) kL) <| pg (λ_ hF=>bP (hF.ev rfl) (hF.ev rfl) kL) <| pm rfl <| pg (λ_ hF=>bP (hF.ev rfl) (hF.ev rfl) kL) <| pa rfl <| PR.nil) ?_;clear hF fa;intro fa hF;replace hF:Frm 68 fa [(0,(.slice (A_a) (a.length) (c_a))),(1,(.slice (A_b) (b.length) (c_b))),(4,(.slice (none) (0) (0))),(5,(.slice (some ⟨g1,0,none⟩) (a.length+b.length) (a.length+b.length))),(18,(.slice (A_a) (a.length) (c_a))),(19,(.int .i64 (((a.length:Nat):Int)))),(20,(.int .i64 (((i:Nat):Int)))),(21,(.bool (decide (((i:Nat):Int)<((a.length:Nat):Int))))),(6,(.int .i64 (((i:Nat):Int)))),(7,(.int .u32 (((a.getD (i) 0:Nat):Int)))),(25,(.slice (A_b) (b.length) (c_b))),(26,(.int .i64 (((b.length:Nat):Int)))),(8,(.int .u64 (((cr:Nat):Int)))),(27,(.int .i64 (((k:Nat):Int)))),(28,(.bool (decide (((k:Nat):Int)<((b.length:Nat):Int))))),(9,(.int .i64 (((k:Nat):Int)))),(10,(.int .u32 (((b.getD (k) 0:Nat):Int)))),(11,(.int .u64 ((((o2.getD (i+k) 0:Nat):Int)+(((a.getD (i) 0:Nat):Int)*((b.getD (k) 0:Nat):Int)))+((cr:Nat):Int))))]:=(hF.all ⟨rfl,rfl,rfl,rfl,rfl,rfl,rfl,rfl,rfl,rfl,rfl,rfl,rfl,rfl,rfl,rfl,rfl,rfl,trivial⟩)
   refine aj ?_;refine aF ?_;refine pr hF (pm rfl <| pm rfl <| pm rfl <| pg (λ_ hF=>bP (hF.ev rfl) (hF.ev rfl) iq) <| pm rfl <| pg (λ_ hF=>yF (hF.ev rfl) (hF.ev rfl) (by omega) (Js (x:=((o2.getD (i+k) 0)+((a.getD (i) 0)*(b.getD (k) 0)))+cr) (y:=1000000000) (by omega) (by omega))) <| pg (λ_ hF=>dw TfE.unds152 TfE.und154 (hF.ev rfl) (JV (by omega))) <| pm rfl <| pg (λ_ hF=>vg (hF.ev rfl) (hF.ev rfl) (by omega) (Eu (x:=((o2.getD (i+k) 0)+((a.getD (i) 0)*(b.getD (k) 0)))+cr) (y:=1000000000) (by omega) (by omega) (by omega))) <| pg (λ_ hF=>lV (j:=i+k) TfE.sl26 (hF.ev rfl) (hF.ev rfl) (by omega) (by omega)) <| PR.nil) ?_;clear hF fa;intro fa hF;refine st rfl (gy (vs:=#[.int .u32 (((((o2.getD (i+k) 0)+((a.getD (i) 0)*(b.getD (k) 0)))+cr) % 1000000000:Nat):Int)]) (v:=.int .u32 (((((o2.getD (i+k) 0)+((a.getD (i) 0)*(b.getD (k) 0)))+cr) % 1000000000:Nat):Int)) (X:=(g1 :: X)) hF hS 0 rfl (by simp) rfl (gI rfl (by omega)) rfl TfE.size154 rfl (Cj (by first|omega|(simp;omega))) ?_);intro w17 hS E18;rw [qL (by first|omega|(simp;omega))] at hS;refine pr hF (pa rfl <| PR.nil) ?_;clear hF fa;intro fa hF;refine gU ?_;refine rZ ?_;refine dh ?_;refine aF ?_;refine pr hF (pg (λ_ hF=>bP (hF.ev rfl) (hF.ev rfl) iq) <| pm rfl <| PR.nil) ?_;clear hF fa;intro fa hF;refine gU ?_;refine dh ?_;exact ⟨_,(by omega),o2.set (i+k) ((((o2.getD (i+k) 0)+((a.getD (i) 0)*(b.getD (k) 0)))+cr) % 1000000000),(((o2.getD (i+k) 0)+((a.getD (i) 0)*(b.getD (k) 0)))+cr) / 1000000000,(k+1),(hF.all ⟨rfl,rfl,rfl,rfl,rfl,rfl,rfl,rfl,rfl,rfl,rfl,rfl,(bD rfl (by omega)),(bD rfl (by omega)),trivial⟩),hS,(E12.trans E18),(by omega),(by simp;omega),(fV hbo2 (by omega)),(by omega),(xX (by omega) (by omega) hv2 (by omega) rfl rfl),rfl⟩
  have hc13p:¬ (((k:Nat):Int)<((b.length:Nat):Int)):=by first|simpa using hc13|exact bZ hc13|exact cO hc13
  refine nX ?_;refine pz ?_;refine pz ?_;refine Du ?_;refine dh ?_;refine aF ?_;refine pr hF (pm rfl <| pm rfl <| pm rfl <| pg (λ_ hF=>jH TfE.sls26 (hF.ev rfl)) <| pg (λ_ hF=>bP (hF.ev rfl) (hF.ev rfl) iq) <| pm rfl <| pg (λ_ hF=>dw TfE.unds152 TfE.und154 (hF.ev rfl) (JV (by omega))) <| pg (λ_ hF=>lV (j:=i+b.length) TfE.sl26 (hF.ev rfl) (hF.ev rfl) (by omega) (by omega)) <| PR.nil) ?_;clear hF fa;intro fa hF;refine st rfl (gy (vs:=#[.int .u32 ((cr:Nat):Int)]) (v:=.int .u32 ((cr:Nat):Int)) (X:=(g1 :: X)) hF hS 0 rfl (by simp) rfl (gI rfl (by omega)) rfl TfE.size154 rfl (Cj (by first|omega|(simp;omega))) ?_);intro w19 hS E20;rw [qL (by first|omega|(simp;omega))] at hS;replace hF:Frm 68 fa [(0,(.slice (A_a) (a.length) (c_a))),(1,(.slice (A_b) (b.length) (c_b))),(4,(.slice (none) (0) (0))),(5,(.slice (some ⟨g1,0,none⟩) (a.length+b.length) (a.length+b.length))),(18,(.slice (A_a) (a.length) (c_a))),(19,(.int .i64 (((a.length:Nat):Int)))),(20,(.int .i64 (((i:Nat):Int)))),(21,(.bool (decide (((i:Nat):Int)<((a.length:Nat):Int))))),(6,(.int .i64 (((i:Nat):Int)))),(7,(.int .u32 (((a.getD (i) 0:Nat):Int)))),(25,(.slice (A_b) (b.length) (c_b))),(26,(.int .i64 (((b.length:Nat):Int)))),(8,(.int .u64 (((cr:Nat):Int)))),(27,(.int .i64 (((k:Nat):Int)))),(28,(.bool (decide (((k:Nat):Int)<((b.length:Nat):Int)))))]:=(hF.all ⟨rfl,rfl,rfl,rfl,rfl,rfl,rfl,rfl,rfl,rfl,rfl,rfl,rfl,rfl,rfl,trivial⟩)
  refine gU ?_;refine rZ ?_;refine dh ?_;refine aF ?_;refine pr hF (pg (λ_ hF=>bP (hF.ev rfl) (hF.ev rfl) iq) <| pm rfl <| PR.nil) ?_;clear hF fa;intro fa hF;refine gU ?_;refine dh ?_;exact ⟨_,(by omega),o2.set (i+b.length) (cr),(i+1),(hF.all ⟨rfl,rfl,rfl,rfl,rfl,rfl,(bD rfl (by omega)),trivial⟩),hS,((E6.trans E12).trans E20),(by omega),(by simp;omega),(fV hbo2 (by omega)),(Bd (by omega) (by rw [show k=b.length by omega] at hv2;exact hv2)),rfl⟩
 have hc7p:¬ (((i:Nat):Int)<((a.length:Nat):Int)):=by first|simpa using hc7|exact bZ hc7|exact cO hc7
 refine nX ?_;refine pz ?_;refine pz ?_;refine Du ?_;refine dh ?_;refine aC ?_;refine aF ?_;refine pr hF (pm rfl <| pa rfl <| PR.nil) ?_;clear hF fa;intro fa hF;refine aj ?_;refine uo ?_;rw [bI (l:=o) (by omega),bI (l:=a) (by omega)] at hv;refine WV hF rfl (kH hF rfl) ?_;exact ⟨_,rfl,⟨o,(Own.mk_ (L:=o) (hS.get 0 rfl) (hS.base 0 rfl) (by omega) (by omega) (rfl)),(hbo),(hv),(ho)⟩,hS.below⟩
end Go.Proofs.YtmniihkenijjpaaGreatDoor
