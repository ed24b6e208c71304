/-
  Rules of the abstract run, plain laws, and what functions answer, for the law RepairDistances.
  Conditions: none.
-/
import Derived.Test.YtmniihkenijjpaaGreatDoorQ8
import Derived.Test.YtmniihkenijjpaaGreatDoorChecked
set_option linter.all false
namespace Go.Proofs.YtmniihkenijjpaaGreatDoor
open Go Go.RowKit Go.Sw
set_option maxRecDepth 100000
set_option maxHeartbeats 8000000
instance agh(l:List Nat):DenI Tryz.prog 230 [.c (bJ l)] (True) (.c (bJ (ah l))):=⟨λhp=>by
 refine gu (by kernel_rfl) (λhl=>?_);simp only [oK,lF,cellsOf,List.length_map,and_true,true_and] at hl
 all_goals refine aI Tryz.func230 rfl ?_
 all_goals first
  |((conv=>whnf);refine Sw.Loop.inv (α:=Nat) (λx=>[(0,.c (bJ (l.take x)))]) (λx=>[]) (λx=>x≤l.length∧∀j,x≤j→l.getD j 0=0) (λx=>x) l.length ?_ ?_ ?_ (λx hx=>?_))
 all_goals (repeat' ((try (conv=>whnf));first
  |(with_reducible refine aJ ?_)
  |(with_reducible refine aK ?_)
  |(with_reducible refine au (λ_=>?_) (λ_=>?_))
  |refine dF ?_ ?_
  |(with_reducible refine bH ?_ ?_)
  |refine Ends.mk ?_))
 all_goals (try refine Pr.mk ?_)
 all_goals first|(show SubE _ _;repeat' (first|exact trivial|refine And.intro ?_ ?_))|(show SubB _ _;repeat' (first|exact trivial|refine And.intro ?_ ?_))|skip
 all_goals (try simp (disch:=omega) only [List.length_map,List.length_take,Int.toNat_natCast,List.length_replicate,bY,dM,wu64,Dp,CQ,Wi,kN,kQ] at *)
 all_goals first
  |(rw [List.take_length];rfl)
  |exact ⟨Nat.le_refl _,λj hj=>getD_none hj⟩
  |exact wC hx (.inl (by omega))
  |exact wC hx (.inr (by omega))
  |((conv=>whnf);exact ⟨x-1,⟨⟨adJ hx.1 (by omega) (by simp only [Option.getD_some];omega),trivial⟩,⟨⟩,⟨by omega,yh hx.2 (take_zero (by omega) (by omega))⟩,by show x-1<x;omega⟩⟩)
  |((repeat' apply And.intro)<;>first|omega|(simp;done)|(simp;omega))⟩
instance afi(l:List Nat):DenI Tryz.prog 142 [.c (bJ l)] (True) (.c (bJ (ah l))):=⟨λhp=>by
 refine gu (by kernel_rfl) (λhl=>?_);simp only [oK,lF,cellsOf,List.length_map,and_true,true_and] at hl
 all_goals refine aI Tryz.func142 rfl ?_
 all_goals first
  |((conv=>whnf);refine Sw.Loop.inv (α:=Nat) (λx=>[(0,.c (bJ (l.take x)))]) (λx=>[]) (λx=>x≤l.length∧∀j,x≤j→l.getD j 0=0) (λx=>x) l.length ?_ ?_ ?_ (λx hx=>?_))
 all_goals (repeat' ((try (conv=>whnf));first
  |(with_reducible refine aJ ?_)
  |(with_reducible refine aK ?_)
  |(with_reducible refine au (λ_=>?_) (λ_=>?_))
  |refine dF ?_ ?_
  |(with_reducible refine bH ?_ ?_)
  |refine Ends.mk ?_))
 all_goals (try refine Pr.mk ?_)
 all_goals first|(show SubE _ _;repeat' (first|exact trivial|refine And.intro ?_ ?_))|(show SubB _ _;repeat' (first|exact trivial|refine And.intro ?_ ?_))|skip
 all_goals (try simp (disch:=omega) only [List.length_map,List.length_take,Int.toNat_natCast,List.length_replicate,bY,dM,wu64,Dp,CQ,Wi,kN,kQ] at *)
 all_goals first
  |(rw [List.take_length];rfl)
  |exact ⟨Nat.le_refl _,λj hj=>getD_none hj⟩
  |exact wC hx (.inl (by omega))
  |exact wC hx (.inr (by omega))
  |((conv=>whnf);exact ⟨x-1,⟨⟨adJ hx.1 (by omega) (by simp only [Option.getD_some];omega),trivial⟩,⟨⟩,⟨by omega,yh hx.2 (take_zero (by omega) (by omega))⟩,by show x-1<x;omega⟩⟩)
  |((repeat' apply And.intro)<;>first|omega|(simp;done)|(simp;omega))⟩
instance ael(neg:Bool)(l:List Nat):DenI Tryz.prog 160 [.bool neg,.c (bJ l)] (Lb l) (Z (dW neg (val l))):=⟨λhp=>by
 refine gu (by kernel_rfl) (λhl=>?_);simp only [oK,lF,cellsOf,List.length_map,and_true,true_and] at hl
 all_goals refine aI Tryz.func160 rfl ?_
 all_goals first
  |((conv=>whnf);refine Sw.Loop.inv (α:=Nat) (λx=>[(0,.bool neg),(1,.c (bJ l)),(4,.ptr 4 0),(5,.int .i64 x)]) (λx=>[(4,.var [.v (.bool false),.sl 1 []])]) (λx=>x≤l.length∧∀j,x≤j→l.getD j 0=0) (λx=>x) l.length ?_ ?_ ?_ (λx hx=>?_))
 all_goals (repeat' ((try (conv=>whnf));first
  |(with_reducible refine aJ ?_)
  |(with_reducible refine aK ?_)
  |(with_reducible refine au (λ_=>?_) (λ_=>?_))
  |refine OnB.mk (λ_=>?_) (λ_=>?_)
  |refine dF ?_ ?_
  |(with_reducible refine bH ?_ ?_)
  |refine Ends.mk ?_))
 all_goals (try refine Pr.mk ?_)
 all_goals first|(show SubE _ _;repeat' (first|exact trivial|refine And.intro ?_ ?_))|(show SubB _ _;repeat' (first|exact trivial|refine And.intro ?_ ?_))|skip
 all_goals (try rfl)
 all_goals (try simp (disch:=omega) only [List.length_map,List.length_take,Int.toNat_natCast,List.length_replicate,bY,dM,wu64,Dp,CQ,Wi,kN,kQ] at *)
 all_goals first
  |(subst neg;exact sg1 hp hx (.inl (by omega)) rfl (by simp only [Option.getD_some];omega) rfl)
  |(subst neg;exact sg0 hp hx (.inl (by omega)) rfl (by simp only [Option.getD_some];omega))
  |(subst neg;exact sg1 hp hx (.inr (by omega)) rfl (by simp only [Option.getD_some];omega) rfl)
  |(subst neg;exact sg0 hp hx (.inr (by omega)) rfl (by simp only [Option.getD_some];omega))
  |exact ⟨Nat.le_refl _,λj hj=>getD_none hj⟩
  |rfl
  |((conv=>whnf);exact ⟨x-1,⟨⟨rfl,rfl,rfl,adC (by omega) (by omega),trivial⟩,⟨rfl,trivial⟩,⟨by omega,yh hx.2 (by omega)⟩,by show x-1<x;omega⟩⟩)
  |((repeat' apply And.intro)<;>first|omega|(simp;done)|(simp;omega))⟩
instance acD(neg:Bool)(l:List Nat):DenI Tryz.prog 107 [.bool neg,.c (bJ l)] (Lb l) (Z (dW neg (val l))):=⟨λhp=>by
 refine gu (by kernel_rfl) (λhl=>?_);simp only [oK,lF,cellsOf,List.length_map,and_true,true_and] at hl
 all_goals refine aI Tryz.func107 rfl ?_
 all_goals (repeat' ((try (conv=>whnf));first
  |refine aG ?_
  |(with_reducible refine aJ ?_)
  |(with_reducible refine aK ?_)
  |refine OnB.mk (λ_=>?_) (λ_=>?_)
  |refine Ends.mk ?_))
 all_goals first
  |(subst neg;exact zE1 hp (by rw [List.length_map]))
  |(subst neg;exact zE0 hp)⟩
instance acE(a b:List Nat):DenI Tryz.prog 198 [.c (bJ a),.c (bJ b)] (Lb a∧Lb b) (.int .i64 (eU (val a) (val b))):=⟨λhp=>by
 refine gu (by kernel_rfl) (λhl=>?_);simp only [oK,lF,cellsOf,List.length_map,and_true,true_and] at hl;have ha:=fJ a;have hb:=fJ b
 all_goals refine aI Tryz.func198 rfl ?_
 all_goals (repeat' ((try (conv=>whnf));first
  |refine aG ?_
  |(with_reducible refine au (λ_=>?_) (λ_=>?_))
  |(with_reducible refine bG (λ_=>?_) (λ_=>?_))
  |refine Ends.mk ?_))
 all_goals first
  |((conv=>whnf);refine Sw.Loop.inv (α:=Nat) (λx=>[(0,.c (bJ (ah a))),(1,.c (bJ (ah b))),(5,.int .i64 ((x:Int)-1))]) (λx=>[]) (λx=>x≤(ah a).length∧∀j,x≤j→(ah a).getD j 0=(ah b).getD j 0) (λx=>x) ((ah a).length) ?_ ?_ ?_ (λx hx=>?_))
  |skip
 all_goals (repeat' ((try (conv=>whnf));first
  |(with_reducible refine au (λ_=>?_) (λ_=>?_))
  |refine Drw.mk (by kernel_rfl) ?_
  |(with_reducible refine bH ?_ ?_)
  |refine Ends.mk ?_))
 all_goals (try refine Pr.mk ?_)
 all_goals first|(show SubE _ _;repeat' (first|exact trivial|refine And.intro ?_ ?_))|(show SubB _ _;repeat' (first|exact trivial|refine And.intro ?_ ?_))|skip
 all_goals (try rfl)
 all_goals (try simp (disch:=omega) only [List.length_map,List.length_take,Int.toNat_natCast,List.length_replicate,bY,dM,wu64,Dp,CQ,Wi,kN,kQ] at *)
 all_goals (try simp only [← eP a,← eP b])
 all_goals first
  |exact Nj (fD hp.1) (fD hp.2) (by omega)
  |exact MJ (fD hp.1) (fD hp.2) (by omega)
  |exact Ze (fD hp.1) (fD hp.2) hx (by omega) (by omega) (by omega)
  |exact Y8 (fD hp.1) (fD hp.2) hx (by omega) (by omega) (by omega)
  |exact ZX hx (by omega) (by omega)
  |exact fz2 (by omega)
  |((conv=>whnf);exact ⟨x-1,⟨⟨rfl,rfl,BK (by omega) (by omega),trivial⟩,⟨⟩,⟨by omega,agree_step hx.2 (by omega)⟩,by show x-1<x;omega⟩⟩)
  |rfl
  |((repeat' apply And.intro)<;>first|omega|(simp;done)|(simp;omega))⟩
instance aao(a b:List Nat):DenI Tryz.prog 106 [.c (bJ a),.c (bJ b)] (CanL a∧CanL b) (.int .i64 (eU (val a) (val b))):=⟨λhp=>by
 refine gu (by kernel_rfl) (λhl=>?_);simp only [oK,lF,cellsOf,List.length_map,and_true,true_and] at hl
 all_goals refine aI Tryz.func106 rfl ?_
 all_goals (repeat' ((try (conv=>whnf));first
  |refine aG ?_
  |refine ak ?_ ?_
  |(with_reducible refine aJ ?_)
  |(with_reducible refine aK ?_)
  |(with_reducible refine au (λ_=>?_) (λ_=>?_))
  |(with_reducible refine bG (λ_=>?_) (λ_=>?_))
  |refine OnB.mk (λ_=>?_) (λ_=>?_)
  |refine aU ?_ ?_
  |refine Drw.mk (by kernel_rfl) ?_
  |refine dH ?_ ?_
  |refine dF ?_ ?_
  |(with_reducible refine bH ?_ ?_)
  |(with_reducible refine bF ?_)
  |(with_reducible refine bM ?_)
  |refine Ends.mk ?_))
 all_goals (try refine Pr.mk ?_)
 all_goals first
  |((conv=>whnf);refine Sw.Loop.inv (α:=Nat) (λx=>[(0,.c (bJ (a))),(1,.c (bJ (b))),(5,.int .i64 ((x:Int)-1))]) (λx=>[]) (λx=>x≤(a).length∧∀j,x≤j→(a).getD j 0=(b).getD j 0) (λx=>x) ((a).length) ?_ ?_ ?_ (λx hx=>?_))
  |skip
 all_goals (repeat' ((try (conv=>whnf));first
  |refine aG ?_
  |refine ak ?_ ?_
  |(with_reducible refine aJ ?_)
  |(with_reducible refine aK ?_)
  |(with_reducible refine au (λ_=>?_) (λ_=>?_))
  |(with_reducible refine bG (λ_=>?_) (λ_=>?_))
  |refine OnB.mk (λ_=>?_) (λ_=>?_)
  |refine aU ?_ ?_
  |refine Drw.mk (by kernel_rfl) ?_
  |refine dH ?_ ?_
  |refine dF ?_ ?_
  |(with_reducible refine bH ?_ ?_)
  |(with_reducible refine bF ?_)
  |(with_reducible refine bM ?_)
  |refine Ends.mk ?_))
 all_goals (try refine Pr.mk ?_)
 all_goals first|(show SubE _ _;repeat' (first|exact trivial|refine And.intro ?_ ?_))|(show SubB _ _;repeat' (first|exact trivial|refine And.intro ?_ ?_))|skip
 all_goals (try rfl)
 all_goals (try simp (disch:=omega) only [List.length_map,List.length_take,Int.toNat_natCast,List.length_replicate,bY,dM,wu64,Dp,CQ,Wi,kN,kQ] at *)
 all_goals first
  |exact hp
  |exact Nj hp.1 hp.2 (by omega)
  |exact MJ hp.1 hp.2 (by omega)
  |exact Ze hp.1 hp.2 hx (by omega) (by omega) (by omega)
  |exact Y8 hp.1 hp.2 hx (by omega) (by omega) (by omega)
  |exact ZX hx (by omega) (by omega)
  |exact fz2 (by omega)
  |exact aa1 (by omega)
  |((conv=>whnf);exact ⟨x-1,⟨⟨rfl,rfl,BK (by omega) (by omega),trivial⟩,⟨⟩,⟨by omega,agree_step hx.2 (by omega)⟩,by show x-1<x;omega⟩⟩)
  |(rw [bY (by omega) (by omega)])
  |rfl
  |((repeat' apply And.intro)<;>first|omega|(simp;done)|(simp;omega))
  |skip⟩
instance ae5(a b:List Nat):DenI Tryz.prog 161 [.c (bJ a),.c (bJ b)] (a.length≤1000000000000∧b.length≤1000000000000∧Lb a∧Lb b) (.c (bJ (pad (a.length+b.length) (val a*val b)))):=⟨λhp=>by
 refine gu (by kernel_rfl) (λhl=>?_);simp only [oK,lF,cellsOf,List.length_map,and_true,true_and] at hl
 all_goals refine aI Tryz.func161 rfl ?_
 all_goals (repeat' ((try (conv=>whnf));first
  |refine dH ?_ ?_))
 all_goals (try refine Pr.mk ?_)
 all_goals first
  |((conv=>whnf);refine Sw.Loop.inv (α:=List Nat × Nat) (λx=>[(1,.c (bJ b)),(5,.gs 17 (a.length+b.length)),(18,.c (bJ a)),(19,.int .i64 a.length),(20,.int .i64 (x.2:Nat))]) (λx=>[(17,.grow 154 1 (x.1.map λx=>[.v (u32 x)]))]) (λx=>x.2≤a.length∧x.1.length=a.length+b.length∧Lb x.1∧val (x.1.take (x.2+b.length))=val (a.take x.2)*val b) (λx=>a.length-x.2) (List.replicate (a.length+b.length) 0,0) ?_ ?_ ?_ (λx hx=>?_))
  |skip
 all_goals (repeat' ((try (conv=>whnf));first
  |(with_reducible refine au (λ_=>?_) (λ_=>?_))
  |refine aU ?_ ?_
  |(with_reducible refine bH ?_ ?_)
  |refine Ends.mk ?_))
 all_goals (try refine Pr.mk ?_)
 all_goals first
  |((conv=>whnf);refine Sw.Loop.inv (α:=List Nat × Nat × Nat) (λy=>[(1,.c (bJ b)),(5,.gs 17 (a.length+b.length)),(6,.int .i64 (x.2:Nat)),(7,.int .u32 (a.getD x.2 0:Nat)),(8,.int .u64 (y.2.1:Nat)),(18,.c (bJ a)),(19,.int .i64 a.length),(20,.int .i64 (x.2:Nat)),(25,.c (bJ b)),(26,.int .i64 b.length),(27,.int .i64 (y.2.2:Nat))]) (λy=>[(17,.grow 154 1 (y.1.map λx=>[.v (u32 x)]))]) (λy=>y.2.2≤b.length∧y.1.length=a.length+b.length∧Lb y.1∧y.2.1<1000000000∧val (y.1.take (x.2+b.length))+1000000000 ^ (x.2+y.2.2)*y.2.1=val (a.take x.2)*val b+1000000000 ^ x.2*(a.getD x.2 0*val (b.take y.2.2))) (λy=>b.length-y.2.2) (x.1,0,0) ?_ ?_ ?_ (λy hy=>?_))
  |skip
 all_goals (repeat' ((try (conv=>whnf));first
  |(with_reducible refine au (λ_=>?_) (λ_=>?_))
  |refine aU ?_ ?_
  |(with_reducible refine bH ?_ ?_)))
 all_goals (try refine Pr.mk ?_)
 all_goals first|(show SubE _ _;repeat' (first|exact trivial|refine And.intro ?_ ?_))|(show SubB _ _;repeat' (first|exact trivial|refine And.intro ?_ ?_))|skip
 all_goals (try rfl)
 all_goals (try simp (disch:=omega) only [List.length_map,List.length_replicate,Int.toNat_natCast,bY,zN] at *)
 all_goals first
  |omega
  |rfl
  |exact sQ _ _
  |exact ⟨by omega,by simp,iU _,Oi _ _ _ _⟩
  |exact ⟨by omega,hx.2.1,hx.2.2.1,by omega,by simp [val,hx.2.2.2]⟩
  |exact abj hx.2.2.1 hx.2.1 (DF hx.2.1 (by omega) hx.2.2.2)
  |(have ga:=hp.2.2.1.getD x.2;have gb:=hp.2.2.2.getD y.2.2;have go:=hy.2.2.1.getD (x.2+y.2.2);obtain ⟨c1,c2⟩:=AZ ga gb go hy.2.2.2.1;obtain ⟨h1,h2,h3,h4,h5⟩:=hy;(conv=>whnf);exact ⟨(y.1.set (x.2+y.2.2) ((y.1.getD (x.2+y.2.2) 0+a.getD x.2 0*b.getD y.2.2 0+y.2.1) % 1000000000),(y.1.getD (x.2+y.2.2) 0+a.getD x.2 0*b.getD y.2.2 0+y.2.1) / 1000000000,y.2.2+1),⟨⟨rfl,rfl,rfl,rfl,iS (by (try simp (disch:=omega) only [dM,wu64,bY,kN,kQ,zN])<;>omega),rfl,rfl,rfl,rfl,rfl,aX (by omega),trivial⟩,⟨yt (by (try simp (disch:=omega) only [dM,wu64,bY,kN,kQ,zN])<;>omega) (by (try simp (disch:=omega) only [dM,wu64,bY,kN,kQ,zN])<;>omega),trivial⟩,⟨by show y.2.2+1≤_;omega,by simp only [List.length_set];exact h2,eG h3 (Nat.mod_lt _ (by decide)),c2,vJ (by omega) (by omega) h5 rfl rfl rfl⟩,by show _-(y.2.2+1)<_-y.2.2;omega⟩⟩)
  |(obtain ⟨h1,h2,h3,h4,h5⟩:=hy;(conv=>whnf);exact ⟨(y.1.set (x.2+b.length) y.2.1,x.2+1),⟨⟨rfl,rfl,rfl,rfl,aX (by omega),trivial⟩,⟨yt (by (try simp (disch:=omega) only [dM,wu64,bY,kN,kQ,zN])<;>omega) (by (try simp (disch:=omega) only [dM,wu64,bY,kN,kQ,zN])<;>omega),trivial⟩,⟨by show x.2+1≤_;omega,by simp only [List.length_set];exact h2,eG h3 h4,yF (by omega) (by rw [show y.2.2=b.length by omega] at h5;exact h5)⟩,by show _-(x.2+1)<_-x.2;omega⟩⟩)⟩
instance ac0(a b:List Nat):DenI Tryz.prog 108 [.c (bJ a),.c (bJ b)] (a.length≤1000000000000∧b.length≤1000000000000∧Lb a∧Lb b) (.c (bJ (lim (val a*val b)))):=⟨λhp=>by
 refine gu (by kernel_rfl) (λhl=>?_);simp only [oK,lF,cellsOf,List.length_map,and_true,true_and] at hl
 all_goals refine aI Tryz.func108 rfl ?_
 all_goals (repeat' ((try (conv=>whnf));first
  |refine aG ?_
  |refine ak ?_ ?_
  |(with_reducible refine aJ ?_)
  |(with_reducible refine aK ?_)
  |(with_reducible refine au (λ_=>?_) (λ_=>?_))
  |(with_reducible refine bG (λ_=>?_) (λ_=>?_))
  |refine OnB.mk (λ_=>?_) (λ_=>?_)
  |refine aU ?_ ?_
  |refine Drw.mk (by kernel_rfl) ?_
  |refine dH ?_ ?_
  |refine dF ?_ ?_
  |(with_reducible refine bH ?_ ?_)
  |(with_reducible refine bF ?_)
  |(with_reducible refine bM ?_)
  |refine Ends.mk ?_))
 all_goals (try refine Pr.mk ?_)
 all_goals first
  |((conv=>whnf);refine Sw.Loop.inv (α:=List Nat × Nat) (λx=>[(0,.c (bJ a)),(1,.c (bJ b)),(5,.gs 14 (a.length+b.length)),(6,.int .i64 (x.2:Nat))]) (λx=>[(14,.grow 154 1 (x.1.map λx=>[.v (u32 x)]))]) (λx=>x.2≤a.length∧x.1.length=a.length+b.length∧Lb x.1∧val (x.1.take (x.2+b.length))=val (a.take x.2)*val b) (λx=>a.length-x.2) (List.replicate (a.length+b.length) 0,0) ?_ ?_ ?_ (λx hx=>?_))
  |skip
 all_goals (repeat' ((try (conv=>whnf));first
  |refine aG ?_
  |refine ak ?_ ?_
  |(with_reducible refine aJ ?_)
  |(with_reducible refine aK ?_)
  |(with_reducible refine au (λ_=>?_) (λ_=>?_))
  |(with_reducible refine bG (λ_=>?_) (λ_=>?_))
  |refine OnB.mk (λ_=>?_) (λ_=>?_)
  |refine aU ?_ ?_
  |refine Drw.mk (by kernel_rfl) ?_
  |refine dH ?_ ?_
  |refine dF ?_ ?_
  |(with_reducible refine bH ?_ ?_)
  |(with_reducible refine bF ?_)
  |(with_reducible refine bM ?_)
  |refine Ends.mk ?_))
 all_goals (try refine Pr.mk ?_)
 all_goals first
  |((conv=>whnf);refine Sw.Loop.inv (α:=List Nat × Nat × Nat) (λy=>[(0,.c (bJ a)),(1,.c (bJ b)),(5,.gs 14 (a.length+b.length)),(6,.int .i64 (x.2:Nat)),(7,.int .u64 (y.2.1:Nat)),(8,.int .i64 (y.2.2:Nat))]) (λy=>[(14,.grow 154 1 (y.1.map λx=>[.v (u32 x)]))]) (λy=>y.2.2≤b.length∧y.1.length=a.length+b.length∧Lb y.1∧y.2.1<1000000000∧val (y.1.take (x.2+b.length))+1000000000 ^ (x.2+y.2.2)*y.2.1=val (a.take x.2)*val b+1000000000 ^ x.2*(a.getD x.2 0*val (b.take y.2.2))) (λy=>b.length-y.2.2) (x.1,0,0) ?_ ?_ ?_ (λy hy=>?_))
  |skip
 all_goals (repeat' ((try (conv=>whnf));first
  |refine aG ?_
  |refine ak ?_ ?_
  |(with_reducible refine aJ ?_)
  |(with_reducible refine aK ?_)
  |(with_reducible refine au (λ_=>?_) (λ_=>?_))
  |(with_reducible refine bG (λ_=>?_) (λ_=>?_))
  |refine OnB.mk (λ_=>?_) (λ_=>?_)
  |refine aU ?_ ?_
  |refine Drw.mk (by kernel_rfl) ?_
  |refine dH ?_ ?_
  |refine dF ?_ ?_
  |(with_reducible refine bH ?_ ?_)
  |(with_reducible refine bF ?_)
  |(with_reducible refine bM ?_)
  |refine Ends.mk ?_))
 all_goals (try refine Pr.mk ?_)
 all_goals first|(show SubE _ _;repeat' (first|exact trivial|refine And.intro ?_ ?_))|(show SubB _ _;repeat' (first|exact trivial|refine And.intro ?_ ?_))|skip
 all_goals (try rfl)
 all_goals (try simp (disch:=omega) only [List.length_map,List.length_replicate,Int.toNat_natCast,bY,zN] at *)
 all_goals first
  |omega
  |rfl
  |exact sQ _ _
  |(constructor<;>omega)
  |exact aX (by omega)
  |(simp (disch:=omega) only [List.length_map,bY];omega)
  |exact ⟨by omega,by simp,iU _,Oi _ _ _ _⟩
  |exact ⟨by omega,hx.2.1,hx.2.2.1,by omega,by simp [val,hx.2.2.2]⟩
  |exact lE (by rw [← DF hx.2.1 (by omega) hx.2.2.2,kC _ hx.2.2.1])
  |(have ga:=hp.2.2.1.getD x.2;have gb:=hp.2.2.2.getD y.2.2;have go:=hy.2.2.1.getD (x.2+y.2.2);obtain ⟨c1,c2⟩:=AZ ga gb go hy.2.2.2.1;obtain ⟨h1,h2,h3,h4,h5⟩:=hy;(conv=>whnf);exact ⟨(y.1.set (x.2+y.2.2) ((y.1.getD (x.2+y.2.2) 0+a.getD x.2 0*b.getD y.2.2 0+y.2.1) % 1000000000),(y.1.getD (x.2+y.2.2) 0+a.getD x.2 0*b.getD y.2.2 0+y.2.1) / 1000000000,y.2.2+1),⟨⟨rfl,rfl,rfl,rfl,iS (by (try simp (disch:=omega) only [dM,wu64,bY,kN,kQ,zN])<;>omega),aX (by omega),trivial⟩,⟨yt (by (try simp (disch:=omega) only [dM,wu64,bY,kN,kQ,zN])<;>omega) (by (try simp (disch:=omega) only [dM,wu64,bY,kN,kQ,zN])<;>omega),trivial⟩,⟨by show y.2.2+1≤_;omega,by simp only [List.length_set];exact h2,eG h3 (Nat.mod_lt _ (by decide)),c2,vJ (by omega) (by omega) h5 rfl rfl rfl⟩,by show _-(y.2.2+1)<_-y.2.2;omega⟩⟩)
  |(obtain ⟨h1,h2,h3,h4,h5⟩:=hy;(conv=>whnf);exact ⟨(y.1.set (x.2+b.length) y.2.1,x.2+1),⟨⟨rfl,rfl,rfl,aX (by omega),trivial⟩,⟨yt (by (try simp (disch:=omega) only [dM,wu64,bY,kN,kQ,zN])<;>omega) (by (try simp (disch:=omega) only [dM,wu64,bY,kN,kQ,zN])<;>omega),trivial⟩,⟨by show x.2+1≤_;omega,by simp only [List.length_set];exact h2,eG h3 h4,yF (by omega) (by rw [show y.2.2=b.length by omega] at h5;exact h5)⟩,by show _-(x.2+1)<_-x.2;omega⟩⟩)
  |skip⟩
instance adb(l:List Nat):DenI Tryz.prog 154 [.c (bJ l)] (l.length≤1000000000000∧Lb l∧val l<18446744073709551616) (.int .u64 ((val l:Nat):Int)):=⟨λhp=>by
 refine gu (by kernel_rfl) (λhl=>?_);simp only [oK,lF,cellsOf,List.length_map,and_true,true_and] at hl
 all_goals refine aI Tryz.func154 rfl ?_
 all_goals (repeat' ((try (conv=>whnf));first
  |refine aG ?_
  |refine ak ?_ ?_
  |(with_reducible refine aJ ?_)
  |(with_reducible refine aK ?_)
  |(with_reducible refine au (λ_=>?_) (λ_=>?_))
  |(with_reducible refine bG (λ_=>?_) (λ_=>?_))
  |refine OnB.mk (λ_=>?_) (λ_=>?_)
  |refine aU ?_ ?_
  |refine Drw.mk (by kernel_rfl) ?_
  |refine dH ?_ ?_
  |refine dF ?_ ?_
  |(with_reducible refine bH ?_ ?_)
  |(with_reducible refine bF ?_)
  |(with_reducible refine bM ?_)
  |refine Ends.mk ?_))
 all_goals (try refine Pr.mk ?_)
 all_goals first
  |((conv=>whnf);refine Sw.Loop.inv (α:=Nat) (λx=>[(0,.c (bJ l)),(3,.int .u64 (val (l.drop x):Nat)),(4,.int .i64 ((x:Int)-1))]) (λx=>[]) (λx=>x≤l.length) (λx=>x) l.length ?_ ?_ ?_ (λx hx=>?_))
  |skip
 all_goals (repeat' ((try (conv=>whnf));first
  |refine aG ?_
  |refine ak ?_ ?_
  |(with_reducible refine aJ ?_)
  |(with_reducible refine aK ?_)
  |(with_reducible refine au (λ_=>?_) (λ_=>?_))
  |(with_reducible refine bG (λ_=>?_) (λ_=>?_))
  |refine OnB.mk (λ_=>?_) (λ_=>?_)
  |refine aU ?_ ?_
  |refine Drw.mk (by kernel_rfl) ?_
  |refine dH ?_ ?_
  |refine dF ?_ ?_
  |(with_reducible refine bH ?_ ?_)
  |(with_reducible refine bF ?_)
  |(with_reducible refine bM ?_)
  |refine Ends.mk ?_))
 all_goals (try refine Pr.mk ?_)
 all_goals first|(show SubE _ _;repeat' (first|exact trivial|refine And.intro ?_ ?_))|(show SubB _ _;repeat' (first|exact trivial|refine And.intro ?_ ?_))|skip
 all_goals (try rfl)
 all_goals (try simp (disch:=omega) only [List.length_map,List.length_take,Int.toNat_natCast,List.length_replicate,bY,dM,wu64,Dp,CQ,Wi,kN,kQ] at *)
 all_goals first
  |omega
  |rfl
  |exact sQ _ _
  |(constructor<;>omega)
  |(rw [gI (Nat.le_refl _)];rfl)
  |(refine iE ?_;rw [show x=0 by omega,List.drop_zero])
  |(have hd:=pR (l:=l) (k:=x) (by omega) hx;have hle:=yR l (x-1);have hg:=hp.2.1.getD (x-1);((conv=>whnf);exact ⟨x-1,⟨⟨rfl,iS (by (try simp (disch:=omega) only [dM,wu64,bY,kN,kQ,CQ,zN,QC,QI,QD,QF,QG])<;>omega),BK (by omega) (by omega),trivial⟩,⟨⟩,(by omega),by show x-1<x;omega⟩⟩))
  |skip⟩
instance adq(n:Nat):DenI Tryz.prog 117 [.int .u64 (n:Nat)] (n<18446744073709551616) (.c (bJ (lim n))):=⟨λhp=>by
 refine gu (by kernel_rfl) (λhl=>?_);simp only [oK,lF,cellsOf,List.length_map,and_true,true_and] at hl
 all_goals refine aI Tryz.func117 rfl ?_
 all_goals first
  |((conv=>whnf);refine Sw.Loop.ghost 3 11 154 1 ?_ rfl rfl rfl (by decide))
 all_goals first
  |((conv=>whnf);refine Sw.Loop.inv (α:=List Nat × Nat) (λx=>[(0,.int .u64 (x.2:Nat)),(3,.gs 11 x.1.length)]) (λx=>[(11,.grow 154 1 (x.1.map λx=>[.v (u32 x)]))]) (λx=>x.2≤n∧lim n=x.1++lim x.2) (λx=>x.2) ([],n) ?_ ?_ ?_ (λx hx=>?_))
 all_goals (repeat' ((try (conv=>whnf));first
  |(with_reducible refine au (λ_=>?_) (λ_=>?_))
  |refine aU ?_ ?_
  |refine Ends.mk ?_))
 all_goals (try refine Pr.mk ?_)
 all_goals first|(show SubE _ _;repeat' (first|exact trivial|refine And.intro ?_ ?_))|(show SubB _ _;repeat' (first|exact trivial|refine And.intro ?_ ?_))|skip
 all_goals (try rfl)
 all_goals (try simp only [List.length_map,List.length_replicate,Int.toNat_natCast] at *)
 all_goals first
  |omega
  |exact ⟨Nat.le_refl _,rfl⟩
  |exact Ph hx (by omega)
  |(have:=Qc hp hx (by omega);simp only [List.length_append,List.length_map,List.length_cons,List.length_nil];omega)
  |(have h2:=hx.1;((conv=>whnf);exact ⟨(x.1++[x.2 % 1000000000],x.2 / 1000000000),⟨⟨iS (by (try simp (disch:=omega) only [dM,wu64,bY,kN,kQ,CQ,zN,QC,QI,QD,QF,QG])<;>omega),gsE (by simp),trivial⟩,⟨JF (by (try simp (disch:=omega) only [dM,wu64,bY,kN,kQ,CQ,zN,QC,QI,QD,QF,QG])<;>omega),trivial⟩,(LK hx (by omega)),by show x.2 / 1000000000<x.2;omega⟩⟩))⟩
instance afd(n:Nat):DenI Tryz.prog 196 [.int .u64 (n:Nat)] (n<18446744073709551616) (.c (bJ (pad 3 n))):=⟨λhp=>by
 refine gu (by kernel_rfl) (λhl=>?_);simp only [oK,lF,cellsOf,List.length_map,and_true,true_and] at hl
 all_goals refine aI Tryz.func196 rfl ?_
 all_goals (repeat' ((try (conv=>whnf));first
  |refine aU ?_ ?_
  |refine Ends.mk ?_))
 all_goals (try refine Pr.mk ?_)
 all_goals first
  |omega
  |exact PK (by omega) (by (try simp (disch:=omega) only [dM,wu64,bY,kN,kQ,CQ,zN,QC,QI,QD,QF,QG])<;>omega) (by (try simp (disch:=omega) only [dM,wu64,bY,kN,kQ,CQ,zN,QC,QI,QD,QF,QG])<;>omega) (by (try simp (disch:=omega) only [dM,wu64,bY,kN,kQ,CQ,zN,QC,QI,QD,QF,QG])<;>omega)⟩
instance afv(a:Int):DenI Tryz.prog 195 [Z a] (True) (.tup [.int .u64 ((if sz a≤2 then a.natAbs else 0:Nat):Int),.bool (decide (sz a≤2))]):=⟨λhp=>by
 refine gu (by kernel_rfl) (λhl=>?_);simp only [oK,lF,cellsOf,List.length_map,and_true,true_and] at hl
 all_goals refine aI Tryz.func195 rfl ?_
 all_goals (repeat' ((try (conv=>whnf));first
  |(with_reducible refine au (λ_=>?_) (λ_=>?_))
  |refine Drw.mk (by kernel_rfl) ?_
  |(with_reducible refine bH ?_ ?_)
  |refine Ends.mk ?_))
 all_goals (try refine Pr.mk ?_)
 all_goals (try simp only [List.length_map,List.length_replicate,Int.toNat_natCast] at *)
 all_goals (have g0:=(aQ a.natAbs).getD 0;have g1:=(aQ a.natAbs).getD 1)
 all_goals first
  |omega
  |exact ab1 (by omega)
  |exact aaf (by omega) (by (try simp (disch:=omega) only [dM,wu64,bY,kN,kQ,CQ,zN,QC,QI,QD,QF,QG])<;>omega)
  |exact aaE (by omega) (by (try simp (disch:=omega) only [dM,wu64,bY,kN,kQ,CQ,zN,QC,QI,QD,QF,QG])<;>omega)
  |exact abf (by omega)⟩
instance ac8(a:List Nat)(b:Nat):DenI Tryz.prog 231 [.c (bJ a),.int .u32 (b:Nat)] (a.length≤1000000000000∧Lb a∧0<b∧b<1000000000) (.tup [.c (bJ (pad a.length (val a / b))),.c (bJ [val a % b])]):=⟨λhp=>by
 refine gu (by kernel_rfl) (λhl=>?_);simp only [oK,lF,cellsOf,List.length_map,and_true,true_and] at hl
 all_goals refine aI Tryz.func231 rfl ?_
 all_goals (repeat' ((try (conv=>whnf));first
  |refine dH ?_ ?_))
 all_goals (try refine Pr.mk ?_)
 all_goals first
  |((conv=>whnf);refine Sw.Loop.inv (α:=List Nat × Nat × Nat) (λx=>[(0,.c (bJ a)),(1,.int .u32 (b:Nat)),(6,.gs 12 a.length),(7,.int .u64 (x.2.1:Nat)),(8,.int .i64 ((x.2.2:Int)-1))]) (λx=>[(12,.grow 154 1 (x.1.map λx=>[.v (u32 x)]))]) (λx=>x.2.2≤a.length∧x.1.length=a.length∧Lb x.1∧x.2.1<b∧val (a.drop x.2.2)=b*val (x.1.drop x.2.2)+x.2.1) (λx=>x.2.2) (List.replicate a.length 0,0,a.length) ?_ ?_ ?_ (λx hx=>?_))
  |skip
 all_goals (repeat' ((try (conv=>whnf));first
  |(with_reducible refine au (λ_=>?_) (λ_=>?_))
  |refine aU ?_ ?_
  |refine Drw.mk (by kernel_rfl) ?_
  |(with_reducible refine bH ?_ ?_)
  |refine Ends.mk ?_))
 all_goals (try refine Pr.mk ?_)
 all_goals first|(show SubE _ _;repeat' (first|exact trivial|refine And.intro ?_ ?_))|(show SubB _ _;repeat' (first|exact trivial|refine And.intro ?_ ?_))|skip
 all_goals (try rfl)
 all_goals (try simp (disch:=omega) only [List.length_map,List.length_take,Int.toNat_natCast,List.length_replicate,bY,dM,wu64,Dp,CQ,Wi,kN,kQ] at *)
 all_goals first
  |omega
  |rfl
  |exact sQ _ _
  |exact ⟨by omega,by simp,iU _,by omega,by rw [gI (Nat.le_refl _),gI (by simp)];simp⟩
  |(have h2:=hx.2.2.2.2;rw [show x.2.2=0 by omega] at h2;exact YW hp.2.2.1 hx.2.2.2.1 hx.2.1 hx.2.2.1 h2)
  |(have ga:=hp.2.1.getD (x.2.2-1);have c4:=Int.natCast_nonneg ((x.2.1*1000000000+a.getD (x.2.2-1) 0) / b);obtain ⟨c1,c2,c3⟩:=En hx.2.2.2.1 hp.2.2.2 ga (t:=_) rfl;obtain ⟨h1,h2,h3,h4,h5⟩:=hx;((conv=>whnf);exact ⟨(x.1.set (x.2.2-1) ((x.2.1*1000000000+a.getD (x.2.2-1) 0) / b),(x.2.1*1000000000+a.getD (x.2.2-1) 0) % b,x.2.2-1),⟨⟨rfl,rfl,rfl,iS (by (try simp (disch:=omega) only [dM,wu64,bY,kN,kQ,CQ,zN,QC,QI,QD,QF,QG])<;>omega),BK (by omega) (by omega),trivial⟩,⟨yt (by (try simp (disch:=omega) only [dM,wu64,bY,kN,kQ,CQ,zN,QC,QI,QD,QF,QG])<;>omega) (by (try simp (disch:=omega) only [dM,wu64,bY,kN,kQ,CQ,zN,QC,QI,QD,QF,QG])<;>omega),trivial⟩,⟨by show x.2.2-1≤_;omega,by simp only [List.length_set];exact h2,eG h3 c1,c2,yY (by omega) h1 (by omega) h5 rfl rfl⟩,by show x.2.2-1<x.2.2;omega⟩⟩))⟩
instance(b:Nat):DenI Tryz.prog 142 [.c (.sl 1 [[.v (.int .u32 (b:Nat))]])] True (.c (bJ (ah [b]))):=⟨λhp=>(inferInstance:DenI Tryz.prog 142 [.c (bJ [b])] _ _).den hp⟩
instance ahC(a:List Nat)(b:Nat):DenI Tryz.prog 194 [.c (bJ a),.int .u32 (b:Nat)] (a.length≤1000000000000∧Lb a∧b<1000000000) (.c (bJ (lim (val a*b)))):=⟨λhp=>by
 refine gu (by kernel_rfl) (λhl=>?_);simp only [oK,lF,cellsOf,List.length_map,and_true,true_and] at hl
 all_goals refine aI Tryz.func194 rfl ?_
 all_goals (repeat' ((try (conv=>whnf));first
  |refine aG ?_
  |refine ak ?_ ?_
  |(with_reducible refine aJ ?_)
  |(with_reducible refine aK ?_)
  |(with_reducible refine au (λ_=>?_) (λ_=>?_))
  |(with_reducible refine bG (λ_=>?_) (λ_=>?_))
  |refine OnB.mk (λ_=>?_) (λ_=>?_)
  |refine aU ?_ ?_
  |refine Drw.mk (by kernel_rfl) ?_
  |refine dH ?_ ?_
  |refine dF ?_ ?_
  |(with_reducible refine bH ?_ ?_)
  |(with_reducible refine bF ?_)
  |(with_reducible refine bM ?_)
  |refine Ends.mk ?_))
 all_goals (try refine Pr.mk ?_)
 all_goals first
  |exact ⟨hp.1,by have:=fJ [b];simp at this;omega,hp.2.1,mO (Lb.cons hp.2.2 Lb.nil)⟩
  |(refine lE ?_;rw [eP];simp [val])
  |skip⟩
instance afj(a b:List Nat):DenI Tryz.prog 143 [.c (bJ a),.c (bJ b)] (a.length≤1000000000000∧b.length≤1000000000000∧Lb a∧Lb b) (.c (bJ (lim (val a+val b)))):=⟨λhp=>by
 refine gu (by kernel_rfl) (λhl=>?_);simp only [oK,lF,cellsOf,List.length_map,and_true,true_and] at hl
 all_goals refine aI Tryz.func143 rfl ?_
 all_goals (repeat' ((try (conv=>whnf));first
  |refine aG ?_
  |refine ak ?_ ?_
  |(with_reducible refine aJ ?_)
  |(with_reducible refine aK ?_)
  |(with_reducible refine au (λ_=>?_) (λ_=>?_))
  |(with_reducible refine bG (λ_=>?_) (λ_=>?_))
  |refine OnB.mk (λ_=>?_) (λ_=>?_)
  |refine aU ?_ ?_
  |refine Drw.mk (by kernel_rfl) ?_
  |refine dH ?_ ?_
  |refine dF ?_ ?_
  |(with_reducible refine bH ?_ ?_)
  |(with_reducible refine bF ?_)
  |(with_reducible refine bM ?_)
  |refine Ends.mk ?_))
 all_goals (try refine Pr.mk ?_)
 all_goals (try simp (disch:=omega) only [List.length_map,List.length_take,Int.toNat_natCast,List.length_replicate,bY,dM,wu64,Dp,CQ,Wi,kN,kQ] at *)
 all_goals first
  |(have hh:b.length≤a.length:=(by omega);(conv=>whnf);refine Sw.Loop.inv (α:=List Nat × Nat × Nat) (λx=>[(0,.c (bJ a)),(1,.c (bJ b)),(5,.gs 18 (a.length+1)),(6,.int .u32 (x.2.1:Nat)),(7,.int .i64 (x.2.2:Nat))]) (λx=>[(18,.grow 154 1 (x.1.map λx=>[.v (u32 x)]))]) (λx=>x.2.2≤a.length∧x.1.length=a.length+1∧Lb x.1∧x.2.1≤1∧val (x.1.take x.2.2)+1000000000 ^ x.2.2*x.2.1=val (a.take x.2.2)+val (b.take x.2.2)) (λx=>a.length-x.2.2) (List.replicate (a.length+1) 0,0,0) ?_ ?_ ?_ (λx hx=>?_))
  |(have hh:a.length≤b.length:=(by omega);(conv=>whnf);refine Sw.Loop.inv (α:=List Nat × Nat × Nat) (λx=>[(0,.c (bJ b)),(1,.c (bJ a)),(5,.gs 18 (b.length+1)),(6,.int .u32 (x.2.1:Nat)),(7,.int .i64 (x.2.2:Nat))]) (λx=>[(18,.grow 154 1 (x.1.map λx=>[.v (u32 x)]))]) (λx=>x.2.2≤b.length∧x.1.length=b.length+1∧Lb x.1∧x.2.1≤1∧val (x.1.take x.2.2)+1000000000 ^ x.2.2*x.2.1=val (b.take x.2.2)+val (a.take x.2.2)) (λx=>b.length-x.2.2) (List.replicate (b.length+1) 0,0,0) ?_ ?_ ?_ (λx hx=>?_))
  |skip
 all_goals (repeat' ((try (conv=>whnf));first
  |refine aG ?_
  |refine ak ?_ ?_
  |(with_reducible refine aJ ?_)
  |(with_reducible refine aK ?_)
  |(with_reducible refine au (λ_=>?_) (λ_=>?_))
  |(with_reducible refine bG (λ_=>?_) (λ_=>?_))
  |refine OnB.mk (λ_=>?_) (λ_=>?_)
  |refine aU ?_ ?_
  |refine Drw.mk (by kernel_rfl) ?_
  |refine dH ?_ ?_
  |refine dF ?_ ?_
  |(with_reducible refine bH ?_ ?_)
  |(with_reducible refine bF ?_)
  |(with_reducible refine bM ?_)
  |refine Ends.mk ?_))
 all_goals (try refine Pr.mk ?_)
 all_goals first|(show SubE _ _;repeat' (first|exact trivial|refine And.intro ?_ ?_))|(show SubB _ _;repeat' (first|exact trivial|refine And.intro ?_ ?_))|skip
 all_goals (try rfl)
 all_goals (try simp only [List.length_map,List.length_replicate,Int.toNat_natCast] at *)
 all_goals first
  |omega
  |rfl
  |exact sQ _ _
  |(constructor<;>omega)
  |(obtain ⟨h1,h2,h3,h4,h5⟩:=hx;have ga:=hp.2.2.1.getD x.2.2;have gb:=hp.2.2.2.getD x.2.2;have gz:=getD_none (l:=b) (k:=x.2.2) (by omega);(conv=>whnf);exact ⟨(x.1.set x.2.2 ((x.2.1+a.getD x.2.2 0+b.getD x.2.2 0) % 1000000000),(x.2.1+a.getD x.2.2 0+b.getD x.2.2 0) / 1000000000,x.2.2+1),⟨⟨rfl,rfl,rfl,iS (by (try simp (disch:=omega) only [dM,wu64,bY,kN,kQ])<;>omega),aX (by omega),trivial⟩,⟨yt rfl (by (try simp (disch:=omega) only [dM,wu64,bY,kN,kQ])<;>omega),trivial⟩,⟨by show x.2.2+1≤_;omega,by simp only [List.length_set];exact h2,eG h3 (Nat.mod_lt _ (by decide)),by show _ / 1000000000≤1;omega,uq (by omega) h5 rfl rfl rfl⟩,by show _-(x.2.2+1)<_-x.2.2;omega⟩⟩)
  |(obtain ⟨h1,h2,h3,h4,h5⟩:=hx;have ga:=hp.2.2.1.getD x.2.2;have gb:=hp.2.2.2.getD x.2.2;(conv=>whnf);exact ⟨(x.1.set x.2.2 ((x.2.1+a.getD x.2.2 0+b.getD x.2.2 0) % 1000000000),(x.2.1+a.getD x.2.2 0+b.getD x.2.2 0) / 1000000000,x.2.2+1),⟨⟨rfl,rfl,rfl,iS (by (try simp (disch:=omega) only [dM,wu64,bY,kN,kQ])<;>omega),aX (by omega),trivial⟩,⟨yt rfl (by (try simp (disch:=omega) only [dM,wu64,bY,kN,kQ])<;>omega),trivial⟩,⟨by show x.2.2+1≤_;omega,by simp only [List.length_set];exact h2,eG h3 (Nat.mod_lt _ (by decide)),by show _ / 1000000000≤1;omega,uq (by omega) h5 rfl rfl rfl⟩,by show _-(x.2.2+1)<_-x.2.2;omega⟩⟩)
  |(obtain ⟨h1,h2,h3,h4,h5⟩:=hx;have ga:=hp.2.2.2.getD x.2.2;have gb:=hp.2.2.1.getD x.2.2;have gz:=getD_none (l:=a) (k:=x.2.2) (by omega);(conv=>whnf);exact ⟨(x.1.set x.2.2 ((x.2.1+b.getD x.2.2 0+a.getD x.2.2 0) % 1000000000),(x.2.1+b.getD x.2.2 0+a.getD x.2.2 0) / 1000000000,x.2.2+1),⟨⟨rfl,rfl,rfl,iS (by (try simp (disch:=omega) only [dM,wu64,bY,kN,kQ])<;>omega),aX (by omega),trivial⟩,⟨yt rfl (by (try simp (disch:=omega) only [dM,wu64,bY,kN,kQ])<;>omega),trivial⟩,⟨by show x.2.2+1≤_;omega,by simp only [List.length_set];exact h2,eG h3 (Nat.mod_lt _ (by decide)),by show _ / 1000000000≤1;omega,uq (by omega) h5 rfl rfl rfl⟩,by show _-(x.2.2+1)<_-x.2.2;omega⟩⟩)
  |(obtain ⟨h1,h2,h3,h4,h5⟩:=hx;have ga:=hp.2.2.2.getD x.2.2;have gb:=hp.2.2.1.getD x.2.2;(conv=>whnf);exact ⟨(x.1.set x.2.2 ((x.2.1+b.getD x.2.2 0+a.getD x.2.2 0) % 1000000000),(x.2.1+b.getD x.2.2 0+a.getD x.2.2 0) / 1000000000,x.2.2+1),⟨⟨rfl,rfl,rfl,iS (by (try simp (disch:=omega) only [dM,wu64,bY,kN,kQ])<;>omega),aX (by omega),trivial⟩,⟨yt rfl (by (try simp (disch:=omega) only [dM,wu64,bY,kN,kQ])<;>omega),trivial⟩,⟨by show x.2.2+1≤_;omega,by simp only [List.length_set];exact h2,eG h3 (Nat.mod_lt _ (by decide)),by show _ / 1000000000≤1;omega,uq (by omega) h5 rfl rfl rfl⟩,by show _-(x.2.2+1)<_-x.2.2;omega⟩⟩)
  |exact ⟨by omega,by simp,iU _,by omega,by simp [val]⟩
  |skip
 all_goals (try simp only [afR] at *)
 all_goals (repeat' ((try (conv=>whnf));first
  |refine aG ?_
  |refine ak ?_ ?_
  |(with_reducible refine aJ ?_)
  |(with_reducible refine aK ?_)
  |(with_reducible refine au (λ_=>?_) (λ_=>?_))
  |(with_reducible refine bG (λ_=>?_) (λ_=>?_))
  |refine OnB.mk (λ_=>?_) (λ_=>?_)
  |refine aU ?_ ?_
  |refine Drw.mk (by kernel_rfl) ?_
  |refine dH ?_ ?_
  |refine dF ?_ ?_
  |(with_reducible refine bH ?_ ?_)
  |(with_reducible refine bF ?_)
  |(with_reducible refine bM ?_)
  |refine Ends.mk ?_))
 all_goals (try refine Pr.mk ?_)
 all_goals first
  |omega
  |rfl
  |exact sQ _ _
  |(constructor<;>omega)
  |(simp only [List.length_map,List.length_set];omega)
  |exact Vd hx.2.1 (by omega) hh hx.2.2.1 hx.2.2.2.1 hx.2.2.2.2 (by omega)
  |skip⟩
instance aeG(a b:List Nat):DenI Tryz.prog 144 [.c (bJ a),.c (bJ b)] (a.length≤1000000000000∧b.length≤1000000000000∧Lb a∧Lb b∧b.length≤a.length∧val b≤val a) (.c (bJ (lim (val a-val b)))):=⟨λhp=>by
 refine gu (by kernel_rfl) (λhl=>?_);simp only [oK,lF,cellsOf,List.length_map,and_true,true_and] at hl
 all_goals refine aI Tryz.func144 rfl ?_
 all_goals (repeat' ((try (conv=>whnf));first
  |refine dH ?_ ?_))
 all_goals (try refine Pr.mk ?_)
 all_goals first
  |((conv=>whnf);refine Sw.Loop.inv (α:=List Nat × Nat × Nat) (λx=>[(0,.c (bJ a)),(1,.c (bJ b)),(5,.gs 11 a.length),(6,.int .u32 (x.2.1:Nat)),(7,.int .i64 (x.2.2:Nat))]) (λx=>[(11,.grow 154 1 (x.1.map λx=>[.v (u32 x)]))]) (λx=>x.2.2≤a.length∧x.1.length=a.length∧Lb x.1∧x.2.1≤1∧val (x.1.take x.2.2)+val (b.take x.2.2)=val (a.take x.2.2)+1000000000 ^ x.2.2*x.2.1) (λx=>a.length-x.2.2) (List.replicate a.length 0,0,0) ?_ ?_ ?_ (λx hx=>?_))
  |skip
 all_goals (repeat' ((try (conv=>whnf));first
  |refine aG ?_
  |(with_reducible refine au (λ_=>?_) (λ_=>?_))
  |refine aU ?_ ?_
  |(with_reducible refine bH ?_ ?_)
  |refine Ends.mk ?_))
 all_goals (try refine Pr.mk ?_)
 all_goals first|(show SubE _ _;repeat' (first|exact trivial|refine And.intro ?_ ?_))|(show SubB _ _;repeat' (first|exact trivial|refine And.intro ?_ ?_))|skip
 all_goals (try rfl)
 all_goals (try simp only [List.length_map,List.length_replicate,Int.toNat_natCast] at *)
 all_goals first
  |omega
  |rfl
  |exact sQ _ _
  |exact ⟨by omega,by simp,iU _,by omega,by simp [val]⟩
  |exact Qo hx.2.2.1 hp.2.2.1 hx.2.1 (by omega) hp.2.2.2.2.1 hp.2.2.2.2.2 hx.2.2.2.2
  |(obtain ⟨h1,h2,h3,h4,h5⟩:=hx;have ga:=hp.2.2.1.getD x.2.2;have gb:=hp.2.2.2.1.getD x.2.2;have gz:=getD_none (l:=b) (k:=x.2.2) (by omega);(try simp (disch:=omega) only [dM] at *);(conv=>whnf);exact ⟨(x.1.set x.2.2 ((a.getD x.2.2 0+1000000000-x.2.1-b.getD x.2.2 0) % 1000000000),1-(a.getD x.2.2 0+1000000000-x.2.1-b.getD x.2.2 0) / 1000000000,x.2.2+1),⟨⟨rfl,rfl,rfl,iS (by (try simp (disch:=omega) only [dM,wu64,bY,kN,kQ])<;>omega),aX (by omega),trivial⟩,⟨yt rfl (by (try simp (disch:=omega) only [dM,wu64,bY,kN,kQ])<;>omega),trivial⟩,⟨by show x.2.2+1≤_;omega,by simp only [List.length_set];exact h2,eG h3 (Nat.mod_lt _ (by decide)),by show 1-_ / 1000000000≤1;omega,qw (by omega) h5 (by dsimp only;omega)⟩,by show _-(x.2.2+1)<_-x.2.2;omega⟩⟩)
  |(obtain ⟨h1,h2,h3,h4,h5⟩:=hx;have ga:=hp.2.2.1.getD x.2.2;have gb:=hp.2.2.2.1.getD x.2.2;(try simp (disch:=omega) only [dM] at *);(conv=>whnf);exact ⟨(x.1.set x.2.2 ((a.getD x.2.2 0+1000000000-x.2.1-b.getD x.2.2 0) % 1000000000),1-(a.getD x.2.2 0+1000000000-x.2.1-b.getD x.2.2 0) / 1000000000,x.2.2+1),⟨⟨rfl,rfl,rfl,iS (by (try simp (disch:=omega) only [dM,wu64,bY,kN,kQ])<;>omega),aX (by omega),trivial⟩,⟨yt rfl (by (try simp (disch:=omega) only [dM,wu64,bY,kN,kQ])<;>omega),trivial⟩,⟨by show x.2.2+1≤_;omega,by simp only [List.length_set];exact h2,eG h3 (Nat.mod_lt _ (by decide)),by show 1-_ / 1000000000≤1;omega,qw (by omega) h5 (by dsimp only;omega)⟩,by show _-(x.2.2+1)<_-x.2.2;omega⟩⟩)⟩
instance aeP(a b:List Nat):DenI Tryz.prog 236 [.c (bJ a),.c (bJ b)] (a.length≤1000000000000∧b.length≤1000000000000∧Lb a∧Lb b∧b.length≤a.length∧val b≤val a) (.c (bJ (pad a.length (val a-val b)))):=⟨λhp=>by
 refine gu (by kernel_rfl) (λhl=>?_);simp only [oK,lF,cellsOf,List.length_map,and_true,true_and] at hl
 all_goals refine aI Tryz.func236 rfl ?_
 all_goals (repeat' ((try (conv=>whnf));first
  |refine dH ?_ ?_))
 all_goals (try refine Pr.mk ?_)
 all_goals first
  |((conv=>whnf);refine Sw.Loop.inv (α:=List Nat × Nat × Nat) (λx=>[(1,.c (bJ b)),(5,.gs 12 a.length),(6,.int .u32 (x.2.1:Nat)),(13,.c (bJ a)),(14,.int .i64 a.length),(15,.int .i64 (x.2.2:Nat))]) (λx=>[(12,.grow 154 1 (x.1.map λx=>[.v (u32 x)]))]) (λx=>x.2.2≤a.length∧x.1.length=a.length∧Lb x.1∧x.2.1≤1∧val (x.1.take x.2.2)+val (b.take x.2.2)=val (a.take x.2.2)+1000000000 ^ x.2.2*x.2.1) (λx=>a.length-x.2.2) (List.replicate a.length 0,0,0) ?_ ?_ ?_ (λx hx=>?_))
  |skip
 all_goals (repeat' ((try (conv=>whnf));first
  |(with_reducible refine au (λ_=>?_) (λ_=>?_))
  |refine aU ?_ ?_
  |(with_reducible refine bH ?_ ?_)
  |refine Ends.mk ?_))
 all_goals (try refine Pr.mk ?_)
 all_goals first|(show SubE _ _;repeat' (first|exact trivial|refine And.intro ?_ ?_))|(show SubB _ _;repeat' (first|exact trivial|refine And.intro ?_ ?_))|skip
 all_goals (try rfl)
 all_goals (try simp only [List.length_map,List.length_replicate,Int.toNat_natCast] at *)
 all_goals first
  |omega
  |rfl
  |exact sQ _ _
  |(obtain ⟨h1,h2,h3,h4,h5⟩:=hx;have ga:=hp.2.2.1.getD x.2.2;have gb:=hp.2.2.2.1.getD x.2.2;have gz:=getD_none (l:=b) (k:=x.2.2) (by omega);(try simp (disch:=omega) only [dM] at *);(conv=>whnf);exact ⟨(x.1.set x.2.2 ((a.getD x.2.2 0+1000000000-x.2.1-b.getD x.2.2 0) % 1000000000),1-(a.getD x.2.2 0+1000000000-x.2.1-b.getD x.2.2 0) / 1000000000,x.2.2+1),⟨⟨rfl,rfl,iS (by (try simp (disch:=omega) only [dM,wu64,bY,kN,kQ])<;>omega),rfl,rfl,aX (by omega),trivial⟩,⟨yt rfl (by (try simp (disch:=omega) only [dM,wu64,bY,kN,kQ])<;>omega),trivial⟩,⟨by show x.2.2+1≤_;omega,by simp only [List.length_set];exact h2,eG h3 (Nat.mod_lt _ (by decide)),by show 1-_ / 1000000000≤1;omega,qw (by omega) h5 (by dsimp only;omega)⟩,by show _-(x.2.2+1)<_-x.2.2;omega⟩⟩)
  |(obtain ⟨h1,h2,h3,h4,h5⟩:=hx;have ga:=hp.2.2.1.getD x.2.2;have gb:=hp.2.2.2.1.getD x.2.2;(try simp (disch:=omega) only [dM] at *);(conv=>whnf);exact ⟨(x.1.set x.2.2 ((a.getD x.2.2 0+1000000000-x.2.1-b.getD x.2.2 0) % 1000000000),1-(a.getD x.2.2 0+1000000000-x.2.1-b.getD x.2.2 0) / 1000000000,x.2.2+1),⟨⟨rfl,rfl,iS (by (try simp (disch:=omega) only [dM,wu64,bY,kN,kQ])<;>omega),rfl,rfl,aX (by omega),trivial⟩,⟨yt rfl (by (try simp (disch:=omega) only [dM,wu64,bY,kN,kQ])<;>omega),trivial⟩,⟨by show x.2.2+1≤_;omega,by simp only [List.length_set];exact h2,eG h3 (Nat.mod_lt _ (by decide)),by show 1-_ / 1000000000≤1;omega,qw (by omega) h5 (by dsimp only;omega)⟩,by show _-(x.2.2+1)<_-x.2.2;omega⟩⟩)
  |exact ⟨by omega,by simp,iU _,by omega,by simp [val]⟩
  |exact abj hx.2.2.1 hx.2.1 (DK hx.2.2.1 hp.2.2.1 hx.2.1 (by omega) hp.2.2.2.2.1 hp.2.2.2.2.2 hx.2.2.2.2)⟩
instance agf(a b:List Nat):DenI Tryz.prog 235 [.c (bJ a),.c (bJ b)] (a.length≤1000000000000∧b.length≤1000000000000∧Lb a∧Lb b) (.c (bJ (pad (max a.length b.length+1) (val a+val b)))):=⟨λhp=>by
 refine gu (by kernel_rfl) (λhl=>?_);simp only [oK,lF,cellsOf,List.length_map,and_true,true_and] at hl
 all_goals refine aI Tryz.func235 rfl ?_
 all_goals (repeat' ((try (conv=>whnf));first
  |(with_reducible refine au (λ_=>?_) (λ_=>?_))
  |refine dH ?_ ?_))
 all_goals (try refine Pr.mk ?_)
 all_goals (try simp (disch:=omega) only [List.length_map,List.length_take,Int.toNat_natCast,List.length_replicate,bY,dM,wu64,Dp,CQ,Wi,kN,kQ] at *)
 all_goals first
  |(have hh:b.length≤a.length:=(by omega);(conv=>whnf);refine Sw.Loop.inv (α:=List Nat × Nat × Nat) (λx=>[(1,.c (bJ b)),(5,.gs 19 x.1.length),(6,.int .u32 (x.2.1:Nat)),(20,.c (bJ a)),(21,.int .i64 a.length),(22,.int .i64 (x.2.2:Nat))]) (λx=>[(19,.grow 154 1 (x.1.map λx=>[.v (u32 x)]))]) (λx=>x.2.2≤a.length∧x.1.length=x.2.2∧Lb x.1∧x.2.1≤1∧val x.1+1000000000 ^ x.2.2*x.2.1=val (a.take x.2.2)+val (b.take x.2.2)) (λx=>a.length-x.2.2) ([],0,0) ?_ ?_ ?_ (λx hx=>?_))
  |(have hh:a.length≤b.length:=(by omega);(conv=>whnf);refine Sw.Loop.inv (α:=List Nat × Nat × Nat) (λx=>[(1,.c (bJ a)),(5,.gs 19 x.1.length),(6,.int .u32 (x.2.1:Nat)),(20,.c (bJ b)),(21,.int .i64 b.length),(22,.int .i64 (x.2.2:Nat))]) (λx=>[(19,.grow 154 1 (x.1.map λx=>[.v (u32 x)]))]) (λx=>x.2.2≤b.length∧x.1.length=x.2.2∧Lb x.1∧x.2.1≤1∧val x.1+1000000000 ^ x.2.2*x.2.1=val (b.take x.2.2)+val (a.take x.2.2)) (λx=>b.length-x.2.2) ([],0,0) ?_ ?_ ?_ (λx hx=>?_))
  |skip
 all_goals (repeat' ((try (conv=>whnf));first
  |(with_reducible refine au (λ_=>?_) (λ_=>?_))
  |refine aU ?_ ?_
  |(with_reducible refine bH ?_ ?_)
  |refine Ends.mk ?_))
 all_goals (try refine Pr.mk ?_)
 all_goals first|(show SubE _ _;repeat' (first|exact trivial|refine And.intro ?_ ?_))|(show SubB _ _;repeat' (first|exact trivial|refine And.intro ?_ ?_))|skip
 all_goals (try rfl)
 all_goals (try simp only [List.length_map,List.length_replicate,Int.toNat_natCast] at *)
 all_goals first
  |omega
  |rfl
  |(obtain ⟨h1,h2,h3,h4,h5⟩:=hx;have ga:=hp.2.2.1.getD x.2.2;have gb:=hp.2.2.2.getD x.2.2;have gz:=getD_none (l:=b) (k:=x.2.2) (by omega);(try simp (disch:=omega) only [dM] at *);(conv=>whnf);exact ⟨(x.1++[(x.2.1+a.getD x.2.2 0+b.getD x.2.2 0) % 1000000000],(x.2.1+a.getD x.2.2 0+b.getD x.2.2 0) / 1000000000,x.2.2+1),⟨⟨rfl,gsE (by simp),iS (by (try simp (disch:=omega) only [dM,wu64,bY,kN,kQ])<;>omega),rfl,rfl,aX (by omega),trivial⟩,⟨JF (by (try simp (disch:=omega) only [dM,wu64,bY,kN,kQ])<;>omega),trivial⟩,⟨by show x.2.2+1≤_;omega,by simp only [List.length_append,List.length_cons,List.length_nil];omega,qo h3 (Nat.mod_lt _ (by decide)),by show _ / 1000000000≤1;omega,uf h2 h5 rfl rfl rfl⟩,by show _-(x.2.2+1)<_-x.2.2;omega⟩⟩)
  |(obtain ⟨h1,h2,h3,h4,h5⟩:=hx;have ga:=hp.2.2.1.getD x.2.2;have gb:=hp.2.2.2.getD x.2.2;(try simp (disch:=omega) only [dM] at *);(conv=>whnf);exact ⟨(x.1++[(x.2.1+a.getD x.2.2 0+b.getD x.2.2 0) % 1000000000],(x.2.1+a.getD x.2.2 0+b.getD x.2.2 0) / 1000000000,x.2.2+1),⟨⟨rfl,gsE (by simp),iS (by (try simp (disch:=omega) only [dM,wu64,bY,kN,kQ])<;>omega),rfl,rfl,aX (by omega),trivial⟩,⟨JF (by (try simp (disch:=omega) only [dM,wu64,bY,kN,kQ])<;>omega),trivial⟩,⟨by show x.2.2+1≤_;omega,by simp only [List.length_append,List.length_cons,List.length_nil];omega,qo h3 (Nat.mod_lt _ (by decide)),by show _ / 1000000000≤1;omega,uf h2 h5 rfl rfl rfl⟩,by show _-(x.2.2+1)<_-x.2.2;omega⟩⟩)
  |(obtain ⟨h1,h2,h3,h4,h5⟩:=hx;have ga:=hp.2.2.2.getD x.2.2;have gb:=hp.2.2.1.getD x.2.2;have gz:=getD_none (l:=a) (k:=x.2.2) (by omega);(try simp (disch:=omega) only [dM] at *);(conv=>whnf);exact ⟨(x.1++[(x.2.1+b.getD x.2.2 0+a.getD x.2.2 0) % 1000000000],(x.2.1+b.getD x.2.2 0+a.getD x.2.2 0) / 1000000000,x.2.2+1),⟨⟨rfl,gsE (by simp),iS (by (try simp (disch:=omega) only [dM,wu64,bY,kN,kQ])<;>omega),rfl,rfl,aX (by omega),trivial⟩,⟨JF (by (try simp (disch:=omega) only [dM,wu64,bY,kN,kQ])<;>omega),trivial⟩,⟨by show x.2.2+1≤_;omega,by simp only [List.length_append,List.length_cons,List.length_nil];omega,qo h3 (Nat.mod_lt _ (by decide)),by show _ / 1000000000≤1;omega,uf h2 h5 rfl rfl rfl⟩,by show _-(x.2.2+1)<_-x.2.2;omega⟩⟩)
  |(obtain ⟨h1,h2,h3,h4,h5⟩:=hx;have ga:=hp.2.2.2.getD x.2.2;have gb:=hp.2.2.1.getD x.2.2;(try simp (disch:=omega) only [dM] at *);(conv=>whnf);exact ⟨(x.1++[(x.2.1+b.getD x.2.2 0+a.getD x.2.2 0) % 1000000000],(x.2.1+b.getD x.2.2 0+a.getD x.2.2 0) / 1000000000,x.2.2+1),⟨⟨rfl,gsE (by simp),iS (by (try simp (disch:=omega) only [dM,wu64,bY,kN,kQ])<;>omega),rfl,rfl,aX (by omega),trivial⟩,⟨JF (by (try simp (disch:=omega) only [dM,wu64,bY,kN,kQ])<;>omega),trivial⟩,⟨by show x.2.2+1≤_;omega,by simp only [List.length_append,List.length_cons,List.length_nil];omega,qo h3 (Nat.mod_lt _ (by decide)),by show _ / 1000000000≤1;omega,uf h2 h5 rfl rfl rfl⟩,by show _-(x.2.2+1)<_-x.2.2;omega⟩⟩)
  |exact ⟨by omega,rfl,Lb.nil,by omega,by simp [val]⟩
  |(simp only [List.length_map,List.length_append,List.length_cons,List.length_nil];omega)
  |(refine aea hx.2.2.1 (by omega) (by omega) ?_;have h5:=hx.2.2.2.2;rw [bK (l:=a) (by omega),bK (l:=b) (by omega)] at h5;rw [hx.2.1];omega)⟩
end Go.Proofs.YtmniihkenijjpaaGreatDoor
namespace Go.Sw
open Go
theorem VY{n:Int}(h:0≤n)(h2:n≤9223372036854775807):IntKind.u64.wrap n=((n.natAbs:Nat):Int):=by rw [IntKind.wrap_u64];omega
theorem Uu{n:Int}(h:n<0)(h2 : -9223372036854775808≤n):IntKind.u64.wrap (0-IntKind.u64.wrap n)=((n.natAbs:Nat):Int):=by rw [IntKind.wrap_u64,IntKind.wrap_u64];omega
theorem OJ{x y:Int}(h:x=y):aB [Z x]=Z y:=by rw [h];rfl
theorem Ue{a b qs rs:List Nat}(h4:Lb qs)(h5:Lb rs)(h6:val a=val b*val qs+val rs)(h7:val rs<val b)(h8:qs.length=V9 a b)(h9:rs.length=RS a b):qs=pad (V9 a b) (val a / val b)∧rs=pad (RS a b) (val a % val b):=by
 have h1:val a / val b=val qs:=by rw [h6,Nat.mul_comm,Nat.add_comm,Nat.add_mul_div_right _ _ (by omega),Nat.div_eq_of_lt h7,Nat.zero_add]
 have h2:val a % val b=val rs:=by rw [h6,Nat.mul_add_mod,Nat.mod_eq_of_lt h7]
 rw [h1,h2,← h8,← h9];exact ⟨zH _ h4,zH _ h5⟩
section
variable {a b:Int}
theorem ZE(h:(((lim a.natAbs).length:Nat):Int)=0):aB [AV.c (Cell.v (.int .i64 0))]=AV.int .i64 (jo a):=iE (by have:=dI (n:=a.natAbs);unfold jo;repeat' split;all_goals omega)
theorem Zq(h:a<0):aB [AV.c (Cell.v (.int .i64 (-1)))]=AV.int .i64 (jo a):=iE (by unfold jo;repeat' split;all_goals omega)
theorem ZG(h:¬a<0)(h2:(((lim a.natAbs).length:Nat):Int) > 0):aB [AV.c (Cell.v (.int .i64 1))]=AV.int .i64 (jo a):=iE (by have:=dI (n:=a.natAbs);unfold jo;repeat' split;all_goals omega)
theorem ZL(h:(decide (a<0) != decide (b<0))=true)(ha:a<0):aB [AV.c (Cell.v (.int .i64 (-1)))]=AV.int .i64 (jk a b):=iE (by have hb:¬b<0:=(λhb=>by simp [ha,hb] at h);rw [XO (by omega)])
theorem ZQ(h:(decide (a<0) != decide (b<0))=true)(ha:¬a<0):aB [AV.c (Cell.v (.int .i64 1))]=AV.int .i64 (jk a b):=iE (by have hb:b<0:=Decidable.byContradiction (λhb=>by simp [ha,hb] at h);rw [Xi (by omega)])
theorem ZB(h:(decide (a<0) != decide (b<0))=false)(ha:a<0):aB [AV.c (Cell.v (.int .i64 (eU (val (lim b.natAbs)) (val (lim a.natAbs)))))]=AV.int .i64 (jk a b) :=
 iE (by rw [aA,aA,Vx ha (Decidable.byContradiction λhb=>by simp [ha,hb] at h)])
theorem Zg(h:(decide (a<0) != decide (b<0))=false)(ha:¬a<0):aB [AV.c (Cell.v (.int .i64 (eU (val (lim a.natAbs)) (val (lim b.natAbs)))))]=AV.int .i64 (jk a b) :=
 iE (by rw [aA,aA,Vs ha (λhb=>by simp [ha,hb] at h)])
theorem SK(h:(decide (a<0) == decide (b<0))=true):decide (a<0)=decide (b<0):=by simpa using h
theorem Hw(h:(decide (a<0) == decide (b<0))=false):¬decide (a<0)=decide (b<0):=by simpa using h
theorem aaX(h:(decide (a<0) == decide (b<0))=true):aB [AV.c (Cell.v (.bool (decide (eU (val (lim a.natAbs)) (val (lim b.natAbs))=0))))]=AV.bool (decide (a=b)) :=
 bE (by have h:=SK h;rw [decide_eq_decide] at h;rw [aA,aA,decide_eq_decide,Ut];omega)
theorem aat(h:(decide (a<0) == decide (b<0))=false):aB [AV.c (Cell.v (.bool false))]=AV.bool (decide (a=b)) :=
 bE (by have h:=Hw h;rw [decide_eq_decide] at h;symm;rw [decide_eq_false_iff_not];omega)
theorem Zf:aB [Z (dW (!decide (a<0)) (val (lim a.natAbs)))]=Z (-a):=OJ (by rw [aA];exact TM a)
theorem adV:aB [Z (dW (decide (a<0) != decide (b<0)) (val (lim (val (lim a.natAbs)*val (lim b.natAbs)))))]=Z (a*b):=OJ (by rw [aA,aA,aA];exact H6 a b)
theorem Zp:aB [Z (dW (decide (a<0) != decide (b<0)) (val (pad ((lim a.natAbs).length+(lim b.natAbs).length) (val (lim a.natAbs)*val (lim b.natAbs)))))]=Z (a*b):=OJ (by
 rw [kY _ _ (by rw [Nat.pow_add];exact Nat.mul_lt_mul'' (fP _ (aQ _)) (fP _ (aQ _))),aA,aA];exact H6 a b)
theorem adi(h:(decide (a<0) == decide (b<0))=true):aB [Z (dW (decide (a<0)) (val (lim (val (lim a.natAbs)+val (lim b.natAbs)))))]=Z (a+b):=OJ (by rw [aA,aA,aA];exact Hg (SK h))
theorem adt(h:(decide (a<0) == decide (b<0))=false)(h2:eU (val (lim a.natAbs)) (val (lim b.natAbs))≥0):aB [Z (dW (decide (a<0)) (val (lim (val (lim a.natAbs)-val (lim b.natAbs)))))]=Z (a+b):=OJ (by
 rw [aA,aA] at h2 ⊢;rw [aA];exact wS (Hw h) (pz.1 h2))
theorem adT(h:(decide (a<0) == decide (b<0))=false)(h2:¬eU (val (lim a.natAbs)) (val (lim b.natAbs))≥0):aB [Z (dW (decide (b<0)) (val (lim (val (lim b.natAbs)-val (lim a.natAbs)))))]=Z (a+b):=OJ (by
 rw [aA,aA] at h2 ⊢;rw [aA,Int.add_comm];exact wS (λe=>Hw h e.symm) (by have:=mt pz.2 h2;omega))
theorem Zz(h:(decide (a<0) == decide (b<0))=true):aB [Z (dW (decide (a<0)) (val (pad (max (lim a.natAbs).length (lim b.natAbs).length+1) (val (lim a.natAbs)+val (lim b.natAbs)))))]=Z (a+b):=OJ (by
 have h1:=fP _ (aQ a.natAbs);have h2:=fP _ (aQ b.natAbs);have h3:=Nat.pow_le_pow_right (n:=1000000000) (by decide) (Nat.le_max_left (lim a.natAbs).length (lim b.natAbs).length);have h4:=Nat.pow_le_pow_right (n:=1000000000) (by decide) (Nat.le_max_right (lim a.natAbs).length (lim b.natAbs).length)
 rw [kY _ _ (by rw [Nat.pow_succ];omega),aA,aA];exact Hg (SK h))
theorem Y6(h:(decide (a<0) == decide (b<0))=false)(h2:¬eU (val (lim a.natAbs)) (val (lim b.natAbs))<0):aB [Z (dW (decide (a<0)) (val (pad (lim a.natAbs).length (val (lim a.natAbs)-val (lim b.natAbs)))))]=Z (a+b):=OJ (by
 have h1:=fP _ (aQ a.natAbs);rw [kY _ _ (by omega)]
 rw [aA,aA] at h2 ⊢;exact wS (Hw h) (pz.1 (by omega)))
theorem Y7(h:(decide (a<0) == decide (b<0))=false)(h2:eU (val (lim a.natAbs)) (val (lim b.natAbs))<0):aB [Z (dW (decide (b<0)) (val (pad (lim b.natAbs).length (val (lim b.natAbs)-val (lim a.natAbs)))))]=Z (a+b):=OJ (by
 have h1:=fP _ (aQ b.natAbs);rw [kY _ _ (by omega)]
 rw [aA,aA] at h2 ⊢;rw [Int.add_comm];exact wS (λe=>Hw h e.symm) (by have:=su.1 h2;omega))
theorem Ai(h1:sz a≤1000000000)(h2:sz b≤1000000000)(h:b.natAbs≤a.natAbs):(lim a.natAbs).length≤1000000000000∧(lim b.natAbs).length≤1000000000000∧Lb (lim a.natAbs)∧Lb (lim b.natAbs)∧(lim b.natAbs).length≤(lim a.natAbs).length∧val (lim b.natAbs)≤val (lim a.natAbs):=by
 unfold sz at h1 h2;exact ⟨by omega,by omega,aQ _,aQ _,gJ h,by rw [aA,aA];exact h⟩
theorem FX(h1:sz a≤1000000000)(h2:sz b≤1000000000):(lim a.natAbs).length≤1000000000000∧(lim b.natAbs).length≤1000000000000∧Lb (lim a.natAbs)∧Lb (lim b.natAbs):=by
 unfold sz at h1 h2;exact ⟨by omega,by omega,aQ _,aQ _⟩
theorem aaD(h:¬b<0):AV.agg [Cell.v (.bool (decide ((((lim b.natAbs).map λx=>[Cell.v (u32 x)]).length:Int) > 0))),zl b]=Z (-b):=by
 show _=AV.agg [zs (-b),zl (-b)];unfold zs zl;have:=dI (n:=b.natAbs);rw [Int.natAbs_neg,List.length_map,show decide ((((lim b.natAbs).length:Nat):Int) > 0)=decide (-b<0) by rw [decide_eq_decide];omega]
theorem abK(h:b<0):AV.agg [Cell.v (.bool false),zl b]=Z (-b):=by
 show _=AV.agg [zs (-b),zl (-b)];unfold zs zl;rw [Int.natAbs_neg,decide_eq_false (show ¬-b<0 by omega)]
theorem adu(h:jk a (-9223372036854775808)<0):aB [AV.c (Cell.v (.int .i64 0)),AV.c (Cell.v (.bool false))]=AV.tup [.int .i64 (if -9223372036854775808≤a∧a≤9223372036854775807 then a else 0),.bool (decide (-9223372036854775808≤a∧a≤9223372036854775807))]:=by
 have:=Cb.1 h;rw [if_neg (by omega),decide_eq_false (by omega)];rfl
theorem acZ(h:jk a 9223372036854775807 > 0):aB [AV.c (Cell.v (.int .i64 0)),AV.c (Cell.v (.bool false))]=AV.tup [.int .i64 (if -9223372036854775808≤a∧a≤9223372036854775807 then a else 0),.bool (decide (-9223372036854775808≤a∧a≤9223372036854775807))]:=by
 have:=Ag.1 h;rw [if_neg (by omega),decide_eq_false (by omega)];rfl
theorem ac2(h:¬jk a (-9223372036854775808)<0)(h2:¬jk a 9223372036854775807 > 0):-9223372036854775808≤a∧a≤9223372036854775807:=by
 have h3:=mt Cb.2 h;have h4:=mt Ag.2 h2;omega
theorem ad1{x:Int}(hb : -9223372036854775808≤a∧a≤9223372036854775807)(hx:x=a):aB [AV.c (Cell.v (.int .i64 x)),AV.c (Cell.v (.bool true))]=AV.tup [.int .i64 (if -9223372036854775808≤a∧a≤9223372036854775807 then a else 0),.bool (decide (-9223372036854775808≤a∧a≤9223372036854775807))]:=by
 rw [if_pos hb,decide_eq_true hb,hx];rfl
theorem aeM(hb : -9223372036854775808≤a∧a≤9223372036854775807):(lim a.natAbs).length≤1000000000000∧Lb (lim a.natAbs)∧val (lim a.natAbs)<18446744073709551616:=by
 have:=gZ hb.1 hb.2;unfold sz at this;exact ⟨by omega,aQ _,by rw [aA];omega⟩
theorem QN(h1:sz a≤1000000000)(h2:sz b≤1000000000)(h:¬b.natAbs=0):(lim a.natAbs).length≤100000000000∧(lim b.natAbs).length≤100000000000∧Lb (lim a.natAbs)∧Lb (lim b.natAbs)∧0<b.natAbs:=by
 unfold sz at h1 h2;exact ⟨by omega,by omega,aQ _,aQ _,by omega⟩
theorem dqI(h:¬b.natAbs=0):val (pad (V9 (lim a.natAbs) (lim b.natAbs)) (a.natAbs / b.natAbs))=a.natAbs / b.natAbs:=by
 have:=abu (aQ a.natAbs) (aQ b.natAbs) (by rw [aA];omega)
 rwa [aA,aA] at this
theorem drI(h:¬b.natAbs=0):val (pad (RS (lim a.natAbs) (lim b.natAbs)) (a.natAbs % b.natAbs))=a.natAbs % b.natAbs:=by
 have:=abQ (aQ a.natAbs) (aQ b.natAbs) (by rw [aA];omega)
 rwa [aA,aA] at this
theorem Xm{r:Nat}(h0:0<r)(h:((decide (a<0) && decide (0<r)) != decide (b<0))=true):(decide (a<0) != decide (b<0))=true:=by rwa [decide_eq_true h0,Bool.and_true] at h
theorem Yt{r:Nat}(h0:0<r)(h:((decide (a<0) && decide (0<r)) != decide (b<0))=false):¬(decide (a<0) != decide (b<0))=true:=by rw [decide_eq_true h0,Bool.and_true] at h;rw [h];decide
theorem agz(h:sz a≤1000000000)(s:Bool):sz (dW s (a.natAbs / b.natAbs))≤1000000000:=Nat.le_trans (zG _ _ a (Nat.div_le_self _ _)) h
theorem afH(h:sz a≤1000000000)(s:Bool):sz (dW s (a.natAbs % b.natAbs))≤1000000000:=Nat.le_trans (zG _ _ a (Nat.mod_le _ _)) h
theorem aga:sz 1≤1000000000:=Nat.le_trans (gZ (by decide) (by decide)) (by decide)
end
section
variable {a b:Int} {m n:Nat}
theorem ag7(h1:(lim m).length≤1000000000)(h2:(lim n).length≤1000000000)(h:(((lim n).length:Nat):Int) > 0):(lim m).length≤1000000000∧(lim n).length≤1000000000∧CanL (lim m)∧CanL (lim n)∧0<val (lim n):=by
 have:=dI (n:=n);exact ⟨h1,h2,CanL.lim _,CanL.lim _,by rw [aA];omega⟩
theorem aaM(h:¬(((lim m).length:Nat):Int) > 2):(lim m).length≤1000000000000∧Lb (lim m)∧val (lim m)<18446744073709551616:=by
 have:=nM (n:=m) (by omega);exact ⟨by omega,aQ _,by rw [aA];omega⟩
theorem afn:some (AV.c (bJ (lim (val (lim m) % val (lim n)))))=some (AV.c (bJ (lim (m % n)))):=by rw [aA,aA]
theorem Yz{x:Nat}(h0:n=0)(hg:Nat.gcd m n=Nat.gcd a.natAbs b.natAbs)(hx:x=m):aB [Z (dW false x)]=Z ((Nat.gcd a.natAbs b.natAbs:Nat):Int):=OJ (by
 subst h0 hx;rw [← hg,Nat.gcd_zero_right];rfl)
theorem gv:some (AV.int .u64 ((val (lim m):Nat):Int))=some (AV.int .u64 ((m:Nat):Int)):=by rw [aA]
theorem glt(h:¬(((lim m).length:Nat):Int) > 2):m<1000000000000000000:=nM (by omega)
theorem aeD(u v:Nat):(u:Int).tmod (v:Int)=((u % v:Nat):Int):=by rw [Int.tmod_eq_emod_of_nonneg (by omega)];rfl
theorem gm2{u v:Nat}:some (AV.int .u64 ((u:Int).tmod (v:Int)))=some (AV.int .u64 ((u % v:Nat):Int)):=by rw [aeD]
theorem U6(x y:Int)(h:x=y):some (Bk.var [zs x,zl x])=some (Bk.var [zs y,zl y]):=by rw [h]
theorem wif(h:sz ((m:Nat):Int)≤2):some (AV.int .u64 ((if sz ((m:Nat):Int)≤2 then ((m:Nat):Int).natAbs else 0:Nat):Int))=some (AV.int .u64 ((m:Nat):Int)):=by rw [if_pos h];rfl
theorem afm(h1:sz ((m:Nat):Int)≤1000000000)(h2:sz ((n:Nat):Int)≤1000000000)(h:(((lim ((n:Nat):Int).natAbs).length:Nat):Int) > 0):(lim ((m:Nat):Int).natAbs).length≤100000000000∧(lim ((n:Nat):Int).natAbs).length≤100000000000∧Lb (lim ((m:Nat):Int).natAbs)∧Lb (lim ((n:Nat):Int).natAbs)∧0<val (lim ((n:Nat):Int).natAbs):=by
 have:=dI (n:=((n:Nat):Int).natAbs);have k:=QN h1 h2 (by omega);rw [aA];exact k
theorem gst(h:(((lim ((n:Nat):Int).natAbs).length:Nat):Int) > 0):dW false (val (pad (RS (lim ((m:Nat):Int).natAbs) (lim ((n:Nat):Int).natAbs)) (val (lim ((m:Nat):Int).natAbs) % val (lim ((n:Nat):Int).natAbs))))=((m % n:Nat):Int):=by
 have:=dI (n:=((n:Nat):Int).natAbs);rw [aA,aA,drI (by omega)];rfl
theorem agq(h:(((lim ((n:Nat):Int).natAbs).length:Nat):Int) > 0):0<n:=by
 have h2:=dI (n:=((n:Nat):Int).natAbs);rw [Int.natAbs_natCast] at h2 h;omega
theorem aee(h:¬(((lim ((n:Nat):Int).natAbs).length:Nat):Int) > 0):n=0:=by
 have h2:=dI (n:=((n:Nat):Int).natAbs);rw [Int.natAbs_natCast] at h2 h;omega
end
end Go.Sw
namespace Go.Proofs.YtmniihkenijjpaaGreatDoor
open Go Go.RowKit Go.Sw
set_option maxRecDepth 100000
set_option maxHeartbeats 8000000
instance aeW(n:Int):DenI Tryz.prog 80 [.int .i64 n] (-9223372036854775808≤n∧n≤9223372036854775807) (Z n):=⟨λhp=>by
 refine aI Tryz.func80 rfl ?_
 repeat' ((try (conv=>whnf));first
  |(with_reducible refine au (λ_=>?_) (λ_=>?_)))
 all_goals (try ((conv=>whnf);simp (disch:=omega) only [VY,Uu]))
 all_goals (repeat' ((try (conv=>whnf));first
  |refine ak ?_ ?_
  |refine Ends.mk ?_))
 all_goals (try refine Pr.mk ?_)
 all_goals first
  |exact aQ _
  |omega
  |(refine OJ ?_;rw [aA];first|exact Ry (by omega)|exact VE (by omega))⟩
instance ae2(n:Int):DenI Tryz.prog 199 [.int .i64 n] (-9223372036854775808≤n∧n≤9223372036854775807) (Z n):=⟨λhp=>by
 refine aI Tryz.func199 rfl ?_
 repeat' ((try (conv=>whnf));first
  |(with_reducible refine au (λ_=>?_) (λ_=>?_)))
 all_goals (try ((conv=>whnf);simp (disch:=omega) only [VY,Uu]))
 all_goals (repeat' ((try (conv=>whnf));first
  |refine ak ?_ ?_
  |refine Ends.mk ?_))
 all_goals (try refine Pr.mk ?_)
 all_goals first
  |exact lQ _ _
  |omega
  |(refine OJ ?_;rw [kY _ _ (by omega)];first|exact Ry (by omega)|exact VE (by omega)|exact zy n)⟩
instance afg(a:Int):DenI Tryz.prog 65 [Z a] (True) (.int .i64 (jo a)):=⟨λhp=>by
 refine aI Tryz.func65 rfl ?_
 repeat' ((try (conv=>whnf));first
  |refine aG ?_
  |refine ak ?_ ?_
  |(with_reducible refine aJ ?_)
  |(with_reducible refine aK ?_)
  |(with_reducible refine au (λ_=>?_) (λ_=>?_))
  |(with_reducible refine bG (λ_=>?_) (λ_=>?_))
  |refine OnB.mk (λ_=>?_) (λ_=>?_)
  |refine aU ?_ ?_
  |refine Drw.mk (by kernel_rfl) ?_
  |refine dH ?_ ?_
  |refine dF ?_ ?_
  |(with_reducible refine bH ?_ ?_)
  |(with_reducible refine bF ?_)
  |(with_reducible refine bM ?_)
  |refine Ends.mk ?_)
 all_goals (try refine Pr.mk ?_)
 all_goals (try simp only [List.length_map] at *)
 all_goals first
  |with_reducible exact ZE (by omega)
  |with_reducible exact Zq (by omega)
  |with_reducible exact ZG (by omega) (by omega)
  |skip⟩
instance ae9(a:Int):DenI Tryz.prog 90 [Z a] (True) (.int .i64 (jo a)):=⟨λhp=>by
 refine aI Tryz.func90 rfl ?_
 repeat' ((try (conv=>whnf));first
  |(with_reducible refine au (λ_=>?_) (λ_=>?_))
  |refine Ends.mk ?_)
 all_goals (try simp only [List.length_map] at *)
 all_goals first
  |with_reducible exact ZE (by omega)
  |with_reducible exact Zq (by omega)
  |with_reducible exact ZG (by omega) (by omega)⟩
instance af6(a b:Int):DenI Tryz.prog 70 [Z a,Z b] (True) (.int .i64 (jk a b)):=⟨λhp=>by
 refine aI Tryz.func70 rfl ?_
 repeat' ((try (conv=>whnf));first
  |refine aG ?_
  |refine ak ?_ ?_
  |(with_reducible refine aJ ?_)
  |(with_reducible refine aK ?_)
  |(with_reducible refine au (λ_=>?_) (λ_=>?_))
  |(with_reducible refine bG (λ_=>?_) (λ_=>?_))
  |refine OnB.mk (λ_=>?_) (λ_=>?_)
  |refine aU ?_ ?_
  |refine Drw.mk (by kernel_rfl) ?_
  |refine dH ?_ ?_
  |refine dF ?_ ?_
  |(with_reducible refine bH ?_ ?_)
  |(with_reducible refine bF ?_)
  |(with_reducible refine bM ?_)
  |refine Ends.mk ?_)
 all_goals (try refine Pr.mk ?_)
 all_goals first
  |with_reducible exact ⟨CanL.lim _,CanL.lim _⟩
  |with_reducible exact ⟨aQ _,aQ _⟩
  |with_reducible exact aQ _
  |with_reducible exact lQ _ _
  |with_reducible exact ZL (by assumption) (by assumption)
  |with_reducible exact ZQ (by assumption) (by assumption)
  |with_reducible exact ZB (by assumption) (by assumption)
  |with_reducible exact Zg (by assumption) (by assumption)
  |skip⟩
instance agv(a b:Int):DenI Tryz.prog 157 [Z a,Z b] (True) (.int .i64 (jk a b)):=⟨λhp=>by
 refine aI Tryz.func157 rfl ?_
 repeat' ((try (conv=>whnf));first
  |refine ak ?_ ?_
  |(with_reducible refine au (λ_=>?_) (λ_=>?_))
  |refine OnB.mk (λ_=>?_) (λ_=>?_)
  |refine Ends.mk ?_)
 all_goals (try refine Pr.mk ?_)
 all_goals first
  |with_reducible exact ⟨aQ _,aQ _⟩
  |with_reducible exact ZL (by assumption) (by assumption)
  |with_reducible exact ZQ (by assumption) (by assumption)
  |with_reducible exact ZB (by assumption) (by assumption)
  |with_reducible exact Zg (by assumption) (by assumption)⟩
instance aeV(a b:Int):DenI Tryz.prog 111 [Z a,Z b] (True) (.bool (decide (a=b))):=⟨λhp=>by
 refine aI Tryz.func111 rfl ?_
 repeat' ((try (conv=>whnf));first
  |refine aG ?_
  |refine ak ?_ ?_
  |(with_reducible refine aJ ?_)
  |(with_reducible refine aK ?_)
  |(with_reducible refine au (λ_=>?_) (λ_=>?_))
  |(with_reducible refine bG (λ_=>?_) (λ_=>?_))
  |refine OnB.mk (λ_=>?_) (λ_=>?_)
  |refine aU ?_ ?_
  |refine Drw.mk (by kernel_rfl) ?_
  |refine dH ?_ ?_
  |refine dF ?_ ?_
  |(with_reducible refine bH ?_ ?_)
  |(with_reducible refine bF ?_)
  |(with_reducible refine bM ?_)
  |refine Ends.mk ?_)
 all_goals (try refine Pr.mk ?_)
 all_goals first
  |with_reducible exact ⟨CanL.lim _,CanL.lim _⟩
  |with_reducible exact ⟨aQ _,aQ _⟩
  |with_reducible exact aQ _
  |with_reducible exact lQ _ _
  |with_reducible exact aaX (by assumption)
  |with_reducible exact aat (by assumption)
  |skip⟩
instance afw(a:Int):DenI Tryz.prog 140 [Z a] (sz a≤1000000000) (Z (-a)):=⟨λhp=>by
 refine aI Tryz.func140 rfl ?_
 repeat' ((try (conv=>whnf));first
  |refine aG ?_
  |refine ak ?_ ?_
  |(with_reducible refine aJ ?_)
  |(with_reducible refine aK ?_)
  |(with_reducible refine au (λ_=>?_) (λ_=>?_))
  |(with_reducible refine bG (λ_=>?_) (λ_=>?_))
  |refine OnB.mk (λ_=>?_) (λ_=>?_)
  |refine aU ?_ ?_
  |refine Drw.mk (by kernel_rfl) ?_
  |refine dH ?_ ?_
  |refine dF ?_ ?_
  |(with_reducible refine bH ?_ ?_)
  |(with_reducible refine bF ?_)
  |(with_reducible refine bM ?_)
  |refine Ends.mk ?_)
 all_goals (try refine Pr.mk ?_)
 all_goals (try simp only [List.length_map] at *)
 all_goals first
  |with_reducible exact ⟨CanL.lim _,CanL.lim _⟩
  |with_reducible exact ⟨aQ _,aQ _⟩
  |with_reducible exact aQ _
  |with_reducible exact lQ _ _
  |with_reducible exact Zf
  |(unfold sz at hp;omega)
  |skip⟩
instance agu(a:Int):DenI Tryz.prog 155 [Z a] (sz a≤1000000000) (Z (-a)):=⟨λhp=>by
 refine aI Tryz.func155 rfl ?_
 repeat' ((try (conv=>whnf));first
  |refine ak ?_ ?_
  |refine aU ?_ ?_
  |refine Drw.mk (by kernel_rfl) ?_
  |refine Ends.mk ?_)
 all_goals (try refine Pr.mk ?_)
 all_goals (try simp only [List.length_map] at *)
 all_goals first
  |with_reducible exact aQ _
  |with_reducible exact Zf
  |(unfold sz at hp;omega)⟩
instance agy(a b:Int):DenI Tryz.prog 71 [Z a,Z b] (sz a≤1000000000∧sz b≤1000000000) (Z (a*b)):=⟨λhp=>by
 refine aI Tryz.func71 rfl ?_
 repeat' ((try (conv=>whnf));first
  |refine aG ?_
  |refine ak ?_ ?_
  |(with_reducible refine aJ ?_)
  |(with_reducible refine aK ?_)
  |(with_reducible refine au (λ_=>?_) (λ_=>?_))
  |(with_reducible refine bG (λ_=>?_) (λ_=>?_))
  |refine OnB.mk (λ_=>?_) (λ_=>?_)
  |refine aU ?_ ?_
  |refine Drw.mk (by kernel_rfl) ?_
  |refine dH ?_ ?_
  |refine dF ?_ ?_
  |(with_reducible refine bH ?_ ?_)
  |(with_reducible refine bF ?_)
  |(with_reducible refine bM ?_)
  |refine Ends.mk ?_)
 all_goals (try refine Pr.mk ?_)
 all_goals first
  |with_reducible exact ⟨CanL.lim _,CanL.lim _⟩
  |with_reducible exact ⟨aQ _,aQ _⟩
  |with_reducible exact aQ _
  |with_reducible exact lQ _ _
  |with_reducible exact FX hp.1 hp.2
  |with_reducible exact adV
  |with_reducible exact Zp
  |skip⟩
instance afp(a b:Int):DenI Tryz.prog 122 [Z a,Z b] (sz a≤1000000000∧sz b≤1000000000) (Z (a*b)):=⟨λhp=>by
 refine aI Tryz.func122 rfl ?_
 repeat' ((try (conv=>whnf));first
  |refine ak ?_ ?_
  |refine Drw.mk (by kernel_rfl) ?_
  |refine Ends.mk ?_)
 all_goals (try refine Pr.mk ?_)
 all_goals first
  |with_reducible exact lQ _ _
  |with_reducible exact FX hp.1 hp.2
  |with_reducible exact Zp⟩
instance af5(a b:Int):DenI Tryz.prog 109 [Z a,Z b] (sz a≤1000000000∧sz b≤1000000000) (Z (a+b)):=⟨λhp=>by
 refine aI Tryz.func109 rfl ?_
 repeat' ((try (conv=>whnf));first
  |refine aG ?_
  |refine ak ?_ ?_
  |(with_reducible refine aJ ?_)
  |(with_reducible refine aK ?_)
  |(with_reducible refine au (λ_=>?_) (λ_=>?_))
  |(with_reducible refine bG (λ_=>?_) (λ_=>?_))
  |refine OnB.mk (λ_=>?_) (λ_=>?_)
  |refine aU ?_ ?_
  |refine Drw.mk (by kernel_rfl) ?_
  |refine dH ?_ ?_
  |refine dF ?_ ?_
  |(with_reducible refine bH ?_ ?_)
  |(with_reducible refine bF ?_)
  |(with_reducible refine bM ?_)
  |refine Ends.mk ?_)
 all_goals (try refine Pr.mk ?_)
 all_goals first
  |with_reducible exact ⟨CanL.lim _,CanL.lim _⟩
  |with_reducible exact ⟨aQ _,aQ _⟩
  |with_reducible exact aQ _
  |with_reducible exact lQ _ _
  |with_reducible exact FX hp.1 hp.2
  |exact Ai hp.1 hp.2 (pz.1 (by rename_i h;rw [aA,aA] at h;omega))
  |exact Ai hp.2 hp.1 (by rename_i h;rw [aA,aA] at h;have:=mt pz.2 h;omega)
  |exact Ai hp.2 hp.1 (by rename_i h;rw [aA,aA] at h;have:=su.1 h;omega)
  |with_reducible exact adi (by assumption)
  |with_reducible exact adt (by assumption) (by assumption)
  |with_reducible exact adT (by assumption) (by assumption)
  |with_reducible exact Zz (by assumption)
  |with_reducible exact Y6 (by assumption) (by assumption)
  |with_reducible exact Y7 (by assumption) (by assumption)
  |skip⟩
instance agw(a b:Int):DenI Tryz.prog 201 [Z a,Z b] (sz a≤1000000000∧sz b≤1000000000) (Z (a+b)):=⟨λhp=>by
 refine aI Tryz.func201 rfl ?_
 repeat' ((try (conv=>whnf));first
  |refine ak ?_ ?_
  |(with_reducible refine au (λ_=>?_) (λ_=>?_))
  |refine OnB.mk (λ_=>?_) (λ_=>?_)
  |refine Drw.mk (by kernel_rfl) ?_
  |refine Ends.mk ?_)
 all_goals (try refine Pr.mk ?_)
 all_goals first
  |with_reducible exact ⟨aQ _,aQ _⟩
  |with_reducible exact lQ _ _
  |with_reducible exact FX hp.1 hp.2
  |exact Ai hp.1 hp.2 (pz.1 (by rename_i h;rw [aA,aA] at h;omega))
  |exact Ai hp.2 hp.1 (by rename_i h;rw [aA,aA] at h;have:=su.1 h;omega)
  |with_reducible exact Zz (by assumption)
  |with_reducible exact Y6 (by assumption) (by assumption)
  |with_reducible exact Y7 (by assumption) (by assumption)⟩
end Go.Proofs.YtmniihkenijjpaaGreatDoor
namespace Go.Sw
open Go Go.RowKit
section
variable {P:Program} {f:FuncId} {xs:List AV} {w:World} {X:List Nat} {vs:List Value}
theorem N9{u:Value}{x:AV}(h:RepD w X u x):∀(i:Nat) a b,[u][i]?=some a→[x][i]?=some b→RepD w X a b:=λi a b h1 h2=>by
 cases i with
 |zero=>simp at h1 h2;subst h1 h2;exact h
 |succ i=>simp at h1
theorem Ji{u v:Value}{x y:AV}(h:RepD w X u x)(k:RepD w X v y):∀(i:Nat) a b,[u,v][i]?=some a→[x,y][i]?=some b→RepD w X a b:=λi a b h1 h2=>by
 match i with
 |0=>simp at h1 h2;subst h1 h2;exact h
 |1=>simp at h1 h2;subst h1 h2;exact k
 |_+2=>simp at h1
theorem Ug{u:Value}{c:Cell}(h:RepR w X u (.c c)):RepC w X u c:=by
 generalize hv:AV.c c=v at h;cases h with
 |d h =>
  cases h with
  |c h=>injection hv with hv;subst hv;exact h
  |agg h=>cases hv
 |tup _ _=>cases hv
theorem acw{u x:Value}(h:RepC w X u (.v x)):u=x:=by
 generalize hc:Cell.v x=c at h;cases h with
 |v _ _=>injection hc with hc;exact hc.symm
 |sl=>cases hc
 |p=>cases hc
 |fn=>cases hc
theorem Ii{l:List Nat}(h : @Den P (Wld.any P) f xs (.c (bJ l)))(hX:∀m∈X,m<w.heap.size)(hl:vs.length=xs.length)(hr:∀(i:Nat) u v,vs[i]?=some u→xs[i]?=some v→RepD w X u v):Calls P f vs.toArray w (vP λr w'=>UL w' X r l∧Below w.heap.size w w') :=
 ((@Den.old P (Wld.any P) _ _ _ h (o8 hl hr)).2 w X vs trivial hX hl hr).mono λe w' ⟨u,he,hR,hb⟩=>⟨u,he,UL.of_rep (Ug hR.r),hb⟩
theorem abg{x:Value}(h : @Den P (Wld.any P) f xs (.c (.v x)))(hX:∀m∈X,m<w.heap.size)(hl:vs.length=xs.length)(hr:∀(i:Nat) u v,vs[i]?=some u→xs[i]?=some v→RepD w X u v):Calls P f vs.toArray w (vP λr w'=>r=x∧Below w.heap.size w w') :=
 ((@Den.old P (Wld.any P) _ _ _ h (o8 hl hr)).2 w X vs trivial hX hl hr).mono λe w' ⟨u,he,hR,hb⟩=>⟨u,he,acw (Ug hR.r),hb⟩
theorem YX{u:Value}{l m:List Nat}(h:RepR w X u (.tup [.c (bJ l),.c (bJ m)])):∃r0 r1,u=.tuple #[r0,r1]∧UL w X r0 l∧UL w X r1 m:=by
 generalize hv:AV.tup [.c (bJ l),.c (bJ m)]=v at h;cases h with
 |d h=>cases h with
  |c h=>cases hv
  |agg h=>cases hv
 |@tup us vs hl h =>
  injection hv with hv
  subst hv
  match us,hl with
  |[r0,r1],_=>exact ⟨r0,r1,rfl,(h 0 r0 _ rfl rfl).ul,(h 1 r1 _ rfl rfl).ul⟩
theorem acM{l m:List Nat}(h : @Den P (Wld.any P) f xs (.tup [.c (bJ l),.c (bJ m)]))(hX:∀m∈X,m<w.heap.size)(hl:vs.length=xs.length)(hr:∀(i:Nat) u v,vs[i]?=some u→xs[i]?=some v→RepD w X u v):Calls P f vs.toArray w (vP λr w'=>(∃r0 r1,r=.tuple #[r0,r1]∧UL w' X r0 l∧UL w' X r1 m)∧Below w.heap.size w w') :=
 ((@Den.old P (Wld.any P) _ _ _ h (o8 hl hr)).2 w X vs trivial hX hl hr).mono λe w' ⟨u,he,hR,hb⟩=>⟨u,he,YX hR.r,hb⟩
end
end Go.Sw
namespace Go.Proofs.YtmniihkenijjpaaGreatDoor
open Go Go.RowKit Go.Sw
set_option maxRecDepth 100000
set_option maxHeartbeats 8000000
theorem jC{w:World}{X:List Nat}(hX:∀m∈X,m<w.heap.size){v_l:Value}{l:List Nat}(h_l:UL w X v_l (l)):
 Calls Tryz.prog 230 #[v_l] w (vP λr w'=>(UL w' X r (ah l))∧Below w.heap.size w w'):=Ii ((inferInstance:DenI Tryz.prog 230 [.c (bJ l)] _ _).den trivial) hX rfl (N9 (.c h_l.rep))
theorem ou{w:World}{X:List Nat}(hX:∀m∈X,m<w.heap.size){v_l:Value}{l:List Nat}(h_l:UL w X v_l (l)):
 Calls Tryz.prog 142 #[v_l] w (vP λr w'=>(UL w' X r (ah l))∧Below w.heap.size w w'):=Ii ((inferInstance:DenI Tryz.prog 142 [.c (bJ l)] _ _).den trivial) hX rfl (N9 (.c h_l.rep))
theorem vg{w:World}{X:List Nat}(hX:∀m∈X,m<w.heap.size){v_a:Value}{a:List Nat}(h_a:UL w X v_a (a)){v_b:Value}{b:List Nat}(h_b:UL w X v_b (b))(ha:Lb a)(hb:Lb b):
 Calls Tryz.prog 198 #[v_a,v_b] w (vP λr w'=>(r=.int .i64 (eU (val a) (val b)))∧Below w.heap.size w w'):=abg ((inferInstance:DenI Tryz.prog 198 [.c (bJ a),.c (bJ b)] _ _).den ⟨ha,hb⟩) hX rfl (Ji (.c h_a.rep) (.c h_b.rep))
theorem xQ{w:World}{X:List Nat}(hX:∀m∈X,m<w.heap.size){v_a:Value}{a:List Nat}(h_a:UL w X v_a (a)){v_b:Value}{b:List Nat}(h_b:UL w X v_b (b))(ha:CanL a)(hb:CanL b):
 Calls Tryz.prog 106 #[v_a,v_b] w (vP λr w'=>(r=.int .i64 (eU (val a) (val b)))∧Below w.heap.size w w'):=abg ((inferInstance:DenI Tryz.prog 106 [.c (bJ a),.c (bJ b)] _ _).den ⟨ha,hb⟩) hX rfl (Ji (.c h_a.rep) (.c h_b.rep))
theorem sF{w:World}{X:List Nat}(hX:∀m∈X,m<w.heap.size){v_x:Value}{x:List Nat}(h_x:UL w X v_x (x)){v_y:Value}{y:List Nat}(h_y:UL w X v_y (y))(hn_x:x.length≤1000000000000)(hn_y:y.length≤1000000000000)(hb_x:Lb x)(hb_y:Lb y)(hl:y.length≤x.length)(hle:val y≤val x):
 Calls Tryz.prog 144 #[v_x,v_y] w (vP λr w'=>(UL w' X r (lim (val x-val y)))∧Below w.heap.size w w'):=Ii ((inferInstance:DenI Tryz.prog 144 [.c (bJ x),.c (bJ y)] _ _).den ⟨hn_x,hn_y,hb_x,hb_y,hl,hle⟩) hX rfl (Ji (.c h_x.rep) (.c h_y.rep))
theorem rW{w:World}{X:List Nat}(hX:∀m∈X,m<w.heap.size){v_l:Value}{l:List Nat}(h_l:UL w X v_l (l))(hn_l:l.length≤1000000000000)(hb:Lb l)(hv:val l<18446744073709551616):
 Calls Tryz.prog 154 #[v_l] w (vP λr w'=>(r=.int .u64 (((val l:Nat):Int)))∧Below w.heap.size w w'):=abg ((inferInstance:DenI Tryz.prog 154 [.c (bJ l)] _ _).den ⟨hn_l,hb,hv⟩) hX rfl (N9 (.c h_l.rep))
theorem sH{w:World}{X:List Nat}(hX:∀m∈X,m<w.heap.size)(n:Nat)(hv:n<18446744073709551616):
 Calls Tryz.prog 117 #[(.int .u64 ((n:Nat):Int))] w (vP λr w'=>(UL w' X r (lim n))∧Below w.heap.size w w'):=Ii ((inferInstance:DenI Tryz.prog 117 [.int .u64 (n:Nat)] _ _).den hv) hX rfl (N9 (.c (.v _ rfl)))
theorem rQ{w:World}{X:List Nat}(hX:∀m∈X,m<w.heap.size){v_a:Value}{a:List Nat}(h_a:UL w X v_a (a))(b:Nat)(hn_a:a.length≤1000000000000)(hb_a:Lb a)(hb1:b<1000000000):
 Calls Tryz.prog 194 #[v_a,(.int .u32 ((b:Nat):Int))] w (vP λr w'=>(UL w' X r (lim (val a*b)))∧Below w.heap.size w w'):=Ii ((inferInstance:DenI Tryz.prog 194 [.c (bJ a),.int .u32 (b:Nat)] _ _).den ⟨hn_a,hb_a,hb1⟩) hX rfl (Ji (.c h_a.rep) (.c (.v _ rfl)))
theorem nU{w:World}{X:List Nat}(hX:∀m∈X,m<w.heap.size){v_a:Value}{a:List Nat}(h_a:UL w X v_a (a))(b:Nat)(hn_a:a.length≤1000000000000)(hb_a:Lb a)(hb0:0<b)(hb1:b<1000000000):
 Calls Tryz.prog 231 #[v_a,(.int .u32 ((b:Nat):Int))] w (vP λr w'=>(∃qs:List Nat,∃rs:List Nat,∃r0 r1,r=.tuple #[r0,r1]∧UL w' X r0 (qs)∧UL w' X r1 (rs)∧Lb qs∧Lb rs∧val a=b*val qs+val rs∧val rs<b∧qs.length=a.length∧rs.length=1)∧Below w.heap.size w w'):=(acM ((inferInstance:DenI Tryz.prog 231 [.c (bJ a),.int .u32 (b:Nat)] _ _).den ⟨hn_a,hb_a,hb0,hb1⟩) hX rfl (Ji (.c h_a.rep) (.c (.v _ rfl)))).mono λe w' ⟨u,he,⟨r0,r1,h1,h2,h3⟩,hb⟩=>⟨u,he,⟨_,_,r0,r1,h1,h2,h3,Uj hb_a hb0 hb1⟩,hb⟩
end Go.Proofs.YtmniihkenijjpaaGreatDoor
namespace Go.Proofs.YtmniihkenijjpaaGreatDoor
open Go Go.RowKit Go.Sw
set_option maxRecDepth 20000
namespace TfE
theorem el154:Sw.elemOf Tryz.prog 154=some (#[.int .u32 0],1,4):=by kernel_rfl
theorem one154:iy Tryz.prog 154=true:=by kernel_rfl
theorem size154:(Tryz.prog.info? 154).map (λi=>i.size)=some 1:=by kernel_rfl
theorem sl26:sliceOf Tryz.prog 26=some (154,1):=by kernel_rfl
theorem sls26:(sliceOf Tryz.prog 26).isSome=true:=by kernel_rfl
theorem und152:Tryz.prog.underlying 152=some (TypeDesc.int .u64):=by kernel_rfl
theorem und154:Tryz.prog.underlying 154=some (TypeDesc.int .u32):=by kernel_rfl
theorem unds152:(Tryz.prog.underlying 152).isSome=true:=by kernel_rfl
theorem unds154:(Tryz.prog.underlying 154).isSome=true:=by kernel_rfl
end TfE
set_option maxHeartbeats 4000000 in
theorem pF{w:World}{X:List Nat}(hX:∀m∈X,m<w.heap.size){v_a:Value}{a:List Nat}(h_a:UL w X v_a (a)){v_b:Value}{b:List Nat}(h_b:UL w X v_b (b))(hn_a:a.length≤1000000000000)(hn_b:b.length≤1000000000000)(hb_a:Lb a)(hb_b:Lb b):
 Calls Tryz.prog 161 #[v_a,v_b] w (vP λr w'=>(∃o:List Nat,adM 154 w w' r (o)∧Lb o∧val o=val a*val b∧o.length=a.length+b.length)∧Below w.heap.size w w'):=by
 refine enter (N:=68) (fn:=Tryz.f161) (vs:=[v_a,v_b]) Tryz.func161 rfl rfl rfl ?_;intro fa hF;obtain ⟨A_a,_,c_a,rfl,rfl,hu_a⟩:=h_a;have hl_a:=hu_a.len;have hc_a:=hu_a.cap;obtain ⟨A_b,_,c_b,rfl,rfl,hu_b⟩:=h_b;have hl_b:=hu_b.len;have hc_b:=hu_b.cap;replace hF:Frm 68 fa [(0,(.slice (A_a) (a.length) (c_a))),(1,(.slice (A_b) (b.length) (c_b)))]:=hF;have hS:=St.refl w;refine aC ?_;refine aF ?_;refine pr hF (pa rfl <| PR.nil) ?_;clear hF fa;intro fa hF;refine aj ?_;refine aC ?_;refine aF ?_;refine pr hF (pm rfl <| pg (λ_ hF=>eF TfE.sls26 (hF.ev rfl)) <| pm rfl <| pg (λ_ hF=>eF TfE.sls26 (hF.ev rfl)) <| pg (λ_ hF=>dh (hF.ev rfl) (hF.ev rfl) ig) <| PR.nil) ?_;clear hF fa;intro fa hF;refine st rfl (zQ (X:=X) (nl:=a.length+b.length) (nc:=a.length+b.length) hF hS rfl TfE.sl26 TfE.el154 rfl rfl (by omega) (by omega) (by omega) (by omega) (by omega) (wo _) ?_);intro g1 w2 hg4 hS E3;refine jm ?_;clear hF fa;intro fa hF;rw [Nat.mul_one] at hS;refine pr hF (pa rfl <| PR.nil) ?_;clear hF fa;intro fa hF;refine aj ?_;refine aC ?_;refine aC ?_;refine aF ?_;refine pr hF (pm rfl <| pg (λ_ hF=>eF TfE.sls26 (hF.ev rfl)) <| pm rfl <| PR.nil) ?_;clear hF fa;intro fa hF;refine aj ?_;refine fC ?_;refine qM (λmu fa w'=>∃o:List Nat,∃i:Nat,Frm 68 fa [(0,(.slice (A_a) (a.length) (c_a))),(1,(.slice (A_b) (b.length) (c_b))),(4,(.slice (none) (0) (0))),(5,(.slice (some ⟨g1,0,none⟩) (a.length+b.length) (a.length+b.length))),(18,(.slice (A_a) (a.length) (c_a))),(19,(.int .i64 (((a.length:Nat):Int)))),(20,(.int .i64 (((i:Nat):Int))))]∧St w w' [(g1,154,(us (o)).toArray)]∧Ext w2 (g1 :: X) w' (g1 :: X)∧(i≤a.length)∧(o.length=a.length+b.length)∧(Lb o)∧(val (o.take (i+b.length))=val (a.take i)*val b)∧a.length-i=mu) ?_ ?_
 ·
  exact ⟨_,List.replicate (a.length+b.length) 0,0,(hF.all ⟨rfl,rfl,rfl,rfl,rfl,rfl,(aW rfl (by omega)),trivial⟩),hS,Ext.refl _ _,(by omega),(by simp),(iU _),(by simp [pX,List.take_replicate,val]),rfl⟩
 clear hF fa;intro n0_ fa w' hI;clear hS;obtain ⟨o,i,hF,hS,E6,hi,ho,hbo,hv,rfl⟩:=hI
 rename World=>w5
 refine aC ?_;refine aF ?_;refine pr hF (pg (λ_ hF=>oL (hF.ev rfl) (hF.ev rfl)) <| PR.nil) ?_;clear hF fa;intro fa hF;refine aj ?_;refine aC ?_;refine eY hF rfl (λhc7=>?_) (λhc7=>?_)
 ·
  have hc7p:((i:Nat):Int)<((a.length:Nat):Int):=by first|simpa using hc7|exact bQ hc7|exact bP hc7
  refine dZ ?_;refine cZ ?_;refine aC ?_;refine fC ?_;refine aC ?_;refine aF ?_;refine pr hF (pm rfl <| PR.nil) ?_;clear hF fa;intro fa hF;obtain ⟨ad8,hA9,hq10⟩:=(hu_a.ext (E3.trans E6)).cl.at_ (iG (l:=a) (i:=i) (by omega));refine pr hF (pg (λ_ hF=>iF (j:=i) TfE.sl26 (hF.ev rfl) hA9 (hF.ev rfl) (by omega) (by omega)) <| pg (λ_ hF=>dP TfE.one154 (hF.ev rfl) hq10) <| pa rfl <| pa rfl <| PR.nil) ?_;clear hF fa;intro fa hF;refine aj ?_;refine aC ?_;refine aF ?_;refine pr hF (pa rfl <| PR.nil) ?_;clear hF fa;intro fa hF;refine aj ?_;refine aC ?_;refine aC ?_;refine aF ?_;refine pr hF (pm rfl <| pg (λ_ hF=>eF TfE.sls26 (hF.ev rfl)) <| pm rfl <| PR.nil) ?_;clear hF fa;intro fa hF;refine aj ?_;refine fC ?_;refine qM (λmu fa w'=>∃o2:List Nat,∃cr:Nat,∃k:Nat,Frm 68 fa [(0,(.slice (A_a) (a.length) (c_a))),(1,(.slice (A_b) (b.length) (c_b))),(4,(.slice (none) (0) (0))),(5,(.slice (some ⟨g1,0,none⟩) (a.length+b.length) (a.length+b.length))),(18,(.slice (A_a) (a.length) (c_a))),(19,(.int .i64 (((a.length:Nat):Int)))),(20,(.int .i64 (((i:Nat):Int)))),(21,(.bool (decide (((i:Nat):Int)<((a.length:Nat):Int))))),(6,(.int .i64 (((i:Nat):Int)))),(7,(.int .u32 (((a.getD (i) 0:Nat):Int)))),(25,(.slice (A_b) (b.length) (c_b))),(26,(.int .i64 (((b.length:Nat):Int)))),(8,(.int .u64 (((cr:Nat):Int)))),(27,(.int .i64 (((k:Nat):Int))))]∧St w w' [(g1,154,(us (o2)).toArray)]∧Ext w5 (g1 :: X) w' (g1 :: X)∧(k≤b.length)∧(o2.length=a.length+b.length)∧(Lb o2)∧(cr<1000000000)∧(val (o2.take (i+b.length))+1000000000 ^ (i+k)*cr=val (a.take i)*val b+1000000000 ^ i*(a.getD i 0*val (b.take k)))∧b.length-k=mu) ?_ ?_
  ·
   exact ⟨_,o,0,0,(hF.all ⟨rfl,rfl,rfl,rfl,rfl,rfl,rfl,rfl,rfl,rfl,rfl,rfl,(aW rfl (by omega)),(aW rfl (by omega)),trivial⟩),hS,Ext.refl _ _,(by omega),(ho),(hbo),(by omega),(by simp [val,hv]),rfl⟩
  clear hF fa;intro n1_ fa w' hI;clear hS;obtain ⟨o2,cr,k,hF,hS,E12,hk,ho2,hbo2,hcr,hv2,rfl⟩:=hI
  rename World=>Hr
  have hak:=hb_a.getD i;have hbk:=hb_b.getD k;have hok:=hbo2.getD (i+k);have hca:=AZ hak hbk hok hcr;have hca1:=hca.1;have hca2:=hca.2;refine aC ?_;refine aF ?_;refine pr hF (pg (λ_ hF=>oL (hF.ev rfl) (hF.ev rfl)) <| PR.nil) ?_;clear hF fa;intro fa hF;refine aj ?_;refine aC ?_;refine eY hF rfl (λhc13=>?_) (λhc13=>?_)
  ·
   have hc13p:((k:Nat):Int)<((b.length:Nat):Int):=by first|simpa using hc13|exact bQ hc13|exact bP hc13
   refine dZ ?_;refine cZ ?_;refine aC ?_;refine fC ?_;refine aC ?_;refine aF ?_;refine pr hF (pm rfl <| PR.nil) ?_;clear hF fa;intro fa hF;obtain ⟨ad14,hA15,hq16⟩:=(hu_b.ext ((E3.trans E6).trans E12)).cl.at_ (iG (l:=b) (i:=k) (by omega));refine pr hF (pg (λ_ hF=>iF (j:=k) TfE.sl26 (hF.ev rfl) hA15 (hF.ev rfl) (by omega) (by omega)) <| pg (λ_ hF=>dP TfE.one154 (hF.ev rfl) hq16) <| pa rfl <| pa rfl <| PR.nil) ?_;clear hF fa;intro fa hF;replace hF:Frm 68 fa [(0,(.slice (A_a) (a.length) (c_a))),(1,(.slice (A_b) (b.length) (c_b))),(4,(.slice (none) (0) (0))),(5,(.slice (some ⟨g1,0,none⟩) (a.length+b.length) (a.length+b.length))),(18,(.slice (A_a) (a.length) (c_a))),(19,(.int .i64 (((a.length:Nat):Int)))),(20,(.int .i64 (((i:Nat):Int)))),(21,(.bool (decide (((i:Nat):Int)<((a.length:Nat):Int))))),(6,(.int .i64 (((i:Nat):Int)))),(7,(.int .u32 (((a.getD (i) 0:Nat):Int)))),(25,(.slice (A_b) (b.length) (c_b))),(26,(.int .i64 (((b.length:Nat):Int)))),(8,(.int .u64 (((cr:Nat):Int)))),(27,(.int .i64 (((k:Nat):Int)))),(28,(.bool (decide (((k:Nat):Int)<((b.length:Nat):Int))))),(9,(.int .i64 (((k:Nat):Int)))),(10,(.int .u32 (((b.getD (k) 0:Nat):Int))))]:=(hF.all ⟨rfl,rfl,rfl,rfl,rfl,rfl,rfl,rfl,rfl,rfl,rfl,rfl,rfl,rfl,rfl,rfl,rfl,trivial⟩)
   refine aj ?_;refine aC ?_;refine aF ?_;refine pr hF (pm rfl <| pm rfl <| pm rfl <| pg (λ_ hF=>dh (hF.ev rfl) (hF.ev rfl) ig) <| pg (λ_ hF=>lu (j:=i+k) TfE.sl26 (hF.ev rfl) (hF.ev rfl) (by omega) (by omega)) <| pg (λ_ hF=>iw TfE.one154 (hF.ev rfl) (hS.get 0 rfl) (aa2 (by first|omega|(simp;omega)))) <| pg (λ_ hF=>bV TfE.unds154 TfE.und152 (hF.ev rfl) (jh (by omega))) <| pm rfl <| pg (λ_ hF=>bV TfE.unds154 TfE.und152 (hF.ev rfl) (jh (by omega))) <| pm rfl <| pg (λ_ hF=>bV TfE.unds154 TfE.und152 (hF.ev rfl) (jh (by omega))) <| pg (λ_ hF=>sW (hF.ev rfl) (hF.ev rfl) jS) <| pg (λ_ hF=>dh (hF.ev rfl) (hF.ev rfl) jS) <| pm rfl <| pg (λ_ hF=>dh (hF.ev rfl) (hF.ev rfl) jS) <| pa rfl <| PR.nil) ?_;clear hF fa;intro fa hF;replace hF:Frm 68 fa [(0,(.slice (A_a) (a.length) (c_a))),(1,(.slice (A_b) (b.length) (c_b))),(4,(.slice (none) (0) (0))),(5,(.slice (some ⟨g1,0,none⟩) (a.length+b.length) (a.length+b.length))),(18,(.slice (A_a) (a.length) (c_a))),(19,(.int .i64 (((a.length:Nat):Int)))),(20,(.int .i64 (((i:Nat):Int)))),(21,(.bool (decide (((i:Nat):Int)<((a.length:Nat):Int))))),(6,(.int .i64 (((i:Nat):Int)))),(7,(.int .u32 (((a.getD (i) 0:Nat):Int)))),(25,(.slice (A_b) (b.length) (c_b))),(26,(.int .i64 (((b.length:Nat):Int)))),(8,(.int .u64 (((cr:Nat):Int)))),(27,(.int .i64 (((k:Nat):Int)))),(28,(.bool (decide (((k:Nat):Int)<((b.length:Nat):Int))))),(9,(.int .i64 (((k:Nat):Int)))),(10,(.int .u32 (((b.getD (k) 0:Nat):Int)))),(11,(.int .u64 ((((o2.getD (i+k) 0:Nat):Int)+(((a.getD (i) 0:Nat):Int)*((b.getD (k) 0:Nat):Int)))+((cr:Nat):Int))))]:=(hF.all ⟨rfl,rfl,rfl,rfl,rfl,rfl,rfl,rfl,rfl,rfl,rfl,rfl,rfl,rfl,rfl,rfl,rfl,rfl,trivial⟩)
   refine aj ?_;refine aF ?_;refine pr hF (pm rfl <| pm rfl <| pm rfl <| pg (λ_ hF=>dh (hF.ev rfl) (hF.ev rfl) ig) <| pm rfl <| pg (λ_ hF=>vw (hF.ev rfl) (hF.ev rfl) (by omega) (Dt (x:=((o2.getD (i+k) 0)+((a.getD (i) 0)*(b.getD (k) 0)))+cr) (y:=1000000000) (by omega) (by omega))) <| pg (λ_ hF=>bV TfE.unds152 TfE.und154 (hF.ev rfl) (yK (by omega))) <| pm rfl <| pg (λ_ hF=>oG (hF.ev rfl) (hF.ev rfl) (by omega) (wO (x:=((o2.getD (i+k) 0)+((a.getD (i) 0)*(b.getD (k) 0)))+cr) (y:=1000000000) (by omega) (by omega) (by omega))) <| pg (λ_ hF=>lu (j:=i+k) TfE.sl26 (hF.ev rfl) (hF.ev rfl) (by omega) (by omega)) <| PR.nil) ?_;clear hF fa;intro fa hF;refine st rfl (gG (vs:=#[.int .u32 (((((o2.getD (i+k) 0)+((a.getD (i) 0)*(b.getD (k) 0)))+cr) % 1000000000:Nat):Int)]) (v:=.int .u32 (((((o2.getD (i+k) 0)+((a.getD (i) 0)*(b.getD (k) 0)))+cr) % 1000000000:Nat):Int)) (X:=(g1 :: X)) hF hS 0 rfl (by simp) rfl (eX rfl (by omega)) rfl TfE.size154 rfl (yG (by first|omega|(simp;omega))) ?_);intro w17 hS E18;rw [mG (by first|omega|(simp;omega))] at hS;refine pr hF (pa rfl <| PR.nil) ?_;clear hF fa;intro fa hF;refine fQ ?_;refine qY ?_;refine cZ ?_;refine aF ?_;refine pr hF (pg (λ_ hF=>dh (hF.ev rfl) (hF.ev rfl) ig) <| pm rfl <| PR.nil) ?_;clear hF fa;intro fa hF;refine fQ ?_;refine cZ ?_;exact ⟨_,(by omega),o2.set (i+k) ((((o2.getD (i+k) 0)+((a.getD (i) 0)*(b.getD (k) 0)))+cr) % 1000000000),(((o2.getD (i+k) 0)+((a.getD (i) 0)*(b.getD (k) 0)))+cr) / 1000000000,(k+1),(hF.all ⟨rfl,rfl,rfl,rfl,rfl,rfl,rfl,rfl,rfl,rfl,rfl,rfl,(aW rfl (by omega)),(aW rfl (by omega)),trivial⟩),hS,(E12.trans E18),(by omega),(by simp;omega),(eG hbo2 (by omega)),(by omega),(vJ (by omega) (by omega) hv2 (by omega) rfl rfl),rfl⟩
  have hc13p:¬ (((k:Nat):Int)<((b.length:Nat):Int)):=by first|simpa using hc13|exact bQ hc13|exact bP hc13
  refine lN ?_;refine ng ?_;refine ng ?_;refine zf ?_;refine cZ ?_;refine aF ?_;refine pr hF (pm rfl <| pm rfl <| pm rfl <| pg (λ_ hF=>eF TfE.sls26 (hF.ev rfl)) <| pg (λ_ hF=>dh (hF.ev rfl) (hF.ev rfl) ig) <| pm rfl <| pg (λ_ hF=>bV TfE.unds152 TfE.und154 (hF.ev rfl) (yK (by omega))) <| pg (λ_ hF=>lu (j:=i+b.length) TfE.sl26 (hF.ev rfl) (hF.ev rfl) (by omega) (by omega)) <| PR.nil) ?_;clear hF fa;intro fa hF;refine st rfl (gG (vs:=#[.int .u32 ((cr:Nat):Int)]) (v:=.int .u32 ((cr:Nat):Int)) (X:=(g1 :: X)) hF hS 0 rfl (by simp) rfl (eX rfl (by omega)) rfl TfE.size154 rfl (yG (by first|omega|(simp;omega))) ?_);intro w19 hS E20;rw [mG (by first|omega|(simp;omega))] at hS;replace hF:Frm 68 fa [(0,(.slice (A_a) (a.length) (c_a))),(1,(.slice (A_b) (b.length) (c_b))),(4,(.slice (none) (0) (0))),(5,(.slice (some ⟨g1,0,none⟩) (a.length+b.length) (a.length+b.length))),(18,(.slice (A_a) (a.length) (c_a))),(19,(.int .i64 (((a.length:Nat):Int)))),(20,(.int .i64 (((i:Nat):Int)))),(21,(.bool (decide (((i:Nat):Int)<((a.length:Nat):Int))))),(6,(.int .i64 (((i:Nat):Int)))),(7,(.int .u32 (((a.getD (i) 0:Nat):Int)))),(25,(.slice (A_b) (b.length) (c_b))),(26,(.int .i64 (((b.length:Nat):Int)))),(8,(.int .u64 (((cr:Nat):Int)))),(27,(.int .i64 (((k:Nat):Int)))),(28,(.bool (decide (((k:Nat):Int)<((b.length:Nat):Int)))))]:=(hF.all ⟨rfl,rfl,rfl,rfl,rfl,rfl,rfl,rfl,rfl,rfl,rfl,rfl,rfl,rfl,rfl,trivial⟩)
  refine fQ ?_;refine qY ?_;refine cZ ?_;refine aF ?_;refine pr hF (pg (λ_ hF=>dh (hF.ev rfl) (hF.ev rfl) ig) <| pm rfl <| PR.nil) ?_;clear hF fa;intro fa hF;refine fQ ?_;refine cZ ?_;exact ⟨_,(by omega),o2.set (i+b.length) (cr),(i+1),(hF.all ⟨rfl,rfl,rfl,rfl,rfl,rfl,(aW rfl (by omega)),trivial⟩),hS,((E6.trans E12).trans E20),(by omega),(by simp;omega),(eG hbo2 (by omega)),(yF (by omega) (by rw [show k=b.length by omega] at hv2;exact hv2)),rfl⟩
 have hc7p:¬ (((i:Nat):Int)<((a.length:Nat):Int)):=by first|simpa using hc7|exact bQ hc7|exact bP hc7
 refine lN ?_;refine ng ?_;refine ng ?_;refine zf ?_;refine cZ ?_;refine aC ?_;refine aF ?_;refine pr hF (pm rfl <| pa rfl <| PR.nil) ?_;clear hF fa;intro fa hF;refine aj ?_;refine sJ ?_;rw [bK (l:=o) (by omega),bK (l:=a) (by omega)] at hv;refine aag hF rfl (jd hF rfl) ?_;exact ⟨_,rfl,⟨o,(Own.mk_ (L:=o) (hS.get 0 rfl) (hS.base 0 rfl) (by omega) (by omega) (rfl)),(hbo),(hv),(ho)⟩,hS.below⟩
end Go.Proofs.YtmniihkenijjpaaGreatDoor
