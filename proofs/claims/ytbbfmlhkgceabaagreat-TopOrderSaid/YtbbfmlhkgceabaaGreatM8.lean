/-
  What the functions integer.times, swarfref01.times answer, each out of its text by the abstract run.
  What the functions swarfref01.short, swarfref01.limbs, integer.split, integer.word, integer.byWord, swarfref01.by answer, each out of its text by the abstract run.
  What the functions swarfref01.plus answer, each out of its text by the abstract run.
  What the functions swarfref01.minus, integer.minus answer, each out of its text by the abstract run.
  What the functions integer.plus answer, each out of its text by the abstract run.
  Integers built out of their limbs.
  What the functions swarfref01.FromInt64, integer.FromInt64, swarfref01.Sign, integer.Sign, swarfref01.Cmp, integer.Cmp, swarfref01.Same, swarfref01.Neg, integer.Neg, swarfref01.Mul, integer.Mul, swarfref01.Add, integer.Add answer, each out of its text by the abstract run.
  Contracts over abstract values, said of machine values.
  What the functions answer, each out of its text by the abstract run.
  What the functions times do, each call by call.
  What the functions subtract, restore do, each call by call.
  Conditions: none.
-/
import Derived.Test.YtbbfmlhkgceabaaGreatM7
import Derived.Test.YtbbfmlhkgceabaaGreatChecked
set_option linter.all false
namespace Go.Proofs.YtbbfmlhkgceabaaGreat
open Go Go.RowKit Go.Sw
set_option linter.unusedVariables false
set_option maxRecDepth 100000
set_option maxHeartbeats 8000000
instance i_times(a b:List Nat):DenI Tryz.prog 98 [.c (lmc a),.c (lmc b)] (a.length≤1000000000000∧b.length≤1000000000000∧Lb a∧Lb b) (.c (lmc (pad (a.length+b.length) (val a*val b)))):=⟨λhp=>by
 refine den_len (by kernel_rfl) (λhl=>?_)
 simp only [lenA,lenC,cellsOf,List.length_map,and_true,true_and] at hl
 all_goals refine den_of (τ:=tab) tab_ok mixed_ Tryz.func98 rfl (by kernel_rfl) (by kernel_rfl) (by kernel_rfl) ?_
 all_goals (repeat' ((try (conv=>whnf));first
  |refine call_0 ?_
  |refine call_i ?_ ?_
  |(with_reducible refine onB_t ?_)
  |(with_reducible refine onB_f ?_)
  |(with_reducible refine onB_d (λ_=>?_) (λ_=>?_))
  |(with_reducible refine onB_n (λ_=>?_) (λ_=>?_))
  |refine OnB.mk (λ_=>?_) (λ_=>?_)
  |refine obl_i ?_ ?_
  |refine Drw.mk (by kernel_rfl) ?_
  |refine mks_i ?_ ?_
  |refine slp_i ?_ ?_
  |(with_reducible refine elem_u ?_ ?_)
  |(with_reducible refine elem_0 ?_)
  |(with_reducible refine elem_1 ?_)
  |refine Ends.mk ?_))
 all_goals (try refine Pr.mk ?_)
 all_goals first
  |((conv=>whnf);refine Sw.Loop.inv (α:=List Nat × Nat) (λx=>[(1,.c (lmc b)),(5,.gs 17 (a.length+b.length)),(18,.c (lmc a)),(19,.int .i64 a.length),(20,.int .i64 (x.2:Nat))]) (λx=>[(17,.grow 158 1 (x.1.map λx=>[.v (u32 x)]))]) (λx=>x.2≤a.length∧x.1.length=a.length+b.length∧Lb x.1∧val (x.1.take (x.2+b.length))=val (a.take x.2)*val b) (λx=>a.length-x.2) (List.replicate (a.length+b.length) 0,0) ?_ ?_ ?_ (λx hx=>?_))
  |skip
 all_goals (repeat' ((try (conv=>whnf));first
  |refine call_0 ?_
  |refine call_i ?_ ?_
  |(with_reducible refine onB_t ?_)
  |(with_reducible refine onB_f ?_)
  |(with_reducible refine onB_d (λ_=>?_) (λ_=>?_))
  |(with_reducible refine onB_n (λ_=>?_) (λ_=>?_))
  |refine OnB.mk (λ_=>?_) (λ_=>?_)
  |refine obl_i ?_ ?_
  |refine Drw.mk (by kernel_rfl) ?_
  |refine mks_i ?_ ?_
  |refine slp_i ?_ ?_
  |(with_reducible refine elem_u ?_ ?_)
  |(with_reducible refine elem_0 ?_)
  |(with_reducible refine elem_1 ?_)
  |refine Ends.mk ?_))
 all_goals (try refine Pr.mk ?_)
 all_goals first
  |((conv=>whnf);refine Sw.Loop.inv (α:=List Nat × Nat × Nat) (λy=>[(1,.c (lmc b)),(5,.gs 17 (a.length+b.length)),(6,.int .i64 (x.2:Nat)),(7,.int .u32 (a.getD x.2 0:Nat)),(8,.int .u64 (y.2.1:Nat)),(18,.c (lmc a)),(19,.int .i64 a.length),(20,.int .i64 (x.2:Nat)),(25,.c (lmc b)),(26,.int .i64 b.length),(27,.int .i64 (y.2.2:Nat))]) (λy=>[(17,.grow 158 1 (y.1.map λx=>[.v (u32 x)]))]) (λy=>y.2.2≤b.length∧y.1.length=a.length+b.length∧Lb y.1∧y.2.1<1000000000∧val (y.1.take (x.2+b.length))+1000000000 ^ (x.2+y.2.2)*y.2.1=val (a.take x.2)*val b+1000000000 ^ x.2*(a.getD x.2 0*val (b.take y.2.2))) (λy=>b.length-y.2.2) (x.1,0,0) ?_ ?_ ?_ (λy hy=>?_))
  |skip
 all_goals (repeat' ((try (conv=>whnf));first
  |refine call_0 ?_
  |refine call_i ?_ ?_
  |(with_reducible refine onB_t ?_)
  |(with_reducible refine onB_f ?_)
  |(with_reducible refine onB_d (λ_=>?_) (λ_=>?_))
  |(with_reducible refine onB_n (λ_=>?_) (λ_=>?_))
  |refine OnB.mk (λ_=>?_) (λ_=>?_)
  |refine obl_i ?_ ?_
  |refine Drw.mk (by kernel_rfl) ?_
  |refine mks_i ?_ ?_
  |refine slp_i ?_ ?_
  |(with_reducible refine elem_u ?_ ?_)
  |(with_reducible refine elem_0 ?_)
  |(with_reducible refine elem_1 ?_)
  |refine Ends.mk ?_))
 all_goals (try refine Pr.mk ?_)
 all_goals first|(show SubE _ _;repeat' (first|exact trivial|refine And.intro ?_ ?_))|(show SubB _ _;repeat' (first|exact trivial|refine And.intro ?_ ?_))|skip
 all_goals (try rfl)
 all_goals (try simp (disch:=omega) only [List.length_map,List.length_replicate,Int.toNat_natCast,wi64,tn3] at *)
 all_goals first
  |omega
  |rfl
  |exact zerosU _ _
  |(constructor<;>omega)
  |exact inc64 (by omega)
  |(simp (disch:=omega) only [List.length_map,wi64];omega)
  |exact ⟨by omega,by simp,lb_zeros _,times_z _ _ _ _⟩
  |exact ⟨by omega,hx.2.1,hx.2.2.1,by omega,by simp [val,hx.2.2.2]⟩
  |exact padE hx.2.2.1 hx.2.1 (times_val hx.2.1 (by omega) hx.2.2.2)
  |(have ga:=hp.2.2.1.getD x.2;have gb:=hp.2.2.2.getD y.2.2;have go:=hy.2.2.1.getD (x.2+y.2.2);obtain ⟨c1,c2⟩:=carry_lt ga gb go hy.2.2.2.1;obtain ⟨h1,h2,h3,h4,h5⟩:=hy;(conv=>whnf);exact ⟨(y.1.set (x.2+y.2.2) ((y.1.getD (x.2+y.2.2) 0+a.getD x.2 0*b.getD y.2.2 0+y.2.1) % 1000000000),(y.1.getD (x.2+y.2.2) 0+a.getD x.2 0*b.getD y.2.2 0+y.2.1) / 1000000000,y.2.2+1),⟨⟨rfl,rfl,rfl,rfl,iS (by (try simp (disch:=omega) only [wu32,wu64,wi64,tm9,td9,tn3])<;>omega),rfl,rfl,rfl,rfl,rfl,inc64 (by omega),trivial⟩,⟨setU (by (try simp (disch:=omega) only [wu32,wu64,wi64,tm9,td9,tn3])<;>omega) (by (try simp (disch:=omega) only [wu32,wu64,wi64,tm9,td9,tn3])<;>omega),trivial⟩,⟨by show y.2.2+1≤_;omega,by simp only [List.length_set];exact h2,lb_set h3 (Nat.mod_lt _ (by decide)),c2,times_step (by omega) (by omega) h5 rfl rfl rfl⟩,by show _-(y.2.2+1)<_-y.2.2;omega⟩⟩)
  |(obtain ⟨h1,h2,h3,h4,h5⟩:=hy;(conv=>whnf);exact ⟨(y.1.set (x.2+b.length) y.2.1,x.2+1),⟨⟨rfl,rfl,rfl,rfl,inc64 (by omega),trivial⟩,⟨setU (by (try simp (disch:=omega) only [wu32,wu64,wi64,tm9,td9,tn3])<;>omega) (by (try simp (disch:=omega) only [wu32,wu64,wi64,tm9,td9,tn3])<;>omega),trivial⟩,⟨by show x.2+1≤_;omega,by simp only [List.length_set];exact h2,lb_set h3 h4,times_row (by omega) (by rw [show y.2.2=b.length by omega] at h5;exact h5)⟩,by show _-(x.2+1)<_-x.2;omega⟩⟩)
  |skip⟩
instance ri_times(a b:List Nat):DenI Tryz.prog 143 [.c (lmc a),.c (lmc b)] (a.length≤1000000000000∧b.length≤1000000000000∧Lb a∧Lb b) (.c (lmc (lim (val a*val b)))):=⟨λhp=>by
 refine den_len (by kernel_rfl) (λhl=>?_)
 simp only [lenA,lenC,cellsOf,List.length_map,and_true,true_and] at hl
 all_goals refine den_of (τ:=tab) tab_ok mixed_ Tryz.func143 rfl (by kernel_rfl) (by kernel_rfl) (by kernel_rfl) ?_
 all_goals (repeat' ((try (conv=>whnf));first
  |refine call_0 ?_
  |refine call_i ?_ ?_
  |(with_reducible refine onB_t ?_)
  |(with_reducible refine onB_f ?_)
  |(with_reducible refine onB_d (λ_=>?_) (λ_=>?_))
  |(with_reducible refine onB_n (λ_=>?_) (λ_=>?_))
  |refine OnB.mk (λ_=>?_) (λ_=>?_)
  |refine obl_i ?_ ?_
  |refine Drw.mk (by kernel_rfl) ?_
  |refine mks_i ?_ ?_
  |refine slp_i ?_ ?_
  |(with_reducible refine elem_u ?_ ?_)
  |(with_reducible refine elem_0 ?_)
  |(with_reducible refine elem_1 ?_)
  |refine Ends.mk ?_))
 all_goals (try refine Pr.mk ?_)
 all_goals first
  |((conv=>whnf);refine Sw.Loop.inv (α:=List Nat × Nat) (λx=>[(0,.c (lmc a)),(1,.c (lmc b)),(5,.gs 14 (a.length+b.length)),(6,.int .i64 (x.2:Nat))]) (λx=>[(14,.grow 158 1 (x.1.map λx=>[.v (u32 x)]))]) (λx=>x.2≤a.length∧x.1.length=a.length+b.length∧Lb x.1∧val (x.1.take (x.2+b.length))=val (a.take x.2)*val b) (λx=>a.length-x.2) (List.replicate (a.length+b.length) 0,0) ?_ ?_ ?_ (λx hx=>?_))
  |skip
 all_goals (repeat' ((try (conv=>whnf));first
  |refine call_0 ?_
  |refine call_i ?_ ?_
  |(with_reducible refine onB_t ?_)
  |(with_reducible refine onB_f ?_)
  |(with_reducible refine onB_d (λ_=>?_) (λ_=>?_))
  |(with_reducible refine onB_n (λ_=>?_) (λ_=>?_))
  |refine OnB.mk (λ_=>?_) (λ_=>?_)
  |refine obl_i ?_ ?_
  |refine Drw.mk (by kernel_rfl) ?_
  |refine mks_i ?_ ?_
  |refine slp_i ?_ ?_
  |(with_reducible refine elem_u ?_ ?_)
  |(with_reducible refine elem_0 ?_)
  |(with_reducible refine elem_1 ?_)
  |refine Ends.mk ?_))
 all_goals (try refine Pr.mk ?_)
 all_goals first
  |((conv=>whnf);refine Sw.Loop.inv (α:=List Nat × Nat × Nat) (λy=>[(0,.c (lmc a)),(1,.c (lmc b)),(5,.gs 14 (a.length+b.length)),(6,.int .i64 (x.2:Nat)),(7,.int .u64 (y.2.1:Nat)),(8,.int .i64 (y.2.2:Nat))]) (λy=>[(14,.grow 158 1 (y.1.map λx=>[.v (u32 x)]))]) (λy=>y.2.2≤b.length∧y.1.length=a.length+b.length∧Lb y.1∧y.2.1<1000000000∧val (y.1.take (x.2+b.length))+1000000000 ^ (x.2+y.2.2)*y.2.1=val (a.take x.2)*val b+1000000000 ^ x.2*(a.getD x.2 0*val (b.take y.2.2))) (λy=>b.length-y.2.2) (x.1,0,0) ?_ ?_ ?_ (λy hy=>?_))
  |skip
 all_goals (repeat' ((try (conv=>whnf));first
  |refine call_0 ?_
  |refine call_i ?_ ?_
  |(with_reducible refine onB_t ?_)
  |(with_reducible refine onB_f ?_)
  |(with_reducible refine onB_d (λ_=>?_) (λ_=>?_))
  |(with_reducible refine onB_n (λ_=>?_) (λ_=>?_))
  |refine OnB.mk (λ_=>?_) (λ_=>?_)
  |refine obl_i ?_ ?_
  |refine Drw.mk (by kernel_rfl) ?_
  |refine mks_i ?_ ?_
  |refine slp_i ?_ ?_
  |(with_reducible refine elem_u ?_ ?_)
  |(with_reducible refine elem_0 ?_)
  |(with_reducible refine elem_1 ?_)
  |refine Ends.mk ?_))
 all_goals (try refine Pr.mk ?_)
 all_goals first|(show SubE _ _;repeat' (first|exact trivial|refine And.intro ?_ ?_))|(show SubB _ _;repeat' (first|exact trivial|refine And.intro ?_ ?_))|skip
 all_goals (try rfl)
 all_goals (try simp (disch:=omega) only [List.length_map,List.length_replicate,Int.toNat_natCast,wi64,tn3] at *)
 all_goals first
  |omega
  |rfl
  |exact zerosU _ _
  |(constructor<;>omega)
  |exact inc64 (by omega)
  |(simp (disch:=omega) only [List.length_map,wi64];omega)
  |exact ⟨by omega,by simp,lb_zeros _,times_z _ _ _ _⟩
  |exact ⟨by omega,hx.2.1,hx.2.2.1,by omega,by simp [val,hx.2.2.2]⟩
  |exact lE (by rw [← times_val hx.2.1 (by omega) hx.2.2.2,lim_val _ hx.2.2.1])
  |(have ga:=hp.2.2.1.getD x.2;have gb:=hp.2.2.2.getD y.2.2;have go:=hy.2.2.1.getD (x.2+y.2.2);obtain ⟨c1,c2⟩:=carry_lt ga gb go hy.2.2.2.1;obtain ⟨h1,h2,h3,h4,h5⟩:=hy;(conv=>whnf);exact ⟨(y.1.set (x.2+y.2.2) ((y.1.getD (x.2+y.2.2) 0+a.getD x.2 0*b.getD y.2.2 0+y.2.1) % 1000000000),(y.1.getD (x.2+y.2.2) 0+a.getD x.2 0*b.getD y.2.2 0+y.2.1) / 1000000000,y.2.2+1),⟨⟨rfl,rfl,rfl,rfl,iS (by (try simp (disch:=omega) only [wu32,wu64,wi64,tm9,td9,tn3])<;>omega),inc64 (by omega),trivial⟩,⟨setU (by (try simp (disch:=omega) only [wu32,wu64,wi64,tm9,td9,tn3])<;>omega) (by (try simp (disch:=omega) only [wu32,wu64,wi64,tm9,td9,tn3])<;>omega),trivial⟩,⟨by show y.2.2+1≤_;omega,by simp only [List.length_set];exact h2,lb_set h3 (Nat.mod_lt _ (by decide)),c2,times_step (by omega) (by omega) h5 rfl rfl rfl⟩,by show _-(y.2.2+1)<_-y.2.2;omega⟩⟩)
  |(obtain ⟨h1,h2,h3,h4,h5⟩:=hy;(conv=>whnf);exact ⟨(y.1.set (x.2+b.length) y.2.1,x.2+1),⟨⟨rfl,rfl,rfl,inc64 (by omega),trivial⟩,⟨setU (by (try simp (disch:=omega) only [wu32,wu64,wi64,tm9,td9,tn3])<;>omega) (by (try simp (disch:=omega) only [wu32,wu64,wi64,tm9,td9,tn3])<;>omega),trivial⟩,⟨by show x.2+1≤_;omega,by simp only [List.length_set];exact h2,lb_set h3 h4,times_row (by omega) (by rw [show y.2.2=b.length by omega] at h5;exact h5)⟩,by show _-(x.2+1)<_-x.2;omega⟩⟩)
  |skip⟩
instance ri_short(l:List Nat):DenI Tryz.prog 138 [.c (lmc l)] (l.length≤1000000000000∧Lb l∧val l<18446744073709551616) (.int .u64 ((val l:Nat):Int)):=⟨λhp=>by
 refine den_len (by kernel_rfl) (λhl=>?_)
 simp only [lenA,lenC,cellsOf,List.length_map,and_true,true_and] at hl
 all_goals refine den_of (τ:=tab) tab_ok mixed_ Tryz.func138 rfl (by kernel_rfl) (by kernel_rfl) (by kernel_rfl) ?_
 all_goals (repeat' ((try (conv=>whnf));first
  |refine call_0 ?_
  |refine call_i ?_ ?_
  |(with_reducible refine onB_t ?_)
  |(with_reducible refine onB_f ?_)
  |(with_reducible refine onB_d (λ_=>?_) (λ_=>?_))
  |(with_reducible refine onB_n (λ_=>?_) (λ_=>?_))
  |refine OnB.mk (λ_=>?_) (λ_=>?_)
  |refine obl_i ?_ ?_
  |refine Drw.mk (by kernel_rfl) ?_
  |refine mks_i ?_ ?_
  |refine slp_i ?_ ?_
  |(with_reducible refine elem_u ?_ ?_)
  |(with_reducible refine elem_0 ?_)
  |(with_reducible refine elem_1 ?_)
  |refine Ends.mk ?_))
 all_goals (try refine Pr.mk ?_)
 all_goals first
  |((conv=>whnf);refine Sw.Loop.inv (α:=Nat) (λx=>[(0,.c (lmc l)),(3,.int .u64 (val (l.drop x):Nat)),(4,.int .i64 ((x:Int)-1))]) (λx=>[]) (λx=>x≤l.length) (λx=>x) l.length ?_ ?_ ?_ (λx hx=>?_))
  |skip
 all_goals (repeat' ((try (conv=>whnf));first
  |refine call_0 ?_
  |refine call_i ?_ ?_
  |(with_reducible refine onB_t ?_)
  |(with_reducible refine onB_f ?_)
  |(with_reducible refine onB_d (λ_=>?_) (λ_=>?_))
  |(with_reducible refine onB_n (λ_=>?_) (λ_=>?_))
  |refine OnB.mk (λ_=>?_) (λ_=>?_)
  |refine obl_i ?_ ?_
  |refine Drw.mk (by kernel_rfl) ?_
  |refine mks_i ?_ ?_
  |refine slp_i ?_ ?_
  |(with_reducible refine elem_u ?_ ?_)
  |(with_reducible refine elem_0 ?_)
  |(with_reducible refine elem_1 ?_)
  |refine Ends.mk ?_))
 all_goals (try refine Pr.mk ?_)
 all_goals first|(show SubE _ _;repeat' (first|exact trivial|refine And.intro ?_ ?_))|(show SubB _ _;repeat' (first|exact trivial|refine And.intro ?_ ?_))|skip
 all_goals (try rfl)
 all_goals (try simp (disch:=omega) only [List.length_map,List.length_take,Int.toNat_natCast,List.length_replicate,wi64,wu32,wu64,minl,tn1,tn2,tm9,td9] at *)
 all_goals first
  |omega
  |rfl
  |exact zerosU _ _
  |(constructor<;>omega)
  |(rw [val_drop_all (Nat.le_refl _)];rfl)
  |(refine iE ?_;rw [show x=0 by omega,List.drop_zero])
  |(have hd:=val_drop (l:=l) (k:=x) (by omega) hx;have hle:=val_drop_le l (x-1);have hg:=hp.2.1.getD (x-1);((conv=>whnf);exact ⟨x-1,⟨⟨rfl,iS (by (try simp (disch:=omega) only [wu32,wu64,wi64,tm9,td9,tn1,tn3,tz0,tz1,pk9,dvc,mdc])<;>omega),dec64m (by omega) (by omega),trivial⟩,⟨⟩,(by omega),by show x-1<x;omega⟩⟩))
  |skip⟩
instance ri_limbs(n:Nat):DenI Tryz.prog 90 [.int .u64 (n:Nat)] (n<18446744073709551616) (.c (lmc (lim n))):=⟨λhp=>by
 refine den_len (by kernel_rfl) (λhl=>?_)
 simp only [lenA,lenC,cellsOf,List.length_map,and_true,true_and] at hl
 all_goals refine den_of (τ:=tab) tab_ok mixed_ Tryz.func90 rfl (by kernel_rfl) (by kernel_rfl) (by kernel_rfl) ?_
 all_goals (repeat' ((try (conv=>whnf));first
  |refine call_0 ?_
  |refine call_i ?_ ?_
  |(with_reducible refine onB_t ?_)
  |(with_reducible refine onB_f ?_)
  |(with_reducible refine onB_d (λ_=>?_) (λ_=>?_))
  |(with_reducible refine onB_n (λ_=>?_) (λ_=>?_))
  |refine OnB.mk (λ_=>?_) (λ_=>?_)
  |refine obl_i ?_ ?_
  |refine Drw.mk (by kernel_rfl) ?_
  |refine mks_i ?_ ?_
  |refine slp_i ?_ ?_
  |(with_reducible refine elem_u ?_ ?_)
  |(with_reducible refine elem_0 ?_)
  |(with_reducible refine elem_1 ?_)
  |refine Ends.mk ?_))
 all_goals (try refine Pr.mk ?_)
 all_goals first
  |((conv=>whnf);refine Sw.Loop.ghost 3 11 158 1 ?_ rfl rfl rfl (by decide))
  |skip
 all_goals first
  |((conv=>whnf);refine Sw.Loop.inv (α:=List Nat × Nat) (λx=>[(0,.int .u64 (x.2:Nat)),(3,.gs 11 x.1.length)]) (λx=>[(11,.grow 158 1 (x.1.map λx=>[.v (u32 x)]))]) (λx=>x.2≤n∧lim n=x.1++lim x.2) (λx=>x.2) ([],n) ?_ ?_ ?_ (λx hx=>?_))
  |skip
 all_goals (repeat' ((try (conv=>whnf));first
  |refine call_0 ?_
  |refine call_i ?_ ?_
  |(with_reducible refine onB_t ?_)
  |(with_reducible refine onB_f ?_)
  |(with_reducible refine onB_d (λ_=>?_) (λ_=>?_))
  |(with_reducible refine onB_n (λ_=>?_) (λ_=>?_))
  |refine OnB.mk (λ_=>?_) (λ_=>?_)
  |refine obl_i ?_ ?_
  |refine Drw.mk (by kernel_rfl) ?_
  |refine mks_i ?_ ?_
  |refine slp_i ?_ ?_
  |(with_reducible refine elem_u ?_ ?_)
  |(with_reducible refine elem_0 ?_)
  |(with_reducible refine elem_1 ?_)
  |refine Ends.mk ?_))
 all_goals (try refine Pr.mk ?_)
 all_goals first|(show SubE _ _;repeat' (first|exact trivial|refine And.intro ?_ ?_))|(show SubB _ _;repeat' (first|exact trivial|refine And.intro ?_ ?_))|skip
 all_goals (try rfl)
 all_goals (try simp only [List.length_map,List.length_replicate,Int.toNat_natCast] at *)
 all_goals first
  |omega
  |rfl
  |exact zerosU _ _
  |(constructor<;>omega)
  |exact ⟨Nat.le_refl _,rfl⟩
  |exact limbs_end hx (by omega)
  |(have:=limbs_len hp hx (by omega);simp only [List.length_append,List.length_map,List.length_cons,List.length_nil];omega)
  |(have h2:=hx.1;((conv=>whnf);exact ⟨(x.1++[x.2 % 1000000000],x.2 / 1000000000),⟨⟨iS (by (try simp (disch:=omega) only [wu32,wu64,wi64,tm9,td9,tn1,tn3,tz0,tz1,pk9,dvc,mdc])<;>omega),gsE (by simp),trivial⟩,⟨snocU (by (try simp (disch:=omega) only [wu32,wu64,wi64,tm9,td9,tn1,tn3,tz0,tz1,pk9,dvc,mdc])<;>omega),trivial⟩,(limbs_step hx (by omega)),by show x.2 / 1000000000<x.2;omega⟩⟩))
  |skip⟩
instance i_split(n:Nat):DenI Tryz.prog 136 [.int .u64 (n:Nat)] (n<18446744073709551616) (.c (lmc (pad 3 n))):=⟨λhp=>by
 refine den_len (by kernel_rfl) (λhl=>?_)
 simp only [lenA,lenC,cellsOf,List.length_map,and_true,true_and] at hl
 all_goals refine den_of (τ:=tab) tab_ok mixed_ Tryz.func136 rfl (by kernel_rfl) (by kernel_rfl) (by kernel_rfl) ?_
 all_goals (repeat' ((try (conv=>whnf));first
  |refine call_0 ?_
  |refine call_i ?_ ?_
  |(with_reducible refine onB_t ?_)
  |(with_reducible refine onB_f ?_)
  |(with_reducible refine onB_d (λ_=>?_) (λ_=>?_))
  |(with_reducible refine onB_n (λ_=>?_) (λ_=>?_))
  |refine OnB.mk (λ_=>?_) (λ_=>?_)
  |refine obl_i ?_ ?_
  |refine Drw.mk (by kernel_rfl) ?_
  |refine mks_i ?_ ?_
  |refine slp_i ?_ ?_
  |(with_reducible refine elem_u ?_ ?_)
  |(with_reducible refine elem_0 ?_)
  |(with_reducible refine elem_1 ?_)
  |refine Ends.mk ?_))
 all_goals (try refine Pr.mk ?_)
 all_goals first
  |omega
  |rfl
  |exact zerosU _ _
  |(constructor<;>omega)
  |exact split_fin (by omega) (by (try simp (disch:=omega) only [wu32,wu64,wi64,tm9,td9,tn1,tn3,tz0,tz1,pk9,dvc,mdc])<;>omega) (by (try simp (disch:=omega) only [wu32,wu64,wi64,tm9,td9,tn1,tn3,tz0,tz1,pk9,dvc,mdc])<;>omega) (by (try simp (disch:=omega) only [wu32,wu64,wi64,tm9,td9,tn1,tn3,tz0,tz1,pk9,dvc,mdc])<;>omega)
  |skip⟩
instance i_word(a:Int):DenI Tryz.prog 148 [Z a] (True) (.tup [.int .u64 ((if sz a≤2 then a.natAbs else 0:Nat):Int),.bool (decide (sz a≤2))]):=⟨λhp=>by
 refine den_len (by kernel_rfl) (λhl=>?_)
 simp only [lenA,lenC,cellsOf,List.length_map,and_true,true_and] at hl
 all_goals refine den_of (τ:=tab) tab_ok mixed_ Tryz.func148 rfl (by kernel_rfl) (by kernel_rfl) (by kernel_rfl) ?_
 all_goals (repeat' ((try (conv=>whnf));first
  |refine call_0 ?_
  |refine call_i ?_ ?_
  |(with_reducible refine onB_t ?_)
  |(with_reducible refine onB_f ?_)
  |(with_reducible refine onB_d (λ_=>?_) (λ_=>?_))
  |(with_reducible refine onB_n (λ_=>?_) (λ_=>?_))
  |refine OnB.mk (λ_=>?_) (λ_=>?_)
  |refine obl_i ?_ ?_
  |refine Drw.mk (by kernel_rfl) ?_
  |refine mks_i ?_ ?_
  |refine slp_i ?_ ?_
  |(with_reducible refine elem_u ?_ ?_)
  |(with_reducible refine elem_0 ?_)
  |(with_reducible refine elem_1 ?_)
  |refine Ends.mk ?_))
 all_goals (try refine Pr.mk ?_)
 all_goals (try simp only [List.length_map,List.length_replicate,Int.toNat_natCast] at *)
 all_goals (have g0:=(lb_lim a.natAbs).getD 0;have g1:=(lb_lim a.natAbs).getD 1)
 all_goals first
  |omega
  |rfl
  |exact zerosU _ _
  |(constructor<;>omega)
  |exact word_0 (by omega)
  |exact word_1 (by omega) (by (try simp (disch:=omega) only [wu32,wu64,wi64,tm9,td9,tn1,tn3,tz0,tz1,pk9,dvc,mdc])<;>omega)
  |exact word_2 (by omega) (by (try simp (disch:=omega) only [wu32,wu64,wi64,tm9,td9,tn1,tn3,tz0,tz1,pk9,dvc,mdc])<;>omega)
  |exact word_3 (by omega)
  |skip⟩
instance i_byword(a:List Nat)(b:Nat):DenI Tryz.prog 183 [.c (lmc a),.int .u32 (b:Nat)] (a.length≤1000000000000∧Lb a∧0<b∧b<1000000000) (.tup [.c (lmc (pad a.length (val a / b))),.c (lmc [val a % b])]):=⟨λhp=>by
 refine den_len (by kernel_rfl) (λhl=>?_)
 simp only [lenA,lenC,cellsOf,List.length_map,and_true,true_and] at hl
 all_goals refine den_of (τ:=tab) tab_ok mixed_ Tryz.func183 rfl (by kernel_rfl) (by kernel_rfl) (by kernel_rfl) ?_
 all_goals (repeat' ((try (conv=>whnf));first
  |refine call_0 ?_
  |refine call_i ?_ ?_
  |(with_reducible refine onB_t ?_)
  |(with_reducible refine onB_f ?_)
  |(with_reducible refine onB_d (λ_=>?_) (λ_=>?_))
  |(with_reducible refine onB_n (λ_=>?_) (λ_=>?_))
  |refine OnB.mk (λ_=>?_) (λ_=>?_)
  |refine obl_i ?_ ?_
  |refine Drw.mk (by kernel_rfl) ?_
  |refine mks_i ?_ ?_
  |refine slp_i ?_ ?_
  |(with_reducible refine elem_u ?_ ?_)
  |(with_reducible refine elem_0 ?_)
  |(with_reducible refine elem_1 ?_)
  |refine Ends.mk ?_))
 all_goals (try refine Pr.mk ?_)
 all_goals first
  |((conv=>whnf);refine Sw.Loop.inv (α:=List Nat × Nat × Nat) (λx=>[(0,.c (lmc a)),(1,.int .u32 (b:Nat)),(6,.gs 12 a.length),(7,.int .u64 (x.2.1:Nat)),(8,.int .i64 ((x.2.2:Int)-1))]) (λx=>[(12,.grow 158 1 (x.1.map λx=>[.v (u32 x)]))]) (λx=>x.2.2≤a.length∧x.1.length=a.length∧Lb x.1∧x.2.1<b∧val (a.drop x.2.2)=b*val (x.1.drop x.2.2)+x.2.1) (λx=>x.2.2) (List.replicate a.length 0,0,a.length) ?_ ?_ ?_ (λx hx=>?_))
  |skip
 all_goals (repeat' ((try (conv=>whnf));first
  |refine call_0 ?_
  |refine call_i ?_ ?_
  |(with_reducible refine onB_t ?_)
  |(with_reducible refine onB_f ?_)
  |(with_reducible refine onB_d (λ_=>?_) (λ_=>?_))
  |(with_reducible refine onB_n (λ_=>?_) (λ_=>?_))
  |refine OnB.mk (λ_=>?_) (λ_=>?_)
  |refine obl_i ?_ ?_
  |refine Drw.mk (by kernel_rfl) ?_
  |refine mks_i ?_ ?_
  |refine slp_i ?_ ?_
  |(with_reducible refine elem_u ?_ ?_)
  |(with_reducible refine elem_0 ?_)
  |(with_reducible refine elem_1 ?_)
  |refine Ends.mk ?_))
 all_goals (try refine Pr.mk ?_)
 all_goals first|(show SubE _ _;repeat' (first|exact trivial|refine And.intro ?_ ?_))|(show SubB _ _;repeat' (first|exact trivial|refine And.intro ?_ ?_))|skip
 all_goals (try rfl)
 all_goals (try simp (disch:=omega) only [List.length_map,List.length_take,Int.toNat_natCast,List.length_replicate,wi64,wu32,wu64,minl,tn1,tn2,tm9,td9] at *)
 all_goals first
  |omega
  |rfl
  |exact zerosU _ _
  |(constructor<;>omega)
  |exact ⟨by omega,by simp,lb_zeros _,by omega,by rw [val_drop_all (Nat.le_refl _),val_drop_all (by simp)];simp⟩
  |(have h2:=hx.2.2.2.2;rw [show x.2.2=0 by omega] at h2;exact byw_fin hp.2.2.1 hx.2.2.2.1 hx.2.1 hx.2.2.1 h2)
  |(have ga:=hp.2.1.getD (x.2.2-1);have c4:=Int.natCast_nonneg ((x.2.1*1000000000+a.getD (x.2.2-1) 0) / b);obtain ⟨c1,c2,c3⟩:=byword_lt hx.2.2.2.1 hp.2.2.2 ga (t:=_) rfl;obtain ⟨h1,h2,h3,h4,h5⟩:=hx;((conv=>whnf);exact ⟨(x.1.set (x.2.2-1) ((x.2.1*1000000000+a.getD (x.2.2-1) 0) / b),(x.2.1*1000000000+a.getD (x.2.2-1) 0) % b,x.2.2-1),⟨⟨rfl,rfl,rfl,iS (by (try simp (disch:=omega) only [wu32,wu64,wi64,tm9,td9,tn1,tn3,tz0,tz1,pk9,dvc,mdc])<;>omega),dec64m (by omega) (by omega),trivial⟩,⟨setU (by (try simp (disch:=omega) only [wu32,wu64,wi64,tm9,td9,tn1,tn3,tz0,tz1,pk9,dvc,mdc])<;>omega) (by (try simp (disch:=omega) only [wu32,wu64,wi64,tm9,td9,tn1,tn3,tz0,tz1,pk9,dvc,mdc])<;>omega),trivial⟩,⟨by show x.2.2-1≤_;omega,by simp only [List.length_set];exact h2,lb_set h3 c1,c2,byword_step (by omega) h1 (by omega) h5 rfl rfl⟩,by show x.2.2-1<x.2.2;omega⟩⟩))
  |skip⟩
instance(b:Nat):DenI Tryz.prog 140 [.c (.sl 1 [[.v (.int .u32 (b:Nat))]])] True (.c (lmc (trimz [b]))):=⟨λhp=>(inferInstance:DenI Tryz.prog 140 [.c (lmc [b])] _ _).den hp⟩
instance ri_by(a:List Nat)(b:Nat):DenI Tryz.prog 182 [.c (lmc a),.int .u32 (b:Nat)] (a.length≤1000000000000∧Lb a∧b<1000000000) (.c (lmc (lim (val a*b)))):=⟨λhp=>by
 refine den_len (by kernel_rfl) (λhl=>?_)
 simp only [lenA,lenC,cellsOf,List.length_map,and_true,true_and] at hl
 all_goals refine den_of (τ:=tab) tab_ok mixed_ Tryz.func182 rfl (by kernel_rfl) (by kernel_rfl) (by kernel_rfl) ?_
 all_goals (repeat' ((try (conv=>whnf));first
  |refine call_0 ?_
  |refine call_i ?_ ?_
  |(with_reducible refine onB_t ?_)
  |(with_reducible refine onB_f ?_)
  |(with_reducible refine onB_d (λ_=>?_) (λ_=>?_))
  |(with_reducible refine onB_n (λ_=>?_) (λ_=>?_))
  |refine OnB.mk (λ_=>?_) (λ_=>?_)
  |refine obl_i ?_ ?_
  |refine Drw.mk (by kernel_rfl) ?_
  |refine mks_i ?_ ?_
  |refine slp_i ?_ ?_
  |(with_reducible refine elem_u ?_ ?_)
  |(with_reducible refine elem_0 ?_)
  |(with_reducible refine elem_1 ?_)
  |refine Ends.mk ?_))
 all_goals (try refine Pr.mk ?_)
 all_goals first
  |exact ⟨hp.1,by have:=trimz_length_le [b];simp at this;omega,hp.2.1,trimz_lb (Lb.cons hp.2.2 Lb.nil)⟩
  |(refine lE ?_;rw [val_trimz];simp [val])
  |skip⟩
instance ri_plus(a b:List Nat):DenI Tryz.prog 144 [.c (lmc a),.c (lmc b)] (a.length≤1000000000000∧b.length≤1000000000000∧Lb a∧Lb b) (.c (lmc (lim (val a+val b)))):=⟨λhp=>by
 refine den_len (by kernel_rfl) (λhl=>?_)
 simp only [lenA,lenC,cellsOf,List.length_map,and_true,true_and] at hl
 all_goals refine den_of (τ:=tab) tab_ok mixed_ Tryz.func144 rfl (by kernel_rfl) (by kernel_rfl) (by kernel_rfl) ?_
 all_goals (repeat' ((try (conv=>whnf));first
  |refine call_0 ?_
  |refine call_i ?_ ?_
  |(with_reducible refine onB_t ?_)
  |(with_reducible refine onB_f ?_)
  |(with_reducible refine onB_d (λ_=>?_) (λ_=>?_))
  |(with_reducible refine onB_n (λ_=>?_) (λ_=>?_))
  |refine OnB.mk (λ_=>?_) (λ_=>?_)
  |refine obl_i ?_ ?_
  |refine Drw.mk (by kernel_rfl) ?_
  |refine mks_i ?_ ?_
  |refine slp_i ?_ ?_
  |(with_reducible refine elem_u ?_ ?_)
  |(with_reducible refine elem_0 ?_)
  |(with_reducible refine elem_1 ?_)
  |refine Ends.mk ?_))
 all_goals (try refine Pr.mk ?_)
 all_goals (try simp (disch:=omega) only [List.length_map,List.length_take,Int.toNat_natCast,List.length_replicate,wi64,wu32,wu64,minl,tn1,tn2,tm9,td9] at *)
 all_goals first
  |(have hh:b.length≤a.length:=(by omega);(conv=>whnf);refine Sw.Loop.inv (α:=List Nat × Nat × Nat) (λx=>[(0,.c (lmc a)),(1,.c (lmc b)),(5,.gs 18 (a.length+1)),(6,.int .u32 (x.2.1:Nat)),(7,.int .i64 (x.2.2:Nat))]) (λx=>[(18,.grow 158 1 (x.1.map λx=>[.v (u32 x)]))]) (λx=>x.2.2≤a.length∧x.1.length=a.length+1∧Lb x.1∧x.2.1≤1∧val (x.1.take x.2.2)+1000000000 ^ x.2.2*x.2.1=val (a.take x.2.2)+val (b.take x.2.2)) (λx=>a.length-x.2.2) (List.replicate (a.length+1) 0,0,0) ?_ ?_ ?_ (λx hx=>?_))
  |(have hh:a.length≤b.length:=(by omega);(conv=>whnf);refine Sw.Loop.inv (α:=List Nat × Nat × Nat) (λx=>[(0,.c (lmc b)),(1,.c (lmc a)),(5,.gs 18 (b.length+1)),(6,.int .u32 (x.2.1:Nat)),(7,.int .i64 (x.2.2:Nat))]) (λx=>[(18,.grow 158 1 (x.1.map λx=>[.v (u32 x)]))]) (λx=>x.2.2≤b.length∧x.1.length=b.length+1∧Lb x.1∧x.2.1≤1∧val (x.1.take x.2.2)+1000000000 ^ x.2.2*x.2.1=val (b.take x.2.2)+val (a.take x.2.2)) (λx=>b.length-x.2.2) (List.replicate (b.length+1) 0,0,0) ?_ ?_ ?_ (λx hx=>?_))
  |skip
 all_goals (repeat' ((try (conv=>whnf));first
  |refine call_0 ?_
  |refine call_i ?_ ?_
  |(with_reducible refine onB_t ?_)
  |(with_reducible refine onB_f ?_)
  |(with_reducible refine onB_d (λ_=>?_) (λ_=>?_))
  |(with_reducible refine onB_n (λ_=>?_) (λ_=>?_))
  |refine OnB.mk (λ_=>?_) (λ_=>?_)
  |refine obl_i ?_ ?_
  |refine Drw.mk (by kernel_rfl) ?_
  |refine mks_i ?_ ?_
  |refine slp_i ?_ ?_
  |(with_reducible refine elem_u ?_ ?_)
  |(with_reducible refine elem_0 ?_)
  |(with_reducible refine elem_1 ?_)
  |refine Ends.mk ?_))
 all_goals (try refine Pr.mk ?_)
 all_goals first|(show SubE _ _;repeat' (first|exact trivial|refine And.intro ?_ ?_))|(show SubB _ _;repeat' (first|exact trivial|refine And.intro ?_ ?_))|skip
 all_goals (try rfl)
 all_goals (try simp only [List.length_map,List.length_replicate,Int.toNat_natCast] at *)
 all_goals first
  |omega
  |rfl
  |exact zerosU _ _
  |(constructor<;>omega)
  |(obtain ⟨h1,h2,h3,h4,h5⟩:=hx;have ga:=hp.2.2.1.getD x.2.2;have gb:=hp.2.2.2.getD x.2.2;have gz:=getD_none (l:=b) (k:=x.2.2) (by omega);(conv=>whnf);exact ⟨(x.1.set x.2.2 ((x.2.1+a.getD x.2.2 0+b.getD x.2.2 0) % 1000000000),(x.2.1+a.getD x.2.2 0+b.getD x.2.2 0) / 1000000000,x.2.2+1),⟨⟨rfl,rfl,rfl,iS (by (try simp (disch:=omega) only [wu32,wu64,wi64,tm9,td9])<;>omega),inc64 (by omega),trivial⟩,⟨setU rfl (by (try simp (disch:=omega) only [wu32,wu64,wi64,tm9,td9])<;>omega),trivial⟩,⟨by show x.2.2+1≤_;omega,by simp only [List.length_set];exact h2,lb_set h3 (Nat.mod_lt _ (by decide)),by show _ / 1000000000≤1;omega,plus_step (by omega) h5 rfl rfl rfl⟩,by show _-(x.2.2+1)<_-x.2.2;omega⟩⟩)
  |(obtain ⟨h1,h2,h3,h4,h5⟩:=hx;have ga:=hp.2.2.1.getD x.2.2;have gb:=hp.2.2.2.getD x.2.2;(conv=>whnf);exact ⟨(x.1.set x.2.2 ((x.2.1+a.getD x.2.2 0+b.getD x.2.2 0) % 1000000000),(x.2.1+a.getD x.2.2 0+b.getD x.2.2 0) / 1000000000,x.2.2+1),⟨⟨rfl,rfl,rfl,iS (by (try simp (disch:=omega) only [wu32,wu64,wi64,tm9,td9])<;>omega),inc64 (by omega),trivial⟩,⟨setU rfl (by (try simp (disch:=omega) only [wu32,wu64,wi64,tm9,td9])<;>omega),trivial⟩,⟨by show x.2.2+1≤_;omega,by simp only [List.length_set];exact h2,lb_set h3 (Nat.mod_lt _ (by decide)),by show _ / 1000000000≤1;omega,plus_step (by omega) h5 rfl rfl rfl⟩,by show _-(x.2.2+1)<_-x.2.2;omega⟩⟩)
  |(obtain ⟨h1,h2,h3,h4,h5⟩:=hx;have ga:=hp.2.2.2.getD x.2.2;have gb:=hp.2.2.1.getD x.2.2;have gz:=getD_none (l:=a) (k:=x.2.2) (by omega);(conv=>whnf);exact ⟨(x.1.set x.2.2 ((x.2.1+b.getD x.2.2 0+a.getD x.2.2 0) % 1000000000),(x.2.1+b.getD x.2.2 0+a.getD x.2.2 0) / 1000000000,x.2.2+1),⟨⟨rfl,rfl,rfl,iS (by (try simp (disch:=omega) only [wu32,wu64,wi64,tm9,td9])<;>omega),inc64 (by omega),trivial⟩,⟨setU rfl (by (try simp (disch:=omega) only [wu32,wu64,wi64,tm9,td9])<;>omega),trivial⟩,⟨by show x.2.2+1≤_;omega,by simp only [List.length_set];exact h2,lb_set h3 (Nat.mod_lt _ (by decide)),by show _ / 1000000000≤1;omega,plus_step (by omega) h5 rfl rfl rfl⟩,by show _-(x.2.2+1)<_-x.2.2;omega⟩⟩)
  |(obtain ⟨h1,h2,h3,h4,h5⟩:=hx;have ga:=hp.2.2.2.getD x.2.2;have gb:=hp.2.2.1.getD x.2.2;(conv=>whnf);exact ⟨(x.1.set x.2.2 ((x.2.1+b.getD x.2.2 0+a.getD x.2.2 0) % 1000000000),(x.2.1+b.getD x.2.2 0+a.getD x.2.2 0) / 1000000000,x.2.2+1),⟨⟨rfl,rfl,rfl,iS (by (try simp (disch:=omega) only [wu32,wu64,wi64,tm9,td9])<;>omega),inc64 (by omega),trivial⟩,⟨setU rfl (by (try simp (disch:=omega) only [wu32,wu64,wi64,tm9,td9])<;>omega),trivial⟩,⟨by show x.2.2+1≤_;omega,by simp only [List.length_set];exact h2,lb_set h3 (Nat.mod_lt _ (by decide)),by show _ / 1000000000≤1;omega,plus_step (by omega) h5 rfl rfl rfl⟩,by show _-(x.2.2+1)<_-x.2.2;omega⟩⟩)
  |exact ⟨by omega,by simp,lb_zeros _,by omega,by simp [val]⟩
  |skip
 all_goals (try simp only [setM] at *)
 all_goals (repeat' ((try (conv=>whnf));first
  |refine call_0 ?_
  |refine call_i ?_ ?_
  |(with_reducible refine onB_t ?_)
  |(with_reducible refine onB_f ?_)
  |(with_reducible refine onB_d (λ_=>?_) (λ_=>?_))
  |(with_reducible refine onB_n (λ_=>?_) (λ_=>?_))
  |refine OnB.mk (λ_=>?_) (λ_=>?_)
  |refine obl_i ?_ ?_
  |refine Drw.mk (by kernel_rfl) ?_
  |refine mks_i ?_ ?_
  |refine slp_i ?_ ?_
  |(with_reducible refine elem_u ?_ ?_)
  |(with_reducible refine elem_0 ?_)
  |(with_reducible refine elem_1 ?_)
  |refine Ends.mk ?_))
 all_goals (try refine Pr.mk ?_)
 all_goals first
  |omega
  |rfl
  |exact zerosU _ _
  |(constructor<;>omega)
  |(simp only [List.length_map,List.length_set];omega)
  |exact plus_fin hx.2.1 (by omega) hh hx.2.2.1 hx.2.2.2.1 hx.2.2.2.2 (by omega)
  |skip⟩
instance ri_minus(a b:List Nat):DenI Tryz.prog 146 [.c (lmc a),.c (lmc b)] (a.length≤1000000000000∧b.length≤1000000000000∧Lb a∧Lb b∧b.length≤a.length∧val b≤val a) (.c (lmc (lim (val a-val b)))):=⟨λhp=>by
 refine den_len (by kernel_rfl) (λhl=>?_)
 simp only [lenA,lenC,cellsOf,List.length_map,and_true,true_and] at hl
 all_goals refine den_of (τ:=tab) tab_ok mixed_ Tryz.func146 rfl (by kernel_rfl) (by kernel_rfl) (by kernel_rfl) ?_
 all_goals (repeat' ((try (conv=>whnf));first
  |refine call_0 ?_
  |refine call_i ?_ ?_
  |(with_reducible refine onB_t ?_)
  |(with_reducible refine onB_f ?_)
  |(with_reducible refine onB_d (λ_=>?_) (λ_=>?_))
  |(with_reducible refine onB_n (λ_=>?_) (λ_=>?_))
  |refine OnB.mk (λ_=>?_) (λ_=>?_)
  |refine obl_i ?_ ?_
  |refine Drw.mk (by kernel_rfl) ?_
  |refine mks_i ?_ ?_
  |refine slp_i ?_ ?_
  |(with_reducible refine elem_u ?_ ?_)
  |(with_reducible refine elem_0 ?_)
  |(with_reducible refine elem_1 ?_)
  |refine Ends.mk ?_))
 all_goals (try refine Pr.mk ?_)
 all_goals first
  |((conv=>whnf);refine Sw.Loop.inv (α:=List Nat × Nat × Nat) (λx=>[(0,.c (lmc a)),(1,.c (lmc b)),(5,.gs 11 a.length),(6,.int .u32 (x.2.1:Nat)),(7,.int .i64 (x.2.2:Nat))]) (λx=>[(11,.grow 158 1 (x.1.map λx=>[.v (u32 x)]))]) (λx=>x.2.2≤a.length∧x.1.length=a.length∧Lb x.1∧x.2.1≤1∧val (x.1.take x.2.2)+val (b.take x.2.2)=val (a.take x.2.2)+1000000000 ^ x.2.2*x.2.1) (λx=>a.length-x.2.2) (List.replicate a.length 0,0,0) ?_ ?_ ?_ (λx hx=>?_))
  |skip
 all_goals (repeat' ((try (conv=>whnf));first
  |refine call_0 ?_
  |refine call_i ?_ ?_
  |(with_reducible refine onB_t ?_)
  |(with_reducible refine onB_f ?_)
  |(with_reducible refine onB_d (λ_=>?_) (λ_=>?_))
  |(with_reducible refine onB_n (λ_=>?_) (λ_=>?_))
  |refine OnB.mk (λ_=>?_) (λ_=>?_)
  |refine obl_i ?_ ?_
  |refine Drw.mk (by kernel_rfl) ?_
  |refine mks_i ?_ ?_
  |refine slp_i ?_ ?_
  |(with_reducible refine elem_u ?_ ?_)
  |(with_reducible refine elem_0 ?_)
  |(with_reducible refine elem_1 ?_)
  |refine Ends.mk ?_))
 all_goals (try refine Pr.mk ?_)
 all_goals first|(show SubE _ _;repeat' (first|exact trivial|refine And.intro ?_ ?_))|(show SubB _ _;repeat' (first|exact trivial|refine And.intro ?_ ?_))|skip
 all_goals (try rfl)
 all_goals (try simp only [List.length_map,List.length_replicate,Int.toNat_natCast] at *)
 all_goals first
  |omega
  |rfl
  |exact zerosU _ _
  |(constructor<;>omega)
  |exact ⟨by omega,by simp,lb_zeros _,by omega,by simp [val]⟩
  |exact minus_fin hx.2.2.1 hp.2.2.1 hx.2.1 (by omega) hp.2.2.2.2.1 hp.2.2.2.2.2 hx.2.2.2.2
  |(obtain ⟨h1,h2,h3,h4,h5⟩:=hx;have ga:=hp.2.2.1.getD x.2.2;have gb:=hp.2.2.2.1.getD x.2.2;have gz:=getD_none (l:=b) (k:=x.2.2) (by omega);(try simp (disch:=omega) only [wu32] at *);(conv=>whnf);exact ⟨(x.1.set x.2.2 ((a.getD x.2.2 0+1000000000-x.2.1-b.getD x.2.2 0) % 1000000000),1-(a.getD x.2.2 0+1000000000-x.2.1-b.getD x.2.2 0) / 1000000000,x.2.2+1),⟨⟨rfl,rfl,rfl,iS (by (try simp (disch:=omega) only [wu32,wu64,wi64,tm9,td9])<;>omega),inc64 (by omega),trivial⟩,⟨setU rfl (by (try simp (disch:=omega) only [wu32,wu64,wi64,tm9,td9])<;>omega),trivial⟩,⟨by show x.2.2+1≤_;omega,by simp only [List.length_set];exact h2,lb_set h3 (Nat.mod_lt _ (by decide)),by show 1-_ / 1000000000≤1;omega,minus_step (by omega) h5 (by dsimp only;omega)⟩,by show _-(x.2.2+1)<_-x.2.2;omega⟩⟩)
  |(obtain ⟨h1,h2,h3,h4,h5⟩:=hx;have ga:=hp.2.2.1.getD x.2.2;have gb:=hp.2.2.2.1.getD x.2.2;(try simp (disch:=omega) only [wu32] at *);(conv=>whnf);exact ⟨(x.1.set x.2.2 ((a.getD x.2.2 0+1000000000-x.2.1-b.getD x.2.2 0) % 1000000000),1-(a.getD x.2.2 0+1000000000-x.2.1-b.getD x.2.2 0) / 1000000000,x.2.2+1),⟨⟨rfl,rfl,rfl,iS (by (try simp (disch:=omega) only [wu32,wu64,wi64,tm9,td9])<;>omega),inc64 (by omega),trivial⟩,⟨setU rfl (by (try simp (disch:=omega) only [wu32,wu64,wi64,tm9,td9])<;>omega),trivial⟩,⟨by show x.2.2+1≤_;omega,by simp only [List.length_set];exact h2,lb_set h3 (Nat.mod_lt _ (by decide)),by show 1-_ / 1000000000≤1;omega,minus_step (by omega) h5 (by dsimp only;omega)⟩,by show _-(x.2.2+1)<_-x.2.2;omega⟩⟩)⟩
instance i_minus(a b:List Nat):DenI Tryz.prog 105 [.c (lmc a),.c (lmc b)] (a.length≤1000000000000∧b.length≤1000000000000∧Lb a∧Lb b∧b.length≤a.length∧val b≤val a) (.c (lmc (pad a.length (val a-val b)))):=⟨λhp=>by
 refine den_len (by kernel_rfl) (λhl=>?_)
 simp only [lenA,lenC,cellsOf,List.length_map,and_true,true_and] at hl
 all_goals refine den_of (τ:=tab) tab_ok mixed_ Tryz.func105 rfl (by kernel_rfl) (by kernel_rfl) (by kernel_rfl) ?_
 all_goals (repeat' ((try (conv=>whnf));first
  |refine call_0 ?_
  |refine call_i ?_ ?_
  |(with_reducible refine onB_t ?_)
  |(with_reducible refine onB_f ?_)
  |(with_reducible refine onB_d (λ_=>?_) (λ_=>?_))
  |(with_reducible refine onB_n (λ_=>?_) (λ_=>?_))
  |refine OnB.mk (λ_=>?_) (λ_=>?_)
  |refine obl_i ?_ ?_
  |refine Drw.mk (by kernel_rfl) ?_
  |refine mks_i ?_ ?_
  |refine slp_i ?_ ?_
  |(with_reducible refine elem_u ?_ ?_)
  |(with_reducible refine elem_0 ?_)
  |(with_reducible refine elem_1 ?_)
  |refine Ends.mk ?_))
 all_goals (try refine Pr.mk ?_)
 all_goals first
  |((conv=>whnf);refine Sw.Loop.inv (α:=List Nat × Nat × Nat) (λx=>[(1,.c (lmc b)),(5,.gs 12 a.length),(6,.int .u32 (x.2.1:Nat)),(13,.c (lmc a)),(14,.int .i64 a.length),(15,.int .i64 (x.2.2:Nat))]) (λx=>[(12,.grow 158 1 (x.1.map λx=>[.v (u32 x)]))]) (λx=>x.2.2≤a.length∧x.1.length=a.length∧Lb x.1∧x.2.1≤1∧val (x.1.take x.2.2)+val (b.take x.2.2)=val (a.take x.2.2)+1000000000 ^ x.2.2*x.2.1) (λx=>a.length-x.2.2) (List.replicate a.length 0,0,0) ?_ ?_ ?_ (λx hx=>?_))
  |skip
 all_goals (repeat' ((try (conv=>whnf));first
  |refine call_0 ?_
  |refine call_i ?_ ?_
  |(with_reducible refine onB_t ?_)
  |(with_reducible refine onB_f ?_)
  |(with_reducible refine onB_d (λ_=>?_) (λ_=>?_))
  |(with_reducible refine onB_n (λ_=>?_) (λ_=>?_))
  |refine OnB.mk (λ_=>?_) (λ_=>?_)
  |refine obl_i ?_ ?_
  |refine Drw.mk (by kernel_rfl) ?_
  |refine mks_i ?_ ?_
  |refine slp_i ?_ ?_
  |(with_reducible refine elem_u ?_ ?_)
  |(with_reducible refine elem_0 ?_)
  |(with_reducible refine elem_1 ?_)
  |refine Ends.mk ?_))
 all_goals (try refine Pr.mk ?_)
 all_goals first|(show SubE _ _;repeat' (first|exact trivial|refine And.intro ?_ ?_))|(show SubB _ _;repeat' (first|exact trivial|refine And.intro ?_ ?_))|skip
 all_goals (try rfl)
 all_goals (try simp only [List.length_map,List.length_replicate,Int.toNat_natCast] at *)
 all_goals first
  |omega
  |rfl
  |exact zerosU _ _
  |(constructor<;>omega)
  |(obtain ⟨h1,h2,h3,h4,h5⟩:=hx;have ga:=hp.2.2.1.getD x.2.2;have gb:=hp.2.2.2.1.getD x.2.2;have gz:=getD_none (l:=b) (k:=x.2.2) (by omega);(try simp (disch:=omega) only [wu32] at *);(conv=>whnf);exact ⟨(x.1.set x.2.2 ((a.getD x.2.2 0+1000000000-x.2.1-b.getD x.2.2 0) % 1000000000),1-(a.getD x.2.2 0+1000000000-x.2.1-b.getD x.2.2 0) / 1000000000,x.2.2+1),⟨⟨rfl,rfl,iS (by (try simp (disch:=omega) only [wu32,wu64,wi64,tm9,td9])<;>omega),rfl,rfl,inc64 (by omega),trivial⟩,⟨setU rfl (by (try simp (disch:=omega) only [wu32,wu64,wi64,tm9,td9])<;>omega),trivial⟩,⟨by show x.2.2+1≤_;omega,by simp only [List.length_set];exact h2,lb_set h3 (Nat.mod_lt _ (by decide)),by show 1-_ / 1000000000≤1;omega,minus_step (by omega) h5 (by dsimp only;omega)⟩,by show _-(x.2.2+1)<_-x.2.2;omega⟩⟩)
  |(obtain ⟨h1,h2,h3,h4,h5⟩:=hx;have ga:=hp.2.2.1.getD x.2.2;have gb:=hp.2.2.2.1.getD x.2.2;(try simp (disch:=omega) only [wu32] at *);(conv=>whnf);exact ⟨(x.1.set x.2.2 ((a.getD x.2.2 0+1000000000-x.2.1-b.getD x.2.2 0) % 1000000000),1-(a.getD x.2.2 0+1000000000-x.2.1-b.getD x.2.2 0) / 1000000000,x.2.2+1),⟨⟨rfl,rfl,iS (by (try simp (disch:=omega) only [wu32,wu64,wi64,tm9,td9])<;>omega),rfl,rfl,inc64 (by omega),trivial⟩,⟨setU rfl (by (try simp (disch:=omega) only [wu32,wu64,wi64,tm9,td9])<;>omega),trivial⟩,⟨by show x.2.2+1≤_;omega,by simp only [List.length_set];exact h2,lb_set h3 (Nat.mod_lt _ (by decide)),by show 1-_ / 1000000000≤1;omega,minus_step (by omega) h5 (by dsimp only;omega)⟩,by show _-(x.2.2+1)<_-x.2.2;omega⟩⟩)
  |exact ⟨by omega,by simp,lb_zeros _,by omega,by simp [val]⟩
  |exact padE hx.2.2.1 hx.2.1 (minus_val hx.2.2.1 hp.2.2.1 hx.2.1 (by omega) hp.2.2.2.2.1 hp.2.2.2.2.2 hx.2.2.2.2)
  |skip⟩
instance i_plus(a b:List Nat):DenI Tryz.prog 104 [.c (lmc a),.c (lmc b)] (a.length≤1000000000000∧b.length≤1000000000000∧Lb a∧Lb b) (.c (lmc (pad (max a.length b.length+1) (val a+val b)))):=⟨λhp=>by
 refine den_len (by kernel_rfl) (λhl=>?_)
 simp only [lenA,lenC,cellsOf,List.length_map,and_true,true_and] at hl
 all_goals refine den_of (τ:=tab) tab_ok mixed_ Tryz.func104 rfl (by kernel_rfl) (by kernel_rfl) (by kernel_rfl) ?_
 all_goals (repeat' ((try (conv=>whnf));first
  |refine call_0 ?_
  |refine call_i ?_ ?_
  |(with_reducible refine onB_t ?_)
  |(with_reducible refine onB_f ?_)
  |(with_reducible refine onB_d (λ_=>?_) (λ_=>?_))
  |(with_reducible refine onB_n (λ_=>?_) (λ_=>?_))
  |refine OnB.mk (λ_=>?_) (λ_=>?_)
  |refine obl_i ?_ ?_
  |refine Drw.mk (by kernel_rfl) ?_
  |refine mks_i ?_ ?_
  |refine slp_i ?_ ?_
  |(with_reducible refine elem_u ?_ ?_)
  |(with_reducible refine elem_0 ?_)
  |(with_reducible refine elem_1 ?_)
  |refine Ends.mk ?_))
 all_goals (try refine Pr.mk ?_)
 all_goals (try simp (disch:=omega) only [List.length_map,List.length_take,Int.toNat_natCast,List.length_replicate,wi64,wu32,wu64,minl,tn1,tn2,tm9,td9] at *)
 all_goals first
  |(have hh:b.length≤a.length:=(by omega);(conv=>whnf);refine Sw.Loop.inv (α:=List Nat × Nat × Nat) (λx=>[(1,.c (lmc b)),(5,.gs 19 x.1.length),(6,.int .u32 (x.2.1:Nat)),(20,.c (lmc a)),(21,.int .i64 a.length),(22,.int .i64 (x.2.2:Nat))]) (λx=>[(19,.grow 158 1 (x.1.map λx=>[.v (u32 x)]))]) (λx=>x.2.2≤a.length∧x.1.length=x.2.2∧Lb x.1∧x.2.1≤1∧val x.1+1000000000 ^ x.2.2*x.2.1=val (a.take x.2.2)+val (b.take x.2.2)) (λx=>a.length-x.2.2) ([],0,0) ?_ ?_ ?_ (λx hx=>?_))
  |(have hh:a.length≤b.length:=(by omega);(conv=>whnf);refine Sw.Loop.inv (α:=List Nat × Nat × Nat) (λx=>[(1,.c (lmc a)),(5,.gs 19 x.1.length),(6,.int .u32 (x.2.1:Nat)),(20,.c (lmc b)),(21,.int .i64 b.length),(22,.int .i64 (x.2.2:Nat))]) (λx=>[(19,.grow 158 1 (x.1.map λx=>[.v (u32 x)]))]) (λx=>x.2.2≤b.length∧x.1.length=x.2.2∧Lb x.1∧x.2.1≤1∧val x.1+1000000000 ^ x.2.2*x.2.1=val (b.take x.2.2)+val (a.take x.2.2)) (λx=>b.length-x.2.2) ([],0,0) ?_ ?_ ?_ (λx hx=>?_))
  |skip
 all_goals (repeat' ((try (conv=>whnf));first
  |refine call_0 ?_
  |refine call_i ?_ ?_
  |(with_reducible refine onB_t ?_)
  |(with_reducible refine onB_f ?_)
  |(with_reducible refine onB_d (λ_=>?_) (λ_=>?_))
  |(with_reducible refine onB_n (λ_=>?_) (λ_=>?_))
  |refine OnB.mk (λ_=>?_) (λ_=>?_)
  |refine obl_i ?_ ?_
  |refine Drw.mk (by kernel_rfl) ?_
  |refine mks_i ?_ ?_
  |refine slp_i ?_ ?_
  |(with_reducible refine elem_u ?_ ?_)
  |(with_reducible refine elem_0 ?_)
  |(with_reducible refine elem_1 ?_)
  |refine Ends.mk ?_))
 all_goals (try refine Pr.mk ?_)
 all_goals first|(show SubE _ _;repeat' (first|exact trivial|refine And.intro ?_ ?_))|(show SubB _ _;repeat' (first|exact trivial|refine And.intro ?_ ?_))|skip
 all_goals (try rfl)
 all_goals (try simp only [List.length_map,List.length_replicate,Int.toNat_natCast] at *)
 all_goals first
  |omega
  |rfl
  |exact zerosU _ _
  |(constructor<;>omega)
  |(obtain ⟨h1,h2,h3,h4,h5⟩:=hx;have ga:=hp.2.2.1.getD x.2.2;have gb:=hp.2.2.2.getD x.2.2;have gz:=getD_none (l:=b) (k:=x.2.2) (by omega);(try simp (disch:=omega) only [wu32] at *);(conv=>whnf);exact ⟨(x.1++[(x.2.1+a.getD x.2.2 0+b.getD x.2.2 0) % 1000000000],(x.2.1+a.getD x.2.2 0+b.getD x.2.2 0) / 1000000000,x.2.2+1),⟨⟨rfl,gsE (by simp),iS (by (try simp (disch:=omega) only [wu32,wu64,wi64,tm9,td9])<;>omega),rfl,rfl,inc64 (by omega),trivial⟩,⟨snocU (by (try simp (disch:=omega) only [wu32,wu64,wi64,tm9,td9])<;>omega),trivial⟩,⟨by show x.2.2+1≤_;omega,by simp only [List.length_append,List.length_cons,List.length_nil];omega,lb_snoc h3 (Nat.mod_lt _ (by decide)),by show _ / 1000000000≤1;omega,plus_snoc h2 h5 rfl rfl rfl⟩,by show _-(x.2.2+1)<_-x.2.2;omega⟩⟩)
  |(obtain ⟨h1,h2,h3,h4,h5⟩:=hx;have ga:=hp.2.2.1.getD x.2.2;have gb:=hp.2.2.2.getD x.2.2;(try simp (disch:=omega) only [wu32] at *);(conv=>whnf);exact ⟨(x.1++[(x.2.1+a.getD x.2.2 0+b.getD x.2.2 0) % 1000000000],(x.2.1+a.getD x.2.2 0+b.getD x.2.2 0) / 1000000000,x.2.2+1),⟨⟨rfl,gsE (by simp),iS (by (try simp (disch:=omega) only [wu32,wu64,wi64,tm9,td9])<;>omega),rfl,rfl,inc64 (by omega),trivial⟩,⟨snocU (by (try simp (disch:=omega) only [wu32,wu64,wi64,tm9,td9])<;>omega),trivial⟩,⟨by show x.2.2+1≤_;omega,by simp only [List.length_append,List.length_cons,List.length_nil];omega,lb_snoc h3 (Nat.mod_lt _ (by decide)),by show _ / 1000000000≤1;omega,plus_snoc h2 h5 rfl rfl rfl⟩,by show _-(x.2.2+1)<_-x.2.2;omega⟩⟩)
  |(obtain ⟨h1,h2,h3,h4,h5⟩:=hx;have ga:=hp.2.2.2.getD x.2.2;have gb:=hp.2.2.1.getD x.2.2;have gz:=getD_none (l:=a) (k:=x.2.2) (by omega);(try simp (disch:=omega) only [wu32] at *);(conv=>whnf);exact ⟨(x.1++[(x.2.1+b.getD x.2.2 0+a.getD x.2.2 0) % 1000000000],(x.2.1+b.getD x.2.2 0+a.getD x.2.2 0) / 1000000000,x.2.2+1),⟨⟨rfl,gsE (by simp),iS (by (try simp (disch:=omega) only [wu32,wu64,wi64,tm9,td9])<;>omega),rfl,rfl,inc64 (by omega),trivial⟩,⟨snocU (by (try simp (disch:=omega) only [wu32,wu64,wi64,tm9,td9])<;>omega),trivial⟩,⟨by show x.2.2+1≤_;omega,by simp only [List.length_append,List.length_cons,List.length_nil];omega,lb_snoc h3 (Nat.mod_lt _ (by decide)),by show _ / 1000000000≤1;omega,plus_snoc h2 h5 rfl rfl rfl⟩,by show _-(x.2.2+1)<_-x.2.2;omega⟩⟩)
  |(obtain ⟨h1,h2,h3,h4,h5⟩:=hx;have ga:=hp.2.2.2.getD x.2.2;have gb:=hp.2.2.1.getD x.2.2;(try simp (disch:=omega) only [wu32] at *);(conv=>whnf);exact ⟨(x.1++[(x.2.1+b.getD x.2.2 0+a.getD x.2.2 0) % 1000000000],(x.2.1+b.getD x.2.2 0+a.getD x.2.2 0) / 1000000000,x.2.2+1),⟨⟨rfl,gsE (by simp),iS (by (try simp (disch:=omega) only [wu32,wu64,wi64,tm9,td9])<;>omega),rfl,rfl,inc64 (by omega),trivial⟩,⟨snocU (by (try simp (disch:=omega) only [wu32,wu64,wi64,tm9,td9])<;>omega),trivial⟩,⟨by show x.2.2+1≤_;omega,by simp only [List.length_append,List.length_cons,List.length_nil];omega,lb_snoc h3 (Nat.mod_lt _ (by decide)),by show _ / 1000000000≤1;omega,plus_snoc h2 h5 rfl rfl rfl⟩,by show _-(x.2.2+1)<_-x.2.2;omega⟩⟩)
  |exact ⟨by omega,rfl,Lb.nil,by omega,by simp [val]⟩
  |(simp only [List.length_map,List.length_append,List.length_cons,List.length_nil];omega)
  |(refine snocE hx.2.2.1 (by omega) (by omega) ?_;have h5:=hx.2.2.2.2;rw [val_take_all (l:=a) (by omega),val_take_all (l:=b) (by omega)] at h5;rw [hx.2.1];omega)
  |(refine snocE hx.2.2.1 (by omega) (by omega) ?_;have h5:=hx.2.2.2.2;rw [val_take_all (l:=b) (by omega),val_take_all (l:=a) (by omega)] at h5;rw [hx.2.1];omega)
  |skip⟩
end Go.Proofs.YtbbfmlhkgceabaaGreat
namespace Go.Sw
open Go
set_option linter.unusedVariables false
theorem wu_pos{n:Int}(h:0≤n)(h2:n≤9223372036854775807):IntKind.u64.wrap n=((n.natAbs:Nat):Int):=by rw [IntKind.wrap_u64];omega
theorem wu_neg{n:Int}(h:n<0)(h2 : -9223372036854775808≤n):IntKind.u64.wrap (0-IntKind.u64.wrap n)=((n.natAbs:Nat):Int):=by rw [IntKind.wrap_u64,IntKind.wrap_u64];omega
theorem zsE{x y:Int}(h:x=y):packA [Z x]=Z y:=by rw [h];rfl
theorem div_pads{a b qs rs:List Nat}(h4:Lb qs)(h5:Lb rs)(h6:val a=val b*val qs+val rs)(h7:val rs<val b)(h8:qs.length=dql a b)(h9:rs.length=drl a b):qs=pad (dql a b) (val a / val b)∧rs=pad (drl a b) (val a % val b):=by
 have h1:val a / val b=val qs:=by rw [h6,Nat.mul_comm,Nat.add_comm,Nat.add_mul_div_right _ _ (by omega),Nat.div_eq_of_lt h7,Nat.zero_add]
 have h2:val a % val b=val rs:=by rw [h6,Nat.mul_add_mod,Nat.mod_eq_of_lt h7]
 rw [h1,h2,← h8,← h9]
 exact ⟨pad_val _ h4,pad_val _ h5⟩
section
variable {a b:Int}
theorem sgn_1(h:(((lim a.natAbs).length:Nat):Int)=0):packA [AV.c (Cell.v (.int .i64 0))]=AV.int .i64 (sgnI a):=iE (by have:=lim_len_zero (n:=a.natAbs);unfold sgnI;repeat' split;all_goals omega)
theorem sgn_2(h:a<0):packA [AV.c (Cell.v (.int .i64 (-1)))]=AV.int .i64 (sgnI a):=iE (by unfold sgnI;repeat' split;all_goals omega)
theorem sgn_3(h:¬a<0)(h2:(((lim a.natAbs).length:Nat):Int) > 0):packA [AV.c (Cell.v (.int .i64 1))]=AV.int .i64 (sgnI a):=iE (by have:=lim_len_zero (n:=a.natAbs);unfold sgnI;repeat' split;all_goals omega)
theorem cmp_1(h:(decide (a<0) != decide (b<0))=true)(ha:a<0):packA [AV.c (Cell.v (.int .i64 (-1)))]=AV.int .i64 (cmpI a b):=iE (by have hb:¬b<0:=(λhb=>by simp [ha,hb] at h);rw [cmpI_lt (by omega)])
theorem cmp_2(h:(decide (a<0) != decide (b<0))=true)(ha:¬a<0):packA [AV.c (Cell.v (.int .i64 1))]=AV.int .i64 (cmpI a b):=iE (by have hb:b<0:=Decidable.byContradiction (λhb=>by simp [ha,hb] at h);rw [cmpI_gt (by omega)])
theorem cmp_3(h:(decide (a<0) != decide (b<0))=false)(ha:a<0):packA [AV.c (Cell.v (.int .i64 (cmpN (val (lim b.natAbs)) (val (lim a.natAbs)))))]=AV.int .i64 (cmpI a b) :=
 iE (by rw [val_lim,val_lim,cmpI_neg ha (Decidable.byContradiction λhb=>by simp [ha,hb] at h)])
theorem cmp_4(h:(decide (a<0) != decide (b<0))=false)(ha:¬a<0):packA [AV.c (Cell.v (.int .i64 (cmpN (val (lim a.natAbs)) (val (lim b.natAbs)))))]=AV.int .i64 (cmpI a b) :=
 iE (by rw [val_lim,val_lim,cmpI_pos ha (λhb=>by simp [ha,hb] at h)])
theorem beq_t(h:(decide (a<0) == decide (b<0))=true):decide (a<0)=decide (b<0):=by simpa using h
theorem beq_f(h:(decide (a<0) == decide (b<0))=false):¬decide (a<0)=decide (b<0):=by simpa using h
theorem same_1(h:(decide (a<0) == decide (b<0))=true):packA [AV.c (Cell.v (.bool (decide (cmpN (val (lim a.natAbs)) (val (lim b.natAbs))=0))))]=AV.bool (decide (a=b)) :=
 bE (by have h:=beq_t h;rw [decide_eq_decide] at h;rw [val_lim,val_lim,decide_eq_decide,cmpN_eq0];omega)
theorem same_2(h:(decide (a<0) == decide (b<0))=false):packA [AV.c (Cell.v (.bool false))]=AV.bool (decide (a=b)) :=
 bE (by have h:=beq_f h;rw [decide_eq_decide] at h;symm;rw [decide_eq_false_iff_not];omega)
theorem neg_1:packA [Z (sgnv (!decide (a<0)) (val (lim a.natAbs)))]=Z (-a):=zsE (by rw [val_lim];exact sgnv_neg a)
theorem mul_1:packA [Z (sgnv (decide (a<0) != decide (b<0)) (val (lim (val (lim a.natAbs)*val (lim b.natAbs)))))]=Z (a*b):=zsE (by rw [val_lim,val_lim,val_lim];exact sgnv_mul a b)
theorem mul_2:packA [Z (sgnv (decide (a<0) != decide (b<0)) (val (pad ((lim a.natAbs).length+(lim b.natAbs).length) (val (lim a.natAbs)*val (lim b.natAbs)))))]=Z (a*b):=zsE (by
 rw [val_pad _ _ (by rw [Nat.pow_add];exact Nat.mul_lt_mul'' (val_lt _ (lb_lim _)) (val_lt _ (lb_lim _))),val_lim,val_lim];exact sgnv_mul a b)
theorem add_1(h:(decide (a<0) == decide (b<0))=true):packA [Z (sgnv (decide (a<0)) (val (lim (val (lim a.natAbs)+val (lim b.natAbs)))))]=Z (a+b):=zsE (by rw [val_lim,val_lim,val_lim];exact sgnv_add (beq_t h))
theorem add_2(h:(decide (a<0) == decide (b<0))=false)(h2:cmpN (val (lim a.natAbs)) (val (lim b.natAbs))≥0):packA [Z (sgnv (decide (a<0)) (val (lim (val (lim a.natAbs)-val (lim b.natAbs)))))]=Z (a+b):=zsE (by
 rw [val_lim,val_lim] at h2 ⊢;rw [val_lim];exact sgnv_sub (beq_f h) (cmpN_ge0.1 h2))
theorem add_3(h:(decide (a<0) == decide (b<0))=false)(h2:¬cmpN (val (lim a.natAbs)) (val (lim b.natAbs))≥0):packA [Z (sgnv (decide (b<0)) (val (lim (val (lim b.natAbs)-val (lim a.natAbs)))))]=Z (a+b):=zsE (by
 rw [val_lim,val_lim] at h2 ⊢;rw [val_lim,Int.add_comm];exact sgnv_sub (λe=>beq_f h e.symm) (by have:=mt cmpN_ge0.2 h2;omega))
theorem add_4(h:(decide (a<0) == decide (b<0))=true):packA [Z (sgnv (decide (a<0)) (val (pad (max (lim a.natAbs).length (lim b.natAbs).length+1) (val (lim a.natAbs)+val (lim b.natAbs)))))]=Z (a+b):=zsE (by
 have h1:=val_lt _ (lb_lim a.natAbs)
 have h2:=val_lt _ (lb_lim b.natAbs)
 have h3:=Nat.pow_le_pow_right (n:=1000000000) (by decide) (Nat.le_max_left (lim a.natAbs).length (lim b.natAbs).length)
 have h4:=Nat.pow_le_pow_right (n:=1000000000) (by decide) (Nat.le_max_right (lim a.natAbs).length (lim b.natAbs).length)
 rw [val_pad _ _ (by rw [Nat.pow_succ];omega),val_lim,val_lim];exact sgnv_add (beq_t h))
theorem add_5(h:(decide (a<0) == decide (b<0))=false)(h2:¬cmpN (val (lim a.natAbs)) (val (lim b.natAbs))<0):packA [Z (sgnv (decide (a<0)) (val (pad (lim a.natAbs).length (val (lim a.natAbs)-val (lim b.natAbs)))))]=Z (a+b):=zsE (by
 have h1:=val_lt _ (lb_lim a.natAbs)
 rw [val_pad _ _ (by omega)]
 rw [val_lim,val_lim] at h2 ⊢;exact sgnv_sub (beq_f h) (cmpN_ge0.1 (by omega)))
theorem add_6(h:(decide (a<0) == decide (b<0))=false)(h2:cmpN (val (lim a.natAbs)) (val (lim b.natAbs))<0):packA [Z (sgnv (decide (b<0)) (val (pad (lim b.natAbs).length (val (lim b.natAbs)-val (lim a.natAbs)))))]=Z (a+b):=zsE (by
 have h1:=val_lt _ (lb_lim b.natAbs)
 rw [val_pad _ _ (by omega)]
 rw [val_lim,val_lim] at h2 ⊢;rw [Int.add_comm];exact sgnv_sub (λe=>beq_f h e.symm) (by have:=cmpN_lt0.1 h2;omega))
theorem minp_1(h1:sz a≤1000000000)(h2:sz b≤1000000000)(h:b.natAbs≤a.natAbs):(lim a.natAbs).length≤1000000000000∧(lim b.natAbs).length≤1000000000000∧Lb (lim a.natAbs)∧Lb (lim b.natAbs)∧(lim b.natAbs).length≤(lim a.natAbs).length∧val (lim b.natAbs)≤val (lim a.natAbs):=by
 unfold sz at h1 h2
 exact ⟨by omega,by omega,lb_lim _,lb_lim _,lim_le_of_le h,by rw [val_lim,val_lim];exact h⟩
theorem plup_1(h1:sz a≤1000000000)(h2:sz b≤1000000000):(lim a.natAbs).length≤1000000000000∧(lim b.natAbs).length≤1000000000000∧Lb (lim a.natAbs)∧Lb (lim b.natAbs):=by
 unfold sz at h1 h2
 exact ⟨by omega,by omega,lb_lim _,lb_lim _⟩
theorem subc_1(h:¬b<0):AV.agg [Cell.v (.bool (decide ((((lim b.natAbs).map λx=>[Cell.v (u32 x)]).length:Int) > 0))),zl b]=Z (-b):=by
 show _=AV.agg [zs (-b),zl (-b)]
 unfold zs zl
 have:=lim_len_zero (n:=b.natAbs)
 rw [Int.natAbs_neg,List.length_map,show decide ((((lim b.natAbs).length:Nat):Int) > 0)=decide (-b<0) by rw [decide_eq_decide];omega]
theorem subc_2(h:b<0):AV.agg [Cell.v (.bool false),zl b]=Z (-b):=by
 show _=AV.agg [zs (-b),zl (-b)]
 unfold zs zl
 rw [Int.natAbs_neg,decide_eq_false (show ¬-b<0 by omega)]
theorem i64_1(h:cmpI a (-9223372036854775808)<0):packA [AV.c (Cell.v (.int .i64 0)),AV.c (Cell.v (.bool false))]=AV.tup [.int .i64 (if -9223372036854775808≤a∧a≤9223372036854775807 then a else 0),.bool (decide (-9223372036854775808≤a∧a≤9223372036854775807))]:=by
 have:=cmpI_lt0.1 h
 rw [if_neg (by omega),decide_eq_false (by omega)];rfl
theorem i64_2(h:cmpI a 9223372036854775807 > 0):packA [AV.c (Cell.v (.int .i64 0)),AV.c (Cell.v (.bool false))]=AV.tup [.int .i64 (if -9223372036854775808≤a∧a≤9223372036854775807 then a else 0),.bool (decide (-9223372036854775808≤a∧a≤9223372036854775807))]:=by
 have:=cmpI_gt0.1 h
 rw [if_neg (by omega),decide_eq_false (by omega)];rfl
theorem i64_b(h:¬cmpI a (-9223372036854775808)<0)(h2:¬cmpI a 9223372036854775807 > 0):-9223372036854775808≤a∧a≤9223372036854775807:=by
 have h3:=mt cmpI_lt0.2 h
 have h4:=mt cmpI_gt0.2 h2
 omega
theorem i64_3{x:Int}(hb : -9223372036854775808≤a∧a≤9223372036854775807)(hx:x=a):packA [AV.c (Cell.v (.int .i64 x)),AV.c (Cell.v (.bool true))]=AV.tup [.int .i64 (if -9223372036854775808≤a∧a≤9223372036854775807 then a else 0),.bool (decide (-9223372036854775808≤a∧a≤9223372036854775807))]:=by
 rw [if_pos hb,decide_eq_true hb,hx];rfl
theorem i64_p(hb : -9223372036854775808≤a∧a≤9223372036854775807):(lim a.natAbs).length≤1000000000000∧Lb (lim a.natAbs)∧val (lim a.natAbs)<18446744073709551616:=by
 have:=sz_64 hb.1 hb.2
 unfold sz at this
 exact ⟨by omega,lb_lim _,by rw [val_lim];omega⟩
theorem dv_pre(h1:sz a≤1000000000)(h2:sz b≤1000000000)(h:¬b.natAbs=0):(lim a.natAbs).length≤100000000000∧(lim b.natAbs).length≤100000000000∧Lb (lim a.natAbs)∧Lb (lim b.natAbs)∧0<b.natAbs:=by
 unfold sz at h1 h2
 exact ⟨by omega,by omega,lb_lim _,lb_lim _,by omega⟩
theorem dqI(h:¬b.natAbs=0):val (pad (dql (lim a.natAbs) (lim b.natAbs)) (a.natAbs / b.natAbs))=a.natAbs / b.natAbs:=by
 have:=val_dq (lb_lim a.natAbs) (lb_lim b.natAbs) (by rw [val_lim];omega)
 rwa [val_lim,val_lim] at this
theorem drI(h:¬b.natAbs=0):val (pad (drl (lim a.natAbs) (lim b.natAbs)) (a.natAbs % b.natAbs))=a.natAbs % b.natAbs:=by
 have:=val_dr (lb_lim a.natAbs) (lb_lim b.natAbs) (by rw [val_lim];omega)
 rwa [val_lim,val_lim] at this
theorem turn_sg{r:Nat}(h0:0<r)(h:((decide (a<0) && decide (0<r)) != decide (b<0))=true):(decide (a<0) != decide (b<0))=true:=by rwa [decide_eq_true h0,Bool.and_true] at h
theorem keep_sg{r:Nat}(h0:0<r)(h:((decide (a<0) && decide (0<r)) != decide (b<0))=false):¬(decide (a<0) != decide (b<0))=true:=by rw [decide_eq_true h0,Bool.and_true] at h;rw [h];decide
theorem sz_q(h:sz a≤1000000000)(s:Bool):sz (sgnv s (a.natAbs / b.natAbs))≤1000000000:=Nat.le_trans (sz_sgnv _ _ a (Nat.div_le_self _ _)) h
theorem sz_r(h:sz a≤1000000000)(s:Bool):sz (sgnv s (a.natAbs % b.natAbs))≤1000000000:=Nat.le_trans (sz_sgnv _ _ a (Nat.mod_le _ _)) h
theorem sz_o:sz 1≤1000000000:=Nat.le_trans (sz_64 (by decide) (by decide)) (by decide)
end
section
variable {a b:Int} {m n:Nat}
theorem gpre(h1:(lim m).length≤1000000000)(h2:(lim n).length≤1000000000)(h:(((lim n).length:Nat):Int) > 0):(lim m).length≤1000000000∧(lim n).length≤1000000000∧CanL (lim m)∧CanL (lim n)∧0<val (lim n):=by
 have:=lim_len_zero (n:=n)
 exact ⟨h1,h2,CanL.lim _,CanL.lim _,by rw [val_lim];omega⟩
theorem gshort(h:¬(((lim m).length:Nat):Int) > 2):(lim m).length≤1000000000000∧Lb (lim m)∧val (lim m)<18446744073709551616:=by
 have:=lim_len_two (n:=m) (by omega)
 exact ⟨by omega,lb_lim _,by rw [val_lim];omega⟩
theorem gmod:some (AV.c (lmc (lim (val (lim m) % val (lim n)))))=some (AV.c (lmc (lim (m % n)))):=by rw [val_lim,val_lim]
theorem gend{x:Nat}(h0:n=0)(hg:Nat.gcd m n=Nat.gcd a.natAbs b.natAbs)(hx:x=m):packA [Z (sgnv false x)]=Z ((Nat.gcd a.natAbs b.natAbs:Nat):Int):=zsE (by
 subst h0 hx;rw [← hg,Nat.gcd_zero_right];rfl)
theorem gv:some (AV.int .u64 ((val (lim m):Nat):Int))=some (AV.int .u64 ((m:Nat):Int)):=by rw [val_lim]
theorem glt(h:¬(((lim m).length:Nat):Int) > 2):m<1000000000000000000:=lim_len_two (by omega)
theorem tmodN(u v:Nat):(u:Int).tmod (v:Int)=((u % v:Nat):Int):=by rw [Int.tmod_eq_emod_of_nonneg (by omega)];rfl
theorem gm2{u v:Nat}:some (AV.int .u64 ((u:Int).tmod (v:Int)))=some (AV.int .u64 ((u % v:Nat):Int)):=by rw [tmodN]
theorem zcells(x y:Int)(h:x=y):some (Bk.var [zs x,zl x])=some (Bk.var [zs y,zl y]):=by rw [h]
theorem wif(h:sz ((m:Nat):Int)≤2):some (AV.int .u64 ((if sz ((m:Nat):Int)≤2 then ((m:Nat):Int).natAbs else 0:Nat):Int))=some (AV.int .u64 ((m:Nat):Int)):=by rw [if_pos h];rfl
theorem gdiv(h1:sz ((m:Nat):Int)≤1000000000)(h2:sz ((n:Nat):Int)≤1000000000)(h:(((lim ((n:Nat):Int).natAbs).length:Nat):Int) > 0):(lim ((m:Nat):Int).natAbs).length≤100000000000∧(lim ((n:Nat):Int).natAbs).length≤100000000000∧Lb (lim ((m:Nat):Int).natAbs)∧Lb (lim ((n:Nat):Int).natAbs)∧0<val (lim ((n:Nat):Int).natAbs):=by
 have:=lim_len_zero (n:=((n:Nat):Int).natAbs)
 have k:=dv_pre h1 h2 (by omega)
 rw [val_lim];exact k
theorem gst(h:(((lim ((n:Nat):Int).natAbs).length:Nat):Int) > 0):sgnv false (val (pad (drl (lim ((m:Nat):Int).natAbs) (lim ((n:Nat):Int).natAbs)) (val (lim ((m:Nat):Int).natAbs) % val (lim ((n:Nat):Int).natAbs))))=((m % n:Nat):Int):=by
 have:=lim_len_zero (n:=((n:Nat):Int).natAbs)
 rw [val_lim,val_lim,drI (by omega)];rfl
theorem gpos(h:(((lim ((n:Nat):Int).natAbs).length:Nat):Int) > 0):0<n:=by
 have h2:=lim_len_zero (n:=((n:Nat):Int).natAbs)
 rw [Int.natAbs_natCast] at h2 h;omega
theorem gzero(h:¬(((lim ((n:Nat):Int).natAbs).length:Nat):Int) > 0):n=0:=by
 have h2:=lim_len_zero (n:=((n:Nat):Int).natAbs)
 rw [Int.natAbs_natCast] at h2 h;omega
end
end Go.Sw
namespace Go.Proofs.YtbbfmlhkgceabaaGreat
open Go Go.RowKit Go.Sw
set_option linter.unusedVariables false
set_option maxRecDepth 100000
set_option maxHeartbeats 8000000
instance rh_from(n:Int):DenI Tryz.prog 44 [.int .i64 n] (-9223372036854775808≤n∧n≤9223372036854775807) (Z n):=⟨λhp=>by
 refine den_of (τ:=tab) tab_ok mixed_ Tryz.func44 rfl (by kernel_rfl) (by kernel_rfl) (by kernel_rfl) ?_
 repeat' ((try (conv=>whnf));first
  |refine call_0 ?_
  |refine call_i ?_ ?_
  |(with_reducible refine onB_t ?_)
  |(with_reducible refine onB_f ?_)
  |(with_reducible refine onB_d (λ_=>?_) (λ_=>?_))
  |(with_reducible refine onB_n (λ_=>?_) (λ_=>?_))
  |refine OnB.mk (λ_=>?_) (λ_=>?_)
  |refine obl_i ?_ ?_
  |refine Drw.mk (by kernel_rfl) ?_
  |refine mks_i ?_ ?_
  |refine slp_i ?_ ?_
  |(with_reducible refine elem_u ?_ ?_)
  |(with_reducible refine elem_0 ?_)
  |(with_reducible refine elem_1 ?_)
  |refine Ends.mk ?_)
 all_goals (try refine Pr.mk ?_)
 all_goals (try ((conv=>whnf);simp (disch:=omega) only [wu_pos,wu_neg]))
 all_goals (repeat' ((try (conv=>whnf));first
  |refine call_0 ?_
  |refine call_i ?_ ?_
  |(with_reducible refine onB_t ?_)
  |(with_reducible refine onB_f ?_)
  |(with_reducible refine onB_d (λ_=>?_) (λ_=>?_))
  |(with_reducible refine onB_n (λ_=>?_) (λ_=>?_))
  |refine OnB.mk (λ_=>?_) (λ_=>?_)
  |refine obl_i ?_ ?_
  |refine Drw.mk (by kernel_rfl) ?_
  |refine mks_i ?_ ?_
  |refine slp_i ?_ ?_
  |(with_reducible refine elem_u ?_ ?_)
  |(with_reducible refine elem_0 ?_)
  |(with_reducible refine elem_1 ?_)
  |refine Ends.mk ?_))
 all_goals (try refine Pr.mk ?_)
 all_goals first
  |exact lb_lim _
  |omega
  |(refine zsE ?_;rw [val_lim];first|exact sgnv_t (by omega)|exact sgnv_f (by omega))
  |skip⟩
instance ih_from(n:Int):DenI Tryz.prog 84 [.int .i64 n] (-9223372036854775808≤n∧n≤9223372036854775807) (Z n):=⟨λhp=>by
 refine den_of (τ:=tab) tab_ok mixed_ Tryz.func84 rfl (by kernel_rfl) (by kernel_rfl) (by kernel_rfl) ?_
 repeat' ((try (conv=>whnf));first
  |refine call_0 ?_
  |refine call_i ?_ ?_
  |(with_reducible refine onB_t ?_)
  |(with_reducible refine onB_f ?_)
  |(with_reducible refine onB_d (λ_=>?_) (λ_=>?_))
  |(with_reducible refine onB_n (λ_=>?_) (λ_=>?_))
  |refine OnB.mk (λ_=>?_) (λ_=>?_)
  |refine obl_i ?_ ?_
  |refine Drw.mk (by kernel_rfl) ?_
  |refine mks_i ?_ ?_
  |refine slp_i ?_ ?_
  |(with_reducible refine elem_u ?_ ?_)
  |(with_reducible refine elem_0 ?_)
  |(with_reducible refine elem_1 ?_)
  |refine Ends.mk ?_)
 all_goals (try refine Pr.mk ?_)
 all_goals (try ((conv=>whnf);simp (disch:=omega) only [wu_pos,wu_neg]))
 all_goals (repeat' ((try (conv=>whnf));first
  |refine call_0 ?_
  |refine call_i ?_ ?_
  |(with_reducible refine onB_t ?_)
  |(with_reducible refine onB_f ?_)
  |(with_reducible refine onB_d (λ_=>?_) (λ_=>?_))
  |(with_reducible refine onB_n (λ_=>?_) (λ_=>?_))
  |refine OnB.mk (λ_=>?_) (λ_=>?_)
  |refine obl_i ?_ ?_
  |refine Drw.mk (by kernel_rfl) ?_
  |refine mks_i ?_ ?_
  |refine slp_i ?_ ?_
  |(with_reducible refine elem_u ?_ ?_)
  |(with_reducible refine elem_0 ?_)
  |(with_reducible refine elem_1 ?_)
  |refine Ends.mk ?_))
 all_goals (try refine Pr.mk ?_)
 all_goals (try ((conv=>whnf);simp (disch:=omega) only [wu_pos,wu_neg]))
 all_goals (repeat' ((try (conv=>whnf));first
  |refine call_0 ?_
  |refine call_i ?_ ?_
  |(with_reducible refine onB_t ?_)
  |(with_reducible refine onB_f ?_)
  |(with_reducible refine onB_d (λ_=>?_) (λ_=>?_))
  |(with_reducible refine onB_n (λ_=>?_) (λ_=>?_))
  |refine OnB.mk (λ_=>?_) (λ_=>?_)
  |refine obl_i ?_ ?_
  |refine Drw.mk (by kernel_rfl) ?_
  |refine mks_i ?_ ?_
  |refine slp_i ?_ ?_
  |(with_reducible refine elem_u ?_ ?_)
  |(with_reducible refine elem_0 ?_)
  |(with_reducible refine elem_1 ?_)
  |refine Ends.mk ?_))
 all_goals (try refine Pr.mk ?_)
 all_goals first
  |exact lb_pad _ _
  |omega
  |(refine zsE ?_;rw [val_pad _ _ (by omega)];first|exact sgnv_t (by omega)|exact sgnv_f (by omega)|exact sgnv_of n)
  |skip⟩
instance rh_sign(a:Int):DenI Tryz.prog 85 [Z a] (True) (.int .i64 (sgnI a)):=⟨λhp=>by
 refine den_of (τ:=tab) tab_ok mixed_ Tryz.func85 rfl (by kernel_rfl) (by kernel_rfl) (by kernel_rfl) ?_
 repeat' ((try (conv=>whnf));first
  |refine call_0 ?_
  |refine call_i ?_ ?_
  |(with_reducible refine onB_t ?_)
  |(with_reducible refine onB_f ?_)
  |(with_reducible refine onB_d (λ_=>?_) (λ_=>?_))
  |(with_reducible refine onB_n (λ_=>?_) (λ_=>?_))
  |refine OnB.mk (λ_=>?_) (λ_=>?_)
  |refine obl_i ?_ ?_
  |refine Drw.mk (by kernel_rfl) ?_
  |refine mks_i ?_ ?_
  |refine slp_i ?_ ?_
  |(with_reducible refine elem_u ?_ ?_)
  |(with_reducible refine elem_0 ?_)
  |(with_reducible refine elem_1 ?_)
  |refine Ends.mk ?_)
 all_goals (try refine Pr.mk ?_)
 all_goals (try simp only [List.length_map] at *)
 all_goals first
  |with_reducible exact sgn_1 (by omega)
  |with_reducible exact sgn_2 (by omega)
  |with_reducible exact sgn_3 (by omega) (by omega)
  |skip⟩
instance ih_sign(a:Int):DenI Tryz.prog 51 [Z a] (True) (.int .i64 (sgnI a)):=⟨λhp=>by
 refine den_of (τ:=tab) tab_ok mixed_ Tryz.func51 rfl (by kernel_rfl) (by kernel_rfl) (by kernel_rfl) ?_
 repeat' ((try (conv=>whnf));first
  |refine call_0 ?_
  |refine call_i ?_ ?_
  |(with_reducible refine onB_t ?_)
  |(with_reducible refine onB_f ?_)
  |(with_reducible refine onB_d (λ_=>?_) (λ_=>?_))
  |(with_reducible refine onB_n (λ_=>?_) (λ_=>?_))
  |refine OnB.mk (λ_=>?_) (λ_=>?_)
  |refine obl_i ?_ ?_
  |refine Drw.mk (by kernel_rfl) ?_
  |refine mks_i ?_ ?_
  |refine slp_i ?_ ?_
  |(with_reducible refine elem_u ?_ ?_)
  |(with_reducible refine elem_0 ?_)
  |(with_reducible refine elem_1 ?_)
  |refine Ends.mk ?_)
 all_goals (try refine Pr.mk ?_)
 all_goals (try simp only [List.length_map] at *)
 all_goals first
  |with_reducible exact sgn_1 (by omega)
  |with_reducible exact sgn_2 (by omega)
  |with_reducible exact sgn_3 (by omega) (by omega)
  |skip⟩
instance rh_cmp(a b:Int):DenI Tryz.prog 106 [Z a,Z b] (True) (.int .i64 (cmpI a b)):=⟨λhp=>by
 refine den_of (τ:=tab) tab_ok mixed_ Tryz.func106 rfl (by kernel_rfl) (by kernel_rfl) (by kernel_rfl) ?_
 repeat' ((try (conv=>whnf));first
  |refine call_0 ?_
  |refine call_i ?_ ?_
  |(with_reducible refine onB_t ?_)
  |(with_reducible refine onB_f ?_)
  |(with_reducible refine onB_d (λ_=>?_) (λ_=>?_))
  |(with_reducible refine onB_n (λ_=>?_) (λ_=>?_))
  |refine OnB.mk (λ_=>?_) (λ_=>?_)
  |refine obl_i ?_ ?_
  |refine Drw.mk (by kernel_rfl) ?_
  |refine mks_i ?_ ?_
  |refine slp_i ?_ ?_
  |(with_reducible refine elem_u ?_ ?_)
  |(with_reducible refine elem_0 ?_)
  |(with_reducible refine elem_1 ?_)
  |refine Ends.mk ?_)
 all_goals (try refine Pr.mk ?_)
 all_goals first
  |with_reducible exact ⟨CanL.lim _,CanL.lim _⟩
  |with_reducible exact ⟨lb_lim _,lb_lim _⟩
  |with_reducible exact lb_lim _
  |with_reducible exact lb_pad _ _
  |with_reducible exact cmp_1 (by assumption) (by assumption)
  |with_reducible exact cmp_2 (by assumption) (by assumption)
  |with_reducible exact cmp_3 (by assumption) (by assumption)
  |with_reducible exact cmp_4 (by assumption) (by assumption)
  |skip⟩
instance ih_cmp(a b:Int):DenI Tryz.prog 53 [Z a,Z b] (True) (.int .i64 (cmpI a b)):=⟨λhp=>by
 refine den_of (τ:=tab) tab_ok mixed_ Tryz.func53 rfl (by kernel_rfl) (by kernel_rfl) (by kernel_rfl) ?_
 repeat' ((try (conv=>whnf));first
  |refine call_0 ?_
  |refine call_i ?_ ?_
  |(with_reducible refine onB_t ?_)
  |(with_reducible refine onB_f ?_)
  |(with_reducible refine onB_d (λ_=>?_) (λ_=>?_))
  |(with_reducible refine onB_n (λ_=>?_) (λ_=>?_))
  |refine OnB.mk (λ_=>?_) (λ_=>?_)
  |refine obl_i ?_ ?_
  |refine Drw.mk (by kernel_rfl) ?_
  |refine mks_i ?_ ?_
  |refine slp_i ?_ ?_
  |(with_reducible refine elem_u ?_ ?_)
  |(with_reducible refine elem_0 ?_)
  |(with_reducible refine elem_1 ?_)
  |refine Ends.mk ?_)
 all_goals (try refine Pr.mk ?_)
 all_goals first
  |with_reducible exact ⟨CanL.lim _,CanL.lim _⟩
  |with_reducible exact ⟨lb_lim _,lb_lim _⟩
  |with_reducible exact lb_lim _
  |with_reducible exact lb_pad _ _
  |with_reducible exact cmp_1 (by assumption) (by assumption)
  |with_reducible exact cmp_2 (by assumption) (by assumption)
  |with_reducible exact cmp_3 (by assumption) (by assumption)
  |with_reducible exact cmp_4 (by assumption) (by assumption)
  |skip⟩
instance rh_same(a b:Int):DenI Tryz.prog 142 [Z a,Z b] (True) (.bool (decide (a=b))):=⟨λhp=>by
 refine den_of (τ:=tab) tab_ok mixed_ Tryz.func142 rfl (by kernel_rfl) (by kernel_rfl) (by kernel_rfl) ?_
 repeat' ((try (conv=>whnf));first
  |refine call_0 ?_
  |refine call_i ?_ ?_
  |(with_reducible refine onB_t ?_)
  |(with_reducible refine onB_f ?_)
  |(with_reducible refine onB_d (λ_=>?_) (λ_=>?_))
  |(with_reducible refine onB_n (λ_=>?_) (λ_=>?_))
  |refine OnB.mk (λ_=>?_) (λ_=>?_)
  |refine obl_i ?_ ?_
  |refine Drw.mk (by kernel_rfl) ?_
  |refine mks_i ?_ ?_
  |refine slp_i ?_ ?_
  |(with_reducible refine elem_u ?_ ?_)
  |(with_reducible refine elem_0 ?_)
  |(with_reducible refine elem_1 ?_)
  |refine Ends.mk ?_)
 all_goals (try refine Pr.mk ?_)
 all_goals first
  |with_reducible exact ⟨CanL.lim _,CanL.lim _⟩
  |with_reducible exact ⟨lb_lim _,lb_lim _⟩
  |with_reducible exact lb_lim _
  |with_reducible exact lb_pad _ _
  |with_reducible exact same_1 (by assumption)
  |with_reducible exact same_2 (by assumption)
  |skip⟩
instance rh_neg(a:Int):DenI Tryz.prog 86 [Z a] (sz a≤1000000000) (Z (-a)):=⟨λhp=>by
 refine den_of (τ:=tab) tab_ok mixed_ Tryz.func86 rfl (by kernel_rfl) (by kernel_rfl) (by kernel_rfl) ?_
 repeat' ((try (conv=>whnf));first
  |refine call_0 ?_
  |refine call_i ?_ ?_
  |(with_reducible refine onB_t ?_)
  |(with_reducible refine onB_f ?_)
  |(with_reducible refine onB_d (λ_=>?_) (λ_=>?_))
  |(with_reducible refine onB_n (λ_=>?_) (λ_=>?_))
  |refine OnB.mk (λ_=>?_) (λ_=>?_)
  |refine obl_i ?_ ?_
  |refine Drw.mk (by kernel_rfl) ?_
  |refine mks_i ?_ ?_
  |refine slp_i ?_ ?_
  |(with_reducible refine elem_u ?_ ?_)
  |(with_reducible refine elem_0 ?_)
  |(with_reducible refine elem_1 ?_)
  |refine Ends.mk ?_)
 all_goals (try refine Pr.mk ?_)
 all_goals (try simp only [List.length_map] at *)
 all_goals first
  |with_reducible exact ⟨CanL.lim _,CanL.lim _⟩
  |with_reducible exact ⟨lb_lim _,lb_lim _⟩
  |with_reducible exact lb_lim _
  |with_reducible exact lb_pad _ _
  |with_reducible exact neg_1
  |(unfold sz at hp;omega)
  |skip⟩
instance ih_neg(a:Int):DenI Tryz.prog 71 [Z a] (sz a≤1000000000) (Z (-a)):=⟨λhp=>by
 refine den_of (τ:=tab) tab_ok mixed_ Tryz.func71 rfl (by kernel_rfl) (by kernel_rfl) (by kernel_rfl) ?_
 repeat' ((try (conv=>whnf));first
  |refine call_0 ?_
  |refine call_i ?_ ?_
  |(with_reducible refine onB_t ?_)
  |(with_reducible refine onB_f ?_)
  |(with_reducible refine onB_d (λ_=>?_) (λ_=>?_))
  |(with_reducible refine onB_n (λ_=>?_) (λ_=>?_))
  |refine OnB.mk (λ_=>?_) (λ_=>?_)
  |refine obl_i ?_ ?_
  |refine Drw.mk (by kernel_rfl) ?_
  |refine mks_i ?_ ?_
  |refine slp_i ?_ ?_
  |(with_reducible refine elem_u ?_ ?_)
  |(with_reducible refine elem_0 ?_)
  |(with_reducible refine elem_1 ?_)
  |refine Ends.mk ?_)
 all_goals (try refine Pr.mk ?_)
 all_goals (try simp only [List.length_map] at *)
 all_goals first
  |with_reducible exact ⟨CanL.lim _,CanL.lim _⟩
  |with_reducible exact ⟨lb_lim _,lb_lim _⟩
  |with_reducible exact lb_lim _
  |with_reducible exact lb_pad _ _
  |with_reducible exact neg_1
  |(unfold sz at hp;omega)
  |skip⟩
instance rh_mul(a b:Int):DenI Tryz.prog 93 [Z a,Z b] (sz a≤1000000000∧sz b≤1000000000) (Z (a*b)):=⟨λhp=>by
 refine den_of (τ:=tab) tab_ok mixed_ Tryz.func93 rfl (by kernel_rfl) (by kernel_rfl) (by kernel_rfl) ?_
 repeat' ((try (conv=>whnf));first
  |refine call_0 ?_
  |refine call_i ?_ ?_
  |(with_reducible refine onB_t ?_)
  |(with_reducible refine onB_f ?_)
  |(with_reducible refine onB_d (λ_=>?_) (λ_=>?_))
  |(with_reducible refine onB_n (λ_=>?_) (λ_=>?_))
  |refine OnB.mk (λ_=>?_) (λ_=>?_)
  |refine obl_i ?_ ?_
  |refine Drw.mk (by kernel_rfl) ?_
  |refine mks_i ?_ ?_
  |refine slp_i ?_ ?_
  |(with_reducible refine elem_u ?_ ?_)
  |(with_reducible refine elem_0 ?_)
  |(with_reducible refine elem_1 ?_)
  |refine Ends.mk ?_)
 all_goals (try refine Pr.mk ?_)
 all_goals first
  |with_reducible exact ⟨CanL.lim _,CanL.lim _⟩
  |with_reducible exact ⟨lb_lim _,lb_lim _⟩
  |with_reducible exact lb_lim _
  |with_reducible exact lb_pad _ _
  |with_reducible exact plup_1 hp.1 hp.2
  |with_reducible exact mul_1
  |with_reducible exact mul_2
  |skip⟩
instance ih_mul(a b:Int):DenI Tryz.prog 54 [Z a,Z b] (sz a≤1000000000∧sz b≤1000000000) (Z (a*b)):=⟨λhp=>by
 refine den_of (τ:=tab) tab_ok mixed_ Tryz.func54 rfl (by kernel_rfl) (by kernel_rfl) (by kernel_rfl) ?_
 repeat' ((try (conv=>whnf));first
  |refine call_0 ?_
  |refine call_i ?_ ?_
  |(with_reducible refine onB_t ?_)
  |(with_reducible refine onB_f ?_)
  |(with_reducible refine onB_d (λ_=>?_) (λ_=>?_))
  |(with_reducible refine onB_n (λ_=>?_) (λ_=>?_))
  |refine OnB.mk (λ_=>?_) (λ_=>?_)
  |refine obl_i ?_ ?_
  |refine Drw.mk (by kernel_rfl) ?_
  |refine mks_i ?_ ?_
  |refine slp_i ?_ ?_
  |(with_reducible refine elem_u ?_ ?_)
  |(with_reducible refine elem_0 ?_)
  |(with_reducible refine elem_1 ?_)
  |refine Ends.mk ?_)
 all_goals (try refine Pr.mk ?_)
 all_goals first
  |with_reducible exact ⟨CanL.lim _,CanL.lim _⟩
  |with_reducible exact ⟨lb_lim _,lb_lim _⟩
  |with_reducible exact lb_lim _
  |with_reducible exact lb_pad _ _
  |with_reducible exact plup_1 hp.1 hp.2
  |with_reducible exact mul_1
  |with_reducible exact mul_2
  |skip⟩
instance rh_add(a b:Int):DenI Tryz.prog 94 [Z a,Z b] (sz a≤1000000000∧sz b≤1000000000) (Z (a+b)):=⟨λhp=>by
 refine den_of (τ:=tab) tab_ok mixed_ Tryz.func94 rfl (by kernel_rfl) (by kernel_rfl) (by kernel_rfl) ?_
 repeat' ((try (conv=>whnf));first
  |refine call_0 ?_
  |refine call_i ?_ ?_
  |(with_reducible refine onB_t ?_)
  |(with_reducible refine onB_f ?_)
  |(with_reducible refine onB_d (λ_=>?_) (λ_=>?_))
  |(with_reducible refine onB_n (λ_=>?_) (λ_=>?_))
  |refine OnB.mk (λ_=>?_) (λ_=>?_)
  |refine obl_i ?_ ?_
  |refine Drw.mk (by kernel_rfl) ?_
  |refine mks_i ?_ ?_
  |refine slp_i ?_ ?_
  |(with_reducible refine elem_u ?_ ?_)
  |(with_reducible refine elem_0 ?_)
  |(with_reducible refine elem_1 ?_)
  |refine Ends.mk ?_)
 all_goals (try refine Pr.mk ?_)
 all_goals first
  |with_reducible exact ⟨CanL.lim _,CanL.lim _⟩
  |with_reducible exact ⟨lb_lim _,lb_lim _⟩
  |with_reducible exact lb_lim _
  |with_reducible exact lb_pad _ _
  |with_reducible exact plup_1 hp.1 hp.2
  |exact minp_1 hp.1 hp.2 (cmpN_ge0.1 (by rename_i h;rw [val_lim,val_lim] at h;omega))
  |exact minp_1 hp.2 hp.1 (by rename_i h;rw [val_lim,val_lim] at h;have:=mt cmpN_ge0.2 h;omega)
  |exact minp_1 hp.2 hp.1 (by rename_i h;rw [val_lim,val_lim] at h;have:=cmpN_lt0.1 h;omega)
  |with_reducible exact add_1 (by assumption)
  |with_reducible exact add_2 (by assumption) (by assumption)
  |with_reducible exact add_3 (by assumption) (by assumption)
  |with_reducible exact add_4 (by assumption)
  |with_reducible exact add_5 (by assumption) (by assumption)
  |with_reducible exact add_6 (by assumption) (by assumption)
  |skip⟩
instance ih_add(a b:Int):DenI Tryz.prog 61 [Z a,Z b] (sz a≤1000000000∧sz b≤1000000000) (Z (a+b)):=⟨λhp=>by
 refine den_of (τ:=tab) tab_ok mixed_ Tryz.func61 rfl (by kernel_rfl) (by kernel_rfl) (by kernel_rfl) ?_
 repeat' ((try (conv=>whnf));first
  |refine call_0 ?_
  |refine call_i ?_ ?_
  |(with_reducible refine onB_t ?_)
  |(with_reducible refine onB_f ?_)
  |(with_reducible refine onB_d (λ_=>?_) (λ_=>?_))
  |(with_reducible refine onB_n (λ_=>?_) (λ_=>?_))
  |refine OnB.mk (λ_=>?_) (λ_=>?_)
  |refine obl_i ?_ ?_
  |refine Drw.mk (by kernel_rfl) ?_
  |refine mks_i ?_ ?_
  |refine slp_i ?_ ?_
  |(with_reducible refine elem_u ?_ ?_)
  |(with_reducible refine elem_0 ?_)
  |(with_reducible refine elem_1 ?_)
  |refine Ends.mk ?_)
 all_goals (try refine Pr.mk ?_)
 all_goals first
  |with_reducible exact ⟨CanL.lim _,CanL.lim _⟩
  |with_reducible exact ⟨lb_lim _,lb_lim _⟩
  |with_reducible exact lb_lim _
  |with_reducible exact lb_pad _ _
  |with_reducible exact plup_1 hp.1 hp.2
  |exact minp_1 hp.1 hp.2 (cmpN_ge0.1 (by rename_i h;rw [val_lim,val_lim] at h;omega))
  |exact minp_1 hp.2 hp.1 (by rename_i h;rw [val_lim,val_lim] at h;have:=mt cmpN_ge0.2 h;omega)
  |exact minp_1 hp.2 hp.1 (by rename_i h;rw [val_lim,val_lim] at h;have:=cmpN_lt0.1 h;omega)
  |with_reducible exact add_1 (by assumption)
  |with_reducible exact add_2 (by assumption) (by assumption)
  |with_reducible exact add_3 (by assumption) (by assumption)
  |with_reducible exact add_4 (by assumption)
  |with_reducible exact add_5 (by assumption) (by assumption)
  |with_reducible exact add_6 (by assumption) (by assumption)
  |skip⟩
end Go.Proofs.YtbbfmlhkgceabaaGreat
namespace Go.Sw
open Go Go.RowKit
set_option linter.unusedVariables false
section
variable {P:Program} {f:FuncId} {xs:List AV} {w:World} {X:List Nat} {vs:List Value}
theorem reps1{u:Value}{x:AV}(h:RepD w X u x):∀(i:Nat) a b,[u][i]?=some a→[x][i]?=some b→RepD w X a b:=λi a b h1 h2=>by
 cases i with
 |zero=>simp at h1 h2;subst h1 h2;exact h
 |succ i=>simp at h1
theorem reps2{u v:Value}{x y:AV}(h:RepD w X u x)(k:RepD w X v y):∀(i:Nat) a b,[u,v][i]?=some a→[x,y][i]?=some b→RepD w X a b:=λi a b h1 h2=>by
 match i with
 |0=>simp at h1 h2;subst h1 h2;exact h
 |1=>simp at h1 h2;subst h1 h2;exact k
 |_+2=>simp at h1
theorem repR_c{u:Value}{c:Cell}(h:RepR w X u (.c c)):RepC w X u c:=by
 generalize hv:AV.c c=v at h
 cases h with
 |d h =>
  cases h with
  |c h=>injection hv with hv;subst hv;exact h
  |agg h=>cases hv
 |tup _ _=>cases hv
theorem repC_v{u x:Value}(h:RepC w X u (.v x)):u=x:=by
 generalize hc:Cell.v x=c at h
 cases h with
 |v _ _=>injection hc with hc;exact hc.symm
 |sl=>cases hc
 |p=>cases hc
 |fn=>cases hc
theorem bk_ul{l:List Nat}(h : @Den P (Wld.any P) f xs (.c (lmc l)))(hX:∀m∈X,m<w.heap.size)(hl:vs.length=xs.length)(hr:∀(i:Nat) u v,vs[i]?=some u→xs[i]?=some v→RepD w X u v):Calls P f vs.toArray w (Ret λr w'=>UL w' X r l∧Below w.heap.size w w') :=
 ((@Den.old P (Wld.any P) _ _ _ h (noTup_rep hl hr)).2 w X vs trivial hX hl hr).mono λe w' ⟨u,he,hR,hb⟩=>⟨u,he,UL.of_rep (repR_c hR.r),hb⟩
theorem bk_v{x:Value}(h : @Den P (Wld.any P) f xs (.c (.v x)))(hX:∀m∈X,m<w.heap.size)(hl:vs.length=xs.length)(hr:∀(i:Nat) u v,vs[i]?=some u→xs[i]?=some v→RepD w X u v):Calls P f vs.toArray w (Ret λr w'=>r=x∧Below w.heap.size w w') :=
 ((@Den.old P (Wld.any P) _ _ _ h (noTup_rep hl hr)).2 w X vs trivial hX hl hr).mono λe w' ⟨u,he,hR,hb⟩=>⟨u,he,repC_v (repR_c hR.r),hb⟩
theorem repR_t2{u:Value}{l m:List Nat}(h:RepR w X u (.tup [.c (lmc l),.c (lmc m)])):∃r0 r1,u=.tuple #[r0,r1]∧UL w X r0 l∧UL w X r1 m:=by
 generalize hv:AV.tup [.c (lmc l),.c (lmc m)]=v at h
 cases h with
 |d h=>cases h with
  |c h=>cases hv
  |agg h=>cases hv
 |@tup us vs hl h =>
  injection hv with hv
  subst hv
  match us,hl with
  |[r0,r1],_=>exact ⟨r0,r1,rfl,(h 0 r0 _ rfl rfl).ul,(h 1 r1 _ rfl rfl).ul⟩
theorem bk_t2{l m:List Nat}(h : @Den P (Wld.any P) f xs (.tup [.c (lmc l),.c (lmc m)]))(hX:∀m∈X,m<w.heap.size)(hl:vs.length=xs.length)(hr:∀(i:Nat) u v,vs[i]?=some u→xs[i]?=some v→RepD w X u v):Calls P f vs.toArray w (Ret λr w'=>(∃r0 r1,r=.tuple #[r0,r1]∧UL w' X r0 l∧UL w' X r1 m)∧Below w.heap.size w w') :=
 ((@Den.old P (Wld.any P) _ _ _ h (noTup_rep hl hr)).2 w X vs trivial hX hl hr).mono λe w' ⟨u,he,hR,hb⟩=>⟨u,he,repR_t2 hR.r,hb⟩
end
end Go.Sw
namespace Go.Proofs.YtbbfmlhkgceabaaGreat
open Go Go.RowKit Go.Sw
set_option linter.unusedVariables false
set_option maxRecDepth 100000
set_option maxHeartbeats 8000000
theorem integer_trim_ok{w:World}{X:List Nat}(hX:∀m∈X,m<w.heap.size){v_l:Value}{l:List Nat}(h_l:UL w X v_l (l)):
 Calls Tryz.prog 147 #[v_l] w (Ret λr w'=>(UL w' X r (trimz l))∧Below w.heap.size w w'):=bk_ul ((inferInstance:DenI Tryz.prog 147 [.c (lmc l)] _ _).den trivial) hX rfl (reps1 (.c h_l.rep))
theorem integer_compare_ok{w:World}{X:List Nat}(hX:∀m∈X,m<w.heap.size){v_a:Value}{a:List Nat}(h_a:UL w X v_a (a)){v_b:Value}{b:List Nat}(h_b:UL w X v_b (b))(ha:Lb a)(hb:Lb b):
 Calls Tryz.prog 96 #[v_a,v_b] w (Ret λr w'=>(r=.int .i64 (cmpN (val a) (val b)))∧Below w.heap.size w w'):=bk_v ((inferInstance:DenI Tryz.prog 96 [.c (lmc a),.c (lmc b)] _ _).den ⟨ha,hb⟩) hX rfl (reps2 (.c h_a.rep) (.c h_b.rep))
theorem integer_byWord_ok{w:World}{X:List Nat}(hX:∀m∈X,m<w.heap.size){v_a:Value}{a:List Nat}(h_a:UL w X v_a (a))(b:Nat)(hn_a:a.length≤1000000000000)(hb_a:Lb a)(hb0:0<b)(hb1:b<1000000000):
 Calls Tryz.prog 183 #[v_a,(.int .u32 ((b:Nat):Int))] w (Ret λr w'=>(∃qs:List Nat,∃rs:List Nat,∃r0 r1,r=.tuple #[r0,r1]∧UL w' X r0 (qs)∧UL w' X r1 (rs)∧Lb qs∧Lb rs∧val a=b*val qs+val rs∧val rs<b∧qs.length=a.length∧rs.length=1)∧Below w.heap.size w w'):=(bk_t2 ((inferInstance:DenI Tryz.prog 183 [.c (lmc a),.int .u32 (b:Nat)] _ _).den ⟨hn_a,hb_a,hb0,hb1⟩) hX rfl (reps2 (.c h_a.rep) (.c (.v _ rfl)))).mono λe w' ⟨u,he,⟨r0,r1,h1,h2,h3⟩,hb⟩=>⟨u,he,⟨_,_,r0,r1,h1,h2,h3,byw_back hb_a hb0 hb1⟩,hb⟩
end Go.Proofs.YtbbfmlhkgceabaaGreat
namespace Go.Proofs.YtbbfmlhkgceabaaGreat
open Go Go.RowKit Go.Sw
set_option linter.unusedVariables false
set_option maxRecDepth 20000
namespace TfE
theorem el158:Sw.elemOf Tryz.prog 158=some (#[.int .u32 0],1,4):=by kernel_rfl
theorem one158:isOne Tryz.prog 158=true:=by kernel_rfl
theorem size158:(Tryz.prog.info? 158).map (λi=>i.size)=some 1:=by kernel_rfl
theorem sl28:sliceOf Tryz.prog 28=some (158,1):=by kernel_rfl
theorem sls28:(sliceOf Tryz.prog 28).isSome=true:=by kernel_rfl
theorem und134:Tryz.prog.underlying 134=some (TypeDesc.int .u64):=by kernel_rfl
theorem und158:Tryz.prog.underlying 158=some (TypeDesc.int .u32):=by kernel_rfl
theorem unds134:(Tryz.prog.underlying 134).isSome=true:=by kernel_rfl
theorem unds158:(Tryz.prog.underlying 158).isSome=true:=by kernel_rfl
end TfE
set_option maxHeartbeats 4000000 in
theorem integer_times_ok{w:World}{X:List Nat}(hX:∀m∈X,m<w.heap.size){v_a:Value}{a:List Nat}(h_a:UL w X v_a (a)){v_b:Value}{b:List Nat}(h_b:UL w X v_b (b))(hn_a:a.length≤1000000000000)(hn_b:b.length≤1000000000000)(hb_a:Lb a)(hb_b:Lb b):
 Calls Tryz.prog 98 #[v_a,v_b] w (Ret λr w'=>(∃o:List Nat,OwnL 158 w w' r (o)∧Lb o∧val o=val a*val b∧o.length=a.length+b.length)∧Below w.heap.size w w'):=by
 refine enter (N:=68) (fn:=Tryz.f98) (vs:=[v_a,v_b]) Tryz.func98 rfl rfl rfl ?_
 intro fa hF
 obtain ⟨A_a,_,c_a,rfl,rfl,hu_a⟩:=h_a
 have hl_a:=hu_a.len;have hc_a:=hu_a.cap
 obtain ⟨A_b,_,c_b,rfl,rfl,hu_b⟩:=h_b
 have hl_b:=hu_b.len;have hc_b:=hu_b.cap
 replace hF:Frm 68 fa [(0,(.slice (A_a) (a.length) (c_a))),(1,(.slice (A_b) (b.length) (c_b)))]:=hF
 have hS:=St.refl w
 refine c_seq ?_
 refine c_reg ?_
 refine pr hF (pa rfl <| PR.nil) ?_
 clear hF fa;intro fa hF
 refine c_nil_then ?_
 refine c_seq ?_
 refine c_reg ?_
 refine pr hF (pm rfl <| pg (λ_ hF=>ex_len TfE.sls28 (hF.ev rfl)) <| pm rfl <| pg (λ_ hF=>ex_len TfE.sls28 (hF.ev rfl)) <| pg (λ_ hF=>ex_add (hF.ev rfl) (hF.ev rfl) vi64) <| PR.nil) ?_
 clear hF fa;intro fa hF
 refine st rfl (op_make (X:=X) (nl:=a.length+b.length) (nc:=a.length+b.length) hF hS rfl TfE.sl28 TfE.el158 rfl rfl (by omega) (by omega) (by omega) (by omega) (by omega) (made_us _) ?_)
 intro g1 w2 hg4 hS E3;refine gen_ ?_;clear hF fa;intro fa hF
 rw [Nat.mul_one] at hS
 refine pr hF (pa rfl <| PR.nil) ?_
 clear hF fa;intro fa hF
 refine c_nil_then ?_
 refine c_seq ?_
 refine c_seq ?_
 refine c_reg ?_
 refine pr hF (pm rfl <| pg (λ_ hF=>ex_len TfE.sls28 (hF.ev rfl)) <| pm rfl <| PR.nil) ?_
 clear hF fa;intro fa hF
 refine c_nil_then ?_
 refine c_block ?_
 refine c_loop (λmu fa w'=>∃o:List Nat,∃i:Nat,Frm 68 fa [(0,(.slice (A_a) (a.length) (c_a))),(1,(.slice (A_b) (b.length) (c_b))),(4,(.slice (none) (0) (0))),(5,(.slice (some ⟨g1,0,none⟩) (a.length+b.length) (a.length+b.length))),(18,(.slice (A_a) (a.length) (c_a))),(19,(.int .i64 (((a.length:Nat):Int)))),(20,(.int .i64 (((i:Nat):Int))))]∧St w w' [(g1,158,(us (o)).toArray)]∧Ext w2 (g1 :: X) w' (g1 :: X)∧(i≤a.length)∧(o.length=a.length+b.length)∧(Lb o)∧(val (o.take (i+b.length))=val (a.take i)*val b)∧a.length-i=mu) ?_ ?_
 ·
  exact ⟨_,List.replicate (a.length+b.length) 0,0,(hF.all ⟨rfl,rfl,rfl,rfl,rfl,rfl,(lk_int rfl (by omega)),trivial⟩),hS,Ext.refl _ _,(by omega),(by simp),(lb_zeros _),(by simp [val_zeros,List.take_replicate,val]),rfl⟩
 clear hF fa;intro n0_ fa w' hI
 clear hS
 obtain ⟨o,i,hF,hS,E6,hi,ho,hbo,hv,rfl⟩:=hI
 rename World=>w5
 refine c_seq ?_
 refine c_reg ?_
 refine pr hF (pg (λ_ hF=>ex_lss (hF.ev rfl) (hF.ev rfl)) <| PR.nil) ?_
 clear hF fa;intro fa hF
 refine c_nil_then ?_
 refine c_seq ?_
 refine c_cond hF rfl (λhc7=>?_) (λhc7=>?_)
 ·
  have hc7p:((i:Nat):Int)<((a.length:Nat):Int):=by first|simpa using hc7|exact bang_t hc7|exact bang_f hc7
  refine c_skip ?_
  refine x_tn ?_
  refine c_seq ?_
  refine c_block ?_
  refine c_seq ?_
  refine c_reg ?_
  refine pr hF (pm rfl <| PR.nil) ?_
  clear hF fa;intro fa hF
  obtain ⟨ad8,hA9,hq10⟩:=(hu_a.ext (E3.trans E6)).cl.at_ (us_get (l:=a) (i:=i) (by omega))
  refine pr hF (pg (λ_ hF=>ex_idx (j:=i) TfE.sl28 (hF.ev rfl) hA9 (hF.ev rfl) (by omega) (by omega)) <| pg (λ_ hF=>ex_load1 TfE.one158 (hF.ev rfl) hq10) <| pa rfl <| pa rfl <| PR.nil) ?_
  clear hF fa;intro fa hF
  refine c_nil_then ?_
  refine c_seq ?_
  refine c_reg ?_
  refine pr hF (pa rfl <| PR.nil) ?_
  clear hF fa;intro fa hF
  refine c_nil_then ?_
  refine c_seq ?_
  refine c_seq ?_
  refine c_reg ?_
  refine pr hF (pm rfl <| pg (λ_ hF=>ex_len TfE.sls28 (hF.ev rfl)) <| pm rfl <| PR.nil) ?_
  clear hF fa;intro fa hF
  refine c_nil_then ?_
  refine c_block ?_
  refine c_loop (λmu fa w'=>∃o2:List Nat,∃cr:Nat,∃k:Nat,Frm 68 fa [(0,(.slice (A_a) (a.length) (c_a))),(1,(.slice (A_b) (b.length) (c_b))),(4,(.slice (none) (0) (0))),(5,(.slice (some ⟨g1,0,none⟩) (a.length+b.length) (a.length+b.length))),(18,(.slice (A_a) (a.length) (c_a))),(19,(.int .i64 (((a.length:Nat):Int)))),(20,(.int .i64 (((i:Nat):Int)))),(21,(.bool (decide (((i:Nat):Int)<((a.length:Nat):Int))))),(6,(.int .i64 (((i:Nat):Int)))),(7,(.int .u32 (((a.getD (i) 0:Nat):Int)))),(25,(.slice (A_b) (b.length) (c_b))),(26,(.int .i64 (((b.length:Nat):Int)))),(8,(.int .u64 (((cr:Nat):Int)))),(27,(.int .i64 (((k:Nat):Int))))]∧St w w' [(g1,158,(us (o2)).toArray)]∧Ext w5 (g1 :: X) w' (g1 :: X)∧(k≤b.length)∧(o2.length=a.length+b.length)∧(Lb o2)∧(cr<1000000000)∧(val (o2.take (i+b.length))+1000000000 ^ (i+k)*cr=val (a.take i)*val b+1000000000 ^ i*(a.getD i 0*val (b.take k)))∧b.length-k=mu) ?_ ?_
  ·
   exact ⟨_,o,0,0,(hF.all ⟨rfl,rfl,rfl,rfl,rfl,rfl,rfl,rfl,rfl,rfl,rfl,rfl,(lk_int rfl (by omega)),(lk_int rfl (by omega)),trivial⟩),hS,Ext.refl _ _,(by omega),(ho),(hbo),(by omega),(by simp [val,hv]),rfl⟩
  clear hF fa;intro n1_ fa w' hI
  clear hS
  obtain ⟨o2,cr,k,hF,hS,E12,hk,ho2,hbo2,hcr,hv2,rfl⟩:=hI
  rename World=>w11
  have hak:=hb_a.getD i;have hbk:=hb_b.getD k;have hok:=hbo2.getD (i+k)
  have hca:=carry_lt hak hbk hok hcr
  have hca1:=hca.1;have hca2:=hca.2
  refine c_seq ?_
  refine c_reg ?_
  refine pr hF (pg (λ_ hF=>ex_lss (hF.ev rfl) (hF.ev rfl)) <| PR.nil) ?_
  clear hF fa;intro fa hF
  refine c_nil_then ?_
  refine c_seq ?_
  refine c_cond hF rfl (λhc13=>?_) (λhc13=>?_)
  ·
   have hc13p:((k:Nat):Int)<((b.length:Nat):Int):=by first|simpa using hc13|exact bang_t hc13|exact bang_f hc13
   refine c_skip ?_
   refine x_tn ?_
   refine c_seq ?_
   refine c_block ?_
   refine c_seq ?_
   refine c_reg ?_
   refine pr hF (pm rfl <| PR.nil) ?_
   clear hF fa;intro fa hF
   obtain ⟨ad14,hA15,hq16⟩:=(hu_b.ext ((E3.trans E6).trans E12)).cl.at_ (us_get (l:=b) (i:=k) (by omega))
   refine pr hF (pg (λ_ hF=>ex_idx (j:=k) TfE.sl28 (hF.ev rfl) hA15 (hF.ev rfl) (by omega) (by omega)) <| pg (λ_ hF=>ex_load1 TfE.one158 (hF.ev rfl) hq16) <| pa rfl <| pa rfl <| PR.nil) ?_
   clear hF fa;intro fa hF
   replace hF:Frm 68 fa [(0,(.slice (A_a) (a.length) (c_a))),(1,(.slice (A_b) (b.length) (c_b))),(4,(.slice (none) (0) (0))),(5,(.slice (some ⟨g1,0,none⟩) (a.length+b.length) (a.length+b.length))),(18,(.slice (A_a) (a.length) (c_a))),(19,(.int .i64 (((a.length:Nat):Int)))),(20,(.int .i64 (((i:Nat):Int)))),(21,(.bool (decide (((i:Nat):Int)<((a.length:Nat):Int))))),(6,(.int .i64 (((i:Nat):Int)))),(7,(.int .u32 (((a.getD (i) 0:Nat):Int)))),(25,(.slice (A_b) (b.length) (c_b))),(26,(.int .i64 (((b.length:Nat):Int)))),(8,(.int .u64 (((cr:Nat):Int)))),(27,(.int .i64 (((k:Nat):Int)))),(28,(.bool (decide (((k:Nat):Int)<((b.length:Nat):Int))))),(9,(.int .i64 (((k:Nat):Int)))),(10,(.int .u32 (((b.getD (k) 0:Nat):Int))))]:=(hF.all ⟨rfl,rfl,rfl,rfl,rfl,rfl,rfl,rfl,rfl,rfl,rfl,rfl,rfl,rfl,rfl,rfl,rfl,trivial⟩)
   refine c_nil_then ?_
   refine c_seq ?_
   refine c_reg ?_
   refine pr hF (pm rfl <| pm rfl <| pm rfl <| pg (λ_ hF=>ex_add (hF.ev rfl) (hF.ev rfl) vi64) <| pg (λ_ hF=>ex_idxo (j:=i+k) TfE.sl28 (hF.ev rfl) (hF.ev rfl) (by omega) (by omega)) <| pg (λ_ hF=>ex_load1b TfE.one158 (hF.ev rfl) (hS.get 0 rfl) (us_arr (by first|omega|(simp;omega)))) <| pg (λ_ hF=>ex_conv TfE.unds158 TfE.und134 (hF.ev rfl) (wu64n (by omega))) <| pm rfl <| pg (λ_ hF=>ex_conv TfE.unds158 TfE.und134 (hF.ev rfl) (wu64n (by omega))) <| pm rfl <| pg (λ_ hF=>ex_conv TfE.unds158 TfE.und134 (hF.ev rfl) (wu64n (by omega))) <| pg (λ_ hF=>ex_mul (hF.ev rfl) (hF.ev rfl) vu64) <| pg (λ_ hF=>ex_add (hF.ev rfl) (hF.ev rfl) vu64) <| pm rfl <| pg (λ_ hF=>ex_add (hF.ev rfl) (hF.ev rfl) vu64) <| pa rfl <| PR.nil) ?_
   clear hF fa;intro fa hF
   replace hF:Frm 68 fa [(0,(.slice (A_a) (a.length) (c_a))),(1,(.slice (A_b) (b.length) (c_b))),(4,(.slice (none) (0) (0))),(5,(.slice (some ⟨g1,0,none⟩) (a.length+b.length) (a.length+b.length))),(18,(.slice (A_a) (a.length) (c_a))),(19,(.int .i64 (((a.length:Nat):Int)))),(20,(.int .i64 (((i:Nat):Int)))),(21,(.bool (decide (((i:Nat):Int)<((a.length:Nat):Int))))),(6,(.int .i64 (((i:Nat):Int)))),(7,(.int .u32 (((a.getD (i) 0:Nat):Int)))),(25,(.slice (A_b) (b.length) (c_b))),(26,(.int .i64 (((b.length:Nat):Int)))),(8,(.int .u64 (((cr:Nat):Int)))),(27,(.int .i64 (((k:Nat):Int)))),(28,(.bool (decide (((k:Nat):Int)<((b.length:Nat):Int))))),(9,(.int .i64 (((k:Nat):Int)))),(10,(.int .u32 (((b.getD (k) 0:Nat):Int)))),(11,(.int .u64 ((((o2.getD (i+k) 0:Nat):Int)+(((a.getD (i) 0:Nat):Int)*((b.getD (k) 0:Nat):Int)))+((cr:Nat):Int))))]:=(hF.all ⟨rfl,rfl,rfl,rfl,rfl,rfl,rfl,rfl,rfl,rfl,rfl,rfl,rfl,rfl,rfl,rfl,rfl,rfl,trivial⟩)
   refine c_nil_then ?_
   refine c_reg ?_
   refine pr hF (pm rfl <| pm rfl <| pm rfl <| pg (λ_ hF=>ex_add (hF.ev rfl) (hF.ev rfl) vi64) <| pm rfl <| pg (λ_ hF=>ex_rem (hF.ev rfl) (hF.ev rfl) (by omega) (r_any (x:=((o2.getD (i+k) 0)+((a.getD (i) 0)*(b.getD (k) 0)))+cr) (y:=1000000000) (by omega) (by omega))) <| pg (λ_ hF=>ex_conv TfE.unds134 TfE.und158 (hF.ev rfl) (wu32n (by omega))) <| pm rfl <| pg (λ_ hF=>ex_quo (hF.ev rfl) (hF.ev rfl) (by omega) (q_u64 (x:=((o2.getD (i+k) 0)+((a.getD (i) 0)*(b.getD (k) 0)))+cr) (y:=1000000000) (by omega) (by omega) (by omega))) <| pg (λ_ hF=>ex_idxo (j:=i+k) TfE.sl28 (hF.ev rfl) (hF.ev rfl) (by omega) (by omega)) <| PR.nil) ?_
   clear hF fa;intro fa hF
   refine st rfl (op_store (vs:=#[.int .u32 (((((o2.getD (i+k) 0)+((a.getD (i) 0)*(b.getD (k) 0)))+cr) % 1000000000:Nat):Int)]) (v:=.int .u32 (((((o2.getD (i+k) 0)+((a.getD (i) 0)*(b.getD (k) 0)))+cr) % 1000000000:Nat):Int)) (X:=(g1 :: X)) hF hS 0 rfl (by simp) rfl (ev_int rfl (by omega)) rfl TfE.size158 rfl (us_fit (by first|omega|(simp;omega))) ?_)
   intro w17 hS E18
   rw [splice_us (by first|omega|(simp;omega))] at hS
   refine pr hF (pa rfl <| PR.nil) ?_
   clear hF fa;intro fa hF
   refine c_nil ?_
   refine x_bn ?_
   refine x_tn ?_
   refine c_reg ?_
   refine pr hF (pg (λ_ hF=>ex_add (hF.ev rfl) (hF.ev rfl) vi64) <| pm rfl <| PR.nil) ?_
   clear hF fa;intro fa hF
   refine c_nil ?_
   refine x_tn ?_
   exact ⟨_,(by omega),o2.set (i+k) ((((o2.getD (i+k) 0)+((a.getD (i) 0)*(b.getD (k) 0)))+cr) % 1000000000),(((o2.getD (i+k) 0)+((a.getD (i) 0)*(b.getD (k) 0)))+cr) / 1000000000,(k+1),(hF.all ⟨rfl,rfl,rfl,rfl,rfl,rfl,rfl,rfl,rfl,rfl,rfl,rfl,(lk_int rfl (by omega)),(lk_int rfl (by omega)),trivial⟩),hS,(E12.trans E18),(by omega),(by simp;omega),(lb_set hbo2 (by omega)),(by omega),(times_step (by omega) (by omega) hv2 (by omega) rfl rfl),rfl⟩
  have hc13p:¬ (((k:Nat):Int)<((b.length:Nat):Int)):=by first|simpa using hc13|exact bang_t hc13|exact bang_f hc13
  refine c_exit ?_
  refine x_te ?_
  refine x_te ?_
  refine x_bh ?_
  refine x_tn ?_
  refine c_reg ?_
  refine pr hF (pm rfl <| pm rfl <| pm rfl <| pg (λ_ hF=>ex_len TfE.sls28 (hF.ev rfl)) <| pg (λ_ hF=>ex_add (hF.ev rfl) (hF.ev rfl) vi64) <| pm rfl <| pg (λ_ hF=>ex_conv TfE.unds134 TfE.und158 (hF.ev rfl) (wu32n (by omega))) <| pg (λ_ hF=>ex_idxo (j:=i+b.length) TfE.sl28 (hF.ev rfl) (hF.ev rfl) (by omega) (by omega)) <| PR.nil) ?_
  clear hF fa;intro fa hF
  refine st rfl (op_store (vs:=#[.int .u32 ((cr:Nat):Int)]) (v:=.int .u32 ((cr:Nat):Int)) (X:=(g1 :: X)) hF hS 0 rfl (by simp) rfl (ev_int rfl (by omega)) rfl TfE.size158 rfl (us_fit (by first|omega|(simp;omega))) ?_)
  intro w19 hS E20
  rw [splice_us (by first|omega|(simp;omega))] at hS
  replace hF:Frm 68 fa [(0,(.slice (A_a) (a.length) (c_a))),(1,(.slice (A_b) (b.length) (c_b))),(4,(.slice (none) (0) (0))),(5,(.slice (some ⟨g1,0,none⟩) (a.length+b.length) (a.length+b.length))),(18,(.slice (A_a) (a.length) (c_a))),(19,(.int .i64 (((a.length:Nat):Int)))),(20,(.int .i64 (((i:Nat):Int)))),(21,(.bool (decide (((i:Nat):Int)<((a.length:Nat):Int))))),(6,(.int .i64 (((i:Nat):Int)))),(7,(.int .u32 (((a.getD (i) 0:Nat):Int)))),(25,(.slice (A_b) (b.length) (c_b))),(26,(.int .i64 (((b.length:Nat):Int)))),(8,(.int .u64 (((cr:Nat):Int)))),(27,(.int .i64 (((k:Nat):Int)))),(28,(.bool (decide (((k:Nat):Int)<((b.length:Nat):Int)))))]:=(hF.all ⟨rfl,rfl,rfl,rfl,rfl,rfl,rfl,rfl,rfl,rfl,rfl,rfl,rfl,rfl,rfl,trivial⟩)
  refine c_nil ?_
  refine x_bn ?_
  refine x_tn ?_
  refine c_reg ?_
  refine pr hF (pg (λ_ hF=>ex_add (hF.ev rfl) (hF.ev rfl) vi64) <| pm rfl <| PR.nil) ?_
  clear hF fa;intro fa hF
  refine c_nil ?_
  refine x_tn ?_
  exact ⟨_,(by omega),o2.set (i+b.length) (cr),(i+1),(hF.all ⟨rfl,rfl,rfl,rfl,rfl,rfl,(lk_int rfl (by omega)),trivial⟩),hS,((E6.trans E12).trans E20),(by omega),(by simp;omega),(lb_set hbo2 (by omega)),(times_row (by omega) (by rw [show k=b.length by omega] at hv2;exact hv2)),rfl⟩
 have hc7p:¬ (((i:Nat):Int)<((a.length:Nat):Int)):=by first|simpa using hc7|exact bang_t hc7|exact bang_f hc7
 refine c_exit ?_
 refine x_te ?_
 refine x_te ?_
 refine x_bh ?_
 refine x_tn ?_
 refine c_seq ?_
 refine c_reg ?_
 refine pr hF (pm rfl <| pa rfl <| PR.nil) ?_
 clear hF fa;intro fa hF
 refine c_nil_then ?_
 refine c_ret ?_
 rw [val_take_all (l:=o) (by omega),val_take_all (l:=a) (by omega)] at hv
 refine end1 hF rfl (res_tmp hF rfl) ?_
 exact ⟨_,rfl,⟨o,(Own.mk_ (L:=o) (hS.get 0 rfl) (hS.base 0 rfl) (by omega) (by omega) (rfl)),(hbo),(hv),(ho)⟩,hS.below⟩
end Go.Proofs.YtbbfmlhkgceabaaGreat
namespace Go.Proofs.YtbbfmlhkgceabaaGreat
open Go Go.RowKit Go.Sw
set_option linter.unusedVariables false
set_option maxRecDepth 20000
namespace TfQ
theorem one158:isOne Tryz.prog 158=true:=by kernel_rfl
theorem size158:(Tryz.prog.info? 158).map (λi=>i.size)=some 1:=by kernel_rfl
theorem sl28:sliceOf Tryz.prog 28=some (158,1):=by kernel_rfl
theorem sls28:(sliceOf Tryz.prog 28).isSome=true:=by kernel_rfl
theorem und134:Tryz.prog.underlying 134=some (TypeDesc.int .u64):=by kernel_rfl
theorem und158:Tryz.prog.underlying 158=some (TypeDesc.int .u32):=by kernel_rfl
theorem unds134:(Tryz.prog.underlying 134).isSome=true:=by kernel_rfl
theorem unds158:(Tryz.prog.underlying 158).isSome=true:=by kernel_rfl
end TfQ
set_option maxHeartbeats 4000000 in
theorem integer_subtract_ok{w0 w:World}{X:List Nat}{So:List Bx}{R:List Value}{g_U c_U:Nat}{U:List Nat}(hX:∀m∈X,m<w0.heap.size)(hS:St w0 w ((g_U,158,(us U++R).toArray) :: So))(k m:Nat){v_v:Value}{v:List Nat}(h_v:UL w (g_U :: (bl So++X)) v_v (v))(bw:Nat)(hU:U.length≤1000000000000)(hkm:k+m≤U.length)(hvm:v.length≤m)(hb_U:Lb U)(hb_v:Lb v)(hbw:bw<1000000000):
 Calls Tryz.prog 184 #[(.slice (some ⟨g_U,k,none⟩) m c_U),v_v,(.int .u64 ((bw:Nat):Int))] w (Ret λr w'=>∃o:List Nat,∃cy:Nat,r=.bool (decide (0<cy))∧o.length=U.length∧Lb o∧o.take k=U.take k∧o.drop (k+m)=U.drop (k+m)∧val (win o k m)+val v*bw=val (win U k m)+1000000000 ^ m*cy∧St w0 w' ((g_U,158,(us o++R).toArray) :: So)∧Ext w (g_U :: (bl So++X)) w' (g_U :: (bl So++X))):=by
 refine enter (N:=62) (fn:=Tryz.f184) (vs:=[(.slice (some ⟨g_U,k,none⟩) m c_U),v_v,(.int .u64 ((bw:Nat):Int))]) Tryz.func184 rfl rfl rfl ?_
 intro fa hF
 obtain ⟨A_v,_,c_v,rfl,rfl,hu_v⟩:=h_v
 have hl_v:=hu_v.len;have hc_v:=hu_v.cap
 replace hF:Frm 62 fa [(0,(.slice (some ⟨g_U,k,none⟩) (m) (c_U))),(1,(.slice (A_v) (v.length) (c_v))),(2,(.int .u64 (((bw:Nat):Int))))]:=hF
 refine c_seq ?_
 refine c_reg ?_
 refine pr hF (pa rfl <| PR.nil) ?_
 clear hF fa;intro fa hF
 refine c_nil_then ?_
 refine c_seq ?_
 refine c_reg ?_
 refine pr hF (pa rfl <| pa rfl <| PR.nil) ?_
 clear hF fa;intro fa hF
 refine c_nil_then ?_
 refine c_seq ?_
 refine c_seq ?_
 refine c_reg ?_
 refine pr hF (pm rfl <| pg (λ_ hF=>ex_len TfQ.sls28 (hF.ev rfl)) <| pm rfl <| PR.nil) ?_
 clear hF fa;intro fa hF
 refine c_nil_then ?_
 refine c_block ?_
 refine c_loop (λmu fa w'=>∃o:List Nat,∃cr:Nat,∃br:Nat,∃i:Nat,Frm 62 fa [(0,(.slice (some ⟨g_U,k,none⟩) (m) (c_U))),(1,(.slice (A_v) (v.length) (c_v))),(2,(.int .u64 (((bw:Nat):Int)))),(6,(.bool (false))),(14,(.int .i64 (((m:Nat):Int)))),(7,(.int .u64 (((cr:Nat):Int)))),(8,(.int .u64 (((br:Nat):Int)))),(15,(.int .i64 (((i:Nat):Int))))]∧St w0 w' ([(g_U,158,(us (o)++R).toArray)]++So)∧Ext w (g_U :: (bl So++X)) w' (g_U :: (bl So++X))∧(i≤m)∧(o.length=U.length)∧(Lb o)∧(o.take k=U.take k)∧(o.drop (k+i)=U.drop (k+i))∧(cr<1000000000)∧(br≤1)∧(val (win o k i)+val (v.take i)*bw=val (win U k i)+1000000000 ^ i*(cr+br))∧m-i=mu) ?_ ?_
 ·
  exact ⟨_,U,0,0,0,(hF.all ⟨rfl,rfl,rfl,rfl,rfl,(lk_int rfl (by omega)),(lk_int rfl (by omega)),(lk_int rfl (by omega)),trivial⟩),hS,Ext.refl _ _,(by omega),(rfl),(hb_U),(rfl),(rfl),(by omega),(by omega),(by simp [win_zero,val]),rfl⟩
 clear hF fa;intro n0_ fa w' hI
 clear hS
 obtain ⟨o,cr,br,i,hF,hS,E2,hi,ho,hbo,htk,hdr,hcr,hbr,hv,rfl⟩:=hI
 rename World=>w1
 have hox:=drop_getD hdr
 have hoi:=hbo.getD (k+i);have hvi:=hb_v.getD i
 have hgn:=λh=>getD_none (l:=v) (k:=i) h
 have hmul:v.getD i 0*bw≤999999999*999999999:=Nat.mul_le_mul (by omega) (by omega)
 refine c_seq ?_
 refine c_reg ?_
 refine pr hF (pg (λ_ hF=>ex_lss (hF.ev rfl) (hF.ev rfl)) <| PR.nil) ?_
 clear hF fa;intro fa hF
 refine c_nil_then ?_
 refine c_seq ?_
 refine c_cond hF rfl (λhc3=>?_) (λhc3=>?_)
 ·
  have hc3p:((i:Nat):Int)<((m:Nat):Int):=by first|simpa using hc3|exact bang_t hc3|exact bang_f hc3
  refine c_skip ?_
  refine x_tn ?_
  refine c_seq ?_
  refine c_block ?_
  refine c_seq ?_
  refine c_reg ?_
  refine pr hF (pm rfl <| pa rfl <| PR.nil) ?_
  clear hF fa;intro fa hF
  refine c_nil_then ?_
  refine c_seq ?_
  refine c_reg ?_
  refine pr hF (pm rfl <| pa rfl <| PR.nil) ?_
  clear hF fa;intro fa hF
  refine c_nil_then ?_
  refine c_seq ?_
  refine c_seq ?_
  refine c_reg ?_
  refine pr hF (pm rfl <| pm rfl <| pg (λ_ hF=>ex_len TfQ.sls28 (hF.ev rfl)) <| pg (λ_ hF=>ex_lss (hF.ev rfl) (hF.ev rfl)) <| PR.nil) ?_
  clear hF fa;intro fa hF
  refine c_nil_then ?_
  refine c_cond hF rfl (λhc4=>?_) (λhc4=>?_)
  ·
   have hc4p:((i:Nat):Int)<((v.length:Nat):Int):=by first|simpa using hc4|exact bang_t hc4|exact bang_f hc4
   refine c_reg ?_
   refine pr hF (pm rfl <| pm rfl <| pm rfl <| PR.nil) ?_
   clear hF fa;intro fa hF
   obtain ⟨ad5,hA6,hq7⟩:=(hu_v.ext E2).cl.at_ (us_get (l:=v) (i:=i) (by omega))
   refine pr hF (pg (λ_ hF=>ex_idx (j:=i) TfQ.sl28 (hF.ev rfl) hA6 (hF.ev rfl) (by omega) (by omega)) <| pg (λ_ hF=>ex_load1 TfQ.one158 (hF.ev rfl) hq7) <| pg (λ_ hF=>ex_conv TfQ.unds158 TfQ.und134 (hF.ev rfl) (wu64n (by omega))) <| pm rfl <| pg (λ_ hF=>ex_mul (hF.ev rfl) (hF.ev rfl) vu64) <| pg (λ_ hF=>ex_add (hF.ev rfl) (hF.ev rfl) vu64) <| pa rfl <| PR.nil) ?_
   clear hF fa;intro fa hF
   replace hF:Frm 62 fa [(0,(.slice (some ⟨g_U,k,none⟩) (m) (c_U))),(1,(.slice (A_v) (v.length) (c_v))),(2,(.int .u64 (((bw:Nat):Int)))),(6,(.bool (false))),(14,(.int .i64 (((m:Nat):Int)))),(7,(.int .u64 (((cr:Nat):Int)))),(8,(.int .u64 (((br:Nat):Int)))),(15,(.int .i64 (((i:Nat):Int)))),(16,(.bool (decide (((i:Nat):Int)<((m:Nat):Int))))),(9,(.int .i64 (((i:Nat):Int)))),(10,(.int .u64 (((cr:Nat):Int)+(((v.getD (i) 0:Nat):Int)*((bw:Nat):Int))))),(22,(.bool (decide (((i:Nat):Int)<((v.length:Nat):Int)))))]:=(hF.all ⟨rfl,rfl,rfl,rfl,rfl,rfl,rfl,rfl,rfl,rfl,rfl,rfl,trivial⟩)
   refine c_nil_then ?_
   refine c_seq ?_
   refine c_reg ?_
   refine pr hF (pm rfl <| pg (λ_ hF=>ex_quo (hF.ev rfl) (hF.ev rfl) (by omega) (q_u64 (x:=cr+((v.getD (i) 0)*bw)) (y:=1000000000) (by omega) (by omega) (by omega))) <| pa rfl <| PR.nil) ?_
   clear hF fa;intro fa hF
   refine c_nil_then ?_
   refine c_seq ?_
   refine c_reg ?_
   refine pr hF (pm rfl <| pg (λ_ hF=>ex_rem (hF.ev rfl) (hF.ev rfl) (by omega) (r_any (x:=cr+((v.getD (i) 0)*bw)) (y:=1000000000) (by omega) (by omega))) <| pm rfl <| pg (λ_ hF=>ex_add (hF.ev rfl) (hF.ev rfl) vu64) <| pa rfl <| PR.nil) ?_
   clear hF fa;intro fa hF
   refine c_nil_then ?_
   refine c_seq ?_
   refine c_reg ?_
   refine pr hF (pa rfl <| PR.nil) ?_
   clear hF fa;intro fa hF
   refine c_nil_then ?_
   refine c_seq ?_
   refine c_reg ?_
   refine pr hF (pm rfl <| pm rfl <| pg (λ_ hF=>ex_idxw (o:=k) (j:=i) TfQ.sl28 (hF.ev rfl) (hF.ev rfl) (by omega) (by omega)) <| pg (λ_ hF=>ex_load1b TfQ.one158 (hF.ev rfl) (hS.get 0 rfl) (us_arr2 (by first|omega|(simp;omega)))) <| pg (λ_ hF=>ex_conv TfQ.unds158 TfQ.und134 (hF.ev rfl) (wu64n (by omega))) <| pa rfl <| PR.nil) ?_
   clear hF fa;intro fa hF
   refine c_nil_then ?_
   refine c_seq ?_
   refine c_seq ?_
   refine c_reg ?_
   refine pr hF (pm rfl <| pm rfl <| pg (λ_ hF=>ex_lss (hF.ev rfl) (hF.ev rfl)) <| PR.nil) ?_
   clear hF fa;intro fa hF
   replace hF:Frm 62 fa [(0,(.slice (some ⟨g_U,k,none⟩) (m) (c_U))),(1,(.slice (A_v) (v.length) (c_v))),(2,(.int .u64 (((bw:Nat):Int)))),(6,(.bool (false))),(14,(.int .i64 (((m:Nat):Int)))),(7,(.int .u64 ((((cr+((v.getD (i) 0)*bw)) / 1000000000:Nat):Int)))),(8,(.int .u64 (0))),(15,(.int .i64 (((i:Nat):Int)))),(16,(.bool (decide (((i:Nat):Int)<((m:Nat):Int))))),(9,(.int .i64 (((i:Nat):Int)))),(10,(.int .u64 (((cr:Nat):Int)+(((v.getD (i) 0:Nat):Int)*((bw:Nat):Int))))),(22,(.bool (decide (((i:Nat):Int)<((v.length:Nat):Int))))),(11,(.int .u64 ((((cr+((v.getD (i) 0)*bw)) % 1000000000:Nat):Int)+((br:Nat):Int)))),(12,(.int .u64 (((o.getD (k+i) 0:Nat):Int)))),(45,(.bool (decide (((o.getD (k+i) 0:Nat):Int)<((((cr+((v.getD (i) 0)*bw)) % 1000000000:Nat):Int)+((br:Nat):Int))))))]:=(hF.all ⟨rfl,rfl,rfl,rfl,rfl,rfl,rfl,rfl,rfl,rfl,rfl,rfl,rfl,rfl,rfl,trivial⟩)
   refine c_nil_then ?_
   refine c_cond hF rfl (λhc8=>?_) (λhc8=>?_)
   ·
    have hc8p:((o.getD (k+i) 0:Nat):Int)<((((cr+((v.getD (i) 0)*bw)) % 1000000000:Nat):Int)+((br:Nat):Int)):=by first|simpa using hc8|exact bang_t hc8|exact bang_f hc8
    refine c_reg ?_
    refine pr hF (pm rfl <| pg (λ_ hF=>ex_add (hF.ev rfl) (hF.ev rfl) vu64) <| pa rfl <| pa rfl <| PR.nil) ?_
    clear hF fa;intro fa hF
    refine c_nil_then ?_
    refine c_reg ?_
    refine pr hF (pm rfl <| pm rfl <| pm rfl <| pm rfl <| pg (λ_ hF=>ex_sub (hF.ev rfl) (hF.ev rfl) vu64) <| pg (λ_ hF=>ex_conv TfQ.unds134 TfQ.und158 (hF.ev rfl) vu32) <| pg (λ_ hF=>ex_idxw (o:=k) (j:=i) TfQ.sl28 (hF.ev rfl) (hF.ev rfl) (by omega) (by omega)) <| PR.nil) ?_
    clear hF fa;intro fa hF
    refine st rfl (op_store (vs:=#[.int .u32 ((((o.getD (k+i) 0)+1000000000)-(((cr+((v.getD (i) 0)*bw)) % 1000000000)+br):Nat):Int)]) (v:=.int .u32 ((((o.getD (k+i) 0)+1000000000)-(((cr+((v.getD (i) 0)*bw)) % 1000000000)+br):Nat):Int)) (X:=(g_U :: (bl So++X))) hF hS 0 rfl (by simp) rfl (ev_int rfl (by omega)) rfl TfQ.size158 rfl (us_fit2 (by first|omega|(simp;omega))) ?_)
    intro w9 hS E10
    rw [splice_us2 (by first|omega|(simp;omega))] at hS
    refine c_nil ?_
    refine x_bn ?_
    refine x_tn ?_
    refine c_reg ?_
    refine pr hF (pg (λ_ hF=>ex_add (hF.ev rfl) (hF.ev rfl) vi64) <| pm rfl <| PR.nil) ?_
    clear hF fa;intro fa hF
    refine c_nil ?_
    refine x_tn ?_
    exact ⟨_,(by omega),o.set (k+i) (((o.getD (k+i) 0)+1000000000)-(((cr+((v.getD (i) 0)*bw)) % 1000000000)+br)),(cr+((v.getD (i) 0)*bw)) / 1000000000,1,(i+1),(hF.all ⟨rfl,rfl,rfl,rfl,rfl,(lk_int rfl (by omega)),(lk_int rfl (by omega)),(lk_int rfl (by omega)),trivial⟩),hS,(E2.trans E10),(by omega),(by simp;omega),(lb_set hbo (by omega)),(by rw [set_take];exact htk),(by rw [set_drop];exact drop_next hdr),(by omega),(by omega),(sub_step (x:=o.getD (k+i) 0) (by omega) hv hox.symm (by first|rfl|(rw [hgn (by omega)];omega)) (by omega)),rfl⟩
   have hc8p:¬ (((o.getD (k+i) 0:Nat):Int)<((((cr+((v.getD (i) 0)*bw)) % 1000000000:Nat):Int)+((br:Nat):Int))):=by first|simpa using hc8|exact bang_t hc8|exact bang_f hc8
   refine c_skip ?_
   refine x_tn ?_
   refine c_reg ?_
   refine pr hF (pm rfl <| pm rfl <| pm rfl <| pm rfl <| pg (λ_ hF=>ex_sub (hF.ev rfl) (hF.ev rfl) vu64) <| pg (λ_ hF=>ex_conv TfQ.unds134 TfQ.und158 (hF.ev rfl) vu32) <| pg (λ_ hF=>ex_idxw (o:=k) (j:=i) TfQ.sl28 (hF.ev rfl) (hF.ev rfl) (by omega) (by omega)) <| PR.nil) ?_
   clear hF fa;intro fa hF
   refine st rfl (op_store (vs:=#[.int .u32 (((o.getD (k+i) 0)-(((cr+((v.getD (i) 0)*bw)) % 1000000000)+br):Nat):Int)]) (v:=.int .u32 (((o.getD (k+i) 0)-(((cr+((v.getD (i) 0)*bw)) % 1000000000)+br):Nat):Int)) (X:=(g_U :: (bl So++X))) hF hS 0 rfl (by simp) rfl (ev_int rfl (by omega)) rfl TfQ.size158 rfl (us_fit2 (by first|omega|(simp;omega))) ?_)
   intro w11 hS E12
   rw [splice_us2 (by first|omega|(simp;omega))] at hS
   refine c_nil ?_
   refine x_bn ?_
   refine x_tn ?_
   refine c_reg ?_
   refine pr hF (pg (λ_ hF=>ex_add (hF.ev rfl) (hF.ev rfl) vi64) <| pm rfl <| PR.nil) ?_
   clear hF fa;intro fa hF
   refine c_nil ?_
   refine x_tn ?_
   exact ⟨_,(by omega),o.set (k+i) ((o.getD (k+i) 0)-(((cr+((v.getD (i) 0)*bw)) % 1000000000)+br)),(cr+((v.getD (i) 0)*bw)) / 1000000000,0,(i+1),(hF.all ⟨rfl,rfl,rfl,rfl,rfl,(lk_int rfl (by omega)),(lk_int rfl (by omega)),(lk_int rfl (by omega)),trivial⟩),hS,(E2.trans E12),(by omega),(by simp;omega),(lb_set hbo (by omega)),(by rw [set_take];exact htk),(by rw [set_drop];exact drop_next hdr),(by omega),(by omega),(sub_step (x:=o.getD (k+i) 0) (by omega) hv hox.symm (by first|rfl|(rw [hgn (by omega)];omega)) (by omega)),rfl⟩
  have hc4p:¬ (((i:Nat):Int)<((v.length:Nat):Int)):=by first|simpa using hc4|exact bang_t hc4|exact bang_f hc4
  refine c_skip ?_
  refine x_tn ?_
  refine c_seq ?_
  refine c_reg ?_
  refine pr hF (pm rfl <| pg (λ_ hF=>ex_quo (hF.ev rfl) (hF.ev rfl) (by omega) (q_u64 (x:=cr) (y:=1000000000) (by omega) (by omega) (by omega))) <| pa rfl <| PR.nil) ?_
  clear hF fa;intro fa hF
  refine c_nil_then ?_
  refine c_seq ?_
  refine c_reg ?_
  refine pr hF (pm rfl <| pg (λ_ hF=>ex_rem (hF.ev rfl) (hF.ev rfl) (by omega) (r_any (x:=cr) (y:=1000000000) (by omega) (by omega))) <| pm rfl <| pg (λ_ hF=>ex_add (hF.ev rfl) (hF.ev rfl) vu64) <| pa rfl <| PR.nil) ?_
  clear hF fa;intro fa hF
  replace hF:Frm 62 fa [(0,(.slice (some ⟨g_U,k,none⟩) (m) (c_U))),(1,(.slice (A_v) (v.length) (c_v))),(2,(.int .u64 (((bw:Nat):Int)))),(6,(.bool (false))),(14,(.int .i64 (((m:Nat):Int)))),(7,(.int .u64 (((cr / 1000000000:Nat):Int)))),(8,(.int .u64 (((br:Nat):Int)))),(15,(.int .i64 (((i:Nat):Int)))),(16,(.bool (decide (((i:Nat):Int)<((m:Nat):Int))))),(9,(.int .i64 (((i:Nat):Int)))),(10,(.int .u64 (((cr:Nat):Int)))),(22,(.bool (decide (((i:Nat):Int)<((v.length:Nat):Int))))),(11,(.int .u64 (((cr % 1000000000:Nat):Int)+((br:Nat):Int))))]:=(hF.all ⟨rfl,rfl,rfl,rfl,rfl,rfl,rfl,rfl,rfl,rfl,rfl,rfl,rfl,trivial⟩)
  refine c_nil_then ?_
  refine c_seq ?_
  refine c_reg ?_
  refine pr hF (pa rfl <| PR.nil) ?_
  clear hF fa;intro fa hF
  refine c_nil_then ?_
  refine c_seq ?_
  refine c_reg ?_
  refine pr hF (pm rfl <| pm rfl <| pg (λ_ hF=>ex_idxw (o:=k) (j:=i) TfQ.sl28 (hF.ev rfl) (hF.ev rfl) (by omega) (by omega)) <| pg (λ_ hF=>ex_load1b TfQ.one158 (hF.ev rfl) (hS.get 0 rfl) (us_arr2 (by first|omega|(simp;omega)))) <| pg (λ_ hF=>ex_conv TfQ.unds158 TfQ.und134 (hF.ev rfl) (wu64n (by omega))) <| pa rfl <| PR.nil) ?_
  clear hF fa;intro fa hF
  refine c_nil_then ?_
  refine c_seq ?_
  refine c_seq ?_
  refine c_reg ?_
  refine pr hF (pm rfl <| pm rfl <| pg (λ_ hF=>ex_lss (hF.ev rfl) (hF.ev rfl)) <| PR.nil) ?_
  clear hF fa;intro fa hF
  refine c_nil_then ?_
  refine c_cond hF rfl (λhc13=>?_) (λhc13=>?_)
  ·
   have hc13p:((o.getD (k+i) 0:Nat):Int)<(((cr % 1000000000:Nat):Int)+((br:Nat):Int)):=by first|simpa using hc13|exact bang_t hc13|exact bang_f hc13
   refine c_reg ?_
   refine pr hF (pm rfl <| pg (λ_ hF=>ex_add (hF.ev rfl) (hF.ev rfl) vu64) <| pa rfl <| pa rfl <| PR.nil) ?_
   clear hF fa;intro fa hF
   refine c_nil_then ?_
   refine c_reg ?_
   refine pr hF (pm rfl <| pm rfl <| pm rfl <| pm rfl <| pg (λ_ hF=>ex_sub (hF.ev rfl) (hF.ev rfl) vu64) <| pg (λ_ hF=>ex_conv TfQ.unds134 TfQ.und158 (hF.ev rfl) vu32) <| pg (λ_ hF=>ex_idxw (o:=k) (j:=i) TfQ.sl28 (hF.ev rfl) (hF.ev rfl) (by omega) (by omega)) <| PR.nil) ?_
   clear hF fa;intro fa hF
   refine st rfl (op_store (vs:=#[.int .u32 ((((o.getD (k+i) 0)+1000000000)-((cr % 1000000000)+br):Nat):Int)]) (v:=.int .u32 ((((o.getD (k+i) 0)+1000000000)-((cr % 1000000000)+br):Nat):Int)) (X:=(g_U :: (bl So++X))) hF hS 0 rfl (by simp) rfl (ev_int rfl (by omega)) rfl TfQ.size158 rfl (us_fit2 (by first|omega|(simp;omega))) ?_)
   intro w14 hS E15
   rw [splice_us2 (by first|omega|(simp;omega))] at hS
   replace hF:Frm 62 fa [(0,(.slice (some ⟨g_U,k,none⟩) (m) (c_U))),(1,(.slice (A_v) (v.length) (c_v))),(2,(.int .u64 (((bw:Nat):Int)))),(6,(.bool (false))),(14,(.int .i64 (((m:Nat):Int)))),(7,(.int .u64 (((cr / 1000000000:Nat):Int)))),(8,(.int .u64 (1))),(15,(.int .i64 (((i:Nat):Int)))),(16,(.bool (decide (((i:Nat):Int)<((m:Nat):Int))))),(9,(.int .i64 (((i:Nat):Int)))),(10,(.int .u64 (((cr:Nat):Int)))),(22,(.bool (decide (((i:Nat):Int)<((v.length:Nat):Int))))),(11,(.int .u64 (((cr % 1000000000:Nat):Int)+((br:Nat):Int)))),(12,(.int .u64 (((o.getD (k+i) 0:Nat):Int)+1000000000))),(45,(.bool (decide (((o.getD (k+i) 0:Nat):Int)<(((cr % 1000000000:Nat):Int)+((br:Nat):Int))))))]:=(hF.all ⟨rfl,rfl,rfl,rfl,rfl,rfl,rfl,rfl,rfl,rfl,rfl,rfl,rfl,rfl,rfl,trivial⟩)
   refine c_nil ?_
   refine x_bn ?_
   refine x_tn ?_
   refine c_reg ?_
   refine pr hF (pg (λ_ hF=>ex_add (hF.ev rfl) (hF.ev rfl) vi64) <| pm rfl <| PR.nil) ?_
   clear hF fa;intro fa hF
   refine c_nil ?_
   refine x_tn ?_
   exact ⟨_,(by omega),o.set (k+i) (((o.getD (k+i) 0)+1000000000)-((cr % 1000000000)+br)),cr / 1000000000,1,(i+1),(hF.all ⟨rfl,rfl,rfl,rfl,rfl,(lk_int rfl (by omega)),(lk_int rfl (by omega)),(lk_int rfl (by omega)),trivial⟩),hS,(E2.trans E15),(by omega),(by simp;omega),(lb_set hbo (by omega)),(by rw [set_take];exact htk),(by rw [set_drop];exact drop_next hdr),(by omega),(by omega),(sub_step (x:=o.getD (k+i) 0) (by omega) hv hox.symm (by first|rfl|(rw [hgn (by omega)];omega)) (by omega)),rfl⟩
  have hc13p:¬ (((o.getD (k+i) 0:Nat):Int)<(((cr % 1000000000:Nat):Int)+((br:Nat):Int))):=by first|simpa using hc13|exact bang_t hc13|exact bang_f hc13
  refine c_skip ?_
  refine x_tn ?_
  refine c_reg ?_
  refine pr hF (pm rfl <| pm rfl <| pm rfl <| pm rfl <| pg (λ_ hF=>ex_sub (hF.ev rfl) (hF.ev rfl) vu64) <| pg (λ_ hF=>ex_conv TfQ.unds134 TfQ.und158 (hF.ev rfl) vu32) <| pg (λ_ hF=>ex_idxw (o:=k) (j:=i) TfQ.sl28 (hF.ev rfl) (hF.ev rfl) (by omega) (by omega)) <| PR.nil) ?_
  clear hF fa;intro fa hF
  refine st rfl (op_store (vs:=#[.int .u32 (((o.getD (k+i) 0)-((cr % 1000000000)+br):Nat):Int)]) (v:=.int .u32 (((o.getD (k+i) 0)-((cr % 1000000000)+br):Nat):Int)) (X:=(g_U :: (bl So++X))) hF hS 0 rfl (by simp) rfl (ev_int rfl (by omega)) rfl TfQ.size158 rfl (us_fit2 (by first|omega|(simp;omega))) ?_)
  intro w16 hS E17
  rw [splice_us2 (by first|omega|(simp;omega))] at hS
  replace hF:Frm 62 fa [(0,(.slice (some ⟨g_U,k,none⟩) (m) (c_U))),(1,(.slice (A_v) (v.length) (c_v))),(2,(.int .u64 (((bw:Nat):Int)))),(6,(.bool (false))),(14,(.int .i64 (((m:Nat):Int)))),(7,(.int .u64 (((cr / 1000000000:Nat):Int)))),(8,(.int .u64 (0))),(15,(.int .i64 (((i:Nat):Int)))),(16,(.bool (decide (((i:Nat):Int)<((m:Nat):Int))))),(9,(.int .i64 (((i:Nat):Int)))),(10,(.int .u64 (((cr:Nat):Int)))),(22,(.bool (decide (((i:Nat):Int)<((v.length:Nat):Int))))),(11,(.int .u64 (((cr % 1000000000:Nat):Int)+((br:Nat):Int)))),(12,(.int .u64 (((o.getD (k+i) 0:Nat):Int)))),(45,(.bool (decide (((o.getD (k+i) 0:Nat):Int)<(((cr % 1000000000:Nat):Int)+((br:Nat):Int))))))]:=(hF.all ⟨rfl,rfl,rfl,rfl,rfl,rfl,rfl,rfl,rfl,rfl,rfl,rfl,rfl,rfl,rfl,trivial⟩)
  refine c_nil ?_
  refine x_bn ?_
  refine x_tn ?_
  refine c_reg ?_
  refine pr hF (pg (λ_ hF=>ex_add (hF.ev rfl) (hF.ev rfl) vi64) <| pm rfl <| PR.nil) ?_
  clear hF fa;intro fa hF
  refine c_nil ?_
  refine x_tn ?_
  exact ⟨_,(by omega),o.set (k+i) ((o.getD (k+i) 0)-((cr % 1000000000)+br)),cr / 1000000000,0,(i+1),(hF.all ⟨rfl,rfl,rfl,rfl,rfl,(lk_int rfl (by omega)),(lk_int rfl (by omega)),(lk_int rfl (by omega)),trivial⟩),hS,(E2.trans E17),(by omega),(by simp;omega),(lb_set hbo (by omega)),(by rw [set_take];exact htk),(by rw [set_drop];exact drop_next hdr),(by omega),(by omega),(sub_step (x:=o.getD (k+i) 0) (by omega) hv hox.symm (by first|rfl|(rw [hgn (by omega)];omega)) (by omega)),rfl⟩
 have hc3p:¬ (((i:Nat):Int)<((m:Nat):Int)):=by first|simpa using hc3|exact bang_t hc3|exact bang_f hc3
 refine c_exit ?_
 refine x_te ?_
 refine x_te ?_
 refine x_bh ?_
 refine x_tn ?_
 refine c_seq ?_
 refine c_reg ?_
 refine pr hF (pm rfl <| pg (λ_ hF=>ex_gtr (hF.ev rfl) (hF.ev rfl)) <| pm rfl <| PR.nil) ?_
 clear hF fa;intro fa hF
 rcases Bool.eq_false_or_eq_true (decide (((br:Nat):Int) > 0)) with hg18|hg18
 ·
  replace hF:=hF.cons (t:=58) (v:=.bool true) ((hF.get 58 _ rfl).trans (congrArg Value.bool hg18))
  have hg18p:((br:Nat):Int) > 0:=by simpa using hg18
  refine pr hF (psk rfl rfl <| psk rfl rfl <| pg (λ_ hF=>ex_pick (hF.ev rfl) (λ_=>hF.ev rfl) (v:=undef) (λh=>by cases h) rfl) <| pa rfl <| PR.nil) ?_
  clear hF fa;intro fa hF
  refine c_nil_then ?_
  refine c_ret ?_
  refine end1 hF rfl (res_tmp hF rfl) ?_
  exact ⟨_,rfl,o,(cr+br),(congrArg Value.bool (by symm;rw [decide_eq_true_eq];omega)),(ho),(hbo),(htk),(by rw [show m=i by omega];exact hdr),(by have h1:=hv;rw [val_take_all (l:=v) (by omega),show i=m by omega] at h1;exact h1),hS,E2⟩
 replace hF:=hF.cons (t:=58) (v:=.bool false) ((hF.get 58 _ rfl).trans (congrArg Value.bool hg18))
 have hg18p:¬ (((br:Nat):Int) > 0):=by simpa using hg18
 refine pr hF (pgg (λ_ hF=>ex_move (hF.ev rfl)) <| pgg (λ_ hF=>ex_gtr (hF.ev rfl) (hF.ev rfl)) <| pg (λ_ hF=>ex_pick (hF.ev rfl) (u:=undef) (λh=>by cases h) (λ_=>hF.ev rfl) rfl) <| pa rfl <| PR.nil) ?_
 clear hF fa;intro fa hF
 refine c_nil_then ?_
 refine c_ret ?_
 refine end1 hF rfl (res_tmp hF rfl) ?_
 exact ⟨_,rfl,o,(cr+br),(congrArg Value.bool (by rw [decide_eq_decide];omega)),(ho),(hbo),(htk),(by rw [show m=i by omega];exact hdr),(by have h1:=hv;rw [val_take_all (l:=v) (by omega),show i=m by omega] at h1;exact h1),hS,E2⟩
set_option maxHeartbeats 4000000 in
theorem integer_restore_ok{w0 w:World}{X:List Nat}{So:List Bx}{R:List Value}{g_U c_U:Nat}{U:List Nat}(hX:∀m∈X,m<w0.heap.size)(hS:St w0 w ((g_U,158,(us U++R).toArray) :: So))(k m:Nat){v_v:Value}{v:List Nat}(h_v:UL w (g_U :: (bl So++X)) v_v (v))(hU:U.length≤1000000000000)(hkm:k+m≤U.length)(hvm:v.length≤m)(hb_U:Lb U)(hb_v:Lb v):
 Calls Tryz.prog 185 #[(.slice (some ⟨g_U,k,none⟩) m c_U),v_v] w (Ret λr w'=>∃o:List Nat,∃cy:Nat,r=.tuple #[]∧o.length=U.length∧Lb o∧o.take k=U.take k∧o.drop (k+m)=U.drop (k+m)∧val (win o k m)+1000000000 ^ m*cy=val (win U k m)+val v∧cy≤1∧St w0 w' ((g_U,158,(us o++R).toArray) :: So)∧Ext w (g_U :: (bl So++X)) w' (g_U :: (bl So++X))):=by
 refine enter (N:=37) (fn:=Tryz.f185) (vs:=[(.slice (some ⟨g_U,k,none⟩) m c_U),v_v]) Tryz.func185 rfl rfl rfl ?_
 intro fa hF
 obtain ⟨A_v,_,c_v,rfl,rfl,hu_v⟩:=h_v
 have hl_v:=hu_v.len;have hc_v:=hu_v.cap
 replace hF:Frm 37 fa [(0,(.slice (some ⟨g_U,k,none⟩) (m) (c_U))),(1,(.slice (A_v) (v.length) (c_v)))]:=hF
 refine c_seq ?_
 refine c_reg ?_
 refine pr hF (pa rfl <| PR.nil) ?_
 clear hF fa;intro fa hF
 refine c_nil_then ?_
 refine c_seq ?_
 refine c_reg ?_
 refine pr hF (pm rfl <| pg (λ_ hF=>ex_len TfQ.sls28 (hF.ev rfl)) <| pm rfl <| PR.nil) ?_
 clear hF fa;intro fa hF
 refine c_nil_then ?_
 refine c_block ?_
 refine c_loop (λmu fa w'=>∃o:List Nat,∃cr:Nat,∃i:Nat,Frm 37 fa [(0,(.slice (some ⟨g_U,k,none⟩) (m) (c_U))),(1,(.slice (A_v) (v.length) (c_v))),(8,(.int .i64 (((m:Nat):Int)))),(4,(.int .u32 (((cr:Nat):Int)))),(9,(.int .i64 (((i:Nat):Int))))]∧St w0 w' ([(g_U,158,(us (o)++R).toArray)]++So)∧Ext w (g_U :: (bl So++X)) w' (g_U :: (bl So++X))∧(i≤m)∧(o.length=U.length)∧(Lb o)∧(o.take k=U.take k)∧(o.drop (k+i)=U.drop (k+i))∧(cr≤1)∧(val (win o k i)+1000000000 ^ i*cr=val (win U k i)+val (v.take i))∧m-i=mu) ?_ ?_
 ·
  exact ⟨_,U,0,0,(hF.all ⟨rfl,rfl,rfl,(lk_int rfl (by omega)),(lk_int rfl (by omega)),trivial⟩),hS,Ext.refl _ _,(by omega),(rfl),(hb_U),(rfl),(rfl),(by omega),(by simp [win_zero,val]),rfl⟩
 clear hF fa;intro n0_ fa w' hI
 clear hS
 obtain ⟨o,cr,i,hF,hS,E2,hi,ho,hbo,htk,hdr,hcr,hv,rfl⟩:=hI
 rename World=>w1
 have hox:=drop_getD hdr
 have hoi:=hbo.getD (k+i);have hvi:=hb_v.getD i
 have hgn:=λh=>getD_none (l:=v) (k:=i) h
 refine c_seq ?_
 refine c_reg ?_
 refine pr hF (pg (λ_ hF=>ex_lss (hF.ev rfl) (hF.ev rfl)) <| PR.nil) ?_
 clear hF fa;intro fa hF
 refine c_nil_then ?_
 refine c_seq ?_
 refine c_cond hF rfl (λhc3=>?_) (λhc3=>?_)
 ·
  have hc3p:((i:Nat):Int)<((m:Nat):Int):=by first|simpa using hc3|exact bang_t hc3|exact bang_f hc3
  refine c_skip ?_
  refine x_tn ?_
  refine c_seq ?_
  refine c_block ?_
  refine c_seq ?_
  refine c_reg ?_
  refine pr hF (pm rfl <| pa rfl <| PR.nil) ?_
  clear hF fa;intro fa hF
  refine c_nil_then ?_
  refine c_seq ?_
  refine c_reg ?_
  refine pr hF (pm rfl <| pm rfl <| pg (λ_ hF=>ex_idxw (o:=k) (j:=i) TfQ.sl28 (hF.ev rfl) (hF.ev rfl) (by omega) (by omega)) <| pg (λ_ hF=>ex_load1b TfQ.one158 (hF.ev rfl) (hS.get 0 rfl) (us_arr2 (by first|omega|(simp;omega)))) <| pm rfl <| pg (λ_ hF=>ex_add (hF.ev rfl) (hF.ev rfl) vu32) <| pa rfl <| PR.nil) ?_
  clear hF fa;intro fa hF
  refine c_nil_then ?_
  refine c_seq ?_
  refine c_seq ?_
  refine c_reg ?_
  refine pr hF (pm rfl <| pm rfl <| pg (λ_ hF=>ex_len TfQ.sls28 (hF.ev rfl)) <| pg (λ_ hF=>ex_lss (hF.ev rfl) (hF.ev rfl)) <| PR.nil) ?_
  clear hF fa;intro fa hF
  refine c_nil_then ?_
  refine c_cond hF rfl (λhc4=>?_) (λhc4=>?_)
  ·
   have hc4p:((i:Nat):Int)<((v.length:Nat):Int):=by first|simpa using hc4|exact bang_t hc4|exact bang_f hc4
   refine c_reg ?_
   refine pr hF (pm rfl <| pm rfl <| pm rfl <| PR.nil) ?_
   clear hF fa;intro fa hF
   obtain ⟨ad5,hA6,hq7⟩:=(hu_v.ext E2).cl.at_ (us_get (l:=v) (i:=i) (by omega))
   refine pr hF (pg (λ_ hF=>ex_idx (j:=i) TfQ.sl28 (hF.ev rfl) hA6 (hF.ev rfl) (by omega) (by omega)) <| pg (λ_ hF=>ex_load1 TfQ.one158 (hF.ev rfl) hq7) <| pg (λ_ hF=>ex_add (hF.ev rfl) (hF.ev rfl) vu32) <| pa rfl <| PR.nil) ?_
   clear hF fa;intro fa hF
   replace hF:Frm 37 fa [(0,(.slice (some ⟨g_U,k,none⟩) (m) (c_U))),(1,(.slice (A_v) (v.length) (c_v))),(8,(.int .i64 (((m:Nat):Int)))),(4,(.int .u32 (((cr:Nat):Int)))),(9,(.int .i64 (((i:Nat):Int)))),(10,(.bool (decide (((i:Nat):Int)<((m:Nat):Int))))),(5,(.int .i64 (((i:Nat):Int)))),(6,(.int .u32 ((((o.getD (k+i) 0:Nat):Int)+((cr:Nat):Int))+((v.getD (i) 0:Nat):Int)))),(21,(.bool (decide (((i:Nat):Int)<((v.length:Nat):Int)))))]:=(hF.all ⟨rfl,rfl,rfl,rfl,rfl,rfl,rfl,rfl,rfl,trivial⟩)
   refine c_nil_then ?_
   refine c_seq ?_
   refine c_reg ?_
   refine pr hF (pa rfl <| PR.nil) ?_
   clear hF fa;intro fa hF
   refine c_nil_then ?_
   refine c_seq ?_
   refine c_seq ?_
   refine c_reg ?_
   refine pr hF (pm rfl <| pg (λ_ hF=>ex_geq (hF.ev rfl) (hF.ev rfl)) <| PR.nil) ?_
   clear hF fa;intro fa hF
   refine c_nil_then ?_
   refine c_cond hF rfl (λhc8=>?_) (λhc8=>?_)
   ·
    have hc8p:((((o.getD (k+i) 0:Nat):Int)+((cr:Nat):Int))+((v.getD (i) 0:Nat):Int))≥1000000000:=by first|simpa using hc8|exact bang_t hc8|exact bang_f hc8
    refine c_reg ?_
    refine pr hF (pm rfl <| pg (λ_ hF=>ex_sub (hF.ev rfl) (hF.ev rfl) vu32) <| pa rfl <| pa rfl <| PR.nil) ?_
    clear hF fa;intro fa hF
    refine c_nil_then ?_
    refine c_reg ?_
    refine pr hF (pm rfl <| pm rfl <| pm rfl <| pg (λ_ hF=>ex_idxw (o:=k) (j:=i) TfQ.sl28 (hF.ev rfl) (hF.ev rfl) (by omega) (by omega)) <| PR.nil) ?_
    clear hF fa;intro fa hF
    refine st rfl (op_store (vs:=#[.int .u32 (((((o.getD (k+i) 0)+cr)+(v.getD (i) 0))-1000000000:Nat):Int)]) (v:=.int .u32 (((((o.getD (k+i) 0)+cr)+(v.getD (i) 0))-1000000000:Nat):Int)) (X:=(g_U :: (bl So++X))) hF hS 0 rfl (by simp) rfl (ev_int rfl (by omega)) rfl TfQ.size158 rfl (us_fit2 (by first|omega|(simp;omega))) ?_)
    intro w9 hS E10
    rw [splice_us2 (by first|omega|(simp;omega))] at hS
    refine c_nil ?_
    refine x_bn ?_
    refine x_tn ?_
    refine c_reg ?_
    refine pr hF (pg (λ_ hF=>ex_add (hF.ev rfl) (hF.ev rfl) vi64) <| pm rfl <| PR.nil) ?_
    clear hF fa;intro fa hF
    refine c_nil ?_
    refine x_tn ?_
    exact ⟨_,(by omega),o.set (k+i) ((((o.getD (k+i) 0)+cr)+(v.getD (i) 0))-1000000000),1,(i+1),(hF.all ⟨rfl,rfl,rfl,(lk_int rfl (by omega)),(lk_int rfl (by omega)),trivial⟩),hS,(E2.trans E10),(by omega),(by simp;omega),(lb_set hbo (by omega)),(by rw [set_take];exact htk),(by rw [set_drop];exact drop_next hdr),(by omega),(add_step (x:=o.getD (k+i) 0) (by omega) hv hox.symm (by first|omega|(rw [hgn (by omega)];omega))),rfl⟩
   have hc8p:¬ (((((o.getD (k+i) 0:Nat):Int)+((cr:Nat):Int))+((v.getD (i) 0:Nat):Int))≥1000000000):=by first|simpa using hc8|exact bang_t hc8|exact bang_f hc8
   refine c_skip ?_
   refine x_tn ?_
   refine c_reg ?_
   refine pr hF (pm rfl <| pm rfl <| pm rfl <| pg (λ_ hF=>ex_idxw (o:=k) (j:=i) TfQ.sl28 (hF.ev rfl) (hF.ev rfl) (by omega) (by omega)) <| PR.nil) ?_
   clear hF fa;intro fa hF
   refine st rfl (op_store (vs:=#[.int .u32 ((((o.getD (k+i) 0)+cr)+(v.getD (i) 0):Nat):Int)]) (v:=.int .u32 ((((o.getD (k+i) 0)+cr)+(v.getD (i) 0):Nat):Int)) (X:=(g_U :: (bl So++X))) hF hS 0 rfl (by simp) rfl (ev_int rfl (by omega)) rfl TfQ.size158 rfl (us_fit2 (by first|omega|(simp;omega))) ?_)
   intro w11 hS E12
   rw [splice_us2 (by first|omega|(simp;omega))] at hS
   refine c_nil ?_
   refine x_bn ?_
   refine x_tn ?_
   refine c_reg ?_
   refine pr hF (pg (λ_ hF=>ex_add (hF.ev rfl) (hF.ev rfl) vi64) <| pm rfl <| PR.nil) ?_
   clear hF fa;intro fa hF
   refine c_nil ?_
   refine x_tn ?_
   exact ⟨_,(by omega),o.set (k+i) (((o.getD (k+i) 0)+cr)+(v.getD (i) 0)),0,(i+1),(hF.all ⟨rfl,rfl,rfl,(lk_int rfl (by omega)),(lk_int rfl (by omega)),trivial⟩),hS,(E2.trans E12),(by omega),(by simp;omega),(lb_set hbo (by omega)),(by rw [set_take];exact htk),(by rw [set_drop];exact drop_next hdr),(by omega),(add_step (x:=o.getD (k+i) 0) (by omega) hv hox.symm (by first|omega|(rw [hgn (by omega)];omega))),rfl⟩
  have hc4p:¬ (((i:Nat):Int)<((v.length:Nat):Int)):=by first|simpa using hc4|exact bang_t hc4|exact bang_f hc4
  refine c_skip ?_
  refine x_tn ?_
  refine c_seq ?_
  refine c_reg ?_
  refine pr hF (pa rfl <| PR.nil) ?_
  clear hF fa;intro fa hF
  refine c_nil_then ?_
  refine c_seq ?_
  refine c_seq ?_
  refine c_reg ?_
  refine pr hF (pm rfl <| pg (λ_ hF=>ex_geq (hF.ev rfl) (hF.ev rfl)) <| PR.nil) ?_
  clear hF fa;intro fa hF
  replace hF:Frm 37 fa [(0,(.slice (some ⟨g_U,k,none⟩) (m) (c_U))),(1,(.slice (A_v) (v.length) (c_v))),(8,(.int .i64 (((m:Nat):Int)))),(4,(.int .u32 (0))),(9,(.int .i64 (((i:Nat):Int)))),(10,(.bool (decide (((i:Nat):Int)<((m:Nat):Int))))),(5,(.int .i64 (((i:Nat):Int)))),(6,(.int .u32 (((o.getD (k+i) 0:Nat):Int)+((cr:Nat):Int)))),(21,(.bool (decide (((i:Nat):Int)<((v.length:Nat):Int))))),(29,(.bool (decide ((((o.getD (k+i) 0:Nat):Int)+((cr:Nat):Int))≥1000000000))))]:=(hF.all ⟨rfl,rfl,rfl,rfl,rfl,rfl,rfl,rfl,rfl,rfl,trivial⟩)
  refine c_nil_then ?_
  refine c_cond hF rfl (λhc13=>?_) (λhc13=>?_)
  ·
   have hc13p:(((o.getD (k+i) 0:Nat):Int)+((cr:Nat):Int))≥1000000000:=by first|simpa using hc13|exact bang_t hc13|exact bang_f hc13
   refine c_reg ?_
   refine pr hF (pm rfl <| pg (λ_ hF=>ex_sub (hF.ev rfl) (hF.ev rfl) vu32) <| pa rfl <| pa rfl <| PR.nil) ?_
   clear hF fa;intro fa hF
   refine c_nil_then ?_
   refine c_reg ?_
   refine pr hF (pm rfl <| pm rfl <| pm rfl <| pg (λ_ hF=>ex_idxw (o:=k) (j:=i) TfQ.sl28 (hF.ev rfl) (hF.ev rfl) (by omega) (by omega)) <| PR.nil) ?_
   clear hF fa;intro fa hF
   refine st rfl (op_store (vs:=#[.int .u32 ((((o.getD (k+i) 0)+cr)-1000000000:Nat):Int)]) (v:=.int .u32 ((((o.getD (k+i) 0)+cr)-1000000000:Nat):Int)) (X:=(g_U :: (bl So++X))) hF hS 0 rfl (by simp) rfl (ev_int rfl (by omega)) rfl TfQ.size158 rfl (us_fit2 (by first|omega|(simp;omega))) ?_)
   intro w14 hS E15
   rw [splice_us2 (by first|omega|(simp;omega))] at hS
   refine c_nil ?_
   refine x_bn ?_
   refine x_tn ?_
   refine c_reg ?_
   refine pr hF (pg (λ_ hF=>ex_add (hF.ev rfl) (hF.ev rfl) vi64) <| pm rfl <| PR.nil) ?_
   clear hF fa;intro fa hF
   refine c_nil ?_
   refine x_tn ?_
   exact ⟨_,(by omega),o.set (k+i) (((o.getD (k+i) 0)+cr)-1000000000),1,(i+1),(hF.all ⟨rfl,rfl,rfl,(lk_int rfl (by omega)),(lk_int rfl (by omega)),trivial⟩),hS,(E2.trans E15),(by omega),(by simp;omega),(lb_set hbo (by omega)),(by rw [set_take];exact htk),(by rw [set_drop];exact drop_next hdr),(by omega),(add_step (x:=o.getD (k+i) 0) (by omega) hv hox.symm (by first|omega|(rw [hgn (by omega)];omega))),rfl⟩
  have hc13p:¬ ((((o.getD (k+i) 0:Nat):Int)+((cr:Nat):Int))≥1000000000):=by first|simpa using hc13|exact bang_t hc13|exact bang_f hc13
  refine c_skip ?_
  refine x_tn ?_
  refine c_reg ?_
  refine pr hF (pm rfl <| pm rfl <| pm rfl <| pg (λ_ hF=>ex_idxw (o:=k) (j:=i) TfQ.sl28 (hF.ev rfl) (hF.ev rfl) (by omega) (by omega)) <| PR.nil) ?_
  clear hF fa;intro fa hF
  refine st rfl (op_store (vs:=#[.int .u32 (((o.getD (k+i) 0)+cr:Nat):Int)]) (v:=.int .u32 (((o.getD (k+i) 0)+cr:Nat):Int)) (X:=(g_U :: (bl So++X))) hF hS 0 rfl (by simp) rfl (ev_int rfl (by omega)) rfl TfQ.size158 rfl (us_fit2 (by first|omega|(simp;omega))) ?_)
  intro w16 hS E17
  rw [splice_us2 (by first|omega|(simp;omega))] at hS
  refine c_nil ?_
  refine x_bn ?_
  refine x_tn ?_
  refine c_reg ?_
  refine pr hF (pg (λ_ hF=>ex_add (hF.ev rfl) (hF.ev rfl) vi64) <| pm rfl <| PR.nil) ?_
  clear hF fa;intro fa hF
  refine c_nil ?_
  refine x_tn ?_
  exact ⟨_,(by omega),o.set (k+i) ((o.getD (k+i) 0)+cr),0,(i+1),(hF.all ⟨rfl,rfl,rfl,(lk_int rfl (by omega)),(lk_int rfl (by omega)),trivial⟩),hS,(E2.trans E17),(by omega),(by simp;omega),(lb_set hbo (by omega)),(by rw [set_take];exact htk),(by rw [set_drop];exact drop_next hdr),(by omega),(add_step (x:=o.getD (k+i) 0) (by omega) hv hox.symm (by first|omega|(rw [hgn (by omega)];omega))),rfl⟩
 have hc3p:¬ (((i:Nat):Int)<((m:Nat):Int)):=by first|simpa using hc3|exact bang_t hc3|exact bang_f hc3
 refine c_exit ?_
 refine x_te ?_
 refine x_te ?_
 refine x_bh ?_
 refine end0 hF rfl ?_
 exact ⟨_,rfl,o,cr,rfl,(ho),(hbo),(htk),(by rw [show m=i by omega];exact hdr),(by have h1:=hv;rw [val_take_all (l:=v) (by omega),show i=m by omega] at h1;exact h1),(hcr),hS,E2⟩
end Go.Proofs.YtbbfmlhkgceabaaGreat
