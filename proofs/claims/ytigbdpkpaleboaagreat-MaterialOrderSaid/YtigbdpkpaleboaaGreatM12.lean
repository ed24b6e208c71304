/-
  What the functions swarfref12.cross, swarfref12.toSegment, swarfref12.Segments answer, each out of its text by the abstract run.
  What the functions material.num, material.add, material.sub, material.mul, material.way, material.dot, material.vec, material.square, material.Cut).level, material.Cut).over, material.Swept, swarfref52.whole, swarfref52.Vec, swarfref52.near, swarfref52.Swept answer, each out of its text by the abstract run.
  What the functions swarfref05.two, swarfref05.Sign, swarfref05.Sub, swarfref05.Cmp, swarfref05.Equal, swarfref05.CmpRat, swarfref03.Valid, swarfref03.Int answer, each out of its text by the abstract run.
  A cut that is dominated removes nothing that the other one does not remove.
  The order of roots, as the program finds it.
  Roots are totally ordered; no cut reaches below its ends; the least height of several cuts.
  Lists of cuts, as the runs make them.
  What the functions swarfref52.pos, swarfref52.Of, swarflaw52.is, swarfref52.Dominated, material.Dominated answer, each out of its text by the abstract run.
  What the functions swarflaw52.awake answer, each out of its text by the abstract run.
  Writing to a variable that the caller hands on.
  Leaves of the runs of the order of roots.
  Conditions: none.
-/
import Derived.Test.YtigbdpkpaleboaaGreatM11
set_option linter.all false
namespace Go.Proofs.YtigbdpkpaleboaaGreat
open Go Go.RowKit Go.Sw
set_option linter.unusedVariables false
set_option maxRecDepth 100000
set_option maxHeartbeats 8000000
set_option synthInstance.maxSize 4000
set_option synthInstance.maxHeartbeats 400000
instance g_q12_cr (a b c d x y : Rat) : DenI Tryz.prog 130 [Q2 a b, Q2 c d, Q2 x y, Q2 x y] (rz a ≤ 20000 ∧ rz b ≤ 20000 ∧ rz c ≤ 20000 ∧ rz d ≤ 20000 ∧ rz x ≤ 20000 ∧ rz y ≤ 20000) (.bool false) := ⟨fun hp => by
 have i_a : RzB a 20000 := ⟨hp.1⟩
 have i_b : RzB b 20000 := ⟨hp.2.1⟩
 have i_c : RzB c 20000 := ⟨hp.2.2.1⟩
 have i_d : RzB d 20000 := ⟨hp.2.2.2.1⟩
 have i_x : RzB x 20000 := ⟨hp.2.2.2.2.1⟩
 have i_y : RzB y 20000 := ⟨hp.2.2.2.2.2⟩
 all_goals refine den_of (τ := tab) tab_ok mixed_ Tryz.func130 rfl (by kernel_rfl) (by kernel_rfl) (by kernel_rfl) ?_
 all_goals (repeat' ((try (conv => whnf)); first
  | refine call_0 ?_
  | refine call_i ?_ ?_
  | refine call_c ?_ (fun _ => ?_) (fun _ => ?_)
  | (with_reducible refine onB_t ?_)
  | (with_reducible refine onB_f ?_)
  | (with_reducible refine onB_d (fun _ => ?_) (fun _ => ?_))
  | (with_reducible refine onB_n (fun _ => ?_) (fun _ => ?_))
  | refine OnB.mk (fun _ => ?_) (fun _ => ?_)
  | refine obl_i ?_ ?_
  | refine Drw.mk (by kernel_rfl) ?_
  | refine mks_i ?_ ?_
  | refine slp_i ?_ ?_
  | (with_reducible refine elem_u ?_ ?_)
  | (with_reducible refine elem_0 ?_)
  | (with_reducible refine elem_1 ?_)
  | refine Ends.mk ?_))
 all_goals (try refine Pr.mk ?_)
 all_goals (try simp only [sgnI_lt0, sgnI_zero, sgnI_le0, sgnI_gt0, sgnI_ge0, sgnI_eq1, cmpI_lt0, cmpI_gt0, cmpI_eq0, cmpI_le0, cmpI_ge0, cmpR_of, sgnR_of, sgnR_lt0, sgnR_eq0, sgnR_gt0, sgnR_le0, sgnR_ge0, sgnR_eq1, cmpR_lt0, cmpR_gt0, cmpR_eq0, cmpR_le0, cmpR_ge0] at *)
 all_goals (try simp only [w_ss, w_sc, w_xs, w_xx] at *)
 all_goals first
  | rfl
  | (exfalso; with_reducible exact ss_nn (by assumption))
  | ((repeat' apply And.intro) <;> first | assumption | exact rzb (by omega) | exact szb (by omega) | exact Int.mul_ne_zero (den_ne _) (den_ne _))
  | ((repeat' apply And.intro) <;> first | assumption | exact rzb (by omega) | exact szb (by omega) | exact Int.mul_ne_zero (den_ne _) (den_ne _))
  | skip⟩

instance g_q12_to (a b c d x y : Rat) : DenI Tryz.prog 131 [Q2 a b, Q2 c d, Q2 x y] (rz a ≤ 20000 ∧ rz b ≤ 20000 ∧ rz c ≤ 20000 ∧ rz d ≤ 20000 ∧ rz x ≤ 20000 ∧ rz y ≤ 20000) (R (segD a b c d x y)) := ⟨fun hp => by
 have i_a : RzB a 20000 := ⟨hp.1⟩
 have i_b : RzB b 20000 := ⟨hp.2.1⟩
 have i_c : RzB c 20000 := ⟨hp.2.2.1⟩
 have i_d : RzB d 20000 := ⟨hp.2.2.2.1⟩
 have i_x : RzB x 20000 := ⟨hp.2.2.2.2.1⟩
 have i_y : RzB y 20000 := ⟨hp.2.2.2.2.2⟩
 all_goals refine den_of (τ := tab) tab_ok mixed_ Tryz.func131 rfl (by kernel_rfl) (by kernel_rfl) (by kernel_rfl) ?_
 all_goals (repeat' ((try (conv => whnf)); first
  | refine call_0 ?_
  | refine call_i ?_ ?_
  | refine call_c ?_ (fun _ => ?_) (fun _ => ?_)
  | (with_reducible refine onB_t ?_)
  | (with_reducible refine onB_f ?_)
  | (with_reducible refine onB_d (fun _ => ?_) (fun _ => ?_))
  | (with_reducible refine onB_n (fun _ => ?_) (fun _ => ?_))
  | refine OnB.mk (fun _ => ?_) (fun _ => ?_)
  | refine obl_i ?_ ?_
  | refine Drw.mk (by kernel_rfl) ?_
  | refine mks_i ?_ ?_
  | refine slp_i ?_ ?_
  | (with_reducible refine elem_u ?_ ?_)
  | (with_reducible refine elem_0 ?_)
  | (with_reducible refine elem_1 ?_)
  | refine Ends.mk ?_))
 all_goals (try refine Pr.mk ?_)
 all_goals (try simp only [sgnI_lt0, sgnI_zero, sgnI_le0, sgnI_gt0, sgnI_ge0, sgnI_eq1, cmpI_lt0, cmpI_gt0, cmpI_eq0, cmpI_le0, cmpI_ge0, cmpR_of, sgnR_of, sgnR_lt0, sgnR_eq0, sgnR_gt0, sgnR_le0, sgnR_ge0, sgnR_eq1, cmpR_lt0, cmpR_gt0, cmpR_eq0, cmpR_le0, cmpR_ge0] at *)
 all_goals first
  | with_reducible exact seg_1 (by assumption)
  | with_reducible exact seg_2 (by assumption) (by assumption)
  | with_reducible exact seg_3 (by assumption) (by assumption)
  | (refine ⟨rzb (by omega), rzb (by omega), fun h => seg_n0 h (by assumption) (by assumption)⟩)
  | ((repeat' apply And.intro) <;> first | assumption | exact rzb (by omega) | exact szb (by omega) | exact Int.mul_ne_zero (den_ne _) (den_ne _))
  | ((repeat' apply And.intro) <;> first | assumption | exact rzb (by omega) | exact szb (by omega) | exact Int.mul_ne_zero (den_ne _) (den_ne _))
  | skip⟩

instance g_q12_sg (a b c d x y : Rat) : DenI Tryz.prog 91 [Q2 a b, Q2 c d, Q2 x y, Q2 x y] (rz a ≤ 1000 ∧ rz b ≤ 1000 ∧ rz c ≤ 1000 ∧ rz d ≤ 1000 ∧ rz x ≤ 1000 ∧ rz y ≤ 1000) (R (segD a b c d x y)) := ⟨fun hp => by
 have i_a : RzB a 1000 := ⟨hp.1⟩
 have i_b : RzB b 1000 := ⟨hp.2.1⟩
 have i_c : RzB c 1000 := ⟨hp.2.2.1⟩
 have i_d : RzB d 1000 := ⟨hp.2.2.2.1⟩
 have i_x : RzB x 1000 := ⟨hp.2.2.2.2.1⟩
 have i_y : RzB y 1000 := ⟨hp.2.2.2.2.2⟩
 all_goals refine den_of (τ := tab) tab_ok mixed_ Tryz.func91 rfl (by kernel_rfl) (by kernel_rfl) (by kernel_rfl) ?_
 all_goals (repeat' ((try (conv => whnf)); first
  | refine call_0 ?_
  | refine call_i ?_ ?_
  | refine call_c ?_ (fun _ => ?_) (fun _ => ?_)
  | (with_reducible refine onB_t ?_)
  | (with_reducible refine onB_f ?_)
  | (with_reducible refine onB_d (fun _ => ?_) (fun _ => ?_))
  | (with_reducible refine onB_n (fun _ => ?_) (fun _ => ?_))
  | refine OnB.mk (fun _ => ?_) (fun _ => ?_)
  | refine obl_i ?_ ?_
  | refine Drw.mk (by kernel_rfl) ?_
  | refine mks_i ?_ ?_
  | refine slp_i ?_ ?_
  | (with_reducible refine elem_u ?_ ?_)
  | (with_reducible refine elem_0 ?_)
  | (with_reducible refine elem_1 ?_)
  | refine Ends.mk ?_))
 all_goals (try refine Pr.mk ?_)
 all_goals first
  | ((conv => whnf); refine Sw.Loop.unroll ?_)
  | skip
 all_goals (repeat' ((try rw [w01]); (try rw [w11]); (try rw [w21]); (try rw [w31]); (try rw [w41]); (try rw [w51]); (try (conv => whnf)); first
  | refine call_0 ?_
  | refine call_i ?_ ?_
  | refine call_c ?_ (fun _ => ?_) (fun _ => ?_)
  | (with_reducible refine onB_t ?_)
  | (with_reducible refine onB_f ?_)
  | refine onB_dy (by first | decide | (simp only [List.length_cons, List.length_nil]; done) | (simp only [List.length_cons, List.length_nil]; decide)) ?_
  | refine onB_dn (by first | decide | (simp only [List.length_cons, List.length_nil]; done) | (simp only [List.length_cons, List.length_nil]; decide)) ?_
  | (with_reducible refine onB_d (fun _ => ?_) (fun _ => ?_))
  | (with_reducible refine onB_n (fun _ => ?_) (fun _ => ?_))
  | refine OnB.mk (fun _ => ?_) (fun _ => ?_)
  | refine obl_i ?_ ?_
  | refine Drw.mk (by kernel_rfl) ?_
  | refine mks_i ?_ ?_
  | refine slp_i ?_ ?_
  | (with_reducible refine elem_u ?_ ?_)
  | (with_reducible refine elem_0 ?_)
  | (with_reducible refine elem_1 ?_)
  | (with_reducible refine elem_2 ?_)
  | (with_reducible refine elem_3 ?_)
  | (with_reducible refine elem_4 ?_)
  | (with_reducible refine elem_5 ?_)
  | refine Ends.mk ?_))
 all_goals (try refine Pr.mk ?_)
 all_goals first
  | ((conv => whnf); refine Sw.Loop.unroll ?_)
  | skip
 all_goals (repeat' ((try rw [w01]); (try rw [w11]); (try rw [w21]); (try rw [w31]); (try rw [w41]); (try rw [w51]); (try (conv => whnf)); first
  | refine call_0 ?_
  | refine call_i ?_ ?_
  | refine call_c ?_ (fun _ => ?_) (fun _ => ?_)
  | (with_reducible refine onB_t ?_)
  | (with_reducible refine onB_f ?_)
  | refine onB_dy (by first | decide | (simp only [List.length_cons, List.length_nil]; done) | (simp only [List.length_cons, List.length_nil]; decide)) ?_
  | refine onB_dn (by first | decide | (simp only [List.length_cons, List.length_nil]; done) | (simp only [List.length_cons, List.length_nil]; decide)) ?_
  | (with_reducible refine onB_d (fun _ => ?_) (fun _ => ?_))
  | (with_reducible refine onB_n (fun _ => ?_) (fun _ => ?_))
  | refine OnB.mk (fun _ => ?_) (fun _ => ?_)
  | refine obl_i ?_ ?_
  | refine Drw.mk (by kernel_rfl) ?_
  | refine mks_i ?_ ?_
  | refine slp_i ?_ ?_
  | (with_reducible refine elem_u ?_ ?_)
  | (with_reducible refine elem_0 ?_)
  | (with_reducible refine elem_1 ?_)
  | (with_reducible refine elem_2 ?_)
  | (with_reducible refine elem_3 ?_)
  | (with_reducible refine elem_4 ?_)
  | (with_reducible refine elem_5 ?_)
  | refine Ends.mk ?_))
 all_goals (try refine Pr.mk ?_)
 all_goals first
  | ((conv => whnf); refine Sw.Loop.unroll ?_)
  | skip
 all_goals (repeat' ((try rw [w01]); (try rw [w11]); (try rw [w21]); (try rw [w31]); (try rw [w41]); (try rw [w51]); (try (conv => whnf)); first
  | refine call_0 ?_
  | refine call_i ?_ ?_
  | refine call_c ?_ (fun _ => ?_) (fun _ => ?_)
  | (with_reducible refine onB_t ?_)
  | (with_reducible refine onB_f ?_)
  | refine onB_dy (by first | decide | (simp only [List.length_cons, List.length_nil]; done) | (simp only [List.length_cons, List.length_nil]; decide)) ?_
  | refine onB_dn (by first | decide | (simp only [List.length_cons, List.length_nil]; done) | (simp only [List.length_cons, List.length_nil]; decide)) ?_
  | (with_reducible refine onB_d (fun _ => ?_) (fun _ => ?_))
  | (with_reducible refine onB_n (fun _ => ?_) (fun _ => ?_))
  | refine OnB.mk (fun _ => ?_) (fun _ => ?_)
  | refine obl_i ?_ ?_
  | refine Drw.mk (by kernel_rfl) ?_
  | refine mks_i ?_ ?_
  | refine slp_i ?_ ?_
  | (with_reducible refine elem_u ?_ ?_)
  | (with_reducible refine elem_0 ?_)
  | (with_reducible refine elem_1 ?_)
  | (with_reducible refine elem_2 ?_)
  | (with_reducible refine elem_3 ?_)
  | (with_reducible refine elem_4 ?_)
  | (with_reducible refine elem_5 ?_)
  | refine Ends.mk ?_))
 all_goals (try refine Pr.mk ?_)
 all_goals first
  | ((conv => whnf); refine Sw.Loop.unroll ?_)
  | skip
 all_goals (repeat' ((try rw [w01]); (try rw [w11]); (try rw [w21]); (try rw [w31]); (try rw [w41]); (try rw [w51]); (try (conv => whnf)); first
  | refine call_0 ?_
  | refine call_i ?_ ?_
  | refine call_c ?_ (fun _ => ?_) (fun _ => ?_)
  | (with_reducible refine onB_t ?_)
  | (with_reducible refine onB_f ?_)
  | refine onB_dy (by first | decide | (simp only [List.length_cons, List.length_nil]; done) | (simp only [List.length_cons, List.length_nil]; decide)) ?_
  | refine onB_dn (by first | decide | (simp only [List.length_cons, List.length_nil]; done) | (simp only [List.length_cons, List.length_nil]; decide)) ?_
  | (with_reducible refine onB_d (fun _ => ?_) (fun _ => ?_))
  | (with_reducible refine onB_n (fun _ => ?_) (fun _ => ?_))
  | refine OnB.mk (fun _ => ?_) (fun _ => ?_)
  | refine obl_i ?_ ?_
  | refine Drw.mk (by kernel_rfl) ?_
  | refine mks_i ?_ ?_
  | refine slp_i ?_ ?_
  | (with_reducible refine elem_u ?_ ?_)
  | (with_reducible refine elem_0 ?_)
  | (with_reducible refine elem_1 ?_)
  | (with_reducible refine elem_2 ?_)
  | (with_reducible refine elem_3 ?_)
  | (with_reducible refine elem_4 ?_)
  | (with_reducible refine elem_5 ?_)
  | refine Ends.mk ?_))
 all_goals (try refine Pr.mk ?_)
 all_goals (try simp only [sgnI_lt0, sgnI_zero, sgnI_le0, sgnI_gt0, sgnI_ge0, sgnI_eq1, cmpI_lt0, cmpI_gt0, cmpI_eq0, cmpI_le0, cmpI_ge0, cmpR_of, sgnR_of, sgnR_lt0, sgnR_eq0, sgnR_gt0, sgnR_le0, sgnR_ge0, sgnR_eq1, cmpR_lt0, cmpR_gt0, cmpR_eq0, cmpR_le0, cmpR_ge0] at *)
 all_goals (try simp only [List.length_map, List.length_cons, List.length_nil] at *)
 all_goals first
  | rfl
  | (exfalso; with_reducible exact sg_n1 (by assumption))
  | (exfalso; with_reducible exact sg_n2 (by assumption))
  | (exfalso; with_reducible exact sg_n3 (by assumption))
  | ((repeat' apply And.intro) <;> first | assumption | exact rzb (by omega) | exact szb (by omega) | exact Int.mul_ne_zero (den_ne _) (den_ne _))
  | skip⟩

end Go.Proofs.YtigbdpkpaleboaaGreat

namespace Go.Proofs.YtigbdpkpaleboaaGreat
open Go Go.RowKit Go.Sw
set_option linter.unusedVariables false
set_option maxRecDepth 100000
set_option maxHeartbeats 8000000
set_option synthInstance.maxSize 4000
set_option synthInstance.maxHeartbeats 400000
instance n_num (n : Int)  : DenI Tryz.prog 45 [.int .i64 n] (-9223372036854775808 ≤ n ∧ n ≤ 9223372036854775807) (R (n : Rat)) := ⟨fun hp => by
 refine den_of (τ := tab) tab_ok mixed_ Tryz.func45 rfl (by kernel_rfl) (by kernel_rfl) (by kernel_rfl) ?_
 all_goals (repeat' ((try (conv => whnf)); first
  | refine call_0 ?_
  | refine call_i ?_ ?_
  | refine call_c ?_ (fun _ => ?_) (fun _ => ?_)
  | (with_reducible refine onB_t ?_)
  | (with_reducible refine onB_f ?_)
  | (with_reducible refine onB_d (fun _ => ?_) (fun _ => ?_))
  | (with_reducible refine onB_n (fun _ => ?_) (fun _ => ?_))
  | refine OnB.mk (fun _ => ?_) (fun _ => ?_)
  | refine obl_i ?_ ?_
  | refine Drw.mk (by kernel_rfl) ?_
  | refine mks_i ?_ ?_
  | refine slp_i ?_ ?_
  | (with_reducible refine elem_u ?_ ?_)
  | (with_reducible refine elem_0 ?_)
  | (with_reducible refine elem_1 ?_)
  | refine Ends.mk ?_))
 all_goals (try refine Pr.mk ?_)
 all_goals (try simp only [sgnI_lt0, sgnI_zero, sgnI_le0, sgnI_gt0, sgnI_ge0, sgnI_eq1, cmpI_lt0, cmpI_gt0, cmpI_eq0, cmpI_le0, cmpI_ge0, cmpR_of, sgnR_of, sgnR_lt0, sgnR_eq0, sgnR_gt0, sgnR_le0, sgnR_ge0, sgnR_eq1, cmpR_lt0, cmpR_gt0, cmpR_eq0, cmpR_le0, cmpR_ge0] at *)
 all_goals first
  | rfl
  | (simp only [redB, redC, mkA, mkB, mkC, cooC, ptC, *, true_or, or_true, if_true, if_false, or_self, and_self, and_true, true_and, and_false, false_and, not_true, not_false_iff, Bool.false_eq_true, decide_true, decide_false, Bool.or_true, Bool.true_or, Bool.or_false, Bool.false_or]; rfl)
  | ((repeat' apply And.intro) <;> first | assumption | exact rzb (by omega) | exact szb (by omega) | exact Int.mul_ne_zero (den_ne _) (den_ne _))
  | (exfalso; simp_all; done)
  | (exfalso; grind)
  | omega
  | ((repeat' apply And.intro) <;> first | assumption | exact rzb (by omega) | exact szb (by omega) | exact Int.mul_ne_zero (den_ne _) (den_ne _))
  | skip⟩

instance g_material_add (a b : Rat) : DenI Tryz.prog 81 [R a, R b] (rz a ≤ 4000000 ∧ rz b ≤ 4000000) (R (a + b)) := ⟨fun hp => by
 have i_a : RzB a 4000000 := ⟨hp.1⟩
 have i_b : RzB b 4000000 := ⟨hp.2⟩
 all_goals refine den_of (τ := tab) tab_ok mixed_ Tryz.func81 rfl (by kernel_rfl) (by kernel_rfl) (by kernel_rfl) ?_
 all_goals (repeat' ((try (conv => whnf)); first
  | refine call_0 ?_
  | refine call_i ?_ ?_
  | refine call_c ?_ (fun _ => ?_) (fun _ => ?_)
  | (with_reducible refine onB_t ?_)
  | (with_reducible refine onB_f ?_)
  | (with_reducible refine onB_d (fun _ => ?_) (fun _ => ?_))
  | (with_reducible refine onB_n (fun _ => ?_) (fun _ => ?_))
  | refine OnB.mk (fun _ => ?_) (fun _ => ?_)
  | refine obl_i ?_ ?_
  | refine Drw.mk (by kernel_rfl) ?_
  | refine mks_i ?_ ?_
  | refine slp_i ?_ ?_
  | (with_reducible refine elem_u ?_ ?_)
  | (with_reducible refine elem_0 ?_)
  | (with_reducible refine elem_1 ?_)
  | refine Ends.mk ?_))
 all_goals (try refine Pr.mk ?_)
 all_goals (try simp only [sgnI_lt0, sgnI_zero, sgnI_le0, sgnI_gt0, sgnI_ge0, sgnI_eq1, cmpI_lt0, cmpI_gt0, cmpI_eq0, cmpI_le0, cmpI_ge0, cmpR_of, sgnR_of, sgnR_lt0, sgnR_eq0, sgnR_gt0, sgnR_le0, sgnR_ge0, sgnR_eq1, cmpR_lt0, cmpR_gt0, cmpR_eq0, cmpR_le0, cmpR_ge0] at *)
 all_goals first
  | rfl
  | (simp only [redB, redC, mkA, mkB, mkC, cooC, ptC, *, true_or, or_true, if_true, if_false, or_self, and_self, and_true, true_and, and_false, false_and, not_true, not_false_iff, Bool.false_eq_true, decide_true, decide_false, Bool.or_true, Bool.true_or, Bool.or_false, Bool.false_or]; rfl)
  | ((repeat' apply And.intro) <;> first | assumption | exact rzb (by omega) | exact szb (by omega) | exact Int.mul_ne_zero (den_ne _) (den_ne _))
  | (exfalso; simp_all; done)
  | (exfalso; grind)
  | omega
  | ((repeat' apply And.intro) <;> first | assumption | exact rzb (by omega) | exact szb (by omega) | exact Int.mul_ne_zero (den_ne _) (den_ne _))
  | skip⟩

instance g_material_sub (a b : Rat) : DenI Tryz.prog 47 [R a, R b] (rz a ≤ 4000000 ∧ rz b ≤ 4000000) (R (a - b)) := ⟨fun hp => by
 have i_a : RzB a 4000000 := ⟨hp.1⟩
 have i_b : RzB b 4000000 := ⟨hp.2⟩
 all_goals refine den_of (τ := tab) tab_ok mixed_ Tryz.func47 rfl (by kernel_rfl) (by kernel_rfl) (by kernel_rfl) ?_
 all_goals (repeat' ((try (conv => whnf)); first
  | refine call_0 ?_
  | refine call_i ?_ ?_
  | refine call_c ?_ (fun _ => ?_) (fun _ => ?_)
  | (with_reducible refine onB_t ?_)
  | (with_reducible refine onB_f ?_)
  | (with_reducible refine onB_d (fun _ => ?_) (fun _ => ?_))
  | (with_reducible refine onB_n (fun _ => ?_) (fun _ => ?_))
  | refine OnB.mk (fun _ => ?_) (fun _ => ?_)
  | refine obl_i ?_ ?_
  | refine Drw.mk (by kernel_rfl) ?_
  | refine mks_i ?_ ?_
  | refine slp_i ?_ ?_
  | (with_reducible refine elem_u ?_ ?_)
  | (with_reducible refine elem_0 ?_)
  | (with_reducible refine elem_1 ?_)
  | refine Ends.mk ?_))
 all_goals (try refine Pr.mk ?_)
 all_goals (try simp only [sgnI_lt0, sgnI_zero, sgnI_le0, sgnI_gt0, sgnI_ge0, sgnI_eq1, cmpI_lt0, cmpI_gt0, cmpI_eq0, cmpI_le0, cmpI_ge0, cmpR_of, sgnR_of, sgnR_lt0, sgnR_eq0, sgnR_gt0, sgnR_le0, sgnR_ge0, sgnR_eq1, cmpR_lt0, cmpR_gt0, cmpR_eq0, cmpR_le0, cmpR_ge0] at *)
 all_goals first
  | rfl
  | (simp only [redB, redC, mkA, mkB, mkC, cooC, ptC, *, true_or, or_true, if_true, if_false, or_self, and_self, and_true, true_and, and_false, false_and, not_true, not_false_iff, Bool.false_eq_true, decide_true, decide_false, Bool.or_true, Bool.true_or, Bool.or_false, Bool.false_or]; rfl)
  | ((repeat' apply And.intro) <;> first | assumption | exact rzb (by omega) | exact szb (by omega) | exact Int.mul_ne_zero (den_ne _) (den_ne _))
  | (exfalso; simp_all; done)
  | (exfalso; grind)
  | omega
  | ((repeat' apply And.intro) <;> first | assumption | exact rzb (by omega) | exact szb (by omega) | exact Int.mul_ne_zero (den_ne _) (den_ne _))
  | skip⟩

instance g_material_mul (a b : Rat) : DenI Tryz.prog 48 [R a, R b] (rz a ≤ 4000000 ∧ rz b ≤ 4000000) (R (a * b)) := ⟨fun hp => by
 have i_a : RzB a 4000000 := ⟨hp.1⟩
 have i_b : RzB b 4000000 := ⟨hp.2⟩
 all_goals refine den_of (τ := tab) tab_ok mixed_ Tryz.func48 rfl (by kernel_rfl) (by kernel_rfl) (by kernel_rfl) ?_
 all_goals (repeat' ((try (conv => whnf)); first
  | refine call_0 ?_
  | refine call_i ?_ ?_
  | refine call_c ?_ (fun _ => ?_) (fun _ => ?_)
  | (with_reducible refine onB_t ?_)
  | (with_reducible refine onB_f ?_)
  | (with_reducible refine onB_d (fun _ => ?_) (fun _ => ?_))
  | (with_reducible refine onB_n (fun _ => ?_) (fun _ => ?_))
  | refine OnB.mk (fun _ => ?_) (fun _ => ?_)
  | refine obl_i ?_ ?_
  | refine Drw.mk (by kernel_rfl) ?_
  | refine mks_i ?_ ?_
  | refine slp_i ?_ ?_
  | (with_reducible refine elem_u ?_ ?_)
  | (with_reducible refine elem_0 ?_)
  | (with_reducible refine elem_1 ?_)
  | refine Ends.mk ?_))
 all_goals (try refine Pr.mk ?_)
 all_goals (try simp only [sgnI_lt0, sgnI_zero, sgnI_le0, sgnI_gt0, sgnI_ge0, sgnI_eq1, cmpI_lt0, cmpI_gt0, cmpI_eq0, cmpI_le0, cmpI_ge0, cmpR_of, sgnR_of, sgnR_lt0, sgnR_eq0, sgnR_gt0, sgnR_le0, sgnR_ge0, sgnR_eq1, cmpR_lt0, cmpR_gt0, cmpR_eq0, cmpR_le0, cmpR_ge0] at *)
 all_goals first
  | rfl
  | (simp only [redB, redC, mkA, mkB, mkC, cooC, ptC, *, true_or, or_true, if_true, if_false, or_self, and_self, and_true, true_and, and_false, false_and, not_true, not_false_iff, Bool.false_eq_true, decide_true, decide_false, Bool.or_true, Bool.true_or, Bool.or_false, Bool.false_or]; rfl)
  | ((repeat' apply And.intro) <;> first | assumption | exact rzb (by omega) | exact szb (by omega) | exact Int.mul_ne_zero (den_ne _) (den_ne _))
  | (exfalso; simp_all; done)
  | (exfalso; grind)
  | omega
  | ((repeat' apply And.intro) <;> first | assumption | exact rzb (by omega) | exact szb (by omega) | exact Int.mul_ne_zero (den_ne _) (den_ne _))
  | skip⟩

instance g_material_way (a b c d : Rat) : DenI Tryz.prog 38 [Q2 a b, Q2 c d] (rz a ≤ 4000000 ∧ rz b ≤ 4000000 ∧ rz c ≤ 4000000 ∧ rz d ≤ 4000000) (Q2 (c - a) (d - b)) := ⟨fun hp => by
 have i_a : RzB a 4000000 := ⟨hp.1⟩
 have i_b : RzB b 4000000 := ⟨hp.2.1⟩
 have i_c : RzB c 4000000 := ⟨hp.2.2.1⟩
 have i_d : RzB d 4000000 := ⟨hp.2.2.2⟩
 all_goals refine den_of (τ := tab) tab_ok mixed_ Tryz.func38 rfl (by kernel_rfl) (by kernel_rfl) (by kernel_rfl) ?_
 all_goals (repeat' ((try (conv => whnf)); first
  | refine call_0 ?_
  | refine call_i ?_ ?_
  | refine call_c ?_ (fun _ => ?_) (fun _ => ?_)
  | (with_reducible refine onB_t ?_)
  | (with_reducible refine onB_f ?_)
  | (with_reducible refine onB_d (fun _ => ?_) (fun _ => ?_))
  | (with_reducible refine onB_n (fun _ => ?_) (fun _ => ?_))
  | refine OnB.mk (fun _ => ?_) (fun _ => ?_)
  | refine obl_i ?_ ?_
  | refine Drw.mk (by kernel_rfl) ?_
  | refine mks_i ?_ ?_
  | refine slp_i ?_ ?_
  | (with_reducible refine elem_u ?_ ?_)
  | (with_reducible refine elem_0 ?_)
  | (with_reducible refine elem_1 ?_)
  | refine Ends.mk ?_))
 all_goals (try refine Pr.mk ?_)
 all_goals (try simp only [sgnI_lt0, sgnI_zero, sgnI_le0, sgnI_gt0, sgnI_ge0, sgnI_eq1, cmpI_lt0, cmpI_gt0, cmpI_eq0, cmpI_le0, cmpI_ge0, cmpR_of, sgnR_of, sgnR_lt0, sgnR_eq0, sgnR_gt0, sgnR_le0, sgnR_ge0, sgnR_eq1, cmpR_lt0, cmpR_gt0, cmpR_eq0, cmpR_le0, cmpR_ge0] at *)
 all_goals first
  | rfl
  | (simp only [redB, redC, mkA, mkB, mkC, cooC, ptC, *, true_or, or_true, if_true, if_false, or_self, and_self, and_true, true_and, and_false, false_and, not_true, not_false_iff, Bool.false_eq_true, decide_true, decide_false, Bool.or_true, Bool.true_or, Bool.or_false, Bool.false_or]; rfl)
  | ((repeat' apply And.intro) <;> first | assumption | exact rzb (by omega) | exact szb (by omega) | exact Int.mul_ne_zero (den_ne _) (den_ne _))
  | (exfalso; simp_all; done)
  | (exfalso; grind)
  | omega
  | ((repeat' apply And.intro) <;> first | assumption | exact rzb (by omega) | exact szb (by omega) | exact Int.mul_ne_zero (den_ne _) (den_ne _))
  | skip⟩

instance g_material_dot (a b c d : Rat) : DenI Tryz.prog 42 [Q2 a b, Q2 c d] (rz a ≤ 1000000 ∧ rz b ≤ 1000000 ∧ rz c ≤ 1000000 ∧ rz d ≤ 1000000) (R (a * c + b * d)) := ⟨fun hp => by
 have i_a : RzB a 1000000 := ⟨hp.1⟩
 have i_b : RzB b 1000000 := ⟨hp.2.1⟩
 have i_c : RzB c 1000000 := ⟨hp.2.2.1⟩
 have i_d : RzB d 1000000 := ⟨hp.2.2.2⟩
 all_goals refine den_of (τ := tab) tab_ok mixed_ Tryz.func42 rfl (by kernel_rfl) (by kernel_rfl) (by kernel_rfl) ?_
 all_goals (repeat' ((try (conv => whnf)); first
  | refine call_0 ?_
  | refine call_i ?_ ?_
  | refine call_c ?_ (fun _ => ?_) (fun _ => ?_)
  | (with_reducible refine onB_t ?_)
  | (with_reducible refine onB_f ?_)
  | (with_reducible refine onB_d (fun _ => ?_) (fun _ => ?_))
  | (with_reducible refine onB_n (fun _ => ?_) (fun _ => ?_))
  | refine OnB.mk (fun _ => ?_) (fun _ => ?_)
  | refine obl_i ?_ ?_
  | refine Drw.mk (by kernel_rfl) ?_
  | refine mks_i ?_ ?_
  | refine slp_i ?_ ?_
  | (with_reducible refine elem_u ?_ ?_)
  | (with_reducible refine elem_0 ?_)
  | (with_reducible refine elem_1 ?_)
  | refine Ends.mk ?_))
 all_goals (try refine Pr.mk ?_)
 all_goals (try simp only [sgnI_lt0, sgnI_zero, sgnI_le0, sgnI_gt0, sgnI_ge0, sgnI_eq1, cmpI_lt0, cmpI_gt0, cmpI_eq0, cmpI_le0, cmpI_ge0, cmpR_of, sgnR_of, sgnR_lt0, sgnR_eq0, sgnR_gt0, sgnR_le0, sgnR_ge0, sgnR_eq1, cmpR_lt0, cmpR_gt0, cmpR_eq0, cmpR_le0, cmpR_ge0] at *)
 all_goals first
  | rfl
  | (simp only [redB, redC, mkA, mkB, mkC, cooC, ptC, *, true_or, or_true, if_true, if_false, or_self, and_self, and_true, true_and, and_false, false_and, not_true, not_false_iff, Bool.false_eq_true, decide_true, decide_false, Bool.or_true, Bool.true_or, Bool.or_false, Bool.false_or]; rfl)
  | ((repeat' apply And.intro) <;> first | assumption | exact rzb (by omega) | exact szb (by omega) | exact Int.mul_ne_zero (den_ne _) (den_ne _))
  | (exfalso; simp_all; done)
  | (exfalso; grind)
  | omega
  | ((repeat' apply And.intro) <;> first | assumption | exact rzb (by omega) | exact szb (by omega) | exact Int.mul_ne_zero (den_ne _) (den_ne _))
  | skip⟩

instance n_vec (m n k : Int)  : DenI Tryz.prog 39 [.agg [.v (.int .i64 m), .v (.int .i64 n), .v (.int .i64 k)]] ((-9223372036854775808 ≤ m ∧ m ≤ 9223372036854775807) ∧ -9223372036854775808 ≤ n ∧ n ≤ 9223372036854775807) (Q2 (m : Rat) (n : Rat)) := ⟨fun hp => by
 refine den_of (τ := tab) tab_ok mixed_ Tryz.func39 rfl (by kernel_rfl) (by kernel_rfl) (by kernel_rfl) ?_
 all_goals (repeat' ((try (conv => whnf)); first
  | refine call_0 ?_
  | refine call_i ?_ ?_
  | refine call_c ?_ (fun _ => ?_) (fun _ => ?_)
  | (with_reducible refine onB_t ?_)
  | (with_reducible refine onB_f ?_)
  | (with_reducible refine onB_d (fun _ => ?_) (fun _ => ?_))
  | (with_reducible refine onB_n (fun _ => ?_) (fun _ => ?_))
  | refine OnB.mk (fun _ => ?_) (fun _ => ?_)
  | refine obl_i ?_ ?_
  | refine Drw.mk (by kernel_rfl) ?_
  | refine mks_i ?_ ?_
  | refine slp_i ?_ ?_
  | (with_reducible refine elem_u ?_ ?_)
  | (with_reducible refine elem_0 ?_)
  | (with_reducible refine elem_1 ?_)
  | refine Ends.mk ?_))
 all_goals (try refine Pr.mk ?_)
 all_goals (try simp only [sgnI_lt0, sgnI_zero, sgnI_le0, sgnI_gt0, sgnI_ge0, sgnI_eq1, cmpI_lt0, cmpI_gt0, cmpI_eq0, cmpI_le0, cmpI_ge0, cmpR_of, sgnR_of, sgnR_lt0, sgnR_eq0, sgnR_gt0, sgnR_le0, sgnR_ge0, sgnR_eq1, cmpR_lt0, cmpR_gt0, cmpR_eq0, cmpR_le0, cmpR_ge0] at *)
 all_goals first
  | rfl
  | (simp only [redB, redC, mkA, mkB, mkC, cooC, ptC, *, true_or, or_true, if_true, if_false, or_self, and_self, and_true, true_and, and_false, false_and, not_true, not_false_iff, Bool.false_eq_true, decide_true, decide_false, Bool.or_true, Bool.true_or, Bool.or_false, Bool.false_or]; rfl)
  | ((repeat' apply And.intro) <;> first | assumption | exact rzb (by omega) | exact szb (by omega) | exact Int.mul_ne_zero (den_ne _) (den_ne _))
  | (exfalso; simp_all; done)
  | (exfalso; grind)
  | omega
  | ((repeat' apply And.intro) <;> first | assumption | exact rzb (by omega) | exact szb (by omega) | exact Int.mul_ne_zero (den_ne _) (den_ne _))
  | skip⟩

instance n_sq (n : Int)  : DenI Tryz.prog 43 [.int .i64 n] (medI n) (R ((n : Rat) * (n : Rat))) := ⟨fun hp => by
 have i_n : RzB ((n : Int) : Rat) 4 := ⟨rz_med hp⟩
 all_goals refine den_of (τ := tab) tab_ok mixed_ Tryz.func43 rfl (by kernel_rfl) (by kernel_rfl) (by kernel_rfl) ?_
 all_goals (repeat' ((try (conv => whnf)); first
  | refine call_0 ?_
  | refine call_i ?_ ?_
  | refine call_c ?_ (fun _ => ?_) (fun _ => ?_)
  | (with_reducible refine onB_t ?_)
  | (with_reducible refine onB_f ?_)
  | (with_reducible refine onB_d (fun _ => ?_) (fun _ => ?_))
  | (with_reducible refine onB_n (fun _ => ?_) (fun _ => ?_))
  | refine OnB.mk (fun _ => ?_) (fun _ => ?_)
  | refine obl_i ?_ ?_
  | refine Drw.mk (by kernel_rfl) ?_
  | refine mks_i ?_ ?_
  | refine slp_i ?_ ?_
  | (with_reducible refine elem_u ?_ ?_)
  | (with_reducible refine elem_0 ?_)
  | (with_reducible refine elem_1 ?_)
  | refine Ends.mk ?_))
 all_goals (try refine Pr.mk ?_)
 all_goals (try simp only [sgnI_lt0, sgnI_zero, sgnI_le0, sgnI_gt0, sgnI_ge0, sgnI_eq1, cmpI_lt0, cmpI_gt0, cmpI_eq0, cmpI_le0, cmpI_ge0, cmpR_of, sgnR_of, sgnR_lt0, sgnR_eq0, sgnR_gt0, sgnR_le0, sgnR_ge0, sgnR_eq1, cmpR_lt0, cmpR_gt0, cmpR_eq0, cmpR_le0, cmpR_ge0] at *)
 all_goals first
  | (unfold medI at *; omega)
  | rfl
  | (simp only [redB, redC, mkA, mkB, mkC, cooC, ptC, *, true_or, or_true, if_true, if_false, or_self, and_self, and_true, true_and, and_false, false_and, not_true, not_false_iff, Bool.false_eq_true, decide_true, decide_false, Bool.or_true, Bool.true_or, Bool.or_false, Bool.false_or]; rfl)
  | ((repeat' apply And.intro) <;> first | assumption | exact rzb (by omega) | exact szb (by omega) | exact Int.mul_ne_zero (den_ne _) (den_ne _))
  | (exfalso; simp_all; done)
  | (exfalso; grind)
  | omega
  | ((repeat' apply And.intro) <;> first | assumption | exact rzb (by omega) | exact szb (by omega) | exact Int.mul_ne_zero (den_ne _) (den_ne _))
  | skip⟩

instance n_level (fx fy fz tx ty tz r : Int)  : DenI Tryz.prog 40 [.agg [.v (.int .i64 fx), .v (.int .i64 fy), .v (.int .i64 fz), .v (.int .i64 tx), .v (.int .i64 ty), .v (.int .i64 tz), .v (.int .i64 r)]] (True) (.bool (decide (fz = tz))) := ⟨fun hp => by
 refine den_of (τ := tab) tab_ok mixed_ Tryz.func40 rfl (by kernel_rfl) (by kernel_rfl) (by kernel_rfl) ?_
 all_goals (repeat' ((try (conv => whnf)); first
  | refine call_0 ?_
  | refine call_i ?_ ?_
  | refine call_c ?_ (fun _ => ?_) (fun _ => ?_)
  | (with_reducible refine onB_t ?_)
  | (with_reducible refine onB_f ?_)
  | (with_reducible refine onB_d (fun _ => ?_) (fun _ => ?_))
  | (with_reducible refine onB_n (fun _ => ?_) (fun _ => ?_))
  | refine OnB.mk (fun _ => ?_) (fun _ => ?_)
  | refine obl_i ?_ ?_
  | refine Drw.mk (by kernel_rfl) ?_
  | refine mks_i ?_ ?_
  | refine slp_i ?_ ?_
  | (with_reducible refine elem_u ?_ ?_)
  | (with_reducible refine elem_0 ?_)
  | (with_reducible refine elem_1 ?_)
  | refine Ends.mk ?_))
 all_goals (try refine Pr.mk ?_)
 all_goals (try simp only [sgnI_lt0, sgnI_zero, sgnI_le0, sgnI_gt0, sgnI_ge0, sgnI_eq1, cmpI_lt0, cmpI_gt0, cmpI_eq0, cmpI_le0, cmpI_ge0, cmpR_of, sgnR_of, sgnR_lt0, sgnR_eq0, sgnR_gt0, sgnR_le0, sgnR_ge0, sgnR_eq1, cmpR_lt0, cmpR_gt0, cmpR_eq0, cmpR_le0, cmpR_ge0] at *)
 all_goals first
  | rfl
  | (simp only [redB, redC, mkA, mkB, mkC, cooC, ptC, *, true_or, or_true, if_true, if_false, or_self, and_self, and_true, true_and, and_false, false_and, not_true, not_false_iff, Bool.false_eq_true, decide_true, decide_false, Bool.or_true, Bool.true_or, Bool.or_false, Bool.false_or]; rfl)
  | ((repeat' apply And.intro) <;> first | assumption | exact rzb (by omega) | exact szb (by omega) | exact Int.mul_ne_zero (den_ne _) (den_ne _))
  | (exfalso; simp_all; done)
  | (exfalso; grind)
  | omega
  | ((repeat' apply And.intro) <;> first | assumption | exact rzb (by omega) | exact szb (by omega) | exact Int.mul_ne_zero (den_ne _) (den_ne _))
  | skip⟩

instance n_over (fx fy fz tx ty tz r s : Int) (x y : Rat)  : DenI Tryz.prog 37 [.agg [.v (.int .i64 fx), .v (.int .i64 fy), .v (.int .i64 fz), .v (.int .i64 tx), .v (.int .i64 ty), .v (.int .i64 tz), .v (.int .i64 r)], Q2 x y, .int .i64 s] (medI fx ∧ medI fy ∧ medI fz ∧ medI tx ∧ medI ty ∧ medI tz ∧ medI r ∧ medI s ∧ rz x ≤ 6 ∧ rz y ≤ 6) (.bool (decide (swOn ((fx : Int) : Rat) ((fy : Int) : Rat) ((tx : Int) : Rat) ((ty : Int) : Rat) s x y))) := ⟨fun hp => by
 obtain ⟨m_fx, m_fy, m_fz, m_tx, m_ty, m_tz, m_r, m_s, i1, i2⟩ := hp
 have i_fx : RzB ((fx : Int) : Rat) 4 := ⟨rz_med m_fx⟩
 have i_fy : RzB ((fy : Int) : Rat) 4 := ⟨rz_med m_fy⟩
 have i_fz : RzB ((fz : Int) : Rat) 4 := ⟨rz_med m_fz⟩
 have i_tx : RzB ((tx : Int) : Rat) 4 := ⟨rz_med m_tx⟩
 have i_ty : RzB ((ty : Int) : Rat) 4 := ⟨rz_med m_ty⟩
 have i_tz : RzB ((tz : Int) : Rat) 4 := ⟨rz_med m_tz⟩
 have i_r : RzB ((r : Int) : Rat) 4 := ⟨rz_med m_r⟩
 have i_s : RzB ((s : Int) : Rat) 4 := ⟨rz_med m_s⟩
 have i_x : RzB x 6 := ⟨i1⟩
 have i_y : RzB y 6 := ⟨i2⟩
 have i_d1 : RzB ((fz - tz : Int) : Rat) 4 := ⟨rz_i _ (by unfold medI at *; omega) (by unfold medI at *; omega)⟩
 have i_d2 : RzB ((tz - fz : Int) : Rat) 4 := ⟨rz_i _ (by unfold medI at *; omega) (by unfold medI at *; omega)⟩
 all_goals refine den_of (τ := tab) tab_ok mixed_ Tryz.func37 rfl (by kernel_rfl) (by kernel_rfl) (by kernel_rfl) ?_
 all_goals (repeat' ((try (conv => whnf)); first
  | refine call_0 ?_
  | refine call_i ?_ ?_
  | refine call_c ?_ (fun _ => ?_) (fun _ => ?_)
  | (with_reducible refine onB_t ?_)
  | (with_reducible refine onB_f ?_)
  | (with_reducible refine onB_d (fun _ => ?_) (fun _ => ?_))
  | (with_reducible refine onB_n (fun _ => ?_) (fun _ => ?_))
  | refine OnB.mk (fun _ => ?_) (fun _ => ?_)
  | refine obl_i ?_ ?_
  | refine Drw.mk (by kernel_rfl) ?_
  | refine mks_i ?_ ?_
  | refine slp_i ?_ ?_
  | (with_reducible refine elem_u ?_ ?_)
  | (with_reducible refine elem_0 ?_)
  | (with_reducible refine elem_1 ?_)
  | refine Ends.mk ?_))
 all_goals (try refine Pr.mk ?_)
 all_goals (try simp only [sgnI_lt0, sgnI_zero, sgnI_le0, sgnI_gt0, sgnI_ge0, sgnI_eq1, cmpI_lt0, cmpI_gt0, cmpI_eq0, cmpI_le0, cmpI_ge0, cmpR_of, sgnR_of, sgnR_lt0, sgnR_eq0, sgnR_gt0, sgnR_le0, sgnR_ge0, sgnR_eq1, cmpR_lt0, cmpR_gt0, cmpR_eq0, cmpR_le0, cmpR_ge0] at *)
 all_goals first
  | with_reducible exact on_1 (by assumption)
  | with_reducible exact on_2 (by assumption)
  | (unfold medI at *; omega)
  | ((repeat' apply And.intro) <;> first | assumption | exact rzb (by omega) | exact szb (by omega) | (unfold medI at *; omega))
  | ((repeat' apply And.intro) <;> first | assumption | exact rzb (by omega) | exact szb (by omega) | exact Int.mul_ne_zero (den_ne _) (den_ne _))
  | skip⟩

instance n_swept (fx fy fz tx ty tz r : Int) (x y : Rat)  : DenC Tryz.prog 12 [.agg [.v (.int .i64 fx), .v (.int .i64 fy), .v (.int .i64 fz), .v (.int .i64 tx), .v (.int .i64 ty), .v (.int .i64 tz), .v (.int .i64 r)], Q2 x y] (medI fx ∧ medI fy ∧ medI fz ∧ medI tx ∧ medI ty ∧ medI tz ∧ medI r ∧ rz x ≤ 6 ∧ rz y ≤ 6) (swOn ((fx : Int) : Rat) ((fy : Int) : Rat) ((tx : Int) : Rat) ((ty : Int) : Rat) r x y) (.tup [Q3 (swR ((fx : Int) : Rat) ((fy : Int) : Rat) fz ((tx : Int) : Rat) ((ty : Int) : Rat) tz ((r : Int) : Rat) x y).a (swR ((fx : Int) : Rat) ((fy : Int) : Rat) fz ((tx : Int) : Rat) ((ty : Int) : Rat) tz ((r : Int) : Rat) x y).b (swR ((fx : Int) : Rat) ((fy : Int) : Rat) fz ((tx : Int) : Rat) ((ty : Int) : Rat) tz ((r : Int) : Rat) x y).c, .bool true]) (.tup [ZQ3, .bool false]) := ⟨denC fun hp q e1 e2 => by
 obtain ⟨m_fx, m_fy, m_fz, m_tx, m_ty, m_tz, m_r, i1, i2⟩ := hp
 have i_fx : RzB ((fx : Int) : Rat) 4 := ⟨rz_med m_fx⟩
 have i_fy : RzB ((fy : Int) : Rat) 4 := ⟨rz_med m_fy⟩
 have i_fz : RzB ((fz : Int) : Rat) 4 := ⟨rz_med m_fz⟩
 have i_tx : RzB ((tx : Int) : Rat) 4 := ⟨rz_med m_tx⟩
 have i_ty : RzB ((ty : Int) : Rat) 4 := ⟨rz_med m_ty⟩
 have i_tz : RzB ((tz : Int) : Rat) 4 := ⟨rz_med m_tz⟩
 have i_r : RzB ((r : Int) : Rat) 4 := ⟨rz_med m_r⟩
 have i_x : RzB x 6 := ⟨i1⟩
 have i_y : RzB y 6 := ⟨i2⟩
 have i_d1 : RzB ((fz - tz : Int) : Rat) 4 := ⟨rz_i _ (by unfold medI at *; omega) (by unfold medI at *; omega)⟩
 have i_d2 : RzB ((tz - fz : Int) : Rat) 4 := ⟨rz_i _ (by unfold medI at *; omega) (by unfold medI at *; omega)⟩
 all_goals refine den_of (τ := tab) tab_ok mixed_ Tryz.func12 rfl (by kernel_rfl) (by kernel_rfl) (by kernel_rfl) ?_
 all_goals (repeat' ((try (conv => whnf)); first
  | refine call_0 ?_
  | refine call_i ?_ ?_
  | refine call_c ?_ (fun _ => ?_) (fun _ => ?_)
  | (with_reducible refine onB_t ?_)
  | (with_reducible refine onB_f ?_)
  | (with_reducible refine onB_d (fun _ => ?_) (fun _ => ?_))
  | (with_reducible refine onB_n (fun _ => ?_) (fun _ => ?_))
  | refine OnB.mk (fun _ => ?_) (fun _ => ?_)
  | refine obl_i ?_ ?_
  | refine Drw.mk (by kernel_rfl) ?_
  | refine mks_i ?_ ?_
  | refine slp_i ?_ ?_
  | (with_reducible refine elem_u ?_ ?_)
  | (with_reducible refine elem_0 ?_)
  | (with_reducible refine elem_1 ?_)
  | refine Ends.mk ?_))
 all_goals (try refine Pr.mk ?_)
 all_goals (try simp only [sgnI_lt0, sgnI_zero, sgnI_le0, sgnI_gt0, sgnI_ge0, sgnI_eq1, cmpI_lt0, cmpI_gt0, cmpI_eq0, cmpI_le0, cmpI_ge0, cmpR_of, sgnR_of, sgnR_lt0, sgnR_eq0, sgnR_gt0, sgnR_le0, sgnR_ge0, sgnR_eq1, cmpR_lt0, cmpR_gt0, cmpR_eq0, cmpR_le0, cmpR_ge0] at *)
 all_goals (try simp (disch := (unfold medI at *; omega)) only [wi64] at *)
 all_goals (try simp only [refA] at *)
 all_goals first
  | (exfalso; rename ¬True => h; exact h trivial)
  | (rw [e2 (by assumption)]; rfl)
  | (rw [e1 (by assumption), swR_u (by assumption) (.inl (by omega))]; rfl)
  | (rw [e1 (by assumption), swR_u (by assumption) (.inr (by assumption))]; rfl)
  | (rw [e1 (by assumption), swR_d (by assumption) (.inl (by omega))]; rfl)
  | (rw [e1 (by assumption), swR_d (by assumption) (.inr (by assumption))]; rfl)
  | (rw [e1 (by assumption), swR_u' (by assumption) (by omega) (by assumption)]; rfl)
  | (rw [e1 (by assumption), swR_d' (by assumption) (by omega) (by assumption)]; rfl)
  | (exfalso; exact sw_eu (by assumption) (by assumption) (by assumption))
  | (exfalso; exact sw_ed (by assumption) (by assumption) (by assumption))
  | (refine ⟨rzb (by omega), rzb (by omega), rzb (by omega), ?_⟩; first | exact sw_iu (by assumption) | exact sw_id (by assumption))
  | (unfold medI at *; omega)
  | ((repeat' apply And.intro) <;> first | assumption | exact rzb (by omega) | exact szb (by omega) | (unfold medI at *; omega))
  | (refine ⟨rzb (by omega), rzb (by omega), ?_⟩; first | exact sw_fu (by assumption) (by assumption) | exact sw_fd (by assumption) (by assumption))
  | ((repeat' apply And.intro) <;> first | assumption | exact rzb (by omega) | exact szb (by omega) | exact Int.mul_ne_zero (den_ne _) (den_ne _))
  | skip⟩

instance n_whole (n : Int)  : DenI Tryz.prog 55 [.int .i64 n] (-9223372036854775808 ≤ n ∧ n ≤ 9223372036854775807) (R (n : Rat)) := ⟨fun hp => by
 refine den_of (τ := tab) tab_ok mixed_ Tryz.func55 rfl (by kernel_rfl) (by kernel_rfl) (by kernel_rfl) ?_
 all_goals (repeat' ((try (conv => whnf)); first
  | refine call_0 ?_
  | refine call_i ?_ ?_
  | refine call_c ?_ (fun _ => ?_) (fun _ => ?_)
  | (with_reducible refine onB_t ?_)
  | (with_reducible refine onB_f ?_)
  | (with_reducible refine onB_d (fun _ => ?_) (fun _ => ?_))
  | (with_reducible refine onB_n (fun _ => ?_) (fun _ => ?_))
  | refine OnB.mk (fun _ => ?_) (fun _ => ?_)
  | refine obl_i ?_ ?_
  | refine Drw.mk (by kernel_rfl) ?_
  | refine mks_i ?_ ?_
  | refine slp_i ?_ ?_
  | (with_reducible refine elem_u ?_ ?_)
  | (with_reducible refine elem_0 ?_)
  | (with_reducible refine elem_1 ?_)
  | refine Ends.mk ?_))
 all_goals (try refine Pr.mk ?_)
 all_goals (try simp only [sgnI_lt0, sgnI_zero, sgnI_le0, sgnI_gt0, sgnI_ge0, sgnI_eq1, cmpI_lt0, cmpI_gt0, cmpI_eq0, cmpI_le0, cmpI_ge0, cmpR_of, sgnR_of, sgnR_lt0, sgnR_eq0, sgnR_gt0, sgnR_le0, sgnR_ge0, sgnR_eq1, cmpR_lt0, cmpR_gt0, cmpR_eq0, cmpR_le0, cmpR_ge0] at *)
 all_goals first
  | rfl
  | (simp only [redB, redC, mkA, mkB, mkC, cooC, ptC, *, true_or, or_true, if_true, if_false, or_self, and_self, and_true, true_and, and_false, false_and, not_true, not_false_iff, Bool.false_eq_true, decide_true, decide_false, Bool.or_true, Bool.true_or, Bool.or_false, Bool.false_or]; rfl)
  | ((repeat' apply And.intro) <;> first | assumption | exact rzb (by omega) | exact szb (by omega) | exact Int.mul_ne_zero (den_ne _) (den_ne _))
  | (exfalso; simp_all; done)
  | (exfalso; grind)
  | omega
  | ((repeat' apply And.intro) <;> first | assumption | exact rzb (by omega) | exact szb (by omega) | exact Int.mul_ne_zero (den_ne _) (den_ne _))
  | skip⟩

instance n_vec2 (m n k : Int)  : DenI Tryz.prog 53 [.agg [.v (.int .i64 m), .v (.int .i64 n), .v (.int .i64 k)]] ((-9223372036854775808 ≤ m ∧ m ≤ 9223372036854775807) ∧ -9223372036854775808 ≤ n ∧ n ≤ 9223372036854775807) (Q2 (m : Rat) (n : Rat)) := ⟨fun hp => by
 refine den_of (τ := tab) tab_ok mixed_ Tryz.func53 rfl (by kernel_rfl) (by kernel_rfl) (by kernel_rfl) ?_
 all_goals (repeat' ((try (conv => whnf)); first
  | refine call_0 ?_
  | refine call_i ?_ ?_
  | refine call_c ?_ (fun _ => ?_) (fun _ => ?_)
  | (with_reducible refine onB_t ?_)
  | (with_reducible refine onB_f ?_)
  | (with_reducible refine onB_d (fun _ => ?_) (fun _ => ?_))
  | (with_reducible refine onB_n (fun _ => ?_) (fun _ => ?_))
  | refine OnB.mk (fun _ => ?_) (fun _ => ?_)
  | refine obl_i ?_ ?_
  | refine Drw.mk (by kernel_rfl) ?_
  | refine mks_i ?_ ?_
  | refine slp_i ?_ ?_
  | (with_reducible refine elem_u ?_ ?_)
  | (with_reducible refine elem_0 ?_)
  | (with_reducible refine elem_1 ?_)
  | refine Ends.mk ?_))
 all_goals (try refine Pr.mk ?_)
 all_goals (try simp only [sgnI_lt0, sgnI_zero, sgnI_le0, sgnI_gt0, sgnI_ge0, sgnI_eq1, cmpI_lt0, cmpI_gt0, cmpI_eq0, cmpI_le0, cmpI_ge0, cmpR_of, sgnR_of, sgnR_lt0, sgnR_eq0, sgnR_gt0, sgnR_le0, sgnR_ge0, sgnR_eq1, cmpR_lt0, cmpR_gt0, cmpR_eq0, cmpR_le0, cmpR_ge0] at *)
 all_goals first
  | rfl
  | (simp only [redB, redC, mkA, mkB, mkC, cooC, ptC, *, true_or, or_true, if_true, if_false, or_self, and_self, and_true, true_and, and_false, false_and, not_true, not_false_iff, Bool.false_eq_true, decide_true, decide_false, Bool.or_true, Bool.true_or, Bool.or_false, Bool.false_or]; rfl)
  | ((repeat' apply And.intro) <;> first | assumption | exact rzb (by omega) | exact szb (by omega) | exact Int.mul_ne_zero (den_ne _) (den_ne _))
  | (exfalso; simp_all; done)
  | (exfalso; grind)
  | omega
  | ((repeat' apply And.intro) <;> first | assumption | exact rzb (by omega) | exact szb (by omega) | exact Int.mul_ne_zero (den_ne _) (den_ne _))
  | skip⟩

instance n_near (fx fy fz tx ty tz r s : Int) (x y : Rat)  : DenI Tryz.prog 51 [.agg [.v (.int .i64 fx), .v (.int .i64 fy), .v (.int .i64 fz), .v (.int .i64 tx), .v (.int .i64 ty), .v (.int .i64 tz), .v (.int .i64 r)], Q2 x y, .int .i64 s] (medI fx ∧ medI fy ∧ medI fz ∧ medI tx ∧ medI ty ∧ medI tz ∧ medI r ∧ medI s ∧ rz x ≤ 6 ∧ rz y ≤ 6) (.bool (decide (swOn ((fx : Int) : Rat) ((fy : Int) : Rat) ((tx : Int) : Rat) ((ty : Int) : Rat) s x y))) := ⟨fun hp => by
 obtain ⟨m_fx, m_fy, m_fz, m_tx, m_ty, m_tz, m_r, m_s, i1, i2⟩ := hp
 have i_fx : RzB ((fx : Int) : Rat) 4 := ⟨rz_med m_fx⟩
 have i_fy : RzB ((fy : Int) : Rat) 4 := ⟨rz_med m_fy⟩
 have i_fz : RzB ((fz : Int) : Rat) 4 := ⟨rz_med m_fz⟩
 have i_tx : RzB ((tx : Int) : Rat) 4 := ⟨rz_med m_tx⟩
 have i_ty : RzB ((ty : Int) : Rat) 4 := ⟨rz_med m_ty⟩
 have i_tz : RzB ((tz : Int) : Rat) 4 := ⟨rz_med m_tz⟩
 have i_r : RzB ((r : Int) : Rat) 4 := ⟨rz_med m_r⟩
 have i_s : RzB ((s : Int) : Rat) 4 := ⟨rz_med m_s⟩
 have i_x : RzB x 6 := ⟨i1⟩
 have i_y : RzB y 6 := ⟨i2⟩
 have i_d1 : RzB ((fz - tz : Int) : Rat) 4 := ⟨rz_i _ (by unfold medI at *; omega) (by unfold medI at *; omega)⟩
 have i_d2 : RzB ((tz - fz : Int) : Rat) 4 := ⟨rz_i _ (by unfold medI at *; omega) (by unfold medI at *; omega)⟩
 all_goals refine den_of (τ := tab) tab_ok mixed_ Tryz.func51 rfl (by kernel_rfl) (by kernel_rfl) (by kernel_rfl) ?_
 all_goals (repeat' ((try (conv => whnf)); first
  | refine call_0 ?_
  | refine call_i ?_ ?_
  | refine call_c ?_ (fun _ => ?_) (fun _ => ?_)
  | (with_reducible refine onB_t ?_)
  | (with_reducible refine onB_f ?_)
  | (with_reducible refine onB_d (fun _ => ?_) (fun _ => ?_))
  | (with_reducible refine onB_n (fun _ => ?_) (fun _ => ?_))
  | refine OnB.mk (fun _ => ?_) (fun _ => ?_)
  | refine obl_i ?_ ?_
  | refine Drw.mk (by kernel_rfl) ?_
  | refine mks_i ?_ ?_
  | refine slp_i ?_ ?_
  | (with_reducible refine elem_u ?_ ?_)
  | (with_reducible refine elem_0 ?_)
  | (with_reducible refine elem_1 ?_)
  | refine Ends.mk ?_))
 all_goals (try refine Pr.mk ?_)
 all_goals (try simp only [sgnI_lt0, sgnI_zero, sgnI_le0, sgnI_gt0, sgnI_ge0, sgnI_eq1, cmpI_lt0, cmpI_gt0, cmpI_eq0, cmpI_le0, cmpI_ge0, cmpR_of, sgnR_of, sgnR_lt0, sgnR_eq0, sgnR_gt0, sgnR_le0, sgnR_ge0, sgnR_eq1, cmpR_lt0, cmpR_gt0, cmpR_eq0, cmpR_le0, cmpR_ge0] at *)
 all_goals first
  | with_reducible exact on_1 (by assumption)
  | with_reducible exact on_2 (by assumption)
  | (unfold medI at *; omega)
  | ((repeat' apply And.intro) <;> first | assumption | exact rzb (by omega) | exact szb (by omega) | (unfold medI at *; omega))
  | ((repeat' apply And.intro) <;> first | assumption | exact rzb (by omega) | exact szb (by omega) | exact Int.mul_ne_zero (den_ne _) (den_ne _))
  | skip⟩

instance n_swept2 (fx fy fz tx ty tz r : Int) (x y : Rat)  : DenC Tryz.prog 14 [.agg [.v (.int .i64 fx), .v (.int .i64 fy), .v (.int .i64 fz), .v (.int .i64 tx), .v (.int .i64 ty), .v (.int .i64 tz), .v (.int .i64 r)], Q2 x y] (medI fx ∧ medI fy ∧ medI fz ∧ medI tx ∧ medI ty ∧ medI tz ∧ medI r ∧ rz x ≤ 6 ∧ rz y ≤ 6) (swOn ((fx : Int) : Rat) ((fy : Int) : Rat) ((tx : Int) : Rat) ((ty : Int) : Rat) r x y) (.tup [Q3 (swR ((fx : Int) : Rat) ((fy : Int) : Rat) fz ((tx : Int) : Rat) ((ty : Int) : Rat) tz ((r : Int) : Rat) x y).a (swR ((fx : Int) : Rat) ((fy : Int) : Rat) fz ((tx : Int) : Rat) ((ty : Int) : Rat) tz ((r : Int) : Rat) x y).b (swR ((fx : Int) : Rat) ((fy : Int) : Rat) fz ((tx : Int) : Rat) ((ty : Int) : Rat) tz ((r : Int) : Rat) x y).c, .bool true]) (.tup [ZQ3, .bool false]) := ⟨denC fun hp q e1 e2 => by
 obtain ⟨m_fx, m_fy, m_fz, m_tx, m_ty, m_tz, m_r, i1, i2⟩ := hp
 have i_fx : RzB ((fx : Int) : Rat) 4 := ⟨rz_med m_fx⟩
 have i_fy : RzB ((fy : Int) : Rat) 4 := ⟨rz_med m_fy⟩
 have i_fz : RzB ((fz : Int) : Rat) 4 := ⟨rz_med m_fz⟩
 have i_tx : RzB ((tx : Int) : Rat) 4 := ⟨rz_med m_tx⟩
 have i_ty : RzB ((ty : Int) : Rat) 4 := ⟨rz_med m_ty⟩
 have i_tz : RzB ((tz : Int) : Rat) 4 := ⟨rz_med m_tz⟩
 have i_r : RzB ((r : Int) : Rat) 4 := ⟨rz_med m_r⟩
 have i_x : RzB x 6 := ⟨i1⟩
 have i_y : RzB y 6 := ⟨i2⟩
 have i_d1 : RzB ((fz - tz : Int) : Rat) 4 := ⟨rz_i _ (by unfold medI at *; omega) (by unfold medI at *; omega)⟩
 have i_d2 : RzB ((tz - fz : Int) : Rat) 4 := ⟨rz_i _ (by unfold medI at *; omega) (by unfold medI at *; omega)⟩
 all_goals refine den_of (τ := tab) tab_ok mixed_ Tryz.func14 rfl (by kernel_rfl) (by kernel_rfl) (by kernel_rfl) ?_
 all_goals (repeat' ((try (conv => whnf)); first
  | refine call_0 ?_
  | refine call_i ?_ ?_
  | refine call_c ?_ (fun _ => ?_) (fun _ => ?_)
  | (with_reducible refine onB_t ?_)
  | (with_reducible refine onB_f ?_)
  | (with_reducible refine onB_d (fun _ => ?_) (fun _ => ?_))
  | (with_reducible refine onB_n (fun _ => ?_) (fun _ => ?_))
  | refine OnB.mk (fun _ => ?_) (fun _ => ?_)
  | refine obl_i ?_ ?_
  | refine Drw.mk (by kernel_rfl) ?_
  | refine mks_i ?_ ?_
  | refine slp_i ?_ ?_
  | (with_reducible refine elem_u ?_ ?_)
  | (with_reducible refine elem_0 ?_)
  | (with_reducible refine elem_1 ?_)
  | refine Ends.mk ?_))
 all_goals (try refine Pr.mk ?_)
 all_goals (try simp only [sgnI_lt0, sgnI_zero, sgnI_le0, sgnI_gt0, sgnI_ge0, sgnI_eq1, cmpI_lt0, cmpI_gt0, cmpI_eq0, cmpI_le0, cmpI_ge0, cmpR_of, sgnR_of, sgnR_lt0, sgnR_eq0, sgnR_gt0, sgnR_le0, sgnR_ge0, sgnR_eq1, cmpR_lt0, cmpR_gt0, cmpR_eq0, cmpR_le0, cmpR_ge0] at *)
 all_goals (try simp (disch := (unfold medI at *; omega)) only [wi64] at *)
 all_goals (try simp only [refA] at *)
 all_goals first
  | (exfalso; rename ¬True => h; exact h trivial)
  | (rw [e2 (by assumption)]; rfl)
  | (rw [e1 (by assumption), swR_u (by assumption) (.inl (by omega))]; rfl)
  | (rw [e1 (by assumption), swR_u (by assumption) (.inr (by assumption))]; rfl)
  | (rw [e1 (by assumption), swR_d (by assumption) (.inl (by omega))]; rfl)
  | (rw [e1 (by assumption), swR_d (by assumption) (.inr (by assumption))]; rfl)
  | (rw [e1 (by assumption), swR_u' (by assumption) (by omega) (by assumption)]; rfl)
  | (rw [e1 (by assumption), swR_d' (by assumption) (by omega) (by assumption)]; rfl)
  | (exfalso; exact sw_eu (by assumption) (by assumption) (by assumption))
  | (exfalso; exact sw_ed (by assumption) (by assumption) (by assumption))
  | (refine ⟨rzb (by omega), rzb (by omega), rzb (by omega), ?_⟩; first | exact sw_iu (by assumption) | exact sw_id (by assumption))
  | (unfold medI at *; omega)
  | ((repeat' apply And.intro) <;> first | assumption | exact rzb (by omega) | exact szb (by omega) | (unfold medI at *; omega))
  | (refine ⟨rzb (by omega), rzb (by omega), ?_⟩; first | exact sw_fu (by assumption) (by assumption) | exact sw_fd (by assumption) (by assumption))
  | ((repeat' apply And.intro) <;> first | assumption | exact rzb (by omega) | exact szb (by omega) | exact Int.mul_ne_zero (den_ne _) (den_ne _))
  | skip⟩

end Go.Proofs.YtigbdpkpaleboaaGreat

namespace Go.Proofs.YtigbdpkpaleboaaGreat
open Go Go.RowKit Go.Sw
set_option linter.unusedVariables false
set_option maxRecDepth 100000
set_option maxHeartbeats 8000000
set_option synthInstance.maxSize 4000
set_option synthInstance.maxHeartbeats 400000
instance x_two (a b c : Rat) : DenI Tryz.prog 101 [R a, R b, R c] (rz a ≤ 4000000 ∧ rz b ≤ 4000000 ∧ rz c ≤ 4000000) (.int .i64 (exI a b c)) := ⟨fun hp => by
 have i_a : RzB a 4000000 := ⟨hp.1⟩
 have i_b : RzB b 4000000 := ⟨hp.2.1⟩
 have i_c : RzB c 4000000 := ⟨hp.2.2⟩
 all_goals refine den_of (τ := tab) tab_ok mixed_ Tryz.func101 rfl (by kernel_rfl) (by kernel_rfl) (by kernel_rfl) ?_
 all_goals (repeat' ((try (conv => whnf)); first
  | refine call_0 ?_
  | refine call_i ?_ ?_
  | refine call_c ?_ (fun _ => ?_) (fun _ => ?_)
  | (with_reducible refine onB_t ?_)
  | (with_reducible refine onB_f ?_)
  | (with_reducible refine onB_d (fun _ => ?_) (fun _ => ?_))
  | (with_reducible refine onB_n (fun _ => ?_) (fun _ => ?_))
  | refine OnB.mk (fun _ => ?_) (fun _ => ?_)
  | refine obl_i ?_ ?_
  | refine Drw.mk (by kernel_rfl) ?_
  | refine mks_i ?_ ?_
  | refine slp_i ?_ ?_
  | (with_reducible refine elem_u ?_ ?_)
  | (with_reducible refine elem_0 ?_)
  | (with_reducible refine elem_1 ?_)
  | refine Ends.mk ?_))
 all_goals (try refine Pr.mk ?_)
 all_goals (try simp only [sgnI_lt0, sgnI_zero, sgnI_le0, sgnI_gt0, sgnI_ge0, sgnI_eq1, cmpI_lt0, cmpI_gt0, cmpI_eq0, cmpI_le0, cmpI_ge0, cmpR_of, sgnR_of, sgnR_lt0, sgnR_eq0, sgnR_gt0, sgnR_le0, sgnR_ge0, sgnR_eq1, cmpR_lt0, cmpR_gt0, cmpR_eq0, cmpR_le0, cmpR_ge0] at *)
 all_goals (try simp only [w_ss, w_sc, w_xs, w_xx] at *)
 all_goals first
  | contradiction
  | with_reducible exact tw_1 (by assumption)
  | with_reducible exact tw_2 (by assumption) (by assumption)
  | with_reducible exact tw_3 (by assumption) (by assumption)
  | with_reducible exact tw_4 (by assumption) (by assumption) (by assumption)
  | ((repeat' apply And.intro) <;> first | assumption | exact rzb (by omega) | exact szb (by omega) | exact Int.mul_ne_zero (den_ne _) (den_ne _))
  | skip⟩

instance x_sign (a b c d m n : Rat) : DenI Tryz.prog 64 [Q6 a b c d m n] (rz a ≤ 80010 ∧ rz b ≤ 80010 ∧ rz c ≤ 80010 ∧ rz d ≤ 80010 ∧ rz m ≤ 80010 ∧ rz n ≤ 80010 ∧ 0 ≤ m ∧ 0 ≤ n) (.int .i64 (sg4 a b c d m n)) := ⟨fun hp => by
 have i_a : RzB a 80010 := ⟨hp.1⟩
 have i_b : RzB b 80010 := ⟨hp.2.1⟩
 have i_c : RzB c 80010 := ⟨hp.2.2.1⟩
 have i_d : RzB d 80010 := ⟨hp.2.2.2.1⟩
 have i_m : RzB m 80010 := ⟨hp.2.2.2.2.1⟩
 have i_n : RzB n 80010 := ⟨hp.2.2.2.2.2.1⟩
 have hpre := hp.2.2.2.2.2.2
 all_goals refine den_of (τ := tab) tab_ok mixed_ Tryz.func64 rfl (by kernel_rfl) (by kernel_rfl) (by kernel_rfl) ?_
 all_goals (repeat' ((try (conv => whnf)); first
  | refine call_0 ?_
  | refine call_i ?_ ?_
  | refine call_c ?_ (fun _ => ?_) (fun _ => ?_)
  | (with_reducible refine onB_t ?_)
  | (with_reducible refine onB_f ?_)
  | (with_reducible refine onB_d (fun _ => ?_) (fun _ => ?_))
  | (with_reducible refine onB_n (fun _ => ?_) (fun _ => ?_))
  | refine OnB.mk (fun _ => ?_) (fun _ => ?_)
  | refine obl_i ?_ ?_
  | refine Drw.mk (by kernel_rfl) ?_
  | refine mks_i ?_ ?_
  | refine slp_i ?_ ?_
  | (with_reducible refine elem_u ?_ ?_)
  | (with_reducible refine elem_0 ?_)
  | (with_reducible refine elem_1 ?_)
  | refine Ends.mk ?_))
 all_goals (try refine Pr.mk ?_)
 all_goals (try simp only [sgnI_lt0, sgnI_zero, sgnI_le0, sgnI_gt0, sgnI_ge0, sgnI_eq1, cmpI_lt0, cmpI_gt0, cmpI_eq0, cmpI_le0, cmpI_ge0, cmpR_of, sgnR_of, sgnR_lt0, sgnR_eq0, sgnR_gt0, sgnR_le0, sgnR_ge0, sgnR_eq1, cmpR_lt0, cmpR_gt0, cmpR_eq0, cmpR_le0, cmpR_ge0] at *)
 all_goals (try simp only [w_ss, w_sc, w_xs, w_xx] at *)
 all_goals first
  | contradiction
  | (exfalso; grind)
  | with_reducible exact s4_1 (by assumption)
  | with_reducible exact s4_2 (by assumption) (by assumption)
  | with_reducible exact s4_3 (by assumption) (by assumption)
  | with_reducible exact s4_4 (by assumption) (by assumption) (by assumption)
  | ((repeat' apply And.intro) <;> first | assumption | exact rzb (by omega) | exact szb (by omega) | exact Int.mul_ne_zero (den_ne _) (den_ne _))
  | skip⟩

instance x_sub (a b c d e f : Rat) : DenI Tryz.prog 65 [Q3 a b c, Q3 d e f] (rz a ≤ 80000 ∧ rz b ≤ 80000 ∧ rz c ≤ 80000 ∧ rz d ≤ 80000 ∧ rz e ≤ 80000 ∧ rz f ≤ 80000) (Q6 (a - d) b (-e) 0 c f) := ⟨fun hp => by
 have i_a : RzB a 80000 := ⟨hp.1⟩
 have i_b : RzB b 80000 := ⟨hp.2.1⟩
 have i_c : RzB c 80000 := ⟨hp.2.2.1⟩
 have i_d : RzB d 80000 := ⟨hp.2.2.2.1⟩
 have i_e : RzB e 80000 := ⟨hp.2.2.2.2.1⟩
 have i_f : RzB f 80000 := ⟨hp.2.2.2.2.2⟩
 all_goals refine den_of (τ := tab) tab_ok mixed_ Tryz.func65 rfl (by kernel_rfl) (by kernel_rfl) (by kernel_rfl) ?_
 all_goals (repeat' ((try (conv => whnf)); first
  | refine call_0 ?_
  | refine call_i ?_ ?_
  | refine call_c ?_ (fun _ => ?_) (fun _ => ?_)
  | (with_reducible refine onB_t ?_)
  | (with_reducible refine onB_f ?_)
  | (with_reducible refine onB_d (fun _ => ?_) (fun _ => ?_))
  | (with_reducible refine onB_n (fun _ => ?_) (fun _ => ?_))
  | refine OnB.mk (fun _ => ?_) (fun _ => ?_)
  | refine obl_i ?_ ?_
  | refine Drw.mk (by kernel_rfl) ?_
  | refine mks_i ?_ ?_
  | refine slp_i ?_ ?_
  | (with_reducible refine elem_u ?_ ?_)
  | (with_reducible refine elem_0 ?_)
  | (with_reducible refine elem_1 ?_)
  | refine Ends.mk ?_))
 all_goals (try refine Pr.mk ?_)
 all_goals (try simp only [sgnI_lt0, sgnI_zero, sgnI_le0, sgnI_gt0, sgnI_ge0, sgnI_eq1, cmpI_lt0, cmpI_gt0, cmpI_eq0, cmpI_le0, cmpI_ge0, cmpR_of, sgnR_of, sgnR_lt0, sgnR_eq0, sgnR_gt0, sgnR_le0, sgnR_ge0, sgnR_eq1, cmpR_lt0, cmpR_gt0, cmpR_eq0, cmpR_le0, cmpR_ge0] at *)
 all_goals first
  | rfl
  | (simp only [redB, redC, mkA, mkB, mkC, cooC, ptC, *, true_or, or_true, if_true, if_false, or_self, and_self, and_true, true_and, and_false, false_and, not_true, not_false_iff, Bool.false_eq_true, decide_true, decide_false, Bool.or_true, Bool.true_or, Bool.or_false, Bool.false_or]; rfl)
  | ((repeat' apply And.intro) <;> first | assumption | exact rzb (by omega) | exact szb (by omega) | exact Int.mul_ne_zero (den_ne _) (den_ne _))
  | (exfalso; simp_all; done)
  | (exfalso; grind)
  | omega
  | ((repeat' apply And.intro) <;> first | assumption | exact rzb (by omega) | exact szb (by omega) | exact Int.mul_ne_zero (den_ne _) (den_ne _))
  | skip⟩

instance x_cmp (a b c d e f : Rat) : DenI Tryz.prog 18 [Q3 a b c, Q3 d e f] (rz a ≤ 20000 ∧ rz b ≤ 20000 ∧ rz c ≤ 20000 ∧ rz d ≤ 20000 ∧ rz e ≤ 20000 ∧ rz f ≤ 20000 ∧ 0 ≤ c ∧ 0 ≤ f) (.int .i64 (cmp4 a b c d e f)) := ⟨fun hp => by
 have i_a : RzB a 20000 := ⟨hp.1⟩
 have i_b : RzB b 20000 := ⟨hp.2.1⟩
 have i_c : RzB c 20000 := ⟨hp.2.2.1⟩
 have i_d : RzB d 20000 := ⟨hp.2.2.2.1⟩
 have i_e : RzB e 20000 := ⟨hp.2.2.2.2.1⟩
 have i_f : RzB f 20000 := ⟨hp.2.2.2.2.2.1⟩
 have hpre := hp.2.2.2.2.2.2
 all_goals refine den_of (τ := tab) tab_ok mixed_ Tryz.func18 rfl (by kernel_rfl) (by kernel_rfl) (by kernel_rfl) ?_
 all_goals (repeat' ((try (conv => whnf)); first
  | refine call_0 ?_
  | refine call_i ?_ ?_
  | refine call_c ?_ (fun _ => ?_) (fun _ => ?_)
  | (with_reducible refine onB_t ?_)
  | (with_reducible refine onB_f ?_)
  | (with_reducible refine onB_d (fun _ => ?_) (fun _ => ?_))
  | (with_reducible refine onB_n (fun _ => ?_) (fun _ => ?_))
  | refine OnB.mk (fun _ => ?_) (fun _ => ?_)
  | refine obl_i ?_ ?_
  | refine Drw.mk (by kernel_rfl) ?_
  | refine mks_i ?_ ?_
  | refine slp_i ?_ ?_
  | (with_reducible refine elem_u ?_ ?_)
  | (with_reducible refine elem_0 ?_)
  | (with_reducible refine elem_1 ?_)
  | refine Ends.mk ?_))
 all_goals (try refine Pr.mk ?_)
 all_goals (try simp only [sgnI_lt0, sgnI_zero, sgnI_le0, sgnI_gt0, sgnI_ge0, sgnI_eq1, cmpI_lt0, cmpI_gt0, cmpI_eq0, cmpI_le0, cmpI_ge0, cmpR_of, sgnR_of, sgnR_lt0, sgnR_eq0, sgnR_gt0, sgnR_le0, sgnR_ge0, sgnR_eq1, cmpR_lt0, cmpR_gt0, cmpR_eq0, cmpR_le0, cmpR_ge0] at *)
 all_goals first
  | rfl
  | exact ⟨rzb (by omega), rzb (by omega), rzb (by omega), rzb (by omega), rzb (by omega), rzb (by omega), hpre⟩
  | ((repeat' apply And.intro) <;> first | assumption | exact rzb (by omega) | exact szb (by omega) | exact Int.mul_ne_zero (den_ne _) (den_ne _))
  | skip⟩

instance x_eq (a b c d e f : Rat) : DenI Tryz.prog 63 [Q3 a b c, Q3 d e f] (rz a ≤ 20000 ∧ rz b ≤ 20000 ∧ rz c ≤ 20000 ∧ rz d ≤ 20000 ∧ rz e ≤ 20000 ∧ rz f ≤ 20000 ∧ 0 ≤ c ∧ 0 ≤ f) (.bool (decide (cmp4 a b c d e f = 0))) := ⟨fun hp => by
 have i_a : RzB a 20000 := ⟨hp.1⟩
 have i_b : RzB b 20000 := ⟨hp.2.1⟩
 have i_c : RzB c 20000 := ⟨hp.2.2.1⟩
 have i_d : RzB d 20000 := ⟨hp.2.2.2.1⟩
 have i_e : RzB e 20000 := ⟨hp.2.2.2.2.1⟩
 have i_f : RzB f 20000 := ⟨hp.2.2.2.2.2.1⟩
 have hpre := hp.2.2.2.2.2.2
 all_goals refine den_of (τ := tab) tab_ok mixed_ Tryz.func63 rfl (by kernel_rfl) (by kernel_rfl) (by kernel_rfl) ?_
 all_goals (repeat' ((try (conv => whnf)); first
  | refine call_0 ?_
  | refine call_i ?_ ?_
  | refine call_c ?_ (fun _ => ?_) (fun _ => ?_)
  | (with_reducible refine onB_t ?_)
  | (with_reducible refine onB_f ?_)
  | (with_reducible refine onB_d (fun _ => ?_) (fun _ => ?_))
  | (with_reducible refine onB_n (fun _ => ?_) (fun _ => ?_))
  | refine OnB.mk (fun _ => ?_) (fun _ => ?_)
  | refine obl_i ?_ ?_
  | refine Drw.mk (by kernel_rfl) ?_
  | refine mks_i ?_ ?_
  | refine slp_i ?_ ?_
  | (with_reducible refine elem_u ?_ ?_)
  | (with_reducible refine elem_0 ?_)
  | (with_reducible refine elem_1 ?_)
  | refine Ends.mk ?_))
 all_goals (try refine Pr.mk ?_)
 all_goals (try simp only [sgnI_lt0, sgnI_zero, sgnI_le0, sgnI_gt0, sgnI_ge0, sgnI_eq1, cmpI_lt0, cmpI_gt0, cmpI_eq0, cmpI_le0, cmpI_ge0, cmpR_of, sgnR_of, sgnR_lt0, sgnR_eq0, sgnR_gt0, sgnR_le0, sgnR_ge0, sgnR_eq1, cmpR_lt0, cmpR_gt0, cmpR_eq0, cmpR_le0, cmpR_ge0] at *)
 all_goals first
  | rfl
  | exact ⟨rzb (by omega), rzb (by omega), rzb (by omega), rzb (by omega), rzb (by omega), rzb (by omega), hpre⟩
  | ((repeat' apply And.intro) <;> first | assumption | exact rzb (by omega) | exact szb (by omega) | exact Int.mul_ne_zero (den_ne _) (den_ne _))
  | skip⟩

instance x_cmpr (a b c d : Rat) : DenI Tryz.prog 70 [Q3 a b c, R d] (rz a ≤ 20000 ∧ rz b ≤ 20000 ∧ rz c ≤ 20000 ∧ rz d ≤ 20000) (.int .i64 (exI (a - d) b c)) := ⟨fun hp => by
 have i_a : RzB a 20000 := ⟨hp.1⟩
 have i_b : RzB b 20000 := ⟨hp.2.1⟩
 have i_c : RzB c 20000 := ⟨hp.2.2.1⟩
 have i_d : RzB d 20000 := ⟨hp.2.2.2⟩
 all_goals refine den_of (τ := tab) tab_ok mixed_ Tryz.func70 rfl (by kernel_rfl) (by kernel_rfl) (by kernel_rfl) ?_
 all_goals (repeat' ((try (conv => whnf)); first
  | refine call_0 ?_
  | refine call_i ?_ ?_
  | refine call_c ?_ (fun _ => ?_) (fun _ => ?_)
  | (with_reducible refine onB_t ?_)
  | (with_reducible refine onB_f ?_)
  | (with_reducible refine onB_d (fun _ => ?_) (fun _ => ?_))
  | (with_reducible refine onB_n (fun _ => ?_) (fun _ => ?_))
  | refine OnB.mk (fun _ => ?_) (fun _ => ?_)
  | refine obl_i ?_ ?_
  | refine Drw.mk (by kernel_rfl) ?_
  | refine mks_i ?_ ?_
  | refine slp_i ?_ ?_
  | (with_reducible refine elem_u ?_ ?_)
  | (with_reducible refine elem_0 ?_)
  | (with_reducible refine elem_1 ?_)
  | refine Ends.mk ?_))
 all_goals (try refine Pr.mk ?_)
 all_goals (try simp only [sgnI_lt0, sgnI_zero, sgnI_le0, sgnI_gt0, sgnI_ge0, sgnI_eq1, cmpI_lt0, cmpI_gt0, cmpI_eq0, cmpI_le0, cmpI_ge0, cmpR_of, sgnR_of, sgnR_lt0, sgnR_eq0, sgnR_gt0, sgnR_le0, sgnR_ge0, sgnR_eq1, cmpR_lt0, cmpR_gt0, cmpR_eq0, cmpR_le0, cmpR_ge0] at *)
 all_goals first
  | rfl
  | ((repeat' apply And.intro) <;> first | assumption | exact rzb (by omega) | exact szb (by omega) | exact Int.mul_ne_zero (den_ne _) (den_ne _))
  | skip⟩

instance x_valid (a b c : Rat) : DenI Tryz.prog 23 [Q3 a b c] (rz a ≤ 100000 ∧ rz b ≤ 100000 ∧ rz c ≤ 100000) (.bool (okQ b c)) := ⟨fun hp => by
 have i_a : RzB a 100000 := ⟨hp.1⟩
 have i_b : RzB b 100000 := ⟨hp.2.1⟩
 have i_c : RzB c 100000 := ⟨hp.2.2⟩
 all_goals refine den_of (τ := tab) tab_ok mixed_ Tryz.func23 rfl (by kernel_rfl) (by kernel_rfl) (by kernel_rfl) ?_
 all_goals (repeat' ((try (conv => whnf)); first
  | refine call_0 ?_
  | refine call_i ?_ ?_
  | refine call_c ?_ (fun _ => ?_) (fun _ => ?_)
  | (with_reducible refine onB_t ?_)
  | (with_reducible refine onB_f ?_)
  | (with_reducible refine onB_d (fun _ => ?_) (fun _ => ?_))
  | (with_reducible refine onB_n (fun _ => ?_) (fun _ => ?_))
  | refine OnB.mk (fun _ => ?_) (fun _ => ?_)
  | refine obl_i ?_ ?_
  | refine Drw.mk (by kernel_rfl) ?_
  | refine mks_i ?_ ?_
  | refine slp_i ?_ ?_
  | (with_reducible refine elem_u ?_ ?_)
  | (with_reducible refine elem_0 ?_)
  | (with_reducible refine elem_1 ?_)
  | refine Ends.mk ?_))
 all_goals (try refine Pr.mk ?_)
 all_goals (try simp only [sgnI_lt0, sgnI_zero, sgnI_le0, sgnI_gt0, sgnI_ge0, sgnI_eq1, cmpI_lt0, cmpI_gt0, cmpI_eq0, cmpI_le0, cmpI_ge0, cmpR_of, sgnR_of, sgnR_lt0, sgnR_eq0, sgnR_gt0, sgnR_le0, sgnR_ge0, sgnR_eq1, cmpR_lt0, cmpR_gt0, cmpR_eq0, cmpR_le0, cmpR_ge0] at *)
 all_goals (try simp only [validR_R] at *)
 all_goals first
  | (refine bE ?_; unfold okQ; simp [*]; done)
  | ((repeat' apply And.intro) <;> first | assumption | exact rzb (by omega) | exact szb (by omega) | exact Int.mul_ne_zero (den_ne _) (den_ne _))
  | (exfalso; simp_all; done)
  | (exfalso; grind)
  | omega
  | skip⟩

instance x_int (n : Int)  : DenI Tryz.prog 35 [.int .i64 n] (-9223372036854775808 ≤ n ∧ n ≤ 9223372036854775807) (Q3 (n : Rat) 0 0) := ⟨fun hp => by
 refine den_of (τ := tab) tab_ok mixed_ Tryz.func35 rfl (by kernel_rfl) (by kernel_rfl) (by kernel_rfl) ?_
 all_goals (repeat' ((try (conv => whnf)); first
  | refine call_0 ?_
  | refine call_i ?_ ?_
  | refine call_c ?_ (fun _ => ?_) (fun _ => ?_)
  | (with_reducible refine onB_t ?_)
  | (with_reducible refine onB_f ?_)
  | (with_reducible refine onB_d (fun _ => ?_) (fun _ => ?_))
  | (with_reducible refine onB_n (fun _ => ?_) (fun _ => ?_))
  | refine OnB.mk (fun _ => ?_) (fun _ => ?_)
  | refine obl_i ?_ ?_
  | refine Drw.mk (by kernel_rfl) ?_
  | refine mks_i ?_ ?_
  | refine slp_i ?_ ?_
  | (with_reducible refine elem_u ?_ ?_)
  | (with_reducible refine elem_0 ?_)
  | (with_reducible refine elem_1 ?_)
  | refine Ends.mk ?_))
 all_goals (try refine Pr.mk ?_)
 all_goals (try simp only [sgnI_lt0, sgnI_zero, sgnI_le0, sgnI_gt0, sgnI_ge0, sgnI_eq1, cmpI_lt0, cmpI_gt0, cmpI_eq0, cmpI_le0, cmpI_ge0, cmpR_of, sgnR_of, sgnR_lt0, sgnR_eq0, sgnR_gt0, sgnR_le0, sgnR_ge0, sgnR_eq1, cmpR_lt0, cmpR_gt0, cmpR_eq0, cmpR_le0, cmpR_ge0] at *)
 all_goals first
  | rfl
  | exact hp
  | exact Nat.le_trans (rz_i _ hp.1 hp.2) (by decide)
  | ((repeat' apply And.intro) <;> first | assumption | exact rzb (by omega) | exact szb (by omega) | exact Int.mul_ne_zero (den_ne _) (den_ne _))
  | skip⟩

end Go.Proofs.YtigbdpkpaleboaaGreat

namespace Go.Sw
open Go
set_option linter.unusedVariables false
/-- The reference's and the program's test. -/
def domP (cf cg : Rat) (cfz : Int) (ct cu : Rat) (ctz : Int) (cr : Int) (bf bg : Rat) (bfz : Int) (bt bu : Rat) (btz : Int) (br : Int) : Prop :=
  cfz = ctz ∧ bfz = btz ∧ bfz ≤ cfz ∧ swOn bf bg bt bu (br - cr) cf cg ∧ swOn bf bg bt bu (br - cr) ct cu
instance {cf cg ct cu bf bg bt bu : Rat} {cfz ctz cr bfz btz br : Int} : Decidable (domP cf cg cfz ct cu ctz cr bf bg bfz bt bu btz br) := by unfold domP; infer_instance
section
variable {cf cg ct cu bf bg bt bu x y : Rat} {cfz ctz cr bfz btz br : Int}
end
end Go.Sw

namespace Go.Sw
open Go
set_option linter.unusedVariables false
section
variable {a b c d m n e f : Rat}
theorem rs_1 (h : exI c d m * sgnR n = 0) : packA [AV.c (Cell.v (.int .i64 (exI a b m)))] = AV.int .i64 (sg4 a b c d m n) := iE (by unfold sg4; rw [if_pos (.inr h)])
theorem rs_2 (h : exI a b m = exI c d m * sgnR n) : packA [AV.c (Cell.v (.int .i64 (exI a b m)))] = AV.int .i64 (sg4 a b c d m n) := iE (by unfold sg4; rw [if_pos (.inl h)])
theorem rs_3 (h1 : ¬exI c d m * sgnR n = 0) (h2 : ¬exI a b m = exI c d m * sgnR n) (h3 : exI a b m = 0) : packA [AV.c (Cell.v (.int .i64 (exI c d m * sgnR n)))] = AV.int .i64 (sg4 a b c d m n) := iE (by
  unfold sg4; rw [if_neg (by rintro (h | h); exact h2 h; exact h1 h), if_pos h3])
theorem rs_4 (h1 : ¬exI c d m * sgnR n = 0) (h2 : ¬exI a b m = exI c d m * sgnR n) (h3 : ¬exI a b m = 0) :
    packA [AV.c (Cell.v (.int .i64 (exI a b m * exI (a * a + m * (b * b) - n * (c * c + m * (d * d))) (a * b - n * (c * d) + (a * b - n * (c * d))) m)))] = AV.int .i64 (sg4 a b c d m n) := iE (by
  unfold sg4; rw [if_neg (by rintro (h | h); exact h2 h; exact h1 h), if_neg h3]
  have e1 : a * a + m * (b * b) - n * (c * c + m * (d * d)) = a * a + b * b * m - n * (c * c + d * d * m) := by grind
  rw [e1])
end
/-- What the program's intervals say. -/
def quickA (A B C D M N : Rat) : Int × Bool := match quick4 A B C D M N with | some p => sgIv p.1 p.2 | none => (0, false)
theorem quickA_sg {A B C D M N : Rat} (hM : 0 ≤ M) (hN : 0 ≤ N) (h : (quickA A B C D M N).2 = true) : (quickA A B C D M N).1 = sg4 A B C D M N := by
  unfold quickA at *
  cases hq : quick4 A B C D M N with
  | none => rw [hq] at h; cases h
  | some p =>
    rw [hq] at h
    simp only at *
    exact (quick4_sg hM hN hq (Prod.ext rfl h)).symm
theorem iv1 {x : Int × Int} (h : ivB x) : x.1 ≤ x.2 ∧ -2305843009213693952 ≤ x.1 ∧ x.1 ≤ 2305843009213693952 ∧ -2305843009213693952 ≤ x.2 ∧ x.2 ≤ 2305843009213693952 := by unfold ivB at h; omega
theorem iv2 {x y : Int × Int} (h : ivB x) (k : ivB y) : -2305843009213693952 ≤ x.1 ∧ x.1 ≤ 2305843009213693952 ∧ -2305843009213693952 ≤ x.2 ∧ x.2 ≤ 2305843009213693952 ∧ -2305843009213693952 ≤ y.1 ∧ y.1 ≤ 2305843009213693952 ∧ -2305843009213693952 ≤ y.2 ∧ y.2 ≤ 2305843009213693952 := by unfold ivB at h k; omega
@[reducible] def gF (q : Rat) : Int × Int := (fromR q).getD (0, 0)
@[reducible] def gS (q : Rat) : Int × Int := (sqrtI (gF q)).getD (0, 0)
@[reducible] def gM (q m : Rat) : Int × Int := (mulI (gF q) (gS m)).getD (0, 0)
@[reducible] def gK (m n : Rat) : Int × Int := (mulI (gS m) (gS n)).getD (0, 0)
@[reducible] def gD (d m n : Rat) : Int × Int := (mulI (gF d) (gK m n)).getD (0, 0)
@[reducible] def gA (a b m : Rat) : Int × Int := (addI (gF a) (gM b m)).getD (0, 0)
@[reducible] def gB (c d m n : Rat) : Int × Int := (addI (gM c n) (gD d m n)).getD (0, 0)
/-- All parts are there. -/
structure Qk (a b c d m n : Rat) : Prop where
  h1 : (fromR m).isSome = true
  h2 : (sqrtI (gF m)).isSome = true
  h3 : (fromR n).isSome = true
  h4 : (sqrtI (gF n)).isSome = true
  h5 : (fromR b).isSome = true
  h6 : (mulI (gF b) (gS m)).isSome = true
  h7 : (fromR c).isSome = true
  h8 : (mulI (gF c) (gS n)).isSome = true
  h9 : (fromR d).isSome = true
  h10 : (mulI (gS m) (gS n)).isSome = true
  h11 : (mulI (gF d) (gK m n)).isSome = true
  h12 : (fromR a).isSome = true
  h13 : (addI (gF a) (gM b m)).isSome = true
  h14 : (addI (gM c n) (gD d m n)).isSome = true
  h15 : (addI (gA a b m) (gB c d m n)).isSome = true
theorem isSome_get {o : Option (Int × Int)} (h : o.isSome = true) : o = some (o.getD (0, 0)) := by cases o with | none => cases h | some x => rfl
theorem quickA_y {a b c d m n : Rat} (h : Qk a b c d m n) : quickA a b c d m n = sgIv ((addI (gA a b m) (gB c d m n)).getD (0, 0)).1 ((addI (gA a b m) (gB c d m n)).getD (0, 0)).2 := by
  have e1 := isSome_get h.h1; have e2 := isSome_get h.h2; have e3 := isSome_get h.h3; have e4 := isSome_get h.h4; have e5 := isSome_get h.h5
  have e6 := isSome_get h.h6; have e7 := isSome_get h.h7; have e8 := isSome_get h.h8; have e9 := isSome_get h.h9; have e10 := isSome_get h.h10
  have e11 := isSome_get h.h11; have e12 := isSome_get h.h12; have e13 := isSome_get h.h13; have e14 := isSome_get h.h14; have e15 := isSome_get h.h15
  unfold quickA quick4 m4I mI
  rw [e1, e3]
  simp only
  rw [e2, e4]
  simp only
  rw [e5, e7]
  simp only
  rw [e6, e8, e10]
  simp only
  rw [e9]
  simp only
  rw [e11, e12]
  simp only
  rw [e13, e14]
  simp only
  rw [e15]
  rfl
theorem quickA_n {a b c d m n : Rat} (h : ¬Qk a b c d m n) : quickA a b c d m n = (0, false) := by
  have key : ∀ p, quick4 a b c d m n = some p → Qk a b c d m n := by
    intro p e
    unfold quick4 m4I mI at e
    cases h1 : fromR m with
    | none => rw [h1] at e; cases e
    | some x1 =>
    cases h3 : fromR n with
    | none => rw [h1, h3] at e; cases e
    | some x3 =>
    rw [h1, h3] at e; simp only at e
    cases h2 : sqrtI x1 with
    | none => rw [h2] at e; cases e
    | some x2 =>
    cases h4 : sqrtI x3 with
    | none => rw [h2, h4] at e; cases e
    | some x4 =>
    rw [h2, h4] at e; simp only at e
    cases h5 : fromR b with
    | none => rw [h5] at e; cases e
    | some x5 =>
    rw [h5] at e; simp only at e
    cases h6 : mulI x5 x2 with
    | none => rw [h6] at e; cases e
    | some x6 =>
    rw [h6] at e
    cases h7 : fromR c with
    | none => rw [h7] at e; cases e
    | some x7 =>
    rw [h7] at e; simp only at e
    cases h8 : mulI x7 x4 with
    | none => rw [h8] at e; cases e
    | some x8 =>
    rw [h8] at e
    cases h10 : mulI x2 x4 with
    | none => rw [h10] at e; cases e
    | some x10 =>
    rw [h10] at e; simp only at e
    cases h9 : fromR d with
    | none => rw [h9] at e; cases e
    | some x9 =>
    rw [h9] at e; simp only at e
    cases h11 : mulI x9 x10 with
    | none => rw [h11] at e; cases e
    | some x11 =>
    rw [h11] at e
    cases h12 : fromR a with
    | none => rw [h12] at e; cases e
    | some x12 =>
    rw [h12] at e; simp only at e
    cases h13 : addI x12 x6 with
    | none => rw [h13] at e; cases e
    | some x13 =>
    rw [h13] at e
    cases h14 : addI x8 x11 with
    | none => rw [h14] at e; cases e
    | some x14 =>
    rw [h14] at e; simp only at e
    have f1 : gF m = x1 := by unfold gF; rw [h1]; rfl
    have f2 : gS m = x2 := by unfold gS; rw [f1, h2]; rfl
    have f3 : gF n = x3 := by unfold gF; rw [h3]; rfl
    have f4 : gS n = x4 := by unfold gS; rw [f3, h4]; rfl
    have f5 : gF b = x5 := by unfold gF; rw [h5]; rfl
    have f6 : gM b m = x6 := by unfold gM; rw [f5, f2, h6]; rfl
    have f7 : gF c = x7 := by unfold gF; rw [h7]; rfl
    have f8 : gM c n = x8 := by unfold gM; rw [f7, f4, h8]; rfl
    have f9 : gF d = x9 := by unfold gF; rw [h9]; rfl
    have f10 : gK m n = x10 := by unfold gK; rw [f2, f4, h10]; rfl
    have f11 : gD d m n = x11 := by unfold gD; rw [f9, f10, h11]; rfl
    have f12 : gF a = x12 := by unfold gF; rw [h12]; rfl
    have f13 : gA a b m = x13 := by unfold gA; rw [f12, f6, h13]; rfl
    have f14 : gB c d m n = x14 := by unfold gB; rw [f8, f11, h14]; rfl
    exact ⟨by rw [h1]; rfl, by rw [f1, h2]; rfl, by rw [h3]; rfl, by rw [f3, h4]; rfl, by rw [h5]; rfl, by rw [f5, f2, h6]; rfl, by rw [h7]; rfl, by rw [f7, f4, h8]; rfl, by rw [h9]; rfl, by rw [f2, f4, h10]; rfl, by rw [f9, f10, h11]; rfl, by rw [h12]; rfl, by rw [f12, f6, h13]; rfl, by rw [f8, f11, h14]; rfl, by rw [f13, f14, e]; rfl⟩
  unfold quickA
  cases hq : quick4 a b c d m n with
  | none => rfl
  | some p => exact absurd (key p hq) h
/-- What the program says of two intervals. -/
def apartI (p q : Option (Int × Int)) : Int × Bool :=
  match p, q with
  | some x, some y => if x.2 < y.1 then (-1, true) else if x.1 > y.2 then (1, true) else (0, false)
  | _, _ => (0, false)
theorem apartI_cmp {a b c d e f : Rat} (hc : 0 ≤ c) (hf : 0 ≤ f) (h : (apartI (rootI a b c) (rootI d e f)).2 = true) : (apartI (rootI a b c) (rootI d e f)).1 = cmp4 a b c d e f := by
  cases h1 : rootI a b c with
  | none => rw [h1] at h; simp [apartI] at h
  | some x =>
    cases h2 : rootI d e f with
    | none => rw [h1, h2] at h; simp [apartI] at h
    | some y =>
      rw [h1, h2] at h
      unfold apartI at *
      simp only at *
      split
      · rename_i hl; exact (cmp4_apart hc hf h1 h2 hl).symm
      · split
        · rename_i hl; exact (cmp4_apart' hc hf h1 h2 hl).symm
        · rename_i k1 k2; rw [if_neg k1, if_neg k2] at h; cases h
/-- With a fraction. -/
theorem cmp4_r {a b c d : Rat} (hc : 0 ≤ c) : cmp4 a b c d 0 0 = exI (a - d) b c :=
  (cmp4_sg hc (by decide)).uniq ((v2_sg hc).cg fun n => by unfold v2; grind)
/-! ### Cuts -/
structure Cut7 where
  fx : Int
  fy : Int
  fz : Int
  tx : Int
  ty : Int
  tz : Int
  r : Int
@[reducible] def cuC (c : Cut7) : List Cell := [.v (.int .i64 c.fx), .v (.int .i64 c.fy), .v (.int .i64 c.fz), .v (.int .i64 c.tx), .v (.int .i64 c.ty), .v (.int .i64 c.tz), .v (.int .i64 c.r)]
def medC (c : Cut7) : Prop := medI c.fx ∧ medI c.fy ∧ medI c.fz ∧ medI c.tx ∧ medI c.ty ∧ medI c.tz ∧ medI c.r
@[reducible] def swo (c : Cut7) (x y : Rat) : Prop := swOn (c.fx : Rat) (c.fy : Rat) (c.tx : Rat) (c.ty : Rat) c.r x y
@[reducible] def swr (c : Cut7) (x y : Rat) : Rt := swR (c.fx : Rat) (c.fy : Rat) c.fz (c.tx : Rat) (c.ty : Rat) c.tz (c.r : Rat) x y
@[reducible] def dm (c d : Cut7) : Prop := domP (c.fx : Rat) (c.fy : Rat) c.fz (c.tx : Rat) (c.ty : Rat) c.tz c.r (d.fx : Rat) (d.fy : Rat) d.fz (d.tx : Rat) (d.ty : Rat) d.tz d.r
@[reducible] def cmpQ (p q : Rt) : Int := cmp4 p.a p.b p.c q.a q.b q.c
def hStep (x y : Rat) (o : Rt) (c : Cut7) : Rt := if swo c x y ∧ cmpQ (swr c x y) o < 0 then swr c x y else o
def hgt (x y : Rat) (L : List Cut7) (o : Rt) : Rt := L.foldl (hStep x y) o
/-- A valid root with small numbers. -/
structure OkR (o : Rt) : Prop where
  ok : okQ o.b o.c = true
  a : rz o.a ≤ 10000
  b : rz o.b ≤ 1000
  c : rz o.c ≤ 5000
theorem OkR.nn {o : Rt} (h : OkR o) : 0 ≤ o.c := okQ_nn h.ok
theorem okR_swr {c : Cut7} {x y : Rat} (h : medC c) (hx : rz x ≤ 6) (hy : rz y ≤ 6) (k : swo c x y) : OkR (swr c x y) := by
  obtain ⟨h1, h2, h3, h4, h5, h6, h7⟩ := h
  obtain ⟨q1, q2, q3⟩ := swR_rz (rz_med h1) (rz_med h2) (rz_med h4) (rz_med h5) (rz_med h7) hx hy h3 h6
  exact ⟨swR_ok k.2, q1, q2, q3⟩
theorem okR_int {n : Int} (h : medI n) : OkR ⟨(n : Rat), 0, 0⟩ := by
  have := rz_med h
  have z := rz_0
  exact ⟨okQ_0, by simp only; omega, by simp only; omega, by simp only; omega⟩
theorem okR_step {x y : Rat} {o : Rt} {c : Cut7} (h : medC c) (hx : rz x ≤ 6) (hy : rz y ≤ 6) (ho : OkR o) : OkR (hStep x y o c) := by
  unfold hStep
  split
  · rename_i k; exact okR_swr h hx hy k.1
  · exact ho
theorem okR_hgt {x y : Rat} (hx : rz x ≤ 6) (hy : rz y ≤ 6) : ∀ {L : List Cut7} {o : Rt}, (∀ c ∈ L, medC c) → OkR o → OkR (hgt x y L o)
  | [], o, _, h => h
  | c :: r, o, hm, h => okR_hgt hx hy (L := r) (fun d hd => hm d (by simp [hd])) (okR_step (hm c (by simp)) hx hy h)
theorem hgt_snoc {x y : Rat} {L : List Cut7} {o : Rt} {c : Cut7} : hgt x y (L ++ [c]) o = hStep x y (hgt x y L o) c := by unfold hgt; rw [List.foldl_append]; rfl
theorem hgt_take {x y : Rat} {L : List Cut7} {o : Rt} {k : Nat} {c : Cut7} (h : L[k]? = some c) : hgt x y (L.take (k + 1)) o = hStep x y (hgt x y (L.take k) o) c := by
  rw [List.take_succ, h]; exact hgt_snoc
theorem hStep_y {x y : Rat} {o : Rt} {c : Cut7} (h : swo c x y) (k : cmpQ (swr c x y) o < 0) : hStep x y o c = swr c x y := by unfold hStep; rw [if_pos ⟨h, k⟩]
theorem hStep_n {x y : Rat} {o : Rt} {c : Cut7} (h : ¬swo c x y) : hStep x y o c = o := by unfold hStep; rw [if_neg (fun k => h k.1)]
theorem hStep_k {x y : Rat} {o : Rt} {c : Cut7} (k : ¬cmpQ (swr c x y) o < 0) : hStep x y o c = o := by unfold hStep; rw [if_neg (fun h => k h.2)]
end Go.Sw

namespace Go.Sw
open Go
set_option linter.unusedVariables false
@[reducible] def vq (o : Rt) : Nat → Rat := v2 o.a o.b o.c
theorem cmpQ_sg {p q : Rt} (hp : 0 ≤ p.c) (hq : 0 ≤ q.c) : SgS (fun n => vq p n - vq q n) (cmpQ p q) := cmp4_sg hp hq
theorem cmpQ_neg {p q : Rt} (hp : 0 ≤ p.c) (hq : 0 ≤ q.c) : cmpQ q p = -cmpQ p q := cmp4_neg hp hq
theorem SgS.le_add {f g : Nat → Rat} {m n : Int} (h : SgS f m) (k : SgS g n) (hm : m ≤ 0) (hn : n ≤ 0) : ∃ l, SgS (fun i => f i + g i) l ∧ l ≤ 0 := by
  rcases h.lim with rfl | rfl | rfl
  · exact absurd hm (by decide)
  · rcases k.lim with rfl | rfl | rfl
    · exact absurd hn (by decide)
    · exact ⟨-1, h.same k, by decide⟩
    · exact ⟨-1, h.nadd k.nul, by decide⟩
  · exact ⟨n, (k.nadd h.nul).cg fun i => by grind, hn⟩
theorem cmpQ_trans {p q r : Rt} (hp : 0 ≤ p.c) (hq : 0 ≤ q.c) (hr : 0 ≤ r.c) (h1 : cmpQ p q ≤ 0) (h2 : cmpQ q r ≤ 0) : cmpQ p r ≤ 0 := by
  obtain ⟨l, h, hl⟩ := (cmpQ_sg hp hq).le_add (cmpQ_sg hq hr) h1 h2
  rw [(cmpQ_sg hp hr).uniq (h.cg fun n => by grind)]
  exact hl
theorem cmpQ_self {p : Rt} (hp : 0 ≤ p.c) : cmpQ p p = 0 := cmp4_self hp
/-! ### The least height -/
structure Least (x y : Rat) (L : List Cut7) (o h : Rt) : Prop where
  nn : 0 ≤ h.c
  top : cmpQ h o ≤ 0
  all : ∀ c ∈ L, swo c x y → cmpQ h (swr c x y) ≤ 0
  one : h = o ∨ ∃ c ∈ L, swo c x y ∧ h = swr c x y
theorem swr_nn {c : Cut7} {x y : Rat} (k : swo c x y) : 0 ≤ (swr c x y).c := okQ_nn (swR_ok k.2)
theorem Least.nil {x y : Rat} {o : Rt} (h : 0 ≤ o.c) : Least x y [] o o := ⟨h, by rw [cmpQ_self h]; decide, fun c hc => by simp at hc, .inl rfl⟩
theorem Least.snoc {x y : Rat} {L : List Cut7} {o h : Rt} {c : Cut7} (ho : 0 ≤ o.c) (k : Least x y L o h) : Least x y (L ++ [c]) o (hStep x y h c) := by
  unfold hStep
  split
  · rename_i hc
    have hn := swr_nn hc.1
    refine ⟨hn, cmpQ_trans hn k.nn ho (by omega) k.top, fun d hd hs => ?_, .inr ⟨c, by simp, hc.1, rfl⟩⟩
    rcases List.mem_append.1 hd with hd | hd
    · exact cmpQ_trans hn k.nn (swr_nn hs) (by omega) (k.all d hd hs)
    · simp at hd; subst hd; rw [cmpQ_self hn]; decide
  · rename_i hc
    refine ⟨k.nn, k.top, fun d hd hs => ?_, ?_⟩
    · rcases List.mem_append.1 hd with hd | hd
      · exact k.all d hd hs
      · simp at hd; subst hd
        have hl : ¬cmpQ (swr d x y) h < 0 := fun hl => hc ⟨hs, hl⟩
        rw [cmpQ_neg (swr_nn hs) k.nn]; omega
    · rcases k.one with k | ⟨d, hd, k⟩
      · exact .inl k
      · exact .inr ⟨d, by simp [hd], k⟩
theorem least_take {x y : Rat} {L : List Cut7} {o : Rt} (ho : 0 ≤ o.c) : ∀ k, k ≤ L.length → Least x y (L.take k) o (hgt x y (L.take k) o)
  | 0, _ => by simp only [List.take_zero]; exact Least.nil ho
  | k + 1, hk => by
    have hg : L[k]? = some L[k] := List.getElem?_eq_getElem hk
    rw [hgt_take hg, List.take_succ, hg]
    exact (least_take ho k (by omega)).snoc ho
theorem least {x y : Rat} {L : List Cut7} {o : Rt} (ho : 0 ≤ o.c) : Least x y L o (hgt x y L o) := by
  have := least_take (x := x) (y := y) ho L.length (Nat.le_refl _)
  rwa [List.take_length] at this
/-- Each cut of one list has one of the other that reaches as low. -/
theorem least_le {x y : Rat} {L K : List Cut7} {o h g : Rt} (ho : 0 ≤ o.c) (a : Least x y L o h) (b : Least x y K o g)
    (k : ∀ c ∈ K, swo c x y → ∃ d ∈ L, swo d x y ∧ cmpQ (swr d x y) (swr c x y) ≤ 0) : cmpQ h g ≤ 0 := by
  rcases b.one with e | ⟨c, hc, hs, e⟩
  · rw [e]; exact a.top
  · obtain ⟨d, hd, hs', hl⟩ := k c hc hs
    rw [e]
    exact cmpQ_trans a.nn (swr_nn hs') (swr_nn hs) (a.all d hd hs') hl
theorem least_eq {x y : Rat} {L K : List Cut7} {o h g : Rt} (ho : 0 ≤ o.c) (a : Least x y L o h) (b : Least x y K o g)
    (k : ∀ c ∈ K, swo c x y → ∃ d ∈ L, swo d x y ∧ cmpQ (swr d x y) (swr c x y) ≤ 0) (k' : ∀ c ∈ L, swo c x y → ∃ d ∈ K, swo d x y ∧ cmpQ (swr d x y) (swr c x y) ≤ 0) : cmpQ h g = 0 := by
  have h1 := least_le ho a b k
  have h2 := least_le ho b a k'
  rw [cmpQ_neg a.nn b.nn] at h2
  omega
end Go.Sw

namespace Go.Sw
open Go
set_option linter.unusedVariables false
/-- A stroke. -/
structure Stk where
  a : Int
  b : Int
  c : Int
  d : Int
  e : Int
  f : Int
  r : Nat
@[reducible] def stC (s : Stk) : List Cell := [.v (.int .i16 s.a), .v (.int .i16 s.b), .v (.int .i16 s.c), .v (.int .i16 s.d), .v (.int .i16 s.e), .v (.int .i16 s.f), .v (.int .u8 (s.r : Nat))]
def okS (s : Stk) : Prop := smallI s.a ∧ smallI s.b ∧ smallI s.c ∧ smallI s.d ∧ smallI s.e ∧ smallI s.f ∧ s.r ≤ 255
def ofS (s : Stk) : Cut7 := ⟨s.a, s.b, s.c, s.d, s.e, s.f, s.r⟩
def st0 : Stk := ⟨0, 0, 0, 0, 0, 0, 0⟩
def cu0 : Cut7 := ⟨0, 0, 0, 0, 0, 0, 0⟩
theorem get_all {α : Type} {p : α → Prop} {d : α} {L : List α} (hd : p d) (h : ∀ s ∈ L, p s) (i : Nat) : p (L.getD i d) := by
  by_cases hi : i < L.length
  · rw [List.getD_eq_getElem?_getD, List.getElem?_eq_getElem hi]; exact h _ (List.getElem_mem hi)
  · rw [List.getD_eq_getElem?_getD, List.getElem?_eq_none (by omega)]; exact hd
theorem okS_get {L : List Stk} (h : ∀ s ∈ L, okS s) (i : Nat) : okS (L.getD i st0) := get_all (by unfold okS smallI st0; decide) h i
theorem take_snoc {α : Type} {L : List α} {i : Nat} (d : α) (h : i < L.length) : L.take (i + 1) = L.take i ++ [L.getD i d] := by
  rw [List.take_succ, List.getD_eq_getElem?_getD, List.getElem?_eq_getElem h]; rfl
theorem growC {T : TypeId} {L : List Stk} {x : Nat} (h : x < L.length) : some (Bk.grow T 7 (((L.take x).map ofS).map cuC ++ [cuC (ofS (L.getD x st0))])) = some (Bk.grow T 7 (((L.take (x + 1)).map ofS).map cuC)) := by
  rw [take_snoc st0 h, List.map_append, List.map_append]; rfl
theorem of_end {L : List Stk} {x : Nat} (hx : x ≤ L.length ∧ x ≤ 12) (h : ¬(x < L.length ∧ x < 12)) :
    packA [AV.c (.sl 7 (((L.take x).map ofS).map cuC)), AV.c (Cell.v (.bool (decide ((L.length : Int) ≤ 12))))] = AV.tup [.c (.sl 7 (((L.take 12).map ofS).map cuC)), .bool (decide (L.length ≤ 12))] := by
  have e : L.take x = L.take 12 := by
    rcases Nat.lt_or_ge x 12 with k | k
    · rw [List.take_of_length_le (by omega), List.take_of_length_le (by omega)]
    · rw [show x = 12 by omega]
  have e2 : decide ((L.length : Int) ≤ 12) = decide (L.length ≤ 12) := decide_eq_decide.2 (by omega)
  rw [e, e2]; rfl
section
variable {cf cg ct cu bf bg bt bu x y : Rat} {cfz ctz cr bfz btz br : Int}
theorem dom_y (h1 : cfz = ctz) (h2 : bfz = btz) (h3 : bfz ≤ cfz) (h4 : swOn bf bg bt bu (br - cr) cf cg) : packA [AV.c (Cell.v (.bool (decide (swOn bf bg bt bu (br - cr) ct cu))))] = AV.bool (decide (domP cf cg cfz ct cu ctz cr bf bg bfz bt bu btz br)) :=
  bE (decide_eq_decide.2 ⟨fun k => ⟨h1, h2, h3, h4, k⟩, fun k => k.2.2.2.2⟩)
theorem dom_n (h : ¬domP cf cg cfz ct cu ctz cr bf bg bfz bt bu btz br) : packA [AV.c (Cell.v (.bool false))] = AV.bool (decide (domP cf cg cfz ct cu ctz cr bf bg bfz bt bu btz br)) :=
  bE (decide_eq_false h).symm
end
/-- What a comparison asks for. -/
theorem cmP {o p : Rt} (k : OkR o) (l : OkR p) : rz o.a ≤ 20000 ∧ rz o.b ≤ 20000 ∧ rz o.c ≤ 20000 ∧ rz p.a ≤ 20000 ∧ rz p.b ≤ 20000 ∧ rz p.c ≤ 20000 ∧ 0 ≤ o.c ∧ 0 ≤ p.c :=
  ⟨Nat.le_trans k.a (by decide), Nat.le_trans k.b (by decide), Nat.le_trans k.c (by decide), Nat.le_trans l.a (by decide), Nat.le_trans l.b (by decide), Nat.le_trans l.c (by decide), k.nn, l.nn⟩
end Go.Sw

namespace Go.Proofs.YtigbdpkpaleboaaGreat
open Go Go.RowKit Go.Sw
set_option linter.unusedVariables false
set_option maxRecDepth 100000
set_option maxHeartbeats 8000000
set_option synthInstance.maxSize 4000
set_option synthInstance.maxHeartbeats 400000
instance n_pos (a b c : Int) : DenI Tryz.prog 36 [.agg [.v (.int .i16 a), .v (.int .i16 b), .v (.int .i16 c)]] (smallI a ∧ smallI b ∧ smallI c) (.agg [.v (.int .i64 a), .v (.int .i64 b), .v (.int .i64 c)]) := ⟨fun hp => by
 obtain ⟨p1, p2, p3⟩ := hp
 all_goals refine den_of (τ := tab) tab_ok mixed_ Tryz.func36 rfl (by kernel_rfl) (by kernel_rfl) (by kernel_rfl) ?_
 all_goals (repeat' ((try (conv => whnf)); first
  | refine call_0 ?_
  | refine call_i ?_ ?_
  | refine call_c ?_ (fun _ => ?_) (fun _ => ?_)
  | (with_reducible refine onB_t ?_)
  | (with_reducible refine onB_f ?_)
  | (with_reducible refine onB_d (fun _ => ?_) (fun _ => ?_))
  | (with_reducible refine onB_n (fun _ => ?_) (fun _ => ?_))
  | refine OnB.mk (fun _ => ?_) (fun _ => ?_)
  | refine obl_i ?_ ?_
  | refine Drw.mk (by kernel_rfl) ?_
  | refine mks_i ?_ ?_
  | refine slp_i ?_ ?_
  | (with_reducible refine elem_u ?_ ?_)
  | (with_reducible refine elem_0 ?_)
  | (with_reducible refine elem_1 ?_)
  | refine Ends.mk ?_))
 all_goals (try refine Pr.mk ?_)
 all_goals (try simp (disch := (unfold smallI at *; omega)) only [wi64, dm8] at *)
 all_goals first
  | rfl
  | (unfold smallI at *; omega)
  | skip⟩

instance n_of (L : List Stk) : DenI Tryz.prog 11 [.c (.sl 7 (L.map stC))] (∀ s ∈ L, okS s) (.tup [.c (.sl 7 (((L.take 12).map ofS).map cuC)), .bool (decide (L.length ≤ 12))]) := ⟨fun hp => by
 refine den_of (τ := tab) tab_ok mixed_ Tryz.func11 rfl (by kernel_rfl) (by kernel_rfl) (by kernel_rfl) ?_
 all_goals first
  | ((conv => whnf); refine Sw.Loop.ghost 4 100 46 7 ?_ rfl rfl rfl (by decide))
  | skip
 all_goals first
  | ((conv => whnf); refine Sw.Loop.inv (α := Nat) (fun x => [(0, .c (.sl 7 (L.map stC))), (4, .gs 100 x), (5, .int .i64 (x : Nat))]) (fun x => [(100, .grow 46 7 (((L.take x).map ofS).map cuC))]) (fun x => x ≤ L.length ∧ x ≤ 12) (fun x => L.length - x) 0 ?_ ?_ ?_ (fun x hx => ?_))
  | skip
 all_goals (try have hs := okS_get hp x)
 all_goals (repeat' ((try (conv => whnf)); first
  | refine call_0 ?_
  | refine call_i ?_ ?_
  | refine call_c ?_ (fun _ => ?_) (fun _ => ?_)
  | (with_reducible refine onB_t ?_)
  | (with_reducible refine onB_f ?_)
  | (with_reducible refine onB_d (fun _ => ?_) (fun _ => ?_))
  | (with_reducible refine onB_n (fun _ => ?_) (fun _ => ?_))
  | refine OnB.mk (fun _ => ?_) (fun _ => ?_)
  | refine obl_i ?_ ?_
  | refine Drw.mk (by kernel_rfl) ?_
  | refine mks_i ?_ ?_
  | refine slp_i ?_ ?_
  | (with_reducible refine elem_u ?_ ?_)
  | (with_reducible refine elem_0 ?_)
  | (with_reducible refine elem_1 ?_)
  | refine elem_map st0 ?_ ?_
  | refine Ends.mk ?_))
 all_goals (try refine Pr.mk ?_)
 all_goals first | (show SubE _ _; repeat' (first | exact trivial | refine And.intro ?_ ?_)) | (show SubB _ _; repeat' (first | exact trivial | refine And.intro ?_ ?_)) | skip
 all_goals (try rfl)
 all_goals (try simp only [List.length_map, Int.toNat_natCast] at *)
 all_goals (try simp (disch := (unfold okS smallI at *; omega)) only [wi64] at *)
 all_goals first
  | (refine of_end hx ?_; omega)
  | ((conv => whnf); exact ⟨x + 1, ⟨⟨rfl, gsE (by simp only [List.length_map, List.length_append, List.length_take, List.length_cons, List.length_nil]; omega), inc64 (by omega), trivial⟩, ⟨growC (by omega), trivial⟩, ⟨by omega, by omega⟩, by show L.length - (x + 1) < L.length - x; omega⟩⟩)
  | omega
  | exact ⟨hs.1, hs.2.1, hs.2.2.1⟩
  | exact ⟨hs.2.2.2.1, hs.2.2.2.2.1, hs.2.2.2.2.2.1⟩
  | (simp only [List.length_map, List.length_append, List.length_take, List.length_cons, List.length_nil]; omega)
  | skip⟩

instance n_of1 (a b c d e f : Int) (r : Nat) : DenI Tryz.prog 11 [.c (.sl 7 [[.v (.int .i16 a), .v (.int .i16 b), .v (.int .i16 c), .v (.int .i16 d), .v (.int .i16 e), .v (.int .i16 f), .v (.int .u8 (r : Nat))]])] (smallI a ∧ smallI b ∧ smallI c ∧ smallI d ∧ smallI e ∧ smallI f ∧ r ≤ 255) (.tup [.c (.sl 7 [[.v (.int .i64 a), .v (.int .i64 b), .v (.int .i64 c), .v (.int .i64 d), .v (.int .i64 e), .v (.int .i64 f), .v (.int .i64 (r : Nat))]]), .bool true]) := ⟨fun hp => (inferInstance : DenI Tryz.prog 11 [.c (.sl 7 ([(⟨a, b, c, d, e, f, r⟩ : Stk)].map stC))] _ _).den (by intro s hs; rw [List.mem_singleton] at hs; subst hs; exact hp)⟩
instance n_of2 (a b c d e f g h k l m n : Int) (r s : Nat) : DenI Tryz.prog 11 [.c (.sl 7 [[.v (.int .i16 a), .v (.int .i16 b), .v (.int .i16 c), .v (.int .i16 d), .v (.int .i16 e), .v (.int .i16 f), .v (.int .u8 (r : Nat))], [.v (.int .i16 g), .v (.int .i16 h), .v (.int .i16 k), .v (.int .i16 l), .v (.int .i16 m), .v (.int .i16 n), .v (.int .u8 (s : Nat))]])] (smallI a ∧ smallI b ∧ smallI c ∧ smallI d ∧ smallI e ∧ smallI f ∧ smallI g ∧ smallI h ∧ smallI k ∧ smallI l ∧ smallI m ∧ smallI n ∧ r ≤ 255 ∧ s ≤ 255) (.tup [.c (.sl 7 [[.v (.int .i64 a), .v (.int .i64 b), .v (.int .i64 c), .v (.int .i64 d), .v (.int .i64 e), .v (.int .i64 f), .v (.int .i64 (r : Nat))], [.v (.int .i64 g), .v (.int .i64 h), .v (.int .i64 k), .v (.int .i64 l), .v (.int .i64 m), .v (.int .i64 n), .v (.int .i64 (s : Nat))]]), .bool true]) := ⟨fun hp => (inferInstance : DenI Tryz.prog 11 [.c (.sl 7 ([(⟨a, b, c, d, e, f, r⟩ : Stk), ⟨g, h, k, l, m, n, s⟩].map stC))] _ _).den (by
  obtain ⟨p1, p2, p3, p4, p5, p6, p7, p8, p9, p10, p11, p12, p13, p14⟩ := hp
  intro q hq
  rcases List.mem_cons.1 hq with e | e
  · subst e; exact ⟨p1, p2, p3, p4, p5, p6, p13⟩
  · rw [List.mem_singleton] at e; subst e; exact ⟨p7, p8, p9, p10, p11, p12, p14⟩)⟩
instance l_is (a b c d e f : Rat) : DenI Tryz.prog 15 [Q3 a b c, Q3 d e f] (rz a ≤ 20000 ∧ rz b ≤ 20000 ∧ rz c ≤ 20000 ∧ rz d ≤ 20000 ∧ rz e ≤ 20000 ∧ rz f ≤ 20000 ∧ 0 ≤ f) (.bool (okQ b c && decide (cmp4 a b c d e f = 0))) := ⟨fun hp => by
 have i_a : RzB a 20000 := ⟨hp.1⟩
 have i_b : RzB b 20000 := ⟨hp.2.1⟩
 have i_c : RzB c 20000 := ⟨hp.2.2.1⟩
 have i_d : RzB d 20000 := ⟨hp.2.2.2.1⟩
 have i_e : RzB e 20000 := ⟨hp.2.2.2.2.1⟩
 have i_f : RzB f 20000 := ⟨hp.2.2.2.2.2.1⟩
 have hpre := hp.2.2.2.2.2.2
 all_goals refine den_of (τ := tab) tab_ok mixed_ Tryz.func15 rfl (by kernel_rfl) (by kernel_rfl) (by kernel_rfl) ?_
 all_goals (repeat' ((try (conv => whnf)); first
  | refine call_0 ?_
  | refine call_i ?_ ?_
  | refine call_c ?_ (fun _ => ?_) (fun _ => ?_)
  | (with_reducible refine onB_t ?_)
  | (with_reducible refine onB_f ?_)
  | (with_reducible refine onB_d (fun _ => ?_) (fun _ => ?_))
  | (with_reducible refine onB_n (fun _ => ?_) (fun _ => ?_))
  | refine OnB.mk (fun _ => ?_) (fun _ => ?_)
  | refine obl_i ?_ ?_
  | refine Drw.mk (by kernel_rfl) ?_
  | refine mks_i ?_ ?_
  | refine slp_i ?_ ?_
  | (with_reducible refine elem_u ?_ ?_)
  | (with_reducible refine elem_0 ?_)
  | (with_reducible refine elem_1 ?_)
  | refine Ends.mk ?_))
 all_goals (try refine Pr.mk ?_)
 all_goals (try simp only [sgnI_lt0, sgnI_zero, sgnI_le0, sgnI_gt0, sgnI_ge0, sgnI_eq1, cmpI_lt0, cmpI_gt0, cmpI_eq0, cmpI_le0, cmpI_ge0, cmpR_of, sgnR_of, sgnR_lt0, sgnR_eq0, sgnR_gt0, sgnR_le0, sgnR_ge0, sgnR_eq1, cmpR_lt0, cmpR_gt0, cmpR_eq0, cmpR_le0, cmpR_ge0] at *)
 all_goals first
  | (refine ⟨rzb (by omega), rzb (by omega), rzb (by omega), rzb (by omega), rzb (by omega), rzb (by omega), okQ_nn (by assumption), hpre⟩)
  | (refine bE ?_; simp [*]; done)
  | ((repeat' apply And.intro) <;> first | assumption | exact rzb (by omega) | exact szb (by omega) | exact Int.mul_ne_zero (den_ne _) (den_ne _))
  | skip⟩

instance n_dom2 (cfx cfy cfz ctx cty ctz cr bfx bfy bfz btx bty btz br : Int)  : DenI Tryz.prog 17 [.agg [.v (.int .i64 cfx), .v (.int .i64 cfy), .v (.int .i64 cfz), .v (.int .i64 ctx), .v (.int .i64 cty), .v (.int .i64 ctz), .v (.int .i64 cr)], .agg [.v (.int .i64 bfx), .v (.int .i64 bfy), .v (.int .i64 bfz), .v (.int .i64 btx), .v (.int .i64 bty), .v (.int .i64 btz), .v (.int .i64 br)]] (medI cfx ∧ medI cfy ∧ medI cfz ∧ medI ctx ∧ medI cty ∧ medI ctz ∧ medI bfx ∧ medI bfy ∧ medI bfz ∧ medI btx ∧ medI bty ∧ medI btz ∧ 0 ≤ cr ∧ cr ≤ 1000000 ∧ 0 ≤ br ∧ br ≤ 1000000) (.bool (decide (domP ((cfx : Int) : Rat) ((cfy : Int) : Rat) cfz ((ctx : Int) : Rat) ((cty : Int) : Rat) ctz cr ((bfx : Int) : Rat) ((bfy : Int) : Rat) bfz ((btx : Int) : Rat) ((bty : Int) : Rat) btz br))) := ⟨fun hp => by
 obtain ⟨m_cfx, m_cfy, m_cfz, m_ctx, m_cty, m_ctz, m_bfx, m_bfy, m_bfz, m_btx, m_bty, m_btz, i1, i2, i3, i4⟩ := hp
 have i_cfx : RzB ((cfx : Int) : Rat) 4 := ⟨rz_med m_cfx⟩
 have i_cfy : RzB ((cfy : Int) : Rat) 4 := ⟨rz_med m_cfy⟩
 have i_cfz : RzB ((cfz : Int) : Rat) 4 := ⟨rz_med m_cfz⟩
 have i_ctx : RzB ((ctx : Int) : Rat) 4 := ⟨rz_med m_ctx⟩
 have i_cty : RzB ((cty : Int) : Rat) 4 := ⟨rz_med m_cty⟩
 have i_ctz : RzB ((ctz : Int) : Rat) 4 := ⟨rz_med m_ctz⟩
 have i_bfx : RzB ((bfx : Int) : Rat) 4 := ⟨rz_med m_bfx⟩
 have i_bfy : RzB ((bfy : Int) : Rat) 4 := ⟨rz_med m_bfy⟩
 have i_bfz : RzB ((bfz : Int) : Rat) 4 := ⟨rz_med m_bfz⟩
 have i_btx : RzB ((btx : Int) : Rat) 4 := ⟨rz_med m_btx⟩
 have i_bty : RzB ((bty : Int) : Rat) 4 := ⟨rz_med m_bty⟩
 have i_btz : RzB ((btz : Int) : Rat) 4 := ⟨rz_med m_btz⟩
 all_goals refine den_of (τ := tab) tab_ok mixed_ Tryz.func17 rfl (by kernel_rfl) (by kernel_rfl) (by kernel_rfl) ?_
 all_goals (repeat' ((try (conv => whnf)); first
  | refine call_0 ?_
  | refine call_i ?_ ?_
  | refine call_c ?_ (fun _ => ?_) (fun _ => ?_)
  | (with_reducible refine onB_t ?_)
  | (with_reducible refine onB_f ?_)
  | (with_reducible refine onB_d (fun _ => ?_) (fun _ => ?_))
  | (with_reducible refine onB_n (fun _ => ?_) (fun _ => ?_))
  | refine OnB.mk (fun _ => ?_) (fun _ => ?_)
  | refine obl_i ?_ ?_
  | refine Drw.mk (by kernel_rfl) ?_
  | refine mks_i ?_ ?_
  | refine slp_i ?_ ?_
  | (with_reducible refine elem_u ?_ ?_)
  | (with_reducible refine elem_0 ?_)
  | (with_reducible refine elem_1 ?_)
  | refine Ends.mk ?_))
 all_goals (try refine Pr.mk ?_)
 all_goals (try simp (disch := (unfold medI at *; omega)) only [wi64] at *)
 all_goals (try simp only [sgnI_lt0, sgnI_zero, sgnI_le0, sgnI_gt0, sgnI_ge0, sgnI_eq1, cmpI_lt0, cmpI_gt0, cmpI_eq0, cmpI_le0, cmpI_ge0, cmpR_of, sgnR_of, sgnR_lt0, sgnR_eq0, sgnR_gt0, sgnR_le0, sgnR_ge0, sgnR_eq1, cmpR_lt0, cmpR_gt0, cmpR_eq0, cmpR_le0, cmpR_ge0] at *)
 all_goals first
  | with_reducible exact dom_y (by assumption) (by assumption) (by omega) (by assumption)
  | exact dom_n (fun k => absurd k.1 (by assumption))
  | exact dom_n (fun k => absurd k.2.1 (by assumption))
  | exact dom_n (fun k => absurd k.2.2.2.1 (by assumption))
  | exact dom_n (fun k => by have := k.2.2.1; omega)
  | (unfold medI at *; omega)
  | ((repeat' apply And.intro) <;> first | assumption | exact rzb (by omega) | exact szb (by omega) | (unfold medI at *; omega))
  | (unfold medI at *; omega)
  | skip⟩

instance n_dom (cfx cfy cfz ctx cty ctz cr bfx bfy bfz btx bty btz br : Int)  : DenI Tryz.prog 16 [.agg [.v (.int .i64 cfx), .v (.int .i64 cfy), .v (.int .i64 cfz), .v (.int .i64 ctx), .v (.int .i64 cty), .v (.int .i64 ctz), .v (.int .i64 cr)], .agg [.v (.int .i64 bfx), .v (.int .i64 bfy), .v (.int .i64 bfz), .v (.int .i64 btx), .v (.int .i64 bty), .v (.int .i64 btz), .v (.int .i64 br)]] (medI cfx ∧ medI cfy ∧ medI cfz ∧ medI ctx ∧ medI cty ∧ medI ctz ∧ medI bfx ∧ medI bfy ∧ medI bfz ∧ medI btx ∧ medI bty ∧ medI btz ∧ 0 ≤ cr ∧ cr ≤ 1000000 ∧ 0 ≤ br ∧ br ≤ 1000000) (.bool (decide (domP ((cfx : Int) : Rat) ((cfy : Int) : Rat) cfz ((ctx : Int) : Rat) ((cty : Int) : Rat) ctz cr ((bfx : Int) : Rat) ((bfy : Int) : Rat) bfz ((btx : Int) : Rat) ((bty : Int) : Rat) btz br))) := ⟨fun hp => by
 obtain ⟨m_cfx, m_cfy, m_cfz, m_ctx, m_cty, m_ctz, m_bfx, m_bfy, m_bfz, m_btx, m_bty, m_btz, i1, i2, i3, i4⟩ := hp
 have i_cfx : RzB ((cfx : Int) : Rat) 4 := ⟨rz_med m_cfx⟩
 have i_cfy : RzB ((cfy : Int) : Rat) 4 := ⟨rz_med m_cfy⟩
 have i_cfz : RzB ((cfz : Int) : Rat) 4 := ⟨rz_med m_cfz⟩
 have i_ctx : RzB ((ctx : Int) : Rat) 4 := ⟨rz_med m_ctx⟩
 have i_cty : RzB ((cty : Int) : Rat) 4 := ⟨rz_med m_cty⟩
 have i_ctz : RzB ((ctz : Int) : Rat) 4 := ⟨rz_med m_ctz⟩
 have i_bfx : RzB ((bfx : Int) : Rat) 4 := ⟨rz_med m_bfx⟩
 have i_bfy : RzB ((bfy : Int) : Rat) 4 := ⟨rz_med m_bfy⟩
 have i_bfz : RzB ((bfz : Int) : Rat) 4 := ⟨rz_med m_bfz⟩
 have i_btx : RzB ((btx : Int) : Rat) 4 := ⟨rz_med m_btx⟩
 have i_bty : RzB ((bty : Int) : Rat) 4 := ⟨rz_med m_bty⟩
 have i_btz : RzB ((btz : Int) : Rat) 4 := ⟨rz_med m_btz⟩
 all_goals refine den_of (τ := tab) tab_ok mixed_ Tryz.func16 rfl (by kernel_rfl) (by kernel_rfl) (by kernel_rfl) ?_
 all_goals (repeat' ((try (conv => whnf)); first
  | refine call_0 ?_
  | refine call_i ?_ ?_
  | refine call_c ?_ (fun _ => ?_) (fun _ => ?_)
  | (with_reducible refine onB_t ?_)
  | (with_reducible refine onB_f ?_)
  | (with_reducible refine onB_d (fun _ => ?_) (fun _ => ?_))
  | (with_reducible refine onB_n (fun _ => ?_) (fun _ => ?_))
  | refine OnB.mk (fun _ => ?_) (fun _ => ?_)
  | refine obl_i ?_ ?_
  | refine Drw.mk (by kernel_rfl) ?_
  | refine mks_i ?_ ?_
  | refine slp_i ?_ ?_
  | (with_reducible refine elem_u ?_ ?_)
  | (with_reducible refine elem_0 ?_)
  | (with_reducible refine elem_1 ?_)
  | refine Ends.mk ?_))
 all_goals (try refine Pr.mk ?_)
 all_goals (try simp (disch := (unfold medI at *; omega)) only [wi64] at *)
 all_goals (try simp only [sgnI_lt0, sgnI_zero, sgnI_le0, sgnI_gt0, sgnI_ge0, sgnI_eq1, cmpI_lt0, cmpI_gt0, cmpI_eq0, cmpI_le0, cmpI_ge0, cmpR_of, sgnR_of, sgnR_lt0, sgnR_eq0, sgnR_gt0, sgnR_le0, sgnR_ge0, sgnR_eq1, cmpR_lt0, cmpR_gt0, cmpR_eq0, cmpR_le0, cmpR_ge0] at *)
 all_goals first
  | with_reducible exact dom_y (by assumption) (by assumption) (by omega) (by assumption)
  | exact dom_n (fun k => absurd k.1 (by assumption))
  | exact dom_n (fun k => absurd k.2.1 (by assumption))
  | exact dom_n (fun k => absurd k.2.2.2.1 (by assumption))
  | exact dom_n (fun k => by have := k.2.2.1; omega)
  | (unfold medI at *; omega)
  | ((repeat' apply And.intro) <;> first | assumption | exact rzb (by omega) | exact szb (by omega) | (unfold medI at *; omega))
  | (unfold medI at *; omega)
  | skip⟩

end Go.Proofs.YtigbdpkpaleboaaGreat

namespace Go.Proofs.YtigbdpkpaleboaaGreat
open Go Go.RowKit Go.Sw
set_option linter.unusedVariables false
set_option maxRecDepth 100000
set_option maxHeartbeats 8000000
set_option synthInstance.maxSize 4000
set_option synthInstance.maxHeartbeats 400000
instance w_1 : DenI Tryz.prog 12 [.agg [.v (.int .i64 0), .v (.int .i64 0), .v (.int .i64 (-1)), .v (.int .i64 10), .v (.int .i64 0), .v (.int .i64 (-1)), .v (.int .i64 3)], Q2 ((5 : Int) : Rat) ((3 : Int) : Rat)] True (.tup [Q3 (-1) 0 0, .bool true]) := ⟨fun _ => by
  have h := ((inferInstance : DenC Tryz.prog 12 [.agg [.v (.int .i64 0), .v (.int .i64 0), .v (.int .i64 (-1)), .v (.int .i64 10), .v (.int .i64 0), .v (.int .i64 (-1)), .v (.int .i64 3)], Q2 ((5 : Int) : Rat) ((3 : Int) : Rat)] _ _ _ _).den (by unfold medI; decide +kernel)).1 (show swOn ((0 : Int) : Rat) ((0 : Int) : Rat) ((10 : Int) : Rat) ((0 : Int) : Rat) 3 ((5 : Int) : Rat) ((3 : Int) : Rat) by decide +kernel)
  rw [show (swR ((0 : Int) : Rat) ((0 : Int) : Rat) (-1) ((10 : Int) : Rat) ((0 : Int) : Rat) (-1) ((3 : Int) : Rat) ((5 : Int) : Rat) ((3 : Int) : Rat)).a = (-1) by decide +kernel, show (swR ((0 : Int) : Rat) ((0 : Int) : Rat) (-1) ((10 : Int) : Rat) ((0 : Int) : Rat) (-1) ((3 : Int) : Rat) ((5 : Int) : Rat) ((3 : Int) : Rat)).b = 0 by decide +kernel, show (swR ((0 : Int) : Rat) ((0 : Int) : Rat) (-1) ((10 : Int) : Rat) ((0 : Int) : Rat) (-1) ((3 : Int) : Rat) ((5 : Int) : Rat) ((3 : Int) : Rat)).c = 0 by decide +kernel] at h
  exact h⟩
instance w_2 : DenI Tryz.prog 12 [.agg [.v (.int .i64 0), .v (.int .i64 0), .v (.int .i64 (-1)), .v (.int .i64 10), .v (.int .i64 0), .v (.int .i64 (-1)), .v (.int .i64 3)], Q2 ((14 : Int) : Rat) ((0 : Int) : Rat)] True (.tup [ZQ3, .bool false]) := ⟨fun _ => ((inferInstance : DenC Tryz.prog 12 [.agg [.v (.int .i64 0), .v (.int .i64 0), .v (.int .i64 (-1)), .v (.int .i64 10), .v (.int .i64 0), .v (.int .i64 (-1)), .v (.int .i64 3)], Q2 ((14 : Int) : Rat) ((0 : Int) : Rat)] _ _ _ _).den (by unfold medI; decide +kernel)).2 (show ¬swOn ((0 : Int) : Rat) ((0 : Int) : Rat) ((10 : Int) : Rat) ((0 : Int) : Rat) 3 ((14 : Int) : Rat) ((0 : Int) : Rat) by decide +kernel)⟩
instance w_3 : DenI Tryz.prog 12 [.agg [.v (.int .i64 0), .v (.int .i64 0), .v (.int .i64 0), .v (.int .i64 10), .v (.int .i64 0), .v (.int .i64 (-10)), .v (.int .i64 3)], Q2 ((5 : Int) : Rat) ((0 : Int) : Rat)] True (.tup [Q3 (-8) 0 0, .bool true]) := ⟨fun _ => by
  have h := ((inferInstance : DenC Tryz.prog 12 [.agg [.v (.int .i64 0), .v (.int .i64 0), .v (.int .i64 0), .v (.int .i64 10), .v (.int .i64 0), .v (.int .i64 (-10)), .v (.int .i64 3)], Q2 ((5 : Int) : Rat) ((0 : Int) : Rat)] _ _ _ _).den (by unfold medI; decide +kernel)).1 (show swOn ((0 : Int) : Rat) ((0 : Int) : Rat) ((10 : Int) : Rat) ((0 : Int) : Rat) 3 ((5 : Int) : Rat) ((0 : Int) : Rat) by decide +kernel)
  rw [show (swR ((0 : Int) : Rat) ((0 : Int) : Rat) 0 ((10 : Int) : Rat) ((0 : Int) : Rat) (-10) ((3 : Int) : Rat) ((5 : Int) : Rat) ((0 : Int) : Rat)).a = (-8) by decide +kernel, show (swR ((0 : Int) : Rat) ((0 : Int) : Rat) 0 ((10 : Int) : Rat) ((0 : Int) : Rat) (-10) ((3 : Int) : Rat) ((5 : Int) : Rat) ((0 : Int) : Rat)).b = 0 by decide +kernel, show (swR ((0 : Int) : Rat) ((0 : Int) : Rat) 0 ((10 : Int) : Rat) ((0 : Int) : Rat) (-10) ((3 : Int) : Rat) ((5 : Int) : Rat) ((0 : Int) : Rat)).c = 0 by decide +kernel] at h
  exact h⟩
instance w_4 : DenI Tryz.prog 12 [.agg [.v (.int .i64 0), .v (.int .i64 0), .v (.int .i64 0), .v (.int .i64 10), .v (.int .i64 0), .v (.int .i64 (-10)), .v (.int .i64 3)], Q2 ((10 : Int) : Rat) ((3 : Int) : Rat)] True (.tup [Q3 (-10) 0 0, .bool true]) := ⟨fun _ => by
  have h := ((inferInstance : DenC Tryz.prog 12 [.agg [.v (.int .i64 0), .v (.int .i64 0), .v (.int .i64 0), .v (.int .i64 10), .v (.int .i64 0), .v (.int .i64 (-10)), .v (.int .i64 3)], Q2 ((10 : Int) : Rat) ((3 : Int) : Rat)] _ _ _ _).den (by unfold medI; decide +kernel)).1 (show swOn ((0 : Int) : Rat) ((0 : Int) : Rat) ((10 : Int) : Rat) ((0 : Int) : Rat) 3 ((10 : Int) : Rat) ((3 : Int) : Rat) by decide +kernel)
  rw [show (swR ((0 : Int) : Rat) ((0 : Int) : Rat) 0 ((10 : Int) : Rat) ((0 : Int) : Rat) (-10) ((3 : Int) : Rat) ((10 : Int) : Rat) ((3 : Int) : Rat)).a = (-10) by decide +kernel, show (swR ((0 : Int) : Rat) ((0 : Int) : Rat) 0 ((10 : Int) : Rat) ((0 : Int) : Rat) (-10) ((3 : Int) : Rat) ((10 : Int) : Rat) ((3 : Int) : Rat)).b = 0 by decide +kernel, show (swR ((0 : Int) : Rat) ((0 : Int) : Rat) 0 ((10 : Int) : Rat) ((0 : Int) : Rat) (-10) ((3 : Int) : Rat) ((10 : Int) : Rat) ((3 : Int) : Rat)).c = 0 by decide +kernel] at h
  exact h⟩
instance w_5 : DenI Tryz.prog 12 [.agg [.v (.int .i64 0), .v (.int .i64 0), .v (.int .i64 0), .v (.int .i64 10), .v (.int .i64 0), .v (.int .i64 (-10)), .v (.int .i64 3)], Q2 ((5 : Int) : Rat) ((1 : Int) : Rat)] True (.tup [Q3 (-5) (-1 / 10) 800, .bool true]) := ⟨fun _ => by
  have h := ((inferInstance : DenC Tryz.prog 12 [.agg [.v (.int .i64 0), .v (.int .i64 0), .v (.int .i64 0), .v (.int .i64 10), .v (.int .i64 0), .v (.int .i64 (-10)), .v (.int .i64 3)], Q2 ((5 : Int) : Rat) ((1 : Int) : Rat)] _ _ _ _).den (by unfold medI; decide +kernel)).1 (show swOn ((0 : Int) : Rat) ((0 : Int) : Rat) ((10 : Int) : Rat) ((0 : Int) : Rat) 3 ((5 : Int) : Rat) ((1 : Int) : Rat) by decide +kernel)
  rw [show (swR ((0 : Int) : Rat) ((0 : Int) : Rat) 0 ((10 : Int) : Rat) ((0 : Int) : Rat) (-10) ((3 : Int) : Rat) ((5 : Int) : Rat) ((1 : Int) : Rat)).a = (-5) by decide +kernel, show (swR ((0 : Int) : Rat) ((0 : Int) : Rat) 0 ((10 : Int) : Rat) ((0 : Int) : Rat) (-10) ((3 : Int) : Rat) ((5 : Int) : Rat) ((1 : Int) : Rat)).b = (-1 / 10) by decide +kernel, show (swR ((0 : Int) : Rat) ((0 : Int) : Rat) 0 ((10 : Int) : Rat) ((0 : Int) : Rat) (-10) ((3 : Int) : Rat) ((5 : Int) : Rat) ((1 : Int) : Rat)).c = 800 by decide +kernel] at h
  exact h⟩
instance l_awake  : DenI Tryz.prog 10 [] (True) (.bool true) := ⟨fun hp => by
 refine den_of (τ := tab) tab_ok mixed_ Tryz.func10 rfl (by kernel_rfl) (by kernel_rfl) (by kernel_rfl) ?_
 all_goals (repeat' ((try (conv => whnf)); first
  | refine call_0 ?_
  | refine call_i ?_ ?_
  | refine call_c ?_ (fun _ => ?_) (fun _ => ?_)
  | (with_reducible refine onB_t ?_)
  | (with_reducible refine onB_f ?_)
  | refine onB_yes (by decide +kernel) ?_
  | refine onB_no (by decide +kernel) ?_
  | (with_reducible refine onB_d (fun _ => ?_) (fun _ => ?_))
  | (with_reducible refine onB_n (fun _ => ?_) (fun _ => ?_))
  | refine OnB.mk (fun _ => ?_) (fun _ => ?_)
  | refine obl_i ?_ ?_
  | refine Drw.mk (by kernel_rfl) ?_
  | refine mks_i ?_ ?_
  | refine slp_i ?_ ?_
  | (with_reducible refine elem_u ?_ ?_)
  | (with_reducible refine elem_0 ?_)
  | (with_reducible refine elem_1 ?_)
  | refine Ends.mk ?_))
 all_goals (try refine Pr.mk ?_)
 all_goals first
  | rfl
  | contradiction
  | (exfalso; omega)
  | (refine bE ?_; decide +kernel)
  | decide +kernel
  | (unfold okP; decide +kernel)
  | (exfalso; rename_i h; revert h; decide +kernel)
  | ((repeat' apply And.intro) <;> decide +kernel)
  | skip⟩

end Go.Proofs.YtigbdpkpaleboaaGreat

namespace Go.Sw
open Go Go.RowKit
set_option linter.unusedVariables false
theorem setRow_sz (w : World) (g : Nat) (cs : Array Value) : (w.setRow g cs).heap.size = w.heap.size := by simp [World.setRow]
/-- A block ahead of the call's own is written over. -/
theorem St.over {w0 w : World} {S : List Bx} (h : St w0 w S) {g : Nat} (cs : Array Value) (hg : g < w0.heap.size) : St (w0.setRow g cs) (w.setRow g cs) S := by
  refine ⟨⟨h.below.os, h.below.tape, h.below.output, by rw [setRow_sz, setRow_sz]; exact h.below.size, fun k hk => ?_⟩, fun b hb => ?_, h.nd⟩
  · rw [setRow_sz] at hk
    have hb := h.below.block k hk
    by_cases e : k = g
    · subst e
      simp [World.setRow, Array.getElem?_modify, hb]
    · rw [setRow_other _ _ _ _ e, setRow_other _ _ _ _ e]; exact hb
  · obtain ⟨h1, h2⟩ := h.box b hb
    rw [setRow_sz, setRow_other _ _ _ _ (by omega)]
    exact ⟨h1, h2⟩
theorem St.grown {w0 w : World} {S : List Bx} {g : Nat} {cs : Array Value} (h : St (w0.setRow g cs) w S) : w0.grownBy w (some g) := by
  refine ⟨h.below.os, h.below.tape, h.below.output, by have := h.below.size; rwa [setRow_sz] at this, fun k hk hn => ?_⟩
  have := h.below.block k (by rw [setRow_sz]; exact hk)
  rw [this, setRow_other _ _ _ _ (fun e => hn (by rw [e]))]
section
variable {P : Program} {Q : Exit → Act → World → Prop} {a : Act} {w : World} {K : Act → World → Prop} {N : Nat} {L : List (Nat × Value)} {ρ : Operand → Value} {d : Option Nat}
variable {ty : TypeId} {pos : String} {af : Array Edge} {gd : Option (Nat × Bool)}
theorem ex_nilc {x : Operand} {ad : Addr} (hx : ρ x = .pointer (some ad)) : (execOp ρ ⟨d, .nilCheck x, ty, pos, af, gd⟩).run P w = .ok (.value (.pointer (some ad))) w := by simp [execOp, hx]
theorem op_storeg {t T : TypeId} {x y : Operand} {g off : Nat} {v : Value} {vs cs : Array Value} (hF : Frm N a L) (hg : w.heap[g]? = some (.cells cs T (0, 0)))
    (hx : ev L x = some (.pointer (some ⟨g, off, none⟩))) (hy : ev L y = some v) (hv : v.cells = vs) (hsz : (P.info? t).map (·.size) = some vs.size) (h1 : vs.toList.all Value.oneCell' = true) (hfit : off + vs.size ≤ cs.size)
    (k : K a (w.setRow g (splice cs off vs))) : Oper.wp P ⟨none, .store t x y, ty, pos, af, gd⟩ a w K Q := by
  unfold Oper.wp
  have hr : (execOp a.eval ⟨none, .store t x y, ty, pos, af, gd⟩).run P w = .ok .skip (w.setRow g (splice cs off vs)) := by
    simp [execOp, hF.ev hx, hF.ev hy, run_storeAt hv hsz h1 hg hfit]
  rw [hr]
  simp only [Oper.upon, Act.put]
  exact k
end
theorem RepC.v_eq {w : World} {X : List Nat} {u v : Value} (h : RepC w X u (.v v)) : u = v := by cases h; rfl
theorem RepL.v1 {w : World} {X : List Nat} {us : List Value} {a : Value} (h : RepL w X us [.v a]) : us = [a] := by
  obtain ⟨r, rfl, h⟩ := h.vcons
  have := h.len
  cases r with
  | nil => rfl
  | cons => simp at this
theorem RepL.v2 {w : World} {X : List Nat} {us : List Value} {a b : Value} (h : RepL w X us [.v a, .v b]) : us = [a, b] := by
  obtain ⟨r, rfl, k⟩ := h.vcons
  exact congrArg (List.cons a) k.v1
theorem RepL.of2 {w : World} {X : List Nat} {a b : Value} (h1 : a.oneCell' = true) (h2 : b.oneCell' = true) : RepL w X [a, b] [.v a, .v b] := .cons (.v _ h1) (.cons (.v _ h2) (.nil _ _))
theorem RepD.agg_v2 {w : World} {X : List Nat} {u a b : Value} (h : RepD w X u (.agg [.v a, .v b])) : u = .agg #[a, b] := by
  cases h with
  | agg h => rw [h.v2]
theorem RepD.v_eq {w : World} {X : List Nat} {u a : Value} (h : RepD w X u (.c (.v a))) : u = a := by
  cases h with
  | c h => exact h.v_eq
end Go.Sw

namespace Go.Sw
open Go
set_option linter.unusedVariables false
section
variable {a b c d e f m n : Rat}
theorem pl_1 (h : sgnR b * sgnR c = 0) : packA [AV.c (Cell.v (.int .i64 (sgnR a)))] = AV.int .i64 (exI a b c) := iE (by unfold exI; rw [if_pos (.inr h)])
theorem pl_2 (h : sgnR a = sgnR b * sgnR c) : packA [AV.c (Cell.v (.int .i64 (sgnR a)))] = AV.int .i64 (exI a b c) := iE (by unfold exI; rw [if_pos (.inl h)])
theorem pl_3 (h1 : ¬sgnR b * sgnR c = 0) (h2 : ¬sgnR a = sgnR b * sgnR c) (h3 : a = 0) : packA [AV.c (Cell.v (.int .i64 (sgnR b * sgnR c)))] = AV.int .i64 (exI a b c) := iE (by
  unfold exI; rw [if_neg (by rintro (h | h); exact h2 h; exact h1 h), if_pos (by rw [h3]; rfl)])
theorem pl_4 (h1 : ¬sgnR b * sgnR c = 0) (h2 : ¬sgnR a = sgnR b * sgnR c) (h3 : ¬a = 0) : packA [AV.c (Cell.v (.int .i64 (sgnR a * cmpR (a * a) (b * b * c))))] = AV.int .i64 (exI a b c) := tw_4 h3 h1 h2
theorem qk_n (h : ¬Qk a b c d m n) : packA [AV.c (Cell.v (.int .i64 0)), AV.c (Cell.v (.bool false))] = AV.tup [AV.int .i64 (quickA a b c d m n).1, AV.bool (quickA a b c d m n).2] := by
  rw [quickA_n h]; rfl
theorem rsg_1 (hm : 0 ≤ m) (hn : 0 ≤ n) (h : (quickA a b c d m n).2 = true) : packA [AV.c (Cell.v (.int .i64 (quickA a b c d m n).1))] = AV.int .i64 (sg4 a b c d m n) := iE (quickA_sg hm hn h)
theorem cp_1 (hc : 0 ≤ c) (hf : 0 ≤ f) (h1 : b = 0) (h2 : e = 0) : packA [AV.c (Cell.v (.int .i64 (cmpR a d)))] = AV.int .i64 (cmp4 a b c d e f) := by
  subst h1 h2; exact iE (cmp4_rat hc hf).symm
theorem cp_2 (hc : 0 ≤ c) (hf : 0 ≤ f) (h : (apartI (rootI a b c) (rootI d e f)).2 = true) : packA [AV.c (Cell.v (.int .i64 (apartI (rootI a b c) (rootI d e f)).1))] = AV.int .i64 (cmp4 a b c d e f) := iE (apartI_cmp hc hf h)
theorem cp_3 (hc : 0 ≤ c) (h : c = f) : packA [AV.c (Cell.v (.int .i64 (exI (a - d) (b - e) c)))] = AV.int .i64 (cmp4 a b c d e f) := by
  subst h; exact iE (cmp4_one hc).symm
theorem ap_n1 (h : (rootI a b c).isSome = false) : packA [AV.c (Cell.v (.int .i64 0)), AV.c (Cell.v (.bool false))] = AV.tup [AV.int .i64 (apartI (rootI a b c) (rootI d e f)).1, AV.bool (apartI (rootI a b c) (rootI d e f)).2] := by
  cases hq : rootI a b c with
  | none => rfl
  | some x => rw [hq] at h; cases h
theorem ap_n2 (h : (rootI d e f).isSome = false) : packA [AV.c (Cell.v (.int .i64 0)), AV.c (Cell.v (.bool false))] = AV.tup [AV.int .i64 (apartI (rootI a b c) (rootI d e f)).1, AV.bool (apartI (rootI a b c) (rootI d e f)).2] := by
  cases hq : rootI d e f with
  | none => cases hr : rootI a b c <;> rfl
  | some x => rw [hq] at h; cases h
theorem ap_lt (h1 : (rootI a b c).isSome = true) (h2 : (rootI d e f).isSome = true) (h : ((rootI a b c).getD (0, 0)).2 < ((rootI d e f).getD (0, 0)).1) :
    packA [AV.c (Cell.v (.int .i64 (-1))), AV.c (Cell.v (.bool true))] = AV.tup [AV.int .i64 (apartI (rootI a b c) (rootI d e f)).1, AV.bool (apartI (rootI a b c) (rootI d e f)).2] := by
  cases hq : rootI a b c with
  | none => rw [hq] at h1; cases h1
  | some x => cases hr : rootI d e f with
    | none => rw [hr] at h2; cases h2
    | some y => rw [hq, hr] at h; unfold apartI; simp only [Option.getD_some] at *; rw [if_pos h]; rfl
theorem ap_gt (h1 : (rootI a b c).isSome = true) (h2 : (rootI d e f).isSome = true) (h0 : ¬((rootI a b c).getD (0, 0)).2 < ((rootI d e f).getD (0, 0)).1) (h : ((rootI a b c).getD (0, 0)).1 > ((rootI d e f).getD (0, 0)).2) :
    packA [AV.c (Cell.v (.int .i64 1)), AV.c (Cell.v (.bool true))] = AV.tup [AV.int .i64 (apartI (rootI a b c) (rootI d e f)).1, AV.bool (apartI (rootI a b c) (rootI d e f)).2] := by
  cases hq : rootI a b c with
  | none => rw [hq] at h1; cases h1
  | some x => cases hr : rootI d e f with
    | none => rw [hr] at h2; cases h2
    | some y => rw [hq, hr] at h h0; unfold apartI; simp only [Option.getD_some] at *; rw [if_neg h0, if_pos h]; rfl
theorem ap_no (h1 : (rootI a b c).isSome = true) (h2 : (rootI d e f).isSome = true) (h0 : ¬((rootI a b c).getD (0, 0)).2 < ((rootI d e f).getD (0, 0)).1) (h : ¬((rootI a b c).getD (0, 0)).1 > ((rootI d e f).getD (0, 0)).2) :
    packA [AV.c (Cell.v (.int .i64 0)), AV.c (Cell.v (.bool false))] = AV.tup [AV.int .i64 (apartI (rootI a b c) (rootI d e f)).1, AV.bool (apartI (rootI a b c) (rootI d e f)).2] := by
  cases hq : rootI a b c with
  | none => rw [hq] at h1; cases h1
  | some x => cases hr : rootI d e f with
    | none => rw [hr] at h2; cases h2
    | some y => rw [hq, hr] at h h0; unfold apartI; simp only [Option.getD_some] at *; rw [if_neg h0, if_neg h]; rfl
end
end Go.Sw
