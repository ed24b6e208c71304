/-
  What the functions support.add, support.sub, support.mul, support.over, support.zero, support.equal, support.Through, support.SameLine, support.SameCircle, support.sign, support.distance, support.quick, support.Side, support.Inside, support.Foot, support.CircleThrough answer, each out of its text by the abstract run.
  What the functions swarfref08.Line, swarfref08.Circle, swarflaw08.line, swarflaw08.awake answer, each out of its text by the abstract run.
  Plain laws of lines and circles.
  Conditions: none.
-/
import Derived.Test.YtkcoahciohejkaaGreatM10
set_option linter.all false
namespace Go.Proofs.YtkcoahciohejkaaGreat
open Go Go.RowKit Go.Sw
set_option linter.unusedVariables false
set_option maxRecDepth 100000
set_option maxHeartbeats 8000000
set_option synthInstance.maxSize 4000
set_option synthInstance.maxHeartbeats 400000
instance p_add (a b : Rat) : DenI Tryz.prog 51 [R a, R b] (rz a ≤ 4000000 ∧ rz b ≤ 4000000) (R (a + b)) := ⟨fun hp => by
 have i_a : RzB a 4000000 := ⟨hp.1⟩
 have i_b : RzB b 4000000 := ⟨hp.2⟩
 all_goals refine den_of (τ := tab) tab_ok mixed_ Tryz.func51 rfl (by kernel_rfl) (by kernel_rfl) (by kernel_rfl) ?_
 all_goals (repeat' ((try (conv => whnf)); first
  | refine call_0 ?_
  | refine call_i ?_ ?_
  | refine call_c ?_ (fun _ => ?_) (fun _ => ?_)
  | (with_reducible refine onB_t ?_)
  | (with_reducible refine onB_f ?_)
  | (with_reducible refine onB_d (fun _ => ?_) (fun _ => ?_))
  | (with_reducible refine onB_n (fun _ => ?_) (fun _ => ?_))
  | refine OnB.mk (fun _ => ?_) (fun _ => ?_)
  | refine obl_i ?_ ?_
  | refine Drw.mk (by kernel_rfl) ?_
  | refine mks_i ?_ ?_
  | refine slp_i ?_ ?_
  | (with_reducible refine elem_u ?_ ?_)
  | (with_reducible refine elem_0 ?_)
  | (with_reducible refine elem_1 ?_)
  | refine Ends.mk ?_))
 all_goals (try refine Pr.mk ?_)
 all_goals (try simp only [sgnI_lt0, sgnI_zero, sgnI_le0, sgnI_gt0, sgnI_ge0, sgnI_eq1, cmpI_lt0, cmpI_gt0, cmpI_eq0, cmpI_le0, cmpI_ge0, cmpR_of, sgnR_of, sgnR_lt0, sgnR_eq0, sgnR_gt0, sgnR_le0, sgnR_ge0, sgnR_eq1, cmpR_lt0, cmpR_gt0, cmpR_eq0, cmpR_le0, cmpR_ge0] at *)
 all_goals first
  | rfl
  | (simp only [redB, redC, mkA, mkB, mkC, cooC, ptC, *, true_or, or_true, if_true, if_false, or_self, and_self, and_true, true_and, and_false, false_and, not_true, not_false_iff, Bool.false_eq_true, decide_true, decide_false, Bool.or_true, Bool.true_or, Bool.or_false, Bool.false_or]; rfl)
  | ((repeat' apply And.intro) <;> first | assumption | exact rzb (by omega) | exact szb (by omega) | exact Int.mul_ne_zero (den_ne _) (den_ne _))
  | (exfalso; simp_all; done)
  | (exfalso; grind)
  | omega
  | ((repeat' apply And.intro) <;> first | assumption | exact rzb (by omega) | exact szb (by omega) | exact Int.mul_ne_zero (den_ne _) (den_ne _))
  | skip⟩

instance p_sub (a b : Rat) : DenI Tryz.prog 49 [R a, R b] (rz a ≤ 4000000 ∧ rz b ≤ 4000000) (R (a - b)) := ⟨fun hp => by
 have i_a : RzB a 4000000 := ⟨hp.1⟩
 have i_b : RzB b 4000000 := ⟨hp.2⟩
 all_goals refine den_of (τ := tab) tab_ok mixed_ Tryz.func49 rfl (by kernel_rfl) (by kernel_rfl) (by kernel_rfl) ?_
 all_goals (repeat' ((try (conv => whnf)); first
  | refine call_0 ?_
  | refine call_i ?_ ?_
  | refine call_c ?_ (fun _ => ?_) (fun _ => ?_)
  | (with_reducible refine onB_t ?_)
  | (with_reducible refine onB_f ?_)
  | (with_reducible refine onB_d (fun _ => ?_) (fun _ => ?_))
  | (with_reducible refine onB_n (fun _ => ?_) (fun _ => ?_))
  | refine OnB.mk (fun _ => ?_) (fun _ => ?_)
  | refine obl_i ?_ ?_
  | refine Drw.mk (by kernel_rfl) ?_
  | refine mks_i ?_ ?_
  | refine slp_i ?_ ?_
  | (with_reducible refine elem_u ?_ ?_)
  | (with_reducible refine elem_0 ?_)
  | (with_reducible refine elem_1 ?_)
  | refine Ends.mk ?_))
 all_goals (try refine Pr.mk ?_)
 all_goals (try simp only [sgnI_lt0, sgnI_zero, sgnI_le0, sgnI_gt0, sgnI_ge0, sgnI_eq1, cmpI_lt0, cmpI_gt0, cmpI_eq0, cmpI_le0, cmpI_ge0, cmpR_of, sgnR_of, sgnR_lt0, sgnR_eq0, sgnR_gt0, sgnR_le0, sgnR_ge0, sgnR_eq1, cmpR_lt0, cmpR_gt0, cmpR_eq0, cmpR_le0, cmpR_ge0] at *)
 all_goals first
  | rfl
  | (simp only [redB, redC, mkA, mkB, mkC, cooC, ptC, *, true_or, or_true, if_true, if_false, or_self, and_self, and_true, true_and, and_false, false_and, not_true, not_false_iff, Bool.false_eq_true, decide_true, decide_false, Bool.or_true, Bool.true_or, Bool.or_false, Bool.false_or]; rfl)
  | ((repeat' apply And.intro) <;> first | assumption | exact rzb (by omega) | exact szb (by omega) | exact Int.mul_ne_zero (den_ne _) (den_ne _))
  | (exfalso; simp_all; done)
  | (exfalso; grind)
  | omega
  | ((repeat' apply And.intro) <;> first | assumption | exact rzb (by omega) | exact szb (by omega) | exact Int.mul_ne_zero (den_ne _) (den_ne _))
  | skip⟩

instance p_mul (a b : Rat) : DenI Tryz.prog 52 [R a, R b] (rz a ≤ 4000000 ∧ rz b ≤ 4000000) (R (a * b)) := ⟨fun hp => by
 have i_a : RzB a 4000000 := ⟨hp.1⟩
 have i_b : RzB b 4000000 := ⟨hp.2⟩
 all_goals refine den_of (τ := tab) tab_ok mixed_ Tryz.func52 rfl (by kernel_rfl) (by kernel_rfl) (by kernel_rfl) ?_
 all_goals (repeat' ((try (conv => whnf)); first
  | refine call_0 ?_
  | refine call_i ?_ ?_
  | refine call_c ?_ (fun _ => ?_) (fun _ => ?_)
  | (with_reducible refine onB_t ?_)
  | (with_reducible refine onB_f ?_)
  | (with_reducible refine onB_d (fun _ => ?_) (fun _ => ?_))
  | (with_reducible refine onB_n (fun _ => ?_) (fun _ => ?_))
  | refine OnB.mk (fun _ => ?_) (fun _ => ?_)
  | refine obl_i ?_ ?_
  | refine Drw.mk (by kernel_rfl) ?_
  | refine mks_i ?_ ?_
  | refine slp_i ?_ ?_
  | (with_reducible refine elem_u ?_ ?_)
  | (with_reducible refine elem_0 ?_)
  | (with_reducible refine elem_1 ?_)
  | refine Ends.mk ?_))
 all_goals (try refine Pr.mk ?_)
 all_goals (try simp only [sgnI_lt0, sgnI_zero, sgnI_le0, sgnI_gt0, sgnI_ge0, sgnI_eq1, cmpI_lt0, cmpI_gt0, cmpI_eq0, cmpI_le0, cmpI_ge0, cmpR_of, sgnR_of, sgnR_lt0, sgnR_eq0, sgnR_gt0, sgnR_le0, sgnR_ge0, sgnR_eq1, cmpR_lt0, cmpR_gt0, cmpR_eq0, cmpR_le0, cmpR_ge0] at *)
 all_goals first
  | rfl
  | (simp only [redB, redC, mkA, mkB, mkC, cooC, ptC, *, true_or, or_true, if_true, if_false, or_self, and_self, and_true, true_and, and_false, false_and, not_true, not_false_iff, Bool.false_eq_true, decide_true, decide_false, Bool.or_true, Bool.true_or, Bool.or_false, Bool.false_or]; rfl)
  | ((repeat' apply And.intro) <;> first | assumption | exact rzb (by omega) | exact szb (by omega) | exact Int.mul_ne_zero (den_ne _) (den_ne _))
  | (exfalso; simp_all; done)
  | (exfalso; grind)
  | omega
  | ((repeat' apply And.intro) <;> first | assumption | exact rzb (by omega) | exact szb (by omega) | exact Int.mul_ne_zero (den_ne _) (den_ne _))
  | skip⟩

instance p_over (a b : Rat) : DenI Tryz.prog 67 [R a, R b] (rz a ≤ 4000000 ∧ rz b ≤ 4000000) (R (a / b)) := ⟨fun hp => by
 have i_a : RzB a 4000000 := ⟨hp.1⟩
 have i_b : RzB b 4000000 := ⟨hp.2⟩
 all_goals refine den_of (τ := tab) tab_ok mixed_ Tryz.func67 rfl (by kernel_rfl) (by kernel_rfl) (by kernel_rfl) ?_
 all_goals (repeat' ((try (conv => whnf)); first
  | refine call_0 ?_
  | refine call_i ?_ ?_
  | refine call_c ?_ (fun _ => ?_) (fun _ => ?_)
  | (with_reducible refine onB_t ?_)
  | (with_reducible refine onB_f ?_)
  | (with_reducible refine onB_d (fun _ => ?_) (fun _ => ?_))
  | (with_reducible refine onB_n (fun _ => ?_) (fun _ => ?_))
  | refine OnB.mk (fun _ => ?_) (fun _ => ?_)
  | refine obl_i ?_ ?_
  | refine Drw.mk (by kernel_rfl) ?_
  | refine mks_i ?_ ?_
  | refine slp_i ?_ ?_
  | (with_reducible refine elem_u ?_ ?_)
  | (with_reducible refine elem_0 ?_)
  | (with_reducible refine elem_1 ?_)
  | refine Ends.mk ?_))
 all_goals (try refine Pr.mk ?_)
 all_goals (try simp only [sgnI_lt0, sgnI_zero, sgnI_le0, sgnI_gt0, sgnI_ge0, sgnI_eq1, cmpI_lt0, cmpI_gt0, cmpI_eq0, cmpI_le0, cmpI_ge0, cmpR_of, sgnR_of, sgnR_lt0, sgnR_eq0, sgnR_gt0, sgnR_le0, sgnR_ge0, sgnR_eq1, cmpR_lt0, cmpR_gt0, cmpR_eq0, cmpR_le0, cmpR_ge0] at *)
 all_goals first
  | rfl
  | (subst b; exact congrArg R (div_0 a))
  | omega
  | (exfalso; omega)
  | (exfalso; simp at *; done)
  | ((repeat' apply And.intro) <;> first | assumption | exact rzb (by omega) | exact szb (by omega) | exact Int.mul_ne_zero (den_ne _) (den_ne _))
  | skip⟩

instance p_zero (a : Rat) : DenI Tryz.prog 50 [R a] (rz a ≤ 4000000) (.bool (decide (a = 0))) := ⟨fun hp => by
 have i_a : RzB a 4000000 := ⟨hp⟩
 all_goals refine den_of (τ := tab) tab_ok mixed_ Tryz.func50 rfl (by kernel_rfl) (by kernel_rfl) (by kernel_rfl) ?_
 all_goals (repeat' ((try (conv => whnf)); first
  | refine call_0 ?_
  | refine call_i ?_ ?_
  | refine call_c ?_ (fun _ => ?_) (fun _ => ?_)
  | (with_reducible refine onB_t ?_)
  | (with_reducible refine onB_f ?_)
  | (with_reducible refine onB_d (fun _ => ?_) (fun _ => ?_))
  | (with_reducible refine onB_n (fun _ => ?_) (fun _ => ?_))
  | refine OnB.mk (fun _ => ?_) (fun _ => ?_)
  | refine obl_i ?_ ?_
  | refine Drw.mk (by kernel_rfl) ?_
  | refine mks_i ?_ ?_
  | refine slp_i ?_ ?_
  | (with_reducible refine elem_u ?_ ?_)
  | (with_reducible refine elem_0 ?_)
  | (with_reducible refine elem_1 ?_)
  | refine Ends.mk ?_))
 all_goals (try refine Pr.mk ?_)
 all_goals (try simp only [sgnI_lt0, sgnI_zero, sgnI_le0, sgnI_gt0, sgnI_ge0, sgnI_eq1, cmpI_lt0, cmpI_gt0, cmpI_eq0, cmpI_le0, cmpI_ge0, cmpR_of, sgnR_of, sgnR_lt0, sgnR_eq0, sgnR_gt0, sgnR_le0, sgnR_ge0, sgnR_eq1, cmpR_lt0, cmpR_gt0, cmpR_eq0, cmpR_le0, cmpR_ge0] at *)
 all_goals first
  | rfl
  | (simp only [redB, redC, mkA, mkB, mkC, cooC, ptC, *, true_or, or_true, if_true, if_false, or_self, and_self, and_true, true_and, and_false, false_and, not_true, not_false_iff, Bool.false_eq_true, decide_true, decide_false, Bool.or_true, Bool.true_or, Bool.or_false, Bool.false_or]; rfl)
  | ((repeat' apply And.intro) <;> first | assumption | exact rzb (by omega) | exact szb (by omega) | exact Int.mul_ne_zero (den_ne _) (den_ne _))
  | (exfalso; simp_all; done)
  | (exfalso; grind)
  | omega
  | ((repeat' apply And.intro) <;> first | assumption | exact rzb (by omega) | exact szb (by omega) | exact Int.mul_ne_zero (den_ne _) (den_ne _))
  | skip⟩

instance p_eq (a b : Rat) : DenI Tryz.prog 80 [R a, R b] (rz a ≤ 4000000 ∧ rz b ≤ 4000000) (.bool (decide (a = b))) := ⟨fun hp => by
 have i_a : RzB a 4000000 := ⟨hp.1⟩
 have i_b : RzB b 4000000 := ⟨hp.2⟩
 all_goals refine den_of (τ := tab) tab_ok mixed_ Tryz.func80 rfl (by kernel_rfl) (by kernel_rfl) (by kernel_rfl) ?_
 all_goals (repeat' ((try (conv => whnf)); first
  | refine call_0 ?_
  | refine call_i ?_ ?_
  | refine call_c ?_ (fun _ => ?_) (fun _ => ?_)
  | (with_reducible refine onB_t ?_)
  | (with_reducible refine onB_f ?_)
  | (with_reducible refine onB_d (fun _ => ?_) (fun _ => ?_))
  | (with_reducible refine onB_n (fun _ => ?_) (fun _ => ?_))
  | refine OnB.mk (fun _ => ?_) (fun _ => ?_)
  | refine obl_i ?_ ?_
  | refine Drw.mk (by kernel_rfl) ?_
  | refine mks_i ?_ ?_
  | refine slp_i ?_ ?_
  | (with_reducible refine elem_u ?_ ?_)
  | (with_reducible refine elem_0 ?_)
  | (with_reducible refine elem_1 ?_)
  | refine Ends.mk ?_))
 all_goals (try refine Pr.mk ?_)
 all_goals (try simp only [sgnI_lt0, sgnI_zero, sgnI_le0, sgnI_gt0, sgnI_ge0, sgnI_eq1, cmpI_lt0, cmpI_gt0, cmpI_eq0, cmpI_le0, cmpI_ge0, cmpR_of, sgnR_of, sgnR_lt0, sgnR_eq0, sgnR_gt0, sgnR_le0, sgnR_ge0, sgnR_eq1, cmpR_lt0, cmpR_gt0, cmpR_eq0, cmpR_le0, cmpR_ge0] at *)
 all_goals first
  | rfl
  | (simp only [redB, redC, mkA, mkB, mkC, cooC, ptC, *, true_or, or_true, if_true, if_false, or_self, and_self, and_true, true_and, and_false, false_and, not_true, not_false_iff, Bool.false_eq_true, decide_true, decide_false, Bool.or_true, Bool.true_or, Bool.or_false, Bool.false_or]; rfl)
  | ((repeat' apply And.intro) <;> first | assumption | exact rzb (by omega) | exact szb (by omega) | exact Int.mul_ne_zero (den_ne _) (den_ne _))
  | (exfalso; simp_all; done)
  | (exfalso; grind)
  | omega
  | ((repeat' apply And.intro) <;> first | assumption | exact rzb (by omega) | exact szb (by omega) | exact Int.mul_ne_zero (den_ne _) (den_ne _))
  | skip⟩

instance p_thr (a b c d : Rat) : DenC Tryz.prog 13 [Q2 a b, Q2 c d] (rz a ≤ 1000 ∧ rz b ≤ 1000 ∧ rz c ≤ 1000 ∧ rz d ≤ 1000) ((b - d) = 0 ∧ (c - a) = 0) (.tup [ZQ3, .int .i64 6]) (.tup [Q3 (b - d) (c - a) ((b - d) * a + (c - a) * b), .int .i64 0]) := ⟨denC fun hp q e1 e2 => by
 have i_a : RzB a 1000 := ⟨hp.1⟩
 have i_b : RzB b 1000 := ⟨hp.2.1⟩
 have i_c : RzB c 1000 := ⟨hp.2.2.1⟩
 have i_d : RzB d 1000 := ⟨hp.2.2.2⟩
 all_goals refine den_of (τ := tab) tab_ok mixed_ Tryz.func13 rfl (by kernel_rfl) (by kernel_rfl) (by kernel_rfl) ?_
 all_goals (repeat' ((try (conv => whnf)); first
  | refine call_0 ?_
  | refine call_i ?_ ?_
  | refine call_c ?_ (fun _ => ?_) (fun _ => ?_)
  | (with_reducible refine onB_t ?_)
  | (with_reducible refine onB_f ?_)
  | (with_reducible refine onB_d (fun _ => ?_) (fun _ => ?_))
  | (with_reducible refine onB_n (fun _ => ?_) (fun _ => ?_))
  | refine OnB.mk (fun _ => ?_) (fun _ => ?_)
  | refine obl_i ?_ ?_
  | refine Drw.mk (by kernel_rfl) ?_
  | refine mks_i ?_ ?_
  | refine slp_i ?_ ?_
  | (with_reducible refine elem_u ?_ ?_)
  | (with_reducible refine elem_0 ?_)
  | (with_reducible refine elem_1 ?_)
  | refine Ends.mk ?_))
 all_goals (try refine Pr.mk ?_)
 all_goals (try simp only [sgnI_lt0, sgnI_zero, sgnI_le0, sgnI_gt0, sgnI_ge0, sgnI_eq1, cmpI_lt0, cmpI_gt0, cmpI_eq0, cmpI_le0, cmpI_ge0, cmpR_of, sgnR_of, sgnR_lt0, sgnR_eq0, sgnR_gt0, sgnR_le0, sgnR_ge0, sgnR_eq1, cmpR_lt0, cmpR_gt0, cmpR_eq0, cmpR_le0, cmpR_ge0] at *)
 all_goals first
  | (rw [e1 ⟨by assumption, by assumption⟩]; rfl)
  | (rw [e2 (fun h => absurd h.1 (by assumption))]; rfl)
  | (rw [e2 (fun h => absurd h.2 (by assumption))]; rfl)
  | ((repeat' apply And.intro) <;> first | assumption | exact rzb (by omega) | exact szb (by omega) | exact Int.mul_ne_zero (den_ne _) (den_ne _))
  | skip⟩

instance p_sl (a b c d e f : Rat) : DenI Tryz.prog 40 [Q3 a b c, Q3 d e f] (rz a ≤ 100000 ∧ rz b ≤ 100000 ∧ rz c ≤ 100000 ∧ rz d ≤ 100000 ∧ rz e ≤ 100000 ∧ rz f ≤ 100000) (.bool ((decide (a * e = d * b) && (decide (a * f = d * c) && decide (b * f = e * c))))) := ⟨fun hp => by
 have i_a : RzB a 100000 := ⟨hp.1⟩
 have i_b : RzB b 100000 := ⟨hp.2.1⟩
 have i_c : RzB c 100000 := ⟨hp.2.2.1⟩
 have i_d : RzB d 100000 := ⟨hp.2.2.2.1⟩
 have i_e : RzB e 100000 := ⟨hp.2.2.2.2.1⟩
 have i_f : RzB f 100000 := ⟨hp.2.2.2.2.2⟩
 all_goals refine den_of (τ := tab) tab_ok mixed_ Tryz.func40 rfl (by kernel_rfl) (by kernel_rfl) (by kernel_rfl) ?_
 all_goals (repeat' ((try (conv => whnf)); first
  | refine call_0 ?_
  | refine call_i ?_ ?_
  | refine call_c ?_ (fun _ => ?_) (fun _ => ?_)
  | (with_reducible refine onB_t ?_)
  | (with_reducible refine onB_f ?_)
  | (with_reducible refine onB_d (fun _ => ?_) (fun _ => ?_))
  | (with_reducible refine onB_n (fun _ => ?_) (fun _ => ?_))
  | refine OnB.mk (fun _ => ?_) (fun _ => ?_)
  | refine obl_i ?_ ?_
  | refine Drw.mk (by kernel_rfl) ?_
  | refine mks_i ?_ ?_
  | refine slp_i ?_ ?_
  | (with_reducible refine elem_u ?_ ?_)
  | (with_reducible refine elem_0 ?_)
  | (with_reducible refine elem_1 ?_)
  | refine Ends.mk ?_))
 all_goals (try refine Pr.mk ?_)
 all_goals (try simp only [sgnI_lt0, sgnI_zero, sgnI_le0, sgnI_gt0, sgnI_ge0, sgnI_eq1, cmpI_lt0, cmpI_gt0, cmpI_eq0, cmpI_le0, cmpI_ge0, cmpR_of, sgnR_of, sgnR_lt0, sgnR_eq0, sgnR_gt0, sgnR_le0, sgnR_ge0, sgnR_eq1, cmpR_lt0, cmpR_gt0, cmpR_eq0, cmpR_le0, cmpR_ge0] at *)
 all_goals first
  | rfl
  | (simp only [redB, redC, mkA, mkB, mkC, cooC, ptC, *, true_or, or_true, if_true, if_false, or_self, and_self, and_true, true_and, and_false, false_and, not_true, not_false_iff, Bool.false_eq_true, decide_true, decide_false, Bool.or_true, Bool.true_or, Bool.or_false, Bool.false_or]; rfl)
  | ((repeat' apply And.intro) <;> first | assumption | exact rzb (by omega) | exact szb (by omega) | exact Int.mul_ne_zero (den_ne _) (den_ne _))
  | (exfalso; simp_all; done)
  | (exfalso; grind)
  | omega
  | ((repeat' apply And.intro) <;> first | assumption | exact rzb (by omega) | exact szb (by omega) | exact Int.mul_ne_zero (den_ne _) (den_ne _))
  | skip⟩

instance p_sc (a b c d e f : Rat) : DenI Tryz.prog 46 [Q3 a b c, Q3 d e f] (rz a ≤ 100000 ∧ rz b ≤ 100000 ∧ rz c ≤ 100000 ∧ rz d ≤ 100000 ∧ rz e ≤ 100000 ∧ rz f ≤ 100000) (.bool ((decide (a = d) && (decide (b = e) && decide (c = f))))) := ⟨fun hp => by
 have i_a : RzB a 100000 := ⟨hp.1⟩
 have i_b : RzB b 100000 := ⟨hp.2.1⟩
 have i_c : RzB c 100000 := ⟨hp.2.2.1⟩
 have i_d : RzB d 100000 := ⟨hp.2.2.2.1⟩
 have i_e : RzB e 100000 := ⟨hp.2.2.2.2.1⟩
 have i_f : RzB f 100000 := ⟨hp.2.2.2.2.2⟩
 all_goals refine den_of (τ := tab) tab_ok mixed_ Tryz.func46 rfl (by kernel_rfl) (by kernel_rfl) (by kernel_rfl) ?_
 all_goals (repeat' ((try (conv => whnf)); first
  | refine call_0 ?_
  | refine call_i ?_ ?_
  | refine call_c ?_ (fun _ => ?_) (fun _ => ?_)
  | (with_reducible refine onB_t ?_)
  | (with_reducible refine onB_f ?_)
  | (with_reducible refine onB_d (fun _ => ?_) (fun _ => ?_))
  | (with_reducible refine onB_n (fun _ => ?_) (fun _ => ?_))
  | refine OnB.mk (fun _ => ?_) (fun _ => ?_)
  | refine obl_i ?_ ?_
  | refine Drw.mk (by kernel_rfl) ?_
  | refine mks_i ?_ ?_
  | refine slp_i ?_ ?_
  | (with_reducible refine elem_u ?_ ?_)
  | (with_reducible refine elem_0 ?_)
  | (with_reducible refine elem_1 ?_)
  | refine Ends.mk ?_))
 all_goals (try refine Pr.mk ?_)
 all_goals (try simp only [sgnI_lt0, sgnI_zero, sgnI_le0, sgnI_gt0, sgnI_ge0, sgnI_eq1, cmpI_lt0, cmpI_gt0, cmpI_eq0, cmpI_le0, cmpI_ge0, cmpR_of, sgnR_of, sgnR_lt0, sgnR_eq0, sgnR_gt0, sgnR_le0, sgnR_ge0, sgnR_eq1, cmpR_lt0, cmpR_gt0, cmpR_eq0, cmpR_le0, cmpR_ge0] at *)
 all_goals first
  | rfl
  | (simp only [redB, redC, mkA, mkB, mkC, cooC, ptC, *, true_or, or_true, if_true, if_false, or_self, and_self, and_true, true_and, and_false, false_and, not_true, not_false_iff, Bool.false_eq_true, decide_true, decide_false, Bool.or_true, Bool.true_or, Bool.or_false, Bool.false_or]; rfl)
  | ((repeat' apply And.intro) <;> first | assumption | exact rzb (by omega) | exact szb (by omega) | exact Int.mul_ne_zero (den_ne _) (den_ne _))
  | (exfalso; simp_all; done)
  | (exfalso; grind)
  | omega
  | ((repeat' apply And.intro) <;> first | assumption | exact rzb (by omega) | exact szb (by omega) | exact Int.mul_ne_zero (den_ne _) (den_ne _))
  | skip⟩

instance p_sign (a b c : Rat) : DenI Tryz.prog 59 [R a, R b, R c] (rz a ≤ 100000 ∧ rz b ≤ 100000 ∧ rz c ≤ 100000) (.int .i64 (exI a b c)) := ⟨fun hp => by
 have i_a : RzB a 100000 := ⟨hp.1⟩
 have i_b : RzB b 100000 := ⟨hp.2.1⟩
 have i_c : RzB c 100000 := ⟨hp.2.2⟩
 all_goals refine den_of (τ := tab) tab_ok mixed_ Tryz.func59 rfl (by kernel_rfl) (by kernel_rfl) (by kernel_rfl) ?_
 all_goals (repeat' ((try (conv => whnf)); first
  | refine call_0 ?_
  | refine call_i ?_ ?_
  | refine call_c ?_ (fun _ => ?_) (fun _ => ?_)
  | (with_reducible refine onB_t ?_)
  | (with_reducible refine onB_f ?_)
  | (with_reducible refine onB_d (fun _ => ?_) (fun _ => ?_))
  | (with_reducible refine onB_n (fun _ => ?_) (fun _ => ?_))
  | refine OnB.mk (fun _ => ?_) (fun _ => ?_)
  | refine obl_i ?_ ?_
  | refine Drw.mk (by kernel_rfl) ?_
  | refine mks_i ?_ ?_
  | refine slp_i ?_ ?_
  | (with_reducible refine elem_u ?_ ?_)
  | (with_reducible refine elem_0 ?_)
  | (with_reducible refine elem_1 ?_)
  | refine Ends.mk ?_))
 all_goals (try refine Pr.mk ?_)
 all_goals (try simp only [sgnI_lt0, sgnI_zero, sgnI_le0, sgnI_gt0, sgnI_ge0, sgnI_eq1, cmpI_lt0, cmpI_gt0, cmpI_eq0, cmpI_le0, cmpI_ge0, cmpR_of, sgnR_of, sgnR_lt0, sgnR_eq0, sgnR_gt0, sgnR_le0, sgnR_ge0, sgnR_eq1, cmpR_lt0, cmpR_gt0, cmpR_eq0, cmpR_le0, cmpR_ge0] at *)
 all_goals (try simp only [w_ss, w_sc] at *)
 all_goals first
  | with_reducible exact sg_1 (by assumption)
  | with_reducible exact sg_2 (by assumption)
  | with_reducible exact sg_3 (by assumption) (by assumption) (by assumption)
  | with_reducible exact sg_4 (by assumption) (by assumption) (by assumption)
  | (rw [w_sc]; exact sg_4 (by assumption) (by assumption) (by assumption))
  | ((repeat' apply And.intro) <;> first | assumption | exact rzb (by omega) | exact szb (by omega) | exact Int.mul_ne_zero (den_ne _) (den_ne _))
  | skip⟩

instance p_dist (a b c f : Rat) : DenI Tryz.prog 98 [R a, R b, R c, R f] (rz a ≤ 20000 ∧ rz b ≤ 20000 ∧ rz c ≤ 20000 ∧ rz f ≤ 20000) (Ov (distI a b c f)) := ⟨fun hp => by
 have i_a : RzB a 20000 := ⟨hp.1⟩
 have i_b : RzB b 20000 := ⟨hp.2.1⟩
 have i_c : RzB c 20000 := ⟨hp.2.2.1⟩
 have i_f : RzB f 20000 := ⟨hp.2.2.2⟩
 all_goals refine den_of (τ := tab) tab_ok mixed_ Tryz.func98 rfl (by kernel_rfl) (by kernel_rfl) (by kernel_rfl) ?_
 all_goals (repeat' ((try (conv => whnf)); first
  | refine call_0 ?_
  | refine call_i ?_ ?_
  | refine call_c ?_ (fun _ => ?_) (fun _ => ?_)
  | (with_reducible refine onB_t ?_)
  | (with_reducible refine onB_f ?_)
  | (with_reducible refine onB_d (fun _ => ?_) (fun _ => ?_))
  | (with_reducible refine onB_n (fun _ => ?_) (fun _ => ?_))
  | refine OnB.mk (fun _ => ?_) (fun _ => ?_)
  | refine obl_i ?_ ?_
  | refine Drw.mk (by kernel_rfl) ?_
  | refine mks_i ?_ ?_
  | refine slp_i ?_ ?_
  | (with_reducible refine elem_u ?_ ?_)
  | (with_reducible refine elem_0 ?_)
  | (with_reducible refine elem_1 ?_)
  | refine Ends.mk ?_))
 all_goals (try refine Pr.mk ?_)
 all_goals (try simp only [sgnI_lt0, sgnI_zero, sgnI_le0, sgnI_gt0, sgnI_ge0, sgnI_eq1, cmpI_lt0, cmpI_gt0, cmpI_eq0, cmpI_le0, cmpI_ge0, cmpR_of, sgnR_of, sgnR_lt0, sgnR_eq0, sgnR_gt0, sgnR_le0, sgnR_ge0, sgnR_eq1, cmpR_lt0, cmpR_gt0, cmpR_eq0, cmpR_le0, cmpR_ge0] at *)
 all_goals (try simp only [Prod.eta] at *)
 all_goals first
  | omega
  | (have z1 := ivB_root a b c; have z2 := ivB_from f; unfold ivB at *; omega)
  | (refine ovN1 (dist_n1 ?_); first | exact .inl (by assumption) | exact .inr (by assumption))
  | (refine Eq.trans ?_ (congrArg Ov (dist_s (by assumption) (by assumption))); rfl)
  | ((repeat' apply And.intro) <;> first | assumption | exact rzb (by omega) | exact szb (by omega) | exact Int.mul_ne_zero (den_ne _) (den_ne _))
  | skip⟩

instance p_quick (X Y Q ax bx ay bb c : Rat) : DenI Tryz.prog 65 [Q3 X Y Q, Q5 ax bx ay bb c] (rz X ≤ 20000 ∧ rz Y ≤ 20000 ∧ rz Q ≤ 20000 ∧ rz ax ≤ 20000 ∧ rz bx ≤ 20000 ∧ rz ay ≤ 20000 ∧ rz bb ≤ 20000 ∧ rz c ≤ 20000) (.tup [.int .i64 (quickI ax bx ay bb c X Y Q).1, .bool (quickI ax bx ay bb c X Y Q).2]) := ⟨fun hp => by
 have i_X : RzB X 20000 := ⟨hp.1⟩
 have i_Y : RzB Y 20000 := ⟨hp.2.1⟩
 have i_Q : RzB Q 20000 := ⟨hp.2.2.1⟩
 have i_ax : RzB ax 20000 := ⟨hp.2.2.2.1⟩
 have i_bx : RzB bx 20000 := ⟨hp.2.2.2.2.1⟩
 have i_ay : RzB ay 20000 := ⟨hp.2.2.2.2.2.1⟩
 have i_bb : RzB bb 20000 := ⟨hp.2.2.2.2.2.2.1⟩
 have i_c : RzB c 20000 := ⟨hp.2.2.2.2.2.2.2⟩
 all_goals refine den_of (τ := tab) tab_ok mixed_ Tryz.func65 rfl (by kernel_rfl) (by kernel_rfl) (by kernel_rfl) ?_
 all_goals (repeat' ((try (conv => whnf)); first
  | refine call_0 ?_
  | refine call_i ?_ ?_
  | refine call_c ?_ (fun _ => ?_) (fun _ => ?_)
  | (with_reducible refine onB_t ?_)
  | (with_reducible refine onB_f ?_)
  | (with_reducible refine onB_d (fun _ => ?_) (fun _ => ?_))
  | (with_reducible refine onB_n (fun _ => ?_) (fun _ => ?_))
  | refine OnB.mk (fun _ => ?_) (fun _ => ?_)
  | refine obl_i ?_ ?_
  | refine Drw.mk (by kernel_rfl) ?_
  | refine mks_i ?_ ?_
  | refine slp_i ?_ ?_
  | (with_reducible refine elem_u ?_ ?_)
  | (with_reducible refine elem_0 ?_)
  | (with_reducible refine elem_1 ?_)
  | refine Ends.mk ?_))
 all_goals (try refine Pr.mk ?_)
 all_goals (try simp only [sgnI_lt0, sgnI_zero, sgnI_le0, sgnI_gt0, sgnI_ge0, sgnI_eq1, cmpI_lt0, cmpI_gt0, cmpI_eq0, cmpI_le0, cmpI_ge0, cmpR_of, sgnR_of, sgnR_lt0, sgnR_eq0, sgnR_gt0, sgnR_le0, sgnR_ge0, sgnR_eq1, cmpR_lt0, cmpR_gt0, cmpR_eq0, cmpR_le0, cmpR_ge0] at *)
 all_goals (try simp only [Prod.eta] at *)
 all_goals first
  | omega
  | (have z1 := ivB_dist ax bx c X; have z2 := ivB_dist ay bb c Y; have z3 := ivB_from Q; unfold ivB at *; omega)
  | (have z1 := ivB_mul ((distI ax bx c X).getD (0, 0)) ((distI ax bx c X).getD (0, 0)); have z2 := ivB_mul ((distI ay bb c Y).getD (0, 0)) ((distI ay bb c Y).getD (0, 0)); have z3 := ivB_from Q; have z4 := ivB_add z1 z2; unfold ivB at *; omega)
  | (refine qk_0 (qk_1 ?_); first | exact .inl (by assumption) | exact .inr (.inl (by assumption)) | exact .inr (.inr (by assumption)))
  | (rw [qk_eq (ax := ax) (bx := bx) (ay := ay) (bb := bb) (c := c) (X := X) (Y := Y) (Q := Q) (by assumption) (by assumption) (by assumption) rfl rfl rfl]; generalize (distI ax bx c X).getD (0, 0) = u at *; generalize (distI ay bb c Y).getD (0, 0) = v at *; generalize (fromR Q).getD (0, 0) = w at *; rcases k1 : mulI u u with _ | s <;> rcases k2 : mulI v v with _ | t <;> first | rfl | (exfalso; simp_all; done) | (simp only [k1, k2, Option.getD_some, Option.isSome_some] at *; rcases k3 : addI s t with _ | m <;> first | rfl | (exfalso; simp_all; done) | (simp only [k3, Option.getD_some, Option.isSome_some] at *; rcases k4 : addI m (-w.2, -w.1) with _ | r <;> first | rfl | (exfalso; simp_all; done))))
  | ((repeat' apply And.intro) <;> first | assumption | exact rzb (by omega) | exact szb (by omega) | exact Int.mul_ne_zero (den_ne _) (den_ne _))
  | skip⟩

instance p_side (la lb lc ax bx ay bb c : Rat) : DenI Tryz.prog 16 [Q3 la lb lc, Q5 ax bx ay bb c] (rz la ≤ 5000 ∧ rz lb ≤ 5000 ∧ rz lc ≤ 5000 ∧ rz ax ≤ 5000 ∧ rz bx ≤ 5000 ∧ rz ay ≤ 5000 ∧ rz bb ≤ 5000 ∧ rz c ≤ 5000) (.int .i64 (exI (la * ax + lb * ay - lc) (la * bx + lb * bb) c)) := ⟨fun hp => by
 have i_la : RzB la 5000 := ⟨hp.1⟩
 have i_lb : RzB lb 5000 := ⟨hp.2.1⟩
 have i_lc : RzB lc 5000 := ⟨hp.2.2.1⟩
 have i_ax : RzB ax 5000 := ⟨hp.2.2.2.1⟩
 have i_bx : RzB bx 5000 := ⟨hp.2.2.2.2.1⟩
 have i_ay : RzB ay 5000 := ⟨hp.2.2.2.2.2.1⟩
 have i_bb : RzB bb 5000 := ⟨hp.2.2.2.2.2.2.1⟩
 have i_c : RzB c 5000 := ⟨hp.2.2.2.2.2.2.2⟩
 all_goals refine den_of (τ := tab) tab_ok mixed_ Tryz.func16 rfl (by kernel_rfl) (by kernel_rfl) (by kernel_rfl) ?_
 all_goals (repeat' ((try (conv => whnf)); first
  | refine call_0 ?_
  | refine call_i ?_ ?_
  | refine call_c ?_ (fun _ => ?_) (fun _ => ?_)
  | (with_reducible refine onB_t ?_)
  | (with_reducible refine onB_f ?_)
  | (with_reducible refine onB_d (fun _ => ?_) (fun _ => ?_))
  | (with_reducible refine onB_n (fun _ => ?_) (fun _ => ?_))
  | refine OnB.mk (fun _ => ?_) (fun _ => ?_)
  | refine obl_i ?_ ?_
  | refine Drw.mk (by kernel_rfl) ?_
  | refine mks_i ?_ ?_
  | refine slp_i ?_ ?_
  | (with_reducible refine elem_u ?_ ?_)
  | (with_reducible refine elem_0 ?_)
  | (with_reducible refine elem_1 ?_)
  | refine Ends.mk ?_))
 all_goals (try refine Pr.mk ?_)
 all_goals (try simp only [sgnI_lt0, sgnI_zero, sgnI_le0, sgnI_gt0, sgnI_ge0, sgnI_eq1, cmpI_lt0, cmpI_gt0, cmpI_eq0, cmpI_le0, cmpI_ge0, cmpR_of, sgnR_of, sgnR_lt0, sgnR_eq0, sgnR_gt0, sgnR_le0, sgnR_ge0, sgnR_eq1, cmpR_lt0, cmpR_gt0, cmpR_eq0, cmpR_le0, cmpR_ge0] at *)
 all_goals first
  | rfl
  | (refine iE (side_n ?_); simp_all; done)
  | ((repeat' apply And.intro) <;> first | assumption | exact rzb (by omega) | exact szb (by omega) | exact Int.mul_ne_zero (den_ne _) (den_ne _))
  | skip⟩

instance p_in (X Y Q ax bx ay bb c : Rat) : DenI Tryz.prog 21 [Q3 X Y Q, Q5 ax bx ay bb c] (rz X ≤ 400 ∧ rz Y ≤ 400 ∧ rz Q ≤ 400 ∧ rz ax ≤ 400 ∧ rz bx ≤ 400 ∧ rz ay ≤ 400 ∧ rz bb ≤ 400 ∧ rz c ≤ 400) (.int .i64 (-(exI ((ax - X) * (ax - X) + (ay - Y) * (ay - Y) + c * (bx * bx + bb * bb) - Q) ((ax - X) * bx + (ay - Y) * bb + ((ax - X) * bx + (ay - Y) * bb)) c))) := ⟨fun hp => by
 have i_X : RzB X 400 := ⟨hp.1⟩
 have i_Y : RzB Y 400 := ⟨hp.2.1⟩
 have i_Q : RzB Q 400 := ⟨hp.2.2.1⟩
 have i_ax : RzB ax 400 := ⟨hp.2.2.2.1⟩
 have i_bx : RzB bx 400 := ⟨hp.2.2.2.2.1⟩
 have i_ay : RzB ay 400 := ⟨hp.2.2.2.2.2.1⟩
 have i_bb : RzB bb 400 := ⟨hp.2.2.2.2.2.2.1⟩
 have i_c : RzB c 400 := ⟨hp.2.2.2.2.2.2.2⟩
 all_goals refine den_of (τ := tab) tab_ok mixed_ Tryz.func21 rfl (by kernel_rfl) (by kernel_rfl) (by kernel_rfl) ?_
 all_goals (repeat' ((try (conv => whnf)); first
  | refine call_0 ?_
  | refine call_i ?_ ?_
  | refine call_c ?_ (fun _ => ?_) (fun _ => ?_)
  | (with_reducible refine onB_t ?_)
  | (with_reducible refine onB_f ?_)
  | (with_reducible refine onB_d (fun _ => ?_) (fun _ => ?_))
  | (with_reducible refine onB_n (fun _ => ?_) (fun _ => ?_))
  | refine OnB.mk (fun _ => ?_) (fun _ => ?_)
  | refine obl_i ?_ ?_
  | refine Drw.mk (by kernel_rfl) ?_
  | refine mks_i ?_ ?_
  | refine slp_i ?_ ?_
  | (with_reducible refine elem_u ?_ ?_)
  | (with_reducible refine elem_0 ?_)
  | (with_reducible refine elem_1 ?_)
  | refine Ends.mk ?_))
 all_goals (try refine Pr.mk ?_)
 all_goals (try simp only [sgnI_lt0, sgnI_zero, sgnI_le0, sgnI_gt0, sgnI_ge0, sgnI_eq1, cmpI_lt0, cmpI_gt0, cmpI_eq0, cmpI_le0, cmpI_ge0, cmpR_of, sgnR_of, sgnR_lt0, sgnR_eq0, sgnR_gt0, sgnR_le0, sgnR_ge0, sgnR_eq1, cmpR_lt0, cmpR_gt0, cmpR_eq0, cmpR_le0, cmpR_ge0] at *)
 all_goals first
  | (exact neg_q (by assumption) (quick_n (by assumption)) (exI_lim _ _ _).1 (exI_lim _ _ _).2)
  | (refine neg_x ?_; rfl)
  | ((repeat' apply And.intro) <;> first | assumption | exact rzb (by omega) | exact szb (by omega) | exact Int.mul_ne_zero (den_ne _) (den_ne _))
  | skip⟩

instance p_foot (la lb lc x y : Rat) : DenI Tryz.prog 24 [Q3 la lb lc, Q2 x y] (rz la ≤ 1000 ∧ rz lb ≤ 1000 ∧ rz lc ≤ 1000 ∧ rz x ≤ 1000 ∧ rz y ≤ 1000) (Q2 (x - (la * x + lb * y - lc) / (la * la + lb * lb) * la) (y - (la * x + lb * y - lc) / (la * la + lb * lb) * lb)) := ⟨fun hp => by
 have i_la : RzB la 1000 := ⟨hp.1⟩
 have i_lb : RzB lb 1000 := ⟨hp.2.1⟩
 have i_lc : RzB lc 1000 := ⟨hp.2.2.1⟩
 have i_x : RzB x 1000 := ⟨hp.2.2.2.1⟩
 have i_y : RzB y 1000 := ⟨hp.2.2.2.2⟩
 all_goals refine den_of (τ := tab) tab_ok mixed_ Tryz.func24 rfl (by kernel_rfl) (by kernel_rfl) (by kernel_rfl) ?_
 all_goals (repeat' ((try (conv => whnf)); first
  | refine call_0 ?_
  | refine call_i ?_ ?_
  | refine call_c ?_ (fun _ => ?_) (fun _ => ?_)
  | (with_reducible refine onB_t ?_)
  | (with_reducible refine onB_f ?_)
  | (with_reducible refine onB_d (fun _ => ?_) (fun _ => ?_))
  | (with_reducible refine onB_n (fun _ => ?_) (fun _ => ?_))
  | refine OnB.mk (fun _ => ?_) (fun _ => ?_)
  | refine obl_i ?_ ?_
  | refine Drw.mk (by kernel_rfl) ?_
  | refine mks_i ?_ ?_
  | refine slp_i ?_ ?_
  | (with_reducible refine elem_u ?_ ?_)
  | (with_reducible refine elem_0 ?_)
  | (with_reducible refine elem_1 ?_)
  | refine Ends.mk ?_))
 all_goals (try refine Pr.mk ?_)
 all_goals (try simp only [sgnI_lt0, sgnI_zero, sgnI_le0, sgnI_gt0, sgnI_ge0, sgnI_eq1, cmpI_lt0, cmpI_gt0, cmpI_eq0, cmpI_le0, cmpI_ge0, cmpR_of, sgnR_of, sgnR_lt0, sgnR_eq0, sgnR_gt0, sgnR_le0, sgnR_ge0, sgnR_eq1, cmpR_lt0, cmpR_gt0, cmpR_eq0, cmpR_le0, cmpR_ge0] at *)
 all_goals first
  | rfl
  | (simp only [redB, redC, mkA, mkB, mkC, cooC, ptC, *, true_or, or_true, if_true, if_false, or_self, and_self, and_true, true_and, and_false, false_and, not_true, not_false_iff, Bool.false_eq_true, decide_true, decide_false, Bool.or_true, Bool.true_or, Bool.or_false, Bool.false_or]; rfl)
  | ((repeat' apply And.intro) <;> first | assumption | exact rzb (by omega) | exact szb (by omega) | exact Int.mul_ne_zero (den_ne _) (den_ne _))
  | (exfalso; simp_all; done)
  | (exfalso; grind)
  | omega
  | ((repeat' apply And.intro) <;> first | assumption | exact rzb (by omega) | exact szb (by omega) | exact Int.mul_ne_zero (den_ne _) (den_ne _))
  | skip⟩

instance p_circ (a b c d e f : Rat) : DenC Tryz.prog 31 [Q2 a b, Q2 c d, Q2 e f] (rz a ≤ 200 ∧ rz b ≤ 200 ∧ rz c ≤ 200 ∧ rz d ≤ 200 ∧ rz e ≤ 200 ∧ rz f ≤ 200) (((c - a) * (f - b) - (d - b) * (e - a)) = 0) (.tup [ZQ3, .int .i64 6]) (.tup [Q3 (a + ((((c - a) * (c - a) + (d - b) * (d - b)) * (f - b) - ((e - a) * (e - a) + (f - b) * (f - b)) * (d - b)) / (((c - a) * (f - b) - (d - b) * (e - a)) + ((c - a) * (f - b) - (d - b) * (e - a))))) (b + ((((e - a) * (e - a) + (f - b) * (f - b)) * (c - a) - ((c - a) * (c - a) + (d - b) * (d - b)) * (e - a)) / (((c - a) * (f - b) - (d - b) * (e - a)) + ((c - a) * (f - b) - (d - b) * (e - a))))) (((((c - a) * (c - a) + (d - b) * (d - b)) * (f - b) - ((e - a) * (e - a) + (f - b) * (f - b)) * (d - b)) / (((c - a) * (f - b) - (d - b) * (e - a)) + ((c - a) * (f - b) - (d - b) * (e - a)))) * ((((c - a) * (c - a) + (d - b) * (d - b)) * (f - b) - ((e - a) * (e - a) + (f - b) * (f - b)) * (d - b)) / (((c - a) * (f - b) - (d - b) * (e - a)) + ((c - a) * (f - b) - (d - b) * (e - a)))) + ((((e - a) * (e - a) + (f - b) * (f - b)) * (c - a) - ((c - a) * (c - a) + (d - b) * (d - b)) * (e - a)) / (((c - a) * (f - b) - (d - b) * (e - a)) + ((c - a) * (f - b) - (d - b) * (e - a)))) * ((((e - a) * (e - a) + (f - b) * (f - b)) * (c - a) - ((c - a) * (c - a) + (d - b) * (d - b)) * (e - a)) / (((c - a) * (f - b) - (d - b) * (e - a)) + ((c - a) * (f - b) - (d - b) * (e - a))))), .int .i64 0]) := ⟨denC fun hp q e1 e2 => by
 have i_a : RzB a 200 := ⟨hp.1⟩
 have i_b : RzB b 200 := ⟨hp.2.1⟩
 have i_c : RzB c 200 := ⟨hp.2.2.1⟩
 have i_d : RzB d 200 := ⟨hp.2.2.2.1⟩
 have i_e : RzB e 200 := ⟨hp.2.2.2.2.1⟩
 have i_f : RzB f 200 := ⟨hp.2.2.2.2.2⟩
 all_goals refine den_of (τ := tab) tab_ok mixed_ Tryz.func31 rfl (by kernel_rfl) (by kernel_rfl) (by kernel_rfl) ?_
 all_goals (repeat' ((try (conv => whnf)); first
  | refine call_0 ?_
  | refine call_i ?_ ?_
  | refine call_c ?_ (fun _ => ?_) (fun _ => ?_)
  | (with_reducible refine onB_t ?_)
  | (with_reducible refine onB_f ?_)
  | (with_reducible refine onB_d (fun _ => ?_) (fun _ => ?_))
  | (with_reducible refine onB_n (fun _ => ?_) (fun _ => ?_))
  | refine OnB.mk (fun _ => ?_) (fun _ => ?_)
  | refine obl_i ?_ ?_
  | refine Drw.mk (by kernel_rfl) ?_
  | refine mks_i ?_ ?_
  | refine slp_i ?_ ?_
  | (with_reducible refine elem_u ?_ ?_)
  | (with_reducible refine elem_0 ?_)
  | (with_reducible refine elem_1 ?_)
  | refine Ends.mk ?_))
 all_goals (try refine Pr.mk ?_)
 all_goals (try simp only [sgnI_lt0, sgnI_zero, sgnI_le0, sgnI_gt0, sgnI_ge0, sgnI_eq1, cmpI_lt0, cmpI_gt0, cmpI_eq0, cmpI_le0, cmpI_ge0, cmpR_of, sgnR_of, sgnR_lt0, sgnR_eq0, sgnR_gt0, sgnR_le0, sgnR_ge0, sgnR_eq1, cmpR_lt0, cmpR_gt0, cmpR_eq0, cmpR_le0, cmpR_ge0] at *)
 all_goals first
  | (rw [e1 (by assumption)]; rfl)
  | (rw [e2 (by assumption)]; rfl)
  | ((repeat' apply And.intro) <;> first | assumption | exact rzb (by omega) | exact szb (by omega) | exact Int.mul_ne_zero (den_ne _) (den_ne _))
  | skip⟩

end Go.Proofs.YtkcoahciohejkaaGreat

namespace Go.Proofs.YtkcoahciohejkaaGreat
open Go Go.RowKit Go.Sw
set_option linter.unusedVariables false
set_option maxRecDepth 100000
set_option maxHeartbeats 8000000
set_option synthInstance.maxSize 4000
set_option synthInstance.maxHeartbeats 400000
instance l_line (a b c : Int) (d : Nat) : DenI Tryz.prog 18 [.agg [.v (.int .i16 a), .v (.int .i16 b), .v (.int .i16 c), .v (.int .u8 (d : Nat))]] (smallI a ∧ smallI b ∧ smallI c ∧ d ≤ 255) (Q3 (lnI a b c d).a (lnI a b c d).b (lnI a b c d).c) := ⟨fun hp => by
 obtain ⟨p1, p2, p3, p4⟩ := hp
 have p5 := Nat.mod_lt d (show 0 < 8 by decide)
 all_goals refine den_of (τ := tab) tab_ok mixed_ Tryz.func18 rfl (by kernel_rfl) (by kernel_rfl) (by kernel_rfl) ?_
 all_goals (repeat' ((try (conv => whnf)); first
  | refine call_0 ?_
  | refine call_i ?_ ?_
  | refine call_c ?_ (fun _ => ?_) (fun _ => ?_)
  | (with_reducible refine onB_t ?_)
  | (with_reducible refine onB_f ?_)
  | (with_reducible refine onB_d (fun _ => ?_) (fun _ => ?_))
  | (with_reducible refine onB_n (fun _ => ?_) (fun _ => ?_))
  | refine OnB.mk (fun _ => ?_) (fun _ => ?_)
  | refine obl_i ?_ ?_
  | refine Drw.mk (by kernel_rfl) ?_
  | refine mks_i ?_ ?_
  | refine slp_i ?_ ?_
  | (with_reducible refine elem_u ?_ ?_)
  | (with_reducible refine elem_0 ?_)
  | (with_reducible refine elem_1 ?_)
  | refine Ends.mk ?_))
 all_goals (try refine Pr.mk ?_)
 all_goals (try simp (disch := (unfold smallI at *; omega)) only [wi64, dm8] at *)
 all_goals first
  | (unfold smallI at *; omega)
  | exact ln_1 (by assumption) (by assumption)
  | exact ln_2 (fun h => absurd h.1 (by assumption))
  | exact ln_2 (fun h => absurd h.2 (by assumption))
  | skip⟩

instance l_circ (x y : Int) (q d : Nat) : DenI Tryz.prog 22 [.agg [.v (.int .i16 x), .v (.int .i16 y), .v (.int .u16 (q : Nat)), .v (.int .u8 (d : Nat))]] (smallI x ∧ smallI y ∧ q ≤ 65535 ∧ d ≤ 255) (Q3 (ciI x y q d).a (ciI x y q d).b (ciI x y q d).c) := ⟨fun hp => by
 obtain ⟨p1, p2, p3, p4⟩ := hp
 have p5 := Nat.mod_lt d (show 0 < 8 by decide)
 all_goals refine den_of (τ := tab) tab_ok mixed_ Tryz.func22 rfl (by kernel_rfl) (by kernel_rfl) (by kernel_rfl) ?_
 all_goals (repeat' ((try (conv => whnf)); first
  | refine call_0 ?_
  | refine call_i ?_ ?_
  | refine call_c ?_ (fun _ => ?_) (fun _ => ?_)
  | (with_reducible refine onB_t ?_)
  | (with_reducible refine onB_f ?_)
  | (with_reducible refine onB_d (fun _ => ?_) (fun _ => ?_))
  | (with_reducible refine onB_n (fun _ => ?_) (fun _ => ?_))
  | refine OnB.mk (fun _ => ?_) (fun _ => ?_)
  | refine obl_i ?_ ?_
  | refine Drw.mk (by kernel_rfl) ?_
  | refine mks_i ?_ ?_
  | refine slp_i ?_ ?_
  | (with_reducible refine elem_u ?_ ?_)
  | (with_reducible refine elem_0 ?_)
  | (with_reducible refine elem_1 ?_)
  | refine Ends.mk ?_))
 all_goals (try refine Pr.mk ?_)
 all_goals (try simp (disch := (unfold smallI at *; omega)) only [wi64, dm8] at *)
 all_goals first
  | rfl
  | (unfold smallI at *; omega)
  | skip⟩

instance l_ln (m n k : Int)  : DenI Tryz.prog 48 [.int .i64 m, .int .i64 n, .int .i64 k] ((-9223372036854775808 ≤ m ∧ m ≤ 9223372036854775807) ∧ (-9223372036854775808 ≤ n ∧ n ≤ 9223372036854775807) ∧ -9223372036854775808 ≤ k ∧ k ≤ 9223372036854775807) (Q3 (m : Rat) (n : Rat) (k : Rat)) := ⟨fun hp => by
 refine den_of (τ := tab) tab_ok mixed_ Tryz.func48 rfl (by kernel_rfl) (by kernel_rfl) (by kernel_rfl) ?_
 all_goals (repeat' ((try (conv => whnf)); first
  | refine call_0 ?_
  | refine call_i ?_ ?_
  | refine call_c ?_ (fun _ => ?_) (fun _ => ?_)
  | (with_reducible refine onB_t ?_)
  | (with_reducible refine onB_f ?_)
  | (with_reducible refine onB_d (fun _ => ?_) (fun _ => ?_))
  | (with_reducible refine onB_n (fun _ => ?_) (fun _ => ?_))
  | refine OnB.mk (fun _ => ?_) (fun _ => ?_)
  | refine obl_i ?_ ?_
  | refine Drw.mk (by kernel_rfl) ?_
  | refine mks_i ?_ ?_
  | refine slp_i ?_ ?_
  | (with_reducible refine elem_u ?_ ?_)
  | (with_reducible refine elem_0 ?_)
  | (with_reducible refine elem_1 ?_)
  | refine Ends.mk ?_))
 all_goals (try refine Pr.mk ?_)
 all_goals (try simp only [sgnI_lt0, sgnI_zero, sgnI_le0, sgnI_gt0, sgnI_ge0, sgnI_eq1, cmpI_lt0, cmpI_gt0, cmpI_eq0, cmpI_le0, cmpI_ge0, cmpR_of, sgnR_of, sgnR_lt0, sgnR_eq0, sgnR_gt0, sgnR_le0, sgnR_ge0, sgnR_eq1, cmpR_lt0, cmpR_gt0, cmpR_eq0, cmpR_le0, cmpR_ge0] at *)
 all_goals first
  | rfl
  | (simp only [redB, redC, mkA, mkB, mkC, cooC, ptC, *, true_or, or_true, if_true, if_false, or_self, and_self, and_true, true_and, and_false, false_and, not_true, not_false_iff, Bool.false_eq_true, decide_true, decide_false, Bool.or_true, Bool.true_or, Bool.or_false, Bool.false_or]; rfl)
  | ((repeat' apply And.intro) <;> first | assumption | exact rzb (by omega) | exact szb (by omega) | exact Int.mul_ne_zero (den_ne _) (den_ne _))
  | (exfalso; simp_all; done)
  | (exfalso; grind)
  | omega
  | ((repeat' apply And.intro) <;> first | assumption | exact rzb (by omega) | exact szb (by omega) | exact Int.mul_ne_zero (den_ne _) (den_ne _))
  | skip⟩

instance l_of_lit : DenI Tryz.prog 19 [.agg [.v (.int .i16 0), .v (.int .i16 1), .v (.int .i16 0), .v (.int .i16 1), .v (.int .u16 2), .v (.int .u8 1)]] True (Q5 (ptI 0 1 0 1 2 1).ax (ptI 0 1 0 1 2 1).bx (ptI 0 1 0 1 2 1).ay (ptI 0 1 0 1 2 1).bb (ptI 0 1 0 1 2 1).c) := ⟨fun _ => (inferInstance : DenI Tryz.prog 19 [.agg [.v (.int .i16 0), .v (.int .i16 1), .v (.int .i16 0), .v (.int .i16 1), .v (.int .u16 ((2 : Nat) : Int)), .v (.int .u8 ((1 : Nat) : Int))]] _ _).den (by unfold smallI; decide)⟩
instance l_awake  : DenI Tryz.prog 11 [] (True) (.bool true) := ⟨fun hp => by
 have hA : ¬(((0 : Int) : Rat) - ((0 : Int) : Rat) = 0 ∧ ((2 : Int) : Rat) - ((0 : Int) : Rat) = 0) := by decide +kernel
 have hB : ¬(((0 : Int) : Rat) - ((1 : Int) : Rat)) * (((0 : Int) : Rat) - ((0 : Int) : Rat)) - (((1 : Int) : Rat) - ((0 : Int) : Rat)) * (((-1 : Int) : Rat) - ((1 : Int) : Rat)) = 0 := by decide +kernel
 all_goals refine den_of (τ := tab) tab_ok mixed_ Tryz.func11 rfl (by kernel_rfl) (by kernel_rfl) (by kernel_rfl) ?_
 all_goals (repeat' ((try (conv => whnf)); first
  | refine call_0 ?_
  | refine call_i ?_ ?_
  | refine call_c ?_ (fun _ => ?_) (fun _ => ?_)
  | (with_reducible refine onB_t ?_)
  | (with_reducible refine onB_f ?_)
  | (with_reducible refine onB_d (fun _ => ?_) (fun _ => ?_))
  | (with_reducible refine onB_n (fun _ => ?_) (fun _ => ?_))
  | refine OnB.mk (fun _ => ?_) (fun _ => ?_)
  | refine obl_i ?_ ?_
  | refine Drw.mk (by kernel_rfl) ?_
  | refine mks_i ?_ ?_
  | refine slp_i ?_ ?_
  | (with_reducible refine elem_u ?_ ?_)
  | (with_reducible refine elem_0 ?_)
  | (with_reducible refine elem_1 ?_)
  | refine Ends.mk ?_))
 all_goals (try refine Pr.mk ?_)
 all_goals first
  | rfl
  | contradiction
  | (exfalso; omega)
  | (refine bE ?_; decide +kernel)
  | decide +kernel
  | (unfold okP; decide +kernel)
  | (exfalso; rename_i h; revert h; decide +kernel)
  | skip⟩

end Go.Proofs.YtkcoahciohejkaaGreat

namespace Go.Sw
open Go
set_option linter.unusedVariables false
theorem ex0 {A B C : Rat} (hA : A = 0) (hB : B = 0) : exI A B C = 0 := by
  subst hA hB
  rw [exI_zero]; exact sgnR_eq0.2 rfl
theorem validR_R (q : Rat) : validR (decide (q.num < 0)) (lim q.num.natAbs) (decide ((q.den : Int) < 0)) (lim (q.den : Int).natAbs) = true := by
  rw [validR_int]
  have h1 := den_pos q
  have h2 := q.reduced
  rw [Bool.and_eq_true, decide_eq_true_eq, decide_eq_true_eq]
  exact ⟨sgnI_eq1.2 h1, by rw [Int.natAbs_natCast]; exact congrArg Int.ofNat h2⟩
/-- The foot of a point on a line. -/
theorem foot_1 {a b c x y : Rat} (h : ¬(a = 0 ∧ b = 0)) : x - (a * x + b * y - c) / (a * a + b * b) * a = x + (c - (a * x + b * y)) / (a * a + b * b) * a ∧ y - (a * x + b * y - c) / (a * a + b * b) * b = y + (c - (a * x + b * y)) / (a * a + b * b) * b := by
  have := sumsq_ne h
  constructor <;> grind
theorem foot_2 {a b c x y : Rat} (h : ¬(a = 0 ∧ b = 0)) : a * (x - (a * x + b * y - c) / (a * a + b * b) * a) + b * (y - (a * x + b * y - c) / (a * a + b * b) * b) - c = 0 := by
  have := sumsq_ne h
  grind
theorem foot_3 {a b c x y k : Rat} : (x - k * a - x) * b = (y - k * b - y) * a := by grind
end Go.Sw
