/-
  What the functions support.add, support.sub, support.mul, support.over, support.zero, support.equal, support.Through, support.SameLine, support.SameCircle, support.sign, support.distance, support.quick, support.Side, support.Inside, support.Foot, support.CircleThrough answer, each out of its text by the abstract run.
  What the functions swarfref08.Line, swarfref08.Circle, swarflaw08.line, swarflaw08.awake answer, each out of its text by the abstract run.
  Plain laws of lines and circles.
  Multiples of lines, and circles through three points.
  What the functions swarfref08.ValidCircle answer, each out of its text by the abstract run.
  What the functions integer.Valid answer, each out of its text by the abstract run.
  Validity of lines and circles, with any fields.
  What the functions rational.Valid answer, each out of its text by the abstract run.
  What the functions swarfref08.ValidCircle, swarfref08.ValidLine, support.ValidCircle, support.ValidLine answer, each out of its text by the abstract run.
  Conditions: none.
-/
import Derived.Test.YtkcoahciohejkaaGreatM10
set_option linter.all false
namespace Go.Proofs.YtkcoahciohejkaaGreat
open Go Go.RowKit Go.Sw
set_option linter.unusedVariables false
set_option maxRecDepth 100000
set_option maxHeartbeats 8000000
set_option synthInstance.maxSize 4000
set_option synthInstance.maxHeartbeats 400000
instance p_add (a b : Rat) : DenI Tryz.prog 51 [R a, R b] (rz a ≤ 4000000 ∧ rz b ≤ 4000000) (R (a + b)) := ⟨fun hp => by
 have i_a : RzB a 4000000 := ⟨hp.1⟩
 have i_b : RzB b 4000000 := ⟨hp.2⟩
 all_goals refine den_of (τ := tab) tab_ok mixed_ Tryz.func51 rfl (by kernel_rfl) (by kernel_rfl) (by kernel_rfl) ?_
 all_goals (repeat' ((try (conv => whnf)); first
  | refine call_0 ?_
  | refine call_i ?_ ?_
  | refine call_c ?_ (fun _ => ?_) (fun _ => ?_)
  | (with_reducible refine onB_t ?_)
  | (with_reducible refine onB_f ?_)
  | (with_reducible refine onB_d (fun _ => ?_) (fun _ => ?_))
  | (with_reducible refine onB_n (fun _ => ?_) (fun _ => ?_))
  | refine OnB.mk (fun _ => ?_) (fun _ => ?_)
  | refine obl_i ?_ ?_
  | refine Drw.mk (by kernel_rfl) ?_
  | refine mks_i ?_ ?_
  | refine slp_i ?_ ?_
  | (with_reducible refine elem_u ?_ ?_)
  | (with_reducible refine elem_0 ?_)
  | (with_reducible refine elem_1 ?_)
  | refine Ends.mk ?_))
 all_goals (try refine Pr.mk ?_)
 all_goals (try simp only [sgnI_lt0, sgnI_zero, sgnI_le0, sgnI_gt0, sgnI_ge0, sgnI_eq1, cmpI_lt0, cmpI_gt0, cmpI_eq0, cmpI_le0, cmpI_ge0, cmpR_of, sgnR_of, sgnR_lt0, sgnR_eq0, sgnR_gt0, sgnR_le0, sgnR_ge0, sgnR_eq1, cmpR_lt0, cmpR_gt0, cmpR_eq0, cmpR_le0, cmpR_ge0] at *)
 all_goals first
  | rfl
  | (simp only [redB, redC, mkA, mkB, mkC, cooC, ptC, *, true_or, or_true, if_true, if_false, or_self, and_self, and_true, true_and, and_false, false_and, not_true, not_false_iff, Bool.false_eq_true, decide_true, decide_false, Bool.or_true, Bool.true_or, Bool.or_false, Bool.false_or]; rfl)
  | ((repeat' apply And.intro) <;> first | assumption | exact rzb (by omega) | exact szb (by omega) | exact Int.mul_ne_zero (den_ne _) (den_ne _))
  | (exfalso; simp_all; done)
  | (exfalso; grind)
  | omega
  | ((repeat' apply And.intro) <;> first | assumption | exact rzb (by omega) | exact szb (by omega) | exact Int.mul_ne_zero (den_ne _) (den_ne _))
  | skip⟩

instance p_sub (a b : Rat) : DenI Tryz.prog 49 [R a, R b] (rz a ≤ 4000000 ∧ rz b ≤ 4000000) (R (a - b)) := ⟨fun hp => by
 have i_a : RzB a 4000000 := ⟨hp.1⟩
 have i_b : RzB b 4000000 := ⟨hp.2⟩
 all_goals refine den_of (τ := tab) tab_ok mixed_ Tryz.func49 rfl (by kernel_rfl) (by kernel_rfl) (by kernel_rfl) ?_
 all_goals (repeat' ((try (conv => whnf)); first
  | refine call_0 ?_
  | refine call_i ?_ ?_
  | refine call_c ?_ (fun _ => ?_) (fun _ => ?_)
  | (with_reducible refine onB_t ?_)
  | (with_reducible refine onB_f ?_)
  | (with_reducible refine onB_d (fun _ => ?_) (fun _ => ?_))
  | (with_reducible refine onB_n (fun _ => ?_) (fun _ => ?_))
  | refine OnB.mk (fun _ => ?_) (fun _ => ?_)
  | refine obl_i ?_ ?_
  | refine Drw.mk (by kernel_rfl) ?_
  | refine mks_i ?_ ?_
  | refine slp_i ?_ ?_
  | (with_reducible refine elem_u ?_ ?_)
  | (with_reducible refine elem_0 ?_)
  | (with_reducible refine elem_1 ?_)
  | refine Ends.mk ?_))
 all_goals (try refine Pr.mk ?_)
 all_goals (try simp only [sgnI_lt0, sgnI_zero, sgnI_le0, sgnI_gt0, sgnI_ge0, sgnI_eq1, cmpI_lt0, cmpI_gt0, cmpI_eq0, cmpI_le0, cmpI_ge0, cmpR_of, sgnR_of, sgnR_lt0, sgnR_eq0, sgnR_gt0, sgnR_le0, sgnR_ge0, sgnR_eq1, cmpR_lt0, cmpR_gt0, cmpR_eq0, cmpR_le0, cmpR_ge0] at *)
 all_goals first
  | rfl
  | (simp only [redB, redC, mkA, mkB, mkC, cooC, ptC, *, true_or, or_true, if_true, if_false, or_self, and_self, and_true, true_and, and_false, false_and, not_true, not_false_iff, Bool.false_eq_true, decide_true, decide_false, Bool.or_true, Bool.true_or, Bool.or_false, Bool.false_or]; rfl)
  | ((repeat' apply And.intro) <;> first | assumption | exact rzb (by omega) | exact szb (by omega) | exact Int.mul_ne_zero (den_ne _) (den_ne _))
  | (exfalso; simp_all; done)
  | (exfalso; grind)
  | omega
  | ((repeat' apply And.intro) <;> first | assumption | exact rzb (by omega) | exact szb (by omega) | exact Int.mul_ne_zero (den_ne _) (den_ne _))
  | skip⟩

instance p_mul (a b : Rat) : DenI Tryz.prog 52 [R a, R b] (rz a ≤ 4000000 ∧ rz b ≤ 4000000) (R (a * b)) := ⟨fun hp => by
 have i_a : RzB a 4000000 := ⟨hp.1⟩
 have i_b : RzB b 4000000 := ⟨hp.2⟩
 all_goals refine den_of (τ := tab) tab_ok mixed_ Tryz.func52 rfl (by kernel_rfl) (by kernel_rfl) (by kernel_rfl) ?_
 all_goals (repeat' ((try (conv => whnf)); first
  | refine call_0 ?_
  | refine call_i ?_ ?_
  | refine call_c ?_ (fun _ => ?_) (fun _ => ?_)
  | (with_reducible refine onB_t ?_)
  | (with_reducible refine onB_f ?_)
  | (with_reducible refine onB_d (fun _ => ?_) (fun _ => ?_))
  | (with_reducible refine onB_n (fun _ => ?_) (fun _ => ?_))
  | refine OnB.mk (fun _ => ?_) (fun _ => ?_)
  | refine obl_i ?_ ?_
  | refine Drw.mk (by kernel_rfl) ?_
  | refine mks_i ?_ ?_
  | refine slp_i ?_ ?_
  | (with_reducible refine elem_u ?_ ?_)
  | (with_reducible refine elem_0 ?_)
  | (with_reducible refine elem_1 ?_)
  | refine Ends.mk ?_))
 all_goals (try refine Pr.mk ?_)
 all_goals (try simp only [sgnI_lt0, sgnI_zero, sgnI_le0, sgnI_gt0, sgnI_ge0, sgnI_eq1, cmpI_lt0, cmpI_gt0, cmpI_eq0, cmpI_le0, cmpI_ge0, cmpR_of, sgnR_of, sgnR_lt0, sgnR_eq0, sgnR_gt0, sgnR_le0, sgnR_ge0, sgnR_eq1, cmpR_lt0, cmpR_gt0, cmpR_eq0, cmpR_le0, cmpR_ge0] at *)
 all_goals first
  | rfl
  | (simp only [redB, redC, mkA, mkB, mkC, cooC, ptC, *, true_or, or_true, if_true, if_false, or_self, and_self, and_true, true_and, and_false, false_and, not_true, not_false_iff, Bool.false_eq_true, decide_true, decide_false, Bool.or_true, Bool.true_or, Bool.or_false, Bool.false_or]; rfl)
  | ((repeat' apply And.intro) <;> first | assumption | exact rzb (by omega) | exact szb (by omega) | exact Int.mul_ne_zero (den_ne _) (den_ne _))
  | (exfalso; simp_all; done)
  | (exfalso; grind)
  | omega
  | ((repeat' apply And.intro) <;> first | assumption | exact rzb (by omega) | exact szb (by omega) | exact Int.mul_ne_zero (den_ne _) (den_ne _))
  | skip⟩

instance p_over (a b : Rat) : DenI Tryz.prog 67 [R a, R b] (rz a ≤ 4000000 ∧ rz b ≤ 4000000) (R (a / b)) := ⟨fun hp => by
 have i_a : RzB a 4000000 := ⟨hp.1⟩
 have i_b : RzB b 4000000 := ⟨hp.2⟩
 all_goals refine den_of (τ := tab) tab_ok mixed_ Tryz.func67 rfl (by kernel_rfl) (by kernel_rfl) (by kernel_rfl) ?_
 all_goals (repeat' ((try (conv => whnf)); first
  | refine call_0 ?_
  | refine call_i ?_ ?_
  | refine call_c ?_ (fun _ => ?_) (fun _ => ?_)
  | (with_reducible refine onB_t ?_)
  | (with_reducible refine onB_f ?_)
  | (with_reducible refine onB_d (fun _ => ?_) (fun _ => ?_))
  | (with_reducible refine onB_n (fun _ => ?_) (fun _ => ?_))
  | refine OnB.mk (fun _ => ?_) (fun _ => ?_)
  | refine obl_i ?_ ?_
  | refine Drw.mk (by kernel_rfl) ?_
  | refine mks_i ?_ ?_
  | refine slp_i ?_ ?_
  | (with_reducible refine elem_u ?_ ?_)
  | (with_reducible refine elem_0 ?_)
  | (with_reducible refine elem_1 ?_)
  | refine Ends.mk ?_))
 all_goals (try refine Pr.mk ?_)
 all_goals (try simp only [sgnI_lt0, sgnI_zero, sgnI_le0, sgnI_gt0, sgnI_ge0, sgnI_eq1, cmpI_lt0, cmpI_gt0, cmpI_eq0, cmpI_le0, cmpI_ge0, cmpR_of, sgnR_of, sgnR_lt0, sgnR_eq0, sgnR_gt0, sgnR_le0, sgnR_ge0, sgnR_eq1, cmpR_lt0, cmpR_gt0, cmpR_eq0, cmpR_le0, cmpR_ge0] at *)
 all_goals first
  | rfl
  | (subst b; exact congrArg R (div_0 a))
  | omega
  | (exfalso; omega)
  | (exfalso; simp at *; done)
  | ((repeat' apply And.intro) <;> first | assumption | exact rzb (by omega) | exact szb (by omega) | exact Int.mul_ne_zero (den_ne _) (den_ne _))
  | skip⟩

instance p_zero (a : Rat) : DenI Tryz.prog 50 [R a] (rz a ≤ 4000000) (.bool (decide (a = 0))) := ⟨fun hp => by
 have i_a : RzB a 4000000 := ⟨hp⟩
 all_goals refine den_of (τ := tab) tab_ok mixed_ Tryz.func50 rfl (by kernel_rfl) (by kernel_rfl) (by kernel_rfl) ?_
 all_goals (repeat' ((try (conv => whnf)); first
  | refine call_0 ?_
  | refine call_i ?_ ?_
  | refine call_c ?_ (fun _ => ?_) (fun _ => ?_)
  | (with_reducible refine onB_t ?_)
  | (with_reducible refine onB_f ?_)
  | (with_reducible refine onB_d (fun _ => ?_) (fun _ => ?_))
  | (with_reducible refine onB_n (fun _ => ?_) (fun _ => ?_))
  | refine OnB.mk (fun _ => ?_) (fun _ => ?_)
  | refine obl_i ?_ ?_
  | refine Drw.mk (by kernel_rfl) ?_
  | refine mks_i ?_ ?_
  | refine slp_i ?_ ?_
  | (with_reducible refine elem_u ?_ ?_)
  | (with_reducible refine elem_0 ?_)
  | (with_reducible refine elem_1 ?_)
  | refine Ends.mk ?_))
 all_goals (try refine Pr.mk ?_)
 all_goals (try simp only [sgnI_lt0, sgnI_zero, sgnI_le0, sgnI_gt0, sgnI_ge0, sgnI_eq1, cmpI_lt0, cmpI_gt0, cmpI_eq0, cmpI_le0, cmpI_ge0, cmpR_of, sgnR_of, sgnR_lt0, sgnR_eq0, sgnR_gt0, sgnR_le0, sgnR_ge0, sgnR_eq1, cmpR_lt0, cmpR_gt0, cmpR_eq0, cmpR_le0, cmpR_ge0] at *)
 all_goals first
  | rfl
  | (simp only [redB, redC, mkA, mkB, mkC, cooC, ptC, *, true_or, or_true, if_true, if_false, or_self, and_self, and_true, true_and, and_false, false_and, not_true, not_false_iff, Bool.false_eq_true, decide_true, decide_false, Bool.or_true, Bool.true_or, Bool.or_false, Bool.false_or]; rfl)
  | ((repeat' apply And.intro) <;> first | assumption | exact rzb (by omega) | exact szb (by omega) | exact Int.mul_ne_zero (den_ne _) (den_ne _))
  | (exfalso; simp_all; done)
  | (exfalso; grind)
  | omega
  | ((repeat' apply And.intro) <;> first | assumption | exact rzb (by omega) | exact szb (by omega) | exact Int.mul_ne_zero (den_ne _) (den_ne _))
  | skip⟩

instance p_eq (a b : Rat) : DenI Tryz.prog 80 [R a, R b] (rz a ≤ 4000000 ∧ rz b ≤ 4000000) (.bool (decide (a = b))) := ⟨fun hp => by
 have i_a : RzB a 4000000 := ⟨hp.1⟩
 have i_b : RzB b 4000000 := ⟨hp.2⟩
 all_goals refine den_of (τ := tab) tab_ok mixed_ Tryz.func80 rfl (by kernel_rfl) (by kernel_rfl) (by kernel_rfl) ?_
 all_goals (repeat' ((try (conv => whnf)); first
  | refine call_0 ?_
  | refine call_i ?_ ?_
  | refine call_c ?_ (fun _ => ?_) (fun _ => ?_)
  | (with_reducible refine onB_t ?_)
  | (with_reducible refine onB_f ?_)
  | (with_reducible refine onB_d (fun _ => ?_) (fun _ => ?_))
  | (with_reducible refine onB_n (fun _ => ?_) (fun _ => ?_))
  | refine OnB.mk (fun _ => ?_) (fun _ => ?_)
  | refine obl_i ?_ ?_
  | refine Drw.mk (by kernel_rfl) ?_
  | refine mks_i ?_ ?_
  | refine slp_i ?_ ?_
  | (with_reducible refine elem_u ?_ ?_)
  | (with_reducible refine elem_0 ?_)
  | (with_reducible refine elem_1 ?_)
  | refine Ends.mk ?_))
 all_goals (try refine Pr.mk ?_)
 all_goals (try simp only [sgnI_lt0, sgnI_zero, sgnI_le0, sgnI_gt0, sgnI_ge0, sgnI_eq1, cmpI_lt0, cmpI_gt0, cmpI_eq0, cmpI_le0, cmpI_ge0, cmpR_of, sgnR_of, sgnR_lt0, sgnR_eq0, sgnR_gt0, sgnR_le0, sgnR_ge0, sgnR_eq1, cmpR_lt0, cmpR_gt0, cmpR_eq0, cmpR_le0, cmpR_ge0] at *)
 all_goals first
  | rfl
  | (simp only [redB, redC, mkA, mkB, mkC, cooC, ptC, *, true_or, or_true, if_true, if_false, or_self, and_self, and_true, true_and, and_false, false_and, not_true, not_false_iff, Bool.false_eq_true, decide_true, decide_false, Bool.or_true, Bool.true_or, Bool.or_false, Bool.false_or]; rfl)
  | ((repeat' apply And.intro) <;> first | assumption | exact rzb (by omega) | exact szb (by omega) | exact Int.mul_ne_zero (den_ne _) (den_ne _))
  | (exfalso; simp_all; done)
  | (exfalso; grind)
  | omega
  | ((repeat' apply And.intro) <;> first | assumption | exact rzb (by omega) | exact szb (by omega) | exact Int.mul_ne_zero (den_ne _) (den_ne _))
  | skip⟩

instance p_thr (a b c d : Rat) : DenC Tryz.prog 13 [Q2 a b, Q2 c d] (rz a ≤ 1000 ∧ rz b ≤ 1000 ∧ rz c ≤ 1000 ∧ rz d ≤ 1000) ((b - d) = 0 ∧ (c - a) = 0) (.tup [ZQ3, .int .i64 6]) (.tup [Q3 (b - d) (c - a) ((b - d) * a + (c - a) * b), .int .i64 0]) := ⟨denC fun hp q e1 e2 => by
 have i_a : RzB a 1000 := ⟨hp.1⟩
 have i_b : RzB b 1000 := ⟨hp.2.1⟩
 have i_c : RzB c 1000 := ⟨hp.2.2.1⟩
 have i_d : RzB d 1000 := ⟨hp.2.2.2⟩
 all_goals refine den_of (τ := tab) tab_ok mixed_ Tryz.func13 rfl (by kernel_rfl) (by kernel_rfl) (by kernel_rfl) ?_
 all_goals (repeat' ((try (conv => whnf)); first
  | refine call_0 ?_
  | refine call_i ?_ ?_
  | refine call_c ?_ (fun _ => ?_) (fun _ => ?_)
  | (with_reducible refine onB_t ?_)
  | (with_reducible refine onB_f ?_)
  | (with_reducible refine onB_d (fun _ => ?_) (fun _ => ?_))
  | (with_reducible refine onB_n (fun _ => ?_) (fun _ => ?_))
  | refine OnB.mk (fun _ => ?_) (fun _ => ?_)
  | refine obl_i ?_ ?_
  | refine Drw.mk (by kernel_rfl) ?_
  | refine mks_i ?_ ?_
  | refine slp_i ?_ ?_
  | (with_reducible refine elem_u ?_ ?_)
  | (with_reducible refine elem_0 ?_)
  | (with_reducible refine elem_1 ?_)
  | refine Ends.mk ?_))
 all_goals (try refine Pr.mk ?_)
 all_goals (try simp only [sgnI_lt0, sgnI_zero, sgnI_le0, sgnI_gt0, sgnI_ge0, sgnI_eq1, cmpI_lt0, cmpI_gt0, cmpI_eq0, cmpI_le0, cmpI_ge0, cmpR_of, sgnR_of, sgnR_lt0, sgnR_eq0, sgnR_gt0, sgnR_le0, sgnR_ge0, sgnR_eq1, cmpR_lt0, cmpR_gt0, cmpR_eq0, cmpR_le0, cmpR_ge0] at *)
 all_goals first
  | (rw [e1 ⟨by assumption, by assumption⟩]; rfl)
  | (rw [e2 (fun h => absurd h.1 (by assumption))]; rfl)
  | (rw [e2 (fun h => absurd h.2 (by assumption))]; rfl)
  | ((repeat' apply And.intro) <;> first | assumption | exact rzb (by omega) | exact szb (by omega) | exact Int.mul_ne_zero (den_ne _) (den_ne _))
  | skip⟩

instance p_sl (a b c d e f : Rat) : DenI Tryz.prog 40 [Q3 a b c, Q3 d e f] (rz a ≤ 100000 ∧ rz b ≤ 100000 ∧ rz c ≤ 100000 ∧ rz d ≤ 100000 ∧ rz e ≤ 100000 ∧ rz f ≤ 100000) (.bool ((decide (a * e = d * b) && (decide (a * f = d * c) && decide (b * f = e * c))))) := ⟨fun hp => by
 have i_a : RzB a 100000 := ⟨hp.1⟩
 have i_b : RzB b 100000 := ⟨hp.2.1⟩
 have i_c : RzB c 100000 := ⟨hp.2.2.1⟩
 have i_d : RzB d 100000 := ⟨hp.2.2.2.1⟩
 have i_e : RzB e 100000 := ⟨hp.2.2.2.2.1⟩
 have i_f : RzB f 100000 := ⟨hp.2.2.2.2.2⟩
 all_goals refine den_of (τ := tab) tab_ok mixed_ Tryz.func40 rfl (by kernel_rfl) (by kernel_rfl) (by kernel_rfl) ?_
 all_goals (repeat' ((try (conv => whnf)); first
  | refine call_0 ?_
  | refine call_i ?_ ?_
  | refine call_c ?_ (fun _ => ?_) (fun _ => ?_)
  | (with_reducible refine onB_t ?_)
  | (with_reducible refine onB_f ?_)
  | (with_reducible refine onB_d (fun _ => ?_) (fun _ => ?_))
  | (with_reducible refine onB_n (fun _ => ?_) (fun _ => ?_))
  | refine OnB.mk (fun _ => ?_) (fun _ => ?_)
  | refine obl_i ?_ ?_
  | refine Drw.mk (by kernel_rfl) ?_
  | refine mks_i ?_ ?_
  | refine slp_i ?_ ?_
  | (with_reducible refine elem_u ?_ ?_)
  | (with_reducible refine elem_0 ?_)
  | (with_reducible refine elem_1 ?_)
  | refine Ends.mk ?_))
 all_goals (try refine Pr.mk ?_)
 all_goals (try simp only [sgnI_lt0, sgnI_zero, sgnI_le0, sgnI_gt0, sgnI_ge0, sgnI_eq1, cmpI_lt0, cmpI_gt0, cmpI_eq0, cmpI_le0, cmpI_ge0, cmpR_of, sgnR_of, sgnR_lt0, sgnR_eq0, sgnR_gt0, sgnR_le0, sgnR_ge0, sgnR_eq1, cmpR_lt0, cmpR_gt0, cmpR_eq0, cmpR_le0, cmpR_ge0] at *)
 all_goals first
  | rfl
  | (simp only [redB, redC, mkA, mkB, mkC, cooC, ptC, *, true_or, or_true, if_true, if_false, or_self, and_self, and_true, true_and, and_false, false_and, not_true, not_false_iff, Bool.false_eq_true, decide_true, decide_false, Bool.or_true, Bool.true_or, Bool.or_false, Bool.false_or]; rfl)
  | ((repeat' apply And.intro) <;> first | assumption | exact rzb (by omega) | exact szb (by omega) | exact Int.mul_ne_zero (den_ne _) (den_ne _))
  | (exfalso; simp_all; done)
  | (exfalso; grind)
  | omega
  | ((repeat' apply And.intro) <;> first | assumption | exact rzb (by omega) | exact szb (by omega) | exact Int.mul_ne_zero (den_ne _) (den_ne _))
  | skip⟩

instance p_sc (a b c d e f : Rat) : DenI Tryz.prog 46 [Q3 a b c, Q3 d e f] (rz a ≤ 100000 ∧ rz b ≤ 100000 ∧ rz c ≤ 100000 ∧ rz d ≤ 100000 ∧ rz e ≤ 100000 ∧ rz f ≤ 100000) (.bool ((decide (a = d) && (decide (b = e) && decide (c = f))))) := ⟨fun hp => by
 have i_a : RzB a 100000 := ⟨hp.1⟩
 have i_b : RzB b 100000 := ⟨hp.2.1⟩
 have i_c : RzB c 100000 := ⟨hp.2.2.1⟩
 have i_d : RzB d 100000 := ⟨hp.2.2.2.1⟩
 have i_e : RzB e 100000 := ⟨hp.2.2.2.2.1⟩
 have i_f : RzB f 100000 := ⟨hp.2.2.2.2.2⟩
 all_goals refine den_of (τ := tab) tab_ok mixed_ Tryz.func46 rfl (by kernel_rfl) (by kernel_rfl) (by kernel_rfl) ?_
 all_goals (repeat' ((try (conv => whnf)); first
  | refine call_0 ?_
  | refine call_i ?_ ?_
  | refine call_c ?_ (fun _ => ?_) (fun _ => ?_)
  | (with_reducible refine onB_t ?_)
  | (with_reducible refine onB_f ?_)
  | (with_reducible refine onB_d (fun _ => ?_) (fun _ => ?_))
  | (with_reducible refine onB_n (fun _ => ?_) (fun _ => ?_))
  | refine OnB.mk (fun _ => ?_) (fun _ => ?_)
  | refine obl_i ?_ ?_
  | refine Drw.mk (by kernel_rfl) ?_
  | refine mks_i ?_ ?_
  | refine slp_i ?_ ?_
  | (with_reducible refine elem_u ?_ ?_)
  | (with_reducible refine elem_0 ?_)
  | (with_reducible refine elem_1 ?_)
  | refine Ends.mk ?_))
 all_goals (try refine Pr.mk ?_)
 all_goals (try simp only [sgnI_lt0, sgnI_zero, sgnI_le0, sgnI_gt0, sgnI_ge0, sgnI_eq1, cmpI_lt0, cmpI_gt0, cmpI_eq0, cmpI_le0, cmpI_ge0, cmpR_of, sgnR_of, sgnR_lt0, sgnR_eq0, sgnR_gt0, sgnR_le0, sgnR_ge0, sgnR_eq1, cmpR_lt0, cmpR_gt0, cmpR_eq0, cmpR_le0, cmpR_ge0] at *)
 all_goals first
  | rfl
  | (simp only [redB, redC, mkA, mkB, mkC, cooC, ptC, *, true_or, or_true, if_true, if_false, or_self, and_self, and_true, true_and, and_false, false_and, not_true, not_false_iff, Bool.false_eq_true, decide_true, decide_false, Bool.or_true, Bool.true_or, Bool.or_false, Bool.false_or]; rfl)
  | ((repeat' apply And.intro) <;> first | assumption | exact rzb (by omega) | exact szb (by omega) | exact Int.mul_ne_zero (den_ne _) (den_ne _))
  | (exfalso; simp_all; done)
  | (exfalso; grind)
  | omega
  | ((repeat' apply And.intro) <;> first | assumption | exact rzb (by omega) | exact szb (by omega) | exact Int.mul_ne_zero (den_ne _) (den_ne _))
  | skip⟩

instance p_sign (a b c : Rat) : DenI Tryz.prog 59 [R a, R b, R c] (rz a ≤ 100000 ∧ rz b ≤ 100000 ∧ rz c ≤ 100000) (.int .i64 (exI a b c)) := ⟨fun hp => by
 have i_a : RzB a 100000 := ⟨hp.1⟩
 have i_b : RzB b 100000 := ⟨hp.2.1⟩
 have i_c : RzB c 100000 := ⟨hp.2.2⟩
 all_goals refine den_of (τ := tab) tab_ok mixed_ Tryz.func59 rfl (by kernel_rfl) (by kernel_rfl) (by kernel_rfl) ?_
 all_goals (repeat' ((try (conv => whnf)); first
  | refine call_0 ?_
  | refine call_i ?_ ?_
  | refine call_c ?_ (fun _ => ?_) (fun _ => ?_)
  | (with_reducible refine onB_t ?_)
  | (with_reducible refine onB_f ?_)
  | (with_reducible refine onB_d (fun _ => ?_) (fun _ => ?_))
  | (with_reducible refine onB_n (fun _ => ?_) (fun _ => ?_))
  | refine OnB.mk (fun _ => ?_) (fun _ => ?_)
  | refine obl_i ?_ ?_
  | refine Drw.mk (by kernel_rfl) ?_
  | refine mks_i ?_ ?_
  | refine slp_i ?_ ?_
  | (with_reducible refine elem_u ?_ ?_)
  | (with_reducible refine elem_0 ?_)
  | (with_reducible refine elem_1 ?_)
  | refine Ends.mk ?_))
 all_goals (try refine Pr.mk ?_)
 all_goals (try simp only [sgnI_lt0, sgnI_zero, sgnI_le0, sgnI_gt0, sgnI_ge0, sgnI_eq1, cmpI_lt0, cmpI_gt0, cmpI_eq0, cmpI_le0, cmpI_ge0, cmpR_of, sgnR_of, sgnR_lt0, sgnR_eq0, sgnR_gt0, sgnR_le0, sgnR_ge0, sgnR_eq1, cmpR_lt0, cmpR_gt0, cmpR_eq0, cmpR_le0, cmpR_ge0] at *)
 all_goals (try simp only [w_ss, w_sc] at *)
 all_goals first
  | with_reducible exact sg_1 (by assumption)
  | with_reducible exact sg_2 (by assumption)
  | with_reducible exact sg_3 (by assumption) (by assumption) (by assumption)
  | with_reducible exact sg_4 (by assumption) (by assumption) (by assumption)
  | (rw [w_sc]; exact sg_4 (by assumption) (by assumption) (by assumption))
  | ((repeat' apply And.intro) <;> first | assumption | exact rzb (by omega) | exact szb (by omega) | exact Int.mul_ne_zero (den_ne _) (den_ne _))
  | skip⟩

instance p_dist (a b c f : Rat) : DenI Tryz.prog 98 [R a, R b, R c, R f] (rz a ≤ 20000 ∧ rz b ≤ 20000 ∧ rz c ≤ 20000 ∧ rz f ≤ 20000) (Ov (distI a b c f)) := ⟨fun hp => by
 have i_a : RzB a 20000 := ⟨hp.1⟩
 have i_b : RzB b 20000 := ⟨hp.2.1⟩
 have i_c : RzB c 20000 := ⟨hp.2.2.1⟩
 have i_f : RzB f 20000 := ⟨hp.2.2.2⟩
 all_goals refine den_of (τ := tab) tab_ok mixed_ Tryz.func98 rfl (by kernel_rfl) (by kernel_rfl) (by kernel_rfl) ?_
 all_goals (repeat' ((try (conv => whnf)); first
  | refine call_0 ?_
  | refine call_i ?_ ?_
  | refine call_c ?_ (fun _ => ?_) (fun _ => ?_)
  | (with_reducible refine onB_t ?_)
  | (with_reducible refine onB_f ?_)
  | (with_reducible refine onB_d (fun _ => ?_) (fun _ => ?_))
  | (with_reducible refine onB_n (fun _ => ?_) (fun _ => ?_))
  | refine OnB.mk (fun _ => ?_) (fun _ => ?_)
  | refine obl_i ?_ ?_
  | refine Drw.mk (by kernel_rfl) ?_
  | refine mks_i ?_ ?_
  | refine slp_i ?_ ?_
  | (with_reducible refine elem_u ?_ ?_)
  | (with_reducible refine elem_0 ?_)
  | (with_reducible refine elem_1 ?_)
  | refine Ends.mk ?_))
 all_goals (try refine Pr.mk ?_)
 all_goals (try simp only [sgnI_lt0, sgnI_zero, sgnI_le0, sgnI_gt0, sgnI_ge0, sgnI_eq1, cmpI_lt0, cmpI_gt0, cmpI_eq0, cmpI_le0, cmpI_ge0, cmpR_of, sgnR_of, sgnR_lt0, sgnR_eq0, sgnR_gt0, sgnR_le0, sgnR_ge0, sgnR_eq1, cmpR_lt0, cmpR_gt0, cmpR_eq0, cmpR_le0, cmpR_ge0] at *)
 all_goals (try simp only [Prod.eta] at *)
 all_goals first
  | omega
  | (have z1 := ivB_root a b c; have z2 := ivB_from f; unfold ivB at *; omega)
  | (refine ovN1 (dist_n1 ?_); first | exact .inl (by assumption) | exact .inr (by assumption))
  | (refine Eq.trans ?_ (congrArg Ov (dist_s (by assumption) (by assumption))); rfl)
  | ((repeat' apply And.intro) <;> first | assumption | exact rzb (by omega) | exact szb (by omega) | exact Int.mul_ne_zero (den_ne _) (den_ne _))
  | skip⟩

instance p_quick (X Y Q ax bx ay bb c : Rat) : DenI Tryz.prog 65 [Q3 X Y Q, Q5 ax bx ay bb c] (rz X ≤ 20000 ∧ rz Y ≤ 20000 ∧ rz Q ≤ 20000 ∧ rz ax ≤ 20000 ∧ rz bx ≤ 20000 ∧ rz ay ≤ 20000 ∧ rz bb ≤ 20000 ∧ rz c ≤ 20000) (.tup [.int .i64 (quickI ax bx ay bb c X Y Q).1, .bool (quickI ax bx ay bb c X Y Q).2]) := ⟨fun hp => by
 have i_X : RzB X 20000 := ⟨hp.1⟩
 have i_Y : RzB Y 20000 := ⟨hp.2.1⟩
 have i_Q : RzB Q 20000 := ⟨hp.2.2.1⟩
 have i_ax : RzB ax 20000 := ⟨hp.2.2.2.1⟩
 have i_bx : RzB bx 20000 := ⟨hp.2.2.2.2.1⟩
 have i_ay : RzB ay 20000 := ⟨hp.2.2.2.2.2.1⟩
 have i_bb : RzB bb 20000 := ⟨hp.2.2.2.2.2.2.1⟩
 have i_c : RzB c 20000 := ⟨hp.2.2.2.2.2.2.2⟩
 all_goals refine den_of (τ := tab) tab_ok mixed_ Tryz.func65 rfl (by kernel_rfl) (by kernel_rfl) (by kernel_rfl) ?_
 all_goals (repeat' ((try (conv => whnf)); first
  | refine call_0 ?_
  | refine call_i ?_ ?_
  | refine call_c ?_ (fun _ => ?_) (fun _ => ?_)
  | (with_reducible refine onB_t ?_)
  | (with_reducible refine onB_f ?_)
  | (with_reducible refine onB_d (fun _ => ?_) (fun _ => ?_))
  | (with_reducible refine onB_n (fun _ => ?_) (fun _ => ?_))
  | refine OnB.mk (fun _ => ?_) (fun _ => ?_)
  | refine obl_i ?_ ?_
  | refine Drw.mk (by kernel_rfl) ?_
  | refine mks_i ?_ ?_
  | refine slp_i ?_ ?_
  | (with_reducible refine elem_u ?_ ?_)
  | (with_reducible refine elem_0 ?_)
  | (with_reducible refine elem_1 ?_)
  | refine Ends.mk ?_))
 all_goals (try refine Pr.mk ?_)
 all_goals (try simp only [sgnI_lt0, sgnI_zero, sgnI_le0, sgnI_gt0, sgnI_ge0, sgnI_eq1, cmpI_lt0, cmpI_gt0, cmpI_eq0, cmpI_le0, cmpI_ge0, cmpR_of, sgnR_of, sgnR_lt0, sgnR_eq0, sgnR_gt0, sgnR_le0, sgnR_ge0, sgnR_eq1, cmpR_lt0, cmpR_gt0, cmpR_eq0, cmpR_le0, cmpR_ge0] at *)
 all_goals (try simp only [Prod.eta] at *)
 all_goals first
  | omega
  | (have z1 := ivB_dist ax bx c X; have z2 := ivB_dist ay bb c Y; have z3 := ivB_from Q; unfold ivB at *; omega)
  | (have z1 := ivB_mul ((distI ax bx c X).getD (0, 0)) ((distI ax bx c X).getD (0, 0)); have z2 := ivB_mul ((distI ay bb c Y).getD (0, 0)) ((distI ay bb c Y).getD (0, 0)); have z3 := ivB_from Q; have z4 := ivB_add z1 z2; unfold ivB at *; omega)
  | (refine qk_0 (qk_1 ?_); first | exact .inl (by assumption) | exact .inr (.inl (by assumption)) | exact .inr (.inr (by assumption)))
  | (rw [qk_eq (ax := ax) (bx := bx) (ay := ay) (bb := bb) (c := c) (X := X) (Y := Y) (Q := Q) (by assumption) (by assumption) (by assumption) rfl rfl rfl]; generalize (distI ax bx c X).getD (0, 0) = u at *; generalize (distI ay bb c Y).getD (0, 0) = v at *; generalize (fromR Q).getD (0, 0) = w at *; rcases k1 : mulI u u with _ | s <;> rcases k2 : mulI v v with _ | t <;> first | rfl | (exfalso; simp_all; done) | (simp only [k1, k2, Option.getD_some, Option.isSome_some] at *; rcases k3 : addI s t with _ | m <;> first | rfl | (exfalso; simp_all; done) | (simp only [k3, Option.getD_some, Option.isSome_some] at *; rcases k4 : addI m (-w.2, -w.1) with _ | r <;> first | rfl | (exfalso; simp_all; done))))
  | ((repeat' apply And.intro) <;> first | assumption | exact rzb (by omega) | exact szb (by omega) | exact Int.mul_ne_zero (den_ne _) (den_ne _))
  | skip⟩

instance p_side (la lb lc ax bx ay bb c : Rat) : DenI Tryz.prog 16 [Q3 la lb lc, Q5 ax bx ay bb c] (rz la ≤ 5000 ∧ rz lb ≤ 5000 ∧ rz lc ≤ 5000 ∧ rz ax ≤ 5000 ∧ rz bx ≤ 5000 ∧ rz ay ≤ 5000 ∧ rz bb ≤ 5000 ∧ rz c ≤ 5000) (.int .i64 (exI (la * ax + lb * ay - lc) (la * bx + lb * bb) c)) := ⟨fun hp => by
 have i_la : RzB la 5000 := ⟨hp.1⟩
 have i_lb : RzB lb 5000 := ⟨hp.2.1⟩
 have i_lc : RzB lc 5000 := ⟨hp.2.2.1⟩
 have i_ax : RzB ax 5000 := ⟨hp.2.2.2.1⟩
 have i_bx : RzB bx 5000 := ⟨hp.2.2.2.2.1⟩
 have i_ay : RzB ay 5000 := ⟨hp.2.2.2.2.2.1⟩
 have i_bb : RzB bb 5000 := ⟨hp.2.2.2.2.2.2.1⟩
 have i_c : RzB c 5000 := ⟨hp.2.2.2.2.2.2.2⟩
 all_goals refine den_of (τ := tab) tab_ok mixed_ Tryz.func16 rfl (by kernel_rfl) (by kernel_rfl) (by kernel_rfl) ?_
 all_goals (repeat' ((try (conv => whnf)); first
  | refine call_0 ?_
  | refine call_i ?_ ?_
  | refine call_c ?_ (fun _ => ?_) (fun _ => ?_)
  | (with_reducible refine onB_t ?_)
  | (with_reducible refine onB_f ?_)
  | (with_reducible refine onB_d (fun _ => ?_) (fun _ => ?_))
  | (with_reducible refine onB_n (fun _ => ?_) (fun _ => ?_))
  | refine OnB.mk (fun _ => ?_) (fun _ => ?_)
  | refine obl_i ?_ ?_
  | refine Drw.mk (by kernel_rfl) ?_
  | refine mks_i ?_ ?_
  | refine slp_i ?_ ?_
  | (with_reducible refine elem_u ?_ ?_)
  | (with_reducible refine elem_0 ?_)
  | (with_reducible refine elem_1 ?_)
  | refine Ends.mk ?_))
 all_goals (try refine Pr.mk ?_)
 all_goals (try simp only [sgnI_lt0, sgnI_zero, sgnI_le0, sgnI_gt0, sgnI_ge0, sgnI_eq1, cmpI_lt0, cmpI_gt0, cmpI_eq0, cmpI_le0, cmpI_ge0, cmpR_of, sgnR_of, sgnR_lt0, sgnR_eq0, sgnR_gt0, sgnR_le0, sgnR_ge0, sgnR_eq1, cmpR_lt0, cmpR_gt0, cmpR_eq0, cmpR_le0, cmpR_ge0] at *)
 all_goals first
  | rfl
  | (refine iE (side_n ?_); simp_all; done)
  | ((repeat' apply And.intro) <;> first | assumption | exact rzb (by omega) | exact szb (by omega) | exact Int.mul_ne_zero (den_ne _) (den_ne _))
  | skip⟩

instance p_in (X Y Q ax bx ay bb c : Rat) : DenI Tryz.prog 21 [Q3 X Y Q, Q5 ax bx ay bb c] (rz X ≤ 400 ∧ rz Y ≤ 400 ∧ rz Q ≤ 400 ∧ rz ax ≤ 400 ∧ rz bx ≤ 400 ∧ rz ay ≤ 400 ∧ rz bb ≤ 400 ∧ rz c ≤ 400) (.int .i64 (-(exI ((ax - X) * (ax - X) + (ay - Y) * (ay - Y) + c * (bx * bx + bb * bb) - Q) ((ax - X) * bx + (ay - Y) * bb + ((ax - X) * bx + (ay - Y) * bb)) c))) := ⟨fun hp => by
 have i_X : RzB X 400 := ⟨hp.1⟩
 have i_Y : RzB Y 400 := ⟨hp.2.1⟩
 have i_Q : RzB Q 400 := ⟨hp.2.2.1⟩
 have i_ax : RzB ax 400 := ⟨hp.2.2.2.1⟩
 have i_bx : RzB bx 400 := ⟨hp.2.2.2.2.1⟩
 have i_ay : RzB ay 400 := ⟨hp.2.2.2.2.2.1⟩
 have i_bb : RzB bb 400 := ⟨hp.2.2.2.2.2.2.1⟩
 have i_c : RzB c 400 := ⟨hp.2.2.2.2.2.2.2⟩
 all_goals refine den_of (τ := tab) tab_ok mixed_ Tryz.func21 rfl (by kernel_rfl) (by kernel_rfl) (by kernel_rfl) ?_
 all_goals (repeat' ((try (conv => whnf)); first
  | refine call_0 ?_
  | refine call_i ?_ ?_
  | refine call_c ?_ (fun _ => ?_) (fun _ => ?_)
  | (with_reducible refine onB_t ?_)
  | (with_reducible refine onB_f ?_)
  | (with_reducible refine onB_d (fun _ => ?_) (fun _ => ?_))
  | (with_reducible refine onB_n (fun _ => ?_) (fun _ => ?_))
  | refine OnB.mk (fun _ => ?_) (fun _ => ?_)
  | refine obl_i ?_ ?_
  | refine Drw.mk (by kernel_rfl) ?_
  | refine mks_i ?_ ?_
  | refine slp_i ?_ ?_
  | (with_reducible refine elem_u ?_ ?_)
  | (with_reducible refine elem_0 ?_)
  | (with_reducible refine elem_1 ?_)
  | refine Ends.mk ?_))
 all_goals (try refine Pr.mk ?_)
 all_goals (try simp only [sgnI_lt0, sgnI_zero, sgnI_le0, sgnI_gt0, sgnI_ge0, sgnI_eq1, cmpI_lt0, cmpI_gt0, cmpI_eq0, cmpI_le0, cmpI_ge0, cmpR_of, sgnR_of, sgnR_lt0, sgnR_eq0, sgnR_gt0, sgnR_le0, sgnR_ge0, sgnR_eq1, cmpR_lt0, cmpR_gt0, cmpR_eq0, cmpR_le0, cmpR_ge0] at *)
 all_goals first
  | (exact neg_q (by assumption) (quick_n (by assumption)) (exI_lim _ _ _).1 (exI_lim _ _ _).2)
  | (refine neg_x ?_; rfl)
  | ((repeat' apply And.intro) <;> first | assumption | exact rzb (by omega) | exact szb (by omega) | exact Int.mul_ne_zero (den_ne _) (den_ne _))
  | skip⟩

instance p_foot (la lb lc x y : Rat) : DenI Tryz.prog 24 [Q3 la lb lc, Q2 x y] (rz la ≤ 1000 ∧ rz lb ≤ 1000 ∧ rz lc ≤ 1000 ∧ rz x ≤ 1000 ∧ rz y ≤ 1000) (Q2 (x - (la * x + lb * y - lc) / (la * la + lb * lb) * la) (y - (la * x + lb * y - lc) / (la * la + lb * lb) * lb)) := ⟨fun hp => by
 have i_la : RzB la 1000 := ⟨hp.1⟩
 have i_lb : RzB lb 1000 := ⟨hp.2.1⟩
 have i_lc : RzB lc 1000 := ⟨hp.2.2.1⟩
 have i_x : RzB x 1000 := ⟨hp.2.2.2.1⟩
 have i_y : RzB y 1000 := ⟨hp.2.2.2.2⟩
 all_goals refine den_of (τ := tab) tab_ok mixed_ Tryz.func24 rfl (by kernel_rfl) (by kernel_rfl) (by kernel_rfl) ?_
 all_goals (repeat' ((try (conv => whnf)); first
  | refine call_0 ?_
  | refine call_i ?_ ?_
  | refine call_c ?_ (fun _ => ?_) (fun _ => ?_)
  | (with_reducible refine onB_t ?_)
  | (with_reducible refine onB_f ?_)
  | (with_reducible refine onB_d (fun _ => ?_) (fun _ => ?_))
  | (with_reducible refine onB_n (fun _ => ?_) (fun _ => ?_))
  | refine OnB.mk (fun _ => ?_) (fun _ => ?_)
  | refine obl_i ?_ ?_
  | refine Drw.mk (by kernel_rfl) ?_
  | refine mks_i ?_ ?_
  | refine slp_i ?_ ?_
  | (with_reducible refine elem_u ?_ ?_)
  | (with_reducible refine elem_0 ?_)
  | (with_reducible refine elem_1 ?_)
  | refine Ends.mk ?_))
 all_goals (try refine Pr.mk ?_)
 all_goals (try simp only [sgnI_lt0, sgnI_zero, sgnI_le0, sgnI_gt0, sgnI_ge0, sgnI_eq1, cmpI_lt0, cmpI_gt0, cmpI_eq0, cmpI_le0, cmpI_ge0, cmpR_of, sgnR_of, sgnR_lt0, sgnR_eq0, sgnR_gt0, sgnR_le0, sgnR_ge0, sgnR_eq1, cmpR_lt0, cmpR_gt0, cmpR_eq0, cmpR_le0, cmpR_ge0] at *)
 all_goals first
  | rfl
  | (simp only [redB, redC, mkA, mkB, mkC, cooC, ptC, *, true_or, or_true, if_true, if_false, or_self, and_self, and_true, true_and, and_false, false_and, not_true, not_false_iff, Bool.false_eq_true, decide_true, decide_false, Bool.or_true, Bool.true_or, Bool.or_false, Bool.false_or]; rfl)
  | ((repeat' apply And.intro) <;> first | assumption | exact rzb (by omega) | exact szb (by omega) | exact Int.mul_ne_zero (den_ne _) (den_ne _))
  | (exfalso; simp_all; done)
  | (exfalso; grind)
  | omega
  | ((repeat' apply And.intro) <;> first | assumption | exact rzb (by omega) | exact szb (by omega) | exact Int.mul_ne_zero (den_ne _) (den_ne _))
  | skip⟩

instance p_circ (a b c d e f : Rat) : DenC Tryz.prog 31 [Q2 a b, Q2 c d, Q2 e f] (rz a ≤ 200 ∧ rz b ≤ 200 ∧ rz c ≤ 200 ∧ rz d ≤ 200 ∧ rz e ≤ 200 ∧ rz f ≤ 200) (((c - a) * (f - b) - (d - b) * (e - a)) = 0) (.tup [ZQ3, .int .i64 6]) (.tup [Q3 (a + ((((c - a) * (c - a) + (d - b) * (d - b)) * (f - b) - ((e - a) * (e - a) + (f - b) * (f - b)) * (d - b)) / (((c - a) * (f - b) - (d - b) * (e - a)) + ((c - a) * (f - b) - (d - b) * (e - a))))) (b + ((((e - a) * (e - a) + (f - b) * (f - b)) * (c - a) - ((c - a) * (c - a) + (d - b) * (d - b)) * (e - a)) / (((c - a) * (f - b) - (d - b) * (e - a)) + ((c - a) * (f - b) - (d - b) * (e - a))))) (((((c - a) * (c - a) + (d - b) * (d - b)) * (f - b) - ((e - a) * (e - a) + (f - b) * (f - b)) * (d - b)) / (((c - a) * (f - b) - (d - b) * (e - a)) + ((c - a) * (f - b) - (d - b) * (e - a)))) * ((((c - a) * (c - a) + (d - b) * (d - b)) * (f - b) - ((e - a) * (e - a) + (f - b) * (f - b)) * (d - b)) / (((c - a) * (f - b) - (d - b) * (e - a)) + ((c - a) * (f - b) - (d - b) * (e - a)))) + ((((e - a) * (e - a) + (f - b) * (f - b)) * (c - a) - ((c - a) * (c - a) + (d - b) * (d - b)) * (e - a)) / (((c - a) * (f - b) - (d - b) * (e - a)) + ((c - a) * (f - b) - (d - b) * (e - a)))) * ((((e - a) * (e - a) + (f - b) * (f - b)) * (c - a) - ((c - a) * (c - a) + (d - b) * (d - b)) * (e - a)) / (((c - a) * (f - b) - (d - b) * (e - a)) + ((c - a) * (f - b) - (d - b) * (e - a))))), .int .i64 0]) := ⟨denC fun hp q e1 e2 => by
 have i_a : RzB a 200 := ⟨hp.1⟩
 have i_b : RzB b 200 := ⟨hp.2.1⟩
 have i_c : RzB c 200 := ⟨hp.2.2.1⟩
 have i_d : RzB d 200 := ⟨hp.2.2.2.1⟩
 have i_e : RzB e 200 := ⟨hp.2.2.2.2.1⟩
 have i_f : RzB f 200 := ⟨hp.2.2.2.2.2⟩
 all_goals refine den_of (τ := tab) tab_ok mixed_ Tryz.func31 rfl (by kernel_rfl) (by kernel_rfl) (by kernel_rfl) ?_
 all_goals (repeat' ((try (conv => whnf)); first
  | refine call_0 ?_
  | refine call_i ?_ ?_
  | refine call_c ?_ (fun _ => ?_) (fun _ => ?_)
  | (with_reducible refine onB_t ?_)
  | (with_reducible refine onB_f ?_)
  | (with_reducible refine onB_d (fun _ => ?_) (fun _ => ?_))
  | (with_reducible refine onB_n (fun _ => ?_) (fun _ => ?_))
  | refine OnB.mk (fun _ => ?_) (fun _ => ?_)
  | refine obl_i ?_ ?_
  | refine Drw.mk (by kernel_rfl) ?_
  | refine mks_i ?_ ?_
  | refine slp_i ?_ ?_
  | (with_reducible refine elem_u ?_ ?_)
  | (with_reducible refine elem_0 ?_)
  | (with_reducible refine elem_1 ?_)
  | refine Ends.mk ?_))
 all_goals (try refine Pr.mk ?_)
 all_goals (try simp only [sgnI_lt0, sgnI_zero, sgnI_le0, sgnI_gt0, sgnI_ge0, sgnI_eq1, cmpI_lt0, cmpI_gt0, cmpI_eq0, cmpI_le0, cmpI_ge0, cmpR_of, sgnR_of, sgnR_lt0, sgnR_eq0, sgnR_gt0, sgnR_le0, sgnR_ge0, sgnR_eq1, cmpR_lt0, cmpR_gt0, cmpR_eq0, cmpR_le0, cmpR_ge0] at *)
 all_goals first
  | (rw [e1 (by assumption)]; rfl)
  | (rw [e2 (by assumption)]; rfl)
  | ((repeat' apply And.intro) <;> first | assumption | exact rzb (by omega) | exact szb (by omega) | exact Int.mul_ne_zero (den_ne _) (den_ne _))
  | skip⟩

end Go.Proofs.YtkcoahciohejkaaGreat

namespace Go.Proofs.YtkcoahciohejkaaGreat
open Go Go.RowKit Go.Sw
set_option linter.unusedVariables false
set_option maxRecDepth 100000
set_option maxHeartbeats 8000000
set_option synthInstance.maxSize 4000
set_option synthInstance.maxHeartbeats 400000
instance l_line (a b c : Int) (d : Nat) : DenI Tryz.prog 18 [.agg [.v (.int .i16 a), .v (.int .i16 b), .v (.int .i16 c), .v (.int .u8 (d : Nat))]] (smallI a ∧ smallI b ∧ smallI c ∧ d ≤ 255) (Q3 (lnI a b c d).a (lnI a b c d).b (lnI a b c d).c) := ⟨fun hp => by
 obtain ⟨p1, p2, p3, p4⟩ := hp
 have p5 := Nat.mod_lt d (show 0 < 8 by decide)
 all_goals refine den_of (τ := tab) tab_ok mixed_ Tryz.func18 rfl (by kernel_rfl) (by kernel_rfl) (by kernel_rfl) ?_
 all_goals (repeat' ((try (conv => whnf)); first
  | refine call_0 ?_
  | refine call_i ?_ ?_
  | refine call_c ?_ (fun _ => ?_) (fun _ => ?_)
  | (with_reducible refine onB_t ?_)
  | (with_reducible refine onB_f ?_)
  | (with_reducible refine onB_d (fun _ => ?_) (fun _ => ?_))
  | (with_reducible refine onB_n (fun _ => ?_) (fun _ => ?_))
  | refine OnB.mk (fun _ => ?_) (fun _ => ?_)
  | refine obl_i ?_ ?_
  | refine Drw.mk (by kernel_rfl) ?_
  | refine mks_i ?_ ?_
  | refine slp_i ?_ ?_
  | (with_reducible refine elem_u ?_ ?_)
  | (with_reducible refine elem_0 ?_)
  | (with_reducible refine elem_1 ?_)
  | refine Ends.mk ?_))
 all_goals (try refine Pr.mk ?_)
 all_goals (try simp (disch := (unfold smallI at *; omega)) only [wi64, dm8] at *)
 all_goals first
  | (unfold smallI at *; omega)
  | exact ln_1 (by assumption) (by assumption)
  | exact ln_2 (fun h => absurd h.1 (by assumption))
  | exact ln_2 (fun h => absurd h.2 (by assumption))
  | skip⟩

instance l_circ (x y : Int) (q d : Nat) : DenI Tryz.prog 22 [.agg [.v (.int .i16 x), .v (.int .i16 y), .v (.int .u16 (q : Nat)), .v (.int .u8 (d : Nat))]] (smallI x ∧ smallI y ∧ q ≤ 65535 ∧ d ≤ 255) (Q3 (ciI x y q d).a (ciI x y q d).b (ciI x y q d).c) := ⟨fun hp => by
 obtain ⟨p1, p2, p3, p4⟩ := hp
 have p5 := Nat.mod_lt d (show 0 < 8 by decide)
 all_goals refine den_of (τ := tab) tab_ok mixed_ Tryz.func22 rfl (by kernel_rfl) (by kernel_rfl) (by kernel_rfl) ?_
 all_goals (repeat' ((try (conv => whnf)); first
  | refine call_0 ?_
  | refine call_i ?_ ?_
  | refine call_c ?_ (fun _ => ?_) (fun _ => ?_)
  | (with_reducible refine onB_t ?_)
  | (with_reducible refine onB_f ?_)
  | (with_reducible refine onB_d (fun _ => ?_) (fun _ => ?_))
  | (with_reducible refine onB_n (fun _ => ?_) (fun _ => ?_))
  | refine OnB.mk (fun _ => ?_) (fun _ => ?_)
  | refine obl_i ?_ ?_
  | refine Drw.mk (by kernel_rfl) ?_
  | refine mks_i ?_ ?_
  | refine slp_i ?_ ?_
  | (with_reducible refine elem_u ?_ ?_)
  | (with_reducible refine elem_0 ?_)
  | (with_reducible refine elem_1 ?_)
  | refine Ends.mk ?_))
 all_goals (try refine Pr.mk ?_)
 all_goals (try simp (disch := (unfold smallI at *; omega)) only [wi64, dm8] at *)
 all_goals first
  | rfl
  | (unfold smallI at *; omega)
  | skip⟩

instance l_ln (m n k : Int)  : DenI Tryz.prog 48 [.int .i64 m, .int .i64 n, .int .i64 k] ((-9223372036854775808 ≤ m ∧ m ≤ 9223372036854775807) ∧ (-9223372036854775808 ≤ n ∧ n ≤ 9223372036854775807) ∧ -9223372036854775808 ≤ k ∧ k ≤ 9223372036854775807) (Q3 (m : Rat) (n : Rat) (k : Rat)) := ⟨fun hp => by
 refine den_of (τ := tab) tab_ok mixed_ Tryz.func48 rfl (by kernel_rfl) (by kernel_rfl) (by kernel_rfl) ?_
 all_goals (repeat' ((try (conv => whnf)); first
  | refine call_0 ?_
  | refine call_i ?_ ?_
  | refine call_c ?_ (fun _ => ?_) (fun _ => ?_)
  | (with_reducible refine onB_t ?_)
  | (with_reducible refine onB_f ?_)
  | (with_reducible refine onB_d (fun _ => ?_) (fun _ => ?_))
  | (with_reducible refine onB_n (fun _ => ?_) (fun _ => ?_))
  | refine OnB.mk (fun _ => ?_) (fun _ => ?_)
  | refine obl_i ?_ ?_
  | refine Drw.mk (by kernel_rfl) ?_
  | refine mks_i ?_ ?_
  | refine slp_i ?_ ?_
  | (with_reducible refine elem_u ?_ ?_)
  | (with_reducible refine elem_0 ?_)
  | (with_reducible refine elem_1 ?_)
  | refine Ends.mk ?_))
 all_goals (try refine Pr.mk ?_)
 all_goals (try simp only [sgnI_lt0, sgnI_zero, sgnI_le0, sgnI_gt0, sgnI_ge0, sgnI_eq1, cmpI_lt0, cmpI_gt0, cmpI_eq0, cmpI_le0, cmpI_ge0, cmpR_of, sgnR_of, sgnR_lt0, sgnR_eq0, sgnR_gt0, sgnR_le0, sgnR_ge0, sgnR_eq1, cmpR_lt0, cmpR_gt0, cmpR_eq0, cmpR_le0, cmpR_ge0] at *)
 all_goals first
  | rfl
  | (simp only [redB, redC, mkA, mkB, mkC, cooC, ptC, *, true_or, or_true, if_true, if_false, or_self, and_self, and_true, true_and, and_false, false_and, not_true, not_false_iff, Bool.false_eq_true, decide_true, decide_false, Bool.or_true, Bool.true_or, Bool.or_false, Bool.false_or]; rfl)
  | ((repeat' apply And.intro) <;> first | assumption | exact rzb (by omega) | exact szb (by omega) | exact Int.mul_ne_zero (den_ne _) (den_ne _))
  | (exfalso; simp_all; done)
  | (exfalso; grind)
  | omega
  | ((repeat' apply And.intro) <;> first | assumption | exact rzb (by omega) | exact szb (by omega) | exact Int.mul_ne_zero (den_ne _) (den_ne _))
  | skip⟩

instance l_of_lit : DenI Tryz.prog 19 [.agg [.v (.int .i16 0), .v (.int .i16 1), .v (.int .i16 0), .v (.int .i16 1), .v (.int .u16 2), .v (.int .u8 1)]] True (Q5 (ptI 0 1 0 1 2 1).ax (ptI 0 1 0 1 2 1).bx (ptI 0 1 0 1 2 1).ay (ptI 0 1 0 1 2 1).bb (ptI 0 1 0 1 2 1).c) := ⟨fun _ => (inferInstance : DenI Tryz.prog 19 [.agg [.v (.int .i16 0), .v (.int .i16 1), .v (.int .i16 0), .v (.int .i16 1), .v (.int .u16 ((2 : Nat) : Int)), .v (.int .u8 ((1 : Nat) : Int))]] _ _).den (by unfold smallI; decide)⟩
instance l_awake  : DenI Tryz.prog 11 [] (True) (.bool true) := ⟨fun hp => by
 have hA : ¬(((0 : Int) : Rat) - ((0 : Int) : Rat) = 0 ∧ ((2 : Int) : Rat) - ((0 : Int) : Rat) = 0) := by decide +kernel
 have hB : ¬(((0 : Int) : Rat) - ((1 : Int) : Rat)) * (((0 : Int) : Rat) - ((0 : Int) : Rat)) - (((1 : Int) : Rat) - ((0 : Int) : Rat)) * (((-1 : Int) : Rat) - ((1 : Int) : Rat)) = 0 := by decide +kernel
 all_goals refine den_of (τ := tab) tab_ok mixed_ Tryz.func11 rfl (by kernel_rfl) (by kernel_rfl) (by kernel_rfl) ?_
 all_goals (repeat' ((try (conv => whnf)); first
  | refine call_0 ?_
  | refine call_i ?_ ?_
  | refine call_c ?_ (fun _ => ?_) (fun _ => ?_)
  | (with_reducible refine onB_t ?_)
  | (with_reducible refine onB_f ?_)
  | (with_reducible refine onB_d (fun _ => ?_) (fun _ => ?_))
  | (with_reducible refine onB_n (fun _ => ?_) (fun _ => ?_))
  | refine OnB.mk (fun _ => ?_) (fun _ => ?_)
  | refine obl_i ?_ ?_
  | refine Drw.mk (by kernel_rfl) ?_
  | refine mks_i ?_ ?_
  | refine slp_i ?_ ?_
  | (with_reducible refine elem_u ?_ ?_)
  | (with_reducible refine elem_0 ?_)
  | (with_reducible refine elem_1 ?_)
  | refine Ends.mk ?_))
 all_goals (try refine Pr.mk ?_)
 all_goals first
  | rfl
  | contradiction
  | (exfalso; omega)
  | (refine bE ?_; decide +kernel)
  | decide +kernel
  | (unfold okP; decide +kernel)
  | (exfalso; rename_i h; revert h; decide +kernel)
  | skip⟩

end Go.Proofs.YtkcoahciohejkaaGreat

namespace Go.Sw
open Go
set_option linter.unusedVariables false
theorem ex0 {A B C : Rat} (hA : A = 0) (hB : B = 0) : exI A B C = 0 := by
  subst hA hB
  rw [exI_zero]; exact sgnR_eq0.2 rfl
theorem validR_R (q : Rat) : validR (decide (q.num < 0)) (lim q.num.natAbs) (decide ((q.den : Int) < 0)) (lim (q.den : Int).natAbs) = true := by
  rw [validR_int]
  have h1 := den_pos q
  have h2 := q.reduced
  rw [Bool.and_eq_true, decide_eq_true_eq, decide_eq_true_eq]
  exact ⟨sgnI_eq1.2 h1, by rw [Int.natAbs_natCast]; exact congrArg Int.ofNat h2⟩
/-- The foot of a point on a line. -/
theorem foot_1 {a b c x y : Rat} (h : ¬(a = 0 ∧ b = 0)) : x - (a * x + b * y - c) / (a * a + b * b) * a = x + (c - (a * x + b * y)) / (a * a + b * b) * a ∧ y - (a * x + b * y - c) / (a * a + b * b) * b = y + (c - (a * x + b * y)) / (a * a + b * b) * b := by
  have := sumsq_ne h
  constructor <;> grind
theorem foot_2 {a b c x y : Rat} (h : ¬(a = 0 ∧ b = 0)) : a * (x - (a * x + b * y - c) / (a * a + b * b) * a) + b * (y - (a * x + b * y - c) / (a * a + b * b) * b) - c = 0 := by
  have := sumsq_ne h
  grind
theorem foot_3 {a b c x y k : Rat} : (x - k * a - x) * b = (y - k * b - y) * a := by grind
end Go.Sw

namespace Go.Sw
open Go
set_option linter.unusedVariables false
theorem sgnR_mul (a b : Rat) : sgnR (a * b) = sgnR a * sgnR b := by
  rcases sgn_cases a with ⟨a1, a2⟩ | ⟨a1, a2⟩ | ⟨a1, a2⟩ <;> rcases sgn_cases b with ⟨b1, b2⟩ | ⟨b1, b2⟩ | ⟨b1, b2⟩ <;> rw [a2, b2]
  · have := Rat.mul_pos (show 0 < -a by grind) (show 0 < -b by grind); rw [sgnR_eq1.2 (by grind)]; rfl
  · rw [sgnR_eq0.2 (by grind)]; rfl
  · have := Rat.mul_pos (show 0 < -a by grind) b1; unfold sgnR; rw [if_pos (by grind)]; rfl
  · rw [sgnR_eq0.2 (by grind)]; rfl
  · rw [sgnR_eq0.2 (by grind)]; rfl
  · rw [sgnR_eq0.2 (by grind)]; rfl
  · have := Rat.mul_pos a1 (show 0 < -b by grind); unfold sgnR; rw [if_pos (by grind)]; rfl
  · rw [sgnR_eq0.2 (by grind)]; rfl
  · rw [sgnR_eq1.2 (Rat.mul_pos a1 b1)]; rfl
theorem cmpR_scale {k x y : Rat} (h : 0 < k) : cmpR (k * x) (k * y) = cmpR x y := by
  have p : ∀ u v : Rat, u < v → k * u < k * v := fun u v h' => by
    have := Rat.mul_pos h (show 0 < v - u by grind); grind
  by_cases h1 : x < y
  · rw [cmpR_m h1, cmpR_m (p _ _ h1)]
  · by_cases h2 : y < x
    · rw [cmpR_1 h2, cmpR_1 (p _ _ h2)]
    · have : x = y := by grind
      subst this; rw [cmpR_z rfl, cmpR_z rfl]
theorem exI_scale {k A B C : Rat} (hk : k ≠ 0) : exI (k * A) (k * B) C = sgnR k * exI A B C := by
  have hkk : 0 < k * k := by
    have h1 := sq_nn k
    have : k * k ≠ 0 := fun e => by rcases Rat.mul_eq_zero.1 e with h | h <;> exact hk h
    grind
  have ks : sgnR k = 1 ∨ sgnR k = -1 := by
    rcases sgn_cases k with ⟨a1, a2⟩ | ⟨a1, a2⟩ | ⟨a1, a2⟩
    · exact .inr a2
    · exact absurd a1 hk
    · exact .inl a2
  unfold exI
  rw [sgnR_mul k A, sgnR_mul k B, show k * A * (k * A) = k * k * (A * A) by grind, show k * B * (k * B) * C = k * k * (B * B * C) by grind, cmpR_scale hkk]
  simp only [Int.mul_assoc]
  generalize sgnR B * sgnR C = t
  generalize sgnR A = u
  rcases ks with e | e <;> rw [e]
  · simp only [Int.one_mul]
  · simp only [Int.neg_mul, Int.one_mul]
    by_cases h1 : u = t ∨ t = 0
    · have h2 : -u = -t ∨ -t = 0 := by omega
      rw [if_pos h1, if_pos h2]
    · have h2 : ¬(-u = -t ∨ -t = 0) := by omega
      rw [if_neg h1, if_neg h2]
      by_cases h3 : u = 0
      · have h4 : -u = 0 := by omega
        rw [if_pos h3, if_pos h4]
      · have h4 : ¬-u = 0 := by omega
        rw [if_neg h3, if_neg h4]
section
variable (a b c d e f : Rat)
theorem sl_1 : (decide (a * e = d * b) && (decide (a * f = d * c) && decide (b * f = e * c))) = (decide (a * e = b * d) && (decide (a * f = c * d) && decide (b * f = c * e))) := by
  rw [Rat.mul_comm d b, Rat.mul_comm d c, Rat.mul_comm e c]
theorem sl_2 : (decide (d * b = a * e) && (decide (d * c = a * f) && decide (e * c = b * f))) = (decide (a * e = b * d) && (decide (a * f = c * d) && decide (b * f = c * e))) := by
  rw [Rat.mul_comm d b, Rat.mul_comm d c, Rat.mul_comm e c, decide_eq_decide.2 (eq_comm (a := b * d)), decide_eq_decide.2 (eq_comm (a := c * d)), decide_eq_decide.2 (eq_comm (a := c * e))]
end
theorem wu16n {n : Nat} (h : n ≤ 65535) : IntKind.u16.wrap ((n : Nat) : Int) = ((n : Nat) : Int) := by
  simp [IntKind.wrap, IntKind.bits, IntKind.signed]; omega
theorem sgn_n3 {n : Int} (h : n ≠ 0) : sgnR ((n : Rat) / ((3 : Int) : Rat)) = if n < 0 then -1 else 1 := by
  have e : ((n : Int) : Rat) / ((3 : Int) : Rat) = (n : Rat) * (1 / 3) := by
    have : ((3 : Int) : Rat) = 3 := by decide +kernel
    rw [this]; grind
  have p : sgnR (1 / 3) = 1 := by decide +kernel
  rw [e, sgnR_mul, p, Int.mul_one]
  by_cases h0 : n < 0
  · rw [if_pos h0]
    have : (n : Rat) < ((0 : Int) : Rat) := Rat.intCast_lt_intCast.2 h0
    have z : ((0 : Int) : Rat) = 0 := rfl
    unfold sgnR; rw [if_pos (by rw [z] at this; exact this)]
  · rw [if_neg h0]
    have : ((0 : Int) : Rat) < (n : Rat) := Rat.intCast_lt_intCast.2 (by omega)
    have z : ((0 : Int) : Rat) = 0 := rfl
    exact sgnR_eq1.2 (by rw [z] at this; exact this)
theorem n3_ne {n : Int} (h : n ≠ 0) : ((n : Rat) / ((3 : Int) : Rat)) ≠ 0 := q_ne h (by decide)
theorem side_scale {n : Int} (h : n ≠ 0) {a b c x y u v w : Rat} : exI (a * ((n : Rat) / ((3 : Int) : Rat)) * x + b * ((n : Rat) / ((3 : Int) : Rat)) * y - c * ((n : Rat) / ((3 : Int) : Rat))) (a * ((n : Rat) / ((3 : Int) : Rat)) * u + b * ((n : Rat) / ((3 : Int) : Rat)) * v) w =
    (if n < 0 then -1 else 1) * exI (a * x + b * y - c) (a * u + b * v) w := by
  rw [← sgn_n3 h, ← exI_scale (n3_ne h)]
  congr 1 <;> grind
theorem sc_m {n : Int} (h : n < 0) {a b c x y u v w : Rat} : decide (exI (a * ((n : Rat) / ((3 : Int) : Rat)) * x + b * ((n : Rat) / ((3 : Int) : Rat)) * y - c * ((n : Rat) / ((3 : Int) : Rat))) (a * ((n : Rat) / ((3 : Int) : Rat)) * u + b * ((n : Rat) / ((3 : Int) : Rat)) * v) w = IntKind.i64.wrap (-1 * exI (a * x + b * y - c) (a * u + b * v) w)) = true := by
  have z := exI_lim (a * x + b * y - c) (a * u + b * v) w
  have h0 : n ≠ 0 := by omega
  rw [wi64 (by omega) (by omega), side_scale h0, if_pos h]; exact decide_eq_true rfl
theorem sc_p {n : Int} (h0 : ¬n = 0) (h : ¬n < 0) {a b c x y u v w : Rat} : decide (exI (a * ((n : Rat) / ((3 : Int) : Rat)) * x + b * ((n : Rat) / ((3 : Int) : Rat)) * y - c * ((n : Rat) / ((3 : Int) : Rat))) (a * ((n : Rat) / ((3 : Int) : Rat)) * u + b * ((n : Rat) / ((3 : Int) : Rat)) * v) w = IntKind.i64.wrap (1 * exI (a * x + b * y - c) (a * u + b * v) w)) = true := by
  have z := exI_lim (a * x + b * y - c) (a * u + b * v) w
  rw [wi64 (by omega) (by omega), side_scale h0, if_neg h]; exact decide_eq_true rfl
theorem sl_3 {a b c t : Rat} : (decide (a * (b * t) = a * t * b) && (decide (a * (c * t) = a * t * c) && decide (b * (c * t) = b * t * c))) = true := by
  simp only [Bool.and_eq_true, decide_eq_true_eq]; refine ⟨by grind, by grind, by grind⟩
end Go.Sw

namespace Go.Proofs.YtkcoahciohejkaaGreat
open Go Go.RowKit Go.Sw
set_option linter.unusedVariables false
set_option maxRecDepth 100000
set_option maxHeartbeats 8000000
set_option synthInstance.maxSize 4000
set_option synthInstance.maxHeartbeats 400000
instance w_vc (a b c : Rat) : DenI Tryz.prog 33 [Q3 a b c] (rz a ≤ 100000 ∧ rz b ≤ 100000 ∧ rz c ≤ 100000) (.bool (decide (0 < c))) := ⟨fun hp => by
 have i_a : RzB a 100000 := ⟨hp.1⟩
 have i_b : RzB b 100000 := ⟨hp.2.1⟩
 have i_c : RzB c 100000 := ⟨hp.2.2⟩
 all_goals refine den_of (τ := tab) tab_ok mixed_ Tryz.func33 rfl (by kernel_rfl) (by kernel_rfl) (by kernel_rfl) ?_
 all_goals (repeat' ((try (conv => whnf)); first
  | refine call_0 ?_
  | refine call_i ?_ ?_
  | refine call_c ?_ (fun _ => ?_) (fun _ => ?_)
  | (with_reducible refine onB_t ?_)
  | (with_reducible refine onB_f ?_)
  | (with_reducible refine onB_d (fun _ => ?_) (fun _ => ?_))
  | (with_reducible refine onB_n (fun _ => ?_) (fun _ => ?_))
  | refine OnB.mk (fun _ => ?_) (fun _ => ?_)
  | refine obl_i ?_ ?_
  | refine Drw.mk (by kernel_rfl) ?_
  | refine mks_i ?_ ?_
  | refine slp_i ?_ ?_
  | (with_reducible refine elem_u ?_ ?_)
  | (with_reducible refine elem_0 ?_)
  | (with_reducible refine elem_1 ?_)
  | refine Ends.mk ?_))
 all_goals (try refine Pr.mk ?_)
 all_goals (try simp only [sgnI_lt0, sgnI_zero, sgnI_le0, sgnI_gt0, sgnI_ge0, sgnI_eq1, cmpI_lt0, cmpI_gt0, cmpI_eq0, cmpI_le0, cmpI_ge0, cmpR_of, sgnR_of, sgnR_lt0, sgnR_eq0, sgnR_gt0, sgnR_le0, sgnR_ge0, sgnR_eq1, cmpR_lt0, cmpR_gt0, cmpR_eq0, cmpR_le0, cmpR_ge0] at *)
 all_goals (try simp only [validR_R] at *)
 all_goals first
  | exact lim_r1 (by assumption)
  | exact lim_r2 (by assumption)
  | rfl
  | (simp only [redB, redC, mkA, mkB, mkC, cooC, ptC, *, true_or, or_true, if_true, if_false, or_self, and_self, and_true, true_and, and_false, false_and, not_true, not_false_iff, Bool.false_eq_true, decide_true, decide_false, Bool.or_true, Bool.true_or, Bool.or_false, Bool.false_or]; rfl)
  | ((repeat' apply And.intro) <;> first | assumption | exact rzb (by omega) | exact szb (by omega) | exact Int.mul_ne_zero (den_ne _) (den_ne _))
  | (exfalso; simp_all; done)
  | (exfalso; grind)
  | omega
  | ((repeat' apply And.intro) <;> first | assumption | exact rzb (by omega) | exact szb (by omega) | exact Int.mul_ne_zero (den_ne _) (den_ne _))
  | skip⟩

end Go.Proofs.YtkcoahciohejkaaGreat

namespace Go.Proofs.YtkcoahciohejkaaGreat
open Go Go.RowKit Go.Sw
set_option linter.unusedVariables false
set_option maxRecDepth 100000
set_option maxHeartbeats 8000000
instance n_valid (neg : Bool) (l : List Nat) : DenI Tryz.prog 115 [Zr neg l] (l.length ≤ 9223372036854775807) (.bool (validL neg l)) := ⟨fun hp => by
 refine den_of (τ := tab) tab_ok mixed_ Tryz.func115 rfl (by kernel_rfl) (by kernel_rfl) (by kernel_rfl) ?_
 all_goals first
  | ((conv => whnf); refine Sw.Loop.inv (α := Nat) (fun x => [(1, .ptr 1 0), (2, .bool false), (7, .c (lmc l)), (8, .int .i64 (l.length : Nat)), (9, .int .i64 x)]) (fun x => [(1, .var [.v (.bool neg), lmc l])]) (fun x => x ≤ l.length ∧ ∀ j, j < x → l.getD j 0 < 1000000000) (fun x => l.length - x) 0 ?_ ?_ ?_ (fun x hx => ?_))
  | skip
 all_goals (repeat' ((try (conv => whnf)); first
  | refine call_0 ?_
  | refine call_i ?_ ?_
  | refine call_c ?_ (fun _ => ?_) (fun _ => ?_)
  | (with_reducible refine onB_t ?_)
  | (with_reducible refine onB_f ?_)
  | (with_reducible refine onB_d (fun _ => ?_) (fun _ => ?_))
  | (with_reducible refine onB_n (fun _ => ?_) (fun _ => ?_))
  | refine OnB.mk (fun _ => ?_) (fun _ => ?_)
  | refine obl_i ?_ ?_
  | refine Drw.mk (by kernel_rfl) ?_
  | refine mks_i ?_ ?_
  | refine slp_i ?_ ?_
  | (with_reducible refine elem_u ?_ ?_)
  | (with_reducible refine elem_0 ?_)
  | (with_reducible refine elem_1 ?_)
  | refine Ends.mk ?_))
 all_goals (try refine Pr.mk ?_)
 all_goals first | (show SubE _ _; repeat' (first | exact trivial | refine And.intro ?_ ?_)) | (show SubB _ _; repeat' (first | exact trivial | refine And.intro ?_ ?_)) | skip
 all_goals (try rfl)
 all_goals (try simp only [List.length_map, Int.toNat_natCast] at *)
 all_goals first
  | exact bE (rv_bad (x := x) (by omega) (by assumption))
  | ((conv => whnf); exact ⟨x + 1, ⟨⟨rfl, rfl, rfl, rfl, inc64 (by omega), trivial⟩, ⟨rfl, trivial⟩, ⟨by omega, fun j hj => by rcases Nat.lt_succ_iff_lt_or_eq.1 hj with h | h; exact hx.2 j h; subst h; omega⟩, by show l.length - (x + 1) < l.length - x; omega⟩⟩)
  | omega
  | exact ⟨by omega, fun j hj => by omega⟩
  | rfl
  | (rw [wi64 (by omega) (by omega)]; omega)
  | (have w : (IntKind.i64.wrap ((l.length : Int) - 1)).toNat = l.length - 1 := (by rw [wi64 (by omega) (by omega)]; omega); rw [w]; exact bE (validL_pos (validL_all fun j hj => hx.2 j (by omega)) (by omega)))
  | exact bE (validL_nil (by omega))
  | skip⟩

end Go.Proofs.YtkcoahciohejkaaGreat

namespace Go.Sw
open Go
set_option linter.unusedVariables false
theorem vr_p {x y : Int} (h : 0 < y) : decide (((Nat.gcd x.natAbs y.natAbs : Nat) : Int) = 1) = validR (decide (x < 0)) (lim x.natAbs) (decide (y < 0)) (lim y.natAbs) := by
  rw [validR_int, sgnI_eq1.2 h]; simp
theorem vr_n {x y : Int} (h : y ≤ 0) : false = validR (decide (x < 0)) (lim x.natAbs) (decide (y < 0)) (lim y.natAbs) := by
  rw [validR_int]
  have : ¬sgnI y = 1 := fun e => absurd (sgnI_eq1.1 e) (by omega)
  simp [this]
/-- ValidCircle and ValidLine, with any fields. -/
def vcR (n1 : Bool) (l1 : List Nat) (n2 : Bool) (l2 : List Nat) (n3 : Bool) (l3 : List Nat) (n4 : Bool) (l4 : List Nat) (n5 : Bool) (l5 : List Nat) (n6 : Bool) (l6 : List Nat) : Bool :=
  validR n1 l1 n2 l2 && (validR n3 l3 n4 l4 && (validR n5 l5 n6 l6 && decide (0 < sgnv n5 (val l5))))
def vlR (n1 : Bool) (l1 : List Nat) (n2 : Bool) (l2 : List Nat) (n3 : Bool) (l3 : List Nat) (n4 : Bool) (l4 : List Nat) (n5 : Bool) (l5 : List Nat) (n6 : Bool) (l6 : List Nat) : Bool :=
  validR n1 l1 n2 l2 && (validR n3 l3 n4 l4 && (validR n5 l5 n6 l6 && (!decide (sgnv n1 (val l1) = 0) || !decide (sgnv n3 (val l3) = 0))))
theorem sgnv_num (q : Rat) : sgnv (decide (q.num < 0)) (val (lim q.num.natAbs)) = q.num := by
  rw [val_lim, sgnv_of]
theorem pos_num (q : Rat) : decide (0 < q) = decide (0 < q.num) := by
  rw [decide_eq_decide]
  constructor
  · intro h; have := (Rat.num_nonneg (q := q)).2 (by grind); have h2 : q.num ≠ 0 := fun e => by have := Rat.num_eq_zero.1 e; grind
    omega
  · intro h; have := (Rat.num_nonneg (q := q)).1 (by omega); have h2 : q ≠ 0 := fun e => by rw [e] at h; exact absurd h (by decide)
    grind
theorem zero_num (q : Rat) : decide (q = 0) = decide (q.num = 0) := by
  rw [decide_eq_decide]; exact Rat.num_eq_zero.symm
theorem vl_1 {a b c : Rat} (h : ¬a = 0) : true = vlR (decide (a.num < 0)) (lim a.num.natAbs) (decide ((a.den : Int) < 0)) (lim (a.den : Int).natAbs) (decide (b.num < 0)) (lim b.num.natAbs) (decide ((b.den : Int) < 0)) (lim (b.den : Int).natAbs) (decide (c.num < 0)) (lim c.num.natAbs) (decide ((c.den : Int) < 0)) (lim (c.den : Int).natAbs) := by
  unfold vlR; simp only [validR_R, sgnv_num, ← zero_num, Bool.true_and]; simp [h]
theorem vl_2 {a b c : Rat} (h : a = 0) : (!decide (b = 0)) = vlR (decide (a.num < 0)) (lim a.num.natAbs) (decide ((a.den : Int) < 0)) (lim (a.den : Int).natAbs) (decide (b.num < 0)) (lim b.num.natAbs) (decide ((b.den : Int) < 0)) (lim (b.den : Int).natAbs) (decide (c.num < 0)) (lim c.num.natAbs) (decide ((c.den : Int) < 0)) (lim (c.den : Int).natAbs) := by
  unfold vlR; simp only [validR_R, sgnv_num, ← zero_num, Bool.true_and]; simp [h]
theorem w21 : IntKind.i64.wrap (2 + 1) = 3 := by decide
theorem w31 : IntKind.i64.wrap (3 + 1) = 4 := by decide
theorem w41 : IntKind.i64.wrap (4 + 1) = 5 := by decide
theorem w51 : IntKind.i64.wrap (5 + 1) = 6 := by decide
theorem elem_2 {e0 e1 e : List Cell} {es : List (List Cell)} {k : List Cell → Prop} (hk : k e) : Elem (e0 :: e1 :: e :: es) 2 k := ⟨2, e, rfl, rfl, hk⟩
theorem elem_3 {e0 e1 e2 e : List Cell} {es : List (List Cell)} {k : List Cell → Prop} (hk : k e) : Elem (e0 :: e1 :: e2 :: e :: es) 3 k := ⟨3, e, rfl, rfl, hk⟩
theorem elem_4 {e0 e1 e2 e3 e : List Cell} {es : List (List Cell)} {k : List Cell → Prop} (hk : k e) : Elem (e0 :: e1 :: e2 :: e3 :: e :: es) 4 k := ⟨4, e, rfl, rfl, hk⟩
theorem elem_5 {e0 e1 e2 e3 e4 e : List Cell} {es : List (List Cell)} {k : List Cell → Prop} (hk : k e) : Elem (e0 :: e1 :: e2 :: e3 :: e4 :: e :: es) 5 k := ⟨5, e, rfl, rfl, hk⟩
theorem onB_hn {b : Bool} {k : Bool → Prop} (h : b = false) (hk : k true) : OnB (!b) k := ⟨fun _ => hk, fun e => by rw [h] at e; cases e⟩
theorem onB_hy {b : Bool} {k : Bool → Prop} (h : b = true) (hk : k false) : OnB (!b) k := ⟨fun e => (by rw [h] at e; cases e), fun _ => hk⟩
theorem onB_ne {b : Bool} {k : Bool → Prop} (hk : k false) : OnB (b != b) k := ⟨fun e => (by simp at e), fun _ => hk⟩
theorem vc_1 {n1 l1 n2 l2 n3 l3 n4 l4 n5 l5 n6 l6} (h : vcR n1 l1 n2 l2 n3 l3 n4 l4 n5 l5 n6 l6 = true) : validR n1 l1 n2 l2 = true := by unfold vcR at h; simp only [Bool.and_eq_true] at h; exact h.1
theorem vc_2 {n1 l1 n2 l2 n3 l3 n4 l4 n5 l5 n6 l6} (h : vcR n1 l1 n2 l2 n3 l3 n4 l4 n5 l5 n6 l6 = true) : validR n3 l3 n4 l4 = true := by unfold vcR at h; simp only [Bool.and_eq_true] at h; exact h.2.1
theorem vc_3 {n1 l1 n2 l2 n3 l3 n4 l4 n5 l5 n6 l6} (h : vcR n1 l1 n2 l2 n3 l3 n4 l4 n5 l5 n6 l6 = true) : validR n5 l5 n6 l6 = true := by unfold vcR at h; simp only [Bool.and_eq_true] at h; exact h.2.2.1
end Go.Sw

namespace Go.Proofs.YtkcoahciohejkaaGreat
open Go Go.RowKit Go.Sw
set_option linter.unusedVariables false
set_option maxRecDepth 100000
set_option maxHeartbeats 8000000
instance n_rv (n1 : Bool) (l1 : List Nat) (n2 : Bool) (l2 : List Nat) : DenI Tryz.prog 81 [Rr n1 l1 n2 l2] (l1.length ≤ 1000000000 ∧ l2.length ≤ 1000000000) (.bool (validR n1 l1 n2 l2)) := ⟨fun hp => by
 rcases valid_cases n1 l1 n2 l2 with h | ⟨x, rfl, rfl, h⟩ | ⟨x, y, rfl, rfl, rfl, rfl⟩
 all_goals refine den_of (τ := tab) tab_ok mixed_ Tryz.func81 rfl (by kernel_rfl) (by kernel_rfl) (by kernel_rfl) ?_
 all_goals (repeat' ((try (conv => whnf)); first
  | refine call_0 ?_
  | refine call_i ?_ ?_
  | refine call_c ?_ (fun _ => ?_) (fun _ => ?_)
  | (with_reducible refine onB_t ?_)
  | (with_reducible refine onB_f ?_)
  | (with_reducible refine onB_d (fun _ => ?_) (fun _ => ?_))
  | (with_reducible refine onB_n (fun _ => ?_) (fun _ => ?_))
  | refine OnB.mk (fun _ => ?_) (fun _ => ?_)
  | refine obl_i ?_ ?_
  | refine Drw.mk (by kernel_rfl) ?_
  | refine mks_i ?_ ?_
  | refine slp_i ?_ ?_
  | (with_reducible refine elem_u ?_ ?_)
  | (with_reducible refine elem_0 ?_)
  | (with_reducible refine elem_1 ?_)
  | refine Ends.mk ?_))
 all_goals (try refine Pr.mk ?_)
 all_goals (try simp only [sgnI_lt0, sgnI_zero, sgnI_le0, sgnI_gt0, sgnI_ge0, sgnI_eq1, cmpI_lt0, cmpI_gt0, cmpI_eq0, cmpI_le0, cmpI_ge0, cmpR_of, sgnR_of, sgnR_lt0, sgnR_eq0, sgnR_gt0, sgnR_le0, sgnR_ge0, sgnR_eq1, cmpR_lt0, cmpR_gt0, cmpR_eq0, cmpR_le0, cmpR_ge0] at *)
 all_goals first
  | (simp only [validL_lim] at *; exfalso; simp_all; done)
  | (exfalso; clear hp; simp at *; done)
  | (exfalso; simp_all; done)
  | (refine bE ?_; rw [validR_int]; simp_all; done)
  | exact bE (vr_p (x := x) (y := y) (by omega))
  | exact bE (vr_n (x := x) (y := y) (by omega))
  | (refine bE ?_; rw [validR_int, decide_eq_false (fun h => absurd (sgnI_eq1.1 h) (by omega)), Bool.false_and])
  | exact bE (by unfold validR; simp_all)
  | exact hp
  | (first | exact Nat.le_trans hp.1 (by decide) | exact Nat.le_trans hp.2 (by decide))
  | skip⟩

end Go.Proofs.YtkcoahciohejkaaGreat

namespace Go.Proofs.YtkcoahciohejkaaGreat
open Go Go.RowKit Go.Sw
set_option linter.unusedVariables false
set_option maxRecDepth 100000
set_option maxHeartbeats 8000000
set_option synthInstance.maxSize 4000
set_option synthInstance.maxHeartbeats 400000
instance x_vc (n1 : Bool) (l1 : List Nat) (n2 : Bool) (l2 : List Nat) (n3 : Bool) (l3 : List Nat) (n4 : Bool) (l4 : List Nat) (n5 : Bool) (l5 : List Nat) (n6 : Bool) (l6 : List Nat) : DenI Tryz.prog 33 [.agg [.v (.bool n1), lmc l1, .v (.bool n2), lmc l2, .v (.bool n3), lmc l3, .v (.bool n4), lmc l4, .v (.bool n5), lmc l5, .v (.bool n6), lmc l6]] (l1.length ≤ 6 ∧ l2.length ≤ 6 ∧ l3.length ≤ 6 ∧ l4.length ≤ 6 ∧ l5.length ≤ 6 ∧ l6.length ≤ 6) (.bool (vcR n1 l1 n2 l2 n3 l3 n4 l4 n5 l5 n6 l6)) := ⟨fun hp => by
 obtain ⟨p1, p2, p3, p4, p5, p6⟩ := hp
 by_cases v1 : validR n1 l1 n2 l2 = true <;> by_cases v2 : validR n3 l3 n4 l4 = true <;> by_cases v3 : validR n5 l5 n6 l6 = true
 all_goals (try (obtain ⟨a, rfl, rfl, rfl, rfl⟩ := validR_ex v1))
 all_goals (try (obtain ⟨b, rfl, rfl, rfl, rfl⟩ := validR_ex v2))
 all_goals (try (obtain ⟨c, rfl, rfl, rfl, rfl⟩ := validR_ex v3))
 all_goals refine den_of (τ := tab) tab_ok mixed_ Tryz.func33 rfl (by kernel_rfl) (by kernel_rfl) (by kernel_rfl) ?_
 all_goals (repeat' ((try (conv => whnf)); first
  | refine call_0 ?_
  | refine call_i ?_ ?_
  | refine call_c ?_ (fun _ => ?_) (fun _ => ?_)
  | (with_reducible refine onB_t ?_)
  | (with_reducible refine onB_f ?_)
  | (with_reducible refine onB_d (fun _ => ?_) (fun _ => ?_))
  | (with_reducible refine onB_n (fun _ => ?_) (fun _ => ?_))
  | refine OnB.mk (fun _ => ?_) (fun _ => ?_)
  | refine obl_i ?_ ?_
  | refine Drw.mk (by kernel_rfl) ?_
  | refine mks_i ?_ ?_
  | refine slp_i ?_ ?_
  | (with_reducible refine elem_u ?_ ?_)
  | (with_reducible refine elem_0 ?_)
  | (with_reducible refine elem_1 ?_)
  | refine Ends.mk ?_))
 all_goals (try refine Pr.mk ?_)
 all_goals (try simp only [sgnI_lt0, sgnI_zero, sgnI_le0, sgnI_gt0, sgnI_ge0, sgnI_eq1, cmpI_lt0, cmpI_gt0, cmpI_eq0, cmpI_le0, cmpI_ge0, cmpR_of, sgnR_of, sgnR_lt0, sgnR_eq0, sgnR_gt0, sgnR_le0, sgnR_ge0, sgnR_eq1, cmpR_lt0, cmpR_gt0, cmpR_eq0, cmpR_le0, cmpR_ge0] at *)
 all_goals (try simp only [validR_R] at *)
 all_goals first
  | omega
  | (refine bE ?_; exact vl_1 (by assumption))
  | (refine bE ?_; exact vl_2 (by assumption))
  | (exfalso; simp_all; done)
  | (refine bE ?_; unfold vcR; simp only [validR_R, sgnv_num, pos_num, Bool.true_and]; done)
  | (refine bE ?_; unfold vlR; simp only [validR_R, sgnv_num, zero_num, Bool.true_and]; done)
  | (refine bE ?_; unfold vcR; simp [validR_R, sgnv_num, *]; done)
  | (refine bE ?_; unfold vlR; simp [validR_R, sgnv_num, ← zero_num, *]; done)
  | ((repeat' apply And.intro) <;> first | assumption | (unfold rz sz; omega) | omega)
  | skip⟩

instance x_vl (n1 : Bool) (l1 : List Nat) (n2 : Bool) (l2 : List Nat) (n3 : Bool) (l3 : List Nat) (n4 : Bool) (l4 : List Nat) (n5 : Bool) (l5 : List Nat) (n6 : Bool) (l6 : List Nat) : DenI Tryz.prog 44 [.agg [.v (.bool n1), lmc l1, .v (.bool n2), lmc l2, .v (.bool n3), lmc l3, .v (.bool n4), lmc l4, .v (.bool n5), lmc l5, .v (.bool n6), lmc l6]] (l1.length ≤ 6 ∧ l2.length ≤ 6 ∧ l3.length ≤ 6 ∧ l4.length ≤ 6 ∧ l5.length ≤ 6 ∧ l6.length ≤ 6) (.bool (vlR n1 l1 n2 l2 n3 l3 n4 l4 n5 l5 n6 l6)) := ⟨fun hp => by
 obtain ⟨p1, p2, p3, p4, p5, p6⟩ := hp
 by_cases v1 : validR n1 l1 n2 l2 = true <;> by_cases v2 : validR n3 l3 n4 l4 = true <;> by_cases v3 : validR n5 l5 n6 l6 = true
 all_goals (try (obtain ⟨a, rfl, rfl, rfl, rfl⟩ := validR_ex v1))
 all_goals (try (obtain ⟨b, rfl, rfl, rfl, rfl⟩ := validR_ex v2))
 all_goals (try (obtain ⟨c, rfl, rfl, rfl, rfl⟩ := validR_ex v3))
 all_goals refine den_of (τ := tab) tab_ok mixed_ Tryz.func44 rfl (by kernel_rfl) (by kernel_rfl) (by kernel_rfl) ?_
 all_goals (repeat' ((try (conv => whnf)); first
  | refine call_0 ?_
  | refine call_i ?_ ?_
  | refine call_c ?_ (fun _ => ?_) (fun _ => ?_)
  | (with_reducible refine onB_t ?_)
  | (with_reducible refine onB_f ?_)
  | (with_reducible refine onB_d (fun _ => ?_) (fun _ => ?_))
  | (with_reducible refine onB_n (fun _ => ?_) (fun _ => ?_))
  | refine OnB.mk (fun _ => ?_) (fun _ => ?_)
  | refine obl_i ?_ ?_
  | refine Drw.mk (by kernel_rfl) ?_
  | refine mks_i ?_ ?_
  | refine slp_i ?_ ?_
  | (with_reducible refine elem_u ?_ ?_)
  | (with_reducible refine elem_0 ?_)
  | (with_reducible refine elem_1 ?_)
  | refine Ends.mk ?_))
 all_goals (try refine Pr.mk ?_)
 all_goals (try simp only [sgnI_lt0, sgnI_zero, sgnI_le0, sgnI_gt0, sgnI_ge0, sgnI_eq1, cmpI_lt0, cmpI_gt0, cmpI_eq0, cmpI_le0, cmpI_ge0, cmpR_of, sgnR_of, sgnR_lt0, sgnR_eq0, sgnR_gt0, sgnR_le0, sgnR_ge0, sgnR_eq1, cmpR_lt0, cmpR_gt0, cmpR_eq0, cmpR_le0, cmpR_ge0] at *)
 all_goals (try simp only [validR_R] at *)
 all_goals first
  | omega
  | (refine bE ?_; exact vl_1 (by assumption))
  | (refine bE ?_; exact vl_2 (by assumption))
  | (exfalso; simp_all; done)
  | (refine bE ?_; unfold vcR; simp only [validR_R, sgnv_num, pos_num, Bool.true_and]; done)
  | (refine bE ?_; unfold vlR; simp only [validR_R, sgnv_num, zero_num, Bool.true_and]; done)
  | (refine bE ?_; unfold vcR; simp [validR_R, sgnv_num, *]; done)
  | (refine bE ?_; unfold vlR; simp [validR_R, sgnv_num, ← zero_num, *]; done)
  | ((repeat' apply And.intro) <;> first | assumption | (unfold rz sz; omega) | omega)
  | skip⟩

instance p_vc (n1 : Bool) (l1 : List Nat) (n2 : Bool) (l2 : List Nat) (n3 : Bool) (l3 : List Nat) (n4 : Bool) (l4 : List Nat) (n5 : Bool) (l5 : List Nat) (n6 : Bool) (l6 : List Nat) : DenI Tryz.prog 45 [.agg [.v (.bool n1), lmc l1, .v (.bool n2), lmc l2, .v (.bool n3), lmc l3, .v (.bool n4), lmc l4, .v (.bool n5), lmc l5, .v (.bool n6), lmc l6]] (l1.length ≤ 6 ∧ l2.length ≤ 6 ∧ l3.length ≤ 6 ∧ l4.length ≤ 6 ∧ l5.length ≤ 6 ∧ l6.length ≤ 6) (.bool (vcR n1 l1 n2 l2 n3 l3 n4 l4 n5 l5 n6 l6)) := ⟨fun hp => by
 obtain ⟨p1, p2, p3, p4, p5, p6⟩ := hp
 by_cases v1 : validR n1 l1 n2 l2 = true <;> by_cases v2 : validR n3 l3 n4 l4 = true <;> by_cases v3 : validR n5 l5 n6 l6 = true
 all_goals (try (obtain ⟨a, rfl, rfl, rfl, rfl⟩ := validR_ex v1))
 all_goals (try (obtain ⟨b, rfl, rfl, rfl, rfl⟩ := validR_ex v2))
 all_goals (try (obtain ⟨c, rfl, rfl, rfl, rfl⟩ := validR_ex v3))
 all_goals refine den_of (τ := tab) tab_ok mixed_ Tryz.func45 rfl (by kernel_rfl) (by kernel_rfl) (by kernel_rfl) ?_
 all_goals (repeat' ((try (conv => whnf)); first
  | refine call_0 ?_
  | refine call_i ?_ ?_
  | refine call_c ?_ (fun _ => ?_) (fun _ => ?_)
  | (with_reducible refine onB_t ?_)
  | (with_reducible refine onB_f ?_)
  | (with_reducible refine onB_d (fun _ => ?_) (fun _ => ?_))
  | (with_reducible refine onB_n (fun _ => ?_) (fun _ => ?_))
  | refine OnB.mk (fun _ => ?_) (fun _ => ?_)
  | refine obl_i ?_ ?_
  | refine Drw.mk (by kernel_rfl) ?_
  | refine mks_i ?_ ?_
  | refine slp_i ?_ ?_
  | (with_reducible refine elem_u ?_ ?_)
  | (with_reducible refine elem_0 ?_)
  | (with_reducible refine elem_1 ?_)
  | refine Ends.mk ?_))
 all_goals (try refine Pr.mk ?_)
 all_goals (try simp only [sgnI_lt0, sgnI_zero, sgnI_le0, sgnI_gt0, sgnI_ge0, sgnI_eq1, cmpI_lt0, cmpI_gt0, cmpI_eq0, cmpI_le0, cmpI_ge0, cmpR_of, sgnR_of, sgnR_lt0, sgnR_eq0, sgnR_gt0, sgnR_le0, sgnR_ge0, sgnR_eq1, cmpR_lt0, cmpR_gt0, cmpR_eq0, cmpR_le0, cmpR_ge0] at *)
 all_goals (try simp only [validR_R] at *)
 all_goals first
  | omega
  | (refine bE ?_; exact vl_1 (by assumption))
  | (refine bE ?_; exact vl_2 (by assumption))
  | (exfalso; simp_all; done)
  | (refine bE ?_; unfold vcR; simp only [validR_R, sgnv_num, pos_num, Bool.true_and]; done)
  | (refine bE ?_; unfold vlR; simp only [validR_R, sgnv_num, zero_num, Bool.true_and]; done)
  | (refine bE ?_; unfold vcR; simp [validR_R, sgnv_num, *]; done)
  | (refine bE ?_; unfold vlR; simp [validR_R, sgnv_num, ← zero_num, *]; done)
  | ((repeat' apply And.intro) <;> first | assumption | (unfold rz sz; omega) | omega)
  | skip⟩

instance p_vl (n1 : Bool) (l1 : List Nat) (n2 : Bool) (l2 : List Nat) (n3 : Bool) (l3 : List Nat) (n4 : Bool) (l4 : List Nat) (n5 : Bool) (l5 : List Nat) (n6 : Bool) (l6 : List Nat) : DenI Tryz.prog 43 [.agg [.v (.bool n1), lmc l1, .v (.bool n2), lmc l2, .v (.bool n3), lmc l3, .v (.bool n4), lmc l4, .v (.bool n5), lmc l5, .v (.bool n6), lmc l6]] (l1.length ≤ 6 ∧ l2.length ≤ 6 ∧ l3.length ≤ 6 ∧ l4.length ≤ 6 ∧ l5.length ≤ 6 ∧ l6.length ≤ 6) (.bool (vlR n1 l1 n2 l2 n3 l3 n4 l4 n5 l5 n6 l6)) := ⟨fun hp => by
 obtain ⟨p1, p2, p3, p4, p5, p6⟩ := hp
 by_cases v1 : validR n1 l1 n2 l2 = true <;> by_cases v2 : validR n3 l3 n4 l4 = true <;> by_cases v3 : validR n5 l5 n6 l6 = true
 all_goals (try (obtain ⟨a, rfl, rfl, rfl, rfl⟩ := validR_ex v1))
 all_goals (try (obtain ⟨b, rfl, rfl, rfl, rfl⟩ := validR_ex v2))
 all_goals (try (obtain ⟨c, rfl, rfl, rfl, rfl⟩ := validR_ex v3))
 all_goals refine den_of (τ := tab) tab_ok mixed_ Tryz.func43 rfl (by kernel_rfl) (by kernel_rfl) (by kernel_rfl) ?_
 all_goals (repeat' ((try (conv => whnf)); first
  | refine call_0 ?_
  | refine call_i ?_ ?_
  | refine call_c ?_ (fun _ => ?_) (fun _ => ?_)
  | (with_reducible refine onB_t ?_)
  | (with_reducible refine onB_f ?_)
  | (with_reducible refine onB_d (fun _ => ?_) (fun _ => ?_))
  | (with_reducible refine onB_n (fun _ => ?_) (fun _ => ?_))
  | refine OnB.mk (fun _ => ?_) (fun _ => ?_)
  | refine obl_i ?_ ?_
  | refine Drw.mk (by kernel_rfl) ?_
  | refine mks_i ?_ ?_
  | refine slp_i ?_ ?_
  | (with_reducible refine elem_u ?_ ?_)
  | (with_reducible refine elem_0 ?_)
  | (with_reducible refine elem_1 ?_)
  | refine Ends.mk ?_))
 all_goals (try refine Pr.mk ?_)
 all_goals (try simp only [sgnI_lt0, sgnI_zero, sgnI_le0, sgnI_gt0, sgnI_ge0, sgnI_eq1, cmpI_lt0, cmpI_gt0, cmpI_eq0, cmpI_le0, cmpI_ge0, cmpR_of, sgnR_of, sgnR_lt0, sgnR_eq0, sgnR_gt0, sgnR_le0, sgnR_ge0, sgnR_eq1, cmpR_lt0, cmpR_gt0, cmpR_eq0, cmpR_le0, cmpR_ge0] at *)
 all_goals (try simp only [validR_R] at *)
 all_goals first
  | omega
  | (refine bE ?_; exact vl_1 (by assumption))
  | (refine bE ?_; exact vl_2 (by assumption))
  | (exfalso; simp_all; done)
  | (refine bE ?_; unfold vcR; simp only [validR_R, sgnv_num, pos_num, Bool.true_and]; done)
  | (refine bE ?_; unfold vlR; simp only [validR_R, sgnv_num, zero_num, Bool.true_and]; done)
  | (refine bE ?_; unfold vcR; simp [validR_R, sgnv_num, *]; done)
  | (refine bE ?_; unfold vlR; simp [validR_R, sgnv_num, ← zero_num, *]; done)
  | ((repeat' apply And.intro) <;> first | assumption | (unfold rz sz; omega) | omega)
  | skip⟩

end Go.Proofs.YtkcoahciohejkaaGreat
