/-
  What the functions rational.unit, rational.whole, rational.exact, rational.reduce answer, each out of its text by the abstract run.
  What the functions rational.FromInt64, rational.Sign, rational.Neg, rational.Mul, rational.Add, rational.Sub, rational.Floor answer, each out of its text by the abstract run.
  What the functions swarfref01.DivMod answer, each out of its text by the abstract run.
  What the functions swarfref02.unit, swarfref02.Of, swarfref02.FromInt64, swarfref02.Frac, swarfref02.Sign, swarfref02.Neg, swarfref02.Mul, swarfref02.Add, swarfref02.Sub, swarfref02.Cmp, swarfref02.Floor answer, each out of its text by the abstract run.
  What the functions swarfref01.Valid answer, each out of its text by the abstract run.
  What the functions swarfref02.Valid answer, each out of its text by the abstract run.
  What the functions swarfref01.Sqrt answer, each out of its text by the abstract run.
  What the functions integer.Sqrt answer, each out of its text by the abstract run.
  Intervals of machine integers, and products of two words.
  What the filter computes with its intervals, in plain integers and fractions.
  Products of intervals.
  What the filter's laws compute beside the filter: shares, parts, exact signs.
  The examples of the filter's laws.
  Lists of fractions with bounded parts.
  Plain laws of the filter's intervals.
  Parts of intervals lead to parts of the results.
  The sign of A + B sqrt C, out of its sign at two numbers around the root.
  A sign that the filter knows is the exact one.
  Lines and circles: the sign at a point with a root.
  Fractions that are squares, and signs of numbers with a root.
  Conditions: none.
-/
import Derived.Test.YtghlkihmnopenaaGreatDoorM9
set_option linter.all false
namespace Go.Proofs.YtghlkihmnopenaaGreatDoor
open Go Go.RowKit Go.Sw
set_option linter.unusedVariables false
set_option maxRecDepth 100000
set_option maxHeartbeats 8000000
instance r_unit  : DenI Tryz.prog 81 [] (True) (Z 1) := ⟨fun hp => by
 refine den_of (τ := tab) tab_ok mixed_ Tryz.func81 rfl (by kernel_rfl) (by kernel_rfl) (by kernel_rfl) ?_
 repeat' ((try (conv => whnf)); first
  | refine call_0 ?_
  | refine call_i ?_ ?_
  | (with_reducible refine onB_t ?_)
  | (with_reducible refine onB_f ?_)
  | (with_reducible refine onB_d (fun _ => ?_) (fun _ => ?_))
  | (with_reducible refine onB_n (fun _ => ?_) (fun _ => ?_))
  | refine OnB.mk (fun _ => ?_) (fun _ => ?_)
  | refine obl_i ?_ ?_
  | refine Drw.mk (by kernel_rfl) ?_
  | refine mks_i ?_ ?_
  | refine slp_i ?_ ?_
  | (with_reducible refine elem_u ?_ ?_)
  | (with_reducible refine elem_0 ?_)
  | (with_reducible refine elem_1 ?_)
  | refine Ends.mk ?_)
 all_goals (try refine Pr.mk ?_)
 all_goals first | rfl | decide⟩

instance r_whole (n : Int) : DenI Tryz.prog 79 [Z n] (True) (R (n : Rat)) := ⟨fun hp => by
 refine den_of (τ := tab) tab_ok mixed_ Tryz.func79 rfl (by kernel_rfl) (by kernel_rfl) (by kernel_rfl) ?_
 repeat' ((try (conv => whnf)); first
  | refine call_0 ?_
  | refine call_i ?_ ?_
  | (with_reducible refine onB_t ?_)
  | (with_reducible refine onB_f ?_)
  | (with_reducible refine onB_d (fun _ => ?_) (fun _ => ?_))
  | (with_reducible refine onB_n (fun _ => ?_) (fun _ => ?_))
  | refine OnB.mk (fun _ => ?_) (fun _ => ?_)
  | refine obl_i ?_ ?_
  | refine Drw.mk (by kernel_rfl) ?_
  | refine mks_i ?_ ?_
  | refine slp_i ?_ ?_
  | (with_reducible refine elem_u ?_ ?_)
  | (with_reducible refine elem_0 ?_)
  | (with_reducible refine elem_1 ?_)
  | refine Ends.mk ?_)
 all_goals (try refine Pr.mk ?_)
 rfl⟩

instance r_exact (a b : Int) : DenI Tryz.prog 116 [Z a, Z b] (sz a ≤ 1000000000 ∧ sz b ≤ 1000000000) (Z (a.fdiv b)) := ⟨fun hp => by
 refine den_of (τ := tab) tab_ok mixed_ Tryz.func116 rfl (by kernel_rfl) (by kernel_rfl) (by kernel_rfl) ?_
 repeat' ((try (conv => whnf)); first
  | refine call_0 ?_
  | refine call_i ?_ ?_
  | (with_reducible refine onB_t ?_)
  | (with_reducible refine onB_f ?_)
  | (with_reducible refine onB_d (fun _ => ?_) (fun _ => ?_))
  | (with_reducible refine onB_n (fun _ => ?_) (fun _ => ?_))
  | refine OnB.mk (fun _ => ?_) (fun _ => ?_)
  | refine obl_i ?_ ?_
  | refine Drw.mk (by kernel_rfl) ?_
  | refine mks_i ?_ ?_
  | refine slp_i ?_ ?_
  | (with_reducible refine elem_u ?_ ?_)
  | (with_reducible refine elem_0 ?_)
  | (with_reducible refine elem_1 ?_)
  | refine Ends.mk ?_)
 all_goals (try refine Pr.mk ?_)
 all_goals first | rfl | exact hp⟩

instance r_reduce (n d : Int) : DenI Tryz.prog 89 [Z n, Z d] (d ≠ 0 ∧ sz n ≤ 1000000000 ∧ sz d ≤ 1000000000) (R ((n : Rat) / d)) := ⟨fun hp => by
 refine den_of (τ := tab) tab_ok mixed_ Tryz.func89 rfl (by kernel_rfl) (by kernel_rfl) (by kernel_rfl) ?_
 repeat' ((try (conv => whnf)); first
  | refine call_0 ?_
  | refine call_i ?_ ?_
  | (with_reducible refine onB_t ?_)
  | (with_reducible refine onB_f ?_)
  | (with_reducible refine onB_d (fun _ => ?_) (fun _ => ?_))
  | (with_reducible refine onB_n (fun _ => ?_) (fun _ => ?_))
  | refine OnB.mk (fun _ => ?_) (fun _ => ?_)
  | refine obl_i ?_ ?_
  | refine Drw.mk (by kernel_rfl) ?_
  | refine mks_i ?_ ?_
  | refine slp_i ?_ ?_
  | (with_reducible refine elem_u ?_ ?_)
  | (with_reducible refine elem_0 ?_)
  | (with_reducible refine elem_1 ?_)
  | refine Ends.mk ?_)
 all_goals (try refine Pr.mk ?_)
 all_goals obtain ⟨h0, h1, h2⟩ := hp
 all_goals (try simp only [sgnI_lt0, sgnI_zero, sgnI_le0, sgnI_gt0, sgnI_ge0, sgnI_eq1, cmpI_lt0, cmpI_gt0, cmpI_eq0, cmpI_le0, cmpI_ge0, cmpR_of, sgnR_of, sgnR_lt0, sgnR_eq0, sgnR_gt0, sgnR_le0, sgnR_ge0, sgnR_eq1, cmpR_lt0, cmpR_gt0, cmpR_eq0, cmpR_le0, cmpR_ge0] at *)
 all_goals first
  | (show packA _ = _; first | (by_cases hd : d < 0; (obtain ⟨q1, q2⟩ := red_neg (n := n) (d := d) hd; first | exact packR q1 q2 | (refine packR ?_ ?_ <;> simp_all)); (obtain ⟨q1, q2⟩ := red_pos (n := n) (d := d) (by omega); first | exact packR q1 q2 | (refine packR ?_ ?_ <;> simp_all))))
  | ((try simp only [sz_neg]); (repeat' apply And.intro) <;> first | assumption | exact sz_gcd (by (try simp only [sz_neg]); assumption) (by (try simp only [sz_neg]); assumption))⟩

end Go.Proofs.YtghlkihmnopenaaGreatDoor

namespace Go.Proofs.YtghlkihmnopenaaGreatDoor
open Go Go.RowKit Go.Sw
set_option linter.unusedVariables false
set_option maxRecDepth 100000
set_option maxHeartbeats 8000000
instance r_from (n : Int) : DenI Tryz.prog 47 [.int .i64 n] (-9223372036854775808 ≤ n ∧ n ≤ 9223372036854775807) (R (n : Rat)) := ⟨fun hp => by
 refine den_of (τ := tab) tab_ok mixed_ Tryz.func47 rfl (by kernel_rfl) (by kernel_rfl) (by kernel_rfl) ?_
 repeat' ((try (conv => whnf)); first
  | refine call_0 ?_
  | refine call_i ?_ ?_
  | (with_reducible refine onB_t ?_)
  | (with_reducible refine onB_f ?_)
  | (with_reducible refine onB_d (fun _ => ?_) (fun _ => ?_))
  | (with_reducible refine onB_n (fun _ => ?_) (fun _ => ?_))
  | refine OnB.mk (fun _ => ?_) (fun _ => ?_)
  | refine obl_i ?_ ?_
  | refine Drw.mk (by kernel_rfl) ?_
  | refine mks_i ?_ ?_
  | refine slp_i ?_ ?_
  | (with_reducible refine elem_u ?_ ?_)
  | (with_reducible refine elem_0 ?_)
  | (with_reducible refine elem_1 ?_)
  | refine Ends.mk ?_)
 all_goals (try refine Pr.mk ?_)
 all_goals (try simp only [sgnI_lt0, sgnI_zero, sgnI_le0, sgnI_gt0, sgnI_ge0, sgnI_eq1, cmpI_lt0, cmpI_gt0, cmpI_eq0, cmpI_le0, cmpI_ge0, cmpR_of, sgnR_of, sgnR_lt0, sgnR_eq0, sgnR_gt0, sgnR_le0, sgnR_ge0, sgnR_eq1, cmpR_lt0, cmpR_gt0, cmpR_eq0, cmpR_le0, cmpR_ge0] at *)
 all_goals first
  | (show packA _ = _; rfl)
  | ((repeat' apply And.intro) <;> first | assumption | omega | exact Int.mul_ne_zero (den_ne _) (den_ne _) | exact den_ne _ | grind [sz_mul, sz_add, sz_sub, sz_neg, rz_num, rz_den, rz_add, rz_mul, rz_neg, rz_sub, rz_int, sz_64, sz_one])⟩

instance r_sign (a : Rat) : DenI Tryz.prog 41 [R a] (True) (.int .i64 (sgnR a)) := ⟨fun hp => by
 refine den_of (τ := tab) tab_ok mixed_ Tryz.func41 rfl (by kernel_rfl) (by kernel_rfl) (by kernel_rfl) ?_
 repeat' ((try (conv => whnf)); first
  | refine call_0 ?_
  | refine call_i ?_ ?_
  | (with_reducible refine onB_t ?_)
  | (with_reducible refine onB_f ?_)
  | (with_reducible refine onB_d (fun _ => ?_) (fun _ => ?_))
  | (with_reducible refine onB_n (fun _ => ?_) (fun _ => ?_))
  | refine OnB.mk (fun _ => ?_) (fun _ => ?_)
  | refine obl_i ?_ ?_
  | refine Drw.mk (by kernel_rfl) ?_
  | refine mks_i ?_ ?_
  | refine slp_i ?_ ?_
  | (with_reducible refine elem_u ?_ ?_)
  | (with_reducible refine elem_0 ?_)
  | (with_reducible refine elem_1 ?_)
  | refine Ends.mk ?_)
 all_goals (try refine Pr.mk ?_)
 all_goals (try simp only [sgnI_lt0, sgnI_zero, sgnI_le0, sgnI_gt0, sgnI_ge0, sgnI_eq1, cmpI_lt0, cmpI_gt0, cmpI_eq0, cmpI_le0, cmpI_ge0, cmpR_of, sgnR_of, sgnR_lt0, sgnR_eq0, sgnR_gt0, sgnR_le0, sgnR_ge0, sgnR_eq1, cmpR_lt0, cmpR_gt0, cmpR_eq0, cmpR_le0, cmpR_ge0] at *)
 all_goals first
  | (show packA _ = _; rfl)
  | (skip)⟩

instance r_neg (a : Rat) : DenI Tryz.prog 54 [R a] (rz a ≤ 100000000) (R (-a)) := ⟨fun hp => by
 refine den_of (τ := tab) tab_ok mixed_ Tryz.func54 rfl (by kernel_rfl) (by kernel_rfl) (by kernel_rfl) ?_
 repeat' ((try (conv => whnf)); first
  | refine call_0 ?_
  | refine call_i ?_ ?_
  | (with_reducible refine onB_t ?_)
  | (with_reducible refine onB_f ?_)
  | (with_reducible refine onB_d (fun _ => ?_) (fun _ => ?_))
  | (with_reducible refine onB_n (fun _ => ?_) (fun _ => ?_))
  | refine OnB.mk (fun _ => ?_) (fun _ => ?_)
  | refine obl_i ?_ ?_
  | refine Drw.mk (by kernel_rfl) ?_
  | refine mks_i ?_ ?_
  | refine slp_i ?_ ?_
  | (with_reducible refine elem_u ?_ ?_)
  | (with_reducible refine elem_0 ?_)
  | (with_reducible refine elem_1 ?_)
  | refine Ends.mk ?_)
 all_goals (try refine Pr.mk ?_)
 all_goals (try simp only [sgnI_lt0, sgnI_zero, sgnI_le0, sgnI_gt0, sgnI_ge0, sgnI_eq1, cmpI_lt0, cmpI_gt0, cmpI_eq0, cmpI_le0, cmpI_ge0, cmpR_of, sgnR_of, sgnR_lt0, sgnR_eq0, sgnR_gt0, sgnR_le0, sgnR_ge0, sgnR_eq1, cmpR_lt0, cmpR_gt0, cmpR_eq0, cmpR_le0, cmpR_ge0] at *)
 all_goals first
  | (show packA _ = _; rfl)
  | ((repeat' apply And.intro) <;> first | assumption | omega | exact Int.mul_ne_zero (den_ne _) (den_ne _) | exact den_ne _ | grind [sz_mul, sz_add, sz_sub, sz_neg, rz_num, rz_den, rz_add, rz_mul, rz_neg, rz_sub, rz_int, sz_64, sz_one])⟩

instance r_mul (a b : Rat) : DenI Tryz.prog 43 [R a, R b] (rz a ≤ 100000000 ∧ rz b ≤ 100000000) (R (a * b)) := ⟨fun hp => by
 refine den_of (τ := tab) tab_ok mixed_ Tryz.func43 rfl (by kernel_rfl) (by kernel_rfl) (by kernel_rfl) ?_
 repeat' ((try (conv => whnf)); first
  | refine call_0 ?_
  | refine call_i ?_ ?_
  | (with_reducible refine onB_t ?_)
  | (with_reducible refine onB_f ?_)
  | (with_reducible refine onB_d (fun _ => ?_) (fun _ => ?_))
  | (with_reducible refine onB_n (fun _ => ?_) (fun _ => ?_))
  | refine OnB.mk (fun _ => ?_) (fun _ => ?_)
  | refine obl_i ?_ ?_
  | refine Drw.mk (by kernel_rfl) ?_
  | refine mks_i ?_ ?_
  | refine slp_i ?_ ?_
  | (with_reducible refine elem_u ?_ ?_)
  | (with_reducible refine elem_0 ?_)
  | (with_reducible refine elem_1 ?_)
  | refine Ends.mk ?_)
 all_goals (try refine Pr.mk ?_)
 all_goals (try simp only [sgnI_lt0, sgnI_zero, sgnI_le0, sgnI_gt0, sgnI_ge0, sgnI_eq1, cmpI_lt0, cmpI_gt0, cmpI_eq0, cmpI_le0, cmpI_ge0, cmpR_of, sgnR_of, sgnR_lt0, sgnR_eq0, sgnR_gt0, sgnR_le0, sgnR_ge0, sgnR_eq1, cmpR_lt0, cmpR_gt0, cmpR_eq0, cmpR_le0, cmpR_ge0] at *)
 all_goals first
  | (show packA _ = _; exact congrArg R (mul_div a b))
  | ((repeat' apply And.intro) <;> first | assumption | omega | exact Int.mul_ne_zero (den_ne _) (den_ne _) | exact den_ne _ | grind [sz_mul, sz_add, sz_sub, sz_neg, rz_num, rz_den, rz_add, rz_mul, rz_neg, rz_sub, rz_int, sz_64, sz_one])⟩

instance r_add (a b : Rat) : DenI Tryz.prog 42 [R a, R b] (rz a ≤ 100000000 ∧ rz b ≤ 100000000) (R (a + b)) := ⟨fun hp => by
 refine den_of (τ := tab) tab_ok mixed_ Tryz.func42 rfl (by kernel_rfl) (by kernel_rfl) (by kernel_rfl) ?_
 repeat' ((try (conv => whnf)); first
  | refine call_0 ?_
  | refine call_i ?_ ?_
  | (with_reducible refine onB_t ?_)
  | (with_reducible refine onB_f ?_)
  | (with_reducible refine onB_d (fun _ => ?_) (fun _ => ?_))
  | (with_reducible refine onB_n (fun _ => ?_) (fun _ => ?_))
  | refine OnB.mk (fun _ => ?_) (fun _ => ?_)
  | refine obl_i ?_ ?_
  | refine Drw.mk (by kernel_rfl) ?_
  | refine mks_i ?_ ?_
  | refine slp_i ?_ ?_
  | (with_reducible refine elem_u ?_ ?_)
  | (with_reducible refine elem_0 ?_)
  | (with_reducible refine elem_1 ?_)
  | refine Ends.mk ?_)
 all_goals (try refine Pr.mk ?_)
 all_goals (try simp only [sgnI_lt0, sgnI_zero, sgnI_le0, sgnI_gt0, sgnI_ge0, sgnI_eq1, cmpI_lt0, cmpI_gt0, cmpI_eq0, cmpI_le0, cmpI_ge0, cmpR_of, sgnR_of, sgnR_lt0, sgnR_eq0, sgnR_gt0, sgnR_le0, sgnR_ge0, sgnR_eq1, cmpR_lt0, cmpR_gt0, cmpR_eq0, cmpR_le0, cmpR_ge0] at *)
 all_goals first
  | (show packA _ = _; first | exact congrArg R (add_div a b) | exact congrArg R (add_div' a b (by assumption)))
  | ((repeat' apply And.intro) <;> first | assumption | omega | exact Int.mul_ne_zero (den_ne _) (den_ne _) | exact den_ne _ | grind [sz_mul, sz_add, sz_sub, sz_neg, rz_num, rz_den, rz_add, rz_mul, rz_neg, rz_sub, rz_int, sz_64, sz_one])⟩

instance r_sub (a b : Rat) : DenI Tryz.prog 53 [R a, R b] (rz a ≤ 100000000 ∧ rz b ≤ 100000000) (R (a - b)) := ⟨fun hp => by
 refine den_of (τ := tab) tab_ok mixed_ Tryz.func53 rfl (by kernel_rfl) (by kernel_rfl) (by kernel_rfl) ?_
 repeat' ((try (conv => whnf)); first
  | refine call_0 ?_
  | refine call_i ?_ ?_
  | (with_reducible refine onB_t ?_)
  | (with_reducible refine onB_f ?_)
  | (with_reducible refine onB_d (fun _ => ?_) (fun _ => ?_))
  | (with_reducible refine onB_n (fun _ => ?_) (fun _ => ?_))
  | refine OnB.mk (fun _ => ?_) (fun _ => ?_)
  | refine obl_i ?_ ?_
  | refine Drw.mk (by kernel_rfl) ?_
  | refine mks_i ?_ ?_
  | refine slp_i ?_ ?_
  | (with_reducible refine elem_u ?_ ?_)
  | (with_reducible refine elem_0 ?_)
  | (with_reducible refine elem_1 ?_)
  | refine Ends.mk ?_)
 all_goals (try refine Pr.mk ?_)
 all_goals (try simp only [sgnI_lt0, sgnI_zero, sgnI_le0, sgnI_gt0, sgnI_ge0, sgnI_eq1, cmpI_lt0, cmpI_gt0, cmpI_eq0, cmpI_le0, cmpI_ge0, cmpR_of, sgnR_of, sgnR_lt0, sgnR_eq0, sgnR_gt0, sgnR_le0, sgnR_ge0, sgnR_eq1, cmpR_lt0, cmpR_gt0, cmpR_eq0, cmpR_le0, cmpR_ge0] at *)
 all_goals first
  | (show packA _ = _; exact congrArg R (Rat.sub_eq_add_neg a b).symm)
  | ((repeat' apply And.intro) <;> first | assumption | omega | exact Int.mul_ne_zero (den_ne _) (den_ne _) | exact den_ne _ | grind [sz_mul, sz_add, sz_sub, sz_neg, rz_num, rz_den, rz_add, rz_mul, rz_neg, rz_sub, rz_int, sz_64, sz_one])⟩

instance r_floor (a : Rat) : DenI Tryz.prog 14 [R a] (rz a ≤ 100000000) (Z a.floor) := ⟨fun hp => by
 refine den_of (τ := tab) tab_ok mixed_ Tryz.func14 rfl (by kernel_rfl) (by kernel_rfl) (by kernel_rfl) ?_
 repeat' ((try (conv => whnf)); first
  | refine call_0 ?_
  | refine call_i ?_ ?_
  | (with_reducible refine onB_t ?_)
  | (with_reducible refine onB_f ?_)
  | (with_reducible refine onB_d (fun _ => ?_) (fun _ => ?_))
  | (with_reducible refine onB_n (fun _ => ?_) (fun _ => ?_))
  | refine OnB.mk (fun _ => ?_) (fun _ => ?_)
  | refine obl_i ?_ ?_
  | refine Drw.mk (by kernel_rfl) ?_
  | refine mks_i ?_ ?_
  | refine slp_i ?_ ?_
  | (with_reducible refine elem_u ?_ ?_)
  | (with_reducible refine elem_0 ?_)
  | (with_reducible refine elem_1 ?_)
  | refine Ends.mk ?_)
 all_goals (try refine Pr.mk ?_)
 all_goals (try simp only [sgnI_lt0, sgnI_zero, sgnI_le0, sgnI_gt0, sgnI_ge0, sgnI_eq1, cmpI_lt0, cmpI_gt0, cmpI_eq0, cmpI_le0, cmpI_ge0, cmpR_of, sgnR_of, sgnR_lt0, sgnR_eq0, sgnR_gt0, sgnR_le0, sgnR_ge0, sgnR_eq1, cmpR_lt0, cmpR_gt0, cmpR_eq0, cmpR_le0, cmpR_ge0] at *)
 all_goals first
  | (show packA _ = _; exact congrArg Z (floor_of a))
  | ((repeat' apply And.intro) <;> first | assumption | omega | exact Int.mul_ne_zero (den_ne _) (den_ne _) | exact den_ne _ | grind [sz_mul, sz_add, sz_sub, sz_neg, rz_num, rz_den, rz_add, rz_mul, rz_neg, rz_sub, rz_int, sz_64, sz_one])⟩

end Go.Proofs.YtghlkihmnopenaaGreatDoor

namespace Go.Proofs.YtghlkihmnopenaaGreatDoor
open Go Go.RowKit Go.Sw
set_option linter.unusedVariables false
set_option maxRecDepth 100000
set_option maxHeartbeats 8000000
instance ri_divmod (a b : Int) : DenI Tryz.prog 75 [Z a, Z b] (sz a ≤ 500000000 ∧ sz b ≤ 500000000) (.tup [Z (a.fdiv b), Z (if b = 0 then 0 else a.fmod b), .int .i64 (if b = 0 then 6 else 0)]) := ⟨fun hp => by
 refine den_of (τ := tab) tab_ok mixed_ Tryz.func75 rfl (by kernel_rfl) (by kernel_rfl) (by kernel_rfl) ?_
 repeat' ((try (conv => whnf)); first
  | refine call_0 ?_
  | refine call_i ?_ ?_
  | (with_reducible refine onB_t ?_)
  | (with_reducible refine onB_f ?_)
  | (with_reducible refine onB_d (fun _ => ?_) (fun _ => ?_))
  | (with_reducible refine onB_n (fun _ => ?_) (fun _ => ?_))
  | refine OnB.mk (fun _ => ?_) (fun _ => ?_)
  | refine obl_i ?_ ?_
  | refine Drw.mk (by kernel_rfl) ?_
  | refine mks_i ?_ ?_
  | refine slp_i ?_ ?_
  | (with_reducible refine elem_u ?_ ?_)
  | (with_reducible refine elem_0 ?_)
  | (with_reducible refine elem_1 ?_)
  | refine Ends.mk ?_)
 all_goals (try refine Pr.mk ?_)
 all_goals (try simp only [List.length_map, val_lim, cast_len0, cast_len1] at *)
 all_goals obtain ⟨h1, h2⟩ := hp
 all_goals (try simp only [sgnI_lt0, sgnI_zero, sgnI_le0, sgnI_gt0, sgnI_ge0, sgnI_eq1, cmpI_lt0, cmpI_gt0, cmpI_eq0, cmpI_le0, cmpI_ge0, cmpR_of, sgnR_of, sgnR_lt0, sgnR_eq0, sgnR_gt0, sgnR_le0, sgnR_ge0, sgnR_eq1, cmpR_lt0, cmpR_gt0, cmpR_eq0, cmpR_le0, cmpR_ge0] at *)
 all_goals first
  | (show packA _ = _; (first | (have hb0 : b = 0 := (by omega); subst hb0; exact rdm_zero a) | with_reducible exact rdm_turn (by assumption) (by assumption) (by assumption) | with_reducible exact rdm_keep (by assumption) (.inl (by omega)) | with_reducible exact rdm_keep (by assumption) (.inr (by simp_all))))
  | (have z1 := sz_sgnv (decide (a < 0) != decide (b < 0)) (a.natAbs / b.natAbs) a (Nat.div_le_self _ _); have z2 := sz_sgnv (decide (a < 0)) (a.natAbs % b.natAbs) a (Nat.mod_le _ _); have z3 := sz_one; (repeat' apply And.intro) <;> first | assumption | omega | exact CanL.lim _ | exact lb_lim _ | exact trimz_lim _ | (unfold sz at *; omega) | skip)⟩

end Go.Proofs.YtghlkihmnopenaaGreatDoor

namespace Go.Proofs.YtghlkihmnopenaaGreatDoor
open Go Go.RowKit Go.Sw
set_option linter.unusedVariables false
set_option maxRecDepth 100000
set_option maxHeartbeats 8000000
instance rr_unit  : DenI Tryz.prog 61 [] (True) (Z 1) := ⟨fun hp => by
 refine den_of (τ := tab) tab_ok mixed_ Tryz.func61 rfl (by kernel_rfl) (by kernel_rfl) (by kernel_rfl) ?_
 repeat' ((try (conv => whnf)); first
  | refine call_0 ?_
  | refine call_i ?_ ?_
  | (with_reducible refine onB_t ?_)
  | (with_reducible refine onB_f ?_)
  | (with_reducible refine onB_d (fun _ => ?_) (fun _ => ?_))
  | (with_reducible refine onB_n (fun _ => ?_) (fun _ => ?_))
  | refine OnB.mk (fun _ => ?_) (fun _ => ?_)
  | refine obl_i ?_ ?_
  | refine Drw.mk (by kernel_rfl) ?_
  | refine mks_i ?_ ?_
  | refine slp_i ?_ ?_
  | (with_reducible refine elem_u ?_ ?_)
  | (with_reducible refine elem_0 ?_)
  | (with_reducible refine elem_1 ?_)
  | refine Ends.mk ?_)
 all_goals (try refine Pr.mk ?_)
 all_goals first | rfl | decide⟩

instance rr_of (n d : Int) : DenI Tryz.prog 34 [Z n, Z d] (d ≠ 0 ∧ sz n ≤ 500000000 ∧ sz d ≤ 500000000) (R ((n : Rat) / d)) := ⟨fun hp => by
 refine den_of (τ := tab) tab_ok mixed_ Tryz.func34 rfl (by kernel_rfl) (by kernel_rfl) (by kernel_rfl) ?_
 repeat' ((try (conv => whnf)); first
  | refine call_0 ?_
  | refine call_i ?_ ?_
  | (with_reducible refine onB_t ?_)
  | (with_reducible refine onB_f ?_)
  | (with_reducible refine onB_d (fun _ => ?_) (fun _ => ?_))
  | (with_reducible refine onB_n (fun _ => ?_) (fun _ => ?_))
  | refine OnB.mk (fun _ => ?_) (fun _ => ?_)
  | refine obl_i ?_ ?_
  | refine Drw.mk (by kernel_rfl) ?_
  | refine mks_i ?_ ?_
  | refine slp_i ?_ ?_
  | (with_reducible refine elem_u ?_ ?_)
  | (with_reducible refine elem_0 ?_)
  | (with_reducible refine elem_1 ?_)
  | refine Ends.mk ?_)
 all_goals (try refine Pr.mk ?_)
 all_goals obtain ⟨h0, h1, h2⟩ := hp
 all_goals (try simp only [sgnI_lt0, sgnI_zero, sgnI_le0, sgnI_gt0, sgnI_ge0, sgnI_eq1, cmpI_lt0, cmpI_gt0, cmpI_eq0, cmpI_le0, cmpI_ge0, cmpR_of, sgnR_of, sgnR_lt0, sgnR_eq0, sgnR_gt0, sgnR_le0, sgnR_ge0, sgnR_eq1, cmpR_lt0, cmpR_gt0, cmpR_eq0, cmpR_le0, cmpR_ge0] at *)
 all_goals first
  | (show packA _ = _; first | (by_cases hd : d < 0; (obtain ⟨q1, q2⟩ := red_neg (n := n) (d := d) hd; first | exact packR q1 q2 | (refine packR ?_ ?_ <;> simp_all)); (obtain ⟨q1, q2⟩ := red_pos (n := n) (d := d) (by omega); first | exact packR q1 q2 | (refine packR ?_ ?_ <;> simp_all))))
  | ((try simp only [sz_neg]); (repeat' apply And.intro) <;> first | assumption | omega | exact sz_gcd (by (try simp only [sz_neg]); assumption) (by (try simp only [sz_neg]); assumption))⟩

instance rr_from (n : Int) : DenI Tryz.prog 20 [.int .i64 n] (-9223372036854775808 ≤ n ∧ n ≤ 9223372036854775807) (R (n : Rat)) := ⟨fun hp => by
 refine den_of (τ := tab) tab_ok mixed_ Tryz.func20 rfl (by kernel_rfl) (by kernel_rfl) (by kernel_rfl) ?_
 repeat' ((try (conv => whnf)); first
  | refine call_0 ?_
  | refine call_i ?_ ?_
  | (with_reducible refine onB_t ?_)
  | (with_reducible refine onB_f ?_)
  | (with_reducible refine onB_d (fun _ => ?_) (fun _ => ?_))
  | (with_reducible refine onB_n (fun _ => ?_) (fun _ => ?_))
  | refine OnB.mk (fun _ => ?_) (fun _ => ?_)
  | refine obl_i ?_ ?_
  | refine Drw.mk (by kernel_rfl) ?_
  | refine mks_i ?_ ?_
  | refine slp_i ?_ ?_
  | (with_reducible refine elem_u ?_ ?_)
  | (with_reducible refine elem_0 ?_)
  | (with_reducible refine elem_1 ?_)
  | refine Ends.mk ?_)
 all_goals (try refine Pr.mk ?_)
 all_goals (try simp only [sgnI_lt0, sgnI_zero, sgnI_le0, sgnI_gt0, sgnI_ge0, sgnI_eq1, cmpI_lt0, cmpI_gt0, cmpI_eq0, cmpI_le0, cmpI_ge0, cmpR_of, sgnR_of, sgnR_lt0, sgnR_eq0, sgnR_gt0, sgnR_le0, sgnR_ge0, sgnR_eq1, cmpR_lt0, cmpR_gt0, cmpR_eq0, cmpR_le0, cmpR_ge0] at *)
 all_goals first
  | (show packA _ = _; rfl)
  | (exact hp)⟩

instance rr_frac (n d : Int) : DenI Tryz.prog 49 [.int .i64 n, .int .i64 d] ((-9223372036854775808 ≤ n ∧ n ≤ 9223372036854775807) ∧ -9223372036854775808 ≤ d ∧ d ≤ 9223372036854775807) (R ((n : Rat) / d)) := ⟨fun hp => by
 refine den_of (τ := tab) tab_ok mixed_ Tryz.func49 rfl (by kernel_rfl) (by kernel_rfl) (by kernel_rfl) ?_
 repeat' ((try (conv => whnf)); first
  | refine call_0 ?_
  | refine call_i ?_ ?_
  | (with_reducible refine onB_t ?_)
  | (with_reducible refine onB_f ?_)
  | (with_reducible refine onB_d (fun _ => ?_) (fun _ => ?_))
  | (with_reducible refine onB_n (fun _ => ?_) (fun _ => ?_))
  | refine OnB.mk (fun _ => ?_) (fun _ => ?_)
  | refine obl_i ?_ ?_
  | refine Drw.mk (by kernel_rfl) ?_
  | refine mks_i ?_ ?_
  | refine slp_i ?_ ?_
  | (with_reducible refine elem_u ?_ ?_)
  | (with_reducible refine elem_0 ?_)
  | (with_reducible refine elem_1 ?_)
  | refine Ends.mk ?_)
 all_goals (try refine Pr.mk ?_)
 all_goals obtain ⟨⟨h1, h2⟩, h3, h4⟩ := hp
 all_goals (try simp only [sgnI_lt0, sgnI_zero, sgnI_le0, sgnI_gt0, sgnI_ge0, sgnI_eq1, cmpI_lt0, cmpI_gt0, cmpI_eq0, cmpI_le0, cmpI_ge0, cmpR_of, sgnR_of, sgnR_lt0, sgnR_eq0, sgnR_gt0, sgnR_le0, sgnR_ge0, sgnR_eq1, cmpR_lt0, cmpR_gt0, cmpR_eq0, cmpR_le0, cmpR_ge0] at *)
 all_goals first
  | (show packA _ = _; first | rfl | (subst d; exact congrArg R (frac0 n)))
  | (have z1 := sz_64 h1 h2; have z2 := sz_64 h3 h4; have z3 := sz_one; have z4 := sz_64 (n := 0) (by omega) (by omega); (repeat' apply And.intro) <;> first | assumption | omega | exact Int.mul_ne_zero (den_ne _) (den_ne _) | exact den_ne _ | grind [sz_mul, sz_add, sz_sub, sz_neg, rz_num, rz_den, rz_add, rz_mul, rz_neg, rz_sub, rz_int, sz_64, sz_one])⟩

instance rr_sign (a : Rat) : DenI Tryz.prog 18 [R a] (True) (.int .i64 (sgnR a)) := ⟨fun hp => by
 refine den_of (τ := tab) tab_ok mixed_ Tryz.func18 rfl (by kernel_rfl) (by kernel_rfl) (by kernel_rfl) ?_
 repeat' ((try (conv => whnf)); first
  | refine call_0 ?_
  | refine call_i ?_ ?_
  | (with_reducible refine onB_t ?_)
  | (with_reducible refine onB_f ?_)
  | (with_reducible refine onB_d (fun _ => ?_) (fun _ => ?_))
  | (with_reducible refine onB_n (fun _ => ?_) (fun _ => ?_))
  | refine OnB.mk (fun _ => ?_) (fun _ => ?_)
  | refine obl_i ?_ ?_
  | refine Drw.mk (by kernel_rfl) ?_
  | refine mks_i ?_ ?_
  | refine slp_i ?_ ?_
  | (with_reducible refine elem_u ?_ ?_)
  | (with_reducible refine elem_0 ?_)
  | (with_reducible refine elem_1 ?_)
  | refine Ends.mk ?_)
 all_goals (try refine Pr.mk ?_)
 all_goals (try simp only [sgnI_lt0, sgnI_zero, sgnI_le0, sgnI_gt0, sgnI_ge0, sgnI_eq1, cmpI_lt0, cmpI_gt0, cmpI_eq0, cmpI_le0, cmpI_ge0, cmpR_of, sgnR_of, sgnR_lt0, sgnR_eq0, sgnR_gt0, sgnR_le0, sgnR_ge0, sgnR_eq1, cmpR_lt0, cmpR_gt0, cmpR_eq0, cmpR_le0, cmpR_ge0] at *)
 all_goals first
  | (show packA _ = _; rfl)
  | (skip)⟩

instance rr_neg (a : Rat) : DenI Tryz.prog 26 [R a] (rz a ≤ 100000000) (R (-a)) := ⟨fun hp => by
 refine den_of (τ := tab) tab_ok mixed_ Tryz.func26 rfl (by kernel_rfl) (by kernel_rfl) (by kernel_rfl) ?_
 repeat' ((try (conv => whnf)); first
  | refine call_0 ?_
  | refine call_i ?_ ?_
  | (with_reducible refine onB_t ?_)
  | (with_reducible refine onB_f ?_)
  | (with_reducible refine onB_d (fun _ => ?_) (fun _ => ?_))
  | (with_reducible refine onB_n (fun _ => ?_) (fun _ => ?_))
  | refine OnB.mk (fun _ => ?_) (fun _ => ?_)
  | refine obl_i ?_ ?_
  | refine Drw.mk (by kernel_rfl) ?_
  | refine mks_i ?_ ?_
  | refine slp_i ?_ ?_
  | (with_reducible refine elem_u ?_ ?_)
  | (with_reducible refine elem_0 ?_)
  | (with_reducible refine elem_1 ?_)
  | refine Ends.mk ?_)
 all_goals (try refine Pr.mk ?_)
 all_goals (try simp only [sgnI_lt0, sgnI_zero, sgnI_le0, sgnI_gt0, sgnI_ge0, sgnI_eq1, cmpI_lt0, cmpI_gt0, cmpI_eq0, cmpI_le0, cmpI_ge0, cmpR_of, sgnR_of, sgnR_lt0, sgnR_eq0, sgnR_gt0, sgnR_le0, sgnR_ge0, sgnR_eq1, cmpR_lt0, cmpR_gt0, cmpR_eq0, cmpR_le0, cmpR_ge0] at *)
 all_goals first
  | (show packA _ = _; rfl)
  | ((repeat' apply And.intro) <;> first | assumption | omega | exact Int.mul_ne_zero (den_ne _) (den_ne _) | exact den_ne _ | grind [sz_mul, sz_add, sz_sub, sz_neg, rz_num, rz_den, rz_add, rz_mul, rz_neg, rz_sub, rz_int, sz_64, sz_one])⟩

instance rr_mul (a b : Rat) : DenI Tryz.prog 25 [R a, R b] (rz a ≤ 100000000 ∧ rz b ≤ 100000000) (R (a * b)) := ⟨fun hp => by
 refine den_of (τ := tab) tab_ok mixed_ Tryz.func25 rfl (by kernel_rfl) (by kernel_rfl) (by kernel_rfl) ?_
 repeat' ((try (conv => whnf)); first
  | refine call_0 ?_
  | refine call_i ?_ ?_
  | (with_reducible refine onB_t ?_)
  | (with_reducible refine onB_f ?_)
  | (with_reducible refine onB_d (fun _ => ?_) (fun _ => ?_))
  | (with_reducible refine onB_n (fun _ => ?_) (fun _ => ?_))
  | refine OnB.mk (fun _ => ?_) (fun _ => ?_)
  | refine obl_i ?_ ?_
  | refine Drw.mk (by kernel_rfl) ?_
  | refine mks_i ?_ ?_
  | refine slp_i ?_ ?_
  | (with_reducible refine elem_u ?_ ?_)
  | (with_reducible refine elem_0 ?_)
  | (with_reducible refine elem_1 ?_)
  | refine Ends.mk ?_)
 all_goals (try refine Pr.mk ?_)
 all_goals (try simp only [sgnI_lt0, sgnI_zero, sgnI_le0, sgnI_gt0, sgnI_ge0, sgnI_eq1, cmpI_lt0, cmpI_gt0, cmpI_eq0, cmpI_le0, cmpI_ge0, cmpR_of, sgnR_of, sgnR_lt0, sgnR_eq0, sgnR_gt0, sgnR_le0, sgnR_ge0, sgnR_eq1, cmpR_lt0, cmpR_gt0, cmpR_eq0, cmpR_le0, cmpR_ge0] at *)
 all_goals first
  | (show packA _ = _; exact congrArg R (mul_div a b))
  | ((repeat' apply And.intro) <;> first | assumption | omega | exact Int.mul_ne_zero (den_ne _) (den_ne _) | exact den_ne _ | grind [sz_mul, sz_add, sz_sub, sz_neg, rz_num, rz_den, rz_add, rz_mul, rz_neg, rz_sub, rz_int, sz_64, sz_one])⟩

instance rr_add (a b : Rat) : DenI Tryz.prog 52 [R a, R b] (rz a ≤ 100000000 ∧ rz b ≤ 100000000) (R (a + b)) := ⟨fun hp => by
 refine den_of (τ := tab) tab_ok mixed_ Tryz.func52 rfl (by kernel_rfl) (by kernel_rfl) (by kernel_rfl) ?_
 repeat' ((try (conv => whnf)); first
  | refine call_0 ?_
  | refine call_i ?_ ?_
  | (with_reducible refine onB_t ?_)
  | (with_reducible refine onB_f ?_)
  | (with_reducible refine onB_d (fun _ => ?_) (fun _ => ?_))
  | (with_reducible refine onB_n (fun _ => ?_) (fun _ => ?_))
  | refine OnB.mk (fun _ => ?_) (fun _ => ?_)
  | refine obl_i ?_ ?_
  | refine Drw.mk (by kernel_rfl) ?_
  | refine mks_i ?_ ?_
  | refine slp_i ?_ ?_
  | (with_reducible refine elem_u ?_ ?_)
  | (with_reducible refine elem_0 ?_)
  | (with_reducible refine elem_1 ?_)
  | refine Ends.mk ?_)
 all_goals (try refine Pr.mk ?_)
 all_goals (try simp only [sgnI_lt0, sgnI_zero, sgnI_le0, sgnI_gt0, sgnI_ge0, sgnI_eq1, cmpI_lt0, cmpI_gt0, cmpI_eq0, cmpI_le0, cmpI_ge0, cmpR_of, sgnR_of, sgnR_lt0, sgnR_eq0, sgnR_gt0, sgnR_le0, sgnR_ge0, sgnR_eq1, cmpR_lt0, cmpR_gt0, cmpR_eq0, cmpR_le0, cmpR_ge0] at *)
 all_goals first
  | (show packA _ = _; exact congrArg R (add_div a b))
  | ((repeat' apply And.intro) <;> first | assumption | omega | exact Int.mul_ne_zero (den_ne _) (den_ne _) | exact den_ne _ | grind [sz_mul, sz_add, sz_sub, sz_neg, rz_num, rz_den, rz_add, rz_mul, rz_neg, rz_sub, rz_int, sz_64, sz_one])⟩

instance rr_sub (a b : Rat) : DenI Tryz.prog 16 [R a, R b] (rz a ≤ 100000000 ∧ rz b ≤ 100000000) (R (a - b)) := ⟨fun hp => by
 refine den_of (τ := tab) tab_ok mixed_ Tryz.func16 rfl (by kernel_rfl) (by kernel_rfl) (by kernel_rfl) ?_
 repeat' ((try (conv => whnf)); first
  | refine call_0 ?_
  | refine call_i ?_ ?_
  | (with_reducible refine onB_t ?_)
  | (with_reducible refine onB_f ?_)
  | (with_reducible refine onB_d (fun _ => ?_) (fun _ => ?_))
  | (with_reducible refine onB_n (fun _ => ?_) (fun _ => ?_))
  | refine OnB.mk (fun _ => ?_) (fun _ => ?_)
  | refine obl_i ?_ ?_
  | refine Drw.mk (by kernel_rfl) ?_
  | refine mks_i ?_ ?_
  | refine slp_i ?_ ?_
  | (with_reducible refine elem_u ?_ ?_)
  | (with_reducible refine elem_0 ?_)
  | (with_reducible refine elem_1 ?_)
  | refine Ends.mk ?_)
 all_goals (try refine Pr.mk ?_)
 all_goals (try simp only [sgnI_lt0, sgnI_zero, sgnI_le0, sgnI_gt0, sgnI_ge0, sgnI_eq1, cmpI_lt0, cmpI_gt0, cmpI_eq0, cmpI_le0, cmpI_ge0, cmpR_of, sgnR_of, sgnR_lt0, sgnR_eq0, sgnR_gt0, sgnR_le0, sgnR_ge0, sgnR_eq1, cmpR_lt0, cmpR_gt0, cmpR_eq0, cmpR_le0, cmpR_ge0] at *)
 all_goals first
  | (show packA _ = _; exact congrArg R (Rat.sub_eq_add_neg a b).symm)
  | ((repeat' apply And.intro) <;> first | assumption | omega | exact Int.mul_ne_zero (den_ne _) (den_ne _) | exact den_ne _ | grind [sz_mul, sz_add, sz_sub, sz_neg, rz_num, rz_den, rz_add, rz_mul, rz_neg, rz_sub, rz_int, sz_64, sz_one])⟩

instance rr_cmp (a b : Rat) : DenI Tryz.prog 19 [R a, R b] (rz a ≤ 100000000 ∧ rz b ≤ 100000000) (.int .i64 (cmpR a b)) := ⟨fun hp => by
 refine den_of (τ := tab) tab_ok mixed_ Tryz.func19 rfl (by kernel_rfl) (by kernel_rfl) (by kernel_rfl) ?_
 repeat' ((try (conv => whnf)); first
  | refine call_0 ?_
  | refine call_i ?_ ?_
  | (with_reducible refine onB_t ?_)
  | (with_reducible refine onB_f ?_)
  | (with_reducible refine onB_d (fun _ => ?_) (fun _ => ?_))
  | (with_reducible refine onB_n (fun _ => ?_) (fun _ => ?_))
  | refine OnB.mk (fun _ => ?_) (fun _ => ?_)
  | refine obl_i ?_ ?_
  | refine Drw.mk (by kernel_rfl) ?_
  | refine mks_i ?_ ?_
  | refine slp_i ?_ ?_
  | (with_reducible refine elem_u ?_ ?_)
  | (with_reducible refine elem_0 ?_)
  | (with_reducible refine elem_1 ?_)
  | refine Ends.mk ?_)
 all_goals (try refine Pr.mk ?_)
 all_goals (try simp only [sgnI_lt0, sgnI_zero, sgnI_le0, sgnI_gt0, sgnI_ge0, sgnI_eq1, cmpI_lt0, cmpI_gt0, cmpI_eq0, cmpI_le0, cmpI_ge0, cmpR_of, sgnR_of, sgnR_lt0, sgnR_eq0, sgnR_gt0, sgnR_le0, sgnR_ge0, sgnR_eq1, cmpR_lt0, cmpR_gt0, cmpR_eq0, cmpR_le0, cmpR_ge0] at *)
 all_goals first
  | (show packA _ = _; rfl)
  | ((repeat' apply And.intro) <;> first | assumption | omega | exact Int.mul_ne_zero (den_ne _) (den_ne _) | exact den_ne _ | grind [sz_mul, sz_add, sz_sub, sz_neg, rz_num, rz_den, rz_add, rz_mul, rz_neg, rz_sub, rz_int, sz_64, sz_one])⟩

instance rr_floor (a : Rat) : DenI Tryz.prog 32 [R a] (rz a ≤ 100000000) (Z a.floor) := ⟨fun hp => by
 refine den_of (τ := tab) tab_ok mixed_ Tryz.func32 rfl (by kernel_rfl) (by kernel_rfl) (by kernel_rfl) ?_
 repeat' ((try (conv => whnf)); first
  | refine call_0 ?_
  | refine call_i ?_ ?_
  | (with_reducible refine onB_t ?_)
  | (with_reducible refine onB_f ?_)
  | (with_reducible refine onB_d (fun _ => ?_) (fun _ => ?_))
  | (with_reducible refine onB_n (fun _ => ?_) (fun _ => ?_))
  | refine OnB.mk (fun _ => ?_) (fun _ => ?_)
  | refine obl_i ?_ ?_
  | refine Drw.mk (by kernel_rfl) ?_
  | refine mks_i ?_ ?_
  | refine slp_i ?_ ?_
  | (with_reducible refine elem_u ?_ ?_)
  | (with_reducible refine elem_0 ?_)
  | (with_reducible refine elem_1 ?_)
  | refine Ends.mk ?_)
 all_goals (try refine Pr.mk ?_)
 all_goals (try simp only [sgnI_lt0, sgnI_zero, sgnI_le0, sgnI_gt0, sgnI_ge0, sgnI_eq1, cmpI_lt0, cmpI_gt0, cmpI_eq0, cmpI_le0, cmpI_ge0, cmpR_of, sgnR_of, sgnR_lt0, sgnR_eq0, sgnR_gt0, sgnR_le0, sgnR_ge0, sgnR_eq1, cmpR_lt0, cmpR_gt0, cmpR_eq0, cmpR_le0, cmpR_ge0] at *)
 all_goals first
  | (show packA _ = _; exact congrArg Z (floor_of a))
  | ((repeat' apply And.intro) <;> first | assumption | omega | exact Int.mul_ne_zero (den_ne _) (den_ne _) | exact den_ne _ | grind [sz_mul, sz_add, sz_sub, sz_neg, rz_num, rz_den, rz_add, rz_mul, rz_neg, rz_sub, rz_int, sz_64, sz_one])⟩

end Go.Proofs.YtghlkihmnopenaaGreatDoor

namespace Go.Proofs.YtghlkihmnopenaaGreatDoor
open Go Go.RowKit Go.Sw
set_option linter.unusedVariables false
set_option maxRecDepth 100000
set_option maxHeartbeats 8000000
instance ri_valid (neg : Bool) (l : List Nat) : DenI Tryz.prog 15 [Zr neg l] (l.length ≤ 9223372036854775807) (.bool (validL neg l)) := ⟨fun hp => by
 refine den_of (τ := tab) tab_ok mixed_ Tryz.func15 rfl (by kernel_rfl) (by kernel_rfl) (by kernel_rfl) ?_
 repeat' ((try (conv => whnf)); first
  | refine call_0 ?_
  | refine call_i ?_ ?_
  | (with_reducible refine onB_t ?_)
  | (with_reducible refine onB_f ?_)
  | (with_reducible refine onB_d (fun _ => ?_) (fun _ => ?_))
  | (with_reducible refine onB_n (fun _ => ?_) (fun _ => ?_))
  | refine OnB.mk (fun _ => ?_) (fun _ => ?_)
  | refine obl_i ?_ ?_
  | refine Drw.mk (by kernel_rfl) ?_
  | refine mks_i ?_ ?_
  | refine slp_i ?_ ?_
  | (with_reducible refine elem_u ?_ ?_)
  | (with_reducible refine elem_0 ?_)
  | (with_reducible refine elem_1 ?_)
  | refine Ends.mk ?_)
 all_goals (try refine Pr.mk ?_)
 all_goals first
  | ((conv => whnf); refine Sw.Loop.inv (α := Nat) (fun x => [(1, .ptr 1 0), (2, .bool false), (3, .int .i64 x)]) (fun x => [(1, .var [.v (.bool neg), lmc l])]) (fun x => x ≤ l.length ∧ ∀ j, j < x → l.getD j 0 < 1000000000) (fun x => l.length - x) 0 ?_ ?_ ?_ (fun x hx => ?_))
  | skip
 all_goals (repeat' ((try (conv => whnf)); first
  | refine call_0 ?_
  | refine call_i ?_ ?_
  | (with_reducible refine onB_t ?_)
  | (with_reducible refine onB_f ?_)
  | (with_reducible refine onB_d (fun _ => ?_) (fun _ => ?_))
  | (with_reducible refine onB_n (fun _ => ?_) (fun _ => ?_))
  | refine OnB.mk (fun _ => ?_) (fun _ => ?_)
  | refine obl_i ?_ ?_
  | refine Drw.mk (by kernel_rfl) ?_
  | refine mks_i ?_ ?_
  | refine slp_i ?_ ?_
  | (with_reducible refine elem_u ?_ ?_)
  | (with_reducible refine elem_0 ?_)
  | (with_reducible refine elem_1 ?_)
  | refine Ends.mk ?_))
 all_goals (try refine Pr.mk ?_)
 all_goals first | (show SubE _ _; repeat' (first | exact trivial | refine And.intro ?_ ?_)) | (show SubB _ _; repeat' (first | exact trivial | refine And.intro ?_ ?_)) | skip
 all_goals (try rfl)
 all_goals (try simp only [List.length_map, Int.toNat_natCast] at *)
 all_goals first
  | exact bE (rv_bad (x := x) (by omega) (by assumption))
  | (refine bE ?_; rw [rv_end hx (by assumption)]; (have hh : (trimz l).length = l.length := by omega); simp_all; done)
  | (refine bE ?_; rw [rv_end hx (by assumption)]; (have hh : ¬(trimz l).length = l.length := by omega); simp_all; done)
  | ((conv => whnf); exact ⟨x + 1, ⟨⟨rfl, rfl, inc64 (by omega), trivial⟩, ⟨rfl, trivial⟩, ⟨by omega, fun j hj => by rcases Nat.lt_succ_iff_lt_or_eq.1 hj with h | h; exact hx.2 j h; subst h; omega⟩, by show l.length - (x + 1) < l.length - x; omega⟩⟩)
  | omega
  | exact ⟨by omega, fun j hj => by omega⟩⟩

end Go.Proofs.YtghlkihmnopenaaGreatDoor

namespace Go.Proofs.YtghlkihmnopenaaGreatDoor
open Go Go.RowKit Go.Sw
set_option linter.unusedVariables false
set_option maxRecDepth 100000
set_option maxHeartbeats 8000000
instance rr_valid (n1 : Bool) (l1 : List Nat) (n2 : Bool) (l2 : List Nat) : DenI Tryz.prog 29 [Rr n1 l1 n2 l2] (l1.length ≤ 1000000000 ∧ l2.length ≤ 1000000000) (.bool (validR n1 l1 n2 l2)) := ⟨fun hp => by
 rcases valid_cases n1 l1 n2 l2 with h | ⟨x, rfl, rfl, h⟩ | ⟨x, y, rfl, rfl, rfl, rfl⟩
 all_goals refine den_of (τ := tab) tab_ok mixed_ Tryz.func29 rfl (by kernel_rfl) (by kernel_rfl) (by kernel_rfl) ?_
 all_goals (repeat' ((try (conv => whnf)); first
  | refine call_0 ?_
  | refine call_i ?_ ?_
  | (with_reducible refine onB_t ?_)
  | (with_reducible refine onB_f ?_)
  | (with_reducible refine onB_d (fun _ => ?_) (fun _ => ?_))
  | (with_reducible refine onB_n (fun _ => ?_) (fun _ => ?_))
  | refine OnB.mk (fun _ => ?_) (fun _ => ?_)
  | refine obl_i ?_ ?_
  | refine Drw.mk (by kernel_rfl) ?_
  | refine mks_i ?_ ?_
  | refine slp_i ?_ ?_
  | (with_reducible refine elem_u ?_ ?_)
  | (with_reducible refine elem_0 ?_)
  | (with_reducible refine elem_1 ?_)
  | refine Ends.mk ?_))
 all_goals (try refine Pr.mk ?_)
 all_goals first
  | (simp only [validL_lim] at *; exfalso; simp_all; done)
  | (exfalso; clear hp; simp at *; done)
  | (exfalso; simp_all; done)
  | (refine bE ?_; rw [validR_int]; simp_all; done)
  | exact bE (by unfold validR; simp_all)
  | exact hp
  | (first | exact Nat.le_trans hp.1 (by decide) | exact Nat.le_trans hp.2 (by decide))⟩

end Go.Proofs.YtghlkihmnopenaaGreatDoor

namespace Go.Proofs.YtghlkihmnopenaaGreatDoor
open Go Go.RowKit Go.Sw
set_option linter.unusedVariables false
set_option maxRecDepth 100000
set_option maxHeartbeats 8000000
instance ri_sqrt (a : Int) : DenI Tryz.prog 99 [Z a] (sz a ≤ 100000000) (.tup [Z (if a < 0 then 0 else isq a.natAbs), .int .i64 (if a < 0 then 7 else 0)]) := ⟨fun hp => by
 refine den_of (τ := tab) tab_ok mixed_ Tryz.func99 rfl (by kernel_rfl) (by kernel_rfl) (by kernel_rfl) ?_
 repeat' ((try (conv => whnf)); first
  | refine call_0 ?_
  | refine call_i ?_ ?_
  | (with_reducible refine onB_t ?_)
  | (with_reducible refine onB_f ?_)
  | (with_reducible refine onB_d (fun _ => ?_) (fun _ => ?_))
  | (with_reducible refine onB_n (fun _ => ?_) (fun _ => ?_))
  | refine OnB.mk (fun _ => ?_) (fun _ => ?_)
  | refine obl_i ?_ ?_
  | refine Drw.mk (by kernel_rfl) ?_
  | refine mks_i ?_ ?_
  | refine slp_i ?_ ?_
  | (with_reducible refine elem_u ?_ ?_)
  | (with_reducible refine elem_0 ?_)
  | (with_reducible refine elem_1 ?_)
  | refine Ends.mk ?_)
 all_goals (try refine Pr.mk ?_)
 all_goals have hl : (lim a.natAbs).length ≤ 100000000 := hp
 all_goals first
  | ((conv => whnf); refine Sw.Loop.inv (α := Nat) (fun x => [(1, .ptr 1 0), (2, .ptr 2 0), (3, .int .i64 0), (4, .ptr 4 0), (5, .ptr 5 0)]) (fun x => [(1, .var [zs a, zl a]), (2, .var [.v (.bool false), .sl 1 []]), (4, .var [zs x, zl x]), (5, .var [zs 2, zl 2])]) (fun x => 0 < x ∧ a.natAbs < (x + 1) * (x + 1) ∧ sz x ≤ 200000000) (fun x => x) (1000000000 ^ (((lim a.natAbs).length + 1) / 2)) ?_ ?_ ?_ (fun x hx => ?_))
  | skip
 all_goals (repeat' ((try (conv => whnf)); first
  | refine call_0 ?_
  | refine call_i ?_ ?_
  | (with_reducible refine onB_t ?_)
  | (with_reducible refine onB_f ?_)
  | (with_reducible refine onB_d (fun _ => ?_) (fun _ => ?_))
  | (with_reducible refine onB_n (fun _ => ?_) (fun _ => ?_))
  | refine OnB.mk (fun _ => ?_) (fun _ => ?_)
  | refine obl_i ?_ ?_
  | refine Drw.mk (by kernel_rfl) ?_
  | refine mks_i ?_ ?_
  | refine slp_i ?_ ?_
  | (with_reducible refine elem_u ?_ ?_)
  | (with_reducible refine elem_0 ?_)
  | (with_reducible refine elem_1 ?_)
  | refine Ends.mk ?_))
 all_goals (try refine Pr.mk ?_)
 all_goals first | (show SubE _ _; repeat' (first | exact trivial | refine And.intro ?_ ?_)) | (show SubB _ _; repeat' (first | exact trivial | refine And.intro ?_ ?_)) | skip
 all_goals (try rfl)
 all_goals (try simp only [sgnI_lt0, sgnI_zero, sgnI_le0, sgnI_gt0, sgnI_ge0, sgnI_eq1, cmpI_lt0, cmpI_gt0, cmpI_eq0, cmpI_le0, cmpI_ge0, cmpR_of, sgnR_of, sgnR_lt0, sgnR_eq0, sgnR_gt0, sgnR_le0, sgnR_ge0, sgnR_eq1, cmpR_lt0, cmpR_gt0, cmpR_eq0, cmpR_le0, cmpR_ge0] at *)
 all_goals (try simp only [List.length_map, val_lim, cast_len0, cast_len1] at *)
 all_goals (try rw [half_len (by omega)])
 all_goals (try simp only [fdiv_nat (show 0 ≤ a by omega), fdiv_two] at *)
 all_goals first
  | exact rsq_neg (by assumption)
  | exact rsq_zero (by assumption) (by assumption)
  | with_reducible exact rsq_end (by assumption) (by assumption) (by assumption)
  | ((conv => whnf); exact ⟨(x + a.natAbs / x) / 2, ⟨⟨rfl, rfl, rfl, rfl, rfl, trivial⟩, ⟨rfl, rfl, rfl, rfl, trivial⟩, rsq_step (by assumption) (by assumption) (by assumption), by show (x + a.natAbs / x) / 2 < x; omega⟩⟩)
  | (refine (congrArg (fun c => some (Bk.var c)) ?_ : some (Bk.var _) = some (Bk.var _)); exact pow_cells _)
  | exact sqrt_facts rfl hl
  | (have z1 := @sz_quot a; have z2 := sz_add; have z3 := sz_one; have z4 := sz_64 (n := 2) (by omega) (by omega); (repeat' apply And.intro) <;> first | assumption | omega | decide | (simp only [Int.toNat_natCast, List.length_replicate, List.length_append, List.length_cons, List.length_nil]; omega) | (simp; done) | (have z5 := z1 (x := x); have z6 := z2 x ((a.natAbs / x : Nat) : Int); omega) | skip)⟩

end Go.Proofs.YtghlkihmnopenaaGreatDoor

namespace Go.Proofs.YtghlkihmnopenaaGreatDoor
open Go Go.RowKit Go.Sw
set_option linter.unusedVariables false
set_option maxRecDepth 100000
set_option maxHeartbeats 8000000
instance (k : Nat) : DenI Tryz.prog 95 [.bool false, .c (.sl 1 (List.replicate k [Cell.v (.int .u32 0)] ++ [[Cell.v (.int .u32 1)]]))] True (Z ((1000000000 ^ k : Nat) : Int)) := ⟨fun _ => by
 have h := (inferInstance : DenI Tryz.prog 95 [.bool false, .c (lmc (List.replicate k 0 ++ [1]))] _ _).den ((lb_zeros k).append (Lb.cons (by omega) Lb.nil))
 rw [sqrt_start] at h
 unfold lmc at h
 rw [List.map_append, List.map_replicate] at h
 exact h⟩
instance i_sqrt (a : Int) : DenI Tryz.prog 98 [Z a] (sz a ≤ 100000000) (.tup [Z (if a < 0 then 0 else isq a.natAbs), .int .i64 (if a < 0 then 7 else 0)]) := ⟨fun hp => by
 refine den_of (τ := tab) tab_ok mixed_ Tryz.func98 rfl (by kernel_rfl) (by kernel_rfl) (by kernel_rfl) ?_
 repeat' ((try (conv => whnf)); first
  | refine call_0 ?_
  | refine call_i ?_ ?_
  | (with_reducible refine onB_t ?_)
  | (with_reducible refine onB_f ?_)
  | (with_reducible refine onB_d (fun _ => ?_) (fun _ => ?_))
  | (with_reducible refine onB_n (fun _ => ?_) (fun _ => ?_))
  | refine OnB.mk (fun _ => ?_) (fun _ => ?_)
  | refine obl_i ?_ ?_
  | refine Drw.mk (by kernel_rfl) ?_
  | refine mks_i ?_ ?_
  | refine slp_i ?_ ?_
  | (with_reducible refine elem_u ?_ ?_)
  | (with_reducible refine elem_0 ?_)
  | (with_reducible refine elem_1 ?_)
  | refine Ends.mk ?_)
 all_goals (try refine Pr.mk ?_)
 all_goals have hl : (lim a.natAbs).length ≤ 100000000 := hp
 all_goals first
  | ((conv => whnf); refine Sw.Loop.inv (α := Nat) (fun x => [(1, .ptr 1 0), (2, .ptr 2 0), (3, .int .i64 0), (5, .ptr 5 0), (6, .ptr 6 0)]) (fun x => [(1, .var [zs a, zl a]), (2, .var [.v (.bool false), .sl 1 []]), (5, .var [zs x, zl x]), (6, .var [zs 2, zl 2])]) (fun x => 0 < x ∧ a.natAbs < (x + 1) * (x + 1) ∧ sz x ≤ 200000000) (fun x => x) (1000000000 ^ (((lim a.natAbs).length + 1) / 2)) ?_ ?_ ?_ (fun x hx => ?_))
  | skip
 all_goals (repeat' ((try (conv => whnf)); first
  | refine call_0 ?_
  | refine call_i ?_ ?_
  | (with_reducible refine onB_t ?_)
  | (with_reducible refine onB_f ?_)
  | (with_reducible refine onB_d (fun _ => ?_) (fun _ => ?_))
  | (with_reducible refine onB_n (fun _ => ?_) (fun _ => ?_))
  | refine OnB.mk (fun _ => ?_) (fun _ => ?_)
  | refine obl_i ?_ ?_
  | refine Drw.mk (by kernel_rfl) ?_
  | refine mks_i ?_ ?_
  | refine slp_i ?_ ?_
  | (with_reducible refine elem_u ?_ ?_)
  | (with_reducible refine elem_0 ?_)
  | (with_reducible refine elem_1 ?_)
  | refine Ends.mk ?_))
 all_goals (try refine Pr.mk ?_)
 all_goals first | (show SubE _ _; repeat' (first | exact trivial | refine And.intro ?_ ?_)) | (show SubB _ _; repeat' (first | exact trivial | refine And.intro ?_ ?_)) | skip
 all_goals (try rfl)
 all_goals (try simp only [sgnI_lt0, sgnI_zero, sgnI_le0, sgnI_gt0, sgnI_ge0, sgnI_eq1, cmpI_lt0, cmpI_gt0, cmpI_eq0, cmpI_le0, cmpI_ge0, cmpR_of, sgnR_of, sgnR_lt0, sgnR_eq0, sgnR_gt0, sgnR_le0, sgnR_ge0, sgnR_eq1, cmpR_lt0, cmpR_gt0, cmpR_eq0, cmpR_le0, cmpR_ge0] at *)
 all_goals (try simp only [List.length_map, val_lim, cast_len0, cast_len1] at *)
 all_goals (try rw [half_len (by omega)])
 all_goals (try simp only [Int.toNat_natCast, List.length_replicate, List.length_append, List.length_cons, List.length_nil])
 all_goals (try simp only [fdiv_nat (show 0 ≤ a by omega), fdiv_two] at *)
 all_goals first
  | exact rsq_neg (by assumption)
  | exact rsq_zero (by assumption) (by assumption)
  | with_reducible exact rsq_end (by assumption) (by assumption) (by assumption)
  | ((conv => whnf); exact ⟨(x + a.natAbs / x) / 2, ⟨⟨rfl, rfl, rfl, rfl, rfl, trivial⟩, ⟨rfl, rfl, rfl, rfl, trivial⟩, rsq_step (by assumption) (by assumption) (by assumption), by show (x + a.natAbs / x) / 2 < x; omega⟩⟩)
  | exact sqrt_facts rfl hl
  | with_reducible rfl
  | (show ld _ _ = some _; rfl)
  | (have z1 := @sz_quot a; have z2 := sz_add; have z3 := sz_one; have z4 := sz_64 (n := 2) (by omega) (by omega); (repeat' apply And.intro) <;> first | assumption | omega | decide | (simp; done) | (have z5 := z1 (x := x); have z6 := z2 x ((a.natAbs / x : Nat) : Int); omega) | skip)⟩

end Go.Proofs.YtghlkihmnopenaaGreatDoor

namespace Go.Sw
open Go
set_option linter.unusedVariables false
/-- An interval whose ends are not too great. -/
def mkI (l h : Int) : Option (Int × Int) := if -2305843009213693952 ≤ l ∧ h ≤ 2305843009213693952 then some (l, h) else none
theorem w1 {q : Int} (h0 : 0 ≤ q) (h : ¬q > 2305843009213693952) : IntKind.i64.wrap q = q := wi64 (by omega) (by omega)
theorem w2 {q : Int} (h0 : 0 ≤ q) (h : ¬q > 2305843009213693952) : IntKind.i64.wrap (q + 1) = q + 1 := wi64 (by omega) (by omega)
theorem w3 {q : Int} (h0 : 0 ≤ q) (h : ¬q > 2305843009213693952) : IntKind.i64.wrap (0 - q) = -q := by rw [wi64 (by omega) (by omega)]; omega
end Go.Sw

namespace Go.Sw
open Go
set_option linter.unusedVariables false
def addI (a b : Int × Int) : Option (Int × Int) := mkI (a.1 + b.1) (a.2 + b.2)
theorem sz_floor (a : Rat) : sz a.floor ≤ rz a := by
  refine Nat.le_trans (sz_mono ?_) (rz_num a)
  rw [← floor_of, Int.fdiv_eq_ediv_of_nonneg _ (by have := den_pos a; omega)]
  exact Int.natAbs_ediv_le_natAbs _ _
end Go.Sw

namespace Go.Sw
open Go
set_option linter.unusedVariables false
set_option linter.unusedSimpArgs false
theorem w01 : IntKind.i64.wrap (0 + 1) = 1 := by decide
theorem w11 : IntKind.i64.wrap (1 + 1) = 2 := by decide
theorem onB_yes {b : Bool} {k : Bool → Prop} (e : b = true) (h : k true) : OnB b k := ⟨fun _ => h, fun h' => by rw [e] at h'; cases h'⟩
theorem onB_no {b : Bool} {k : Bool → Prop} (e : b = false) (h : k false) : OnB b k := ⟨fun h' => (by rw [e] at h'; cases h'), fun _ => h⟩
def dnP (x y : Int) : Int := (x * y) / 65536
def upP (x y : Int) : Int := -((-(x * y)) / 65536)
def mulI (a b : Int × Int) : Option (Int × Int) :=
  mkI (min (min (dnP a.1 b.1) (dnP a.1 b.2)) (min (dnP a.2 b.1) (dnP a.2 b.2))) (max (max (upP a.1 b.1) (upP a.1 b.2)) (max (upP a.2 b.1) (upP a.2 b.2)))
theorem nb {b : Bool} (h : (!b) = true) : ¬b = true := by cases b <;> simp_all
def hw (a b c d : Int) : Nat → Int
  | 0 => 0 | 1 => upP a c | 2 => max (upP a c) (upP a d) | 3 => max (max (upP a c) (upP a d)) (upP b c) | _ => max (max (max (upP a c) (upP a d)) (upP b c)) (upP b d)
def kI : Nat → Int | 0 => 0 | 1 => 1 | _ => 2
theorem hw1 (a b c d : Int) : hw a b c d 1 = upP a c := rfl
theorem hw2 (a b c d : Int) : hw a b c d 2 = max (upP a c) (upP a d) := rfl
theorem k1 : some (AV.int .i64 (IntKind.i64.wrap (0 + 1))) = some (AV.int .i64 (kI 1)) := by rw [w01]; rfl
theorem k2 : some (AV.int .i64 (IntKind.i64.wrap (1 + 1))) = some (AV.int .i64 (kI 2)) := by rw [w11]; rfl
end Go.Sw

namespace Go.Sw
open Go
set_option linter.unusedVariables false
end Go.Sw

namespace Go.Sw
open Go
set_option linter.unusedVariables false
end Go.Sw

namespace Go.Sw
open Go
set_option linter.unusedVariables false
abbrev RawR := Bool × List Nat × Bool × List Nat
@[reducible] def rc (r : RawR) : List Cell := [.v (.bool r.1), lmc r.2.1, .v (.bool r.2.2.1), lmc r.2.2.2]
def rd0 : RawR := (false, [], false, [])
def okr (k : Int) (r : RawR) : Bool := decide ((r.2.1.length : Int) ≤ k) && (decide ((r.2.2.2.length : Int) ≤ k) && validR r.1 r.2.1 r.2.2.1 r.2.2.2)
theorem getD_mem {L : List RawR} {x : Nat} (hx : x < L.length) : L.getD x rd0 ∈ L := by
  simp [List.getD, hx]
theorem all_bad {L : List RawR} {k : Int} {x : Nat} (hx : x < L.length) (h : okr k (L.getD x rd0) = false) : false = L.all (okr k) := by
  symm
  rw [List.all_eq_false]
  exact ⟨_, getD_mem hx, by rw [h]; exact Bool.false_ne_true⟩
theorem all_end {L : List RawR} {k : Int} {x : Nat} (hx : x ≤ L.length ∧ ∀ j, j < x → okr k (L.getD j rd0) = true) (h : ¬((x : Nat) : Int) < L.length) : true = L.all (okr k) := by
  symm
  rw [List.all_eq_true]
  intro r hr
  obtain ⟨j, hj, rfl⟩ := List.getElem_of_mem hr
  have := hx.2 j (by omega)
  simpa [List.getD, hj] using this
theorem okr_1 {k : Int} {r : RawR} (h : (r.2.1.length : Int) > k) : okr k r = false := by
  unfold okr; rw [decide_eq_false (by omega)]; rfl
theorem okr_2 {k : Int} {r : RawR} (h : (r.2.2.2.length : Int) > k) : okr k r = false := by
  unfold okr; rw [decide_eq_false (p := (r.2.2.2.length : Int) ≤ k) (by omega)]; simp
end Go.Sw

namespace Go.Sw
open Go
set_option linter.unusedVariables false
theorem okr_cases (k : Int) (n1 : Bool) (l1 : List Nat) (n2 : Bool) (l2 : List Nat) : okr k (n1, l1, n2, l2) = false ∨ ∃ q : Rat, n1 = decide (q.num < 0) ∧ l1 = lim q.num.natAbs ∧ n2 = decide ((q.den : Int) < 0) ∧ l2 = lim (q.den : Int).natAbs ∧ rz q ≤ 2 * k.toNat ∧ okr k (decide (q.num < 0), lim q.num.natAbs, decide ((q.den : Int) < 0), lim (q.den : Int).natAbs) = true := by
  cases h : okr k (n1, l1, n2, l2) with
  | false => exact .inl rfl
  | true =>
    right
    have h' := h
    unfold okr at h'
    simp only [Bool.and_eq_true, decide_eq_true_eq] at h'
    obtain ⟨h1, h2, h3⟩ := h'
    obtain ⟨q, rfl, rfl, rfl, rfl⟩ := validR_ex h3
    refine ⟨q, rfl, rfl, rfl, rfl, ?_, h⟩
    unfold rz sz
    omega
theorem lin_lo {a b x k L : Rat} (h1 : a ≤ x) (h2 : x ≤ b) (p : L ≤ a * k) (q : L ≤ b * k) : L ≤ x * k := by
  rcases Rat.le_total (a := 0) (b := k) with hk | hk
  · have := Rat.mul_le_mul_of_nonneg_right h1 hk; grind
  · have := Rat.mul_le_mul_of_nonneg_right h2 (show 0 ≤ -k by grind); grind
theorem bil_lo {a b c d x y L : Rat} (h1 : a ≤ x) (h2 : x ≤ b) (h3 : c ≤ y) (h4 : y ≤ d) (p1 : L ≤ a * c) (p2 : L ≤ a * d) (p3 : L ≤ b * c) (p4 : L ≤ b * d) : L ≤ x * y := by
  apply lin_lo h1 h2
  · rw [Rat.mul_comm]; exact lin_lo h3 h4 (by rw [Rat.mul_comm]; exact p1) (by rw [Rat.mul_comm]; exact p2)
  · rw [Rat.mul_comm]; exact lin_lo h3 h4 (by rw [Rat.mul_comm]; exact p3) (by rw [Rat.mul_comm]; exact p4)
theorem bil_hi {a b c d x y L : Rat} (h1 : a ≤ x) (h2 : x ≤ b) (h3 : c ≤ y) (h4 : y ≤ d) (p1 : a * c ≤ L) (p2 : a * d ≤ L) (p3 : b * c ≤ L) (p4 : b * d ≤ L) : x * y ≤ L := by
  have := bil_lo (L := -L) (a := -b) (b := -a) (x := -x) (y := y) (c := c) (d := d) (by grind) (by grind) h3 h4 (by grind) (by grind) (by grind) (by grind)
  grind
theorem dn_rat (x y : Int) : ((dnP x y : Int) : Rat) * 65536 ≤ (x : Rat) * (y : Rat) := by
  have h : ((dnP x y * 65536 : Int) : Rat) ≤ ((x * y : Int) : Rat) := Rat.intCast_le_intCast.2 (by unfold dnP; omega)
  rw [Rat.intCast_mul, Rat.intCast_mul] at h
  exact h
theorem up_rat (x y : Int) : (x : Rat) * (y : Rat) ≤ ((upP x y : Int) : Rat) * 65536 := by
  have h : ((x * y : Int) : Rat) ≤ ((upP x y * 65536 : Int) : Rat) := Rat.intCast_le_intCast.2 (by unfold upP; omega)
  rw [Rat.intCast_mul, Rat.intCast_mul] at h
  exact h
/-- An interval contains a number. -/
def con (p : Int × Int) (q : Rat) : Prop := (p.1 : Rat) ≤ q * 65536 ∧ q * 65536 ≤ (p.2 : Rat)
theorem mkI_some {l h : Int} {p : Int × Int} (e : mkI l h = some p) : p = (l, h) := by
  unfold mkI at e
  split at e
  · injection e with e; exact e.symm
  · cases e
theorem con_add {x y p : Int × Int} {u v : Rat} (e : addI x y = some p) (hu : con x u) (hv : con y v) : con p (u + v) := by
  have := mkI_some e
  subst this
  unfold con at *
  simp only [Rat.intCast_add]
  obtain ⟨h1, h2⟩ := hu
  obtain ⟨h3, h4⟩ := hv
  constructor <;> grind
theorem con_mul {x y p : Int × Int} {u v : Rat} (e : mulI x y = some p) (hu : con x u) (hv : con y v) : con p (u * v) := by
  have := mkI_some e
  subst this
  unfold con at *
  obtain ⟨h1, h2⟩ := hu
  obtain ⟨h3, h4⟩ := hv
  simp only
  generalize hl : min (min (dnP x.1 y.1) (dnP x.1 y.2)) (min (dnP x.2 y.1) (dnP x.2 y.2)) = l
  generalize hh : max (max (upP x.1 y.1) (upP x.1 y.2)) (max (upP x.2 y.1) (upP x.2 y.2)) = h
  have lo : ∀ a c : Int, l ≤ dnP a c → (l : Rat) * 65536 ≤ (a : Rat) * (c : Rat) := fun a c hd => by
    have k1 := dn_rat a c
    have k2 := Rat.intCast_le_intCast.2 hd
    grind
  have hi : ∀ a c : Int, upP a c ≤ h → (a : Rat) * (c : Rat) ≤ (h : Rat) * 65536 := fun a c hd => by
    have k1 := up_rat a c
    have k2 := Rat.intCast_le_intCast.2 hd
    grind
  have b1 := bil_lo h1 h2 h3 h4 (lo _ _ (by omega)) (lo _ _ (by omega)) (lo _ _ (by omega)) (lo _ _ (by omega))
  have b2 := bil_hi h1 h2 h3 h4 (hi _ _ (by omega)) (hi _ _ (by omega)) (hi _ _ (by omega)) (hi _ _ (by omega))
  constructor <;> grind
theorem c1 : ((1 : Int) : Rat) = 1 := by decide +kernel
end Go.Sw

namespace Go.Sw
open Go
set_option linter.unusedVariables false
def sub (x y : Int × Int) : Prop := x.1 ≤ y.1 ∧ y.1 ≤ y.2 ∧ y.2 ≤ x.2
end Go.Sw

namespace Go.Sw
open Go
set_option linter.unusedVariables false
theorem sgn_cases (q : Rat) : (q < 0 ∧ sgnR q = -1) ∨ (q = 0 ∧ sgnR q = 0) ∨ (0 < q ∧ sgnR q = 1) := by
  unfold sgnR
  by_cases h1 : q < 0
  · rw [if_pos h1]; exact .inl ⟨h1, rfl⟩
  · rw [if_neg h1]
    by_cases h2 : q = 0
    · rw [if_pos h2]; exact .inr (.inl ⟨h2, rfl⟩)
    · rw [if_neg h2]; exact .inr (.inr ⟨by grind, rfl⟩)
theorem cmpR_1 {a b : Rat} (h : b < a) : cmpR a b = 1 := by unfold cmpR; rw [if_neg (by grind), if_pos h]
theorem cmpR_m {a b : Rat} (h : a < b) : cmpR a b = -1 := by unfold cmpR; rw [if_pos h]
end Go.Sw

namespace Go.Sw
open Go
set_option linter.unusedVariables false
end Go.Sw

namespace Go.Sw
open Go
set_option linter.unusedVariables false
/-- Bounds of the size of a number, found by its form. -/
class RzB (q : Rat) (n : outParam Nat) : Prop where
  h : rz q ≤ n
theorem rzb {q : Rat} {n N : Nat} [k : RzB q n] (h : n ≤ N) : rz q ≤ N := Nat.le_trans k.h h
instance {a b : Rat} {m n : Nat} [h : RzB a m] [k : RzB b n] : RzB (a + b) (2 * (m + n) + 1) := ⟨by have := rz_add a b; have := h.h; have := k.h; omega⟩
instance {a b : Rat} {m n : Nat} [h : RzB a m] [k : RzB b n] : RzB (a - b) (2 * (m + n) + 1) := ⟨by have := rz_sub a b; have := h.h; have := k.h; omega⟩
instance {a b : Rat} {m n : Nat} [h : RzB a m] [k : RzB b n] : RzB (a * b) (m + n) := ⟨by have := rz_mul a b; have := h.h; have := k.h; omega⟩
instance {a : Rat} {m : Nat} [h : RzB a m] : RzB (-a) m := ⟨by rw [rz_neg]; exact h.h⟩
end Go.Sw

namespace Go.Sw
open Go
set_option linter.unusedVariables false
def isSq (n : Int) : Bool := decide (0 ≤ n) && decide ((((isq n.natAbs : Nat) : Int)) * ((isq n.natAbs : Nat) : Int) = n)
def isSqR (a : Rat) : Bool := isSq a.num && isSq a.den
def sqR (a : Rat) : Rat := ((((isq a.num.natAbs : Nat) : Int)) : Rat) / ((((isq (a.den : Int).natAbs : Nat) : Int)) : Rat)
theorem sq_nat {n : Int} (h : isSq n = true) : ((isq n.natAbs : Nat) : Int) * ((isq n.natAbs : Nat) : Int) = n := by
  unfold isSq at h
  rw [Bool.and_eq_true, decide_eq_true_eq, decide_eq_true_eq] at h
  exact h.2
theorem sqR_parts {a : Rat} (h : isSqR a = true) : (sqR a).num = ((isq a.num.natAbs : Nat) : Int) ∧ ((sqR a).den : Int) = ((isq (a.den : Int).natAbs : Nat) : Int) := by
  unfold isSqR at h
  rw [Bool.and_eq_true] at h
  obtain ⟨h1, h2⟩ := h
  have e1 := sq_nat h1
  have e2 := sq_nat h2
  have hd := den_pos a
  have hp : 0 < ((isq (a.den : Int).natAbs : Nat) : Int) := by
    rcases Nat.eq_zero_or_pos (isq (a.den : Int).natAbs) with h0 | h0
    · rw [h0] at e2; simp at e2; omega
    · omega
  have hg : Nat.gcd (isq a.num.natAbs) (isq (a.den : Int).natAbs) = 1 := by
    have hc := a.reduced
    have d1 : Nat.gcd (isq a.num.natAbs) (isq (a.den : Int).natAbs) ∣ a.num.natAbs := by
      have : a.num.natAbs = isq a.num.natAbs * isq a.num.natAbs := by
        have := congrArg Int.natAbs e1; rw [Int.natAbs_mul, Int.natAbs_natCast] at this; exact this.symm
      exact Nat.dvd_trans (Nat.gcd_dvd_left _ _) ⟨_, this⟩
    have d2 : Nat.gcd (isq a.num.natAbs) (isq (a.den : Int).natAbs) ∣ a.den := by
      have : a.den = isq (a.den : Int).natAbs * isq (a.den : Int).natAbs := by
        have := congrArg Int.natAbs e2; rw [Int.natAbs_mul, Int.natAbs_natCast] at this; exact this.symm
      exact Nat.dvd_trans (Nat.gcd_dvd_right _ _) ⟨_, this⟩
    exact Nat.eq_one_of_dvd_one (hc ▸ Nat.dvd_gcd d1 d2)
  obtain ⟨q1, q2⟩ := red_pos (n := ((isq a.num.natAbs : Nat) : Int)) hp
  change Nat.gcd (((isq a.num.natAbs : Nat) : Int)).natAbs (((isq (a.den : Int).natAbs : Nat) : Int)).natAbs = 1 at hg
  rw [hg] at q1 q2
  exact ⟨by unfold sqR; rw [q1]; exact fdiv_one _, by unfold sqR; rw [q2]; exact fdiv_one _⟩
where
  num_den_div {a : Rat} : a = (a.num : Rat) / ((a.den : Int) : Rat) := by
    have h1 := num_den a
    have h2 := den_ne' a
    rw [h1]; grind
end Go.Sw
