/-
  Multiples of lines, and circles through three points.
  What the functions swarfref08.ValidCircle answer, each out of its text by the abstract run.
  What the functions support.sign, support.Inside answer, each out of its text by the abstract run.
  The circle through three points.
  What the functions swarflaw08.SupportCircle answer, each out of its text by the abstract run.
  CircleThrough gives the circle through three points, in any order, or ErrZero: the law returns true for every three points.
  Conditions: none.
-/
import Derived.Test.YtkcoahciohejkaaGreatM11
set_option linter.all false
namespace Go.Sw
open Go
set_option linter.unusedVariables false
theorem sgnR_mul (a b : Rat) : sgnR (a * b) = sgnR a * sgnR b := by
  rcases sgn_cases a with ⟨a1, a2⟩ | ⟨a1, a2⟩ | ⟨a1, a2⟩ <;> rcases sgn_cases b with ⟨b1, b2⟩ | ⟨b1, b2⟩ | ⟨b1, b2⟩ <;> rw [a2, b2]
  · have := Rat.mul_pos (show 0 < -a by grind) (show 0 < -b by grind); rw [sgnR_eq1.2 (by grind)]; rfl
  · rw [sgnR_eq0.2 (by grind)]; rfl
  · have := Rat.mul_pos (show 0 < -a by grind) b1; unfold sgnR; rw [if_pos (by grind)]; rfl
  · rw [sgnR_eq0.2 (by grind)]; rfl
  · rw [sgnR_eq0.2 (by grind)]; rfl
  · rw [sgnR_eq0.2 (by grind)]; rfl
  · have := Rat.mul_pos a1 (show 0 < -b by grind); unfold sgnR; rw [if_pos (by grind)]; rfl
  · rw [sgnR_eq0.2 (by grind)]; rfl
  · rw [sgnR_eq1.2 (Rat.mul_pos a1 b1)]; rfl
theorem cmpR_scale {k x y : Rat} (h : 0 < k) : cmpR (k * x) (k * y) = cmpR x y := by
  have p : ∀ u v : Rat, u < v → k * u < k * v := fun u v h' => by
    have := Rat.mul_pos h (show 0 < v - u by grind); grind
  by_cases h1 : x < y
  · rw [cmpR_m h1, cmpR_m (p _ _ h1)]
  · by_cases h2 : y < x
    · rw [cmpR_1 h2, cmpR_1 (p _ _ h2)]
    · have : x = y := by grind
      subst this; rw [cmpR_z rfl, cmpR_z rfl]
theorem exI_scale {k A B C : Rat} (hk : k ≠ 0) : exI (k * A) (k * B) C = sgnR k * exI A B C := by
  have hkk : 0 < k * k := by
    have h1 := sq_nn k
    have : k * k ≠ 0 := fun e => by rcases Rat.mul_eq_zero.1 e with h | h <;> exact hk h
    grind
  have ks : sgnR k = 1 ∨ sgnR k = -1 := by
    rcases sgn_cases k with ⟨a1, a2⟩ | ⟨a1, a2⟩ | ⟨a1, a2⟩
    · exact .inr a2
    · exact absurd a1 hk
    · exact .inl a2
  unfold exI
  rw [sgnR_mul k A, sgnR_mul k B, show k * A * (k * A) = k * k * (A * A) by grind, show k * B * (k * B) * C = k * k * (B * B * C) by grind, cmpR_scale hkk]
  simp only [Int.mul_assoc]
  generalize sgnR B * sgnR C = t
  generalize sgnR A = u
  rcases ks with e | e <;> rw [e]
  · simp only [Int.one_mul]
  · simp only [Int.neg_mul, Int.one_mul]
    by_cases h1 : u = t ∨ t = 0
    · have h2 : -u = -t ∨ -t = 0 := by omega
      rw [if_pos h1, if_pos h2]
    · have h2 : ¬(-u = -t ∨ -t = 0) := by omega
      rw [if_neg h1, if_neg h2]
      by_cases h3 : u = 0
      · have h4 : -u = 0 := by omega
        rw [if_pos h3, if_pos h4]
      · have h4 : ¬-u = 0 := by omega
        rw [if_neg h3, if_neg h4]
section
variable (a b c d e f : Rat)
theorem sl_1 : (decide (a * e = d * b) && (decide (a * f = d * c) && decide (b * f = e * c))) = (decide (a * e = b * d) && (decide (a * f = c * d) && decide (b * f = c * e))) := by
  rw [Rat.mul_comm d b, Rat.mul_comm d c, Rat.mul_comm e c]
theorem sl_2 : (decide (d * b = a * e) && (decide (d * c = a * f) && decide (e * c = b * f))) = (decide (a * e = b * d) && (decide (a * f = c * d) && decide (b * f = c * e))) := by
  rw [Rat.mul_comm d b, Rat.mul_comm d c, Rat.mul_comm e c, decide_eq_decide.2 (eq_comm (a := b * d)), decide_eq_decide.2 (eq_comm (a := c * d)), decide_eq_decide.2 (eq_comm (a := c * e))]
end
theorem wu16n {n : Nat} (h : n ≤ 65535) : IntKind.u16.wrap ((n : Nat) : Int) = ((n : Nat) : Int) := by
  simp [IntKind.wrap, IntKind.bits, IntKind.signed]; omega
theorem sgn_n3 {n : Int} (h : n ≠ 0) : sgnR ((n : Rat) / ((3 : Int) : Rat)) = if n < 0 then -1 else 1 := by
  have e : ((n : Int) : Rat) / ((3 : Int) : Rat) = (n : Rat) * (1 / 3) := by
    have : ((3 : Int) : Rat) = 3 := by decide +kernel
    rw [this]; grind
  have p : sgnR (1 / 3) = 1 := by decide +kernel
  rw [e, sgnR_mul, p, Int.mul_one]
  by_cases h0 : n < 0
  · rw [if_pos h0]
    have : (n : Rat) < ((0 : Int) : Rat) := Rat.intCast_lt_intCast.2 h0
    have z : ((0 : Int) : Rat) = 0 := rfl
    unfold sgnR; rw [if_pos (by rw [z] at this; exact this)]
  · rw [if_neg h0]
    have : ((0 : Int) : Rat) < (n : Rat) := Rat.intCast_lt_intCast.2 (by omega)
    have z : ((0 : Int) : Rat) = 0 := rfl
    exact sgnR_eq1.2 (by rw [z] at this; exact this)
theorem n3_ne {n : Int} (h : n ≠ 0) : ((n : Rat) / ((3 : Int) : Rat)) ≠ 0 := q_ne h (by decide)
theorem side_scale {n : Int} (h : n ≠ 0) {a b c x y u v w : Rat} : exI (a * ((n : Rat) / ((3 : Int) : Rat)) * x + b * ((n : Rat) / ((3 : Int) : Rat)) * y - c * ((n : Rat) / ((3 : Int) : Rat))) (a * ((n : Rat) / ((3 : Int) : Rat)) * u + b * ((n : Rat) / ((3 : Int) : Rat)) * v) w =
    (if n < 0 then -1 else 1) * exI (a * x + b * y - c) (a * u + b * v) w := by
  rw [← sgn_n3 h, ← exI_scale (n3_ne h)]
  congr 1 <;> grind
theorem sc_m {n : Int} (h : n < 0) {a b c x y u v w : Rat} : decide (exI (a * ((n : Rat) / ((3 : Int) : Rat)) * x + b * ((n : Rat) / ((3 : Int) : Rat)) * y - c * ((n : Rat) / ((3 : Int) : Rat))) (a * ((n : Rat) / ((3 : Int) : Rat)) * u + b * ((n : Rat) / ((3 : Int) : Rat)) * v) w = IntKind.i64.wrap (-1 * exI (a * x + b * y - c) (a * u + b * v) w)) = true := by
  have z := exI_lim (a * x + b * y - c) (a * u + b * v) w
  have h0 : n ≠ 0 := by omega
  rw [wi64 (by omega) (by omega), side_scale h0, if_pos h]; exact decide_eq_true rfl
theorem sc_p {n : Int} (h0 : ¬n = 0) (h : ¬n < 0) {a b c x y u v w : Rat} : decide (exI (a * ((n : Rat) / ((3 : Int) : Rat)) * x + b * ((n : Rat) / ((3 : Int) : Rat)) * y - c * ((n : Rat) / ((3 : Int) : Rat))) (a * ((n : Rat) / ((3 : Int) : Rat)) * u + b * ((n : Rat) / ((3 : Int) : Rat)) * v) w = IntKind.i64.wrap (1 * exI (a * x + b * y - c) (a * u + b * v) w)) = true := by
  have z := exI_lim (a * x + b * y - c) (a * u + b * v) w
  rw [wi64 (by omega) (by omega), side_scale h0, if_neg h]; exact decide_eq_true rfl
theorem sl_3 {a b c t : Rat} : (decide (a * (b * t) = a * t * b) && (decide (a * (c * t) = a * t * c) && decide (b * (c * t) = b * t * c))) = true := by
  simp only [Bool.and_eq_true, decide_eq_true_eq]; refine ⟨by grind, by grind, by grind⟩
end Go.Sw

namespace Go.Proofs.YtkcoahciohejkaaGreat
open Go Go.RowKit Go.Sw
set_option linter.unusedVariables false
set_option maxRecDepth 100000
set_option maxHeartbeats 8000000
set_option synthInstance.maxSize 4000
set_option synthInstance.maxHeartbeats 400000
instance w_vc (a b c : Rat) : DenI Tryz.prog 33 [Q3 a b c] (rz a ≤ 100000 ∧ rz b ≤ 100000 ∧ rz c ≤ 100000) (.bool (decide (0 < c))) := ⟨fun hp => by
 have i_a : RzB a 100000 := ⟨hp.1⟩
 have i_b : RzB b 100000 := ⟨hp.2.1⟩
 have i_c : RzB c 100000 := ⟨hp.2.2⟩
 all_goals refine den_of (τ := tab) tab_ok mixed_ Tryz.func33 rfl (by kernel_rfl) (by kernel_rfl) (by kernel_rfl) ?_
 all_goals (repeat' ((try (conv => whnf)); first
  | refine call_0 ?_
  | refine call_i ?_ ?_
  | refine call_c ?_ (fun _ => ?_) (fun _ => ?_)
  | (with_reducible refine onB_t ?_)
  | (with_reducible refine onB_f ?_)
  | (with_reducible refine onB_d (fun _ => ?_) (fun _ => ?_))
  | (with_reducible refine onB_n (fun _ => ?_) (fun _ => ?_))
  | refine OnB.mk (fun _ => ?_) (fun _ => ?_)
  | refine obl_i ?_ ?_
  | refine Drw.mk (by kernel_rfl) ?_
  | refine mks_i ?_ ?_
  | refine slp_i ?_ ?_
  | (with_reducible refine elem_u ?_ ?_)
  | (with_reducible refine elem_0 ?_)
  | (with_reducible refine elem_1 ?_)
  | refine Ends.mk ?_))
 all_goals (try refine Pr.mk ?_)
 all_goals (try simp only [sgnI_lt0, sgnI_zero, sgnI_le0, sgnI_gt0, sgnI_ge0, sgnI_eq1, cmpI_lt0, cmpI_gt0, cmpI_eq0, cmpI_le0, cmpI_ge0, cmpR_of, sgnR_of, sgnR_lt0, sgnR_eq0, sgnR_gt0, sgnR_le0, sgnR_ge0, sgnR_eq1, cmpR_lt0, cmpR_gt0, cmpR_eq0, cmpR_le0, cmpR_ge0] at *)
 all_goals (try simp only [validR_R] at *)
 all_goals first
  | exact lim_r1 (by assumption)
  | exact lim_r2 (by assumption)
  | rfl
  | (simp only [redB, redC, mkA, mkB, mkC, cooC, ptC, *, true_or, or_true, if_true, if_false, or_self, and_self, and_true, true_and, and_false, false_and, not_true, not_false_iff, Bool.false_eq_true, decide_true, decide_false, Bool.or_true, Bool.true_or, Bool.or_false, Bool.false_or]; rfl)
  | ((repeat' apply And.intro) <;> first | assumption | exact rzb (by omega) | exact szb (by omega) | exact Int.mul_ne_zero (den_ne _) (den_ne _))
  | (exfalso; simp_all; done)
  | (exfalso; grind)
  | omega
  | ((repeat' apply And.intro) <;> first | assumption | exact rzb (by omega) | exact szb (by omega) | exact Int.mul_ne_zero (den_ne _) (den_ne _))
  | skip⟩

end Go.Proofs.YtkcoahciohejkaaGreat

namespace Go.Proofs.YtkcoahciohejkaaGreat
open Go Go.RowKit Go.Sw
set_option linter.unusedVariables false
set_option maxRecDepth 100000
set_option maxHeartbeats 8000000
set_option synthInstance.maxSize 4000
set_option synthInstance.maxHeartbeats 400000
instance p_sign2 (a b c : Rat) : DenI Tryz.prog 59 [R a, R b, R c] (rz a ≤ 400000 ∧ rz b ≤ 400000 ∧ rz c ≤ 400000) (.int .i64 (exI a b c)) := ⟨fun hp => by
 have i_a : RzB a 400000 := ⟨hp.1⟩
 have i_b : RzB b 400000 := ⟨hp.2.1⟩
 have i_c : RzB c 400000 := ⟨hp.2.2⟩
 all_goals refine den_of (τ := tab) tab_ok mixed_ Tryz.func59 rfl (by kernel_rfl) (by kernel_rfl) (by kernel_rfl) ?_
 all_goals (repeat' ((try (conv => whnf)); first
  | refine call_0 ?_
  | refine call_i ?_ ?_
  | refine call_c ?_ (fun _ => ?_) (fun _ => ?_)
  | (with_reducible refine onB_t ?_)
  | (with_reducible refine onB_f ?_)
  | (with_reducible refine onB_d (fun _ => ?_) (fun _ => ?_))
  | (with_reducible refine onB_n (fun _ => ?_) (fun _ => ?_))
  | refine OnB.mk (fun _ => ?_) (fun _ => ?_)
  | refine obl_i ?_ ?_
  | refine Drw.mk (by kernel_rfl) ?_
  | refine mks_i ?_ ?_
  | refine slp_i ?_ ?_
  | (with_reducible refine elem_u ?_ ?_)
  | (with_reducible refine elem_0 ?_)
  | (with_reducible refine elem_1 ?_)
  | refine Ends.mk ?_))
 all_goals (try refine Pr.mk ?_)
 all_goals (try simp only [sgnI_lt0, sgnI_zero, sgnI_le0, sgnI_gt0, sgnI_ge0, sgnI_eq1, cmpI_lt0, cmpI_gt0, cmpI_eq0, cmpI_le0, cmpI_ge0, cmpR_of, sgnR_of, sgnR_lt0, sgnR_eq0, sgnR_gt0, sgnR_le0, sgnR_ge0, sgnR_eq1, cmpR_lt0, cmpR_gt0, cmpR_eq0, cmpR_le0, cmpR_ge0] at *)
 all_goals (try simp only [w_ss, w_sc] at *)
 all_goals first
  | with_reducible exact sg_1 (by assumption)
  | with_reducible exact sg_2 (by assumption)
  | with_reducible exact sg_3 (by assumption) (by assumption) (by assumption)
  | with_reducible exact sg_4 (by assumption) (by assumption) (by assumption)
  | (rw [w_sc]; exact sg_4 (by assumption) (by assumption) (by assumption))
  | ((repeat' apply And.intro) <;> first | assumption | exact rzb (by omega) | exact szb (by omega) | exact Int.mul_ne_zero (den_ne _) (den_ne _))
  | skip⟩

instance p_in2 (X Y Q ax bx ay bb c : Rat) : DenI Tryz.prog 21 [Q3 X Y Q, Q5 ax bx ay bb c] (rz X ≤ 3500 ∧ rz Y ≤ 3500 ∧ rz Q ≤ 14000 ∧ rz ax ≤ 40 ∧ rz bx ≤ 40 ∧ rz ay ≤ 40 ∧ rz bb ≤ 40 ∧ rz c ≤ 40) (.int .i64 (-(exI ((ax - X) * (ax - X) + (ay - Y) * (ay - Y) + c * (bx * bx + bb * bb) - Q) ((ax - X) * bx + (ay - Y) * bb + ((ax - X) * bx + (ay - Y) * bb)) c))) := ⟨fun hp => by
 obtain ⟨q0, q1, q2, q3, q4, q5, q6, q7⟩ := hp
 have i_X : RzB X 3500 := ⟨q0⟩
 have i_Y : RzB Y 3500 := ⟨q1⟩
 have i_Q : RzB Q 14000 := ⟨q2⟩
 have i_ax : RzB ax 40 := ⟨q3⟩
 have i_bx : RzB bx 40 := ⟨q4⟩
 have i_ay : RzB ay 40 := ⟨q5⟩
 have i_bb : RzB bb 40 := ⟨q6⟩
 have i_c : RzB c 40 := ⟨q7⟩
 all_goals refine den_of (τ := tab) tab_ok mixed_ Tryz.func21 rfl (by kernel_rfl) (by kernel_rfl) (by kernel_rfl) ?_
 all_goals (repeat' ((try (conv => whnf)); first
  | refine call_0 ?_
  | refine call_i ?_ ?_
  | refine call_c ?_ (fun _ => ?_) (fun _ => ?_)
  | (with_reducible refine onB_t ?_)
  | (with_reducible refine onB_f ?_)
  | (with_reducible refine onB_d (fun _ => ?_) (fun _ => ?_))
  | (with_reducible refine onB_n (fun _ => ?_) (fun _ => ?_))
  | refine OnB.mk (fun _ => ?_) (fun _ => ?_)
  | refine obl_i ?_ ?_
  | refine Drw.mk (by kernel_rfl) ?_
  | refine mks_i ?_ ?_
  | refine slp_i ?_ ?_
  | (with_reducible refine elem_u ?_ ?_)
  | (with_reducible refine elem_0 ?_)
  | (with_reducible refine elem_1 ?_)
  | refine Ends.mk ?_))
 all_goals (try refine Pr.mk ?_)
 all_goals (try simp only [sgnI_lt0, sgnI_zero, sgnI_le0, sgnI_gt0, sgnI_ge0, sgnI_eq1, cmpI_lt0, cmpI_gt0, cmpI_eq0, cmpI_le0, cmpI_ge0, cmpR_of, sgnR_of, sgnR_lt0, sgnR_eq0, sgnR_gt0, sgnR_le0, sgnR_ge0, sgnR_eq1, cmpR_lt0, cmpR_gt0, cmpR_eq0, cmpR_le0, cmpR_ge0] at *)
 all_goals first
  | (exact neg_q (by assumption) (quick_n (by assumption)) (exI_lim _ _ _).1 (exI_lim _ _ _).2)
  | (refine neg_x ?_; rfl)
  | ((repeat' apply And.intro) <;> first | assumption | exact rzb (by omega) | exact szb (by omega) | exact Int.mul_ne_zero (den_ne _) (den_ne _))
  | skip⟩

end Go.Proofs.YtkcoahciohejkaaGreat

namespace Go.Sw
open Go
set_option linter.unusedVariables false
def cD (a b c d e f : Rat) : Rat := (c - a) * (f - b) - (d - b) * (e - a)
def cU (a b c d e f : Rat) : Rat := ((c - a) * (c - a) + (d - b) * (d - b)) * (f - b) - ((e - a) * (e - a) + (f - b) * (f - b)) * (d - b)
def cV (a b c d e f : Rat) : Rat := ((e - a) * (e - a) + (f - b) * (f - b)) * (c - a) - ((c - a) * (c - a) + (d - b) * (d - b)) * (e - a)
section
variable {a b c d e f : Rat}
theorem sub0 {x y : Rat} (h : x = y) : x - y = 0 := by grind
theorem nt1 {b : Bool} (h : b = true) : ¬(!b) = true := by rw [h]; decide
theorem neg0 {x : Int} (h : x = 0) : -x = 0 := by omega
theorem cD_rot : cD e f a b c d = cD a b c d e f := by unfold cD; grind
theorem two_ne {x : Rat} (h : x ≠ 0) : x + x ≠ 0 := by grind
theorem q_pos {u v : Rat} (h : ¬(u = 0 ∧ v = 0)) : 0 < u * u + v * v := by
  have h1 := sq_nn u
  have h2 := sq_nn v
  have : u * u + v * v ≠ 0 := fun hh => by
    have a1 : u * u = 0 := by grind
    have a2 : v * v = 0 := by grind
    exact h ⟨by rcases Rat.mul_eq_zero.1 a1 with h | h <;> exact h, by rcases Rat.mul_eq_zero.1 a2 with h | h <;> exact h⟩
  grind
theorem circ_q (h : ¬cD a b c d e f = 0) : 0 < cU a b c d e f / (cD a b c d e f + cD a b c d e f) * (cU a b c d e f / (cD a b c d e f + cD a b c d e f)) + cV a b c d e f / (cD a b c d e f + cD a b c d e f) * (cV a b c d e f / (cD a b c d e f + cD a b c d e f)) := by
  have h2 := two_ne h
  refine q_pos fun hh => ?_
  have u0 : cU a b c d e f = 0 := by have := hh.1; grind
  have v0 : cV a b c d e f = 0 := by have := hh.2; grind
  have e1 : cU a b c d e f * (c - a) + cV a b c d e f * (d - b) = ((c - a) * (c - a) + (d - b) * (d - b)) * cD a b c d e f := by unfold cU cV cD; grind
  rw [u0, v0] at e1
  have e2 : (c - a) * (c - a) + (d - b) * (d - b) = 0 := by
    rcases Rat.mul_eq_zero.1 (show ((c - a) * (c - a) + (d - b) * (d - b)) * cD a b c d e f = 0 by rw [← e1]; grind) with h' | h'
    · exact h'
    · exact absurd h' h
  refine h ?_
  have h3 : c - a = 0 ∧ d - b = 0 := by
    refine Decidable.byContradiction fun hn => ?_
    have := q_pos hn; grind
  unfold cD; rw [h3.1, h3.2]; grind
theorem circ_x (h : ¬cD a b c d e f = 0) : e + cU e f a b c d / (cD e f a b c d + cD e f a b c d) = a + cU a b c d e f / (cD a b c d e f + cD a b c d e f) := by
  have h2 := two_ne h
  rw [cD_rot]
  have e1 : e * (cD a b c d e f + cD a b c d e f) + cU e f a b c d = a * (cD a b c d e f + cD a b c d e f) + cU a b c d e f := by unfold cU cD; grind
  generalize cD a b c d e f + cD a b c d e f = D at *
  generalize cU e f a b c d = U at *
  generalize cU a b c d e f = V at *
  grind
theorem circ_y (h : ¬cD a b c d e f = 0) : f + cV e f a b c d / (cD e f a b c d + cD e f a b c d) = b + cV a b c d e f / (cD a b c d e f + cD a b c d e f) := by
  have h2 := two_ne h
  rw [cD_rot]
  have e1 : f * (cD a b c d e f + cD a b c d e f) + cV e f a b c d = b * (cD a b c d e f + cD a b c d e f) + cV a b c d e f := by unfold cV cD; grind
  generalize cD a b c d e f + cD a b c d e f = D at *
  generalize cV e f a b c d = U at *
  generalize cV a b c d e f = V at *
  grind
/-- The squared distance of the centre from the second point. -/
theorem circ_2 (h : ¬cD a b c d e f = 0) {u v : Rat} (hu : u = cU a b c d e f / (cD a b c d e f + cD a b c d e f)) (hv : v = cV a b c d e f / (cD a b c d e f + cD a b c d e f)) :
    (c - (a + u)) * (c - (a + u)) + (d - (b + v)) * (d - (b + v)) = u * u + v * v := by
  have h2 := two_ne h
  have e1 : (c - a) * cU a b c d e f + (d - b) * cV a b c d e f = ((c - a) * (c - a) + (d - b) * (d - b)) * cD a b c d e f := by unfold cU cV cD; grind
  have e2 : (c - a) * u + (d - b) * v = ((c - a) * (c - a) + (d - b) * (d - b)) / 2 := by
    rw [hu, hv]
    generalize cD a b c d e f = D at *
    generalize cU a b c d e f = U at *
    generalize cV a b c d e f = V at *
    grind
  grind
theorem circ_3 (h : ¬cD a b c d e f = 0) {u v : Rat} (hu : u = cU a b c d e f / (cD a b c d e f + cD a b c d e f)) (hv : v = cV a b c d e f / (cD a b c d e f + cD a b c d e f)) :
    (e - (a + u)) * (e - (a + u)) + (f - (b + v)) * (f - (b + v)) = u * u + v * v := by
  have h2 := two_ne h
  have e1 : (e - a) * cU a b c d e f + (f - b) * cV a b c d e f = ((e - a) * (e - a) + (f - b) * (f - b)) * cD a b c d e f := by unfold cU cV cD; grind
  have e2 : (e - a) * u + (f - b) * v = ((e - a) * (e - a) + (f - b) * (f - b)) / 2 := by
    rw [hu, hv]
    generalize cD a b c d e f = D at *
    generalize cU a b c d e f = U at *
    generalize cV a b c d e f = V at *
    grind
  grind
theorem circ_1 (h : ¬cD a b c d e f = 0) {u v : Rat} (hu : u = cU a b c d e f / (cD a b c d e f + cD a b c d e f)) (hv : v = cV a b c d e f / (cD a b c d e f + cD a b c d e f)) :
    (a - (a + u)) * (a - (a + u)) + (b - (b + v)) * (b - (b + v)) = u * u + v * v := by grind
theorem circ_rq (h : ¬cD a b c d e f = 0) : cU e f a b c d / (cD e f a b c d + cD e f a b c d) * (cU e f a b c d / (cD e f a b c d + cD e f a b c d)) + cV e f a b c d / (cD e f a b c d + cD e f a b c d) * (cV e f a b c d / (cD e f a b c d + cD e f a b c d)) =
    cU a b c d e f / (cD a b c d e f + cD a b c d e f) * (cU a b c d e f / (cD a b c d e f + cD a b c d e f)) + cV a b c d e f / (cD a b c d e f + cD a b c d e f) * (cV a b c d e f / (cD a b c d e f + cD a b c d e f)) := by
  have h1 := circ_x h
  have h2 := circ_y h
  have h3 := circ_3 h rfl rfl
  rw [← h1, ← h2] at h3
  grind
end
end Go.Sw

namespace Go.Proofs.YtkcoahciohejkaaGreat
open Go Go.RowKit Go.Sw
set_option linter.unusedVariables false
set_option maxRecDepth 100000
set_option maxHeartbeats 8000000
set_option synthInstance.maxSize 4000
set_option synthInstance.maxHeartbeats 400000
instance L_circ (x y : Int) (d : Nat) (u v : Int) (e : Nat) (s t : Int) (g : Nat) : DenI Tryz.prog 7 [.agg [.v (.int .i16 x), .v (.int .i16 y), .v (.int .u8 (d : Nat))], .agg [.v (.int .i16 u), .v (.int .i16 v), .v (.int .u8 (e : Nat))], .agg [.v (.int .i16 s), .v (.int .i16 t), .v (.int .u8 (g : Nat))]] (smallI x ∧ smallI y ∧ d ≤ 255 ∧ smallI u ∧ smallI v ∧ e ≤ 255 ∧ smallI s ∧ smallI t ∧ g ≤ 255) (.bool true) := ⟨fun hp => by
 obtain ⟨p1, p2, p3, p4, p5, p6, p7, p8, p9⟩ := hp
 have i_a : RzB (((x : Int) : Rat) / (((d : Int) + 1 : Int) : Rat)) 6 := ⟨rz_q' _ _ (by unfold smallI at *; omega) (by omega)⟩
 have i_b : RzB (((y : Int) : Rat) / (((d : Int) + 1 : Int) : Rat)) 6 := ⟨rz_q' _ _ (by unfold smallI at *; omega) (by omega)⟩
 have i_c : RzB (((u : Int) : Rat) / (((e : Int) + 1 : Int) : Rat)) 6 := ⟨rz_q' _ _ (by unfold smallI at *; omega) (by omega)⟩
 have i_f : RzB (((v : Int) : Rat) / (((e : Int) + 1 : Int) : Rat)) 6 := ⟨rz_q' _ _ (by unfold smallI at *; omega) (by omega)⟩
 have i_h : RzB (((s : Int) : Rat) / (((g : Int) + 1 : Int) : Rat)) 6 := ⟨rz_q' _ _ (by unfold smallI at *; omega) (by omega)⟩
 have i_k : RzB (((t : Int) : Rat) / (((g : Int) + 1 : Int) : Rat)) 6 := ⟨rz_q' _ _ (by unfold smallI at *; omega) (by omega)⟩
 have ok0 : okP 0 0 0 := .inl ⟨rfl, rfl, rfl⟩
 all_goals refine den_of (τ := tab) tab_ok mixed_ Tryz.func7 rfl (by kernel_rfl) (by kernel_rfl) (by kernel_rfl) ?_
 all_goals (repeat' ((try (conv => whnf)); first
  | refine call_0 ?_
  | refine call_i ?_ ?_
  | refine call_c ?_ (fun _ => ?_) (fun _ => ?_)
  | (with_reducible refine onB_t ?_)
  | (with_reducible refine onB_f ?_)
  | (with_reducible refine onB_d (fun _ => ?_) (fun _ => ?_))
  | (with_reducible refine onB_n (fun _ => ?_) (fun _ => ?_))
  | refine OnB.mk (fun _ => ?_) (fun _ => ?_)
  | refine obl_i ?_ ?_
  | refine Drw.mk (by kernel_rfl) ?_
  | refine mks_i ?_ ?_
  | refine slp_i ?_ ?_
  | (with_reducible refine elem_u ?_ ?_)
  | (with_reducible refine elem_0 ?_)
  | (with_reducible refine elem_1 ?_)
  | refine Ends.mk ?_))
 all_goals (try refine Pr.mk ?_)
 all_goals (try simp (disch := (unfold smallI at *; omega)) only [wi64, dm8] at *)
 all_goals (try simp only [sgnI_lt0, sgnI_zero, sgnI_le0, sgnI_gt0, sgnI_ge0, sgnI_eq1, cmpI_lt0, cmpI_gt0, cmpI_eq0, cmpI_le0, cmpI_ge0, cmpR_of, sgnR_of, sgnR_lt0, sgnR_eq0, sgnR_gt0, sgnR_le0, sgnR_ge0, sgnR_eq1, cmpR_lt0, cmpR_gt0, cmpR_eq0, cmpR_le0, cmpR_ge0] at *)
 all_goals (try simp only [validR_R] at *)
 all_goals (try generalize (((x : Int) : Rat) / (((d : Int) + 1 : Int) : Rat)) = qa at *)
 all_goals (try generalize (((y : Int) : Rat) / (((d : Int) + 1 : Int) : Rat)) = qb at *)
 all_goals (try generalize (((u : Int) : Rat) / (((e : Int) + 1 : Int) : Rat)) = qc at *)
 all_goals (try generalize (((v : Int) : Rat) / (((e : Int) + 1 : Int) : Rat)) = qd at *)
 all_goals (try generalize (((s : Int) : Rat) / (((g : Int) + 1 : Int) : Rat)) = qe at *)
 all_goals (try generalize (((t : Int) : Rat) / (((g : Int) + 1 : Int) : Rat)) = qf at *)
 all_goals first
  | rfl
  | (unfold smallI at *; omega)
  | ((repeat' apply And.intro) <;> first | assumption | exact rzb (by omega) | exact szb (by omega))
  | (exfalso; omega)
  | (exfalso; exact absurd (show cD qe qf qa qb qc qd = 0 by assumption) (by rw [cD_rot]; assumption))
  | (exfalso; exact absurd (show cD qa qb qc qd qe qf = 0 by assumption) (by rw [← cD_rot]; assumption))
  | (exfalso; have hD : ¬cD qa qb qc qd qe qf = 0 := (by unfold cD; assumption); have q := circ_q (a := qa) (b := qb) (c := qc) (d := qd) (e := qe) (f := qf) hD; unfold cU cV cD at q; exact absurd q (by assumption))
  | (exfalso; have hD : ¬cD qa qb qc qd qe qf = 0 := (by unfold cD; assumption); have q := circ_q (a := qe) (b := qf) (c := qa) (d := qb) (e := qc) (f := qd) (by rw [cD_rot]; exact hD); unfold cU cV cD at q; exact absurd q (by assumption))
  | (exfalso; have hD : ¬cD qa qb qc qd qe qf = 0 := (by unfold cD; assumption); have q1 := circ_x (a := qa) (b := qb) (c := qc) (d := qd) (e := qe) (f := qf) hD; have q2 := circ_y (a := qa) (b := qb) (c := qc) (d := qd) (e := qe) (f := qf) hD; have q3 := circ_rq (a := qa) (b := qb) (c := qc) (d := qd) (e := qe) (f := qf) hD; unfold cU cD at q1; unfold cV cD at q2; unfold cU cV cD at q3; rename (!(_ && _)) = true => h; refine absurd h (nt1 ?_); simp only [Bool.and_eq_true, decide_eq_true_eq]; exact ⟨q1, q2, q3⟩)
  | (exfalso; have hD : ¬cD qa qb qc qd qe qf = 0 := (by unfold cD; assumption); rename ¬-exI _ _ _ = 0 => h; refine h (neg0 (ex0 ?_ ?_)); simp only [Rat.zero_mul, Rat.mul_zero, Rat.add_zero]; refine sub0 ?_; have z := circ_1 (a := qa) (b := qb) (c := qc) (d := qd) (e := qe) (f := qf) hD rfl rfl; unfold cU cV cD at z; exact z; simp only [Rat.mul_zero, Rat.add_zero])
  | (exfalso; have hD : ¬cD qa qb qc qd qe qf = 0 := (by unfold cD; assumption); rename ¬-exI _ _ _ = 0 => h; refine h (neg0 (ex0 ?_ ?_)); simp only [Rat.zero_mul, Rat.mul_zero, Rat.add_zero]; refine sub0 ?_; have z := circ_2 (a := qa) (b := qb) (c := qc) (d := qd) (e := qe) (f := qf) hD rfl rfl; unfold cU cV cD at z; exact z; simp only [Rat.mul_zero, Rat.add_zero])
  | (exfalso; have hD : ¬cD qa qb qc qd qe qf = 0 := (by unfold cD; assumption); rename ¬-exI _ _ _ = 0 => h; refine h (neg0 (ex0 ?_ ?_)); simp only [Rat.zero_mul, Rat.mul_zero, Rat.add_zero]; refine sub0 ?_; have z := circ_3 (a := qa) (b := qb) (c := qc) (d := qd) (e := qe) (f := qf) hD rfl rfl; unfold cU cV cD at z; exact z; simp only [Rat.mul_zero, Rat.add_zero])
  | (have hD : ¬cD qa qb qc qd qe qf = 0 := (by unfold cD; assumption); refine bE (decide_eq_true ?_); refine (neg0 (ex0 ?_ ?_)); simp only [Rat.zero_mul, Rat.mul_zero, Rat.add_zero]; refine sub0 ?_; have z := circ_1 (a := qa) (b := qb) (c := qc) (d := qd) (e := qe) (f := qf) hD rfl rfl; unfold cU cV cD at z; exact z; simp only [Rat.mul_zero, Rat.add_zero])
  | (have hD : ¬cD qa qb qc qd qe qf = 0 := (by unfold cD; assumption); refine bE (decide_eq_true ?_); refine (neg0 (ex0 ?_ ?_)); simp only [Rat.zero_mul, Rat.mul_zero, Rat.add_zero]; refine sub0 ?_; have z := circ_2 (a := qa) (b := qb) (c := qc) (d := qd) (e := qe) (f := qf) hD rfl rfl; unfold cU cV cD at z; exact z; simp only [Rat.mul_zero, Rat.add_zero])
  | (have hD : ¬cD qa qb qc qd qe qf = 0 := (by unfold cD; assumption); refine bE (decide_eq_true ?_); refine (neg0 (ex0 ?_ ?_)); simp only [Rat.zero_mul, Rat.mul_zero, Rat.add_zero]; refine sub0 ?_; have z := circ_3 (a := qa) (b := qb) (c := qc) (d := qd) (e := qe) (f := qf) hD rfl rfl; unfold cU cV cD at z; exact z; simp only [Rat.mul_zero, Rat.add_zero])
  | (refine bE ?_; simp; done)
  | (exfalso; simp at *; done)
  | (exfalso; simp_all; done)
  | skip⟩

end Go.Proofs.YtkcoahciohejkaaGreat

namespace Go.Proofs.YtkcoahciohejkaaGreat
open Go Go.RowKit Go.Sw Go.ChangeShapes Go.WideShapes Go.ChangeAt
set_option maxRecDepth 100000
theorem SupportCircle_den : ∀ xs, FitAs [.cons (.int .i16) (.cons (.int .i16) (.cons (.int .u8) .nil)), .cons (.int .i16) (.cons (.int .i16) (.cons (.int .u8) .nil)), .cons (.int .i16) (.cons (.int .i16) (.cons (.int .u8) .nil))] xs → Den Tryz.prog 7 xs (.bool true) := by
  rintro xs ⟨_, _, ⟨_, ⟨_, _, ⟨n1, wn1, rfl⟩, ⟨_, _, ⟨n2, wn2, rfl⟩, ⟨_, _, ⟨n3, wn3, rfl⟩, rfl, rfl⟩, rfl⟩, rfl⟩, rfl⟩, ⟨_, _, ⟨_, ⟨_, _, ⟨n4, wn4, rfl⟩, ⟨_, _, ⟨n5, wn5, rfl⟩, ⟨_, _, ⟨n6, wn6, rfl⟩, rfl, rfl⟩, rfl⟩, rfl⟩, rfl⟩, ⟨_, _, ⟨_, ⟨_, _, ⟨n7, wn7, rfl⟩, ⟨_, _, ⟨n8, wn8, rfl⟩, ⟨_, _, ⟨n9, wn9, rfl⟩, rfl, rfl⟩, rfl⟩, rfl⟩, rfl⟩, rfl, rfl⟩, rfl⟩, rfl⟩
  have wn1 := wfI16 wn1
  have wn2 := wfI16 wn2
  obtain ⟨mn3, rfl, hmn3⟩ := wfNat (by simp) wn3
  have hmn3 : mn3 < 256 := hmn3
  have wn4 := wfI16 wn4
  have wn5 := wfI16 wn5
  obtain ⟨mn6, rfl, hmn6⟩ := wfNat (by simp) wn6
  have hmn6 : mn6 < 256 := hmn6
  have wn7 := wfI16 wn7
  have wn8 := wfI16 wn8
  obtain ⟨mn9, rfl, hmn9⟩ := wfNat (by simp) wn9
  have hmn9 : mn9 < 256 := hmn9
  simp only [List.append_nil, List.nil_append, List.cons_append]
  exact DenI.den (P := Tryz.prog) (f := 7) (by unfold smallI; (repeat' apply And.intro) <;> first | trivial | omega)
set_option maxHeartbeats 800000 in
theorem SupportCircle_lifted (os : Os) (started : os.Started) (H : Type) (enc : TypeId × Value → H) :
    ReturnsInHanded {} Tryz.checked os 7 .any (Rows.supportCircleSpec.pre6 enc Tryz.prog Tryz.f7 Rows.supportCircleRow.domain false) (Rows.supportCircleSpec.post enc Tryz.prog Tryz.f7 false true false false) := by
  refine returnsInHanded_of_change (C := Tryz.checked) Tryz.own started (by kernel_rfl) Tryz.func7
    (ChangeSpec.witness6 (enc := enc) (C := Tryz.checked) false ⟨#[], #[.agg #[.int .i16 0, .int .i16 0, .int .u8 0], .agg #[.int .i16 0, .int .i16 0, .int .u8 0], .agg #[.int .i16 0, .int .i16 0, .int .u8 0]], []⟩ 12 (by kernel_rfl) (by kernel_rfl) (by kernel_rfl) (by kernel_rfl)) ?_
  intro W base args ds gs before hval0 hW _ _
  have hW' := hW
  obtain ⟨p, q, hA0, hV, rfl, _, _⟩ := hW
  have hA : DataW.TrodAll enc Tryz.prog W 0 (fun _ => true) true Tryz.f7.params.toList args.toList ds p := hA0
  obtain ⟨rfl, rfl⟩ := trodVars_none hV
  obtain ⟨d0, d1, d2, rfl⟩ := len3 (show ds.length = 3 from trodAll_len hA)
  simp only [List.append_nil] at hW'
  have hlt : ∀ x ∈ p, x.block < W.heap.size := fun x hx => by simpa using hW'.lt x hx
  refine (law_run (Ts := [.cons (.int .i16) (.cons (.int .i16) (.cons (.int .u8) .nil)), .cons (.int .i16) (.cons (.int .i16) (.cons (.int .u8) .nil)), .cons (.int .i16) (.cons (.int .i16) (.cons (.int .u8) .nil))]) (by kernel_rfl) SupportCircle_den (fun j t v hj ha => hval0 j t v (by simpa using hj) (by simpa using ha)) hA).mono fun e W' he => ?_
  obtain ⟨_, rfl, rfl, hb⟩ := he
  refine ⟨_, rfl, _, _, _, [], _, [], hW', ?_, trodAll_below Tryz.laidOut hb (by kernel_rfl) hlt hA, rfl, hb.frame _, fun h => by cases h⟩
  exact trodAll_mk1 (shut_bool Tryz.underlying4 _)
theorem SupportCircle_holds : Rows.SupportCircleSaid :=
  OpenClaim.holds_of_wide 7 Tryz.f7 rfl rfl rfl rfl rfl rfl rfl ⟨rfl, rfl, rfl, rfl, rfl⟩ rfl rfl rfl rfl rfl (by kernel_rfl) Tryz.func7 (by kernel_rfl)
    (of_decide_eq_true (by kernel_rfl)) (by unfold Func.isWrapper; first | (rw [if_pos (by decide +kernel)]; kernel_rfl) | (rw [if_neg (by decide +kernel)]; exact ⟨rfl, rfl⟩))
    (fun os started H enc _ => SupportCircle_lifted os started H enc)
#print axioms SupportCircle_holds
end Go.Proofs.YtkcoahciohejkaaGreat
