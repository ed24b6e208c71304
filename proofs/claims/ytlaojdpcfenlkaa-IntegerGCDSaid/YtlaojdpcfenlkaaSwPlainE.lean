/-
  Integers by sign and absolute value.
  Conditions: none.
-/
import Derived.Test.YtlaojdpcfenlkaaSwPlainD
namespace Go.Sw
/-- A sign and an absolute value. -/
def sgnv (neg : Bool) (n : Nat) : Int := if neg then -(n : Int) else n
theorem natAbs_sgnv (neg : Bool) (n : Nat) : (sgnv neg n).natAbs = n := by cases neg <;> simp [sgnv]
theorem neg_sgnv (neg : Bool) (n : Nat) : decide (sgnv neg n < 0) = (neg && decide (0 < n)) := by cases neg <;> simp [sgnv]
theorem sgnv_of (x : Int) : sgnv (decide (x < 0)) x.natAbs = x := by
  unfold sgnv
  by_cases h : x < 0 <;> simp [h] <;> omega
/-- How many limbs. -/
def sz (x : Int) : Nat := (lim x.natAbs).length
def cmpI (a b : Int) : Int := if a < b then -1 else if b < a then 1 else 0
def sgnI (a : Int) : Int := if a < 0 then -1 else if a = 0 then 0 else 1
theorem cmpI_neg {a b : Int} (ha : a < 0) (hb : b < 0) : cmpI a b = cmpN b.natAbs a.natAbs := by
  unfold cmpI cmpN
  have h1 : (a < b) ↔ (b.natAbs < a.natAbs) := by omega
  have h2 : (b < a) ↔ (a.natAbs < b.natAbs) := by omega
  simp only [h1, h2]
theorem cmpI_pos {a b : Int} (ha : ¬ a < 0) (hb : ¬ b < 0) : cmpI a b = cmpN a.natAbs b.natAbs := by
  unfold cmpI cmpN
  have h1 : (a < b) ↔ (a.natAbs < b.natAbs) := by omega
  have h2 : (b < a) ↔ (b.natAbs < a.natAbs) := by omega
  simp only [h1, h2]
theorem cmpI_lt {a b : Int} (h : a < b) : cmpI a b = -1 := by simp [cmpI, h]
theorem cmpI_gt {a b : Int} (h : b < a) : cmpI a b = 1 := by unfold cmpI; rw [if_neg (by omega), if_pos h]
theorem cmpI_eq (a : Int) : cmpI a a = 0 := by simp [cmpI]
theorem cmpI_lt0 {a b : Int} : cmpI a b < 0 ↔ a < b := by unfold cmpI; split <;> (try split) <;> omega
theorem cmpI_gt0 {a b : Int} : cmpI a b > 0 ↔ b < a := by unfold cmpI; split <;> (try split) <;> omega
theorem cmpI_eq0 {a b : Int} : cmpI a b = 0 ↔ a = b := by unfold cmpI; split <;> (try split) <;> omega
theorem cmpN_lt0 {a b : Nat} : cmpN a b < 0 ↔ a < b := by unfold cmpN; split <;> (try split) <;> omega
theorem cmpN_ge0 {a b : Nat} : cmpN a b ≥ 0 ↔ b ≤ a := by unfold cmpN; split <;> (try split) <;> omega
theorem cmpN_eq0 {a b : Nat} : cmpN a b = 0 ↔ a = b := by unfold cmpN; split <;> (try split) <;> omega
theorem sgnv_add {a b : Int} (h : decide (a < 0) = decide (b < 0)) : sgnv (decide (a < 0)) (a.natAbs + b.natAbs) = a + b := by
  have h' : (a < 0) ↔ (b < 0) := by simpa using h
  unfold sgnv
  by_cases ha : a < 0
  · have := h'.1 ha; simp [ha]; omega
  · have : ¬ b < 0 := fun hb => ha (h'.2 hb); simp [ha]; omega
theorem sgnv_sub {a b : Int} (h : ¬ decide (a < 0) = decide (b < 0)) (hle : b.natAbs ≤ a.natAbs) : sgnv (decide (a < 0)) (a.natAbs - b.natAbs) = a + b := by
  have h' : ¬ ((a < 0) ↔ (b < 0)) := fun e => h (by simpa using e)
  unfold sgnv
  by_cases ha : a < 0
  · have : ¬ b < 0 := fun hb => h' ⟨fun _ => hb, fun _ => ha⟩; simp [ha]; omega
  · have : b < 0 := by
      by_cases hb : b < 0
      · exact hb
      · exact absurd ⟨fun x => absurd x ha, fun x => absurd x hb⟩ h'
    simp [ha]; omega
theorem sgnv_mul (a b : Int) : sgnv (decide (a < 0) != decide (b < 0)) (a.natAbs * b.natAbs) = a * b := by
  have e : ((a.natAbs * b.natAbs : Nat) : Int) = (a.natAbs : Int) * (b.natAbs : Int) := by simp
  by_cases ha : a < 0 <;> by_cases hb : b < 0
  · have h1 : (a.natAbs : Int) = -a := by omega
    have h2 : (b.natAbs : Int) = -b := by omega
    simp only [sgnv, ha, hb]
    simp only [bne_self_eq_false, Bool.false_eq_true, if_false, e, h1, h2, Int.neg_mul_neg]
  · have h1 : (a.natAbs : Int) = -a := by omega
    have h2 : (b.natAbs : Int) = b := by omega
    simp [sgnv, ha, hb, e, h1, h2, Int.neg_mul]
  · have h1 : (a.natAbs : Int) = a := by omega
    have h2 : (b.natAbs : Int) = -b := by omega
    simp [sgnv, ha, hb, e, h1, h2, Int.mul_neg]
  · have h1 : (a.natAbs : Int) = a := by omega
    have h2 : (b.natAbs : Int) = b := by omega
    simp [sgnv, ha, hb, e, h1, h2]
theorem sgnv_neg (a : Int) : sgnv (!decide (a < 0)) a.natAbs = -a := by
  unfold sgnv
  by_cases h : a < 0 <;> simp [h] <;> omega
theorem lim_le_of_le {a b : Nat} (h : a ≤ b) : (lim a).length ≤ (lim b).length := by
  rcases Nat.lt_or_ge (lim b).length (lim a).length with hlt | hge
  · have := val_lt_of_length (CanL.lim b) (CanL.lim a) hlt
    rw [val_lim, val_lim] at this
    omega
  · exact hge
theorem eq_of_sign {a b : Int} (h1 : decide (a < 0) = decide (b < 0)) (h2 : a.natAbs = b.natAbs) : a = b := by
  have h' : (a < 0) ↔ (b < 0) := by simpa using h1
  by_cases ha : a < 0
  · have := h'.1 ha; omega
  · have : ¬ b < 0 := fun hb => ha (h'.2 hb); omega
end Go.Sw
