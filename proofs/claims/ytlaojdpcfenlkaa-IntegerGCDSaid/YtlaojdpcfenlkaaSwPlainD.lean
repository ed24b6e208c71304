/-
  Division of lists of limbs by one limb; values from the top.
  Conditions: none.
-/
import Derived.Test.YtlaojdpcfenlkaaSwPlainC
namespace Go.Sw
theorem drop_cons {l : List Nat} {k : Nat} (h : k < l.length) : l.drop k = l.getD k 0 :: l.drop (k + 1) := by
  rw [List.drop_eq_getElem_cons h]
  simp [List.getD, h]
theorem val_drop {l : List Nat} {k : Nat} (hk : 0 < k) (h : k ≤ l.length) : val (l.drop (k - 1)) = l.getD (k - 1) 0 + 1000000000 * val (l.drop k) := by
  rw [drop_cons (show k - 1 < l.length by omega), val, show k - 1 + 1 = k by omega]
theorem val_drop_le (l : List Nat) (k : Nat) : val (l.drop k) ≤ val l := by
  have h := val_append (l.take k) (l.drop k)
  rw [List.take_append_drop] at h
  have h1 : 1000000000 ^ 0 ≤ 1000000000 ^ (l.take k).length := Nat.pow_le_pow_right (by omega) (Nat.zero_le _)
  rw [Nat.pow_zero] at h1
  have h2 : 1 * val (l.drop k) ≤ 1000000000 ^ (l.take k).length * val (l.drop k) := Nat.mul_le_mul_right _ h1
  omega
theorem val_drop_all {l : List Nat} {k : Nat} (h : l.length ≤ k) : val (l.drop k) = 0 := by rw [List.drop_eq_nil_of_le h]; rfl
theorem drop_set_lt {l : List Nat} {i d k : Nat} (h : i < k) : (l.set i d).drop k = l.drop k := by
  apply List.ext_getElem?
  intro j
  simp only [List.getElem?_drop, List.getElem?_set]
  rw [if_neg (by omega)]
theorem val_set_drop {l : List Nat} {k d : Nat} (hk : 0 < k) (h : k ≤ l.length) : val ((l.set (k - 1) d).drop (k - 1)) = d + 1000000000 * val (l.drop k) := by
  rw [val_drop hk (by simpa using h), getD_set_same (by omega), drop_set_lt (by omega)]
theorem byword_step {a o : List Nat} {k b r t q : Nat} (hk : 0 < k) (ha : k ≤ a.length) (ho : k ≤ o.length) (h : val (a.drop k) = b * val (o.drop k) + r) (ht : t = r * 1000000000 + a.getD (k - 1) 0) (hq : q = t / b) :
    val (a.drop (k - 1)) = b * val ((o.set (k - 1) q).drop (k - 1)) + t % b := by
  subst hq
  rw [val_set_drop hk ho, val_drop hk ha, h]
  have h1 := Nat.div_add_mod t b
  have h3 : b * (t / b + 1000000000 * val (o.drop k)) = b * (t / b) + b * (1000000000 * val (o.drop k)) := Nat.mul_add ..
  rw [h3]
  have h2 : b * (1000000000 * val (o.drop k)) = 1000000000 * (b * val (o.drop k)) := by rw [← Nat.mul_assoc, Nat.mul_comm b, Nat.mul_assoc]
  rw [h2]
  omega
theorem byword_lt {r b x t : Nat} (hr : r < b) (hb : b < 1000000000) (hx : x < 1000000000) (ht : t = r * 1000000000 + x) : t / b < 1000000000 ∧ t % b < b ∧ t < 1000000000000000000 := by
  refine ⟨?_, Nat.mod_lt _ (by omega), by omega⟩
  rw [Nat.div_lt_iff_lt_mul (by omega)]
  have : r * 1000000000 + x < b * 1000000000 := by omega
  rw [Nat.mul_comm 1000000000 b]
  omega
theorem val_three (n : Nat) : val [n % 1000000000, n / 1000000000 % 1000000000, n / 1000000000 / 1000000000] = n := by simp only [val]; omega
theorem lb_three {n : Nat} (h : n < 1000000000000000000000000000) : Lb [n % 1000000000, n / 1000000000 % 1000000000, n / 1000000000 / 1000000000] := by
  refine Lb.cons (by omega) (Lb.cons (by omega) (Lb.cons (by omega) Lb.nil))
theorem lim_len_le {n k : Nat} (h : n < 1000000000 ^ k) : (lim n).length ≤ k := by
  rcases Nat.lt_or_ge k (lim n).length with hlt | hge
  · exfalso
    have h1 := can_pow (CanL.lim n) (by intro e; rw [e] at hlt; simp at hlt)
    rw [val_lim] at h1
    have h2 : 1000000000 ^ k ≤ 1000000000 ^ ((lim n).length - 1) := Nat.pow_le_pow_right (by omega) (by omega)
    omega
  · exact hge
theorem lt_of_lim_len {n k : Nat} (h : (lim n).length ≤ k) : n < 1000000000 ^ k := by
  have h1 := val_lt (lim n) (lb_lim n)
  rw [val_lim] at h1
  exact Nat.lt_of_lt_of_le h1 (Nat.pow_le_pow_right (by omega) h)
theorem lim_two {n : Nat} (h : (lim n).length = 2) : (lim n).getD 1 0 * 1000000000 + (lim n).getD 0 0 = n := by
  have h1 := val_lim n
  match hl : lim n, h with
  | [x, y], _ => rw [hl] at h1; simp [val] at h1 ⊢; omega
theorem lim_one {n : Nat} (h : (lim n).length = 1) : (lim n).getD 0 0 = n := by
  have h1 := val_lim n
  match hl : lim n, h with
  | [x], _ => rw [hl] at h1; simp [val] at h1 ⊢; omega
theorem lim_len_zero {n : Nat} : (lim n).length = 0 ↔ n = 0 := by rw [List.length_eq_zero_iff]; exact lim_nil
end Go.Sw
