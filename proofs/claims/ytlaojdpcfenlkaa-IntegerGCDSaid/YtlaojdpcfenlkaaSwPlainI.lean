/-
  Division rounded down, the greatest common divisor, the square root.
  Conditions: none.
-/
import Derived.Test.YtlaojdpcfenlkaaSwPlainH
namespace Go.Sw
theorem fdm_pos {a b q r : Int} (hb : 0 < b) (h : r + b * q = a) (h0 : 0 ≤ r) (h1 : r < b) : a.fdiv b = q ∧ a.fmod b = r := (Int.fdiv_fmod_unique hb).2 ⟨h, h0, h1⟩
theorem fdm_neg {a b q r : Int} (hb : b < 0) (h : r + b * q = a) (h0 : b < r) (h1 : r ≤ 0) : a.fdiv b = q ∧ a.fmod b = r := (Int.fdiv_fmod_unique' hb).2 ⟨h, h0, h1⟩
theorem dm_keep {a b : Int} {q r : Nat} (hb : b ≠ 0) (h : a.natAbs = b.natAbs * q + r) (hr : r < b.natAbs) (hk : r = 0 ∨ (a < 0 ↔ b < 0)) : sgnv (decide (a < 0) != decide (b < 0)) q = a.fdiv b ∧ sgnv (decide (a < 0)) r = a.fmod b := by
  have h' : (a.natAbs : Int) = (b.natAbs : Int) * q + r := by exact_mod_cast h
  by_cases ha : a < 0 <;> by_cases hb0 : b < 0 <;> simp [ha, hb0, sgnv] at hk ⊢
  · have := fdm_neg (a := a) (b := b) (q := q) (r := -(r : Int)) hb0 (by rw [show (a.natAbs : Int) = -a by omega, show (b.natAbs : Int) = -b by omega] at h'; grind) (by omega) (by omega)
    exact ⟨this.1.symm, this.2.symm⟩
  · subst hk
    have := fdm_pos (a := a) (b := b) (q := -(q : Int)) (r := 0) (by omega) (by rw [show (a.natAbs : Int) = -a by omega, show (b.natAbs : Int) = b by omega] at h'; grind) (by omega) (by omega)
    simp; exact ⟨this.1.symm, this.2.symm⟩
  · subst hk
    have := fdm_neg (a := a) (b := b) (q := -(q : Int)) (r := 0) hb0 (by rw [show (a.natAbs : Int) = a by omega, show (b.natAbs : Int) = -b by omega] at h'; grind) (by omega) (by omega)
    simp; exact ⟨this.1.symm, this.2.symm⟩
  · have := fdm_pos (a := a) (b := b) (q := q) (r := r) (by omega) (by rw [show (a.natAbs : Int) = a by omega, show (b.natAbs : Int) = b by omega] at h'; grind) (by omega) (by omega)
    exact ⟨this.1.symm, this.2.symm⟩
theorem dm_turn {a b : Int} {q r : Nat} (hb : b ≠ 0) (h : a.natAbs = b.natAbs * q + r) (hr : r < b.natAbs) (h0 : 0 < r) (hk : ¬ (a < 0 ↔ b < 0)) : sgnv (decide (a < 0) != decide (b < 0)) q - 1 = a.fdiv b ∧ sgnv (decide (a < 0)) r + b = a.fmod b := by
  have h' : (a.natAbs : Int) = (b.natAbs : Int) * q + r := by exact_mod_cast h
  by_cases ha : a < 0 <;> by_cases hb0 : b < 0 <;> simp [ha, hb0, sgnv] at hk ⊢
  · have := fdm_pos (a := a) (b := b) (q := -(q : Int) - 1) (r := -(r : Int) + b) (by omega) (by rw [show (a.natAbs : Int) = -a by omega, show (b.natAbs : Int) = b by omega] at h'; grind) (by omega) (by omega)
    exact ⟨this.1.symm, this.2.symm⟩
  · have := fdm_neg (a := a) (b := b) (q := -(q : Int) - 1) (r := (r : Int) + b) hb0 (by rw [show (a.natAbs : Int) = a by omega, show (b.natAbs : Int) = -b by omega] at h'; grind) (by omega) (by omega)
    exact ⟨this.1.symm, this.2.symm⟩
theorem dm_sz {a b q r : Nat} (h : a = b * q + r) (hr : r < b) : q ≤ a := by
  have := Nat.mul_le_mul_right q (show 1 ≤ b by omega); omega
theorem sgnv_lt0 (a : Int) (n : Nat) : sgnv (decide (a < 0)) n < 0 ↔ a < 0 ∧ 0 < n := by
  by_cases h : a < 0 <;> simp [h, sgnv] <;> omega
theorem all_step {M : Type} {f : M → Bool} {zs : List M} {k : Nat} {d : M} (hk : k < zs.length) (h : (zs.take k).all f = true) (h1 : f (zs.getD k d) = true) : (zs.take (k + 1)).all f = true := by
  rw [List.take_add_one, List.getElem?_eq_getElem hk, List.all_append, h]
  simpa [List.getD, hk] using h1
theorem all_no {M : Type} {f : M → Bool} {zs : List M} {k : Nat} {d : M} (hk : k < zs.length) (h1 : f (zs.getD k d) = false) : false = zs.all f := by
  symm
  rw [List.all_eq_false]
  exact ⟨zs[k], List.getElem_mem hk, by simpa [List.getD, hk] using h1⟩
theorem gcd_turn {m n u v : Nat} (h : Nat.gcd u v = m) (hn : n = u % v) : Nat.gcd v n = m := by
  subst hn
  rw [← h, Nat.gcd_comm v, ← Nat.gcd_rec, Nat.gcd_comm]
theorem gcd_div {g m n q r : Nat} (h : Nat.gcd m n = g) (hd : m = n * q + r) : Nat.gcd n r = g := by
  rw [← h, hd, Nat.gcd_comm (n * q + r), Nat.gcd_mul_left_add_right]
theorem fdiv_nat {a : Int} {n : Nat} (h : 0 ≤ a) : a.fdiv (n : Int) = ((a.natAbs / n : Nat) : Int) := by
  obtain ⟨m, rfl⟩ := Int.eq_ofNat_of_zero_le h
  simp [Int.fdiv_eq_ediv_of_nonneg]
theorem three_lb {n : Nat} (h : n < 18446744073709551616) : Lb [n % 1000000000, n / 1000000000 % 1000000000, n / 1000000000 / 1000000000] := Lb.cons (by omega) (Lb.cons (by omega) (Lb.cons (by omega) Lb.nil))
/-- Newton's step from above: it never falls below the root. -/
theorem newton_ge {a x y : Nat} (hx : 0 < x) (hy : y = (x + a / x) / 2) : a < (y + 1) * (y + 1) := by
  have h1 : a < x * (a / x + 1) := Nat.lt_mul_div_succ a hx
  generalize a / x = q at *
  have h2 : x + q + 1 ≤ 2 * (y + 1) := by omega
  have h3 : (x + q + 1) * (x + q + 1) ≤ (2 * (y + 1)) * (2 * (y + 1)) := Nat.mul_le_mul h2 h2
  rcases Nat.le_total x (q + 1) with h | h
  · obtain ⟨d, hd⟩ : ∃ d, q + 1 = x + d := ⟨q + 1 - x, by omega⟩
    rw [show x + q + 1 = x + (q + 1) by omega, hd] at h3
    rw [hd] at h1
    have h4 : 0 ≤ d * d := Nat.zero_le _
    grind
  · obtain ⟨d, hd⟩ : ∃ d, x = q + 1 + d := ⟨x - (q + 1), by omega⟩
    subst hd
    have h4 : 0 ≤ d * d := Nat.zero_le _
    grind
/-- Where the step no longer falls, the root is reached. -/
theorem newton_end {a x y : Nat} (hx : 0 < x) (hy : y = (x + a / x) / 2) (h : x ≤ y) : x * x ≤ a := by
  have h1 : x * (a / x) ≤ a := Nat.mul_div_le a x
  have h2 : x ≤ a / x := by omega
  have h3 := Nat.mul_le_mul_left x h2
  omega
theorem newton_pos {a x y : Nat} (ha : 0 < a) (hx : 0 < x) (hy : y = (x + a / x) / 2) : 0 < y := by
  rcases Nat.eq_zero_or_pos y with h | h
  · have h1 := newton_ge hx hy
    rw [h] at h1
    have h2 : a = 0 := by omega
    omega
  · exact h
theorem sz_lt18 {n : Nat} (h : sz (n : Int) ≤ 2) : n < 1000000000000000000 := by
  unfold sz at h
  rw [Int.natAbs_natCast] at h
  have := lt_of_lim_len h
  omega
theorem sqrt_start (k : Nat) : sgnv false (val (List.replicate k 0 ++ [1])) = ((1000000000 ^ k : Nat) : Int) := by
  show ((val _ : Nat) : Int) = _
  rw [val_append, val_zeros]; simp [val]
theorem sqrt_bound (n : Nat) : n < (1000000000 ^ (((lim n).length + 1) / 2) + 1) * (1000000000 ^ (((lim n).length + 1) / 2) + 1) := by
  have h1 := lim_lt n
  have h2 : 1000000000 ^ (lim n).length ≤ 1000000000 ^ (((lim n).length + 1) / 2 + ((lim n).length + 1) / 2) := Nat.pow_le_pow_right (by omega) (by omega)
  rw [Nat.pow_add] at h2
  generalize 1000000000 ^ (((lim n).length + 1) / 2) = p at *
  have h3 : p * p ≤ (p + 1) * (p + 1) := Nat.mul_le_mul (by omega) (by omega)
  omega
theorem sqrt_facts {n x0 : Nat} (h : x0 = 1000000000 ^ (((lim n).length + 1) / 2)) (hl : (lim n).length ≤ 100000000) : 0 < x0 ∧ n < (x0 + 1) * (x0 + 1) ∧ sz (x0 : Int) ≤ 200000000 := by
  refine ⟨by rw [h]; exact Nat.pow_pos (by omega), by rw [h]; exact sqrt_bound n, ?_⟩
  unfold sz
  rw [Int.natAbs_natCast]
  have := lim_len_le (n := x0) (k := ((lim n).length + 1) / 2 + 1) (by rw [h]; exact Nat.pow_lt_pow_right (by omega) (by omega))
  omega
theorem fdiv_two (x q : Nat) : (((x : Nat) : Int) + ((q : Nat) : Int)).fdiv 2 = (((x + q) / 2 : Nat) : Int) := by
  rw [← Int.natCast_add, Int.fdiv_eq_ediv_of_nonneg _ (by omega)]
  rfl
end Go.Sw
