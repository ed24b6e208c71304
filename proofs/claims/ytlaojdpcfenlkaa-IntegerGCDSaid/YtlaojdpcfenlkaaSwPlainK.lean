/-
  Long division as the reference does it.
  Conditions: none.
-/
import Derived.Test.YtlaojdpcfenlkaaSwPlainJ
namespace Go.Sw
theorem trimz_cons (x R : Nat) (hx : x < 1000000000) : trimz ([x] ++ lim R) = lim (x + 1000000000 * R) := by
  have h : Lb ([x] ++ lim R) := (Lb.cons hx Lb.nil).append (lb_lim R)
  rw [← lim_val _ h]
  simp [val, val_lim]
/-- The two leading limbs. -/
theorem high_eq {R n : Nat} (hn : 1 ≤ n) (hR : R < 1000000000 ^ (n + 1)) : ∃ low, low < 1000000000 ^ (n - 1) ∧ R = low + 1000000000 ^ (n - 1) * ((lim R).getD n 0 * 1000000000 + (lim R).getD (n - 1) 0) := by
  obtain ⟨m, rfl⟩ : ∃ m, n = m + 1 := ⟨n - 1, by omega⟩
  refine ⟨val ((lim R).take m), ?_, ?_⟩
  · rw [show m + 1 - 1 = m by omega]; exact take_lt (lb_lim R) m
  · have h1 := lim_len_le hR
    rw [show m + 1 - 1 = m by omega]
    have h2 : R = val ((lim R).take (m + 1 + 1)) := by rw [val_take_all (by omega), val_lim]
    conv => lhs; rw [h2, val_take_succ, val_take_succ, Nat.pow_succ]
    grind
/-- The estimated digit is not too small. -/
theorem digit_ge {R V n top : Nat} {v : List Nat} (hv : v = lim V) (hn : v.length = n) (h1 : 1 ≤ n) (ht : top = v.getD (n - 1) 0) (hR : R < 1000000000 * V) (h0 : 0 < top) :
    R < (((lim R).getD n 0 * 1000000000 + (lim R).getD (n - 1) 0) / top + 1) * V ∧ (lim R).getD n 0 * 1000000000 + (lim R).getD (n - 1) 0 < 1000000000 * 1000000000 := by
  subst hv
  have hVl := lim_lt V
  rw [hn] at hVl
  have hR2 : R < 1000000000 ^ (n + 1) := by rw [Nat.pow_succ]; omega
  obtain ⟨low, hl, he⟩ := high_eq h1 hR2
  obtain ⟨m, rfl⟩ : ∃ m, n = m + 1 := ⟨n - 1, by omega⟩
  rw [show m + 1 - 1 = m by omega] at *
  have hVt : V = val ((lim V).take m) + 1000000000 ^ m * (lim V).getD m 0 := by
    conv => lhs; rw [← val_lim V, ← val_take_all (l := lim V) (k := m + 1) (by omega), val_take_succ]
  rw [← ht] at hVt
  have hvl := take_lt (lb_lim V) m
  have hg1 := (lb_lim R).getD (m + 1)
  have hg2 := (lb_lim R).getD m
  refine ⟨?_, by omega⟩
  have := g_init (1000000000 ^ m) top ((lim R).getD (m + 1) 0 * 1000000000 + (lim R).getD m 0) _ (val ((lim V).take m)) low h0 hl rfl
  rw [← he, ← hVt] at this
  exact this
theorem digit_cap {R V : Nat} (hR : R < 1000000000 * V) : R < (999999999 + 1) * V := hR
/-- One round of the outer loop. -/
theorem parts_step {u o : List Nat} {V R R2 j d : Nat} (hj : 0 < j) (hu : j ≤ u.length) (ho : j ≤ o.length) (h : val (u.drop j) = V * val (o.drop j) + R) (hR2 : R2 = u.getD (j - 1) 0 + 1000000000 * R) (hd : V * d ≤ R2) :
    val (u.drop (j - 1)) = V * val ((o.set (j - 1) d).drop (j - 1)) + (R2 - V * d) := by
  rw [val_drop hj hu, val_set_drop hj ho, h]
  obtain ⟨t, rfl⟩ : ∃ t, R2 = V * d + t := ⟨R2 - V * d, by omega⟩
  rw [show V * d + t - V * d = t by omega]
  grind
theorem parts_lt {R2 V d : Nat} (h : R2 < (d + 1) * V) (hd : V * d ≤ R2) : R2 - V * d < V := by
  rw [Nat.add_mul, Nat.one_mul, Nat.mul_comm] at h
  omega
theorem parts_head {x R V : Nat} (hx : x < 1000000000) (h : R < V) : x + 1000000000 * R < 1000000000 * V := by omega
theorem parts_dec {V d : Nat} (hd : 0 < d) : V * d - V = V * (d - 1) := by
  obtain ⟨e, rfl⟩ : ∃ e, d = e + 1 := ⟨d - 1, by omega⟩
  rw [show e + 1 - 1 = e by omega, Nat.mul_add, Nat.mul_one]; omega
/-- The end. -/
theorem parts_end {a b s q R r rr : Nat} (hs : 0 < s) (h : a * s = b * s * q + R) (hlt : R < b * s) (hr : R = s * r + rr) (hrr : rr < s) : q = a / b ∧ r = a % b := by
  have := div_end hs h hlt hr hrr
  have hb : 0 < b := by omega
  constructor
  · rw [this.1, Nat.mul_add_div hb, Nat.div_eq_of_lt this.2]; omega
  · rw [this.1, Nat.mul_add_mod, Nat.mod_eq_of_lt this.2]
theorem lim_len_two {n : Nat} (h : (lim n).length ≤ 2) : n < 1000000000000000000 := by
  have := lt_of_lim_len h; omega
theorem scaled_len {a s : Nat} (hs : s < 1000000000) : (lim (a * s)).length ≤ (lim a).length + 1 := by
  refine lim_len_le ?_
  have h1 := lim_lt a
  rw [Nat.pow_succ]
  rcases Nat.eq_zero_or_pos s with h | h
  · subst h; simp; exact Nat.pow_pos (by omega)
  · exact Nat.mul_lt_mul'' h1 hs
theorem cmpN_gt0 {x y : Nat} : cmpN x y > 0 ↔ y < x := by unfold cmpN; split <;> (try split) <;> omega
theorem lim_len_mul {R V : Nat} (h : R < 1000000000 * V) : (lim R).length ≤ (lim V).length + 1 := by
  refine lim_len_le ?_
  have := lim_lt V
  rw [Nat.pow_succ]; omega
theorem small6 {a : Int} (ha : sz a ≤ 6) : (decide (((lim a.natAbs).length : Int) ≤ 6) && validL (decide (a < 0)) (lim a.natAbs)) = true := by
  unfold sz at ha
  simp [validL_lim]; omega
theorem gcd_dvd_fdm {x : Int} {g : Nat} (hg : 0 < g) (h : g ∣ x.natAbs) : x.fmod (g : Int) = 0 ∧ (x.fdiv (g : Int)).natAbs * g = x.natAbs := by
  obtain ⟨k, hk⟩ : (g : Int) ∣ x := Int.natAbs_dvd_natAbs.1 (by rw [Int.natAbs_natCast]; exact h)
  have := fdm_pos (a := x) (b := (g : Int)) (q := k) (r := 0) (by omega) (by omega) (by omega) (by omega)
  refine ⟨this.2, ?_⟩
  rw [this.1, hk, Int.natAbs_mul, Int.natAbs_natCast, Nat.mul_comm]
theorem gcd_law {x y : Int} {g : Nat} (hg : g = Nat.gcd x.natAbs y.natAbs) (h0 : ¬ sgnI (g : Int) = 0) : ¬ (g : Int) = 0 ∧ x.fmod (g : Int) = 0 ∧ y.fmod (g : Int) = 0 ∧ Nat.gcd (x.fdiv (g : Int)).natAbs (y.fdiv (g : Int)).natAbs = 1 := by
  have hne : ¬ (g : Int) = 0 := fun e => h0 (sgnI_zero.2 e)
  have hp : 0 < g := by omega
  obtain ⟨h1, h2⟩ := gcd_dvd_fdm hp (x := x) (by rw [hg]; exact Nat.gcd_dvd_left _ _)
  obtain ⟨h3, h4⟩ := gcd_dvd_fdm hp (x := y) (by rw [hg]; exact Nat.gcd_dvd_right _ _)
  refine ⟨hne, h1, h3, ?_⟩
  rw [← h2, ← h4, Nat.gcd_mul_right] at hg
  exact Nat.eq_of_mul_eq_mul_right hp (by omega)
theorem gcd_zero_law {x y : Int} (h0 : sgnI ((Nat.gcd x.natAbs y.natAbs : Nat) : Int) = 0) : x = 0 ∧ y = 0 := by
  have h := sgnI_zero.1 h0
  have h1 : Nat.gcd x.natAbs y.natAbs = 0 := by omega
  have h2 := Nat.eq_zero_of_gcd_eq_zero_left h1
  have h3 := Nat.eq_zero_of_gcd_eq_zero_right h1
  omega
theorem sz_gcd {x y : Int} {n : Nat} (hx : sz x ≤ n) (hy : sz y ≤ n) : sz ((Nat.gcd x.natAbs y.natAbs : Nat) : Int) ≤ n := by
  rcases Nat.eq_zero_or_pos x.natAbs with h | h
  · rw [h, Nat.gcd_zero_left]
    exact Nat.le_trans (sz_mono (by rw [Int.natAbs_natCast]; exact Nat.le_refl _)) hy
  · exact Nat.le_trans (sz_mono (by rw [Int.natAbs_natCast]; exact Nat.gcd_le_left _ h)) hx
end Go.Sw
