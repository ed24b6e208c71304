/-
  Long division: the estimated digit, one digit, the start and the end.
  Conditions: none.
-/
import Derived.Test.YtlaojdpcfenlkaaSwPlainG
namespace Go.Sw
theorem g_step (P v1 v2 g w2 rest lo low top : Nat) (h : g * v2 > rest * 1000000000 + w2) (ht : g * v1 + rest = top) (hlo : low < P) : low + P * w2 + P * 1000000000 * top < g * (lo + P * v2 + P * 1000000000 * v1) := by
  have h1 : P * (rest * 1000000000 + w2 + 1) ≤ P * (g * v2) := Nat.mul_le_mul_left P h
  subst ht
  grind
theorem g_end (P v1 v2 g w2 rest lo low top : Nat) (h : g * v2 ≤ rest * 1000000000 + w2) (ht : g * v1 + rest = top) (hg : g < 1000000000) (hl : lo < P) (hv : 0 < v1) : g * (lo + P * v2 + P * 1000000000 * v1) ≤ (low + P * w2 + P * 1000000000 * top) + (lo + P * v2 + P * 1000000000 * v1) := by
  have h1 : P * (g * v2) ≤ P * (rest * 1000000000 + w2) := Nat.mul_le_mul_left P h
  have h2 : g * lo ≤ g * P := Nat.mul_le_mul_left g (by omega)
  have h3 : g * P ≤ 1000000000 * P := Nat.mul_le_mul_right P (by omega)
  have h4 : P * 1 ≤ P * v1 := Nat.mul_le_mul_left P hv
  subst ht
  grind
theorem g_init (Q v1 top g lo low : Nat) (hv : 0 < v1) (hl : low < Q) (hg : g = top / v1) : low + Q * top < (g + 1) * (lo + Q * v1) := by
  have h1 : top < (g + 1) * v1 := by subst hg; have := Nat.lt_mul_div_succ top hv; rw [Nat.mul_comm] at this; exact this
  have h2 : Q * (top + 1) ≤ Q * ((g + 1) * v1) := Nat.mul_le_mul_left Q h1
  grind
theorem g_bound (Q v1 top lo low : Nat) (hl : lo < Q) (hv : 1000000000 ≤ 2 * v1) (hw : low + Q * top < 1000000000 * (lo + Q * v1)) : top / v1 ≤ 1000000001 := by
  have h1 : Q * top < Q * (1000000000 * (v1 + 1)) := by grind
  have h2 : top < 1000000000 * (v1 + 1) := Nat.lt_of_mul_lt_mul_left h1
  have h3 : top < 1000000002 * v1 := by omega
  have := (Nat.div_lt_iff_lt_mul (k := v1) (by omega)).2 h3
  omega
theorem val_drop_win {U : List Nat} {k m : Nat} (h : k + m ≤ U.length) : val (U.drop k) = val (win U k m) + 1000000000 ^ m * val (U.drop (k + m)) := by
  have h1 := List.take_append_drop m (U.drop k)
  have h2 : ((U.drop k).take m).length = m := by simp; omega
  conv => lhs; rw [← h1, val_append, h2, List.drop_drop]
  rfl
theorem val_split {U : List Nat} {k : Nat} (h : k ≤ U.length) : val U = val (U.take k) + 1000000000 ^ k * val (U.drop k) := by
  have h2 : (U.take k).length = k := by simp; omega
  conv => lhs; rw [← List.take_append_drop k U, val_append, h2]
theorem win_lt {U : List Nat} (h : Lb U) (k m : Nat) : val (win U k m) < 1000000000 ^ m := by
  have h1 := val_lt (win U k m) ((h.drop k).take m)
  refine Nat.lt_of_lt_of_le h1 (Nat.pow_le_pow_right (by omega) ?_)
  simp [win]; omega
theorem take_lt {U : List Nat} (h : Lb U) (m : Nat) : val (U.take m) < 1000000000 ^ m := by
  have h1 := val_lt (U.take m) (h.take m)
  refine Nat.lt_of_lt_of_le h1 (Nat.pow_le_pow_right (by omega) ?_)
  simp; omega
theorem win_top (U : List Nat) (k n : Nat) (hn : 2 ≤ n) : val (win U k (n + 1)) = val (win U k (n - 2)) + 1000000000 ^ (n - 2) * U.getD (k + n - 2) 0 + 1000000000 ^ (n - 2) * 1000000000 * (U.getD (k + n) 0 * 1000000000 + U.getD (k + n - 1) 0) := by
  obtain ⟨m, rfl⟩ : ∃ m, n = m + 2 := ⟨n - 2, by omega⟩
  rw [win_succ, win_succ, win_succ, show m + 2 - 2 = m by omega, show k + (m + 2) - 2 = k + m by omega, show k + (m + 2) - 1 = k + (m + 1) by omega, Nat.pow_succ, Nat.pow_succ]
  grind
theorem val_top (v : List Nat) (n : Nat) (hl : v.length = n) (hn : 2 ≤ n) : val v = val (v.take (n - 2)) + 1000000000 ^ (n - 2) * v.getD (n - 2) 0 + 1000000000 ^ (n - 2) * 1000000000 * v.getD (n - 1) 0 := by
  obtain ⟨m, rfl⟩ : ∃ m, n = m + 2 := ⟨n - 2, by omega⟩
  rw [← val_take_all (l := v) (k := m + 1 + 1) (by omega), val_take_succ, val_take_succ, show m + 2 - 2 = m by omega, show m + 2 - 1 = m + 1 by omega, Nat.pow_succ]
/-- The state of the division with j digits left. -/
def DivInv (u0 V : Nat) (U Q : List Nat) (j : Nat) : Prop := u0 = V * (1000000000 ^ j * val (Q.drop j)) + val U ∧ val (U.drop j) < V
/-- The window at a digit. -/
structure DigW (v U : List Nat) (k n : Nat) : Prop where
  lt : val (win U k (n + 1)) < 1000000000 * val v
  rest : val (U.drop (k + (n + 1))) = 0
theorem DivInv.win {u0 : Nat} {v U Q : List Nat} {j n : Nat} (h : DivInv u0 (val v) U Q j) (hj : 0 < j) (hl : j + n ≤ U.length) (hv : Lb v) (hU : Lb U) (hn : v.length = n) : DigW v U (j - 1) n := by
  obtain ⟨k, rfl⟩ : ∃ k, j = k + 1 := ⟨j - 1, by omega⟩
  have h2 := h.2
  have h3 := val_drop_win hl
  have h4 := val_lt v hv
  rw [hn] at h4
  have h0 : val (U.drop (k + 1 + n)) = 0 := by
    cases Nat.eq_zero_or_pos (val (U.drop (k + 1 + n))) with
    | inl h => exact h
    | inr h => have := Nat.mul_le_mul_left (1000000000 ^ n) h; omega
  rw [h0, Nat.mul_zero] at h3
  rw [show k + 1 - 1 = k by omega]
  refine ⟨?_, by rw [show k + (n + 1) = k + 1 + n by omega]; exact h0⟩
  have h5 := val_drop (l := U) (k := k + 1) (by omega) (by omega)
  rw [show k + 1 - 1 = k by omega] at h5
  have h6 := val_drop_win (U := U) (k := k) (m := n + 1) (by omega)
  rw [show k + (n + 1) = k + 1 + n by omega, h0, Nat.mul_zero] at h6
  have h7 := hU.getD k
  omega
theorem gs_init {v U : List Nat} {k n top : Nat} (hd : DigW v U k n) (hn : 2 ≤ n) (hl : v.length = n) (hv : Lb v) (hU : Lb U) (h2 : 1000000000 ≤ 2 * v.getD (n - 1) 0) (ht : top = U.getD (k + n) 0 * 1000000000 + U.getD (k + n - 1) 0) :
    val (win U k (n + 1)) < (top / v.getD (n - 1) 0 + 1) * val v ∧ top / v.getD (n - 1) 0 ≤ 1000000001 := by
  have h3 := win_top U k n hn
  have h4 := val_top v n hl hn
  rw [← ht] at h3
  have h5 := hd.lt
  have h6 := win_lt hU k (n - 2)
  have h7 := take_lt hv (n - 2)
  have h8 := hU.getD (k + n - 2)
  have h9 := hv.getD (n - 2)
  generalize val (win U k (n + 1)) = w at *
  generalize val (win U k (n - 2)) = wl at *
  generalize val (v.take (n - 2)) = vl at *
  generalize v.getD (n - 1) 0 = v1 at *
  generalize v.getD (n - 2) 0 = v2 at *
  generalize U.getD (k + n - 2) 0 = w2 at *
  generalize 1000000000 ^ (n - 2) = P at *
  have hP : P * w2 + P ≤ P * 1000000000 := by have := Nat.mul_le_mul_left P (show w2 + 1 ≤ 1000000000 by omega); grind
  have hP2 : P * v2 + P ≤ P * 1000000000 := by have := Nat.mul_le_mul_left P (show v2 + 1 ≤ 1000000000 by omega); grind
  rw [h3, h4] at h5 ⊢
  exact ⟨g_init (P * 1000000000) v1 top (top / v1) (vl + P * v2) (wl + P * w2) (by omega) (by omega) rfl, g_bound (P * 1000000000) v1 top (vl + P * v2) (wl + P * w2) (by omega) h2 h5⟩
theorem gs_step {v U : List Nat} {k n g rest : Nat} (hn : 2 ≤ n) (hl : v.length = n) (hU : Lb U)
    (hg : g * v.getD (n - 1) 0 + rest = U.getD (k + n) 0 * 1000000000 + U.getD (k + n - 1) 0) (h : g * v.getD (n - 2) 0 > rest * 1000000000 + U.getD (k + n - 2) 0) : val (win U k (n + 1)) < g * val v := by
  rw [win_top U k n hn, val_top v n hl hn, ← hg]
  exact g_step _ _ _ _ _ rest _ _ _ h rfl (win_lt hU k (n - 2))
theorem gs_big {v U : List Nat} {k n g : Nat} (hd : DigW v U k n) (h : 1000000000 ≤ g) : val (win U k (n + 1)) < g * val v :=
  Nat.lt_of_lt_of_le hd.lt (Nat.mul_le_mul_right _ h)
theorem gs_end {v U : List Nat} {k n g rest : Nat} (hn : 2 ≤ n) (hl : v.length = n) (hv : Lb v) (h2 : 1000000000 ≤ 2 * v.getD (n - 1) 0)
    (hg : g * v.getD (n - 1) 0 + rest = U.getD (k + n) 0 * 1000000000 + U.getD (k + n - 1) 0) (hb : g < 1000000000) (h : g * v.getD (n - 2) 0 ≤ rest * 1000000000 + U.getD (k + n - 2) 0) : g * val v ≤ val (win U k (n + 1)) + val v := by
  rw [win_top U k n hn, val_top v n hl hn, ← hg]
  exact g_end _ _ _ _ _ rest _ _ _ h rfl hb (take_lt hv (n - 2)) (by omega)
/-- A step out of the loop: the rest is great. -/
theorem gs_out {v1 v2 g g1 rest w2 top : Nat} (hg : g * v1 + rest = top) (ht : top < 1000000000 * (v1 + 1)) (hr : 1000000000 ≤ rest) (hv2 : v2 < 1000000000) (hg1 : g = g1) : g1 < 1000000000 ∧ g1 * v2 ≤ rest * 1000000000 + w2 := by
  subst hg1
  have h1 : g < 1000000000 := by
    rcases Nat.lt_or_ge g 1000000000 with h | h
    · exact h
    · have := Nat.mul_le_mul_right v1 h; omega
  have h2 : g * v2 ≤ 1000000000 * 1000000000 := Nat.mul_le_mul (by omega) (by omega)
  exact ⟨h1, by omega⟩
theorem top_lt {v U : List Nat} {k n : Nat} (hd : DigW v U k n) (hn : 2 ≤ n) (hl : v.length = n) (hv : Lb v) : U.getD (k + n) 0 * 1000000000 + U.getD (k + n - 1) 0 < 1000000000 * (v.getD (n - 1) 0 + 1) := by
  have h3 := win_top U k n hn
  have h4 := val_top v n hl hn
  have h5 := hd.lt
  have h7 := take_lt hv (n - 2)
  have h9 := hv.getD (n - 2)
  rw [h3, h4] at h5
  generalize U.getD (k + n) 0 * 1000000000 + U.getD (k + n - 1) 0 = top at *
  generalize val (win U k (n - 2)) = wl at *
  generalize val (v.take (n - 2)) = vl at *
  generalize v.getD (n - 1) 0 = v1 at *
  generalize v.getD (n - 2) 0 = v2 at *
  generalize U.getD (k + n - 2) 0 = w2 at *
  generalize 1000000000 ^ (n - 2) = P at *
  have hP2 : P * v2 + P ≤ P * 1000000000 := by have := Nat.mul_le_mul_left P (show v2 + 1 ≤ 1000000000 by omega); grind
  have h1 : (P * 1000000000) * top < (P * 1000000000) * (1000000000 * (v1 + 1)) := by grind
  exact Nat.lt_of_mul_lt_mul_left h1
/-- What the subtraction says, and what the restoring says behind it. -/
theorem dig_keep {w w1 V g M cy : Nat} (h : w1 + V * g = w + M * cy) (hc : cy = 0) (hhi : w < (g + 1) * V) : w = V * g + w1 ∧ w1 < V := by
  subst hc
  rw [Nat.mul_zero] at h
  refine ⟨by omega, ?_⟩
  grind
theorem dig_back {w w1 w2 V g M cy cy2 : Nat} (h : w1 + V * g = w + M * cy) (hc : 0 < cy) (h1 : w1 < M) (hlo : g * V ≤ w + V) (hVM : V ≤ M) (h2 : w2 + M * cy2 = w1 + V) (hw2 : w2 < M) (hc2 : cy2 ≤ 1) : 0 < g ∧ w = V * (g - 1) + w2 ∧ w2 < V := by
  have hcy : cy = 1 := by
    rcases Nat.lt_or_ge cy 2 with h0 | h0
    · omega
    · have h3 := Nat.mul_le_mul_left M h0
      have h4 : V * g ≤ w + V := by rw [Nat.mul_comm]; exact hlo
      omega
  subst hcy
  rw [Nat.mul_one] at h
  have hg : 0 < g := by
    rcases Nat.eq_zero_or_pos g with h0 | h0
    · subst h0; rw [Nat.mul_zero] at h; omega
    · exact h0
  obtain ⟨p, rfl⟩ : ∃ p, g = p + 1 := ⟨g - 1, by omega⟩
  have h4 : V * (p + 1) ≤ w + V := by rw [Nat.mul_comm]; exact hlo
  rw [Nat.mul_add, Nat.mul_one] at h h4
  rw [show p + 1 - 1 = p by omega]
  have hcy2 : cy2 = 1 := by
    rcases Nat.lt_or_ge cy2 1 with h0 | h0
    · have : cy2 = 0 := by omega
      subst this; rw [Nat.mul_zero] at h2; omega
    · omega
  subst hcy2
  rw [Nat.mul_one] at h2
  exact ⟨hg, by omega, by omega⟩
theorem dig_pos {w w1 V g M cy : Nat} (h : w1 + V * g = w + M * cy) (hc : 0 < cy) (h1 : w1 < M) : 0 < g := by
  rcases Nat.eq_zero_or_pos g with h0 | h0
  · subst h0; rw [Nat.mul_zero] at h
    have := Nat.mul_le_mul_left M hc
    omega
  · exact h0
theorem DivInv.step {u0 V : Nat} {U Q o : List Nat} {j k n q w w1 : Nat} (h : DivInv u0 V U Q j) (hj : j = k + 1) (hl : k + (n + 1) ≤ U.length) (ho : o.length = U.length) (hQ : k < Q.length)
    (htk : o.take k = U.take k) (hdr : o.drop (k + (n + 1)) = U.drop (k + (n + 1))) (h0 : val (U.drop (k + (n + 1))) = 0) (hw : val (Sw.win U k (n + 1)) = w) (hw1 : val (Sw.win o k (n + 1)) = w1) (hq : w = V * q + w1 ∧ w1 < V) :
    DivInv u0 V o (Q.set k q) k := by
  subst hj
  obtain ⟨h1, h2⟩ := h
  obtain ⟨h3, h4⟩ := hq
  have hU := val_split (U := U) (k := k) (by omega)
  have hO := val_split (U := o) (k := k) (by omega)
  have hUw := val_drop_win hl
  have hOw := val_drop_win (U := o) (k := k) (m := n + 1) (by omega)
  rw [h0, Nat.mul_zero] at hUw
  rw [hdr, h0, Nat.mul_zero] at hOw
  rw [hw] at hUw
  rw [hw1] at hOw
  have hQ2 := val_set_drop (l := Q) (k := k + 1) (d := q) (by omega) (by omega)
  rw [show k + 1 - 1 = k by omega] at hQ2
  refine ⟨?_, by omega⟩
  rw [hQ2, h1, hU, hO, htk, hUw, hOw, Nat.pow_succ, h3]
  grind
/-- The start. -/
theorem DivInv.start {u : List Nat} {V n m : Nat} (hm : u.length = m + n) (hn : 0 < n) (hb : Lb u) (h0 : u.getD (m + n - 1) 0 = 0) (hV : 1000000000 ^ (n - 1) ≤ V) : DivInv (val u) V u (List.replicate m 0) m := by
  refine ⟨by rw [val_drop_all (by simp)]; simp, ?_⟩
  have h1 := val_drop_win (U := u) (k := m) (m := n - 1) (by omega)
  have h2 := win_lt hb m (n - 1)
  have h3 : val (u.drop (m + (n - 1))) = 0 := by
    rw [drop_cons (by omega), show m + (n - 1) = m + n - 1 by omega, h0, List.drop_eq_nil_of_le (by omega)]; rfl
  rw [h3, Nat.mul_zero] at h1
  omega
/-- The scaled divisor has as many limbs, and its first is at least half the base. -/
theorem scale_law {b v : List Nat} {s n : Nat} (hb : CanL b) (hn : b.length = n) (h1 : 0 < n) (hs : s = 1000000000 / (b.getD (n - 1) 0 + 1)) (hv : CanL v) (he : val v = val b * s) : 0 < s ∧ s < 1000000000 ∧ v.length = n ∧ 1000000000 ≤ 2 * v.getD (n - 1) 0 ∧ 1000000000 ^ (n - 1) ≤ val v := by
  obtain ⟨m, rfl⟩ : ∃ m, n = m + 1 := ⟨n - 1, by omega⟩
  rw [show m + 1 - 1 = m by omega] at hs ⊢
  have hb1 := hb.1.getD m
  have htop : val b = val (b.take m) + 1000000000 ^ m * b.getD m 0 := by rw [← val_take_all (l := b) (k := m + 1) (by omega), val_take_succ]
  have htl := take_lt hb.1 m
  have hne : b.getD m 0 ≠ 0 := by
    rcases (can_iff hb.1).1 hb with h | h
    · rw [h] at hn; simp at hn
    · rw [hn] at h; exact h
  generalize b.getD m 0 = b1 at *
  generalize val (b.take m) = bl at *
  have hs1 : s * (b1 + 1) ≤ 1000000000 := by rw [hs]; exact Nat.div_mul_le_self _ _
  have hs2 : 1000000000 < (s + 1) * (b1 + 1) := by
    have := Nat.lt_mul_div_succ 1000000000 (show 0 < b1 + 1 by omega)
    rw [← hs, Nat.mul_comm] at this; exact this
  have hs0 : 0 < s := by
    rcases Nat.eq_zero_or_pos s with h | h
    · subst h; omega
    · exact h
  have hsB : s < 1000000000 := by
    have := Nat.mul_le_mul_left s (show 2 ≤ b1 + 1 by omega); omega
  generalize hP : 1000000000 ^ m = P at *
  have hP0 : 0 < P := by rw [← hP]; exact Nat.pow_pos (by omega)
  have hVlt : val v < P * 1000000000 := by
    rw [he, htop]
    have h2 : (bl + P * b1) * s < P * (b1 + 1) * s := Nat.mul_lt_mul_of_pos_right (by grind) hs0
    have h3 : P * (s * (b1 + 1)) ≤ P * 1000000000 := Nat.mul_le_mul_left P hs1
    grind
  have hVge : P * (b1 * s) ≤ val v := by rw [he, htop]; grind
  have hb1s : 0 < b1 * s := Nat.mul_pos (by omega) hs0
  have hPV : P ≤ val v := by
    have := Nat.mul_le_mul_left P hb1s; omega
  have hlen1 : v.length ≤ m + 1 := by
    have := lim_len_le (n := val v) (k := m + 1) (by rw [Nat.pow_succ, hP]; exact hVlt)
    rwa [hv.eq] at this
  have hlen2 : m + 1 ≤ v.length := by
    rcases Nat.lt_or_ge v.length (m + 1) with h | h
    · have h3 := val_lt v hv.1
      have h4 := Nat.pow_le_pow_right (n := 1000000000) (by omega) (show v.length ≤ m by omega)
      omega
    · exact h
  have hvt : val v = val (v.take m) + P * v.getD m 0 := by rw [← val_take_all (l := v) (k := m + 1) (by omega), val_take_succ, hP]
  have hvl := take_lt hv.1 m
  rw [hP] at hvl
  refine ⟨hs0, hsB, by omega, ?_, hPV⟩
  generalize v.getD m 0 = v1 at *
  have hv1 : b1 * s ≤ v1 := by
    have h5 : P * (b1 * s) < P * (v1 + 1) := by grind
    have := Nat.lt_of_mul_lt_mul_left h5
    omega
  obtain ⟨t, rfl⟩ : ∃ t, s = t + 1 := ⟨s - 1, by omega⟩
  obtain ⟨c, rfl⟩ : ∃ c, b1 = c + 1 := ⟨b1 - 1, by omega⟩
  have h6 : 0 ≤ t * c := Nat.zero_le _
  have h7 : 1000000000 ≤ 2 * ((c + 1) * (t + 1)) + 1 := by grind
  omega
/-- The end. -/
theorem div_end {a b s q r rr U : Nat} (hs : 0 < s) (h : a * s = b * s * q + U) (hlt : U < b * s) (hr : U = s * r + rr) (hrr : rr < s) : a = b * q + r ∧ r < b := by
  have h1 : rr = 0 := by
    have h2 : s ∣ U := by
      have h3 : s ∣ a * s := ⟨a, Nat.mul_comm _ _⟩
      rw [h] at h3
      exact (Nat.dvd_add_right ⟨b * q, by grind⟩).1 h3
    have h4 : s ∣ rr := by
      rw [hr] at h2
      exact (Nat.dvd_add_right ⟨r, rfl⟩).1 h2
    exact Nat.eq_zero_of_dvd_of_lt h4 hrr
  subst h1
  rw [Nat.add_zero] at hr
  subst hr
  refine ⟨Nat.eq_of_mul_eq_mul_left hs (by grind), ?_⟩
  exact Nat.lt_of_mul_lt_mul_left (a := s) (by grind)
theorem val_len1 {l : List Nat} (h : l.length = 1) : val l = l.getD 0 0 := by
  match l, h with
  | [x], _ => simp [val]
theorem len_le_of_val {a b : List Nat} (ha : CanL a) (hb : CanL b) (h : val b ≤ val a) : b.length ≤ a.length := by
  rcases Nat.lt_or_ge a.length b.length with h1 | h1
  · have := val_lt_of_length ha hb h1; omega
  · exact h1
theorem snoc_last0 (o : List Nat) : (o ++ [0]).getD o.length 0 = 0 := by simp [List.getD]
theorem val_snoc0 (o : List Nat) : val (o ++ [0]) = val o := by rw [val_append]; simp [val]
theorem g_dec {g v1 r t : Nat} (hg : 0 < g) (h : g * v1 + r = t) : (g - 1) * v1 + (r + v1) = t := by
  obtain ⟨p, rfl⟩ : ∃ p, g = p + 1 := ⟨g - 1, by omega⟩
  rw [show p + 1 - 1 = p by omega]
  grind
theorem g_pos {g v x : Nat} (h : g * v > x) : 0 < g := by
  rcases Nat.eq_zero_or_pos g with h0 | h0
  · subst h0; rw [Nat.zero_mul] at h; omega
  · exact h0
theorem gt_cast {g v r u : Nat} (h : ((g : Nat) : Int) * ((v : Nat) : Int) > ((r : Nat) : Int) * 1000000000 + ((u : Nat) : Int)) : g * v > r * 1000000000 + u := by
  have h1 : ((g * v : Nat) : Int) > ((r * 1000000000 + u : Nat) : Int) := by rw [Int.natCast_mul, Int.natCast_add, Int.natCast_mul]; exact h
  omega
theorem take_small {U : List Nat} {k : Nat} (hk : k ≤ U.length) (h : val U < 1000000000 ^ k) : val (U.take k) = val U := by
  have h1 := val_split hk
  rcases Nat.eq_zero_or_pos (val (U.drop k)) with h0 | h0
  · rw [h0] at h1; omega
  · have := Nat.mul_le_mul_left (1000000000 ^ k) h0; omega
theorem scale_lt {b : List Nat} {s n : Nat} (hb : CanL b) (hn : b.length = n) (h1 : 0 < n) (hs : s = 1000000000 / (b.getD (n - 1) 0 + 1)) : s < 1000000000 := by
  have hne : b.getD (n - 1) 0 ≠ 0 := by
    rcases (can_iff hb.1).1 hb with h | h
    · rw [h] at hn; simp at hn; omega
    · rw [hn] at h; exact h
  have := Nat.div_le_div_left (a := 1000000000) (show 2 ≤ b.getD (n - 1) 0 + 1 by omega) (by omega)
  omega
end Go.Sw
