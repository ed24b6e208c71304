/-
  The distance of a point from a segment, and the height that a tool sweeps.
  Multiples of lines, and circles through three points.
  Validity of lines and circles, with any fields.
  Leaves of the runs of material, distances and signs.
  What the functions cmp.isNaN[int], cmp.Compare[int], rational.Cmp, rational.Div, rational.Make, rational.Frac, swarfref02.Same, swarfref02.perfect, swarfref02.Make, swarfref02.Div, swarfref02.Sqrt, rational.side, rational.Sqrt answer, each out of its text by the abstract run.
  The simplest number between two others: what the recursion on continued fractions gives (plain laws).
  What the functions rational.inverse answer, each out of its text by the abstract run.
  What the functions rational.Simplest, swarfref02.FromInt, swarfref02.Over answer, each out of its text by the abstract run.
  What the functions answer, each out of its text by the abstract run.
  What the functions swarfref02.Simplest answer, each out of its text by the abstract run.
  Texts of fractions: what Parse makes of a text (plain laws).
  What the functions rational.Parse, rational.Format answer, each out of its text by the abstract run.
  What the functions swarflaw02.text, swarflaw02.text, swarflaw02.text, swarflaw02.text, swarflaw02.text, swarflaw02.text, swarflaw02.text, swarflaw02.text answer, each out of its text by the abstract run.
  What the functions swarflaw02.awake answer, each out of its text by the abstract run.
  Plain laws of fractions: order, roots of squares, what lies between.
  What the functions swarfref02.Zero, swarfref02.Small, swarfref01.Small answer, each out of its text by the abstract run.
  What the functions swarflaw02.small answer, each out of its text by the abstract run.
  Conditions: none.
-/
import Derived.Test.YtghlkihmnopenaaGreatDoorM9
set_option linter.all false
namespace Go.Sw
open Go
set_option linter.unusedVariables false
/-- The square of the distance of (x, y) from the segment from (a, b) to (c, d). -/
def segD (a b c d x y : Rat) : Rat :=
  if (c - a) * (x - a) + (d - b) * (y - b) ≤ 0 then (x - a) * (x - a) + (y - b) * (y - b)
  else if (c - a) * (c - a) + (d - b) * (d - b) ≤ (c - a) * (x - a) + (d - b) * (y - b) then (x - c) * (x - c) + (y - d) * (y - d)
  else ((c - a) * (y - b) - (d - b) * (x - a)) * ((c - a) * (y - b) - (d - b) * (x - a)) / ((c - a) * (c - a) + (d - b) * (d - b))
/-- The square of the distance of (x, y) from the point at t on the segment. -/
def segAt (a b c d x y t : Rat) : Rat := (a + t * (c - a) - x) * (a + t * (c - a) - x) + (b + t * (d - b) - y) * (b + t * (d - b) - y)
theorem le_of_mul {x y k : Rat} (hk : 0 < k) (h : x * k ≤ y * k) : x ≤ y := mul_le_can hk h
theorem seg_at (a b c d x y : Rat) : ∃ t, 0 ≤ t ∧ t ≤ 1 ∧ segD a b c d x y = segAt a b c d x y t := by
  unfold segD segAt
  by_cases h1 : (c - a) * (x - a) + (d - b) * (y - b) ≤ 0
  · rw [if_pos h1]
    exact ⟨0, by grind, by grind, by grind⟩
  · rw [if_neg h1]
    by_cases h2 : (c - a) * (c - a) + (d - b) * (d - b) ≤ (c - a) * (x - a) + (d - b) * (y - b)
    · rw [if_pos h2]
      exact ⟨1, by grind, by grind, by grind⟩
    · rw [if_neg h2]
      generalize hn : (c - a) * (c - a) + (d - b) * (d - b) = n at *
      generalize hT : (c - a) * (x - a) + (d - b) * (y - b) = T at *
      have hp : 0 < T := by grind
      have hT2 : T < n := by grind
      have hn0 : 0 < n := by grind
      obtain ⟨t, ht⟩ : ∃ t, t * n = T := ⟨T / n, by have : n ≠ 0 := (by grind); grind⟩
      refine ⟨t, le_of_mul hn0 (by grind), le_of_mul hn0 (by grind), ?_⟩
      have e : ((c - a) * (y - b) - (d - b) * (x - a)) * ((c - a) * (y - b) - (d - b) * (x - a)) = ((a + t * (c - a) - x) * (a + t * (c - a) - x) + (b + t * (d - b) - y) * (b + t * (d - b) - y)) * n := by
        have q : ((a + t * (c - a) - x) * (a + t * (c - a) - x) + (b + t * (d - b) - y) * (b + t * (d - b) - y)) * n = t * n * (t * n) - 2 * (t * n) * T + ((x - a) * (x - a) + (y - b) * (y - b)) * n := by
          rw [← hn, ← hT]; grind
        rw [q, ht, ← hT, ← hn]; grind
      have : n ≠ 0 := by grind
      rw [e]; grind
theorem seg_le (a b c d x y : Rat) {s : Rat} (h0 : 0 ≤ s) (h1 : s ≤ 1) : segD a b c d x y ≤ segAt a b c d x y s := by
  have hnn := sq_nn (c - a)
  have hnn2 := sq_nn (d - b)
  have f : segAt a b c d x y s = s * s * ((c - a) * (c - a) + (d - b) * (d - b)) - 2 * s * ((c - a) * (x - a) + (d - b) * (y - b)) + ((x - a) * (x - a) + (y - b) * (y - b)) := by unfold segAt; grind
  rw [f]
  unfold segD
  by_cases g1 : (c - a) * (x - a) + (d - b) * (y - b) ≤ 0
  · rw [if_pos g1]
    have p1 := Rat.mul_nonneg (Rat.mul_nonneg h0 h0) (show 0 ≤ (c - a) * (c - a) + (d - b) * (d - b) by grind)
    have p2 := Rat.mul_nonneg h0 (show 0 ≤ -((c - a) * (x - a) + (d - b) * (y - b)) by grind)
    grind
  · rw [if_neg g1]
    by_cases g2 : (c - a) * (c - a) + (d - b) * (d - b) ≤ (c - a) * (x - a) + (d - b) * (y - b)
    · rw [if_pos g2]
      have e : (x - c) * (x - c) + (y - d) * (y - d) = (c - a) * (c - a) + (d - b) * (d - b) - 2 * ((c - a) * (x - a) + (d - b) * (y - b)) + ((x - a) * (x - a) + (y - b) * (y - b)) := by grind
      rw [e]
      generalize hn : (c - a) * (c - a) + (d - b) * (d - b) = n at *
      generalize (c - a) * (x - a) + (d - b) * (y - b) = T at *
      have p0 : 0 ≤ n := by grind
      have p1 := Rat.mul_nonneg (show 0 ≤ 1 - s by grind) (show 0 ≤ T - n by grind)
      have p2 := Rat.mul_nonneg (Rat.mul_nonneg (show 0 ≤ 1 - s by grind) (show 0 ≤ 1 - s by grind)) p0
      grind
    · rw [if_neg g2]
      have e : ((c - a) * (y - b) - (d - b) * (x - a)) * ((c - a) * (y - b) - (d - b) * (x - a)) = ((x - a) * (x - a) + (y - b) * (y - b)) * ((c - a) * (c - a) + (d - b) * (d - b)) - ((c - a) * (x - a) + (d - b) * (y - b)) * ((c - a) * (x - a) + (d - b) * (y - b)) := by grind
      rw [e]
      generalize hn : (c - a) * (c - a) + (d - b) * (d - b) = n at *
      generalize (c - a) * (x - a) + (d - b) * (y - b) = T at *
      generalize (x - a) * (x - a) + (y - b) * (y - b) = Q at *
      have p0 : 0 < n := by grind
      refine le_of_mul p0 ?_
      have p1 := sq_nn (s * n - T)
      have e2 : (Q * n - T * T) / n * n = Q * n - T * T := by have : n ≠ 0 := (by grind); grind
      rw [e2]
      grind
theorem seg_le_a (a b c d x y : Rat) : segD a b c d x y ≤ (x - a) * (x - a) + (y - b) * (y - b) := by
  have := seg_le a b c d x y (s := 0) (by grind) (by grind)
  unfold segAt at this; grind
theorem seg_le_c (a b c d x y : Rat) : segD a b c d x y ≤ (x - c) * (x - c) + (y - d) * (y - d) := by
  have := seg_le a b c d x y (s := 1) (by grind) (by grind)
  unfold segAt at this; grind
theorem seg_pt (x y a b : Rat) : segD x y x y a b = (a - x) * (a - x) + (b - y) * (b - y) := by
  unfold segD
  rw [if_pos (by grind)]
/-- The other way round. -/
theorem seg_swap (a b c d x y : Rat) : segD c d a b x y = segD a b c d x y := by
  obtain ⟨t, t0, t1, et⟩ := seg_at a b c d x y
  obtain ⟨s, s0, s1, es⟩ := seg_at c d a b x y
  have k1 := seg_le a b c d x y (s := 1 - s) (by grind) (by grind)
  have k2 := seg_le c d a b x y (s := 1 - t) (by grind) (by grind)
  have e1 : segAt a b c d x y (1 - s) = segAt c d a b x y s := by unfold segAt; grind
  have e2 : segAt c d a b x y (1 - t) = segAt a b c d x y t := by unfold segAt; grind
  grind
theorem rz_segD {a b c d x y : Rat} {m1 m2 m3 m4 m5 m6 : Nat} (h1 : rz a ≤ m1) (h2 : rz b ≤ m2) (h3 : rz c ≤ m3) (h4 : rz d ≤ m4) (h5 : rz x ≤ m5) (h6 : rz y ≤ m6) : rz (segD a b c d x y) ≤ 64 * (m1 + m2 + m3 + m4 + m5 + m6) + 64 := by
  have a1 := rz_sub c a; have a2 := rz_sub d b; have a3 := rz_sub x a; have a4 := rz_sub y b; have a5 := rz_sub x c; have a6 := rz_sub y d
  have b1 := rz_mul (x - a) (x - a); have b2 := rz_mul (y - b) (y - b); have b3 := rz_mul (x - c) (x - c); have b4 := rz_mul (y - d) (y - d)
  have b5 := rz_mul (c - a) (y - b); have b6 := rz_mul (d - b) (x - a); have b7 := rz_mul (c - a) (c - a); have b8 := rz_mul (d - b) (d - b)
  have c1 := rz_add ((x - a) * (x - a)) ((y - b) * (y - b)); have c2 := rz_add ((x - c) * (x - c)) ((y - d) * (y - d)); have c3 := rz_add ((c - a) * (c - a)) ((d - b) * (d - b))
  have c4 := rz_sub ((c - a) * (y - b)) ((d - b) * (x - a))
  have c5 := rz_mul ((c - a) * (y - b) - (d - b) * (x - a)) ((c - a) * (y - b) - (d - b) * (x - a))
  unfold segD
  split
  · omega
  · split
    · omega
    · by_cases h0 : (c - a) * (c - a) + (d - b) * (d - b) = 0
      · rw [h0, Rat.div_def, Rat.inv_zero, Rat.mul_zero]; have := rz_0; omega
      · have := rz_div (((c - a) * (y - b) - (d - b) * (x - a)) * ((c - a) * (y - b) - (d - b) * (x - a))) _ h0
        omega
instance {a b c d x y : Rat} {m1 m2 m3 m4 m5 m6 : Nat} [h1 : RzB a m1] [h2 : RzB b m2] [h3 : RzB c m3] [h4 : RzB d m4] [h5 : RzB x m5] [h6 : RzB y m6] : RzB (segD a b c d x y) (64 * (m1 + m2 + m3 + m4 + m5 + m6) + 64) := ⟨rz_segD h1.h h2.h h3.h h4.h h5.h h6.h⟩
/-! ### The height -/
def swD (hx hy lx ly : Rat) : Rat := (lx - hx) * (lx - hx) + (ly - hy) * (ly - hy)
def swS (hx hy : Rat) (hz lz : Int) (lx ly : Rat) : Rat := ((lz - hz : Int) : Rat) / swD hx hy lx ly
def swPd (hx hy lx ly x y : Rat) : Rat := (hx - x) * (lx - hx) + (hy - y) * (ly - hy)
def swI (hx hy lx ly r x y : Rat) : Rat := swPd hx hy lx ly x y * swPd hx hy lx ly x y - swD hx hy lx ly * ((hx - x) * (hx - x) + (hy - y) * (hy - y) - r * r)
structure Rt where
  a : Rat
  b : Rat
  c : Rat
/-- From the high end to the low one. -/
def swP (hx hy : Rat) (hz : Int) (lx ly : Rat) (lz : Int) (r x y : Rat) : Rt :=
  if hz = lz ∨ (lx - x) * (lx - x) + (ly - y) * (ly - y) ≤ r * r then ⟨(lz : Rat), 0, 0⟩
  else ⟨mkA ((hz : Rat) - swS hx hy hz lz lx ly * swPd hx hy lx ly x y) (swS hx hy hz lz lx ly) (swI hx hy lx ly r x y),
    mkB (swS hx hy hz lz lx ly) (swI hx hy lx ly r x y), mkC (swS hx hy hz lz lx ly) (swI hx hy lx ly r x y)⟩
def swR (fx fy : Rat) (fz : Int) (tx ty : Rat) (tz : Int) (r x y : Rat) : Rt :=
  if fz < tz then swP tx ty tz fx fy fz r x y else swP fx fy fz tx ty tz r x y
/-- The tool comes over the point. -/
def swOn (fx fy tx ty : Rat) (r : Int) (x y : Rat) : Prop := 0 ≤ r ∧ segD fx fy tx ty x y ≤ (r : Rat) * (r : Rat)
instance {fx fy tx ty : Rat} {r : Int} {x y : Rat} : Decidable (swOn fx fy tx ty r x y) := by unfold swOn; infer_instance
theorem sw_nd {hx hy lx ly r x y : Rat} (h : segD hx hy lx ly x y ≤ r * r) (k : ¬(lx - x) * (lx - x) + (ly - y) * (ly - y) ≤ r * r) : ¬swD hx hy lx ly = 0 := fun e => by
  unfold swD at e
  have h1 := sq_nn (lx - hx)
  have h2 := sq_nn (ly - hy)
  have z : ∀ u : Rat, u * u ≤ 0 → u = 0 := fun u hu => by
    by_cases g : u = 0
    · exact g
    · rcases Rat.le_total (a := 0) (b := u) with q | q
      · have := Rat.mul_pos (show 0 < u by grind) (show 0 < u by grind); grind
      · have := Rat.mul_pos (show 0 < -u by grind) (show 0 < -u by grind); grind
  have e1 := z (lx - hx) (by grind)
  have e2 := z (ly - hy) (by grind)
  obtain ⟨t, t0, t1, et⟩ := seg_at hx hy lx ly x y
  unfold segAt at et
  rw [e1, e2] at et
  rw [et] at h
  have e3 : lx = hx := by grind
  have e4 : ly = hy := by grind
  rw [e3, e4] at k
  exact k (by grind)
theorem sw_in {hx hy lx ly r x y : Rat} (h : segD hx hy lx ly x y ≤ r * r) : 0 ≤ swI hx hy lx ly r x y := by
  obtain ⟨t, t0, t1, et⟩ := seg_at hx hy lx ly x y
  have e : segAt hx hy lx ly x y t = t * t * swD hx hy lx ly + 2 * t * swPd hx hy lx ly x y + ((hx - x) * (hx - x) + (hy - y) * (hy - y)) := by unfold segAt swD swPd; grind
  rw [et, e] at h
  have hd : 0 ≤ swD hx hy lx ly := by unfold swD; have := sq_nn (lx - hx); have := sq_nn (ly - hy); grind
  unfold swI
  generalize swD hx hy lx ly = D at *
  generalize swPd hx hy lx ly x y = P at *
  have p1 := sq_nn (D * t + P)
  have p2 := Rat.mul_nonneg hd (show 0 ≤ r * r - (t * t * D + 2 * t * P + ((hx - x) * (hx - x) + (hy - y) * (hy - y))) by grind)
  grind
/-- Reduced form. -/
def okQ (b c : Rat) : Bool := if b = 0 ∨ c = 0 then decide (b = 0) && decide (c = 0) else decide (0 < c) && !isSqR c
theorem okQ_mk {b c : Rat} (h : 0 ≤ c) : okQ (mkB b c) (mkC b c) = true := by
  unfold mkB mkC
  cases hs : isSqR c with
  | true => simp [okQ]
  | false =>
    simp only [Bool.false_eq_true, if_false, redB_of hs, redC_of hs]
    have hc := nsq_ne hs
    by_cases hb : b = 0
    · simp [okQ, hb]
    · unfold okQ
      rw [if_neg hb, if_neg (by rintro (h | h); exact hb h; exact hc h), decide_eq_true (show 0 < c by grind), hs]; rfl
theorem okQ_0 : okQ 0 0 = true := by unfold okQ; simp
theorem okQ_nn {b c : Rat} (h : okQ b c = true) : 0 ≤ c := by
  unfold okQ at h
  split at h
  · simp at h; grind
  · simp at h; grind
theorem swP_ok {hx hy lx ly r x y : Rat} {hz lz : Int} (h : segD hx hy lx ly x y ≤ r * r) : okQ (swP hx hy hz lx ly lz r x y).b (swP hx hy hz lx ly lz r x y).c = true := by
  unfold swP
  split
  · exact okQ_0
  · exact okQ_mk (sw_in h)
theorem swR_ok {fx fy tx ty r x y : Rat} {fz tz : Int} (h : segD fx fy tx ty x y ≤ r * r) : okQ (swR fx fy fz tx ty tz r x y).b (swR fx fy fz tx ty tz r x y).c = true := by
  unfold swR
  split
  · exact swP_ok (by rwa [seg_swap])
  · exact swP_ok h
/-- Small numbers: at most 2 ^ 62. -/
def medI (n : Int) : Prop := -1073741824 ≤ n ∧ n ≤ 1073741824
theorem rz_med {n : Int} (h : medI n) : rz (n : Rat) ≤ 4 := rz_i n (by unfold medI at h; omega) (by unfold medI at h; omega)
theorem swP_rz {fx fy tx ty r x y : Rat} {fz tz : Int} (hf : rz fx ≤ 4) (hg : rz fy ≤ 4) (ht : rz tx ≤ 4) (hu : rz ty ≤ 4) (hr : rz r ≤ 4) (hx : rz x ≤ 6) (hy : rz y ≤ 6) (h1 : medI fz) (h2 : medI tz) :
    rz (swP fx fy fz tx ty tz r x y).a ≤ 10000 ∧ rz (swP fx fy fz tx ty tz r x y).b ≤ 1000 ∧ rz (swP fx fy fz tx ty tz r x y).c ≤ 5000 := by
  have z0 := rz_0
  have z1 := rz_med h1
  have z2 := rz_med h2
  have z3 := rz_i (tz - fz) (by unfold medI at *; omega) (by unfold medI at *; omega)
  unfold swP
  split
  · exact ⟨by simp only; omega, by simp only; omega, by simp only; omega⟩
  · have a1 := rz_sub tx fx; have a2 := rz_sub ty fy; have a3 := rz_sub fx x; have a4 := rz_sub fy y
    have b1 := rz_mul (tx - fx) (tx - fx); have b2 := rz_mul (ty - fy) (ty - fy)
    have b3 := rz_add ((tx - fx) * (tx - fx)) ((ty - fy) * (ty - fy))
    have b4 := rz_mul (fx - x) (tx - fx); have b5 := rz_mul (fy - y) (ty - fy)
    have b6 := rz_add ((fx - x) * (tx - fx)) ((fy - y) * (ty - fy))
    have b7 := rz_mul (fx - x) (fx - x); have b8 := rz_mul (fy - y) (fy - y)
    have b9 := rz_add ((fx - x) * (fx - x)) ((fy - y) * (fy - y))
    have c1 : rz (swD fx fy tx ty) ≤ 137 := by unfold swD; omega
    have c2 : rz (swPd fx fy tx ty x y) ≤ 153 := by unfold swPd; omega
    have c3 := rz_mul r r
    have c4 := rz_sub ((fx - x) * (fx - x) + (fy - y) * (fy - y)) (r * r)
    have c5 := rz_mul (swD fx fy tx ty) ((fx - x) * (fx - x) + (fy - y) * (fy - y) - r * r)
    have c6 := rz_mul (swPd fx fy tx ty x y) (swPd fx fy tx ty x y)
    have c7 := rz_sub (swPd fx fy tx ty x y * swPd fx fy tx ty x y) (swD fx fy tx ty * ((fx - x) * (fx - x) + (fy - y) * (fy - y) - r * r))
    have c8 : rz (swI fx fy tx ty r x y) ≤ 1600 := by unfold swI; omega
    have c9 : rz (swS fx fy fz tz tx ty) ≤ 141 := by
      unfold swS
      by_cases h0 : swD fx fy tx ty = 0
      · rw [h0, Rat.div_def, Rat.inv_zero, Rat.mul_zero]; omega
      · have := rz_div ((tz - fz : Int) : Rat) _ h0; omega
    have d1 := rz_mul (swS fx fy fz tz tx ty) (swPd fx fy tx ty x y)
    have d2 := rz_sub (fz : Rat) (swS fx fy fz tz tx ty * swPd fx fy tx ty x y)
    have d3 : rz ((fz : Rat) - swS fx fy fz tz tx ty * swPd fx fy tx ty x y) ≤ 600 := by omega
    exact ⟨Nat.le_trans (rz_mkA d3 c9 c8) (by decide), Nat.le_trans (rz_mkB c9) (by decide), Nat.le_trans (rz_mkC c8) (by decide)⟩
theorem swR_rz {fx fy tx ty r x y : Rat} {fz tz : Int} (hf : rz fx ≤ 4) (hg : rz fy ≤ 4) (ht : rz tx ≤ 4) (hu : rz ty ≤ 4) (hr : rz r ≤ 4) (hx : rz x ≤ 6) (hy : rz y ≤ 6) (h1 : medI fz) (h2 : medI tz) :
    rz (swR fx fy fz tx ty tz r x y).a ≤ 10000 ∧ rz (swR fx fy fz tx ty tz r x y).b ≤ 1000 ∧ rz (swR fx fy fz tx ty tz r x y).c ≤ 5000 := by
  unfold swR
  by_cases h : fz < tz
  · rw [if_pos h]; with_reducible exact swP_rz ht hu hf hg hr hx hy h2 h1
  · rw [if_neg h]; with_reducible exact swP_rz hf hg ht hu hr hx hy h1 h2
end Go.Sw

namespace Go.Sw
open Go
set_option linter.unusedVariables false
theorem sgnR_mul (a b : Rat) : sgnR (a * b) = sgnR a * sgnR b := by
  rcases sgn_cases a with ⟨a1, a2⟩ | ⟨a1, a2⟩ | ⟨a1, a2⟩ <;> rcases sgn_cases b with ⟨b1, b2⟩ | ⟨b1, b2⟩ | ⟨b1, b2⟩ <;> rw [a2, b2]
  · have := Rat.mul_pos (show 0 < -a by grind) (show 0 < -b by grind); rw [sgnR_eq1.2 (by grind)]; rfl
  · rw [sgnR_eq0.2 (by grind)]; rfl
  · have := Rat.mul_pos (show 0 < -a by grind) b1; unfold sgnR; rw [if_pos (by grind)]; rfl
  · rw [sgnR_eq0.2 (by grind)]; rfl
  · rw [sgnR_eq0.2 (by grind)]; rfl
  · rw [sgnR_eq0.2 (by grind)]; rfl
  · have := Rat.mul_pos a1 (show 0 < -b by grind); unfold sgnR; rw [if_pos (by grind)]; rfl
  · rw [sgnR_eq0.2 (by grind)]; rfl
  · rw [sgnR_eq1.2 (Rat.mul_pos a1 b1)]; rfl
theorem cmpR_scale {k x y : Rat} (h : 0 < k) : cmpR (k * x) (k * y) = cmpR x y := by
  have p : ∀ u v : Rat, u < v → k * u < k * v := fun u v h' => by
    have := Rat.mul_pos h (show 0 < v - u by grind); grind
  by_cases h1 : x < y
  · rw [cmpR_m h1, cmpR_m (p _ _ h1)]
  · by_cases h2 : y < x
    · rw [cmpR_1 h2, cmpR_1 (p _ _ h2)]
    · have : x = y := by grind
      subst this; rw [cmpR_z rfl, cmpR_z rfl]
theorem exI_scale {k A B C : Rat} (hk : k ≠ 0) : exI (k * A) (k * B) C = sgnR k * exI A B C := by
  have hkk : 0 < k * k := by
    have h1 := sq_nn k
    have : k * k ≠ 0 := fun e => by rcases Rat.mul_eq_zero.1 e with h | h <;> exact hk h
    grind
  have ks : sgnR k = 1 ∨ sgnR k = -1 := by
    rcases sgn_cases k with ⟨a1, a2⟩ | ⟨a1, a2⟩ | ⟨a1, a2⟩
    · exact .inr a2
    · exact absurd a1 hk
    · exact .inl a2
  unfold exI
  rw [sgnR_mul k A, sgnR_mul k B, show k * A * (k * A) = k * k * (A * A) by grind, show k * B * (k * B) * C = k * k * (B * B * C) by grind, cmpR_scale hkk]
  simp only [Int.mul_assoc]
  generalize sgnR B * sgnR C = t
  generalize sgnR A = u
  rcases ks with e | e <;> rw [e]
  · simp only [Int.one_mul]
  · simp only [Int.neg_mul, Int.one_mul]
    by_cases h1 : u = t ∨ t = 0
    · have h2 : -u = -t ∨ -t = 0 := by omega
      rw [if_pos h1, if_pos h2]
    · have h2 : ¬(-u = -t ∨ -t = 0) := by omega
      rw [if_neg h1, if_neg h2]
      by_cases h3 : u = 0
      · have h4 : -u = 0 := by omega
        rw [if_pos h3, if_pos h4]
      · have h4 : ¬-u = 0 := by omega
        rw [if_neg h3, if_neg h4]
section
variable (a b c d e f : Rat)
theorem sl_1 : (decide (a * e = d * b) && (decide (a * f = d * c) && decide (b * f = e * c))) = (decide (a * e = b * d) && (decide (a * f = c * d) && decide (b * f = c * e))) := by
  rw [Rat.mul_comm d b, Rat.mul_comm d c, Rat.mul_comm e c]
theorem sl_2 : (decide (d * b = a * e) && (decide (d * c = a * f) && decide (e * c = b * f))) = (decide (a * e = b * d) && (decide (a * f = c * d) && decide (b * f = c * e))) := by
  rw [Rat.mul_comm d b, Rat.mul_comm d c, Rat.mul_comm e c, decide_eq_decide.2 (eq_comm (a := b * d)), decide_eq_decide.2 (eq_comm (a := c * d)), decide_eq_decide.2 (eq_comm (a := c * e))]
end
theorem wu16n {n : Nat} (h : n ≤ 65535) : IntKind.u16.wrap ((n : Nat) : Int) = ((n : Nat) : Int) := by
  simp [IntKind.wrap, IntKind.bits, IntKind.signed]; omega
theorem sgn_n3 {n : Int} (h : n ≠ 0) : sgnR ((n : Rat) / ((3 : Int) : Rat)) = if n < 0 then -1 else 1 := by
  have e : ((n : Int) : Rat) / ((3 : Int) : Rat) = (n : Rat) * (1 / 3) := by
    have : ((3 : Int) : Rat) = 3 := by decide +kernel
    rw [this]; grind
  have p : sgnR (1 / 3) = 1 := by decide +kernel
  rw [e, sgnR_mul, p, Int.mul_one]
  by_cases h0 : n < 0
  · rw [if_pos h0]
    have : (n : Rat) < ((0 : Int) : Rat) := Rat.intCast_lt_intCast.2 h0
    have z : ((0 : Int) : Rat) = 0 := rfl
    unfold sgnR; rw [if_pos (by rw [z] at this; exact this)]
  · rw [if_neg h0]
    have : ((0 : Int) : Rat) < (n : Rat) := Rat.intCast_lt_intCast.2 (by omega)
    have z : ((0 : Int) : Rat) = 0 := rfl
    exact sgnR_eq1.2 (by rw [z] at this; exact this)
theorem n3_ne {n : Int} (h : n ≠ 0) : ((n : Rat) / ((3 : Int) : Rat)) ≠ 0 := q_ne h (by decide)
theorem side_scale {n : Int} (h : n ≠ 0) {a b c x y u v w : Rat} : exI (a * ((n : Rat) / ((3 : Int) : Rat)) * x + b * ((n : Rat) / ((3 : Int) : Rat)) * y - c * ((n : Rat) / ((3 : Int) : Rat))) (a * ((n : Rat) / ((3 : Int) : Rat)) * u + b * ((n : Rat) / ((3 : Int) : Rat)) * v) w =
    (if n < 0 then -1 else 1) * exI (a * x + b * y - c) (a * u + b * v) w := by
  rw [← sgn_n3 h, ← exI_scale (n3_ne h)]
  congr 1 <;> grind
theorem sc_m {n : Int} (h : n < 0) {a b c x y u v w : Rat} : decide (exI (a * ((n : Rat) / ((3 : Int) : Rat)) * x + b * ((n : Rat) / ((3 : Int) : Rat)) * y - c * ((n : Rat) / ((3 : Int) : Rat))) (a * ((n : Rat) / ((3 : Int) : Rat)) * u + b * ((n : Rat) / ((3 : Int) : Rat)) * v) w = IntKind.i64.wrap (-1 * exI (a * x + b * y - c) (a * u + b * v) w)) = true := by
  have z := exI_lim (a * x + b * y - c) (a * u + b * v) w
  have h0 : n ≠ 0 := by omega
  rw [wi64 (by omega) (by omega), side_scale h0, if_pos h]; exact decide_eq_true rfl
theorem sc_p {n : Int} (h0 : ¬n = 0) (h : ¬n < 0) {a b c x y u v w : Rat} : decide (exI (a * ((n : Rat) / ((3 : Int) : Rat)) * x + b * ((n : Rat) / ((3 : Int) : Rat)) * y - c * ((n : Rat) / ((3 : Int) : Rat))) (a * ((n : Rat) / ((3 : Int) : Rat)) * u + b * ((n : Rat) / ((3 : Int) : Rat)) * v) w = IntKind.i64.wrap (1 * exI (a * x + b * y - c) (a * u + b * v) w)) = true := by
  have z := exI_lim (a * x + b * y - c) (a * u + b * v) w
  rw [wi64 (by omega) (by omega), side_scale h0, if_neg h]; exact decide_eq_true rfl
theorem sl_3 {a b c t : Rat} : (decide (a * (b * t) = a * t * b) && (decide (a * (c * t) = a * t * c) && decide (b * (c * t) = b * t * c))) = true := by
  simp only [Bool.and_eq_true, decide_eq_true_eq]; refine ⟨by grind, by grind, by grind⟩
end Go.Sw

namespace Go.Sw
open Go
set_option linter.unusedVariables false
theorem vr_p {x y : Int} (h : 0 < y) : decide (((Nat.gcd x.natAbs y.natAbs : Nat) : Int) = 1) = validR (decide (x < 0)) (lim x.natAbs) (decide (y < 0)) (lim y.natAbs) := by
  rw [validR_int, sgnI_eq1.2 h]; simp
theorem vr_n {x y : Int} (h : y ≤ 0) : false = validR (decide (x < 0)) (lim x.natAbs) (decide (y < 0)) (lim y.natAbs) := by
  rw [validR_int]
  have : ¬sgnI y = 1 := fun e => absurd (sgnI_eq1.1 e) (by omega)
  simp [this]
/-- ValidCircle and ValidLine, with any fields. -/
def vcR (n1 : Bool) (l1 : List Nat) (n2 : Bool) (l2 : List Nat) (n3 : Bool) (l3 : List Nat) (n4 : Bool) (l4 : List Nat) (n5 : Bool) (l5 : List Nat) (n6 : Bool) (l6 : List Nat) : Bool :=
  validR n1 l1 n2 l2 && (validR n3 l3 n4 l4 && (validR n5 l5 n6 l6 && decide (0 < sgnv n5 (val l5))))
def vlR (n1 : Bool) (l1 : List Nat) (n2 : Bool) (l2 : List Nat) (n3 : Bool) (l3 : List Nat) (n4 : Bool) (l4 : List Nat) (n5 : Bool) (l5 : List Nat) (n6 : Bool) (l6 : List Nat) : Bool :=
  validR n1 l1 n2 l2 && (validR n3 l3 n4 l4 && (validR n5 l5 n6 l6 && (!decide (sgnv n1 (val l1) = 0) || !decide (sgnv n3 (val l3) = 0))))
theorem sgnv_num (q : Rat) : sgnv (decide (q.num < 0)) (val (lim q.num.natAbs)) = q.num := by
  rw [val_lim, sgnv_of]
theorem pos_num (q : Rat) : decide (0 < q) = decide (0 < q.num) := by
  rw [decide_eq_decide]
  constructor
  · intro h; have := (Rat.num_nonneg (q := q)).2 (by grind); have h2 : q.num ≠ 0 := fun e => by have := Rat.num_eq_zero.1 e; grind
    omega
  · intro h; have := (Rat.num_nonneg (q := q)).1 (by omega); have h2 : q ≠ 0 := fun e => by rw [e] at h; exact absurd h (by decide)
    grind
theorem zero_num (q : Rat) : decide (q = 0) = decide (q.num = 0) := by
  rw [decide_eq_decide]; exact Rat.num_eq_zero.symm
theorem vl_1 {a b c : Rat} (h : ¬a = 0) : true = vlR (decide (a.num < 0)) (lim a.num.natAbs) (decide ((a.den : Int) < 0)) (lim (a.den : Int).natAbs) (decide (b.num < 0)) (lim b.num.natAbs) (decide ((b.den : Int) < 0)) (lim (b.den : Int).natAbs) (decide (c.num < 0)) (lim c.num.natAbs) (decide ((c.den : Int) < 0)) (lim (c.den : Int).natAbs) := by
  unfold vlR; simp only [validR_R, sgnv_num, ← zero_num, Bool.true_and]; simp [h]
theorem vl_2 {a b c : Rat} (h : a = 0) : (!decide (b = 0)) = vlR (decide (a.num < 0)) (lim a.num.natAbs) (decide ((a.den : Int) < 0)) (lim (a.den : Int).natAbs) (decide (b.num < 0)) (lim b.num.natAbs) (decide ((b.den : Int) < 0)) (lim (b.den : Int).natAbs) (decide (c.num < 0)) (lim c.num.natAbs) (decide ((c.den : Int) < 0)) (lim (c.den : Int).natAbs) := by
  unfold vlR; simp only [validR_R, sgnv_num, ← zero_num, Bool.true_and]; simp [h]
theorem w21 : IntKind.i64.wrap (2 + 1) = 3 := by decide
theorem w31 : IntKind.i64.wrap (3 + 1) = 4 := by decide
theorem w41 : IntKind.i64.wrap (4 + 1) = 5 := by decide
theorem w51 : IntKind.i64.wrap (5 + 1) = 6 := by decide
theorem elem_2 {e0 e1 e : List Cell} {es : List (List Cell)} {k : List Cell → Prop} (hk : k e) : Elem (e0 :: e1 :: e :: es) 2 k := ⟨2, e, rfl, rfl, hk⟩
theorem elem_3 {e0 e1 e2 e : List Cell} {es : List (List Cell)} {k : List Cell → Prop} (hk : k e) : Elem (e0 :: e1 :: e2 :: e :: es) 3 k := ⟨3, e, rfl, rfl, hk⟩
theorem elem_4 {e0 e1 e2 e3 e : List Cell} {es : List (List Cell)} {k : List Cell → Prop} (hk : k e) : Elem (e0 :: e1 :: e2 :: e3 :: e :: es) 4 k := ⟨4, e, rfl, rfl, hk⟩
theorem elem_5 {e0 e1 e2 e3 e4 e : List Cell} {es : List (List Cell)} {k : List Cell → Prop} (hk : k e) : Elem (e0 :: e1 :: e2 :: e3 :: e4 :: e :: es) 5 k := ⟨5, e, rfl, rfl, hk⟩
theorem onB_hn {b : Bool} {k : Bool → Prop} (h : b = false) (hk : k true) : OnB (!b) k := ⟨fun _ => hk, fun e => by rw [h] at e; cases e⟩
theorem onB_hy {b : Bool} {k : Bool → Prop} (h : b = true) (hk : k false) : OnB (!b) k := ⟨fun e => (by rw [h] at e; cases e), fun _ => hk⟩
theorem onB_ne {b : Bool} {k : Bool → Prop} (hk : k false) : OnB (b != b) k := ⟨fun e => (by simp at e), fun _ => hk⟩
theorem vc_1 {n1 l1 n2 l2 n3 l3 n4 l4 n5 l5 n6 l6} (h : vcR n1 l1 n2 l2 n3 l3 n4 l4 n5 l5 n6 l6 = true) : validR n1 l1 n2 l2 = true := by unfold vcR at h; simp only [Bool.and_eq_true] at h; exact h.1
theorem vc_2 {n1 l1 n2 l2 n3 l3 n4 l4 n5 l5 n6 l6} (h : vcR n1 l1 n2 l2 n3 l3 n4 l4 n5 l5 n6 l6 = true) : validR n3 l3 n4 l4 = true := by unfold vcR at h; simp only [Bool.and_eq_true] at h; exact h.2.1
theorem vc_3 {n1 l1 n2 l2 n3 l3 n4 l4 n5 l5 n6 l6} (h : vcR n1 l1 n2 l2 n3 l3 n4 l4 n5 l5 n6 l6 = true) : validR n5 l5 n6 l6 = true := by unfold vcR at h; simp only [Bool.and_eq_true] at h; exact h.2.2.1
end Go.Sw

namespace Go.Sw
open Go
set_option linter.unusedVariables false
/-- A sum with two square roots. -/
@[reducible] def Q6 (a b c d e f : Rat) : AV := .agg [zs a.num, zl a.num, zs a.den, zl a.den, zs b.num, zl b.num, zs b.den, zl b.den, zs c.num, zl c.num, zs c.den, zl c.den, zs d.num, zl d.num, zs d.den, zl d.den, zs e.num, zl e.num, zs e.den, zl e.den, zs f.num, zl f.num, zs f.den, zl f.den]
theorem w_xs (a b c d : Rat) : IntKind.i64.wrap (exI a b c * sgnR d) = exI a b c * sgnR d := by
  have := one_mul_lim (exI_lim a b c) (sgnR_lim d)
  exact wi64 (by omega) (by omega)
theorem w_xx (a b c d e f : Rat) : IntKind.i64.wrap (exI a b c * exI d e f) = exI a b c * exI d e f := by
  have := one_mul_lim (exI_lim a b c) (exI_lim d e f)
  exact wi64 (by omega) (by omega)
section
variable {a b c d m n x y : Rat}
theorem tw_1 (h : a = 0) : packA [AV.c (Cell.v (.int .i64 (sgnR b * sgnR c)))] = AV.int .i64 (exI a b c) := iE (by
  unfold exI
  rw [sgnR_eq0.2 h]
  split
  · rename_i h; rcases h with h | h <;> omega
  · simp)
theorem tw_2 (h : ¬a = 0) (h2 : sgnR b * sgnR c = 0) : packA [AV.c (Cell.v (.int .i64 (sgnR a)))] = AV.int .i64 (exI a b c) := iE (by unfold exI; rw [if_pos (.inr h2)])
theorem tw_3 (h : ¬a = 0) (h2 : sgnR a = sgnR b * sgnR c) : packA [AV.c (Cell.v (.int .i64 (sgnR a)))] = AV.int .i64 (exI a b c) := iE (by unfold exI; rw [if_pos (.inl h2)])
theorem tw_4 (h : ¬a = 0) (h2 : ¬sgnR b * sgnR c = 0) (h3 : ¬sgnR a = sgnR b * sgnR c) : packA [AV.c (Cell.v (.int .i64 (sgnR a * cmpR (a * a) (b * b * c))))] = AV.int .i64 (exI a b c) := iE (by
  unfold exI; rw [if_neg (by rintro (h | h); exact h3 h; exact h2 h), if_neg (fun e => h (sgnR_eq0.1 e))])
theorem s4_1 (h : exI a b m = 0) : packA [AV.c (Cell.v (.int .i64 (exI c d m * sgnR n)))] = AV.int .i64 (sg4 a b c d m n) := iE (by
  unfold sg4
  rw [h]
  split
  · rename_i h; rcases h with h | h <;> omega
  · simp)
theorem s4_2 (h : ¬exI a b m = 0) (h2 : exI c d m * sgnR n = 0) : packA [AV.c (Cell.v (.int .i64 (exI a b m)))] = AV.int .i64 (sg4 a b c d m n) := iE (by unfold sg4; rw [if_pos (.inr h2)])
theorem s4_3 (h : ¬exI a b m = 0) (h2 : exI a b m = exI c d m * sgnR n) : packA [AV.c (Cell.v (.int .i64 (exI a b m)))] = AV.int .i64 (sg4 a b c d m n) := iE (by unfold sg4; rw [if_pos (.inl h2)])
theorem s4_4 (h : ¬exI a b m = 0) (h2 : ¬exI c d m * sgnR n = 0) (h3 : ¬exI a b m = exI c d m * sgnR n) :
    packA [AV.c (Cell.v (.int .i64 (exI a b m * exI (a * a + b * b * m - n * (c * c + d * d * m)) (a * b - n * (c * d) + (a * b - n * (c * d))) m)))] = AV.int .i64 (sg4 a b c d m n) := iE (by
  unfold sg4; rw [if_neg (by rintro (h | h); exact h3 h; exact h2 h), if_neg h])
theorem sqA_1 {q : AV} (k1 : isSq a.num = true) (k2 : isSq a.den = true) (e : isSqR a = true → q = AV.tup [R (sqR a), AV.bool true]) :
    packA [AV.agg [zs (if a.num < 0 then 0 else (isq a.num.natAbs : Nat)), zl (if a.num < 0 then 0 else (isq a.num.natAbs : Nat)), zs (if (a.den : Int) < 0 then 0 else (isq (a.den : Int).natAbs : Nat)), zl (if (a.den : Int) < 0 then 0 else (isq (a.den : Int).natAbs : Nat))], AV.c (Cell.v (.bool true))] = q :=
  sqrt_1 (by rw [k1]; rfl) (by rw [k2]; rfl) e
theorem sqA_0 {q r : AV} (k1 : isSq a.num = false) (e : ¬isSqR a = true → q = r) : r = q := (e (sqrt_0 (.inl (by rw [k1]; rfl)))).symm
theorem sqA_2 {q r : AV} (k1 : isSq a.den = false) (e : ¬isSqR a = true → q = r) : r = q := (e (sqrt_0 (.inr (by rw [k1]; rfl)))).symm
theorem onB_dy {p : Prop} [Decidable p] {k : Bool → Prop} (h : p) (hk : k true) : OnB (decide p) k := ⟨fun _ => hk, fun e => absurd h (of_decide_eq_false e)⟩
theorem onB_dn {p : Prop} [Decidable p] {k : Bool → Prop} (h : ¬p) (hk : k false) : OnB (decide p) k := ⟨fun e => absurd (of_decide_eq_true e) h, fun _ => hk⟩
theorem ss_nn {e : Rat} (h : sgnR e * sgnR e < 0) : False := by
  rcases sgn_cases e with ⟨_, k⟩ | ⟨_, k⟩ | ⟨_, k⟩ <;> rw [k] at h <;> exact absurd h (by decide)
theorem seg_1 (h : (c - a) * (x - a) + (d - b) * (y - b) ≤ 0) : packA [R ((x - a) * (x - a) + (y - b) * (y - b))] = R (segD a b c d x y) := congrArg R (by unfold segD; rw [if_pos h])
theorem seg_2 (h : ¬(c - a) * (x - a) + (d - b) * (y - b) ≤ 0) (h2 : (c - a) * (c - a) + (d - b) * (d - b) ≤ (c - a) * (x - a) + (d - b) * (y - b)) : packA [R ((x - c) * (x - c) + (y - d) * (y - d))] = R (segD a b c d x y) :=
  congrArg R (by unfold segD; rw [if_neg h, if_pos h2])
theorem seg_3 (h : ¬(c - a) * (x - a) + (d - b) * (y - b) ≤ 0) (h2 : ¬(c - a) * (c - a) + (d - b) * (d - b) ≤ (c - a) * (x - a) + (d - b) * (y - b)) :
    packA [R (((c - a) * (y - b) - (d - b) * (x - a)) * ((c - a) * (y - b) - (d - b) * (x - a)) / ((c - a) * (c - a) + (d - b) * (d - b)))] = R (segD a b c d x y) :=
  congrArg R (by unfold segD; rw [if_neg h, if_neg h2])
theorem seg_n0 {n T : Rat} (h : n = 0) (h1 : ¬T ≤ 0) (h2 : ¬n ≤ T) : False := by grind
theorem sg_n1 {q : Rat} (h : q < q) : False := by grind
theorem sg_n2 (h : segD x y x y a b < segD a b c d x y) : False := by
  rw [seg_pt] at h; have := seg_le_a a b c d x y; grind
theorem sg_n3 (h : segD x y x y c d < segD a b c d x y) : False := by
  rw [seg_pt] at h; have := seg_le_c a b c d x y; grind
theorem mk_1 (h : isSqR c = true) : packA [Q3 (a + b * sqR c) 0 0, AV.c (Cell.v (.int .i64 0))] = AV.tup [Q3 (mkA a b c) (mkB b c) (mkC b c), AV.int .i64 0] := by
  unfold mkA mkB mkC; rw [if_pos h, if_pos h, if_pos h]; rfl
theorem mk_0 (h : ¬isSqR c = true) : packA [Q3 a b (cooC b c), AV.c (Cell.v (.int .i64 0))] = AV.tup [Q3 (mkA a b c) (mkB b c) (mkC b c), AV.int .i64 0] := by
  have h' : isSqR c = false := by simpa using h
  unfold mkA mkB mkC cooC; rw [if_neg h, if_neg h, if_neg h, redB_of h', redC_of h']; rfl
end
theorem refA (h s p : Rat) : h + s * -p = h - s * p := by grind
section
variable {fx fy tx ty x y : Rat} {r fz tz : Int}
theorem on_1 (h : r ≥ 0) : packA [AV.c (Cell.v (.bool (decide (segD fx fy tx ty x y ≤ (r : Rat) * (r : Rat)))))] = AV.bool (decide (swOn fx fy tx ty r x y)) := bE (decide_eq_decide.2 ⟨fun k => ⟨h, k⟩, fun k => k.2⟩)
theorem on_2 (h : ¬r ≥ 0) : packA [AV.c (Cell.v (.bool false))] = AV.bool (decide (swOn fx fy tx ty r x y)) := bE (by
  symm; rw [decide_eq_false_iff_not]; rintro ⟨k, _⟩; omega)
end
section
variable {fx fy tx ty x y : Rat} {r fz tz : Int}
theorem swR_u (h : tz > fz) (h2 : tz = fz ∨ (fx - x) * (fx - x) + (fy - y) * (fy - y) ≤ (r : Rat) * (r : Rat)) : swR fx fy fz tx ty tz (r : Rat) x y = ⟨(fz : Rat), 0, 0⟩ := by
  unfold swR swP; rw [if_pos h, if_pos h2]
theorem swR_d (h : ¬tz > fz) (h2 : fz = tz ∨ (tx - x) * (tx - x) + (ty - y) * (ty - y) ≤ (r : Rat) * (r : Rat)) : swR fx fy fz tx ty tz (r : Rat) x y = ⟨(tz : Rat), 0, 0⟩ := by
  unfold swR swP; rw [if_neg h, if_pos h2]
theorem swR_u' (h : tz > fz) (h1 : ¬tz = fz) (h2 : ¬(fx - x) * (fx - x) + (fy - y) * (fy - y) ≤ (r : Rat) * (r : Rat)) : swR fx fy fz tx ty tz (r : Rat) x y =
    ⟨mkA ((tz : Rat) - ((fz - tz : Int) : Rat) / ((fx - tx) * (fx - tx) + (fy - ty) * (fy - ty)) * ((tx - x) * (fx - tx) + (ty - y) * (fy - ty))) (((fz - tz : Int) : Rat) / ((fx - tx) * (fx - tx) + (fy - ty) * (fy - ty)))
      (((tx - x) * (fx - tx) + (ty - y) * (fy - ty)) * ((tx - x) * (fx - tx) + (ty - y) * (fy - ty)) - ((fx - tx) * (fx - tx) + (fy - ty) * (fy - ty)) * ((tx - x) * (tx - x) + (ty - y) * (ty - y) - (r : Rat) * (r : Rat))),
     mkB (((fz - tz : Int) : Rat) / ((fx - tx) * (fx - tx) + (fy - ty) * (fy - ty)))
      (((tx - x) * (fx - tx) + (ty - y) * (fy - ty)) * ((tx - x) * (fx - tx) + (ty - y) * (fy - ty)) - ((fx - tx) * (fx - tx) + (fy - ty) * (fy - ty)) * ((tx - x) * (tx - x) + (ty - y) * (ty - y) - (r : Rat) * (r : Rat))),
     mkC (((fz - tz : Int) : Rat) / ((fx - tx) * (fx - tx) + (fy - ty) * (fy - ty)))
      (((tx - x) * (fx - tx) + (ty - y) * (fy - ty)) * ((tx - x) * (fx - tx) + (ty - y) * (fy - ty)) - ((fx - tx) * (fx - tx) + (fy - ty) * (fy - ty)) * ((tx - x) * (tx - x) + (ty - y) * (ty - y) - (r : Rat) * (r : Rat)))⟩ := by
  unfold swR swP; rw [if_pos h, if_neg (by rintro (h | h); exact h1 h; exact h2 h)]; rfl
theorem swR_d' (h : ¬tz > fz) (h1 : ¬fz = tz) (h2 : ¬(tx - x) * (tx - x) + (ty - y) * (ty - y) ≤ (r : Rat) * (r : Rat)) : swR fx fy fz tx ty tz (r : Rat) x y =
    ⟨mkA ((fz : Rat) - ((tz - fz : Int) : Rat) / ((tx - fx) * (tx - fx) + (ty - fy) * (ty - fy)) * ((fx - x) * (tx - fx) + (fy - y) * (ty - fy))) (((tz - fz : Int) : Rat) / ((tx - fx) * (tx - fx) + (ty - fy) * (ty - fy)))
      (((fx - x) * (tx - fx) + (fy - y) * (ty - fy)) * ((fx - x) * (tx - fx) + (fy - y) * (ty - fy)) - ((tx - fx) * (tx - fx) + (ty - fy) * (ty - fy)) * ((fx - x) * (fx - x) + (fy - y) * (fy - y) - (r : Rat) * (r : Rat))),
     mkB (((tz - fz : Int) : Rat) / ((tx - fx) * (tx - fx) + (ty - fy) * (ty - fy)))
      (((fx - x) * (tx - fx) + (fy - y) * (ty - fy)) * ((fx - x) * (tx - fx) + (fy - y) * (ty - fy)) - ((tx - fx) * (tx - fx) + (ty - fy) * (ty - fy)) * ((fx - x) * (fx - x) + (fy - y) * (fy - y) - (r : Rat) * (r : Rat))),
     mkC (((tz - fz : Int) : Rat) / ((tx - fx) * (tx - fx) + (ty - fy) * (ty - fy)))
      (((fx - x) * (tx - fx) + (fy - y) * (ty - fy)) * ((fx - x) * (tx - fx) + (fy - y) * (ty - fy)) - ((tx - fx) * (tx - fx) + (ty - fy) * (ty - fy)) * ((fx - x) * (fx - x) + (fy - y) * (fy - y) - (r : Rat) * (r : Rat)))⟩ := by
  unfold swR swP; rw [if_neg h, if_neg (by rintro (h | h); exact h1 h; exact h2 h)]; rfl
theorem sw_fu (h : swOn fx fy tx ty r x y) (k : ¬(fx - x) * (fx - x) + (fy - y) * (fy - y) ≤ (r : Rat) * (r : Rat)) : ¬(fx - tx) * (fx - tx) + (fy - ty) * (fy - ty) = 0 := by
  have h2 := h.2
  rw [← seg_swap] at h2
  exact sw_nd h2 k
theorem sw_fd (h : swOn fx fy tx ty r x y) (k : ¬(tx - x) * (tx - x) + (ty - y) * (ty - y) ≤ (r : Rat) * (r : Rat)) : ¬(tx - fx) * (tx - fx) + (ty - fy) * (ty - fy) = 0 := sw_nd h.2 k
theorem sw_eu (h : swOn fx fy tx ty r x y) (k : ¬(fx - x) * (fx - x) + (fy - y) * (fy - y) ≤ (r : Rat) * (r : Rat)) (e : (fx - tx) * (fx - tx) + (fy - ty) * (fy - ty) = 0) : False := sw_fu h k e
theorem sw_ed (h : swOn fx fy tx ty r x y) (k : ¬(tx - x) * (tx - x) + (ty - y) * (ty - y) ≤ (r : Rat) * (r : Rat)) (e : (tx - fx) * (tx - fx) + (ty - fy) * (ty - fy) = 0) : False := sw_fd h k e
theorem sw_iu (h : swOn fx fy tx ty r x y) : 0 ≤ ((tx - x) * (fx - tx) + (ty - y) * (fy - ty)) * ((tx - x) * (fx - tx) + (ty - y) * (fy - ty)) - ((fx - tx) * (fx - tx) + (fy - ty) * (fy - ty)) * ((tx - x) * (tx - x) + (ty - y) * (ty - y) - (r : Rat) * (r : Rat)) := by
  have h2 := h.2
  rw [← seg_swap] at h2
  exact sw_in h2
theorem sw_id (h : swOn fx fy tx ty r x y) : 0 ≤ ((fx - x) * (tx - fx) + (fy - y) * (ty - fy)) * ((fx - x) * (tx - fx) + (fy - y) * (ty - fy)) - ((tx - fx) * (tx - fx) + (ty - fy) * (ty - fy)) * ((fx - x) * (fx - x) + (fy - y) * (fy - y) - (r : Rat) * (r : Rat)) := sw_in h.2
end
end Go.Sw

namespace Go.Proofs.YtghlkihmnopenaaGreatDoor
open Go Go.RowKit Go.Sw
set_option linter.unusedVariables false
set_option maxRecDepth 100000
set_option maxHeartbeats 8000000
set_option synthInstance.maxSize 4000
set_option synthInstance.maxHeartbeats 400000
instance c_nan (n : Int) : DenI Tryz.prog 114 [.int .i64 n] (True) (.bool false) := ⟨fun hp => by
 refine den_of (τ := tab) tab_ok mixed_ Tryz.func114 rfl (by kernel_rfl) (by kernel_rfl) (by kernel_rfl) ?_
 all_goals (repeat' ((try (conv => whnf)); first
  | refine call_0 ?_
  | refine call_i ?_ ?_
  | refine call_c ?_ (fun _ => ?_) (fun _ => ?_)
  | (with_reducible refine onB_t ?_)
  | (with_reducible refine onB_f ?_)
  | (with_reducible refine onB_d (fun _ => ?_) (fun _ => ?_))
  | (with_reducible refine onB_n (fun _ => ?_) (fun _ => ?_))
  | refine OnB.mk (fun _ => ?_) (fun _ => ?_)
  | refine obl_i ?_ ?_
  | refine Drw.mk (by kernel_rfl) ?_
  | refine mks_i ?_ ?_
  | refine slp_i ?_ ?_
  | (with_reducible refine elem_u ?_ ?_)
  | (with_reducible refine elem_0 ?_)
  | (with_reducible refine elem_1 ?_)
  | refine Ends.mk ?_))
 all_goals (try refine Pr.mk ?_)
 all_goals first
  | (refine bE ?_; simp)
  | skip⟩

instance c_cmp (m n : Int) : DenI Tryz.prog 86 [.int .i64 m, .int .i64 n] (True) (.int .i64 (cmpI m n)) := ⟨fun hp => by
 refine den_of (τ := tab) tab_ok mixed_ Tryz.func86 rfl (by kernel_rfl) (by kernel_rfl) (by kernel_rfl) ?_
 all_goals (repeat' ((try (conv => whnf)); first
  | refine call_0 ?_
  | refine call_i ?_ ?_
  | refine call_c ?_ (fun _ => ?_) (fun _ => ?_)
  | (with_reducible refine onB_t ?_)
  | (with_reducible refine onB_f ?_)
  | (with_reducible refine onB_d (fun _ => ?_) (fun _ => ?_))
  | (with_reducible refine onB_n (fun _ => ?_) (fun _ => ?_))
  | refine OnB.mk (fun _ => ?_) (fun _ => ?_)
  | refine obl_i ?_ ?_
  | refine Drw.mk (by kernel_rfl) ?_
  | refine mks_i ?_ ?_
  | refine slp_i ?_ ?_
  | (with_reducible refine elem_u ?_ ?_)
  | (with_reducible refine elem_0 ?_)
  | (with_reducible refine elem_1 ?_)
  | refine Ends.mk ?_))
 all_goals (try refine Pr.mk ?_)
 all_goals first
  | (refine iE ?_; unfold cmpI; (repeat' split) <;> omega)
  | skip⟩

instance r_cmp (a b : Rat) : DenI Tryz.prog 40 [R a, R b] (rz a ≤ 10000000 ∧ rz b ≤ 10000000) (.int .i64 (cmpR a b)) := ⟨fun hp => by
 have i_a : RzB a 10000000 := ⟨hp.1⟩
 have i_b : RzB b 10000000 := ⟨hp.2⟩
 all_goals refine den_of (τ := tab) tab_ok mixed_ Tryz.func40 rfl (by kernel_rfl) (by kernel_rfl) (by kernel_rfl) ?_
 all_goals (repeat' ((try (conv => whnf)); first
  | refine call_0 ?_
  | refine call_i ?_ ?_
  | refine call_c ?_ (fun _ => ?_) (fun _ => ?_)
  | (with_reducible refine onB_t ?_)
  | (with_reducible refine onB_f ?_)
  | (with_reducible refine onB_d (fun _ => ?_) (fun _ => ?_))
  | (with_reducible refine onB_n (fun _ => ?_) (fun _ => ?_))
  | refine OnB.mk (fun _ => ?_) (fun _ => ?_)
  | refine obl_i ?_ ?_
  | refine Drw.mk (by kernel_rfl) ?_
  | refine mks_i ?_ ?_
  | refine slp_i ?_ ?_
  | (with_reducible refine elem_u ?_ ?_)
  | (with_reducible refine elem_0 ?_)
  | (with_reducible refine elem_1 ?_)
  | refine Ends.mk ?_))
 all_goals (try refine Pr.mk ?_)
 all_goals (try simp only [sgnI_lt0, sgnI_zero, sgnI_le0, sgnI_gt0, sgnI_ge0, sgnI_eq1, cmpI_lt0, cmpI_gt0, cmpI_eq0, cmpI_le0, cmpI_ge0, cmpR_of, sgnR_of, sgnR_lt0, sgnR_eq0, sgnR_gt0, sgnR_le0, sgnR_ge0, sgnR_eq1, cmpR_lt0, cmpR_gt0, cmpR_eq0, cmpR_le0, cmpR_ge0] at *)
 all_goals first
  | with_reducible exact cmp_sg (by assumption)
  | rfl
  | ((repeat' apply And.intro) <;> first | assumption | exact rzb (by omega) | exact szb (by omega) | exact Int.mul_ne_zero (den_ne _) (den_ne _))
  | skip⟩

instance r_div (a b : Rat) : DenC Tryz.prog 50 [R a, R b] (rz a ≤ 10000000 ∧ rz b ≤ 10000000) (b = 0) (.tup [ZR, .int .i64 6]) (.tup [R (a / b), .int .i64 0]) := ⟨denC fun hp q e1 e2 => by
 have i_a : RzB a 10000000 := ⟨hp.1⟩
 have i_b : RzB b 10000000 := ⟨hp.2⟩
 all_goals refine den_of (τ := tab) tab_ok mixed_ Tryz.func50 rfl (by kernel_rfl) (by kernel_rfl) (by kernel_rfl) ?_
 all_goals (repeat' ((try (conv => whnf)); first
  | refine call_0 ?_
  | refine call_i ?_ ?_
  | refine call_c ?_ (fun _ => ?_) (fun _ => ?_)
  | (with_reducible refine onB_t ?_)
  | (with_reducible refine onB_f ?_)
  | (with_reducible refine onB_d (fun _ => ?_) (fun _ => ?_))
  | (with_reducible refine onB_n (fun _ => ?_) (fun _ => ?_))
  | refine OnB.mk (fun _ => ?_) (fun _ => ?_)
  | refine obl_i ?_ ?_
  | refine Drw.mk (by kernel_rfl) ?_
  | refine mks_i ?_ ?_
  | refine slp_i ?_ ?_
  | (with_reducible refine elem_u ?_ ?_)
  | (with_reducible refine elem_0 ?_)
  | (with_reducible refine elem_1 ?_)
  | refine Ends.mk ?_))
 all_goals (try refine Pr.mk ?_)
 all_goals (try simp only [sgnI_lt0, sgnI_zero, sgnI_le0, sgnI_gt0, sgnI_ge0, sgnI_eq1, cmpI_lt0, cmpI_gt0, cmpI_eq0, cmpI_le0, cmpI_ge0, cmpR_of, sgnR_of, sgnR_lt0, sgnR_eq0, sgnR_gt0, sgnR_le0, sgnR_ge0, sgnR_eq1, cmpR_lt0, cmpR_gt0, cmpR_eq0, cmpR_le0, cmpR_ge0] at *)
 all_goals first
  | (rw [e1 (by assumption)]; rfl)
  | with_reducible exact div_1 (by assumption) e2
  | (refine ⟨den_num1 (by assumption), ?_, ?_⟩ <;> exact szb (by omega))
  | ((repeat' apply And.intro) <;> first | assumption | exact rzb (by omega) | exact szb (by omega) | exact Int.mul_ne_zero (den_ne _) (den_ne _))
  | skip⟩

instance r_make (n d : Int)  : DenC Tryz.prog 45 [Z n, Z d] (sz n ≤ 500000000 ∧ sz d ≤ 500000000) (d = 0) (.tup [ZR, .int .i64 6]) (.tup [R ((n : Rat) / d), .int .i64 0]) := ⟨denC fun hp q e1 e2 => by
 have i_n : SzB n 500000000 := ⟨hp.1⟩
 have i_d : SzB d 500000000 := ⟨hp.2⟩
 all_goals refine den_of (τ := tab) tab_ok mixed_ Tryz.func45 rfl (by kernel_rfl) (by kernel_rfl) (by kernel_rfl) ?_
 all_goals (repeat' ((try (conv => whnf)); first
  | refine call_0 ?_
  | refine call_i ?_ ?_
  | refine call_c ?_ (fun _ => ?_) (fun _ => ?_)
  | (with_reducible refine onB_t ?_)
  | (with_reducible refine onB_f ?_)
  | (with_reducible refine onB_d (fun _ => ?_) (fun _ => ?_))
  | (with_reducible refine onB_n (fun _ => ?_) (fun _ => ?_))
  | refine OnB.mk (fun _ => ?_) (fun _ => ?_)
  | refine obl_i ?_ ?_
  | refine Drw.mk (by kernel_rfl) ?_
  | refine mks_i ?_ ?_
  | refine slp_i ?_ ?_
  | (with_reducible refine elem_u ?_ ?_)
  | (with_reducible refine elem_0 ?_)
  | (with_reducible refine elem_1 ?_)
  | refine Ends.mk ?_))
 all_goals (try refine Pr.mk ?_)
 all_goals (try simp only [sgnI_lt0, sgnI_zero, sgnI_le0, sgnI_gt0, sgnI_ge0, sgnI_eq1, cmpI_lt0, cmpI_gt0, cmpI_eq0, cmpI_le0, cmpI_ge0, cmpR_of, sgnR_of, sgnR_lt0, sgnR_eq0, sgnR_gt0, sgnR_le0, sgnR_ge0, sgnR_eq1, cmpR_lt0, cmpR_gt0, cmpR_eq0, cmpR_le0, cmpR_ge0] at *)
 all_goals first
  | (rw [e1 (by assumption)]; rfl)
  | (rw [e2 (by assumption)]; rfl)
  | (refine ⟨by assumption, ?_, ?_⟩ <;> exact szb (by omega))
  | ((repeat' apply And.intro) <;> first | assumption | exact rzb (by omega) | exact szb (by omega) | exact Int.mul_ne_zero (den_ne _) (den_ne _))
  | skip⟩

instance r_frac (n d : Int)  : DenI Tryz.prog 48 [.int .i64 n, .int .i64 d] ((-9223372036854775808 ≤ n ∧ n ≤ 9223372036854775807) ∧ -9223372036854775808 ≤ d ∧ d ≤ 9223372036854775807) (R ((n : Rat) / d)) := ⟨fun hp => by
 refine den_of (τ := tab) tab_ok mixed_ Tryz.func48 rfl (by kernel_rfl) (by kernel_rfl) (by kernel_rfl) ?_
 all_goals (repeat' ((try (conv => whnf)); first
  | refine call_0 ?_
  | refine call_i ?_ ?_
  | refine call_c ?_ (fun _ => ?_) (fun _ => ?_)
  | (with_reducible refine onB_t ?_)
  | (with_reducible refine onB_f ?_)
  | (with_reducible refine onB_d (fun _ => ?_) (fun _ => ?_))
  | (with_reducible refine onB_n (fun _ => ?_) (fun _ => ?_))
  | refine OnB.mk (fun _ => ?_) (fun _ => ?_)
  | refine obl_i ?_ ?_
  | refine Drw.mk (by kernel_rfl) ?_
  | refine mks_i ?_ ?_
  | refine slp_i ?_ ?_
  | (with_reducible refine elem_u ?_ ?_)
  | (with_reducible refine elem_0 ?_)
  | (with_reducible refine elem_1 ?_)
  | refine Ends.mk ?_))
 all_goals (try refine Pr.mk ?_)
 all_goals (try simp only [sgnI_lt0, sgnI_zero, sgnI_le0, sgnI_gt0, sgnI_ge0, sgnI_eq1, cmpI_lt0, cmpI_gt0, cmpI_eq0, cmpI_le0, cmpI_ge0, cmpR_of, sgnR_of, sgnR_lt0, sgnR_eq0, sgnR_gt0, sgnR_le0, sgnR_ge0, sgnR_eq1, cmpR_lt0, cmpR_gt0, cmpR_eq0, cmpR_le0, cmpR_ge0] at *)
 all_goals first
  | rfl
  | omega
  | (subst d; exact congrArg R (frac_0 n))
  | (have z1 := sz_64 hp.1.1 hp.1.2; have z2 := sz_64 hp.2.1 hp.2.2; omega)
  | ((repeat' apply And.intro) <;> first | assumption | exact rzb (by omega) | exact szb (by omega) | exact Int.mul_ne_zero (den_ne _) (den_ne _))
  | skip⟩

instance s_same (a b : Rat) : DenI Tryz.prog 23 [R a, R b] (rz a ≤ 10000000 ∧ rz b ≤ 10000000) (.bool (decide (a = b))) := ⟨fun hp => by
 have i_a : RzB a 10000000 := ⟨hp.1⟩
 have i_b : RzB b 10000000 := ⟨hp.2⟩
 all_goals refine den_of (τ := tab) tab_ok mixed_ Tryz.func23 rfl (by kernel_rfl) (by kernel_rfl) (by kernel_rfl) ?_
 all_goals (repeat' ((try (conv => whnf)); first
  | refine call_0 ?_
  | refine call_i ?_ ?_
  | refine call_c ?_ (fun _ => ?_) (fun _ => ?_)
  | (with_reducible refine onB_t ?_)
  | (with_reducible refine onB_f ?_)
  | (with_reducible refine onB_d (fun _ => ?_) (fun _ => ?_))
  | (with_reducible refine onB_n (fun _ => ?_) (fun _ => ?_))
  | refine OnB.mk (fun _ => ?_) (fun _ => ?_)
  | refine obl_i ?_ ?_
  | refine Drw.mk (by kernel_rfl) ?_
  | refine mks_i ?_ ?_
  | refine slp_i ?_ ?_
  | (with_reducible refine elem_u ?_ ?_)
  | (with_reducible refine elem_0 ?_)
  | (with_reducible refine elem_1 ?_)
  | refine Ends.mk ?_))
 all_goals (try refine Pr.mk ?_)
 all_goals (try simp only [sgnI_lt0, sgnI_zero, sgnI_le0, sgnI_gt0, sgnI_ge0, sgnI_eq1, cmpI_lt0, cmpI_gt0, cmpI_eq0, cmpI_le0, cmpI_ge0, cmpR_of, sgnR_of, sgnR_lt0, sgnR_eq0, sgnR_gt0, sgnR_le0, sgnR_ge0, sgnR_eq1, cmpR_lt0, cmpR_gt0, cmpR_eq0, cmpR_le0, cmpR_ge0] at *)
 all_goals first
  | with_reducible exact rsame_1 (by assumption)
  | with_reducible exact rsame_0 (by assumption)
  | ((repeat' apply And.intro) <;> first | assumption | exact rzb (by omega) | exact szb (by omega) | exact Int.mul_ne_zero (den_ne _) (den_ne _))
  | skip⟩

instance s_perf (a : Int) : DenI Tryz.prog 66 [Z a] (sz a ≤ 10000000) (.tup [Z (if a < 0 then 0 else (isq a.natAbs : Nat)), .bool (isSq a)]) := ⟨fun hp => by
 have i_a : SzB a 10000000 := ⟨hp⟩
 all_goals refine den_of (τ := tab) tab_ok mixed_ Tryz.func66 rfl (by kernel_rfl) (by kernel_rfl) (by kernel_rfl) ?_
 all_goals (repeat' ((try (conv => whnf)); first
  | refine call_0 ?_
  | refine call_i ?_ ?_
  | refine call_c ?_ (fun _ => ?_) (fun _ => ?_)
  | (with_reducible refine onB_t ?_)
  | (with_reducible refine onB_f ?_)
  | (with_reducible refine onB_d (fun _ => ?_) (fun _ => ?_))
  | (with_reducible refine onB_n (fun _ => ?_) (fun _ => ?_))
  | refine OnB.mk (fun _ => ?_) (fun _ => ?_)
  | refine obl_i ?_ ?_
  | refine Drw.mk (by kernel_rfl) ?_
  | refine mks_i ?_ ?_
  | refine slp_i ?_ ?_
  | (with_reducible refine elem_u ?_ ?_)
  | (with_reducible refine elem_0 ?_)
  | (with_reducible refine elem_1 ?_)
  | refine Ends.mk ?_))
 all_goals (try refine Pr.mk ?_)
 all_goals (try simp only [sgnI_lt0, sgnI_zero, sgnI_le0, sgnI_gt0, sgnI_ge0, sgnI_eq1, cmpI_lt0, cmpI_gt0, cmpI_eq0, cmpI_le0, cmpI_ge0, cmpR_of, sgnR_of, sgnR_lt0, sgnR_eq0, sgnR_gt0, sgnR_le0, sgnR_ge0, sgnR_eq1, cmpR_lt0, cmpR_gt0, cmpR_eq0, cmpR_le0, cmpR_ge0] at *)
 all_goals first
  | with_reducible exact perf_1 (by assumption)
  | with_reducible exact perf_2 (by assumption)
  | ((repeat' apply And.intro) <;> first | assumption | exact rzb (by omega) | exact szb (by omega) | exact Int.mul_ne_zero (den_ne _) (den_ne _))
  | skip⟩

instance s_make (n d : Int)  : DenC Tryz.prog 46 [Z n, Z d] (sz n ≤ 500000000 ∧ sz d ≤ 500000000) (d = 0) (.tup [ZR, .int .i64 6]) (.tup [R ((n : Rat) / d), .int .i64 0]) := ⟨denC fun hp q e1 e2 => by
 have i_n : SzB n 500000000 := ⟨hp.1⟩
 have i_d : SzB d 500000000 := ⟨hp.2⟩
 all_goals refine den_of (τ := tab) tab_ok mixed_ Tryz.func46 rfl (by kernel_rfl) (by kernel_rfl) (by kernel_rfl) ?_
 all_goals (repeat' ((try (conv => whnf)); first
  | refine call_0 ?_
  | refine call_i ?_ ?_
  | refine call_c ?_ (fun _ => ?_) (fun _ => ?_)
  | (with_reducible refine onB_t ?_)
  | (with_reducible refine onB_f ?_)
  | (with_reducible refine onB_d (fun _ => ?_) (fun _ => ?_))
  | (with_reducible refine onB_n (fun _ => ?_) (fun _ => ?_))
  | refine OnB.mk (fun _ => ?_) (fun _ => ?_)
  | refine obl_i ?_ ?_
  | refine Drw.mk (by kernel_rfl) ?_
  | refine mks_i ?_ ?_
  | refine slp_i ?_ ?_
  | (with_reducible refine elem_u ?_ ?_)
  | (with_reducible refine elem_0 ?_)
  | (with_reducible refine elem_1 ?_)
  | refine Ends.mk ?_))
 all_goals (try refine Pr.mk ?_)
 all_goals (try simp only [sgnI_lt0, sgnI_zero, sgnI_le0, sgnI_gt0, sgnI_ge0, sgnI_eq1, cmpI_lt0, cmpI_gt0, cmpI_eq0, cmpI_le0, cmpI_ge0, cmpR_of, sgnR_of, sgnR_lt0, sgnR_eq0, sgnR_gt0, sgnR_le0, sgnR_ge0, sgnR_eq1, cmpR_lt0, cmpR_gt0, cmpR_eq0, cmpR_le0, cmpR_ge0] at *)
 all_goals first
  | (rw [e1 (by assumption)]; rfl)
  | (rw [e2 (by assumption)]; rfl)
  | (refine ⟨by assumption, ?_, ?_⟩ <;> exact szb (by omega))
  | ((repeat' apply And.intro) <;> first | assumption | exact rzb (by omega) | exact szb (by omega) | exact Int.mul_ne_zero (den_ne _) (den_ne _))
  | skip⟩

instance s_div (a b : Rat) : DenC Tryz.prog 51 [R a, R b] (rz a ≤ 10000000 ∧ rz b ≤ 10000000) (b = 0) (.tup [ZR, .int .i64 6]) (.tup [R (a / b), .int .i64 0]) := ⟨denC fun hp q e1 e2 => by
 have i_a : RzB a 10000000 := ⟨hp.1⟩
 have i_b : RzB b 10000000 := ⟨hp.2⟩
 all_goals refine den_of (τ := tab) tab_ok mixed_ Tryz.func51 rfl (by kernel_rfl) (by kernel_rfl) (by kernel_rfl) ?_
 all_goals (repeat' ((try (conv => whnf)); first
  | refine call_0 ?_
  | refine call_i ?_ ?_
  | refine call_c ?_ (fun _ => ?_) (fun _ => ?_)
  | (with_reducible refine onB_t ?_)
  | (with_reducible refine onB_f ?_)
  | (with_reducible refine onB_d (fun _ => ?_) (fun _ => ?_))
  | (with_reducible refine onB_n (fun _ => ?_) (fun _ => ?_))
  | refine OnB.mk (fun _ => ?_) (fun _ => ?_)
  | refine obl_i ?_ ?_
  | refine Drw.mk (by kernel_rfl) ?_
  | refine mks_i ?_ ?_
  | refine slp_i ?_ ?_
  | (with_reducible refine elem_u ?_ ?_)
  | (with_reducible refine elem_0 ?_)
  | (with_reducible refine elem_1 ?_)
  | refine Ends.mk ?_))
 all_goals (try refine Pr.mk ?_)
 all_goals (try simp only [sgnI_lt0, sgnI_zero, sgnI_le0, sgnI_gt0, sgnI_ge0, sgnI_eq1, cmpI_lt0, cmpI_gt0, cmpI_eq0, cmpI_le0, cmpI_ge0, cmpR_of, sgnR_of, sgnR_lt0, sgnR_eq0, sgnR_gt0, sgnR_le0, sgnR_ge0, sgnR_eq1, cmpR_lt0, cmpR_gt0, cmpR_eq0, cmpR_le0, cmpR_ge0] at *)
 all_goals first
  | (rw [e1 (den_num0 (by assumption))]; rfl)
  | with_reducible exact div_2 (by assumption) e2
  | ((repeat' apply And.intro) <;> first | assumption | exact rzb (by omega) | exact szb (by omega) | exact Int.mul_ne_zero (den_ne _) (den_ne _))
  | skip⟩

instance s_sqrt (a : Rat) : DenC Tryz.prog 22 [R a] (rz a ≤ 1000000) (isSqR a = true) (.tup [R (sqR a), .bool true]) (.tup [ZR, .bool false]) := ⟨denC fun hp q e1 e2 => by
 have i_a : RzB a 1000000 := ⟨hp⟩
 all_goals refine den_of (τ := tab) tab_ok mixed_ Tryz.func22 rfl (by kernel_rfl) (by kernel_rfl) (by kernel_rfl) ?_
 all_goals (repeat' ((try (conv => whnf)); first
  | refine call_0 ?_
  | refine call_i ?_ ?_
  | refine call_c ?_ (fun _ => ?_) (fun _ => ?_)
  | (with_reducible refine onB_t ?_)
  | (with_reducible refine onB_f ?_)
  | (with_reducible refine onB_d (fun _ => ?_) (fun _ => ?_))
  | (with_reducible refine onB_n (fun _ => ?_) (fun _ => ?_))
  | refine OnB.mk (fun _ => ?_) (fun _ => ?_)
  | refine obl_i ?_ ?_
  | refine Drw.mk (by kernel_rfl) ?_
  | refine mks_i ?_ ?_
  | refine slp_i ?_ ?_
  | (with_reducible refine elem_u ?_ ?_)
  | (with_reducible refine elem_0 ?_)
  | (with_reducible refine elem_1 ?_)
  | refine Ends.mk ?_))
 all_goals (try refine Pr.mk ?_)
 all_goals (try simp only [sgnI_lt0, sgnI_zero, sgnI_le0, sgnI_gt0, sgnI_ge0, sgnI_eq1, cmpI_lt0, cmpI_gt0, cmpI_eq0, cmpI_le0, cmpI_ge0, cmpR_of, sgnR_of, sgnR_lt0, sgnR_eq0, sgnR_gt0, sgnR_le0, sgnR_ge0, sgnR_eq1, cmpR_lt0, cmpR_gt0, cmpR_eq0, cmpR_le0, cmpR_ge0] at *)
 all_goals first
  | with_reducible exact sqrt_1 (by assumption) (by assumption) e1
  | (rw [e2 (sqrt_0 (.inl (by assumption)))]; rfl)
  | (rw [e2 (sqrt_0 (.inr (by assumption)))]; rfl)
  | ((repeat' apply And.intro) <;> first | assumption | exact rzb (by omega) | exact szb (by omega) | exact Int.mul_ne_zero (den_ne _) (den_ne _))
  | skip⟩

instance m_side (a : Int) : DenI Tryz.prog 65 [Z a] (sz a ≤ 10000000) (.tup [Z (if a < 0 then 0 else (isq a.natAbs : Nat)), .bool (isSq a)]) := ⟨fun hp => by
 have i_a : SzB a 10000000 := ⟨hp⟩
 all_goals refine den_of (τ := tab) tab_ok mixed_ Tryz.func65 rfl (by kernel_rfl) (by kernel_rfl) (by kernel_rfl) ?_
 all_goals (repeat' ((try (conv => whnf)); first
  | refine call_0 ?_
  | refine call_i ?_ ?_
  | refine call_c ?_ (fun _ => ?_) (fun _ => ?_)
  | (with_reducible refine onB_t ?_)
  | (with_reducible refine onB_f ?_)
  | (with_reducible refine onB_d (fun _ => ?_) (fun _ => ?_))
  | (with_reducible refine onB_n (fun _ => ?_) (fun _ => ?_))
  | refine OnB.mk (fun _ => ?_) (fun _ => ?_)
  | refine obl_i ?_ ?_
  | refine Drw.mk (by kernel_rfl) ?_
  | refine mks_i ?_ ?_
  | refine slp_i ?_ ?_
  | (with_reducible refine elem_u ?_ ?_)
  | (with_reducible refine elem_0 ?_)
  | (with_reducible refine elem_1 ?_)
  | refine Ends.mk ?_))
 all_goals (try refine Pr.mk ?_)
 all_goals (try simp only [sgnI_lt0, sgnI_zero, sgnI_le0, sgnI_gt0, sgnI_ge0, sgnI_eq1, cmpI_lt0, cmpI_gt0, cmpI_eq0, cmpI_le0, cmpI_ge0, cmpR_of, sgnR_of, sgnR_lt0, sgnR_eq0, sgnR_gt0, sgnR_le0, sgnR_ge0, sgnR_eq1, cmpR_lt0, cmpR_gt0, cmpR_eq0, cmpR_le0, cmpR_ge0] at *)
 all_goals first
  | with_reducible exact perf_1 (by assumption)
  | with_reducible exact perf_2 (by assumption)
  | ((repeat' apply And.intro) <;> first | assumption | exact rzb (by omega) | exact szb (by omega) | exact Int.mul_ne_zero (den_ne _) (den_ne _))
  | skip⟩

instance m_sqrt (a : Rat) : DenC Tryz.prog 21 [R a] (rz a ≤ 1000000) (isSqR a = true) (.tup [R (sqR a), .bool true]) (.tup [ZR, .bool false]) := ⟨denC fun hp q e1 e2 => by
 have i_a : RzB a 1000000 := ⟨hp⟩
 all_goals refine den_of (τ := tab) tab_ok mixed_ Tryz.func21 rfl (by kernel_rfl) (by kernel_rfl) (by kernel_rfl) ?_
 all_goals (repeat' ((try (conv => whnf)); first
  | refine call_0 ?_
  | refine call_i ?_ ?_
  | refine call_c ?_ (fun _ => ?_) (fun _ => ?_)
  | (with_reducible refine onB_t ?_)
  | (with_reducible refine onB_f ?_)
  | (with_reducible refine onB_d (fun _ => ?_) (fun _ => ?_))
  | (with_reducible refine onB_n (fun _ => ?_) (fun _ => ?_))
  | refine OnB.mk (fun _ => ?_) (fun _ => ?_)
  | refine obl_i ?_ ?_
  | refine Drw.mk (by kernel_rfl) ?_
  | refine mks_i ?_ ?_
  | refine slp_i ?_ ?_
  | (with_reducible refine elem_u ?_ ?_)
  | (with_reducible refine elem_0 ?_)
  | (with_reducible refine elem_1 ?_)
  | refine Ends.mk ?_))
 all_goals (try refine Pr.mk ?_)
 all_goals (try simp only [sgnI_lt0, sgnI_zero, sgnI_le0, sgnI_gt0, sgnI_ge0, sgnI_eq1, cmpI_lt0, cmpI_gt0, cmpI_eq0, cmpI_le0, cmpI_ge0, cmpR_of, sgnR_of, sgnR_lt0, sgnR_eq0, sgnR_gt0, sgnR_le0, sgnR_ge0, sgnR_eq1, cmpR_lt0, cmpR_gt0, cmpR_eq0, cmpR_le0, cmpR_ge0] at *)
 all_goals first
  | with_reducible exact sqA_1 (by assumption) (by assumption) e1
  | (refine (Eq.trans ?_ (sqA_0 (by assumption) e2)); rfl)
  | (refine (Eq.trans ?_ (sqA_2 (by assumption) e2)); rfl)
  | ((repeat' apply And.intro) <;> first | assumption | exact rzb (by omega) | exact szb (by omega) | exact Int.mul_ne_zero (den_ne _) (den_ne _))
  | skip⟩

end Go.Proofs.YtghlkihmnopenaaGreatDoor

namespace Go.Sw
open Go
set_option linter.unusedVariables false
/-! ### Numbers and integers -/
theorem add_int_nd (q : Rat) (n : Int) : (q + (n : Rat)).num = q.num + n * q.den ∧ (q + (n : Rat)).den = q.den := by
  have hc : (q.num + n * q.den).natAbs.Coprime q.den := by
    have h := q.reduced
    have e : Int.gcd (q.num + n * q.den) q.den = Int.gcd q.num q.den := by
      rw [Int.gcd_add_mul_right_left]
    exact e.trans h
  have e : q + (n : Rat) = ⟨q.num + n * q.den, q.den, q.den_nz, hc⟩ := by
    rw [Rat.mk_eq_mkRat, Rat.add_def']
    simp
  rw [e]; exact ⟨rfl, rfl⟩
theorem sub_int_nd (q : Rat) (n : Int) : (q - (n : Rat)).num = q.num - n * q.den ∧ (q - (n : Rat)).den = q.den := by
  have h := add_int_nd q (-n)
  rw [Rat.intCast_neg, ← Rat.sub_eq_add_neg] at h
  refine ⟨?_, h.2⟩
  rw [h.1, Int.neg_mul]; rfl
theorem inv_nd {q : Rat} (h : 0 < q) : (((1 : Int) : Rat) / q).num = q.den ∧ ((((1 : Int) : Rat) / q).den : Int) = q.num := by
  have hn : 0 < q.num := by
    have := (Rat.lt_iff 0 q).1 h
    simpa using this
  have e : ((1 : Int) : Rat) / q = q⁻¹ := by rw [Rat.div_def, Rat.intCast_one, Rat.one_mul]
  rw [e, Rat.num_inv, Rat.den_inv, if_neg (by omega), Int.sign_eq_one_of_pos hn]
  omega
theorem num_le_den {q : Rat} (h : q ≤ 1) : q.num ≤ q.den := by
  have := (Rat.le_iff q 1).1 h
  simpa using this
theorem num_lt_den {q : Rat} (h : q < 1) : q.num < q.den := by
  have := (Rat.lt_iff q 1).1 h
  simpa using this
theorem fl_lo (a : Rat) : ((a.floor : Int) : Rat) ≤ a := Rat.floor_le a
theorem fl_hi (a : Rat) : a < ((a.floor : Int) : Rat) + ((1 : Int) : Rat) := by
  have := Rat.lt_floor_add_one a
  rw [Rat.intCast_add] at this; exact this
theorem inv_lt {x y : Rat} (hy : 0 < y) (h : y < x) : ((1 : Int) : Rat) / x < ((1 : Int) : Rat) / y := by
  have hx : 0 < x := by grind
  rw [Rat.intCast_one, Rat.div_lt_iff hx]
  have e : 1 / y * x = x / y := by rw [Rat.div_def, Rat.div_def, Rat.one_mul, Rat.mul_comm]
  rw [e, Rat.lt_div_iff hy, Rat.one_mul]; exact h
theorem inv_pos' {x : Rat} (h : 0 < x) : 0 < ((1 : Int) : Rat) / x := by
  rw [Rat.intCast_one, Rat.div_def, Rat.one_mul]; exact Rat.inv_pos.2 h
/-! ### Between -/
/-- What the recursion gives: the simplest number greater than a and, if there is a limit, less than b. -/
def btw : Nat → Rat → Rat → Bool → Rat
  | 0, a, _, _ => a
  | m + 1, a, b, l =>
    if l = true ∧ ¬ ((a.floor : Int) : Rat) + ((1 : Int) : Rat) < b then
      (if a - ((a.floor : Int) : Rat) = 0 then ((a.floor : Int) : Rat) + ((1 : Int) : Rat) / btw m (((1 : Int) : Rat) / (b - ((a.floor : Int) : Rat))) b false
       else ((a.floor : Int) : Rat) + ((1 : Int) : Rat) / btw m (((1 : Int) : Rat) / (b - ((a.floor : Int) : Rat))) (((1 : Int) : Rat) / (a - ((a.floor : Int) : Rat))) true)
    else ((a.floor : Int) : Rat) + ((1 : Int) : Rat)
def BT (m : Nat) (M : Int) (a b : Rat) (l : Bool) : Prop := 0 ≤ a ∧ a.num ≤ M ∧ (a.den : Int) ≤ M ∧ 1 ≤ m ∧ (l = true → a < b ∧ b.num ≤ M ∧ (b.den : Int) ≤ M ∧ a.den + b.den ≤ m)
section
variable {m : Nat} {M : Int} {a b : Rat}
theorem btw_f : btw (m + 1) a b false = ((a.floor : Int) : Rat) + ((1 : Int) : Rat) := by
  unfold btw; rw [if_neg (fun h => by cases h.1)]
theorem btw_n {l : Bool} (h : ((a.floor : Int) : Rat) + ((1 : Int) : Rat) < b) : btw (m + 1) a b l = ((a.floor : Int) : Rat) + ((1 : Int) : Rat) := by
  unfold btw; rw [if_neg (fun g => g.2 h)]
theorem btw_0 (h : ¬((a.floor : Int) : Rat) + ((1 : Int) : Rat) < b) (h0 : a - ((a.floor : Int) : Rat) = 0) : btw (m + 1) a b true = ((a.floor : Int) : Rat) + ((1 : Int) : Rat) / btw m (((1 : Int) : Rat) / (b - ((a.floor : Int) : Rat))) b false := by
  rw [btw, if_pos ⟨rfl, h⟩, if_pos h0]
theorem btw_1 (h : ¬((a.floor : Int) : Rat) + ((1 : Int) : Rat) < b) (h0 : ¬a - ((a.floor : Int) : Rat) = 0) : btw (m + 1) a b true = ((a.floor : Int) : Rat) + ((1 : Int) : Rat) / btw m (((1 : Int) : Rat) / (b - ((a.floor : Int) : Rat))) (((1 : Int) : Rat) / (a - ((a.floor : Int) : Rat))) true := by
  rw [btw, if_pos ⟨rfl, h⟩, if_neg h0]
theorem x_pos (h : a < b) : 0 < b - ((a.floor : Int) : Rat) := by have := fl_lo a; grind
theorem x_le (h : ¬((a.floor : Int) : Rat) + ((1 : Int) : Rat) < b) : b - ((a.floor : Int) : Rat) ≤ 1 := by
  have h1 : b ≤ ((a.floor : Int) : Rat) + ((1 : Int) : Rat) := Rat.not_lt.1 h
  rw [Rat.intCast_one] at h1; grind
theorem y_lt (a : Rat) : a - ((a.floor : Int) : Rat) < 1 := by
  have h1 := fl_hi a
  rw [Rat.intCast_one] at h1; grind
theorem y_pos (h0 : ¬a - ((a.floor : Int) : Rat) = 0) : 0 < a - ((a.floor : Int) : Rat) := by have := fl_lo a; grind
theorem x_nd (h : BT (m + 1) M a b true) (h1 : ¬((a.floor : Int) : Rat) + ((1 : Int) : Rat) < b) :
    (((1 : Int) : Rat) / (b - ((a.floor : Int) : Rat))).num = b.den ∧ ((((1 : Int) : Rat) / (b - ((a.floor : Int) : Rat))).den : Int) ≤ b.den := by
  obtain ⟨_, _, _, _, h5⟩ := h
  obtain ⟨hab, hn, hd, hm⟩ := h5 rfl
  have hx := x_pos hab
  have e := inv_nd hx
  have e2 := sub_int_nd b a.floor
  have e3 := num_le_den (x_le h1)
  rw [e.1, e.2, e2.2]
  rw [e2.2] at e3
  exact ⟨rfl, e3⟩
theorem BT_f (h : BT (m + 1) M a b true) (h1 : ¬((a.floor : Int) : Rat) + ((1 : Int) : Rat) < b) : BT m M (((1 : Int) : Rat) / (b - ((a.floor : Int) : Rat))) b false := by
  have e := x_nd h h1
  obtain ⟨_, _, _, _, h5⟩ := h
  obtain ⟨hab, hn, hd, hm⟩ := h5 rfl
  have p := a.den_pos
  have p2 := b.den_pos
  refine ⟨Rat.le_of_lt (inv_pos' (x_pos hab)), ?_, ?_, by omega, fun h => by cases h⟩
  · rw [e.1]; exact hd
  · omega
theorem BT_t (h : BT (m + 1) M a b true) (h1 : ¬((a.floor : Int) : Rat) + ((1 : Int) : Rat) < b) (h0 : ¬a - ((a.floor : Int) : Rat) = 0) :
    BT m M (((1 : Int) : Rat) / (b - ((a.floor : Int) : Rat))) (((1 : Int) : Rat) / (a - ((a.floor : Int) : Rat))) true := by
  have e := x_nd h h1
  have k := BT_f h h1
  obtain ⟨_, _, h3, _, h5⟩ := h
  obtain ⟨hab, hn, hd, hm⟩ := h5 rfl
  have e2 := inv_nd (y_pos h0)
  have e3 := sub_int_nd a a.floor
  have e4 := num_lt_den (y_lt a)
  rw [e3.2] at e4
  refine ⟨k.1, k.2.1, k.2.2.1, k.2.2.2.1, fun _ => ⟨inv_lt (y_pos h0) (by grind), ?_, ?_, ?_⟩⟩
  · rw [e2.1, e3.2]; exact h3
  · rw [e2.2]; omega
  · have := e2.2; omega
theorem fl_0 (h : 0 ≤ a) : 0 ≤ a.floor := Rat.le_floor_iff.2 (by simpa using h)
theorem btw_pos : ∀ (m : Nat) {a b : Rat} {l : Bool}, BT m M a b l → a < btw m a b l ∧ (l = true → btw m a b l < b) := by
  intro m
  induction m with
  | zero => intro a b l h; exact absurd h.2.2.2.1 (by omega)
  | succ m ih =>
    intro a b l h
    have hf := fl_hi a
    cases l with
    | false => rw [btw_f]; exact ⟨hf, fun h => by cases h⟩
    | true =>
      by_cases h1 : ((a.floor : Int) : Rat) + ((1 : Int) : Rat) < b
      · rw [btw_n h1]; exact ⟨hf, fun _ => h1⟩
      · have hab := (h.2.2.2.2 rfl).1
        have hx := x_pos hab
        have hlo := fl_lo a
        have key : ∀ z : Rat, ((1 : Int) : Rat) / (b - ((a.floor : Int) : Rat)) < z → ((a.floor : Int) : Rat) + ((1 : Int) : Rat) / z < b ∧ 0 < ((1 : Int) : Rat) / z := by
          intro z hz
          have hz0 : 0 < z := by have := inv_pos' hx; grind
          have := inv_lt (inv_pos' hx) hz
          have e : ((1 : Int) : Rat) / (((1 : Int) : Rat) / (b - ((a.floor : Int) : Rat))) = b - ((a.floor : Int) : Rat) := by
            rw [Rat.intCast_one, Rat.div_def, Rat.div_def, Rat.one_mul, Rat.one_mul, Rat.inv_inv]
          rw [e] at this
          exact ⟨by grind, inv_pos' hz0⟩
        by_cases h0 : a - ((a.floor : Int) : Rat) = 0
        · rw [btw_0 h1 h0]
          have := ih (BT_f h h1)
          have k := key _ this.1
          exact ⟨by grind, fun _ => k.1⟩
        · rw [btw_1 h1 h0]
          have := ih (BT_t h h1 h0)
          have k := key _ this.1
          have hy := y_pos h0
          have g := inv_lt (by have := inv_pos' hx; grind) (this.2 rfl)
          have e : ((1 : Int) : Rat) / (((1 : Int) : Rat) / (a - ((a.floor : Int) : Rat))) = a - ((a.floor : Int) : Rat) := by
            rw [Rat.intCast_one, Rat.div_def, Rat.div_def, Rat.one_mul, Rat.one_mul, Rat.inv_inv]
          rw [e] at g
          exact ⟨by grind, fun _ => k.1⟩
theorem inv_inv' (x : Rat) : ((1 : Int) : Rat) / (((1 : Int) : Rat) / x) = x := by
  rw [Rat.intCast_one, Rat.div_def, Rat.div_def, Rat.one_mul, Rat.one_mul, Rat.inv_inv]
/-- A number greater than an integer that is not negative: its parts are not less than those of the next integer. -/
theorem min_1 {n : Int} (h0 : 0 ≤ n) {y : Rat} (h : (n : Rat) < y) : ((n : Rat) + ((1 : Int) : Rat)).den ≤ y.den ∧ ((n : Rat) + ((1 : Int) : Rat)).num ≤ y.num := by
  have e : (n : Rat) + ((1 : Int) : Rat) = ((n + 1 : Int) : Rat) := by rw [Rat.intCast_add]
  rw [e]
  have p := y.den_pos
  have h1 := (Rat.lt_iff _ _).1 h
  rw [Rat.den_intCast, Rat.num_intCast] at h1 ⊢
  refine ⟨p, ?_⟩
  have : n * 1 ≤ n * (y.den : Int) := Int.mul_le_mul_of_nonneg_left (by omega) h0
  omega
/-- The step of the continued fraction. -/
theorem min_2 {n : Int} (h0 : 0 ≤ n) {z w : Rat} (hz : 0 < z) (hw : 0 < w) (h : z.den ≤ w.den ∧ z.num ≤ w.num) :
    ((n : Rat) + ((1 : Int) : Rat) / z).den ≤ ((n : Rat) + ((1 : Int) : Rat) / w).den ∧ ((n : Rat) + ((1 : Int) : Rat) / z).num ≤ ((n : Rat) + ((1 : Int) : Rat) / w).num := by
  have a1 := inv_nd hz
  have a2 := inv_nd hw
  have b1 := add_int_nd (((1 : Int) : Rat) / z) n
  have b2 := add_int_nd (((1 : Int) : Rat) / w) n
  rw [Rat.add_comm] at b1 b2
  rw [b1.1, b1.2, b2.1, b2.2, a1.1, a2.1, a1.2, a2.2]
  have : n * z.num ≤ n * w.num := Int.mul_le_mul_of_nonneg_left h.2 h0
  omega
theorem btw_min : ∀ (m : Nat) {a b : Rat} {l : Bool}, BT m M a b l → ∀ y : Rat, a < y → (l = true → y < b) → (btw m a b l).den ≤ y.den ∧ (btw m a b l).num ≤ y.num := by
  intro m
  induction m with
  | zero => intro a b l h; exact absurd h.2.2.2.1 (by omega)
  | succ m ih =>
    intro a b l h y hy hyb
    have hf := fl_lo a
    have h0 := fl_0 h.1
    have g : ((a.floor : Int) : Rat) < y := by grind
    cases l with
    | false => rw [btw_f]; exact min_1 h0 g
    | true =>
      by_cases h1 : ((a.floor : Int) : Rat) + ((1 : Int) : Rat) < b
      · rw [btw_n h1]; exact min_1 h0 g
      · have hyb := hyb rfl
        have hx := x_pos (h.2.2.2.2 rfl).1
        have hw : 0 < y - ((a.floor : Int) : Rat) := by grind
        have ey : y = ((a.floor : Int) : Rat) + ((1 : Int) : Rat) / (((1 : Int) : Rat) / (y - ((a.floor : Int) : Rat))) := by rw [inv_inv']; grind
        have hl : ((1 : Int) : Rat) / (b - ((a.floor : Int) : Rat)) < ((1 : Int) : Rat) / (y - ((a.floor : Int) : Rat)) := inv_lt hw (by grind)
        by_cases h2 : a - ((a.floor : Int) : Rat) = 0
        · rw [btw_0 h1 h2, ey]
          have k := ih (BT_f h h1) _ hl (fun e => by cases e)
          have k2 := btw_pos m (BT_f h h1)
          have k3 := inv_pos' hx
          exact min_2 h0 (by grind) (inv_pos' hw) k
        · rw [btw_1 h1 h2, ey]
          have hr := inv_lt (y_pos h2) (show a - ((a.floor : Int) : Rat) < y - ((a.floor : Int) : Rat) by grind)
          have k := ih (BT_t h h1 h2) _ hl (fun _ => hr)
          have k2 := btw_pos m (BT_t h h1 h2)
          have k3 := inv_pos' hx
          exact min_2 h0 (by grind) (inv_pos' hw) k
theorem BT_ini {a b : Rat} (h0 : 0 ≤ a) (h : a < b) {N : Nat} (ha : rz a ≤ N) (hb : rz b ≤ N) : ∃ M : Int, sz M ≤ N ∧ BT (a.den + b.den) M a b true := by
  have p := a.den_pos
  have q := b.den_pos
  have h3 : 0 ≤ a.num := Rat.num_nonneg.2 h0
  have h4 : 0 ≤ b.num := Rat.num_nonneg.2 (by grind)
  have z1 := rz_num a; have z2 := rz_den a; have z3 := rz_num b; have z4 := rz_den b
  refine ⟨max (max a.num a.den) (max b.num b.den), ?_, h0, by omega, by omega, by omega, fun _ => ⟨h, by omega, by omega, by omega⟩⟩
  have : max (max a.num (a.den : Int)) (max b.num (b.den : Int)) = a.num ∨ max (max a.num (a.den : Int)) (max b.num (b.den : Int)) = a.den ∨ max (max a.num (a.den : Int)) (max b.num (b.den : Int)) = b.num ∨ max (max a.num (a.den : Int)) (max b.num (b.den : Int)) = b.den := by omega
  rcases this with e | e | e | e <;> rw [e] <;> omega
theorem BT_rz {m : Nat} {M : Int} {a b : Rat} {l : Bool} {N : Nat} (h : BT m M a b l) (hM : sz M ≤ N) : rz a ≤ 2 * N ∧ (l = true → rz b ≤ 2 * N) := by
  have p := a.den_pos
  have q := b.den_pos
  have key : ∀ x : Rat, 0 ≤ x → x.num ≤ M → (x.den : Int) ≤ M → rz x ≤ 2 * N := by
    intro x hx h1 h2
    have h3 : 0 ≤ x.num := Rat.num_nonneg.2 hx
    have s1 : sz x.num ≤ sz M := sz_mono (by omega)
    have s2 : sz x.den ≤ sz M := sz_mono (by omega)
    unfold rz; omega
  refine ⟨key a h.1 h.2.1 h.2.2.1, fun e => ?_⟩
  obtain ⟨h1, h2, h3, _⟩ := h.2.2.2.2 e
  exact key b (by have := h.1; grind) h2 h3
theorem inv_den (a : Rat) : ((a.den : Int) : Rat) / ((a.num : Int) : Rat) = ((1 : Int) : Rat) / a := by
  by_cases h0 : a = 0
  · subst h0; decide +kernel
  · have h := div_div 1 a h0
    rw [show (1 : Rat).num = 1 from rfl, show (1 : Rat).den = 1 from rfl, Int.one_mul, show ((1 : Nat) : Int) = 1 from rfl, Int.one_mul] at h
    rw [h, Rat.intCast_one]
theorem num_nz {a : Rat} (h : ¬a = 0) : a.num ≠ 0 := fun e => h ((num_eq0 a).1 e)
theorem packT {x y : Rat} (h : x = y) : packA [AV.agg [zs x.num, zl x.num, zs x.den, zl x.den]] = R y := by subst h; rfl
instance {a : Rat} {n : Nat} [i : RzB a n] : RzB ((a.floor : Int) : Rat) (n + 1) := ⟨by have := rz_int a.floor; have := sz_floor a; have := i.h; omega⟩
instance : RzB ((1 : Int) : Rat) 2 := ⟨by decide +kernel⟩
theorem btw_rz {m : Nat} {M : Int} {a b : Rat} {l : Bool} (h : BT m M a b l) (hM : sz M ≤ 100000) : rz (btw m a b l) ≤ 2000000 := by
  have hz := BT_rz h hM
  have hp := btw_pos m h
  have h0 : 0 ≤ (btw m a b l).num := Rat.num_nonneg.2 (by have := hp.1; have := h.1; grind)
  have key : ∀ y : Rat, a < y → (l = true → y < b) → rz (btw m a b l) ≤ rz y := by
    intro y h1 h2
    have k := btw_min m h y h1 h2
    have s1 : sz (btw m a b l).num ≤ sz y.num := sz_mono (by omega)
    have s2 : sz ((btw m a b l).den : Int) ≤ sz (y.den : Int) := sz_mono (by omega)
    unfold rz; omega
  have i_a : RzB a 200000 := ⟨hz.1⟩
  cases l with
  | false =>
    have e := key (a + ((1 : Int) : Rat)) (by rw [Rat.intCast_one]; grind) (fun e => by cases e)
    have : rz (a + ((1 : Int) : Rat)) ≤ 2000000 := rzb (by omega)
    omega
  | true =>
    have i_b : RzB b 200000 := ⟨hz.2 rfl⟩
    have hab := (h.2.2.2.2 rfl).1
    have e := key ((a + b) / (((1 : Int) : Rat) + ((1 : Int) : Rat))) (by rw [Rat.intCast_one]; grind) (fun _ => by rw [Rat.intCast_one]; grind)
    have : rz ((a + b) / (((1 : Int) : Rat) + ((1 : Int) : Rat))) ≤ 2000000 := rzb (by omega)
    omega
theorem inv_p2 {m : Nat} {M : Int} {a b : Rat} {l : Bool} (h : BT m M a b l) (hM : sz M ≤ 100000) : rz (btw m a b l) ≤ 10000000 ∧ ¬btw m a b l = 0 := by
  have := btw_rz h hM
  have hp := (btw_pos m h).1
  have := h.1
  exact ⟨by omega, by grind⟩
theorem inv_p3 {m : Nat} {M : Int} {a b x : Rat} {l : Bool} (hx : rz x ≤ 100000000) (h : BT m M a b l) (hM : sz M ≤ 100000) : rz x ≤ 100000000 ∧ rz (((1 : Int) : Rat) / btw m a b l) ≤ 100000000 := by
  have i : RzB (btw m a b l) 2000000 := ⟨btw_rz h hM⟩
  exact ⟨hx, rzb (by omega)⟩
theorem inv_p1 {a b : Rat} (hz : rz (b - ((a.floor : Int) : Rat)) ≤ 10000000) (h : a < b) : rz (b - ((a.floor : Int) : Rat)) ≤ 10000000 ∧ ¬b - ((a.floor : Int) : Rat) = 0 := by
  have := x_pos h
  exact ⟨hz, by grind⟩
/-- The simplest number between two others. -/
def smp (a b : Rat) : Rat := if a < 0 ∧ 0 < b then 0 else if a < 0 then -btw (a.den + b.den) (-b) (-a) true else btw (a.den + b.den) a b true
theorem smp_0 {a b : Rat} {q : AV} (h1 : a < 0) (h2 : 0 < b) (e1 : a < b → q = .tup [R (smp a b), .int .i64 0]) : packA [R ((0 : Int) : Rat), AV.c (Cell.v (.int .i64 0))] = q := by
  rw [e1 (by grind)]; unfold smp; rw [if_pos ⟨h1, h2⟩]; rfl
theorem smp_n {a b : Rat} {q : AV} (hab : a < b) (h1 : a < 0) (h2 : ¬0 < b) (e1 : a < b → q = .tup [R (smp a b), .int .i64 0]) : packA [R (-btw (a.den + b.den) (-b) (-a) true), AV.c (Cell.v (.int .i64 0))] = q := by
  rw [e1 hab]; unfold smp; rw [if_neg (fun h => h2 h.2), if_pos h1]; rfl
theorem smp_n' {a b : Rat} {q : AV} (hab : a < b) (h1 : a < 0) (h2 : ¬0 < b) (e1 : a < b → q = .tup [R (smp a b), .int .i64 0]) : packA [R (-btw ((-b).den + (-a).den) (-b) (-a) true), AV.c (Cell.v (.int .i64 0))] = q := by
  rw [Rat.neg_den, Rat.neg_den, Nat.add_comm]; exact smp_n hab h1 h2 e1
theorem smp_p {a b : Rat} {q : AV} (hab : a < b) (h1 : ¬a < 0) (e1 : a < b → q = .tup [R (smp a b), .int .i64 0]) : packA [R (btw (a.den + b.den) a b true), AV.c (Cell.v (.int .i64 0))] = q := by
  rw [e1 hab]; unfold smp; rw [if_neg (fun h => h1 h.1), if_neg h1]; rfl
theorem smp_b {a b : Rat} (hab : a < b) (h2 : ¬0 < b) (ha : rz a ≤ 100000) (hb : rz b ≤ 100000) : 0 ≤ -b ∧ -b < -a ∧ rz (-b) ≤ 100000 ∧ rz (-a) ≤ 100000 := by
  rw [rz_neg, rz_neg]; exact ⟨by grind, by grind, hb, ha⟩
theorem smp_c {a b : Rat} (hab : a < b) (h2 : ¬a < 0) (ha : rz a ≤ 100000) (hb : rz b ≤ 100000) : 0 ≤ a ∧ a < b ∧ rz a ≤ 100000 ∧ rz b ≤ 100000 := ⟨by grind, hab, ha, hb⟩
theorem btw_sz {a b : Rat} (h0 : 0 ≤ a) (h : a < b) (ha : rz a ≤ 100000) (hb : rz b ≤ 100000) : rz (btw (a.den + b.den) a b true) ≤ 2000000 := by
  obtain ⟨M, hM, k⟩ := BT_ini h0 h ha hb
  exact btw_rz k hM
theorem rfs_0 {m : Nat} {M : Int} {a b : Rat} (h : BT (m + 1) M a b true) (h1 : ¬((a.floor : Int) : Rat) + ((1 : Int) : Rat) < b) (h2 : a = ((a.floor : Int) : Rat)) :
    ((a.floor : Int) : Rat) + ((1 : Int) : Rat) / (((((1 : Int) : Rat) / (b - ((a.floor : Int) : Rat))).floor : Int) + ((1 : Int) : Rat)) = btw (m + 1) a b true := by
  have k := (BT_f h h1).2.2.2.1
  obtain ⟨m', rfl⟩ : ∃ m', m = m' + 1 := ⟨m - 1, by omega⟩
  rw [btw_0 h1 (by grind), btw_f]
theorem x_nz {a b : Rat} (h : a < b) : ¬b - ((a.floor : Int) : Rat) = 0 := by have := x_pos h; grind
theorem fl1_nz {a b : Rat} (h : a < b) : ¬((((1 : Int) : Rat) / (b - ((a.floor : Int) : Rat))).floor : Rat) + ((1 : Int) : Rat) = 0 := by
  have h1 := fl_0 (Rat.le_of_lt (inv_pos' (x_pos h)))
  have h2 : ((0 : Int) : Rat) ≤ (((((1 : Int) : Rat) / (b - ((a.floor : Int) : Rat))).floor : Int) : Rat) := Rat.intCast_le_intCast.2 h1
  rw [Rat.intCast_zero] at h2
  rw [Rat.intCast_one]; grind
theorem ov_2 {m : Nat} {M : Int} {a b : Rat} {l : Bool} (h : BT m M a b l) (hM : sz M ≤ 100000) : rz (btw m a b l) ≤ 4000000 ∧ ¬btw m a b l = 0 := ⟨Nat.le_trans (btw_rz h hM) (by decide), (inv_p2 h hM).2⟩
theorem sub_nz {a : Rat} (h : ¬a = ((a.floor : Int) : Rat)) : ¬a - ((a.floor : Int) : Rat) = 0 := by grind
end
end Go.Sw

namespace Go.Proofs.YtghlkihmnopenaaGreatDoor
open Go Go.RowKit Go.Sw
set_option linter.unusedVariables false
set_option maxRecDepth 100000
set_option maxHeartbeats 8000000
set_option synthInstance.maxSize 4000
set_option synthInstance.maxHeartbeats 400000
instance w_inv (a : Rat) : DenI Tryz.prog 100 [R a] (rz a ≤ 10000000 ∧ ¬a = 0) (R (((1 : Int) : Rat) / a)) := ⟨fun hp => by
 have i_a : RzB a 10000000 := ⟨hp.1⟩
 have hpre := hp.2
 all_goals refine den_of (τ := tab) tab_ok mixed_ Tryz.func100 rfl (by kernel_rfl) (by kernel_rfl) (by kernel_rfl) ?_
 all_goals (repeat' ((try (conv => whnf)); first
  | refine call_0 ?_
  | refine call_i ?_ ?_
  | refine call_c ?_ (fun _ => ?_) (fun _ => ?_)
  | (with_reducible refine onB_t ?_)
  | (with_reducible refine onB_f ?_)
  | (with_reducible refine onB_d (fun _ => ?_) (fun _ => ?_))
  | (with_reducible refine onB_n (fun _ => ?_) (fun _ => ?_))
  | refine OnB.mk (fun _ => ?_) (fun _ => ?_)
  | refine obl_i ?_ ?_
  | refine Drw.mk (by kernel_rfl) ?_
  | refine mks_i ?_ ?_
  | refine slp_i ?_ ?_
  | (with_reducible refine elem_u ?_ ?_)
  | (with_reducible refine elem_0 ?_)
  | (with_reducible refine elem_1 ?_)
  | refine Ends.mk ?_))
 all_goals (try refine Pr.mk ?_)
 all_goals (try simp only [sgnI_lt0, sgnI_zero, sgnI_le0, sgnI_gt0, sgnI_ge0, sgnI_eq1, cmpI_lt0, cmpI_gt0, cmpI_eq0, cmpI_le0, cmpI_ge0, cmpR_of, sgnR_of, sgnR_lt0, sgnR_eq0, sgnR_gt0, sgnR_le0, sgnR_ge0, sgnR_eq1, cmpR_lt0, cmpR_gt0, cmpR_eq0, cmpR_le0, cmpR_ge0] at *)
 all_goals first
  | with_reducible exact packT (inv_den a)
  | (refine ⟨num_nz (by assumption), ?_, ?_⟩ <;> exact szb (by omega))
  | ((repeat' apply And.intro) <;> first | assumption | exact rzb (by omega) | exact szb (by omega) | exact Int.mul_ne_zero (den_ne _) (den_ne _))
  | skip⟩

theorem btw_den (M : Int) (hM : sz M ≤ 100000) : ∀ (m : Nat) (a b : Rat) (l : Bool), BT m M a b l → Den Tryz.prog 68 [R a, R b, .bool l] (R (btw m a b l)) := by
 intro m
 induction m with
 | zero => intro a b l hp; exact absurd hp.2.2.2.1 (by omega)
 | succ m ih =>
  intro a b l hp
  haveI ih' : ∀ (a b : Rat) (l : Bool), DenI Tryz.prog 68 [R a, R b, .bool l] (BT m M a b l) (R (btw m a b l)) := fun a b l => ⟨fun h => ih a b l h⟩
  have hz := BT_rz hp hM
  have i_a : RzB a 200000 := ⟨hz.1⟩
  cases l with
  | false =>
   refine den_of (τ := tab) tab_ok mixed_ Tryz.func68 rfl (by kernel_rfl) (by kernel_rfl) (by kernel_rfl) ?_
   all_goals (repeat' ((try (conv => whnf)); first
    | refine call_0 ?_
    | refine call_i ?_ ?_
    | refine call_c ?_ (fun _ => ?_) (fun _ => ?_)
    | (with_reducible refine onB_t ?_)
    | (with_reducible refine onB_f ?_)
    | (with_reducible refine onB_hy rfl ?_)
    | (with_reducible refine onB_hn rfl ?_)
    | (with_reducible refine onB_d (fun _ => ?_) (fun _ => ?_))
    | (with_reducible refine onB_n (fun _ => ?_) (fun _ => ?_))
    | refine OnB.mk (fun _ => ?_) (fun _ => ?_)
    | refine obl_i ?_ ?_
    | refine Drw.mk (by kernel_rfl) ?_
    | refine mks_i ?_ ?_
    | refine slp_i ?_ ?_
    | (with_reducible refine elem_u ?_ ?_)
    | (with_reducible refine elem_0 ?_)
    | (with_reducible refine elem_1 ?_)
    | refine Ends.mk ?_))
   all_goals (try refine Pr.mk ?_)
   all_goals (try simp only [sgnI_lt0, sgnI_zero, sgnI_le0, sgnI_gt0, sgnI_ge0, sgnI_eq1, cmpI_lt0, cmpI_gt0, cmpI_eq0, cmpI_le0, cmpI_ge0, cmpR_of, sgnR_of, sgnR_lt0, sgnR_eq0, sgnR_gt0, sgnR_le0, sgnR_ge0, sgnR_eq1, cmpR_lt0, cmpR_gt0, cmpR_eq0, cmpR_le0, cmpR_ge0] at *)
   all_goals first
    | with_reducible exact packT btw_f.symm
    | with_reducible exact packT (btw_n (by assumption)).symm
    | with_reducible exact packT (btw_0 (by assumption) (by assumption)).symm
    | with_reducible exact packT (btw_1 (by assumption) (by assumption)).symm
    | exact BT_f hp (by assumption)
    | exact BT_t hp (by assumption) (by assumption)
    | ((repeat' apply And.intro) <;> first | assumption | exact rzb (by omega) | exact szb (by omega) | exact Int.mul_ne_zero (den_ne _) (den_ne _))
    | omega
    | skip
  | true =>
   have i_b : RzB b 200000 := ⟨hz.2 rfl⟩
   have hab := (hp.2.2.2.2 rfl).1
   refine den_of (τ := tab) tab_ok mixed_ Tryz.func68 rfl (by kernel_rfl) (by kernel_rfl) (by kernel_rfl) ?_
   all_goals (repeat' ((try (conv => whnf)); first
    | refine call_0 ?_
    | refine call_i ?_ ?_
    | refine call_c ?_ (fun _ => ?_) (fun _ => ?_)
    | (with_reducible refine onB_t ?_)
    | (with_reducible refine onB_f ?_)
    | (with_reducible refine onB_hy rfl ?_)
    | (with_reducible refine onB_hn rfl ?_)
    | (with_reducible refine onB_d (fun _ => ?_) (fun _ => ?_))
    | (with_reducible refine onB_n (fun _ => ?_) (fun _ => ?_))
    | refine OnB.mk (fun _ => ?_) (fun _ => ?_)
    | refine obl_i ?_ ?_
    | refine Drw.mk (by kernel_rfl) ?_
    | refine mks_i ?_ ?_
    | refine slp_i ?_ ?_
    | (with_reducible refine elem_u ?_ ?_)
    | (with_reducible refine elem_0 ?_)
    | (with_reducible refine elem_1 ?_)
    | refine Ends.mk ?_))
   all_goals (try refine Pr.mk ?_)
   all_goals (try simp only [sgnI_lt0, sgnI_zero, sgnI_le0, sgnI_gt0, sgnI_ge0, sgnI_eq1, cmpI_lt0, cmpI_gt0, cmpI_eq0, cmpI_le0, cmpI_ge0, cmpR_of, sgnR_of, sgnR_lt0, sgnR_eq0, sgnR_gt0, sgnR_le0, sgnR_ge0, sgnR_eq1, cmpR_lt0, cmpR_gt0, cmpR_eq0, cmpR_le0, cmpR_ge0] at *)
   all_goals first
    | with_reducible exact packT btw_f.symm
    | with_reducible exact packT (btw_n (by assumption)).symm
    | with_reducible exact packT (btw_0 (by assumption) (by assumption)).symm
    | with_reducible exact packT (btw_1 (by assumption) (by assumption)).symm
    | exact BT_f hp (by assumption)
    | exact BT_t hp (by assumption) (by assumption)
    | exact inv_p1 (rzb (by omega)) hab
    | exact inv_p2 (BT_f hp (by assumption)) hM
    | exact inv_p2 (BT_t hp (by assumption) (by assumption)) hM
    | exact inv_p3 (rzb (by omega)) (BT_f hp (by assumption)) hM
    | exact inv_p3 (rzb (by omega)) (BT_t hp (by assumption) (by assumption)) hM
    | ((repeat' apply And.intro) <;> first | assumption | exact rzb (by omega) | exact szb (by omega) | exact Int.mul_ne_zero (den_ne _) (den_ne _))
    | omega
    | skip

instance w_btw (a b : Rat) : DenI Tryz.prog 68 [R a, R b, .bool true] (0 ≤ a ∧ a < b ∧ rz a ≤ 100000 ∧ rz b ≤ 100000) (R (btw (a.den + b.den) a b true)) := ⟨fun hp => by
 obtain ⟨M, hM, h⟩ := BT_ini hp.1 hp.2.1 hp.2.2.1 hp.2.2.2
 exact btw_den M hM _ _ _ _ h⟩

end Go.Proofs.YtghlkihmnopenaaGreatDoor

namespace Go.Proofs.YtghlkihmnopenaaGreatDoor
open Go Go.RowKit Go.Sw
set_option linter.unusedVariables false
set_option maxRecDepth 100000
set_option maxHeartbeats 8000000
set_option synthInstance.maxSize 4000
set_option synthInstance.maxHeartbeats 400000
instance w_smp (a b : Rat) : DenC Tryz.prog 27 [R a, R b] (rz a ≤ 100000 ∧ rz b ≤ 100000) (a < b) (.tup [R (smp a b), .int .i64 0]) (.tup [ZR, .int .i64 1]) := ⟨denC fun hp q e1 e2 => by
 have i_a : RzB a 100000 := ⟨hp.1⟩
 have i_b : RzB b 100000 := ⟨hp.2⟩
 all_goals refine den_of (τ := tab) tab_ok mixed_ Tryz.func27 rfl (by kernel_rfl) (by kernel_rfl) (by kernel_rfl) ?_
 all_goals (repeat' ((try (conv => whnf)); first
  | refine call_0 ?_
  | refine call_i ?_ ?_
  | refine call_c ?_ (fun _ => ?_) (fun _ => ?_)
  | (with_reducible refine onB_t ?_)
  | (with_reducible refine onB_f ?_)
  | (with_reducible refine onB_d (fun _ => ?_) (fun _ => ?_))
  | (with_reducible refine onB_n (fun _ => ?_) (fun _ => ?_))
  | refine OnB.mk (fun _ => ?_) (fun _ => ?_)
  | refine obl_i ?_ ?_
  | refine Drw.mk (by kernel_rfl) ?_
  | refine mks_i ?_ ?_
  | refine slp_i ?_ ?_
  | (with_reducible refine elem_u ?_ ?_)
  | (with_reducible refine elem_0 ?_)
  | (with_reducible refine elem_1 ?_)
  | refine Ends.mk ?_))
 all_goals (try refine Pr.mk ?_)
 all_goals (try simp only [sgnI_lt0, sgnI_zero, sgnI_le0, sgnI_gt0, sgnI_ge0, sgnI_eq1, cmpI_lt0, cmpI_gt0, cmpI_eq0, cmpI_le0, cmpI_ge0, cmpR_of, sgnR_of, sgnR_lt0, sgnR_eq0, sgnR_gt0, sgnR_le0, sgnR_ge0, sgnR_eq1, cmpR_lt0, cmpR_gt0, cmpR_eq0, cmpR_le0, cmpR_ge0] at *)
 all_goals first
  | with_reducible exact smp_0 (by assumption) (by assumption) e1
  | with_reducible exact smp_n (by grind) (by assumption) (by assumption) e1
  | with_reducible exact smp_n' (by grind) (by assumption) (by assumption) e1
  | with_reducible exact smp_p (by grind) (by assumption) e1
  | (rw [e2 (by grind)]; rfl)
  | exact smp_b (by grind) (by grind) hp.1 hp.2
  | exact smp_c (by grind) (by assumption) hp.1 hp.2
  | (exfalso; grind)
  | (have z := smp_b (a := a) (b := b) (by grind) (by grind) hp.1 hp.2; have z2 := btw_sz z.1 z.2.1 z.2.2.1 z.2.2.2; omega)
  | decide
  | ((repeat' apply And.intro) <;> first | assumption | exact rzb (by omega) | exact szb (by omega) | exact Int.mul_ne_zero (den_ne _) (den_ne _))
  | skip⟩

instance w_fri (n : Int) : DenI Tryz.prog 17 [Z n] (True) (R (n : Rat)) := ⟨fun hp => by
 refine den_of (τ := tab) tab_ok mixed_ Tryz.func17 rfl (by kernel_rfl) (by kernel_rfl) (by kernel_rfl) ?_
 all_goals (repeat' ((try (conv => whnf)); first
  | refine call_0 ?_
  | refine call_i ?_ ?_
  | refine call_c ?_ (fun _ => ?_) (fun _ => ?_)
  | (with_reducible refine onB_t ?_)
  | (with_reducible refine onB_f ?_)
  | (with_reducible refine onB_d (fun _ => ?_) (fun _ => ?_))
  | (with_reducible refine onB_n (fun _ => ?_) (fun _ => ?_))
  | refine OnB.mk (fun _ => ?_) (fun _ => ?_)
  | refine obl_i ?_ ?_
  | refine Drw.mk (by kernel_rfl) ?_
  | refine mks_i ?_ ?_
  | refine slp_i ?_ ?_
  | (with_reducible refine elem_u ?_ ?_)
  | (with_reducible refine elem_0 ?_)
  | (with_reducible refine elem_1 ?_)
  | refine Ends.mk ?_))
 all_goals (try refine Pr.mk ?_)
 all_goals first
  | rfl
  | skip⟩

instance m_over2 (a b : Rat) : DenI Tryz.prog 101 [R a, R b] (rz a ≤ 4000000 ∧ rz b ≤ 4000000 ∧ ¬b = 0) (R (a / b)) := ⟨fun hp => by
 have i_a : RzB a 4000000 := ⟨hp.1⟩
 have i_b : RzB b 4000000 := ⟨hp.2.1⟩
 have hpre := hp.2.2
 all_goals refine den_of (τ := tab) tab_ok mixed_ Tryz.func101 rfl (by kernel_rfl) (by kernel_rfl) (by kernel_rfl) ?_
 all_goals (repeat' ((try (conv => whnf)); first
  | refine call_0 ?_
  | refine call_i ?_ ?_
  | refine call_c ?_ (fun _ => ?_) (fun _ => ?_)
  | (with_reducible refine onB_t ?_)
  | (with_reducible refine onB_f ?_)
  | (with_reducible refine onB_d (fun _ => ?_) (fun _ => ?_))
  | (with_reducible refine onB_n (fun _ => ?_) (fun _ => ?_))
  | refine OnB.mk (fun _ => ?_) (fun _ => ?_)
  | refine obl_i ?_ ?_
  | refine Drw.mk (by kernel_rfl) ?_
  | refine mks_i ?_ ?_
  | refine slp_i ?_ ?_
  | (with_reducible refine elem_u ?_ ?_)
  | (with_reducible refine elem_0 ?_)
  | (with_reducible refine elem_1 ?_)
  | refine Ends.mk ?_))
 all_goals (try refine Pr.mk ?_)
 all_goals (try simp only [sgnI_lt0, sgnI_zero, sgnI_le0, sgnI_gt0, sgnI_ge0, sgnI_eq1, cmpI_lt0, cmpI_gt0, cmpI_eq0, cmpI_le0, cmpI_ge0, cmpR_of, sgnR_of, sgnR_lt0, sgnR_eq0, sgnR_gt0, sgnR_le0, sgnR_ge0, sgnR_eq1, cmpR_lt0, cmpR_gt0, cmpR_eq0, cmpR_le0, cmpR_ge0] at *)
 all_goals first
  | rfl
  | (simp only [redB, redC, mkA, mkB, mkC, cooC, ptC, *, true_or, or_true, if_true, if_false, or_self, and_self, and_true, true_and, and_false, false_and, not_true, not_false_iff, Bool.false_eq_true, decide_true, decide_false, Bool.or_true, Bool.true_or, Bool.or_false, Bool.false_or]; rfl)
  | ((repeat' apply And.intro) <;> first | assumption | exact rzb (by omega) | exact szb (by omega) | exact Int.mul_ne_zero (den_ne _) (den_ne _))
  | (exfalso; simp_all; done)
  | (exfalso; grind)
  | omega
  | ((repeat' apply And.intro) <;> first | assumption | exact rzb (by omega) | exact szb (by omega) | exact Int.mul_ne_zero (den_ne _) (den_ne _))
  | skip⟩

end Go.Proofs.YtghlkihmnopenaaGreatDoor

namespace Go.Proofs.YtghlkihmnopenaaGreatDoor
open Go Go.RowKit Go.Sw
set_option linter.unusedVariables false
set_option maxRecDepth 100000
set_option maxHeartbeats 8000000
set_option synthInstance.maxSize 4000
set_option synthInstance.maxHeartbeats 400000
theorem sim_den (M : Int) (hM : sz M ≤ 100000) : ∀ (m : Nat) (a b : Rat), BT m M a b true → Den Tryz.prog 69 [R a, R b] (R (btw m a b true)) := by
 intro m
 induction m with
 | zero => intro a b hp; exact absurd hp.2.2.2.1 (by omega)
 | succ m ih =>
  intro a b hp
  haveI ih' : ∀ (a b : Rat), DenI Tryz.prog 69 [R a, R b] (BT m M a b true) (R (btw m a b true)) := fun a b => ⟨fun h => ih a b h⟩
  have hz := BT_rz hp hM
  have i_a : RzB a 200000 := ⟨hz.1⟩
  have i_b : RzB b 200000 := ⟨hz.2 rfl⟩
  have hab := (hp.2.2.2.2 rfl).1
  refine den_of (τ := tab) tab_ok mixed_ Tryz.func69 rfl (by kernel_rfl) (by kernel_rfl) (by kernel_rfl) ?_
  all_goals (repeat' ((try (conv => whnf)); first
   | refine call_0 ?_
   | refine call_i ?_ ?_
   | refine call_c ?_ (fun _ => ?_) (fun _ => ?_)
   | (with_reducible refine onB_t ?_)
   | (with_reducible refine onB_f ?_)
   | (with_reducible refine onB_hy rfl ?_)
   | (with_reducible refine onB_hn rfl ?_)
   | (with_reducible refine onB_d (fun _ => ?_) (fun _ => ?_))
   | (with_reducible refine onB_n (fun _ => ?_) (fun _ => ?_))
   | refine OnB.mk (fun _ => ?_) (fun _ => ?_)
   | refine obl_i ?_ ?_
   | refine Drw.mk (by kernel_rfl) ?_
   | refine mks_i ?_ ?_
   | refine slp_i ?_ ?_
   | (with_reducible refine elem_u ?_ ?_)
   | (with_reducible refine elem_0 ?_)
   | (with_reducible refine elem_1 ?_)
   | refine Ends.mk ?_))
  all_goals (try refine Pr.mk ?_)
  all_goals (try simp only [sgnI_lt0, sgnI_zero, sgnI_le0, sgnI_gt0, sgnI_ge0, sgnI_eq1, cmpI_lt0, cmpI_gt0, cmpI_eq0, cmpI_le0, cmpI_ge0, cmpR_of, sgnR_of, sgnR_lt0, sgnR_eq0, sgnR_gt0, sgnR_le0, sgnR_ge0, sgnR_eq1, cmpR_lt0, cmpR_gt0, cmpR_eq0, cmpR_le0, cmpR_ge0] at *)
  all_goals first
   | with_reducible exact packT (btw_n (by assumption)).symm
   | with_reducible exact packT (rfs_0 hp (by assumption) (by assumption))
   | with_reducible exact packT (btw_1 (by assumption) (sub_nz (by assumption))).symm
   | exact BT_f hp (by assumption)
   | exact BT_t hp (by assumption) (sub_nz (by assumption))
   | exact inv_p1 (rzb (by omega)) hab
   | exact inv_p2 (BT_f hp (by assumption)) hM
   | exact inv_p2 (BT_t hp (by assumption) (sub_nz (by assumption))) hM
   | exact inv_p3 (rzb (by omega)) (BT_f hp (by assumption)) hM
   | exact inv_p3 (rzb (by omega)) (BT_t hp (by assumption) (sub_nz (by assumption))) hM
   | (refine ⟨rzb (by omega), rzb (by omega), ?_⟩; first | exact x_nz hab | exact fl1_nz hab | exact sub_nz (by assumption))
   | exact ⟨rzb (by omega), ov_2 (BT_t hp (by assumption) (sub_nz (by assumption))) hM⟩
   | ((repeat' apply And.intro) <;> first | assumption | exact rzb (by omega) | exact szb (by omega) | exact Int.mul_ne_zero (den_ne _) (den_ne _))
   | omega
   | skip

instance w_sim (a b : Rat) : DenI Tryz.prog 69 [R a, R b] (0 ≤ a ∧ a < b ∧ rz a ≤ 100000 ∧ rz b ≤ 100000) (R (btw (a.den + b.den) a b true)) := ⟨fun hp => by
 obtain ⟨M, hM, h⟩ := BT_ini hp.1 hp.2.1 hp.2.2.1 hp.2.2.2
 exact sim_den M hM _ _ _ h⟩

end Go.Proofs.YtghlkihmnopenaaGreatDoor

namespace Go.Proofs.YtghlkihmnopenaaGreatDoor
open Go Go.RowKit Go.Sw
set_option linter.unusedVariables false
set_option maxRecDepth 100000
set_option maxHeartbeats 8000000
set_option synthInstance.maxSize 4000
set_option synthInstance.maxHeartbeats 400000
theorem sim2_den (a b : Rat) (hp : 0 ≤ a ∧ a < b ∧ rz a ≤ 100000 ∧ rz b ≤ 100000) : Den Tryz.prog 28 [R a, R b] (.tup [R (btw (a.den + b.den) a b true), .int .i64 0]) := by
 have i_a : RzB a 100000 := ⟨hp.2.2.1⟩
 have i_b : RzB b 100000 := ⟨hp.2.2.2⟩
 refine den_of (τ := tab) tab_ok mixed_ Tryz.func28 rfl (by kernel_rfl) (by kernel_rfl) (by kernel_rfl) ?_
 all_goals (repeat' ((try (conv => whnf)); first
  | refine call_0 ?_
  | refine call_i ?_ ?_
  | refine call_c ?_ (fun _ => ?_) (fun _ => ?_)
  | (with_reducible refine onB_t ?_)
  | (with_reducible refine onB_f ?_)
  | (with_reducible refine onB_hy rfl ?_)
  | (with_reducible refine onB_hn rfl ?_)
  | (with_reducible refine onB_d (fun _ => ?_) (fun _ => ?_))
  | (with_reducible refine onB_n (fun _ => ?_) (fun _ => ?_))
  | refine OnB.mk (fun _ => ?_) (fun _ => ?_)
  | refine obl_i ?_ ?_
  | refine Drw.mk (by kernel_rfl) ?_
  | refine mks_i ?_ ?_
  | refine slp_i ?_ ?_
  | (with_reducible refine elem_u ?_ ?_)
  | (with_reducible refine elem_0 ?_)
  | (with_reducible refine elem_1 ?_)
  | refine Ends.mk ?_))
 all_goals (try refine Pr.mk ?_)
 all_goals (try simp only [sgnI_lt0, sgnI_zero, sgnI_le0, sgnI_gt0, sgnI_ge0, sgnI_eq1, cmpI_lt0, cmpI_gt0, cmpI_eq0, cmpI_le0, cmpI_ge0, cmpR_of, sgnR_of, sgnR_lt0, sgnR_eq0, sgnR_gt0, sgnR_le0, sgnR_ge0, sgnR_eq1, cmpR_lt0, cmpR_gt0, cmpR_eq0, cmpR_le0, cmpR_ge0] at *)
 all_goals first
  | rfl
  | exact hp
  | (exfalso; grind)
  | ((repeat' apply And.intro) <;> first | assumption | exact rzb (by omega) | exact szb (by omega) | exact Int.mul_ne_zero (den_ne _) (den_ne _))
  | omega
  | skip

instance w_smp2 (a b : Rat) : DenC Tryz.prog 28 [R a, R b] (rz a ≤ 100000 ∧ rz b ≤ 100000) (a < b) (.tup [R (smp a b), .int .i64 0]) (.tup [ZR, .int .i64 1]) := ⟨denC fun hp q e1 e2 => by
 have i_a : RzB a 100000 := ⟨hp.1⟩
 have i_b : RzB b 100000 := ⟨hp.2⟩
 haveI ih : ∀ a b : Rat, DenI Tryz.prog 28 [R a, R b] (0 ≤ a ∧ a < b ∧ rz a ≤ 100000 ∧ rz b ≤ 100000) (.tup [R (btw (a.den + b.den) a b true), .int .i64 0]) := fun a b => ⟨sim2_den a b⟩
 all_goals refine den_of (τ := tab) tab_ok mixed_ Tryz.func28 rfl (by kernel_rfl) (by kernel_rfl) (by kernel_rfl) ?_
 all_goals (repeat' ((try (conv => whnf)); first
  | refine call_0 ?_
  | refine call_i ?_ ?_
  | refine call_c ?_ (fun _ => ?_) (fun _ => ?_)
  | (with_reducible refine onB_t ?_)
  | (with_reducible refine onB_f ?_)
  | (with_reducible refine onB_hy rfl ?_)
  | (with_reducible refine onB_hn rfl ?_)
  | (with_reducible refine onB_d (fun _ => ?_) (fun _ => ?_))
  | (with_reducible refine onB_n (fun _ => ?_) (fun _ => ?_))
  | refine OnB.mk (fun _ => ?_) (fun _ => ?_)
  | refine obl_i ?_ ?_
  | refine Drw.mk (by kernel_rfl) ?_
  | refine mks_i ?_ ?_
  | refine slp_i ?_ ?_
  | (with_reducible refine elem_u ?_ ?_)
  | (with_reducible refine elem_0 ?_)
  | (with_reducible refine elem_1 ?_)
  | refine Ends.mk ?_))
 all_goals (try refine Pr.mk ?_)
 all_goals (try simp only [sgnI_lt0, sgnI_zero, sgnI_le0, sgnI_gt0, sgnI_ge0, sgnI_eq1, cmpI_lt0, cmpI_gt0, cmpI_eq0, cmpI_le0, cmpI_ge0, cmpR_of, sgnR_of, sgnR_lt0, sgnR_eq0, sgnR_gt0, sgnR_le0, sgnR_ge0, sgnR_eq1, cmpR_lt0, cmpR_gt0, cmpR_eq0, cmpR_le0, cmpR_ge0] at *)
 all_goals (try clear ih)
 all_goals first
  | with_reducible exact smp_0 (by assumption) (by assumption) e1
  | with_reducible exact smp_n (by grind) (by assumption) (by assumption) e1
  | with_reducible exact smp_n' (by grind) (by assumption) (by assumption) e1
  | with_reducible exact smp_p (by grind) (by assumption) e1
  | (rw [e2 (by grind)]; rfl)
  | exact smp_b (by grind) (by grind) hp.1 hp.2
  | exact smp_c (by grind) (by assumption) hp.1 hp.2
  | (exfalso; grind)
  | (have z := smp_b (a := a) (b := b) (by grind) (by grind) hp.1 hp.2; have z2 := btw_sz z.1 z.2.1 z.2.2.1 z.2.2.2; omega)
  | ((repeat' apply And.intro) <;> first | assumption | exact rzb (by omega) | exact szb (by omega) | exact Int.mul_ne_zero (den_ne _) (den_ne _))
  | omega
  | skip⟩

end Go.Proofs.YtghlkihmnopenaaGreatDoor

namespace Go.Sw
open Go
set_option linter.unusedVariables false
/-- Whether a text is one of a fraction. -/
def prsOk (s : ByteArray) : Bool :=
  decide (parE (ctA s sB) = 0) && (decide (ixS s sB < 0) || (decide (parE (ctB s sB) = 0) && decide (1 < parN (ctB s sB)) && decide (((Nat.gcd (parN (ctA s sB)).natAbs (parN (ctB s sB)).natAbs : Nat) : Int) = 1)))
def prsN (s : ByteArray) : Int := if prsOk s = true then parN (ctA s sB) else 0
def prsD (s : ByteArray) : Int := if prsOk s = true then (if ixS s sB < 0 then 1 else parN (ctB s sB)) else 0
def prsE (s : ByteArray) : Int := if prsOk s = true then 0 else 2
@[reducible] def prsR (s : ByteArray) : AV := .tup [.agg [zs (prsN s), zl (prsN s), zs (prsD s), zl (prsD s)], .int .i64 (prsE s)]
theorem parN_sz (s : ByteArray) : sz (parN s) ≤ 65536 := by
  unfold parN
  split
  · rename_i h
    unfold okI at h
    simp only [Bool.and_eq_true, decide_eq_true_eq] at h
    have hd := decV_lt (l := bsL (cutP s mB)) fun c hc => dgts h.2.2.2 c hc
    have hs := cutP_size s mB
    rw [bsL_len] at hd
    refine Nat.le_trans (sz_le (k := (cutP s mB).size) ?_) (by omega)
    rw [natAbs_sgnv]
    refine Nat.lt_of_lt_of_le hd (Nat.pow_le_pow_left (by decide) _)
  · exact Nat.le_trans (sz_64 (n := 0) (by decide) (by decide)) (by decide)
theorem zrat : AV.agg [Cell.v (Value.bool false), Cell.sl 1 [], Cell.v (Value.bool false), Cell.sl 1 []] = AV.agg [zs 0, zl 0, zs 0, zl 0] := by
  have h := z0_eq
  injection h with h
  injection h with h1 h
  injection h with h2 _
  rw [h1, h2]
theorem pr_no {s : ByteArray} (h : prsOk s = false) : packA [AV.agg [Cell.v (Value.bool false), Cell.sl 1 [], Cell.v (Value.bool false), Cell.sl 1 []], AV.c (Cell.v (Value.int IntKind.i64 2))] = prsR s := by
  unfold prsR prsN prsD prsE
  rw [h, if_neg (by decide), if_neg (by decide), if_neg (by decide), zrat]; rfl
theorem pr_w {s : ByteArray} (h1 : parE (ctA s sB) = 0) (h2 : ¬0 ≤ ixS s sB) : packA [AV.agg [zs ((parN (ctA s sB) : Int) : Rat).num, zl ((parN (ctA s sB) : Int) : Rat).num, zs (((parN (ctA s sB) : Int) : Rat).den : Int), zl (((parN (ctA s sB) : Int) : Rat).den : Int)], AV.c (Cell.v (Value.int IntKind.i64 0))] = prsR s := by
  have h : prsOk s = true := by
    unfold prsOk
    rw [decide_eq_true h1, decide_eq_true (show ixS s sB < 0 by omega)]; rfl
  unfold prsR prsN prsD prsE
  rw [h, if_pos rfl, if_pos rfl, if_pos rfl, if_pos (by omega)]; rfl
theorem pr_y {s : ByteArray} (h1 : parE (ctA s sB) = 0) (h3 : 0 ≤ ixS s sB) (h4 : parE (ctB s sB) = 0) (h5 : ¬parN (ctB s sB) ≤ 1) (h6 : ((Nat.gcd (parN (ctA s sB)).natAbs (parN (ctB s sB)).natAbs : Nat) : Int) = 1) :
    packA [AV.agg [zs (parN (ctA s sB)), zl (parN (ctA s sB)), zs (parN (ctB s sB)), zl (parN (ctB s sB))], AV.c (Cell.v (Value.int IntKind.i64 0))] = prsR s := by
  have h : prsOk s = true := by
    unfold prsOk
    rw [decide_eq_true h1, decide_eq_true h4, decide_eq_true (show 1 < parN (ctB s sB) by omega), decide_eq_true h6, Bool.or_comm]; rfl
  unfold prsR prsN prsD prsE
  rw [h, if_pos rfl, if_pos rfl, if_pos rfl, if_neg (by omega)]; rfl
theorem po_1 {s : ByteArray} (h : ¬parE (ctA s sB) = 0) : prsOk s = false := by
  unfold prsOk; rw [decide_eq_false h]; rfl
theorem po_2 {s : ByteArray} (h0 : 0 ≤ ixS s sB) (h : ¬parE (ctB s sB) = 0) : prsOk s = false := by
  unfold prsOk; rw [decide_eq_false h, decide_eq_false (show ¬ixS s sB < 0 by omega), Bool.false_and, Bool.false_and, Bool.or_false, Bool.and_false]
theorem po_3 {s : ByteArray} (h0 : 0 ≤ ixS s sB) (h : parN (ctB s sB) ≤ 1) : prsOk s = false := by
  unfold prsOk; rw [decide_eq_false (show ¬1 < parN (ctB s sB) by omega), decide_eq_false (show ¬ixS s sB < 0 by omega), Bool.and_false, Bool.false_and, Bool.or_false, Bool.and_false]
theorem po_4 {s : ByteArray} (h0 : 0 ≤ ixS s sB) (h : ¬((Nat.gcd (parN (ctA s sB)).natAbs (parN (ctB s sB)).natAbs : Nat) : Int) = 1) : prsOk s = false := by
  unfold prsOk; rw [decide_eq_false h, decide_eq_false (show ¬ixS s sB < 0 by omega), Bool.and_false, Bool.or_false, Bool.and_false]
theorem prs_lit {s : ByteArray} {q : Rat} (h1 : prsN s = q.num) (h2 : prsD s = q.den) (h3 : prsE s = 0) : prsR s = .tup [R q, .int .i64 0] := by
  show AV.tup _ = _
  rw [h1, h2, h3]
theorem smallS_sz (n : Nat) : (smallS n).size ≤ 2 := by
  unfold smallS
  split <;> rw [ByteArray.size_extract] <;> omega
theorem strE {a b : ByteArray} (h : a = b) : packA [AV.c (Cell.v (.string a))] = AV.str b := by subst h; rfl
end Go.Sw

namespace Go.Proofs.YtghlkihmnopenaaGreatDoor
open Go Go.RowKit Go.Sw
set_option linter.unusedVariables false
set_option maxRecDepth 100000
set_option maxHeartbeats 8000000
set_option synthInstance.maxSize 4000
set_option synthInstance.maxHeartbeats 400000
instance f_parse (s : ByteArray) : DenI Tryz.prog 36 [.str s] (s.size ≤ 1000000) (prsR s) := ⟨fun hp => by
 refine den_of (τ := tab) tab_ok mixed_ Tryz.func36 rfl (by kernel_rfl) (by kernel_rfl) (by kernel_rfl) ?_
 all_goals (repeat' ((try (conv => whnf)); first
  | refine call_0 ?_
  | refine call_i ?_ ?_
  | refine call_c ?_ (fun _ => ?_) (fun _ => ?_)
  | (with_reducible refine onB_t ?_)
  | (with_reducible refine onB_f ?_)
  | (with_reducible refine onB_d (fun _ => ?_) (fun _ => ?_))
  | (with_reducible refine onB_n (fun _ => ?_) (fun _ => ?_))
  | refine OnB.mk (fun _ => ?_) (fun _ => ?_)
  | refine obl_i ?_ ?_
  | refine Drw.mk (by kernel_rfl) ?_
  | refine mks_i ?_ ?_
  | refine slp_i ?_ ?_
  | (with_reducible refine elem_u ?_ ?_)
  | (with_reducible refine elem_0 ?_)
  | (with_reducible refine elem_1 ?_)
  | (with_reducible refine strAt_i ?_ ?_)
  | (with_reducible refine elem_b ?_ ?_)
  | refine Ends.mk ?_))
 all_goals (try refine Pr.mk ?_)
 all_goals (try simp only [sgnI_lt0, sgnI_zero, sgnI_le0, sgnI_gt0, sgnI_ge0, sgnI_eq1, cmpI_lt0, cmpI_gt0, cmpI_eq0, cmpI_le0, cmpI_ge0, cmpR_of, sgnR_of, sgnR_lt0, sgnR_eq0, sgnR_gt0, sgnR_le0, sgnR_ge0, sgnR_eq1, cmpR_lt0, cmpR_gt0, cmpR_eq0, cmpR_le0, cmpR_ge0] at *)
 all_goals first
  | with_reducible exact pr_no (po_1 (by assumption))
  | with_reducible exact pr_no (po_2 (by assumption) (by assumption))
  | with_reducible exact pr_no (po_3 (by assumption) (by assumption))
  | with_reducible exact pr_no (po_4 (by assumption) (by assumption))
  | with_reducible exact pr_w (by assumption) (by assumption)
  | with_reducible exact pr_y (by assumption) (by assumption) (by assumption) (by assumption) (by assumption)
  | exact ⟨rfl, hp⟩
  | exact ⟨Nat.le_trans (parN_sz _) (by decide), Nat.le_trans (parN_sz _) (by decide)⟩
  | skip⟩

def fmtR (q : Rat) : ByteArray := if (q.den : Int) = 1 then fmtI q.num else fmtI q.num ++ sB ++ fmtI q.den

theorem fmtI_sz (n : Int) : (fmtI n).size ≤ 3 := by
  have h := smallS_sz n.natAbs
  have e : (smallS n.natAbs).data.toList.length = (smallS n.natAbs).size := rfl
  unfold fmtI
  split
  · decide
  · split
    · show (45 :: (smallS n.natAbs).data.toList).toArray.size ≤ 3
      rw [List.size_toArray, List.length_cons]; omega
    · show (smallS n.natAbs).data.toList.toArray.size ≤ 3
      rw [List.size_toArray]; omega

instance f_fmt (q : Rat) : DenI Tryz.prog 37 [R q] (q.num.natAbs < 100 ∧ q.den < 100) (.str (fmtR q)) := ⟨fun hp => by
 refine den_of (τ := tab) tab_ok mixed_ Tryz.func37 rfl (by kernel_rfl) (by kernel_rfl) (by kernel_rfl) ?_
 all_goals (repeat' ((try (conv => whnf)); first
  | refine call_0 ?_
  | refine call_i ?_ ?_
  | refine call_c ?_ (fun _ => ?_) (fun _ => ?_)
  | (with_reducible refine onB_t ?_)
  | (with_reducible refine onB_f ?_)
  | (with_reducible refine onB_d (fun _ => ?_) (fun _ => ?_))
  | (with_reducible refine onB_n (fun _ => ?_) (fun _ => ?_))
  | refine OnB.mk (fun _ => ?_) (fun _ => ?_)
  | refine obl_i ?_ ?_
  | refine Drw.mk (by kernel_rfl) ?_
  | refine mks_i ?_ ?_
  | refine slp_i ?_ ?_
  | (with_reducible refine elem_u ?_ ?_)
  | (with_reducible refine elem_0 ?_)
  | (with_reducible refine elem_1 ?_)
  | (with_reducible refine strAt_i ?_ ?_)
  | (with_reducible refine elem_b ?_ ?_)
  | refine Ends.mk ?_))
 all_goals (try refine Pr.mk ?_)
 all_goals (try simp only [sgnI_lt0, sgnI_zero, sgnI_le0, sgnI_gt0, sgnI_ge0, sgnI_eq1, cmpI_lt0, cmpI_gt0, cmpI_eq0, cmpI_le0, cmpI_ge0, cmpR_of, sgnR_of, sgnR_lt0, sgnR_eq0, sgnR_gt0, sgnR_le0, sgnR_ge0, sgnR_eq1, cmpR_lt0, cmpR_gt0, cmpR_eq0, cmpR_le0, cmpR_ge0] at *)
 all_goals first
  | (refine (strE ?_); unfold fmtR; rw [if_pos (by assumption)])
  | (refine (strE ?_); unfold fmtR; rw [if_neg (by assumption)])
  | (have z := fmtI_sz q.num; have z2 := fmtI_sz (q.den : Int); (try rw [ByteArray.size_append]); have z3 : (ByteArray.mk #[47]).size = 1 := rfl; omega)
  | omega
  | skip⟩

theorem lt_0 : prsR ⟨#[57, 47, 52]⟩ = .tup [R (9 / 4 : Rat), .int .i64 0] := prs_lit (by decide +kernel) (by decide +kernel) (by decide +kernel)

theorem lt_1 : prsR ⟨#[50]⟩ = .tup [R (2 : Rat), .int .i64 0] := prs_lit (by decide +kernel) (by decide +kernel) (by decide +kernel)

theorem lt_2 : prsR ⟨#[51, 47, 49, 48]⟩ = .tup [R (3 / 10 : Rat), .int .i64 0] := prs_lit (by decide +kernel) (by decide +kernel) (by decide +kernel)

theorem lt_3 : prsR ⟨#[50, 47, 53]⟩ = .tup [R (2 / 5 : Rat), .int .i64 0] := prs_lit (by decide +kernel) (by decide +kernel) (by decide +kernel)

theorem lt_4 : prsR ⟨#[45, 53, 47, 50]⟩ = .tup [R (-5 / 2 : Rat), .int .i64 0] := prs_lit (by decide +kernel) (by decide +kernel) (by decide +kernel)

theorem lt_5 : prsR ⟨#[55, 47, 50]⟩ = .tup [R (7 / 2 : Rat), .int .i64 0] := prs_lit (by decide +kernel) (by decide +kernel) (by decide +kernel)

theorem lt_6 : prsR ⟨#[51]⟩ = .tup [R (3 : Rat), .int .i64 0] := prs_lit (by decide +kernel) (by decide +kernel) (by decide +kernel)

theorem lt_7 : prsR ⟨#[45, 51, 47, 50]⟩ = .tup [R (-3 / 2 : Rat), .int .i64 0] := prs_lit (by decide +kernel) (by decide +kernel) (by decide +kernel)

end Go.Proofs.YtghlkihmnopenaaGreatDoor

namespace Go.Proofs.YtghlkihmnopenaaGreatDoor
open Go Go.RowKit Go.Sw
set_option linter.unusedVariables false
set_option maxRecDepth 100000
set_option maxHeartbeats 8000000
set_option synthInstance.maxSize 4000
set_option synthInstance.maxHeartbeats 400000
instance l_par0 : DenI Tryz.prog 36 [.str ⟨#[57, 47, 52]⟩] True (.tup [R (9 / 4 : Rat), .int .i64 0]) := ⟨fun hp => by
 have h := (f_parse ⟨#[57, 47, 52]⟩).den (by decide +kernel)
 rw [lt_0] at h; exact h⟩

instance l_txt0  : DenI Tryz.prog 56 [.str ⟨#[57, 47, 52]⟩] (True) (R (9 / 4 : Rat)) := ⟨fun hp => by
 refine den_of (τ := tab) tab_ok mixed_ Tryz.func56 rfl (by kernel_rfl) (by kernel_rfl) (by kernel_rfl) ?_
 all_goals (repeat' ((try (conv => whnf)); first
  | refine call_0 ?_
  | refine call_i ?_ ?_
  | refine call_c ?_ (fun _ => ?_) (fun _ => ?_)
  | (with_reducible refine onB_t ?_)
  | (with_reducible refine onB_f ?_)
  | (with_reducible refine onB_d (fun _ => ?_) (fun _ => ?_))
  | (with_reducible refine onB_n (fun _ => ?_) (fun _ => ?_))
  | refine OnB.mk (fun _ => ?_) (fun _ => ?_)
  | refine obl_i ?_ ?_
  | refine Drw.mk (by kernel_rfl) ?_
  | refine mks_i ?_ ?_
  | refine slp_i ?_ ?_
  | (with_reducible refine elem_u ?_ ?_)
  | (with_reducible refine elem_0 ?_)
  | (with_reducible refine elem_1 ?_)
  | (with_reducible refine strAt_i ?_ ?_)
  | (with_reducible refine elem_b ?_ ?_)
  | refine Ends.mk ?_))
 all_goals (try refine Pr.mk ?_)
 all_goals first
  | rfl
  | trivial
  | skip⟩

instance l_par1 : DenI Tryz.prog 36 [.str ⟨#[50]⟩] True (.tup [R (2 : Rat), .int .i64 0]) := ⟨fun hp => by
 have h := (f_parse ⟨#[50]⟩).den (by decide +kernel)
 rw [lt_1] at h; exact h⟩

instance l_txt1  : DenI Tryz.prog 56 [.str ⟨#[50]⟩] (True) (R (2 : Rat)) := ⟨fun hp => by
 refine den_of (τ := tab) tab_ok mixed_ Tryz.func56 rfl (by kernel_rfl) (by kernel_rfl) (by kernel_rfl) ?_
 all_goals (repeat' ((try (conv => whnf)); first
  | refine call_0 ?_
  | refine call_i ?_ ?_
  | refine call_c ?_ (fun _ => ?_) (fun _ => ?_)
  | (with_reducible refine onB_t ?_)
  | (with_reducible refine onB_f ?_)
  | (with_reducible refine onB_d (fun _ => ?_) (fun _ => ?_))
  | (with_reducible refine onB_n (fun _ => ?_) (fun _ => ?_))
  | refine OnB.mk (fun _ => ?_) (fun _ => ?_)
  | refine obl_i ?_ ?_
  | refine Drw.mk (by kernel_rfl) ?_
  | refine mks_i ?_ ?_
  | refine slp_i ?_ ?_
  | (with_reducible refine elem_u ?_ ?_)
  | (with_reducible refine elem_0 ?_)
  | (with_reducible refine elem_1 ?_)
  | (with_reducible refine strAt_i ?_ ?_)
  | (with_reducible refine elem_b ?_ ?_)
  | refine Ends.mk ?_))
 all_goals (try refine Pr.mk ?_)
 all_goals first
  | rfl
  | trivial
  | skip⟩

instance l_par2 : DenI Tryz.prog 36 [.str ⟨#[51, 47, 49, 48]⟩] True (.tup [R (3 / 10 : Rat), .int .i64 0]) := ⟨fun hp => by
 have h := (f_parse ⟨#[51, 47, 49, 48]⟩).den (by decide +kernel)
 rw [lt_2] at h; exact h⟩

instance l_txt2  : DenI Tryz.prog 56 [.str ⟨#[51, 47, 49, 48]⟩] (True) (R (3 / 10 : Rat)) := ⟨fun hp => by
 refine den_of (τ := tab) tab_ok mixed_ Tryz.func56 rfl (by kernel_rfl) (by kernel_rfl) (by kernel_rfl) ?_
 all_goals (repeat' ((try (conv => whnf)); first
  | refine call_0 ?_
  | refine call_i ?_ ?_
  | refine call_c ?_ (fun _ => ?_) (fun _ => ?_)
  | (with_reducible refine onB_t ?_)
  | (with_reducible refine onB_f ?_)
  | (with_reducible refine onB_d (fun _ => ?_) (fun _ => ?_))
  | (with_reducible refine onB_n (fun _ => ?_) (fun _ => ?_))
  | refine OnB.mk (fun _ => ?_) (fun _ => ?_)
  | refine obl_i ?_ ?_
  | refine Drw.mk (by kernel_rfl) ?_
  | refine mks_i ?_ ?_
  | refine slp_i ?_ ?_
  | (with_reducible refine elem_u ?_ ?_)
  | (with_reducible refine elem_0 ?_)
  | (with_reducible refine elem_1 ?_)
  | (with_reducible refine strAt_i ?_ ?_)
  | (with_reducible refine elem_b ?_ ?_)
  | refine Ends.mk ?_))
 all_goals (try refine Pr.mk ?_)
 all_goals first
  | rfl
  | trivial
  | skip⟩

instance l_par3 : DenI Tryz.prog 36 [.str ⟨#[50, 47, 53]⟩] True (.tup [R (2 / 5 : Rat), .int .i64 0]) := ⟨fun hp => by
 have h := (f_parse ⟨#[50, 47, 53]⟩).den (by decide +kernel)
 rw [lt_3] at h; exact h⟩

instance l_txt3  : DenI Tryz.prog 56 [.str ⟨#[50, 47, 53]⟩] (True) (R (2 / 5 : Rat)) := ⟨fun hp => by
 refine den_of (τ := tab) tab_ok mixed_ Tryz.func56 rfl (by kernel_rfl) (by kernel_rfl) (by kernel_rfl) ?_
 all_goals (repeat' ((try (conv => whnf)); first
  | refine call_0 ?_
  | refine call_i ?_ ?_
  | refine call_c ?_ (fun _ => ?_) (fun _ => ?_)
  | (with_reducible refine onB_t ?_)
  | (with_reducible refine onB_f ?_)
  | (with_reducible refine onB_d (fun _ => ?_) (fun _ => ?_))
  | (with_reducible refine onB_n (fun _ => ?_) (fun _ => ?_))
  | refine OnB.mk (fun _ => ?_) (fun _ => ?_)
  | refine obl_i ?_ ?_
  | refine Drw.mk (by kernel_rfl) ?_
  | refine mks_i ?_ ?_
  | refine slp_i ?_ ?_
  | (with_reducible refine elem_u ?_ ?_)
  | (with_reducible refine elem_0 ?_)
  | (with_reducible refine elem_1 ?_)
  | (with_reducible refine strAt_i ?_ ?_)
  | (with_reducible refine elem_b ?_ ?_)
  | refine Ends.mk ?_))
 all_goals (try refine Pr.mk ?_)
 all_goals first
  | rfl
  | trivial
  | skip⟩

instance l_par4 : DenI Tryz.prog 36 [.str ⟨#[45, 53, 47, 50]⟩] True (.tup [R (-5 / 2 : Rat), .int .i64 0]) := ⟨fun hp => by
 have h := (f_parse ⟨#[45, 53, 47, 50]⟩).den (by decide +kernel)
 rw [lt_4] at h; exact h⟩

instance l_txt4  : DenI Tryz.prog 56 [.str ⟨#[45, 53, 47, 50]⟩] (True) (R (-5 / 2 : Rat)) := ⟨fun hp => by
 refine den_of (τ := tab) tab_ok mixed_ Tryz.func56 rfl (by kernel_rfl) (by kernel_rfl) (by kernel_rfl) ?_
 all_goals (repeat' ((try (conv => whnf)); first
  | refine call_0 ?_
  | refine call_i ?_ ?_
  | refine call_c ?_ (fun _ => ?_) (fun _ => ?_)
  | (with_reducible refine onB_t ?_)
  | (with_reducible refine onB_f ?_)
  | (with_reducible refine onB_d (fun _ => ?_) (fun _ => ?_))
  | (with_reducible refine onB_n (fun _ => ?_) (fun _ => ?_))
  | refine OnB.mk (fun _ => ?_) (fun _ => ?_)
  | refine obl_i ?_ ?_
  | refine Drw.mk (by kernel_rfl) ?_
  | refine mks_i ?_ ?_
  | refine slp_i ?_ ?_
  | (with_reducible refine elem_u ?_ ?_)
  | (with_reducible refine elem_0 ?_)
  | (with_reducible refine elem_1 ?_)
  | (with_reducible refine strAt_i ?_ ?_)
  | (with_reducible refine elem_b ?_ ?_)
  | refine Ends.mk ?_))
 all_goals (try refine Pr.mk ?_)
 all_goals first
  | rfl
  | trivial
  | skip⟩

instance l_par5 : DenI Tryz.prog 36 [.str ⟨#[55, 47, 50]⟩] True (.tup [R (7 / 2 : Rat), .int .i64 0]) := ⟨fun hp => by
 have h := (f_parse ⟨#[55, 47, 50]⟩).den (by decide +kernel)
 rw [lt_5] at h; exact h⟩

instance l_txt5  : DenI Tryz.prog 56 [.str ⟨#[55, 47, 50]⟩] (True) (R (7 / 2 : Rat)) := ⟨fun hp => by
 refine den_of (τ := tab) tab_ok mixed_ Tryz.func56 rfl (by kernel_rfl) (by kernel_rfl) (by kernel_rfl) ?_
 all_goals (repeat' ((try (conv => whnf)); first
  | refine call_0 ?_
  | refine call_i ?_ ?_
  | refine call_c ?_ (fun _ => ?_) (fun _ => ?_)
  | (with_reducible refine onB_t ?_)
  | (with_reducible refine onB_f ?_)
  | (with_reducible refine onB_d (fun _ => ?_) (fun _ => ?_))
  | (with_reducible refine onB_n (fun _ => ?_) (fun _ => ?_))
  | refine OnB.mk (fun _ => ?_) (fun _ => ?_)
  | refine obl_i ?_ ?_
  | refine Drw.mk (by kernel_rfl) ?_
  | refine mks_i ?_ ?_
  | refine slp_i ?_ ?_
  | (with_reducible refine elem_u ?_ ?_)
  | (with_reducible refine elem_0 ?_)
  | (with_reducible refine elem_1 ?_)
  | (with_reducible refine strAt_i ?_ ?_)
  | (with_reducible refine elem_b ?_ ?_)
  | refine Ends.mk ?_))
 all_goals (try refine Pr.mk ?_)
 all_goals first
  | rfl
  | trivial
  | skip⟩

instance l_par6 : DenI Tryz.prog 36 [.str ⟨#[51]⟩] True (.tup [R (3 : Rat), .int .i64 0]) := ⟨fun hp => by
 have h := (f_parse ⟨#[51]⟩).den (by decide +kernel)
 rw [lt_6] at h; exact h⟩

instance l_txt6  : DenI Tryz.prog 56 [.str ⟨#[51]⟩] (True) (R (3 : Rat)) := ⟨fun hp => by
 refine den_of (τ := tab) tab_ok mixed_ Tryz.func56 rfl (by kernel_rfl) (by kernel_rfl) (by kernel_rfl) ?_
 all_goals (repeat' ((try (conv => whnf)); first
  | refine call_0 ?_
  | refine call_i ?_ ?_
  | refine call_c ?_ (fun _ => ?_) (fun _ => ?_)
  | (with_reducible refine onB_t ?_)
  | (with_reducible refine onB_f ?_)
  | (with_reducible refine onB_d (fun _ => ?_) (fun _ => ?_))
  | (with_reducible refine onB_n (fun _ => ?_) (fun _ => ?_))
  | refine OnB.mk (fun _ => ?_) (fun _ => ?_)
  | refine obl_i ?_ ?_
  | refine Drw.mk (by kernel_rfl) ?_
  | refine mks_i ?_ ?_
  | refine slp_i ?_ ?_
  | (with_reducible refine elem_u ?_ ?_)
  | (with_reducible refine elem_0 ?_)
  | (with_reducible refine elem_1 ?_)
  | (with_reducible refine strAt_i ?_ ?_)
  | (with_reducible refine elem_b ?_ ?_)
  | refine Ends.mk ?_))
 all_goals (try refine Pr.mk ?_)
 all_goals first
  | rfl
  | trivial
  | skip⟩

instance l_par7 : DenI Tryz.prog 36 [.str ⟨#[45, 51, 47, 50]⟩] True (.tup [R (-3 / 2 : Rat), .int .i64 0]) := ⟨fun hp => by
 have h := (f_parse ⟨#[45, 51, 47, 50]⟩).den (by decide +kernel)
 rw [lt_7] at h; exact h⟩

instance l_txt7  : DenI Tryz.prog 56 [.str ⟨#[45, 51, 47, 50]⟩] (True) (R (-3 / 2 : Rat)) := ⟨fun hp => by
 refine den_of (τ := tab) tab_ok mixed_ Tryz.func56 rfl (by kernel_rfl) (by kernel_rfl) (by kernel_rfl) ?_
 all_goals (repeat' ((try (conv => whnf)); first
  | refine call_0 ?_
  | refine call_i ?_ ?_
  | refine call_c ?_ (fun _ => ?_) (fun _ => ?_)
  | (with_reducible refine onB_t ?_)
  | (with_reducible refine onB_f ?_)
  | (with_reducible refine onB_d (fun _ => ?_) (fun _ => ?_))
  | (with_reducible refine onB_n (fun _ => ?_) (fun _ => ?_))
  | refine OnB.mk (fun _ => ?_) (fun _ => ?_)
  | refine obl_i ?_ ?_
  | refine Drw.mk (by kernel_rfl) ?_
  | refine mks_i ?_ ?_
  | refine slp_i ?_ ?_
  | (with_reducible refine elem_u ?_ ?_)
  | (with_reducible refine elem_0 ?_)
  | (with_reducible refine elem_1 ?_)
  | (with_reducible refine strAt_i ?_ ?_)
  | (with_reducible refine elem_b ?_ ?_)
  | refine Ends.mk ?_))
 all_goals (try refine Pr.mk ?_)
 all_goals first
  | rfl
  | trivial
  | skip⟩

end Go.Proofs.YtghlkihmnopenaaGreatDoor

namespace Go.Proofs.YtghlkihmnopenaaGreatDoor
open Go Go.RowKit Go.Sw
set_option linter.unusedVariables false
set_option maxRecDepth 100000
set_option maxHeartbeats 8000000
set_option synthInstance.maxSize 4000
set_option synthInstance.maxHeartbeats 400000
instance l_smp0 : DenI Tryz.prog 27 [R (3 / 10 : Rat), R (2 / 5 : Rat)] True (.tup [R (1 / 3 : Rat), .int .i64 0]) := ⟨fun _ => by
 have h := ((w_smp (3 / 10) (2 / 5)).den (by decide +kernel)).1 (by decide +kernel)
 rw [show smp (3 / 10) (2 / 5) = 1 / 3 by decide +kernel] at h
 exact h⟩

instance l_smp1 : DenI Tryz.prog 27 [R (-5 / 2 : Rat), R (7 / 2 : Rat)] True (.tup [R (0 : Rat), .int .i64 0]) := ⟨fun _ => by
 have h := ((w_smp (-5 / 2) (7 / 2)).den (by decide +kernel)).1 (by decide +kernel)
 rw [show smp (-5 / 2) (7 / 2) = 0 by decide +kernel] at h
 exact h⟩

instance l_smp2 : DenI Tryz.prog 27 [R (2 : Rat), R (3 : Rat)] True (.tup [R (5 / 2 : Rat), .int .i64 0]) := ⟨fun _ => by
 have h := ((w_smp (2) (3)).den (by decide +kernel)).1 (by decide +kernel)
 rw [show smp (2) (3) = 5 / 2 by decide +kernel] at h
 exact h⟩

instance l_sq0 : DenI Tryz.prog 21 [R (9 / 4 : Rat)] True (.tup [R (3 / 2 : Rat), .bool true]) := ⟨fun _ => by
 have h := ((m_sqrt (9 / 4)).den (by decide +kernel)).1 (by decide +kernel)
 rw [show sqR (9 / 4) = 3 / 2 by decide +kernel] at h
 exact h⟩

instance l_sq1 : DenI Tryz.prog 21 [R (2 : Rat)] True (.tup [ZR, .bool false]) := ⟨fun _ => ((m_sqrt 2).den (by decide +kernel)).2 (by decide +kernel)⟩

instance l_awake  : DenI Tryz.prog 12 [] (True) (.bool true) := ⟨fun hp => by
 refine den_of (τ := tab) tab_ok mixed_ Tryz.func12 rfl (by kernel_rfl) (by kernel_rfl) (by kernel_rfl) ?_
 all_goals (repeat' ((try (conv => whnf)); first
  | (with_reducible refine onB_yes (by decide +kernel) ?_)
  | (with_reducible refine onB_no (by decide +kernel) ?_)
  | refine call_0 ?_
  | refine call_i ?_ ?_
  | refine call_c ?_ (fun _ => ?_) (fun _ => ?_)
  | (with_reducible refine onB_t ?_)
  | (with_reducible refine onB_f ?_)
  | (with_reducible refine onB_d (fun _ => ?_) (fun _ => ?_))
  | (with_reducible refine onB_n (fun _ => ?_) (fun _ => ?_))
  | refine OnB.mk (fun _ => ?_) (fun _ => ?_)
  | refine obl_i ?_ ?_
  | refine Drw.mk (by kernel_rfl) ?_
  | refine mks_i ?_ ?_
  | refine slp_i ?_ ?_
  | (with_reducible refine elem_u ?_ ?_)
  | (with_reducible refine elem_0 ?_)
  | (with_reducible refine elem_1 ?_)
  | (with_reducible refine strAt_i ?_ ?_)
  | (with_reducible refine elem_b ?_ ?_)
  | refine Ends.mk ?_))
 all_goals (try refine Pr.mk ?_)
 all_goals (try simp only [sgnI_lt0, sgnI_zero, sgnI_le0, sgnI_gt0, sgnI_ge0, sgnI_eq1, cmpI_lt0, cmpI_gt0, cmpI_eq0, cmpI_le0, cmpI_ge0, cmpR_of, sgnR_of, sgnR_lt0, sgnR_eq0, sgnR_gt0, sgnR_le0, sgnR_ge0, sgnR_eq1, cmpR_lt0, cmpR_gt0, cmpR_eq0, cmpR_le0, cmpR_ge0] at *)
 all_goals first
  | trivial
  | decide +kernel
  | rfl
  | (refine bE ?_; decide +kernel)
  | skip⟩

end Go.Proofs.YtghlkihmnopenaaGreatDoor

namespace Go.Sw
open Go
set_option linter.unusedVariables false
theorem sq_nd (a : Rat) : (a * a).num = a.num * a.num ∧ ((a * a).den : Int) = a.den * a.den := by
  have e : a ^ 2 = a * a := by rw [Rat.pow_succ, Rat.pow_succ, Rat.pow_zero, Rat.one_mul]
  rw [← e, Rat.num_pow, Rat.den_pow]
  refine ⟨by rw [Int.pow_succ, Int.pow_succ, Int.pow_zero, Int.one_mul], ?_⟩
  rw [Nat.pow_succ, Nat.pow_succ, Nat.pow_zero, Nat.one_mul]
  exact Int.natCast_mul _ _
theorem isSqR_sq (a : Rat) : isSqR (a * a) = true := by
  unfold isSqR
  have h := sq_nd a
  rw [h.1, h.2, Bool.and_eq_true]
  exact ⟨isSq_iff.2 ⟨a.num.natAbs, Int.natAbs_mul_self' a.num⟩, isSq_iff.2 ⟨a.den, rfl⟩⟩
theorem sqR_or (a : Rat) : sqR (a * a) = a ∨ sqR (a * a) = -a := by
  have h := sqR_sq (isSqR_sq a)
  have e : (sqR (a * a) - a) * (sqR (a * a) + a) = 0 := by grind
  rcases Rat.mul_eq_zero.1 e with k | k
  · left; grind
  · right; grind
theorem sq_law {a : Rat} (h : ¬sqR (a * a) = a) : sqR (a * a) = -a := (sqR_or a).resolve_left h
theorem cmp_neg (a b : Rat) : cmpR b a = IntKind.i64.wrap (0 - cmpR a b) := by
  have := cmpR_lim a b
  rw [wi64 (by omega) (by omega)]
  unfold cmpR
  split <;> split <;> (try split) <;> (try split) <;> first | omega | grind
theorem cmp_add (a b c : Rat) : cmpR (a + c) (b + c) = cmpR a b := by
  rw [← cmpR_sub, ← cmpR_sub]; congr 1; grind
theorem cmp_mul (a b c : Rat) : cmpR (a * c) (b * c) = IntKind.i64.wrap (cmpR a b * sgnR c) := by
  have e : cmpR (a * c) (b * c) = cmpR a b * sgnR c := by
    rw [← cmpR_sub, ← cmpR_sub, ← sgnR_mul]; congr 1; grind
  have := cmpR_lim (a * c) (b * c)
  rw [← e, wi64 (by omega) (by omega)]
theorem fl_y (a : Rat) : 0 ≤ a - ((a.floor : Int) : Rat) := by have := fl_lo a; grind
theorem fl_z (a : Rat) : a - ((a.floor : Int) : Rat) < ((1 : Int) : Rat) := by have := fl_hi a; grind
theorem div_c {a c : Rat} (h : ¬c = 0) : a * c / c = a := Rat.mul_div_cancel h
theorem fl_sz {a : Rat} (h : rz a ≤ 1000) : (lim a.floor.natAbs).length ≤ 9223372036854775807 := by
  have := sz_floor a
  show sz a.floor ≤ _
  omega
end Go.Sw

namespace Go.Proofs.YtghlkihmnopenaaGreatDoor
open Go Go.RowKit Go.Sw
set_option linter.unusedVariables false
set_option maxRecDepth 100000
set_option maxHeartbeats 8000000
set_option synthInstance.maxSize 4000
set_option synthInstance.maxHeartbeats 400000
instance g_zero  : DenI Tryz.prog 24 [.agg [.v (.bool false), .sl 1 [], .v (.bool false), .sl 1 []]] (True) (.bool true) := ⟨fun hp => by
 refine den_of (τ := tab) tab_ok mixed_ Tryz.func24 rfl (by kernel_rfl) (by kernel_rfl) (by kernel_rfl) ?_
 all_goals (repeat' ((try (conv => whnf)); first
  | refine call_0 ?_
  | refine call_i ?_ ?_
  | refine call_c ?_ (fun _ => ?_) (fun _ => ?_)
  | (with_reducible refine onB_t ?_)
  | (with_reducible refine onB_f ?_)
  | (with_reducible refine onB_d (fun _ => ?_) (fun _ => ?_))
  | (with_reducible refine onB_n (fun _ => ?_) (fun _ => ?_))
  | refine OnB.mk (fun _ => ?_) (fun _ => ?_)
  | refine obl_i ?_ ?_
  | refine Drw.mk (by kernel_rfl) ?_
  | refine mks_i ?_ ?_
  | refine slp_i ?_ ?_
  | (with_reducible refine elem_u ?_ ?_)
  | (with_reducible refine elem_0 ?_)
  | (with_reducible refine elem_1 ?_)
  | refine Ends.mk ?_))
 all_goals (try refine Pr.mk ?_)
 all_goals first
  | rfl
  | (exfalso; simp at *; done)
  | skip⟩

instance g_sm (n1 : Bool) (l1 : List Nat) (n2 : Bool) (l2 : List Nat) (n : Int) : DenI Tryz.prog 58 [Rr n1 l1 n2 l2, .int .i64 n] (n ≤ 1000) (.bool (okr n (n1, l1, n2, l2))) := ⟨fun hp => by
 refine den_of (τ := tab) tab_ok mixed_ Tryz.func58 rfl (by kernel_rfl) (by kernel_rfl) (by kernel_rfl) ?_
 all_goals (repeat' ((try (conv => whnf)); first
  | refine call_0 ?_
  | refine call_i ?_ ?_
  | refine call_c ?_ (fun _ => ?_) (fun _ => ?_)
  | (with_reducible refine onB_t ?_)
  | (with_reducible refine onB_f ?_)
  | (with_reducible refine onB_d (fun _ => ?_) (fun _ => ?_))
  | (with_reducible refine onB_n (fun _ => ?_) (fun _ => ?_))
  | refine OnB.mk (fun _ => ?_) (fun _ => ?_)
  | refine obl_i ?_ ?_
  | refine Drw.mk (by kernel_rfl) ?_
  | refine mks_i ?_ ?_
  | refine slp_i ?_ ?_
  | (with_reducible refine elem_u ?_ ?_)
  | (with_reducible refine elem_0 ?_)
  | (with_reducible refine elem_1 ?_)
  | refine Ends.mk ?_))
 all_goals (try refine Pr.mk ?_)
 all_goals (try simp only [sgnI_lt0, sgnI_zero, sgnI_le0, sgnI_gt0, sgnI_ge0, sgnI_eq1, cmpI_lt0, cmpI_gt0, cmpI_eq0, cmpI_le0, cmpI_ge0, cmpR_of, sgnR_of, sgnR_lt0, sgnR_eq0, sgnR_gt0, sgnR_le0, sgnR_ge0, sgnR_eq1, cmpR_lt0, cmpR_gt0, cmpR_eq0, cmpR_le0, cmpR_ge0] at *)
 all_goals (try simp only [List.length_map, Int.toNat_natCast] at *)
 all_goals first
  | omega
  | (constructor <;> omega)
  | (refine bE ?_; unfold okr; simp_all; done)
  | (rw [okr_1 (k := n) (r := (n1, l1, n2, l2)) (by show (l1.length : Int) > n; omega)]; rfl)
  | (rw [okr_2 (k := n) (r := (n1, l1, n2, l2)) (by show (l2.length : Int) > n; omega)]; rfl)
  | skip⟩

instance g_smi (neg : Bool) (l : List Nat) (n : Int) : DenI Tryz.prog 44 [Zr neg l, .int .i64 n] (n ≤ 1000) (.bool (decide ((l.length : Int) ≤ n) && validL neg l)) := ⟨fun hp => by
 refine den_of (τ := tab) tab_ok mixed_ Tryz.func44 rfl (by kernel_rfl) (by kernel_rfl) (by kernel_rfl) ?_
 all_goals (repeat' ((try (conv => whnf)); first
  | refine call_0 ?_
  | refine call_i ?_ ?_
  | refine call_c ?_ (fun _ => ?_) (fun _ => ?_)
  | (with_reducible refine onB_t ?_)
  | (with_reducible refine onB_f ?_)
  | (with_reducible refine onB_d (fun _ => ?_) (fun _ => ?_))
  | (with_reducible refine onB_n (fun _ => ?_) (fun _ => ?_))
  | refine OnB.mk (fun _ => ?_) (fun _ => ?_)
  | refine obl_i ?_ ?_
  | refine Drw.mk (by kernel_rfl) ?_
  | refine mks_i ?_ ?_
  | refine slp_i ?_ ?_
  | (with_reducible refine elem_u ?_ ?_)
  | (with_reducible refine elem_0 ?_)
  | (with_reducible refine elem_1 ?_)
  | refine Ends.mk ?_))
 all_goals (try refine Pr.mk ?_)
 all_goals (try simp only [sgnI_lt0, sgnI_zero, sgnI_le0, sgnI_gt0, sgnI_ge0, sgnI_eq1, cmpI_lt0, cmpI_gt0, cmpI_eq0, cmpI_le0, cmpI_ge0, cmpR_of, sgnR_of, sgnR_lt0, sgnR_eq0, sgnR_gt0, sgnR_le0, sgnR_ge0, sgnR_eq1, cmpR_lt0, cmpR_gt0, cmpR_eq0, cmpR_le0, cmpR_ge0] at *)
 all_goals (try simp only [List.length_map, Int.toNat_natCast] at *)
 all_goals first
  | omega
  | (constructor <;> omega)
  | (refine bE ?_; simp_all; done)
  | (rw [decide_eq_false (by assumption)]; rfl)
  | skip⟩

end Go.Proofs.YtghlkihmnopenaaGreatDoor

namespace Go.Proofs.YtghlkihmnopenaaGreatDoor
open Go Go.RowKit Go.Sw
set_option linter.unusedVariables false
set_option maxRecDepth 100000
set_option maxHeartbeats 8000000
set_option synthInstance.maxSize 4000
set_option synthInstance.maxHeartbeats 400000
instance g_small (L : List RawR) : DenI Tryz.prog 13 [.c (.sl 4 (L.map rc))] (L.length ≤ 1000) (.bool (L.all (okr 6))) := ⟨fun hp => by
 refine den_of (τ := tab) tab_ok mixed_ Tryz.func13 rfl (by kernel_rfl) (by kernel_rfl) (by kernel_rfl) ?_
 all_goals first
  | ((conv => whnf); refine Sw.Loop.inv (α := Nat) (fun x => [(0, .c (.sl 4 (L.map rc))), (2, .bool false), (5, .c (.sl 4 (L.map rc))), (6, .int .i64 (L.length : Nat)), (7, .int .i64 (x : Nat))]) (fun x => []) (fun x => x ≤ L.length ∧ ∀ j, j < x → okr 6 (L.getD j rd0) = true) (fun x => L.length - x) 0 ?_ ?_ ?_ (fun x hx => ?_))
  | skip
 all_goals (repeat' ((try (conv => whnf)); first
  | refine call_0 ?_
  | refine call_i ?_ ?_
  | (with_reducible refine onB_t ?_)
  | (with_reducible refine onB_f ?_)
  | (with_reducible refine onB_d (fun _ => ?_) (fun _ => ?_))
  | (with_reducible refine onB_n (fun _ => ?_) (fun _ => ?_))
  | refine OnB.mk (fun _ => ?_) (fun _ => ?_)
  | refine obl_i ?_ ?_
  | refine Drw.mk (by kernel_rfl) ?_
  | refine mks_i ?_ ?_
  | refine slp_i ?_ ?_
  | (with_reducible refine elem_u ?_ ?_)
  | (with_reducible refine elem_0 ?_)
  | (with_reducible refine elem_1 ?_)
  | refine elem_map rd0 ?_ ?_
  | refine Ends.mk ?_))
 all_goals (try refine Pr.mk ?_)
 all_goals first | (show SubE _ _; repeat' (first | exact trivial | refine And.intro ?_ ?_)) | (show SubB _ _; repeat' (first | exact trivial | refine And.intro ?_ ?_)) | skip
 all_goals (try rfl)
 all_goals (try simp only [List.length_map, Int.toNat_natCast] at *)
 all_goals first
  | rfl
  | omega
  | exact ⟨Nat.zero_le _, fun j hj => by omega⟩
  | exact bE (all_end hx (by assumption))
  | exact bE (all_bad (x := x) (by omega) (by rename_i g; have g : (!okr 6 (L.getD x rd0)) = true := g; simpa using g))
  | ((conv => whnf); exact ⟨x + 1, ⟨⟨rfl, rfl, rfl, rfl, inc64 (by omega), trivial⟩, ⟨⟩, ⟨by omega, fun j hj => by rcases Nat.lt_succ_iff_lt_or_eq.1 hj with h | h; exact hx.2 j h; subst h; rename_i g; have g : (!okr 6 (L.getD j rd0)) = false := g; simpa using g⟩, by show L.length - (x + 1) < L.length - x; omega⟩⟩)
  | skip⟩

instance (p1 : Bool) (l1 : List Nat) (q1 : Bool) (m1 : List Nat) : DenI Tryz.prog 13 [.c (.sl 4 [[.v (.bool p1), lmc l1, .v (.bool q1), lmc m1]])] True (.bool ((okr 6 (p1, l1, q1, m1)))) := ⟨fun hp => by have h := (inferInstance : DenI Tryz.prog 13 [.c (.sl 4 (List.map rc [(p1, l1, q1, m1)]))] _ _).den (by simp); simpa using h⟩
instance (p1 : Bool) (l1 : List Nat) (q1 : Bool) (m1 : List Nat) (p2 : Bool) (l2 : List Nat) (q2 : Bool) (m2 : List Nat) : DenI Tryz.prog 13 [.c (.sl 4 [[.v (.bool p1), lmc l1, .v (.bool q1), lmc m1], [.v (.bool p2), lmc l2, .v (.bool q2), lmc m2]])] True (.bool ((okr 6 (p1, l1, q1, m1) && (okr 6 (p2, l2, q2, m2))))) := ⟨fun hp => by have h := (inferInstance : DenI Tryz.prog 13 [.c (.sl 4 (List.map rc [(p1, l1, q1, m1), (p2, l2, q2, m2)]))] _ _).den (by simp); simpa using h⟩
instance (p1 : Bool) (l1 : List Nat) (q1 : Bool) (m1 : List Nat) (p2 : Bool) (l2 : List Nat) (q2 : Bool) (m2 : List Nat) (p3 : Bool) (l3 : List Nat) (q3 : Bool) (m3 : List Nat) : DenI Tryz.prog 13 [.c (.sl 4 [[.v (.bool p1), lmc l1, .v (.bool q1), lmc m1], [.v (.bool p2), lmc l2, .v (.bool q2), lmc m2], [.v (.bool p3), lmc l3, .v (.bool q3), lmc m3]])] True (.bool ((okr 6 (p1, l1, q1, m1) && (okr 6 (p2, l2, q2, m2) && (okr 6 (p3, l3, q3, m3)))))) := ⟨fun hp => by have h := (inferInstance : DenI Tryz.prog 13 [.c (.sl 4 (List.map rc [(p1, l1, q1, m1), (p2, l2, q2, m2), (p3, l3, q3, m3)]))] _ _).den (by simp); simpa using h⟩
end Go.Proofs.YtghlkihmnopenaaGreatDoor
