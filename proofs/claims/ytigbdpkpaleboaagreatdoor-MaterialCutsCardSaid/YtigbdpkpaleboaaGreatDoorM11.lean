/-
  Numbers that sequences of fractions come near: their signs, and square roots.
  Intervals that contain what a sequence comes near; the signs that they decide.
  Plain laws of lines and circles.
  The distance of a point from a segment, and the height that a tool sweeps.
  Multiples of lines, and circles through three points.
  Validity of lines and circles, with any fields.
  Leaves of the runs of material, distances and signs.
  What the functions rational.side, rational.Sqrt, root.zero, root.FromRat, root.reduced, root.Make, distance.over, distance.add, distance.sub, distance.mul, distance.way, distance.dot, distance.cross, swarfref02.Over, swarfref12.add, swarfref12.sub, swarfref12.mul, swarfref12.Way, swarfref12.Dot, swarfref12.Cross answer, each out of its text by the abstract run.
  What the functions distance.crossing, distance.toSegment, distance.Segments answer, each out of its text by the abstract run.
  What the functions swarfref12.cross, swarfref12.toSegment, swarfref12.Segments answer, each out of its text by the abstract run.
  What the functions material.num, material.add, material.sub, material.mul, material.way, material.dot, material.vec, material.square, material.Cut).level, material.Cut).over, material.Swept, swarfref52.whole, swarfref52.Vec, swarfref52.near, swarfref52.Swept answer, each out of its text by the abstract run.
  Conditions: none.
-/
import Derived.Test.YtigbdpkpaleboaaGreatDoorM10
set_option linter.all false
namespace Go.Sw
open Go
set_option linter.unusedVariables false

def Cau (f : Nat → Rat) : Prop := ∀ d : Rat, 0 < d → ∃ N, ∀ m n, N ≤ m → N ≤ n → f m < f n + d
def PosS (f : Nat → Rat) : Prop := ∃ d : Rat, 0 < d ∧ ∃ N, ∀ n, N ≤ n → d < f n
def NulS (f : Nat → Rat) : Prop := ∀ d : Rat, 0 < d → ∃ N, ∀ n, N ≤ n → -d < f n ∧ f n < d
/-- From some place on, not far outside of a bound. -/
def Bnd (f : Nat → Rat) : Prop := ∃ B : Rat, 0 < B ∧ ∃ N, ∀ n, N ≤ n → -B < f n ∧ f n < B
/-- The sign of what a sequence comes near. -/
def SgS (f : Nat → Rat) (n : Int) : Prop := (n = 1 ∧ PosS f) ∨ (n = -1 ∧ PosS fun k => -f k) ∨ (n = 0 ∧ NulS f)

theorem mul_bnd {x y B e : Rat} (h1 : -B < x) (h2 : x < B) (h3 : -e < y) (h4 : y < e) : x * y < B * e := by
  have p1 := Rat.mul_pos (show 0 < B - x by grind) (show 0 < e + y by grind)
  have p2 := Rat.mul_pos (show 0 < B + x by grind) (show 0 < e - y by grind)
  grind
theorem mul_bnd' {x y B e : Rat} (h1 : -B < x) (h2 : x < B) (h3 : -e < y) (h4 : y < e) : -(B * e) < x * y := by
  have := mul_bnd (x := -x) (y := y) (B := B) (e := e) (by grind) (by grind) h3 h4
  grind
theorem div_pos' {a b : Rat} (h1 : 0 < a) (h2 : 0 < b) : 0 < a / b := by
  have hb : b ≠ 0 := by grind
  rcases Rat.le_total (a := a / b) (b := 0) with h | h
  · have p := Rat.mul_nonneg (show 0 ≤ -(a / b) by grind) (show 0 ≤ b by grind)
    have e : a / b * b = a := by grind
    grind
  · by_cases e : a / b = 0
    · have e' : a / b * b = a := by grind
      rw [e] at e'; grind
    · grind
theorem NulS.add {f g : Nat → Rat} (h : NulS f) (k : NulS g) : NulS fun n => f n + g n := fun d hd => by
  obtain ⟨N, hN⟩ := h (d * (1 / 2)) (by grind)
  obtain ⟨M, hM⟩ := k (d * (1 / 2)) (by grind)
  refine ⟨N + M, fun n hn => ?_⟩
  have a := hN n (by omega)
  have b := hM n (by omega)
  constructor <;> grind
theorem NulS.neg {f : Nat → Rat} (h : NulS f) : NulS fun n => -f n := fun d hd => by
  obtain ⟨N, hN⟩ := h d hd
  exact ⟨N, fun n hn => by have := hN n hn; constructor <;> grind⟩
theorem NulS.sub {f g : Nat → Rat} (h : NulS f) (k : NulS g) : NulS fun n => f n - g n := fun d hd => by
  obtain ⟨N, hN⟩ := h.add k.neg d hd
  exact ⟨N, fun n hn => by have := hN n hn; simp only at this; constructor <;> grind⟩
theorem NulS.mul {f g : Nat → Rat} (h : NulS f) (k : Bnd g) : NulS fun n => f n * g n := fun d hd => by
  obtain ⟨B, hB, M, hM⟩ := k
  obtain ⟨N, hN⟩ := h (d / B) (div_pos' hd hB)
  refine ⟨N + M, fun n hn => ?_⟩
  have a := hN n (by omega)
  have b := hM n (by omega)
  have e : d / B * B = d := by have : B ≠ 0 := (by grind); grind
  have p1 := mul_bnd a.1 a.2 b.1 b.2
  have p2 := mul_bnd' a.1 a.2 b.1 b.2
  rw [e] at p1 p2
  exact ⟨p2, p1⟩
theorem NulS.zero : NulS fun _ => 0 := fun d hd => ⟨0, fun n _ => by constructor <;> grind⟩
theorem NulS.cg {f g : Nat → Rat} (h : NulS f) (e : ∀ n, f n = g n) : NulS g := by rwa [funext e] at h
theorem Cau.bnd {f : Nat → Rat} (h : Cau f) : Bnd f := by
  obtain ⟨N, hN⟩ := h 1 (by grind)
  rcases Rat.le_total (a := 0) (b := f N) with h0 | h0
  · refine ⟨f N + 1, by grind, N, fun n hn => ?_⟩
    have a := hN n N hn (Nat.le_refl _)
    have b := hN N n (Nat.le_refl _) hn
    constructor <;> grind
  · refine ⟨-f N + 1, by grind, N, fun n hn => ?_⟩
    have a := hN n N hn (Nat.le_refl _)
    have b := hN N n (Nat.le_refl _) hn
    constructor <;> grind
theorem Cau.const (q : Rat) : Cau fun _ => q := fun d hd => ⟨0, fun m n _ _ => by grind⟩
theorem Cau.add {f g : Nat → Rat} (h : Cau f) (k : Cau g) : Cau fun n => f n + g n := fun d hd => by
  obtain ⟨N, hN⟩ := h (d * (1 / 2)) (by grind)
  obtain ⟨M, hM⟩ := k (d * (1 / 2)) (by grind)
  refine ⟨N + M, fun m n hm hn => ?_⟩
  have a := hN m n (by omega) (by omega)
  have b := hM m n (by omega) (by omega)
  grind
theorem Cau.neg {f : Nat → Rat} (h : Cau f) : Cau fun n => -f n := fun d hd => by
  obtain ⟨N, hN⟩ := h d hd
  exact ⟨N, fun m n hm hn => by have := hN n m hn hm; grind⟩
theorem Cau.sub {f g : Nat → Rat} (h : Cau f) (k : Cau g) : Cau fun n => f n - g n := fun d hd => by
  obtain ⟨N, hN⟩ := h.add k.neg d hd
  exact ⟨N, fun m n hm hn => by have := hN m n hm hn; simp only at this; grind⟩
theorem Cau.mul {f g : Nat → Rat} (h : Cau f) (k : Cau g) : Cau fun n => f n * g n := fun d hd => by
  obtain ⟨B, hB, M1, h1⟩ := h.bnd
  obtain ⟨D, hD, M2, h2⟩ := k.bnd
  obtain ⟨N1, k1⟩ := h (d * (1 / 2) / D) (div_pos' (by grind) hD)
  obtain ⟨N2, k2⟩ := k (d * (1 / 2) / B) (div_pos' (by grind) hB)
  refine ⟨M1 + M2 + N1 + N2, fun m n hm hn => ?_⟩
  have a1 := h1 m (by omega)
  have a2 := h2 n (by omega)
  have b1 := k1 m n (by omega) (by omega)
  have b2 := k1 n m (by omega) (by omega)
  have c1 := k2 m n (by omega) (by omega)
  have c2 := k2 n m (by omega) (by omega)
  have e1 : D * (d * (1 / 2) / D) = d * (1 / 2) := by have : D ≠ 0 := (by grind); grind
  have e2 : B * (d * (1 / 2) / B) = d * (1 / 2) := by have : B ≠ 0 := (by grind); grind
  have p1 := mul_bnd (x := f m) (y := g m - g n) (e := d * (1 / 2) / B) a1.1 a1.2 (by grind) (by grind)
  have p2 := mul_bnd (x := g n) (y := f m - f n) (e := d * (1 / 2) / D) a2.1 a2.2 (by grind) (by grind)
  rw [e2] at p1
  rw [e1] at p2
  grind
theorem PosS.add {f g : Nat → Rat} (h : PosS f) (k : PosS g) : PosS fun n => f n + g n := by
  obtain ⟨d, hd, N, hN⟩ := h
  obtain ⟨e, he, M, hM⟩ := k
  exact ⟨d, hd, N + M, fun n hn => by have := hN n (by omega); have := hM n (by omega); grind⟩
theorem PosS.nul {f g : Nat → Rat} (h : PosS f) (k : NulS g) : PosS fun n => f n + g n := by
  obtain ⟨d, hd, N, hN⟩ := h
  obtain ⟨M, hM⟩ := k (d * (1 / 2)) (by grind)
  exact ⟨d * (1 / 2), by grind, N + M, fun n hn => by have := hN n (by omega); have := hM n (by omega); grind⟩
theorem PosS.mul {f g : Nat → Rat} (h : PosS f) (k : PosS g) : PosS fun n => f n * g n := by
  obtain ⟨d, hd, N, hN⟩ := h
  obtain ⟨e, he, M, hM⟩ := k
  refine ⟨d * e, Rat.mul_pos hd he, N + M, fun n hn => ?_⟩
  have a := hN n (by omega)
  have b := hM n (by omega)
  have p1 := Rat.mul_pos (show 0 < f n - d by grind) (show 0 < g n by grind)
  have p2 := Rat.mul_pos hd (show 0 < g n - e by grind)
  grind
theorem PosS.cg {f g : Nat → Rat} (h : PosS f) (e : ∀ n, f n = g n) : PosS g := by rwa [funext e] at h
theorem PosS.not {f : Nat → Rat} (h : PosS f) (k : PosS fun n => -f n) : False := by
  obtain ⟨d, hd, N, hN⟩ := h
  obtain ⟨e, he, M, hM⟩ := k
  have := hN (N + M) (by omega)
  have := hM (N + M) (by omega)
  grind
theorem PosS.nn {f : Nat → Rat} (h : PosS f) (k : NulS f) : False := by
  obtain ⟨d, hd, N, hN⟩ := h
  obtain ⟨M, hM⟩ := k d hd
  have := hN (N + M) (by omega)
  have := hM (N + M) (by omega)
  grind
namespace SgS
theorem ex {f : Nat → Rat} (h : Cau f) : ∃ n, SgS f n := by
  by_cases h1 : PosS f
  · exact ⟨1, .inl ⟨rfl, h1⟩⟩
  · by_cases h2 : PosS fun n => -f n
    · exact ⟨-1, .inr (.inl ⟨rfl, h2⟩)⟩
    · refine ⟨0, .inr (.inr ⟨rfl, fun d hd => ?_⟩)⟩
      obtain ⟨N, hN⟩ := h (d * (1 / 2)) (by grind)
      have a1 : ∃ m, N ≤ m ∧ f m ≤ d * (1 / 2) := Classical.byContradiction fun hc => h1 ⟨d * (1 / 2), by grind, N, fun n hn => by
        rcases Rat.le_total (a := f n) (b := d * (1 / 2)) with h | h
        · exact absurd ⟨n, hn, h⟩ hc
        · by_cases e : f n = d * (1 / 2)
          · exact absurd ⟨n, hn, by grind⟩ hc
          · grind⟩
      have a2 : ∃ m, N ≤ m ∧ -f m ≤ d * (1 / 2) := Classical.byContradiction fun hc => h2 ⟨d * (1 / 2), by grind, N, fun n hn => by
        rcases Rat.le_total (a := -f n) (b := d * (1 / 2)) with h | h
        · exact absurd ⟨n, hn, h⟩ hc
        · by_cases e : -f n = d * (1 / 2)
          · exact absurd ⟨n, hn, by grind⟩ hc
          · grind⟩
      obtain ⟨m1, g1, k1⟩ := a1
      obtain ⟨m2, g2, k2⟩ := a2
      refine ⟨N, fun n hn => ?_⟩
      have b1 := hN n m1 hn g1
      have b2 := hN m2 n g2 hn
      constructor <;> grind
theorem uniq {f : Nat → Rat} {m n : Int} (h : SgS f m) (k : SgS f n) : m = n := by
  rcases h with ⟨rfl, h⟩ | ⟨rfl, h⟩ | ⟨rfl, h⟩ <;> rcases k with ⟨rfl, k⟩ | ⟨rfl, k⟩ | ⟨rfl, k⟩ <;> first
    | rfl
    | exact (h.not k).elim
    | exact (k.not h).elim
    | exact (h.nn k).elim
    | exact (k.nn h).elim
    | exact (h.nn k.neg).elim
    | exact (k.nn h.neg).elim
theorem cg {f g : Nat → Rat} {n : Int} (h : SgS f n) (e : ∀ k, f k = g k) : SgS g n := by rwa [funext e] at h
theorem pos {f : Nat → Rat} (h : SgS f 1) : PosS f := by
  rcases h with ⟨e, h⟩ | ⟨e, h⟩ | ⟨e, h⟩
  · exact h
  · exact absurd e (by decide)
  · exact absurd e (by decide)
theorem npos {f : Nat → Rat} (h : SgS f (-1)) : PosS fun n => -f n := by
  rcases h with ⟨e, h⟩ | ⟨e, h⟩ | ⟨e, h⟩
  · exact absurd e (by decide)
  · exact h
  · exact absurd e (by decide)
theorem nul {f : Nat → Rat} (h : SgS f 0) : NulS f := by
  rcases h with ⟨e, h⟩ | ⟨e, h⟩ | ⟨e, h⟩
  · exact absurd e (by decide)
  · exact absurd e (by decide)
  · exact h
theorem of_npos {f : Nat → Rat} (h : PosS fun n => -f n) : SgS f (-1) := .inr (.inl ⟨rfl, h⟩)
theorem of_nul {f : Nat → Rat} (h : NulS f) : SgS f 0 := .inr (.inr ⟨rfl, h⟩)
theorem lim {f : Nat → Rat} {n : Int} (h : SgS f n) : n = 1 ∨ n = -1 ∨ n = 0 := by
  rcases h with ⟨e, h⟩ | ⟨e, h⟩ | ⟨e, h⟩ <;> simp [e]
theorem neg {f : Nat → Rat} {n : Int} (h : SgS f n) : SgS (fun k => -f k) (-n) := by
  rcases h with ⟨rfl, h⟩ | ⟨rfl, h⟩ | ⟨rfl, h⟩
  · exact .inr (.inl ⟨rfl, h.cg fun n => by grind⟩)
  · exact .inl ⟨rfl, h⟩
  · exact .inr (.inr ⟨rfl, h.neg⟩)
/-- A sum with what comes near 0. -/
theorem nadd {f g : Nat → Rat} {n : Int} (h : SgS f n) (k : NulS g) : SgS (fun k => f k + g k) n := by
  rcases h with ⟨rfl, h⟩ | ⟨rfl, h⟩ | ⟨rfl, h⟩
  · exact .inl ⟨rfl, h.nul k⟩
  · exact .inr (.inl ⟨rfl, (h.nul k.neg).cg fun n => by grind⟩)
  · exact .inr (.inr ⟨rfl, h.add k⟩)
theorem near {f g : Nat → Rat} {n : Int} (h : SgS f n) (k : NulS fun i => g i - f i) : SgS g n := (h.nadd k).cg fun n => by grind
theorem same {f g : Nat → Rat} {n : Int} (h : SgS f n) (k : SgS g n) : SgS (fun k => f k + g k) n := by
  rcases h with ⟨rfl, h⟩ | ⟨rfl, h⟩ | ⟨rfl, h⟩
  · exact .inl ⟨rfl, h.add k.pos⟩
  · exact .inr (.inl ⟨rfl, (h.add k.npos).cg fun n => by grind⟩)
  · exact .inr (.inr ⟨rfl, h.add k.nul⟩)
theorem mul {f g : Nat → Rat} {m n : Int} (hf : Cau f) (hg : Cau g) (h : SgS f m) (k : SgS g n) : SgS (fun k => f k * g k) (m * n) := by
  rcases h with ⟨rfl, h⟩ | ⟨rfl, h⟩ | ⟨rfl, h⟩
  · rw [Int.one_mul]
    rcases k with ⟨rfl, k⟩ | ⟨rfl, k⟩ | ⟨rfl, k⟩
    · exact .inl ⟨rfl, h.mul k⟩
    · exact .inr (.inl ⟨rfl, (h.mul k).cg fun n => by grind⟩)
    · exact .inr (.inr ⟨rfl, (k.mul hf.bnd).cg fun n => by grind⟩)
  · rcases k with ⟨rfl, k⟩ | ⟨rfl, k⟩ | ⟨rfl, k⟩
    · exact .inr (.inl ⟨rfl, (h.mul k).cg fun n => by grind⟩)
    · exact .inl ⟨rfl, (h.mul k).cg fun n => by grind⟩
    · exact .inr (.inr ⟨rfl, (k.mul hf.bnd).cg fun n => by grind⟩)
  · rw [Int.zero_mul]
    exact .inr (.inr ⟨rfl, h.mul hg.bnd⟩)
theorem const (q : Rat) : SgS (fun _ => q) (sgnR q) := by
  rcases sgn_cases q with ⟨a, e⟩ | ⟨a, e⟩ | ⟨a, e⟩ <;> rw [e]
  · exact .inr (.inl ⟨rfl, ⟨-q * (1 / 2), by grind, 0, fun n _ => by grind⟩⟩)
  · subst a; exact .inr (.inr ⟨rfl, NulS.zero⟩)
  · exact .inl ⟨rfl, ⟨q * (1 / 2), by grind, 0, fun n _ => by grind⟩⟩
end SgS
/-! ### Square roots -/
def epsS (n : Nat) : Rat := 1 / ((n : Rat) + 1)
theorem cast_nn (n : Nat) : (0 : Rat) ≤ (n : Rat) := Rat.intCast_le_intCast.2 (show (0 : Int) ≤ (n : Int) by omega)
theorem eps_pos (n : Nat) : 0 < epsS n := div_pos' (by grind) (by have := cast_nn n; grind)
theorem eps_mul (n : Nat) : epsS n * ((n : Rat) + 1) = 1 := by
  have h : (n : Rat) + 1 ≠ 0 := by have := cast_nn n; grind
  unfold epsS; grind
theorem eps_nul : NulS epsS := fun d hd => by
  refine ⟨d.den, fun n hn => ⟨by have := eps_pos n; grind, ?_⟩⟩
  have h1 := num_den d
  have h2 : (1 : Rat) ≤ (d.num : Rat) := Rat.intCast_le_intCast.2 (show (1 : Int) ≤ d.num by have := (num_gt0 d).2 hd; omega)
  have h3 : ((d.den : Int) : Rat) ≤ (n : Rat) := Rat.intCast_le_intCast.2 (show (d.den : Int) ≤ (n : Int) by omega)
  have h4 := Rat.mul_nonneg (show 0 ≤ d by grind) (show 0 ≤ (n : Rat) - ((d.den : Int) : Rat) by grind)
  have h5 := eps_mul n
  have h6 := eps_pos n
  rcases Rat.le_total (a := d) (b := epsS n) with h | h
  · have h7 := Rat.mul_nonneg (show 0 ≤ epsS n - d by grind) (show 0 ≤ (n : Rat) + 1 by have := cast_nn n; grind)
    grind
  · by_cases e : epsS n = d
    · rw [e] at h5; grind
    · grind
/-- The root of c, rounded down to a multiple of 1 / (n + 1). -/
def rtS (c : Rat) (n : Nat) : Rat := ((isq (c * (((n : Rat) + 1) * ((n : Rat) + 1))).floor.toNat : Nat) : Rat) * epsS n
theorem rts_ok {c : Rat} (hc : 0 ≤ c) (n : Nat) : 0 ≤ rtS c n ∧ rtS c n * rtS c n ≤ c ∧ c < (rtS c n + epsS n) * (rtS c n + epsS n) := by
  have hn := cast_nn n
  have he := eps_pos n
  have hm := eps_mul n
  generalize hx : c * (((n : Rat) + 1) * ((n : Rat) + 1)) = x
  have hx0 : 0 ≤ x := by rw [← hx]; exact Rat.mul_nonneg hc (Rat.mul_nonneg (by grind) (by grind))
  have f1 := Rat.floor_le (a := x)
  have f2 := Rat.lt_floor_add_one (a := x)
  have f0 : 0 ≤ x.floor := Rat.le_floor_iff.2 (by simpa using hx0)
  obtain ⟨i1, i2⟩ := isq_ok x.floor.toNat
  unfold rtS
  rw [hx]
  generalize isq x.floor.toNat = k at *
  have j1 : (k : Rat) * (k : Rat) ≤ x := by
    have : ((k * k : Nat) : Int) ≤ x.floor := by omega
    have := Rat.intCast_le_intCast.2 this
    have e : (((k * k : Nat) : Int) : Rat) = (k : Rat) * (k : Rat) := by simp [Rat.natCast_mul, Rat.intCast_natCast]
    rw [e] at this
    exact Rat.le_trans this f1
  have j2 : x < ((k : Rat) + 1) * ((k : Rat) + 1) := by
    have : x.floor + 1 ≤ (((k + 1) * (k + 1) : Nat) : Int) := by omega
    have := Rat.intCast_le_intCast.2 this
    have e : ((((k + 1) * (k + 1) : Nat) : Int) : Rat) = ((k : Rat) + 1) * ((k : Rat) + 1) := by simp [Rat.natCast_mul, Rat.natCast_add, Rat.intCast_natCast]
    rw [e] at this
    have e2 : ((x.floor + 1 : Int) : Rat) = (x.floor : Rat) + 1 := by rw [Rat.intCast_add]; rfl
    grind
  have hk := cast_nn k
  have ee := Rat.mul_pos he he
  have q1 : c = x * (epsS n * epsS n) := by rw [← hx]; grind
  refine ⟨Rat.mul_nonneg hk (by grind), ?_, ?_⟩
  · have := Rat.mul_nonneg (show 0 ≤ x - (k : Rat) * (k : Rat) by grind) (show 0 ≤ epsS n * epsS n by grind)
    rw [q1]; grind
  · have := Rat.mul_pos (show 0 < ((k : Rat) + 1) * ((k : Rat) + 1) - x by grind) ee
    rw [q1]; grind
theorem lt_of_sq {x y : Rat} (hy : 0 ≤ y) (h : x * x < y * y) : x < y := by
  rcases Rat.le_total (a := y) (b := x) with k | k
  · have p1 := Rat.mul_nonneg (show 0 ≤ x - y by grind) hy
    have p2 := Rat.mul_nonneg (show 0 ≤ x - y by grind) (show 0 ≤ x by grind)
    grind
  · by_cases e : x = y
    · subst e; grind
    · grind
theorem rts_cau {c : Rat} (hc : 0 ≤ c) : Cau (rtS c) := fun d hd => by
  obtain ⟨N, hN⟩ := eps_nul d hd
  refine ⟨N, fun m n hm hn => ?_⟩
  obtain ⟨a1, a2, a3⟩ := rts_ok hc m
  obtain ⟨b1, b2, b3⟩ := rts_ok hc n
  have := lt_of_sq (x := rtS c m) (y := rtS c n + epsS n) (by have := eps_pos n; grind) (by grind)
  have := (hN n hn).2
  grind
theorem rts_sq {c : Rat} (hc : 0 ≤ c) : NulS fun n => rtS c n * rtS c n - c := by
  have k : NulS fun n => epsS n * (rtS c n + rtS c n + epsS n) := eps_nul.mul (((rts_cau hc).add (rts_cau hc)).add (f := fun n => rtS c n + rtS c n) (g := epsS) (fun d hd => by
    obtain ⟨N, hN⟩ := eps_nul d hd
    exact ⟨N, fun m n hm hn => by have := (hN m hm).2; have := eps_pos n; grind⟩)).bnd
  intro d hd
  obtain ⟨N, hN⟩ := k d hd
  refine ⟨N, fun n hn => ?_⟩
  obtain ⟨a1, a2, a3⟩ := rts_ok hc n
  have := hN n hn
  simp only at this
  constructor <;> grind
theorem rts_sg {c : Rat} (hc : 0 ≤ c) : SgS (rtS c) (sgnR c) := by
  obtain ⟨n, hn⟩ := SgS.ex (rts_cau hc)
  have h1 : SgS (fun _ => c) (n * n) := (hn.mul (rts_cau hc) (rts_cau hc) hn).near ((rts_sq hc).neg.cg fun k => by grind)
  have h2 := h1.uniq (SgS.const c)
  have h3 : n ≠ -1 := by
    rintro rfl
    obtain ⟨d, hd, N, hN⟩ := hn.npos
    have := hN N (Nat.le_refl _)
    have := (rts_ok hc N).1
    grind
  rcases hn.lim with rfl | rfl | rfl
  · rw [← h2]; exact hn
  · exact absurd rfl h3
  · rw [← h2]; exact hn
/-- The sign of a sum with a root, out of those of the parts. -/
theorem root_step {F G : Nat → Rat} {x y z : Int} {c : Rat} (hF : Cau F) (hG : Cau G) (hc : 0 ≤ c) (h1 : SgS F x) (h2 : SgS G y) (h3 : SgS (fun n => F n * F n - c * (G n * G n)) z) :
    SgS (fun n => F n + G n * rtS c n) (if x = y * sgnR c ∨ y * sgnR c = 0 then x else if x = 0 then y * sgnR c else x * z) := by
  have hr := rts_cau hc
  have hy := h2.mul hG hr (rts_sg hc)
  generalize y * sgnR c = t at *
  split
  · rename_i h
    rcases h with rfl | rfl
    · exact h1.same hy
    · exact h1.nadd hy.nul
  · rename_i h
    split
    · rename_i h0
      subst h0
      exact (hy.nadd h1.nul).cg fun n => by grind
    · rename_i h0
      have hv : Cau fun n => F n + G n * rtS c n := hF.add (hG.mul hr)
      have hw : Cau fun n => F n - G n * rtS c n := hF.sub (hG.mul hr)
      have ht : t = -x := by
        rcases h1.lim with rfl | rfl | rfl <;> rcases hy.lim with rfl | rfl | rfl <;> first | rfl | (exfalso; revert h h0; decide)
      subst ht
      have kw : SgS (fun n => F n - G n * rtS c n) x := by
        have := h1.same (g := fun n => -(G n * rtS c n)) (by have := hy.neg; rwa [Int.neg_neg] at this)
        exact this.cg fun n => by grind
      obtain ⟨n, hn⟩ := SgS.ex hv
      have p := hn.mul hv hw kw
      have q : SgS (fun k => F k * F k - c * (G k * G k)) (n * x) := p.near (((rts_sq hc).mul (hG.mul hG).bnd).cg fun k => by grind)
      have e := q.uniq h3
      have : n = x * z := by rw [← e]; rcases h1.lim with rfl | rfl | rfl <;> rcases hn.lim with rfl | rfl | rfl <;> first | rfl | (exfalso; exact h0 rfl)
      rw [← this]; exact hn
/-- The sign of A + B sqrt(C). -/
theorem sg_exI {A B C : Rat} (hC : 0 ≤ C) : SgS (fun n => A + B * rtS C n) (exI A B C) := by
  have h := root_step (Cau.const A) (Cau.const B) hC (SgS.const A) (SgS.const B) (SgS.const _)
  have e : (if sgnR A = sgnR B * sgnR C ∨ sgnR B * sgnR C = 0 then sgnR A else if sgnR A = 0 then sgnR B * sgnR C else sgnR A * sgnR (A * A - C * (B * B))) = exI A B C := by
    unfold exI
    have : sgnR (A * A - C * (B * B)) = cmpR (A * A) (B * B * C) := by
      rcases sgn_cases (A * A - C * (B * B)) with ⟨a, e⟩ | ⟨a, e⟩ | ⟨a, e⟩ <;> rw [e]
      · rw [cmpR_m (by grind)]
      · rw [cmpR_z (by grind)]
      · rw [cmpR_1 (by grind)]
    rw [this]
  rw [← e]; exact h
/-- The sign of A + B sqrt(M) + C sqrt(N) + D sqrt(M) sqrt(N). -/
def sg4 (A B C D M N : Rat) : Int :=
  if exI A B M = exI C D M * sgnR N ∨ exI C D M * sgnR N = 0 then exI A B M
  else if exI A B M = 0 then exI C D M * sgnR N
  else exI A B M * exI (A * A + B * B * M - N * (C * C + D * D * M)) (A * B - N * (C * D) + (A * B - N * (C * D))) M
def v2 (A B M : Rat) (n : Nat) : Rat := A + B * rtS M n
def v4 (A B C D M N : Rat) (n : Nat) : Rat := v2 A B M n + v2 C D M n * rtS N n
theorem v2_cau {A B M : Rat} (hM : 0 ≤ M) : Cau (v2 A B M) := (Cau.const A).add ((Cau.const B).mul (rts_cau hM))
theorem v2_sg {A B M : Rat} (hM : 0 ≤ M) : SgS (v2 A B M) (exI A B M) := sg_exI hM
theorem v4_sg {A B C D M N : Rat} (hM : 0 ≤ M) (hN : 0 ≤ N) : SgS (v4 A B C D M N) (sg4 A B C D M N) := by
  refine root_step (v2_cau hM) (v2_cau hM) hN (v2_sg hM) (v2_sg hM) ?_
  refine (sg_exI (A := A * A + B * B * M - N * (C * C + D * D * M)) (B := A * B - N * (C * D) + (A * B - N * (C * D))) hM).near ?_
  exact ((rts_sq hM).mul (Cau.const (B * B - N * (D * D))).bnd).cg fun n => by unfold v2; grind
end Go.Sw

namespace Go.Sw
open Go
set_option linter.unusedVariables false
theorem Bnd.nul {f : Nat → Rat} (h : NulS f) : Bnd f := by
  obtain ⟨N, hN⟩ := h 1 (by grind)
  exact ⟨1, by grind, N, hN⟩
theorem Bnd.add {f g : Nat → Rat} (h : Bnd f) (k : Bnd g) : Bnd fun n => f n + g n := by
  obtain ⟨B, hB, N, hN⟩ := h
  obtain ⟨D, hD, M, hM⟩ := k
  refine ⟨B + D, by grind, N + M, fun n hn => ?_⟩
  have := hN n (by omega)
  have := hM n (by omega)
  constructor <;> grind
theorem Bnd.cg {f g : Nat → Rat} (h : Bnd f) (e : ∀ n, f n = g n) : Bnd g := by rwa [funext e] at h
/-- An interval contains numbers that come near what a sequence comes near. -/
def ConS (p : Int × Int) (f : Nat → Rat) : Prop := ∃ g : Nat → Rat, NulS (fun n => g n - f n) ∧ ∀ n, con p (g n)
theorem ConS.const {p : Int × Int} {q : Rat} (h : con p q) : ConS p fun _ => q := ⟨fun _ => q, NulS.zero.cg fun n => by grind, fun _ => h⟩
theorem ConS.cg {p : Int × Int} {f g : Nat → Rat} (h : ConS p f) (e : ∀ n, f n = g n) : ConS p g := by rwa [funext e] at h
theorem ConS.add {x y p : Int × Int} {f g : Nat → Rat} (e : addI x y = some p) (h : ConS x f) (k : ConS y g) : ConS p fun n => f n + g n := by
  obtain ⟨u, hu, cu⟩ := h
  obtain ⟨v, hv, cv⟩ := k
  exact ⟨fun n => u n + v n, (hu.add hv).cg fun n => by grind, fun n => con_add e (cu n) (cv n)⟩
theorem ConS.mul {x y p : Int × Int} {f g : Nat → Rat} (e : mulI x y = some p) (hf : Cau f) (hg : Cau g) (h : ConS x f) (k : ConS y g) : ConS p fun n => f n * g n := by
  obtain ⟨u, hu, cu⟩ := h
  obtain ⟨v, hv, cv⟩ := k
  have bv : Bnd v := (hg.bnd.add (Bnd.nul hv)).cg fun n => by grind
  exact ⟨fun n => u n * v n, ((hu.mul bv).add (hv.mul hf.bnd)).cg fun n => by grind, fun n => con_mul e (cu n) (cv n)⟩
theorem ConS.lt {p q : Int × Int} {f g : Nat → Rat} (h : ConS p f) (k : ConS q g) (hl : p.2 < q.1) : SgS (fun n => f n - g n) (-1) := by
  obtain ⟨u, hu, cu⟩ := h
  obtain ⟨v, hv, cv⟩ := k
  have := Rat.intCast_lt_intCast.2 hl
  have key : SgS (fun n => u n - v n) (-1) := .of_npos ⟨((q.1 : Rat) - (p.2 : Rat)) * (1 / 131072), by grind, 0, fun n _ => by
    have := (cu n).2
    have := (cv n).1
    grind⟩
  exact key.near ((hv.sub hu).cg fun n => by grind)
/-! ### The order of roots -/
/-- The order of a + b sqrt(c) and d + e sqrt(f). -/
def cmp4 (a b c d e f : Rat) : Int := sg4 (a - d) b (-e) 0 c f
theorem cmp4_sg {a b c d e f : Rat} (hc : 0 ≤ c) (hf : 0 ≤ f) : SgS (fun n => v2 a b c n - v2 d e f n) (cmp4 a b c d e f) :=
  (v4_sg hc hf).cg fun n => by unfold v4 v2; grind
theorem cmp4_self {a b c : Rat} (hc : 0 ≤ c) : cmp4 a b c a b c = 0 :=
  (cmp4_sg hc hc).uniq (.of_nul (NulS.zero.cg fun n => by grind))
end Go.Sw

namespace Go.Sw
open Go
set_option linter.unusedVariables false
theorem validR_R (q : Rat) : validR (decide (q.num < 0)) (lim q.num.natAbs) (decide ((q.den : Int) < 0)) (lim (q.den : Int).natAbs) = true := by
  rw [validR_int]
  have h1 := den_pos q
  have h2 := q.reduced
  rw [Bool.and_eq_true, decide_eq_true_eq, decide_eq_true_eq]
  exact ⟨sgnI_eq1.2 h1, by rw [Int.natAbs_natCast]; exact congrArg Int.ofNat h2⟩
end Go.Sw

namespace Go.Sw
open Go
set_option linter.unusedVariables false
/-- The square of the distance of (x, y) from the segment from (a, b) to (c, d). -/
def segD (a b c d x y : Rat) : Rat :=
  if (c - a) * (x - a) + (d - b) * (y - b) ≤ 0 then (x - a) * (x - a) + (y - b) * (y - b)
  else if (c - a) * (c - a) + (d - b) * (d - b) ≤ (c - a) * (x - a) + (d - b) * (y - b) then (x - c) * (x - c) + (y - d) * (y - d)
  else ((c - a) * (y - b) - (d - b) * (x - a)) * ((c - a) * (y - b) - (d - b) * (x - a)) / ((c - a) * (c - a) + (d - b) * (d - b))
/-- The square of the distance of (x, y) from the point at t on the segment. -/
def segAt (a b c d x y t : Rat) : Rat := (a + t * (c - a) - x) * (a + t * (c - a) - x) + (b + t * (d - b) - y) * (b + t * (d - b) - y)
theorem le_of_mul {x y k : Rat} (hk : 0 < k) (h : x * k ≤ y * k) : x ≤ y := mul_le_can hk h
theorem seg_at (a b c d x y : Rat) : ∃ t, 0 ≤ t ∧ t ≤ 1 ∧ segD a b c d x y = segAt a b c d x y t := by
  unfold segD segAt
  by_cases h1 : (c - a) * (x - a) + (d - b) * (y - b) ≤ 0
  · rw [if_pos h1]
    exact ⟨0, by grind, by grind, by grind⟩
  · rw [if_neg h1]
    by_cases h2 : (c - a) * (c - a) + (d - b) * (d - b) ≤ (c - a) * (x - a) + (d - b) * (y - b)
    · rw [if_pos h2]
      exact ⟨1, by grind, by grind, by grind⟩
    · rw [if_neg h2]
      generalize hn : (c - a) * (c - a) + (d - b) * (d - b) = n at *
      generalize hT : (c - a) * (x - a) + (d - b) * (y - b) = T at *
      have hp : 0 < T := by grind
      have hT2 : T < n := by grind
      have hn0 : 0 < n := by grind
      obtain ⟨t, ht⟩ : ∃ t, t * n = T := ⟨T / n, by have : n ≠ 0 := (by grind); grind⟩
      refine ⟨t, le_of_mul hn0 (by grind), le_of_mul hn0 (by grind), ?_⟩
      have e : ((c - a) * (y - b) - (d - b) * (x - a)) * ((c - a) * (y - b) - (d - b) * (x - a)) = ((a + t * (c - a) - x) * (a + t * (c - a) - x) + (b + t * (d - b) - y) * (b + t * (d - b) - y)) * n := by
        have q : ((a + t * (c - a) - x) * (a + t * (c - a) - x) + (b + t * (d - b) - y) * (b + t * (d - b) - y)) * n = t * n * (t * n) - 2 * (t * n) * T + ((x - a) * (x - a) + (y - b) * (y - b)) * n := by
          rw [← hn, ← hT]; grind
        rw [q, ht, ← hT, ← hn]; grind
      have : n ≠ 0 := by grind
      rw [e]; grind
theorem seg_le (a b c d x y : Rat) {s : Rat} (h0 : 0 ≤ s) (h1 : s ≤ 1) : segD a b c d x y ≤ segAt a b c d x y s := by
  have hnn := sq_nn (c - a)
  have hnn2 := sq_nn (d - b)
  have f : segAt a b c d x y s = s * s * ((c - a) * (c - a) + (d - b) * (d - b)) - 2 * s * ((c - a) * (x - a) + (d - b) * (y - b)) + ((x - a) * (x - a) + (y - b) * (y - b)) := by unfold segAt; grind
  rw [f]
  unfold segD
  by_cases g1 : (c - a) * (x - a) + (d - b) * (y - b) ≤ 0
  · rw [if_pos g1]
    have p1 := Rat.mul_nonneg (Rat.mul_nonneg h0 h0) (show 0 ≤ (c - a) * (c - a) + (d - b) * (d - b) by grind)
    have p2 := Rat.mul_nonneg h0 (show 0 ≤ -((c - a) * (x - a) + (d - b) * (y - b)) by grind)
    grind
  · rw [if_neg g1]
    by_cases g2 : (c - a) * (c - a) + (d - b) * (d - b) ≤ (c - a) * (x - a) + (d - b) * (y - b)
    · rw [if_pos g2]
      have e : (x - c) * (x - c) + (y - d) * (y - d) = (c - a) * (c - a) + (d - b) * (d - b) - 2 * ((c - a) * (x - a) + (d - b) * (y - b)) + ((x - a) * (x - a) + (y - b) * (y - b)) := by grind
      rw [e]
      generalize hn : (c - a) * (c - a) + (d - b) * (d - b) = n at *
      generalize (c - a) * (x - a) + (d - b) * (y - b) = T at *
      have p0 : 0 ≤ n := by grind
      have p1 := Rat.mul_nonneg (show 0 ≤ 1 - s by grind) (show 0 ≤ T - n by grind)
      have p2 := Rat.mul_nonneg (Rat.mul_nonneg (show 0 ≤ 1 - s by grind) (show 0 ≤ 1 - s by grind)) p0
      grind
    · rw [if_neg g2]
      have e : ((c - a) * (y - b) - (d - b) * (x - a)) * ((c - a) * (y - b) - (d - b) * (x - a)) = ((x - a) * (x - a) + (y - b) * (y - b)) * ((c - a) * (c - a) + (d - b) * (d - b)) - ((c - a) * (x - a) + (d - b) * (y - b)) * ((c - a) * (x - a) + (d - b) * (y - b)) := by grind
      rw [e]
      generalize hn : (c - a) * (c - a) + (d - b) * (d - b) = n at *
      generalize (c - a) * (x - a) + (d - b) * (y - b) = T at *
      generalize (x - a) * (x - a) + (y - b) * (y - b) = Q at *
      have p0 : 0 < n := by grind
      refine le_of_mul p0 ?_
      have p1 := sq_nn (s * n - T)
      have e2 : (Q * n - T * T) / n * n = Q * n - T * T := by have : n ≠ 0 := (by grind); grind
      rw [e2]
      grind
theorem seg_le_a (a b c d x y : Rat) : segD a b c d x y ≤ (x - a) * (x - a) + (y - b) * (y - b) := by
  have := seg_le a b c d x y (s := 0) (by grind) (by grind)
  unfold segAt at this; grind
theorem seg_le_c (a b c d x y : Rat) : segD a b c d x y ≤ (x - c) * (x - c) + (y - d) * (y - d) := by
  have := seg_le a b c d x y (s := 1) (by grind) (by grind)
  unfold segAt at this; grind
theorem seg_pt (x y a b : Rat) : segD x y x y a b = (a - x) * (a - x) + (b - y) * (b - y) := by
  unfold segD
  rw [if_pos (by grind)]
/-- The other way round. -/
theorem seg_swap (a b c d x y : Rat) : segD c d a b x y = segD a b c d x y := by
  obtain ⟨t, t0, t1, et⟩ := seg_at a b c d x y
  obtain ⟨s, s0, s1, es⟩ := seg_at c d a b x y
  have k1 := seg_le a b c d x y (s := 1 - s) (by grind) (by grind)
  have k2 := seg_le c d a b x y (s := 1 - t) (by grind) (by grind)
  have e1 : segAt a b c d x y (1 - s) = segAt c d a b x y s := by unfold segAt; grind
  have e2 : segAt c d a b x y (1 - t) = segAt a b c d x y t := by unfold segAt; grind
  grind
theorem rz_segD {a b c d x y : Rat} {m1 m2 m3 m4 m5 m6 : Nat} (h1 : rz a ≤ m1) (h2 : rz b ≤ m2) (h3 : rz c ≤ m3) (h4 : rz d ≤ m4) (h5 : rz x ≤ m5) (h6 : rz y ≤ m6) : rz (segD a b c d x y) ≤ 64 * (m1 + m2 + m3 + m4 + m5 + m6) + 64 := by
  have a1 := rz_sub c a; have a2 := rz_sub d b; have a3 := rz_sub x a; have a4 := rz_sub y b; have a5 := rz_sub x c; have a6 := rz_sub y d
  have b1 := rz_mul (x - a) (x - a); have b2 := rz_mul (y - b) (y - b); have b3 := rz_mul (x - c) (x - c); have b4 := rz_mul (y - d) (y - d)
  have b5 := rz_mul (c - a) (y - b); have b6 := rz_mul (d - b) (x - a); have b7 := rz_mul (c - a) (c - a); have b8 := rz_mul (d - b) (d - b)
  have c1 := rz_add ((x - a) * (x - a)) ((y - b) * (y - b)); have c2 := rz_add ((x - c) * (x - c)) ((y - d) * (y - d)); have c3 := rz_add ((c - a) * (c - a)) ((d - b) * (d - b))
  have c4 := rz_sub ((c - a) * (y - b)) ((d - b) * (x - a))
  have c5 := rz_mul ((c - a) * (y - b) - (d - b) * (x - a)) ((c - a) * (y - b) - (d - b) * (x - a))
  unfold segD
  split
  · omega
  · split
    · omega
    · by_cases h0 : (c - a) * (c - a) + (d - b) * (d - b) = 0
      · rw [h0, Rat.div_def, Rat.inv_zero, Rat.mul_zero]; have := rz_0; omega
      · have := rz_div (((c - a) * (y - b) - (d - b) * (x - a)) * ((c - a) * (y - b) - (d - b) * (x - a))) _ h0
        omega
instance {a b c d x y : Rat} {m1 m2 m3 m4 m5 m6 : Nat} [h1 : RzB a m1] [h2 : RzB b m2] [h3 : RzB c m3] [h4 : RzB d m4] [h5 : RzB x m5] [h6 : RzB y m6] : RzB (segD a b c d x y) (64 * (m1 + m2 + m3 + m4 + m5 + m6) + 64) := ⟨rz_segD h1.h h2.h h3.h h4.h h5.h h6.h⟩
/-! ### The height -/
def swD (hx hy lx ly : Rat) : Rat := (lx - hx) * (lx - hx) + (ly - hy) * (ly - hy)
def swS (hx hy : Rat) (hz lz : Int) (lx ly : Rat) : Rat := ((lz - hz : Int) : Rat) / swD hx hy lx ly
def swPd (hx hy lx ly x y : Rat) : Rat := (hx - x) * (lx - hx) + (hy - y) * (ly - hy)
def swI (hx hy lx ly r x y : Rat) : Rat := swPd hx hy lx ly x y * swPd hx hy lx ly x y - swD hx hy lx ly * ((hx - x) * (hx - x) + (hy - y) * (hy - y) - r * r)
structure Rt where
  a : Rat
  b : Rat
  c : Rat
/-- From the high end to the low one. -/
def swP (hx hy : Rat) (hz : Int) (lx ly : Rat) (lz : Int) (r x y : Rat) : Rt :=
  if hz = lz ∨ (lx - x) * (lx - x) + (ly - y) * (ly - y) ≤ r * r then ⟨(lz : Rat), 0, 0⟩
  else ⟨mkA ((hz : Rat) - swS hx hy hz lz lx ly * swPd hx hy lx ly x y) (swS hx hy hz lz lx ly) (swI hx hy lx ly r x y),
    mkB (swS hx hy hz lz lx ly) (swI hx hy lx ly r x y), mkC (swS hx hy hz lz lx ly) (swI hx hy lx ly r x y)⟩
def swR (fx fy : Rat) (fz : Int) (tx ty : Rat) (tz : Int) (r x y : Rat) : Rt :=
  if fz < tz then swP tx ty tz fx fy fz r x y else swP fx fy fz tx ty tz r x y
/-- The tool comes over the point. -/
def swOn (fx fy tx ty : Rat) (r : Int) (x y : Rat) : Prop := 0 ≤ r ∧ segD fx fy tx ty x y ≤ (r : Rat) * (r : Rat)
instance {fx fy tx ty : Rat} {r : Int} {x y : Rat} : Decidable (swOn fx fy tx ty r x y) := by unfold swOn; infer_instance
theorem sw_nd {hx hy lx ly r x y : Rat} (h : segD hx hy lx ly x y ≤ r * r) (k : ¬(lx - x) * (lx - x) + (ly - y) * (ly - y) ≤ r * r) : ¬swD hx hy lx ly = 0 := fun e => by
  unfold swD at e
  have h1 := sq_nn (lx - hx)
  have h2 := sq_nn (ly - hy)
  have z : ∀ u : Rat, u * u ≤ 0 → u = 0 := fun u hu => by
    by_cases g : u = 0
    · exact g
    · rcases Rat.le_total (a := 0) (b := u) with q | q
      · have := Rat.mul_pos (show 0 < u by grind) (show 0 < u by grind); grind
      · have := Rat.mul_pos (show 0 < -u by grind) (show 0 < -u by grind); grind
  have e1 := z (lx - hx) (by grind)
  have e2 := z (ly - hy) (by grind)
  obtain ⟨t, t0, t1, et⟩ := seg_at hx hy lx ly x y
  unfold segAt at et
  rw [e1, e2] at et
  rw [et] at h
  have e3 : lx = hx := by grind
  have e4 : ly = hy := by grind
  rw [e3, e4] at k
  exact k (by grind)
theorem sw_in {hx hy lx ly r x y : Rat} (h : segD hx hy lx ly x y ≤ r * r) : 0 ≤ swI hx hy lx ly r x y := by
  obtain ⟨t, t0, t1, et⟩ := seg_at hx hy lx ly x y
  have e : segAt hx hy lx ly x y t = t * t * swD hx hy lx ly + 2 * t * swPd hx hy lx ly x y + ((hx - x) * (hx - x) + (hy - y) * (hy - y)) := by unfold segAt swD swPd; grind
  rw [et, e] at h
  have hd : 0 ≤ swD hx hy lx ly := by unfold swD; have := sq_nn (lx - hx); have := sq_nn (ly - hy); grind
  unfold swI
  generalize swD hx hy lx ly = D at *
  generalize swPd hx hy lx ly x y = P at *
  have p1 := sq_nn (D * t + P)
  have p2 := Rat.mul_nonneg hd (show 0 ≤ r * r - (t * t * D + 2 * t * P + ((hx - x) * (hx - x) + (hy - y) * (hy - y))) by grind)
  grind
/-- Reduced form. -/
def okQ (b c : Rat) : Bool := if b = 0 ∨ c = 0 then decide (b = 0) && decide (c = 0) else decide (0 < c) && !isSqR c
theorem okQ_nn {b c : Rat} (h : okQ b c = true) : 0 ≤ c := by
  unfold okQ at h
  split at h
  · simp at h; grind
  · simp at h; grind
/-- Small numbers: at most 2 ^ 62. -/
def medI (n : Int) : Prop := -1073741824 ≤ n ∧ n ≤ 1073741824
theorem rz_med {n : Int} (h : medI n) : rz (n : Rat) ≤ 4 := rz_i n (by unfold medI at h; omega) (by unfold medI at h; omega)
end Go.Sw

namespace Go.Sw
open Go
set_option linter.unusedVariables false
section
variable (a b c d e f : Rat)
end
end Go.Sw

namespace Go.Sw
open Go
set_option linter.unusedVariables false
theorem w21 : IntKind.i64.wrap (2 + 1) = 3 := by decide
theorem w31 : IntKind.i64.wrap (3 + 1) = 4 := by decide
theorem w41 : IntKind.i64.wrap (4 + 1) = 5 := by decide
theorem w51 : IntKind.i64.wrap (5 + 1) = 6 := by decide
theorem elem_2 {e0 e1 e : List Cell} {es : List (List Cell)} {k : List Cell → Prop} (hk : k e) : Elem (e0 :: e1 :: e :: es) 2 k := ⟨2, e, rfl, rfl, hk⟩
theorem elem_3 {e0 e1 e2 e : List Cell} {es : List (List Cell)} {k : List Cell → Prop} (hk : k e) : Elem (e0 :: e1 :: e2 :: e :: es) 3 k := ⟨3, e, rfl, rfl, hk⟩
theorem elem_4 {e0 e1 e2 e3 e : List Cell} {es : List (List Cell)} {k : List Cell → Prop} (hk : k e) : Elem (e0 :: e1 :: e2 :: e3 :: e :: es) 4 k := ⟨4, e, rfl, rfl, hk⟩
theorem elem_5 {e0 e1 e2 e3 e4 e : List Cell} {es : List (List Cell)} {k : List Cell → Prop} (hk : k e) : Elem (e0 :: e1 :: e2 :: e3 :: e4 :: e :: es) 5 k := ⟨5, e, rfl, rfl, hk⟩
end Go.Sw

namespace Go.Sw
open Go
set_option linter.unusedVariables false
/-- A sum with two square roots. -/
@[reducible] def Q6 (a b c d e f : Rat) : AV := .agg [zs a.num, zl a.num, zs a.den, zl a.den, zs b.num, zl b.num, zs b.den, zl b.den, zs c.num, zl c.num, zs c.den, zl c.den, zs d.num, zl d.num, zs d.den, zl d.den, zs e.num, zl e.num, zs e.den, zl e.den, zs f.num, zl f.num, zs f.den, zl f.den]
theorem w_xs (a b c d : Rat) : IntKind.i64.wrap (exI a b c * sgnR d) = exI a b c * sgnR d := by
  have := one_mul_lim (exI_lim a b c) (sgnR_lim d)
  exact wi64 (by omega) (by omega)
theorem w_xx (a b c d e f : Rat) : IntKind.i64.wrap (exI a b c * exI d e f) = exI a b c * exI d e f := by
  have := one_mul_lim (exI_lim a b c) (exI_lim d e f)
  exact wi64 (by omega) (by omega)
section
variable {a b c d m n x y : Rat}
theorem tw_1 (h : a = 0) : packA [AV.c (Cell.v (.int .i64 (sgnR b * sgnR c)))] = AV.int .i64 (exI a b c) := iE (by
  unfold exI
  rw [sgnR_eq0.2 h]
  split
  · rename_i h; rcases h with h | h <;> omega
  · simp)
theorem tw_2 (h : ¬a = 0) (h2 : sgnR b * sgnR c = 0) : packA [AV.c (Cell.v (.int .i64 (sgnR a)))] = AV.int .i64 (exI a b c) := iE (by unfold exI; rw [if_pos (.inr h2)])
theorem tw_3 (h : ¬a = 0) (h2 : sgnR a = sgnR b * sgnR c) : packA [AV.c (Cell.v (.int .i64 (sgnR a)))] = AV.int .i64 (exI a b c) := iE (by unfold exI; rw [if_pos (.inl h2)])
theorem tw_4 (h : ¬a = 0) (h2 : ¬sgnR b * sgnR c = 0) (h3 : ¬sgnR a = sgnR b * sgnR c) : packA [AV.c (Cell.v (.int .i64 (sgnR a * cmpR (a * a) (b * b * c))))] = AV.int .i64 (exI a b c) := iE (by
  unfold exI; rw [if_neg (by rintro (h | h); exact h3 h; exact h2 h), if_neg (fun e => h (sgnR_eq0.1 e))])
theorem s4_1 (h : exI a b m = 0) : packA [AV.c (Cell.v (.int .i64 (exI c d m * sgnR n)))] = AV.int .i64 (sg4 a b c d m n) := iE (by
  unfold sg4
  rw [h]
  split
  · rename_i h; rcases h with h | h <;> omega
  · simp)
theorem s4_2 (h : ¬exI a b m = 0) (h2 : exI c d m * sgnR n = 0) : packA [AV.c (Cell.v (.int .i64 (exI a b m)))] = AV.int .i64 (sg4 a b c d m n) := iE (by unfold sg4; rw [if_pos (.inr h2)])
theorem s4_3 (h : ¬exI a b m = 0) (h2 : exI a b m = exI c d m * sgnR n) : packA [AV.c (Cell.v (.int .i64 (exI a b m)))] = AV.int .i64 (sg4 a b c d m n) := iE (by unfold sg4; rw [if_pos (.inl h2)])
theorem s4_4 (h : ¬exI a b m = 0) (h2 : ¬exI c d m * sgnR n = 0) (h3 : ¬exI a b m = exI c d m * sgnR n) :
    packA [AV.c (Cell.v (.int .i64 (exI a b m * exI (a * a + b * b * m - n * (c * c + d * d * m)) (a * b - n * (c * d) + (a * b - n * (c * d))) m)))] = AV.int .i64 (sg4 a b c d m n) := iE (by
  unfold sg4; rw [if_neg (by rintro (h | h); exact h3 h; exact h2 h), if_neg h])
theorem sqA_1 {q : AV} (k1 : isSq a.num = true) (k2 : isSq a.den = true) (e : isSqR a = true → q = AV.tup [R (sqR a), AV.bool true]) :
    packA [AV.agg [zs (if a.num < 0 then 0 else (isq a.num.natAbs : Nat)), zl (if a.num < 0 then 0 else (isq a.num.natAbs : Nat)), zs (if (a.den : Int) < 0 then 0 else (isq (a.den : Int).natAbs : Nat)), zl (if (a.den : Int) < 0 then 0 else (isq (a.den : Int).natAbs : Nat))], AV.c (Cell.v (.bool true))] = q :=
  sqrt_1 (by rw [k1]; rfl) (by rw [k2]; rfl) e
theorem sqA_0 {q r : AV} (k1 : isSq a.num = false) (e : ¬isSqR a = true → q = r) : r = q := (e (sqrt_0 (.inl (by rw [k1]; rfl)))).symm
theorem sqA_2 {q r : AV} (k1 : isSq a.den = false) (e : ¬isSqR a = true → q = r) : r = q := (e (sqrt_0 (.inr (by rw [k1]; rfl)))).symm
theorem onB_dy {p : Prop} [Decidable p] {k : Bool → Prop} (h : p) (hk : k true) : OnB (decide p) k := ⟨fun _ => hk, fun e => absurd h (of_decide_eq_false e)⟩
theorem onB_dn {p : Prop} [Decidable p] {k : Bool → Prop} (h : ¬p) (hk : k false) : OnB (decide p) k := ⟨fun e => absurd (of_decide_eq_true e) h, fun _ => hk⟩
theorem ss_nn {e : Rat} (h : sgnR e * sgnR e < 0) : False := by
  rcases sgn_cases e with ⟨_, k⟩ | ⟨_, k⟩ | ⟨_, k⟩ <;> rw [k] at h <;> exact absurd h (by decide)
theorem seg_1 (h : (c - a) * (x - a) + (d - b) * (y - b) ≤ 0) : packA [R ((x - a) * (x - a) + (y - b) * (y - b))] = R (segD a b c d x y) := congrArg R (by unfold segD; rw [if_pos h])
theorem seg_2 (h : ¬(c - a) * (x - a) + (d - b) * (y - b) ≤ 0) (h2 : (c - a) * (c - a) + (d - b) * (d - b) ≤ (c - a) * (x - a) + (d - b) * (y - b)) : packA [R ((x - c) * (x - c) + (y - d) * (y - d))] = R (segD a b c d x y) :=
  congrArg R (by unfold segD; rw [if_neg h, if_pos h2])
theorem seg_3 (h : ¬(c - a) * (x - a) + (d - b) * (y - b) ≤ 0) (h2 : ¬(c - a) * (c - a) + (d - b) * (d - b) ≤ (c - a) * (x - a) + (d - b) * (y - b)) :
    packA [R (((c - a) * (y - b) - (d - b) * (x - a)) * ((c - a) * (y - b) - (d - b) * (x - a)) / ((c - a) * (c - a) + (d - b) * (d - b)))] = R (segD a b c d x y) :=
  congrArg R (by unfold segD; rw [if_neg h, if_neg h2])
theorem seg_n0 {n T : Rat} (h : n = 0) (h1 : ¬T ≤ 0) (h2 : ¬n ≤ T) : False := by grind
theorem sg_n1 {q : Rat} (h : q < q) : False := by grind
theorem sg_n2 (h : segD x y x y a b < segD a b c d x y) : False := by
  rw [seg_pt] at h; have := seg_le_a a b c d x y; grind
theorem sg_n3 (h : segD x y x y c d < segD a b c d x y) : False := by
  rw [seg_pt] at h; have := seg_le_c a b c d x y; grind
theorem mk_1 (h : isSqR c = true) : packA [Q3 (a + b * sqR c) 0 0, AV.c (Cell.v (.int .i64 0))] = AV.tup [Q3 (mkA a b c) (mkB b c) (mkC b c), AV.int .i64 0] := by
  unfold mkA mkB mkC; rw [if_pos h, if_pos h, if_pos h]; rfl
theorem mk_0 (h : ¬isSqR c = true) : packA [Q3 a b (cooC b c), AV.c (Cell.v (.int .i64 0))] = AV.tup [Q3 (mkA a b c) (mkB b c) (mkC b c), AV.int .i64 0] := by
  have h' : isSqR c = false := by simpa using h
  unfold mkA mkB mkC cooC; rw [if_neg h, if_neg h, if_neg h, redB_of h', redC_of h']; rfl
end
theorem refA (h s p : Rat) : h + s * -p = h - s * p := by grind
section
variable {fx fy tx ty x y : Rat} {r fz tz : Int}
theorem on_1 (h : r ≥ 0) : packA [AV.c (Cell.v (.bool (decide (segD fx fy tx ty x y ≤ (r : Rat) * (r : Rat)))))] = AV.bool (decide (swOn fx fy tx ty r x y)) := bE (decide_eq_decide.2 ⟨fun k => ⟨h, k⟩, fun k => k.2⟩)
theorem on_2 (h : ¬r ≥ 0) : packA [AV.c (Cell.v (.bool false))] = AV.bool (decide (swOn fx fy tx ty r x y)) := bE (by
  symm; rw [decide_eq_false_iff_not]; rintro ⟨k, _⟩; omega)
end
section
variable {fx fy tx ty x y : Rat} {r fz tz : Int}
theorem swR_u (h : tz > fz) (h2 : tz = fz ∨ (fx - x) * (fx - x) + (fy - y) * (fy - y) ≤ (r : Rat) * (r : Rat)) : swR fx fy fz tx ty tz (r : Rat) x y = ⟨(fz : Rat), 0, 0⟩ := by
  unfold swR swP; rw [if_pos h, if_pos h2]
theorem swR_d (h : ¬tz > fz) (h2 : fz = tz ∨ (tx - x) * (tx - x) + (ty - y) * (ty - y) ≤ (r : Rat) * (r : Rat)) : swR fx fy fz tx ty tz (r : Rat) x y = ⟨(tz : Rat), 0, 0⟩ := by
  unfold swR swP; rw [if_neg h, if_pos h2]
theorem swR_u' (h : tz > fz) (h1 : ¬tz = fz) (h2 : ¬(fx - x) * (fx - x) + (fy - y) * (fy - y) ≤ (r : Rat) * (r : Rat)) : swR fx fy fz tx ty tz (r : Rat) x y =
    ⟨mkA ((tz : Rat) - ((fz - tz : Int) : Rat) / ((fx - tx) * (fx - tx) + (fy - ty) * (fy - ty)) * ((tx - x) * (fx - tx) + (ty - y) * (fy - ty))) (((fz - tz : Int) : Rat) / ((fx - tx) * (fx - tx) + (fy - ty) * (fy - ty)))
      (((tx - x) * (fx - tx) + (ty - y) * (fy - ty)) * ((tx - x) * (fx - tx) + (ty - y) * (fy - ty)) - ((fx - tx) * (fx - tx) + (fy - ty) * (fy - ty)) * ((tx - x) * (tx - x) + (ty - y) * (ty - y) - (r : Rat) * (r : Rat))),
     mkB (((fz - tz : Int) : Rat) / ((fx - tx) * (fx - tx) + (fy - ty) * (fy - ty)))
      (((tx - x) * (fx - tx) + (ty - y) * (fy - ty)) * ((tx - x) * (fx - tx) + (ty - y) * (fy - ty)) - ((fx - tx) * (fx - tx) + (fy - ty) * (fy - ty)) * ((tx - x) * (tx - x) + (ty - y) * (ty - y) - (r : Rat) * (r : Rat))),
     mkC (((fz - tz : Int) : Rat) / ((fx - tx) * (fx - tx) + (fy - ty) * (fy - ty)))
      (((tx - x) * (fx - tx) + (ty - y) * (fy - ty)) * ((tx - x) * (fx - tx) + (ty - y) * (fy - ty)) - ((fx - tx) * (fx - tx) + (fy - ty) * (fy - ty)) * ((tx - x) * (tx - x) + (ty - y) * (ty - y) - (r : Rat) * (r : Rat)))⟩ := by
  unfold swR swP; rw [if_pos h, if_neg (by rintro (h | h); exact h1 h; exact h2 h)]; rfl
theorem swR_d' (h : ¬tz > fz) (h1 : ¬fz = tz) (h2 : ¬(tx - x) * (tx - x) + (ty - y) * (ty - y) ≤ (r : Rat) * (r : Rat)) : swR fx fy fz tx ty tz (r : Rat) x y =
    ⟨mkA ((fz : Rat) - ((tz - fz : Int) : Rat) / ((tx - fx) * (tx - fx) + (ty - fy) * (ty - fy)) * ((fx - x) * (tx - fx) + (fy - y) * (ty - fy))) (((tz - fz : Int) : Rat) / ((tx - fx) * (tx - fx) + (ty - fy) * (ty - fy)))
      (((fx - x) * (tx - fx) + (fy - y) * (ty - fy)) * ((fx - x) * (tx - fx) + (fy - y) * (ty - fy)) - ((tx - fx) * (tx - fx) + (ty - fy) * (ty - fy)) * ((fx - x) * (fx - x) + (fy - y) * (fy - y) - (r : Rat) * (r : Rat))),
     mkB (((tz - fz : Int) : Rat) / ((tx - fx) * (tx - fx) + (ty - fy) * (ty - fy)))
      (((fx - x) * (tx - fx) + (fy - y) * (ty - fy)) * ((fx - x) * (tx - fx) + (fy - y) * (ty - fy)) - ((tx - fx) * (tx - fx) + (ty - fy) * (ty - fy)) * ((fx - x) * (fx - x) + (fy - y) * (fy - y) - (r : Rat) * (r : Rat))),
     mkC (((tz - fz : Int) : Rat) / ((tx - fx) * (tx - fx) + (ty - fy) * (ty - fy)))
      (((fx - x) * (tx - fx) + (fy - y) * (ty - fy)) * ((fx - x) * (tx - fx) + (fy - y) * (ty - fy)) - ((tx - fx) * (tx - fx) + (ty - fy) * (ty - fy)) * ((fx - x) * (fx - x) + (fy - y) * (fy - y) - (r : Rat) * (r : Rat)))⟩ := by
  unfold swR swP; rw [if_neg h, if_neg (by rintro (h | h); exact h1 h; exact h2 h)]; rfl
theorem sw_fu (h : swOn fx fy tx ty r x y) (k : ¬(fx - x) * (fx - x) + (fy - y) * (fy - y) ≤ (r : Rat) * (r : Rat)) : ¬(fx - tx) * (fx - tx) + (fy - ty) * (fy - ty) = 0 := by
  have h2 := h.2
  rw [← seg_swap] at h2
  exact sw_nd h2 k
theorem sw_fd (h : swOn fx fy tx ty r x y) (k : ¬(tx - x) * (tx - x) + (ty - y) * (ty - y) ≤ (r : Rat) * (r : Rat)) : ¬(tx - fx) * (tx - fx) + (ty - fy) * (ty - fy) = 0 := sw_nd h.2 k
theorem sw_eu (h : swOn fx fy tx ty r x y) (k : ¬(fx - x) * (fx - x) + (fy - y) * (fy - y) ≤ (r : Rat) * (r : Rat)) (e : (fx - tx) * (fx - tx) + (fy - ty) * (fy - ty) = 0) : False := sw_fu h k e
theorem sw_ed (h : swOn fx fy tx ty r x y) (k : ¬(tx - x) * (tx - x) + (ty - y) * (ty - y) ≤ (r : Rat) * (r : Rat)) (e : (tx - fx) * (tx - fx) + (ty - fy) * (ty - fy) = 0) : False := sw_fd h k e
theorem sw_iu (h : swOn fx fy tx ty r x y) : 0 ≤ ((tx - x) * (fx - tx) + (ty - y) * (fy - ty)) * ((tx - x) * (fx - tx) + (ty - y) * (fy - ty)) - ((fx - tx) * (fx - tx) + (fy - ty) * (fy - ty)) * ((tx - x) * (tx - x) + (ty - y) * (ty - y) - (r : Rat) * (r : Rat)) := by
  have h2 := h.2
  rw [← seg_swap] at h2
  exact sw_in h2
theorem sw_id (h : swOn fx fy tx ty r x y) : 0 ≤ ((fx - x) * (tx - fx) + (fy - y) * (ty - fy)) * ((fx - x) * (tx - fx) + (fy - y) * (ty - fy)) - ((tx - fx) * (tx - fx) + (ty - fy) * (ty - fy)) * ((fx - x) * (fx - x) + (fy - y) * (fy - y) - (r : Rat) * (r : Rat)) := sw_in h.2
end
end Go.Sw

namespace Go.Proofs.YtigbdpkpaleboaaGreatDoor
open Go Go.RowKit Go.Sw
set_option linter.unusedVariables false
set_option maxRecDepth 100000
set_option maxHeartbeats 8000000
set_option synthInstance.maxSize 4000
set_option synthInstance.maxHeartbeats 400000
instance m_side (a : Int) : DenI Tryz.prog 91 [Z a] (sz a ≤ 10000000) (.tup [Z (if a < 0 then 0 else (isq a.natAbs : Nat)), .bool (isSq a)]) := ⟨fun hp => by
 have i_a : SzB a 10000000 := ⟨hp⟩
 all_goals refine den_of (τ := tab) tab_ok mixed_ Tryz.func91 rfl (by kernel_rfl) (by kernel_rfl) (by kernel_rfl) ?_
 all_goals (repeat' ((try (conv => whnf)); first
  | refine call_0 ?_
  | refine call_i ?_ ?_
  | refine call_c ?_ (fun _ => ?_) (fun _ => ?_)
  | (with_reducible refine onB_t ?_)
  | (with_reducible refine onB_f ?_)
  | (with_reducible refine onB_d (fun _ => ?_) (fun _ => ?_))
  | (with_reducible refine onB_n (fun _ => ?_) (fun _ => ?_))
  | refine OnB.mk (fun _ => ?_) (fun _ => ?_)
  | refine obl_i ?_ ?_
  | refine Drw.mk (by kernel_rfl) ?_
  | refine mks_i ?_ ?_
  | refine slp_i ?_ ?_
  | (with_reducible refine elem_u ?_ ?_)
  | (with_reducible refine elem_0 ?_)
  | (with_reducible refine elem_1 ?_)
  | refine Ends.mk ?_))
 all_goals (try refine Pr.mk ?_)
 all_goals (try simp only [sgnI_lt0, sgnI_zero, sgnI_le0, sgnI_gt0, sgnI_ge0, sgnI_eq1, cmpI_lt0, cmpI_gt0, cmpI_eq0, cmpI_le0, cmpI_ge0, cmpR_of, sgnR_of, sgnR_lt0, sgnR_eq0, sgnR_gt0, sgnR_le0, sgnR_ge0, sgnR_eq1, cmpR_lt0, cmpR_gt0, cmpR_eq0, cmpR_le0, cmpR_ge0] at *)
 all_goals first
  | with_reducible exact perf_1 (by assumption)
  | with_reducible exact perf_2 (by assumption)
  | ((repeat' apply And.intro) <;> first | assumption | exact rzb (by omega) | exact szb (by omega) | exact Int.mul_ne_zero (den_ne _) (den_ne _))
  | skip⟩

instance m_sqrt (a : Rat) : DenC Tryz.prog 61 [R a] (rz a ≤ 1000000) (isSqR a = true) (.tup [R (sqR a), .bool true]) (.tup [ZR, .bool false]) := ⟨denC fun hp q e1 e2 => by
 have i_a : RzB a 1000000 := ⟨hp⟩
 all_goals refine den_of (τ := tab) tab_ok mixed_ Tryz.func61 rfl (by kernel_rfl) (by kernel_rfl) (by kernel_rfl) ?_
 all_goals (repeat' ((try (conv => whnf)); first
  | refine call_0 ?_
  | refine call_i ?_ ?_
  | refine call_c ?_ (fun _ => ?_) (fun _ => ?_)
  | (with_reducible refine onB_t ?_)
  | (with_reducible refine onB_f ?_)
  | (with_reducible refine onB_d (fun _ => ?_) (fun _ => ?_))
  | (with_reducible refine onB_n (fun _ => ?_) (fun _ => ?_))
  | refine OnB.mk (fun _ => ?_) (fun _ => ?_)
  | refine obl_i ?_ ?_
  | refine Drw.mk (by kernel_rfl) ?_
  | refine mks_i ?_ ?_
  | refine slp_i ?_ ?_
  | (with_reducible refine elem_u ?_ ?_)
  | (with_reducible refine elem_0 ?_)
  | (with_reducible refine elem_1 ?_)
  | refine Ends.mk ?_))
 all_goals (try refine Pr.mk ?_)
 all_goals (try simp only [sgnI_lt0, sgnI_zero, sgnI_le0, sgnI_gt0, sgnI_ge0, sgnI_eq1, cmpI_lt0, cmpI_gt0, cmpI_eq0, cmpI_le0, cmpI_ge0, cmpR_of, sgnR_of, sgnR_lt0, sgnR_eq0, sgnR_gt0, sgnR_le0, sgnR_ge0, sgnR_eq1, cmpR_lt0, cmpR_gt0, cmpR_eq0, cmpR_le0, cmpR_ge0] at *)
 all_goals first
  | with_reducible exact sqA_1 (by assumption) (by assumption) e1
  | (refine (Eq.trans ?_ (sqA_0 (by assumption) e2)); rfl)
  | (refine (Eq.trans ?_ (sqA_2 (by assumption) e2)); rfl)
  | ((repeat' apply And.intro) <;> first | assumption | exact rzb (by omega) | exact szb (by omega) | exact Int.mul_ne_zero (den_ne _) (den_ne _))
  | skip⟩

instance m_zero  : DenI Tryz.prog 56 [] (True) (R 0) := ⟨fun hp => by
 refine den_of (τ := tab) tab_ok mixed_ Tryz.func56 rfl (by kernel_rfl) (by kernel_rfl) (by kernel_rfl) ?_
 all_goals (repeat' ((try (conv => whnf)); first
  | refine call_0 ?_
  | refine call_i ?_ ?_
  | refine call_c ?_ (fun _ => ?_) (fun _ => ?_)
  | (with_reducible refine onB_t ?_)
  | (with_reducible refine onB_f ?_)
  | (with_reducible refine onB_d (fun _ => ?_) (fun _ => ?_))
  | (with_reducible refine onB_n (fun _ => ?_) (fun _ => ?_))
  | refine OnB.mk (fun _ => ?_) (fun _ => ?_)
  | refine obl_i ?_ ?_
  | refine Drw.mk (by kernel_rfl) ?_
  | refine mks_i ?_ ?_
  | refine slp_i ?_ ?_
  | (with_reducible refine elem_u ?_ ?_)
  | (with_reducible refine elem_0 ?_)
  | (with_reducible refine elem_1 ?_)
  | refine Ends.mk ?_))
 all_goals (try refine Pr.mk ?_)
 all_goals (try simp only [sgnI_lt0, sgnI_zero, sgnI_le0, sgnI_gt0, sgnI_ge0, sgnI_eq1, cmpI_lt0, cmpI_gt0, cmpI_eq0, cmpI_le0, cmpI_ge0, cmpR_of, sgnR_of, sgnR_lt0, sgnR_eq0, sgnR_gt0, sgnR_le0, sgnR_ge0, sgnR_eq1, cmpR_lt0, cmpR_gt0, cmpR_eq0, cmpR_le0, cmpR_ge0] at *)
 all_goals first
  | rfl
  | (simp only [redB, redC, mkA, mkB, mkC, cooC, ptC, *, true_or, or_true, if_true, if_false, or_self, and_self, and_true, true_and, and_false, false_and, not_true, not_false_iff, Bool.false_eq_true, decide_true, decide_false, Bool.or_true, Bool.true_or, Bool.or_false, Bool.false_or]; rfl)
  | ((repeat' apply And.intro) <;> first | assumption | exact rzb (by omega) | exact szb (by omega) | exact Int.mul_ne_zero (den_ne _) (den_ne _))
  | (exfalso; simp_all; done)
  | (exfalso; grind)
  | omega
  | ((repeat' apply And.intro) <;> first | assumption | exact rzb (by omega) | exact szb (by omega) | exact Int.mul_ne_zero (den_ne _) (den_ne _))
  | skip⟩

instance m_from (a : Rat) : DenI Tryz.prog 30 [R a] (rz a ≤ 4000000) (Q3 a 0 0) := ⟨fun hp => by
 have i_a : RzB a 4000000 := ⟨hp⟩
 all_goals refine den_of (τ := tab) tab_ok mixed_ Tryz.func30 rfl (by kernel_rfl) (by kernel_rfl) (by kernel_rfl) ?_
 all_goals (repeat' ((try (conv => whnf)); first
  | refine call_0 ?_
  | refine call_i ?_ ?_
  | refine call_c ?_ (fun _ => ?_) (fun _ => ?_)
  | (with_reducible refine onB_t ?_)
  | (with_reducible refine onB_f ?_)
  | (with_reducible refine onB_d (fun _ => ?_) (fun _ => ?_))
  | (with_reducible refine onB_n (fun _ => ?_) (fun _ => ?_))
  | refine OnB.mk (fun _ => ?_) (fun _ => ?_)
  | refine obl_i ?_ ?_
  | refine Drw.mk (by kernel_rfl) ?_
  | refine mks_i ?_ ?_
  | refine slp_i ?_ ?_
  | (with_reducible refine elem_u ?_ ?_)
  | (with_reducible refine elem_0 ?_)
  | (with_reducible refine elem_1 ?_)
  | refine Ends.mk ?_))
 all_goals (try refine Pr.mk ?_)
 all_goals (try simp only [sgnI_lt0, sgnI_zero, sgnI_le0, sgnI_gt0, sgnI_ge0, sgnI_eq1, cmpI_lt0, cmpI_gt0, cmpI_eq0, cmpI_le0, cmpI_ge0, cmpR_of, sgnR_of, sgnR_lt0, sgnR_eq0, sgnR_gt0, sgnR_le0, sgnR_ge0, sgnR_eq1, cmpR_lt0, cmpR_gt0, cmpR_eq0, cmpR_le0, cmpR_ge0] at *)
 all_goals first
  | rfl
  | (simp only [redB, redC, mkA, mkB, mkC, cooC, ptC, *, true_or, or_true, if_true, if_false, or_self, and_self, and_true, true_and, and_false, false_and, not_true, not_false_iff, Bool.false_eq_true, decide_true, decide_false, Bool.or_true, Bool.true_or, Bool.or_false, Bool.false_or]; rfl)
  | ((repeat' apply And.intro) <;> first | assumption | exact rzb (by omega) | exact szb (by omega) | exact Int.mul_ne_zero (den_ne _) (den_ne _))
  | (exfalso; simp_all; done)
  | (exfalso; grind)
  | omega
  | ((repeat' apply And.intro) <;> first | assumption | exact rzb (by omega) | exact szb (by omega) | exact Int.mul_ne_zero (den_ne _) (den_ne _))
  | skip⟩

instance m_red (a b c : Rat) : DenI Tryz.prog 63 [R a, R b, R c] (rz a ≤ 4000000 ∧ rz b ≤ 4000000 ∧ rz c ≤ 4000000) (Q3 a b (cooC b c)) := ⟨fun hp => by
 have i_a : RzB a 4000000 := ⟨hp.1⟩
 have i_b : RzB b 4000000 := ⟨hp.2.1⟩
 have i_c : RzB c 4000000 := ⟨hp.2.2⟩
 all_goals refine den_of (τ := tab) tab_ok mixed_ Tryz.func63 rfl (by kernel_rfl) (by kernel_rfl) (by kernel_rfl) ?_
 all_goals (repeat' ((try (conv => whnf)); first
  | refine call_0 ?_
  | refine call_i ?_ ?_
  | refine call_c ?_ (fun _ => ?_) (fun _ => ?_)
  | (with_reducible refine onB_t ?_)
  | (with_reducible refine onB_f ?_)
  | (with_reducible refine onB_d (fun _ => ?_) (fun _ => ?_))
  | (with_reducible refine onB_n (fun _ => ?_) (fun _ => ?_))
  | refine OnB.mk (fun _ => ?_) (fun _ => ?_)
  | refine obl_i ?_ ?_
  | refine Drw.mk (by kernel_rfl) ?_
  | refine mks_i ?_ ?_
  | refine slp_i ?_ ?_
  | (with_reducible refine elem_u ?_ ?_)
  | (with_reducible refine elem_0 ?_)
  | (with_reducible refine elem_1 ?_)
  | refine Ends.mk ?_))
 all_goals (try refine Pr.mk ?_)
 all_goals (try simp only [sgnI_lt0, sgnI_zero, sgnI_le0, sgnI_gt0, sgnI_ge0, sgnI_eq1, cmpI_lt0, cmpI_gt0, cmpI_eq0, cmpI_le0, cmpI_ge0, cmpR_of, sgnR_of, sgnR_lt0, sgnR_eq0, sgnR_gt0, sgnR_le0, sgnR_ge0, sgnR_eq1, cmpR_lt0, cmpR_gt0, cmpR_eq0, cmpR_le0, cmpR_ge0] at *)
 all_goals first
  | rfl
  | (simp only [redB, redC, mkA, mkB, mkC, cooC, ptC, *, true_or, or_true, if_true, if_false, or_self, and_self, and_true, true_and, and_false, false_and, not_true, not_false_iff, Bool.false_eq_true, decide_true, decide_false, Bool.or_true, Bool.true_or, Bool.or_false, Bool.false_or]; rfl)
  | ((repeat' apply And.intro) <;> first | assumption | exact rzb (by omega) | exact szb (by omega) | exact Int.mul_ne_zero (den_ne _) (den_ne _))
  | (exfalso; simp_all; done)
  | (exfalso; grind)
  | omega
  | ((repeat' apply And.intro) <;> first | assumption | exact rzb (by omega) | exact szb (by omega) | exact Int.mul_ne_zero (den_ne _) (den_ne _))
  | skip⟩

instance m_make (a b c : Rat) : DenI Tryz.prog 35 [R a, R b, R c] (rz a ≤ 100000 ∧ rz b ≤ 100000 ∧ rz c ≤ 100000 ∧ 0 ≤ c) (.tup [Q3 (mkA a b c) (mkB b c) (mkC b c), .int .i64 0]) := ⟨fun hp => by
 have i_a : RzB a 100000 := ⟨hp.1⟩
 have i_b : RzB b 100000 := ⟨hp.2.1⟩
 have i_c : RzB c 100000 := ⟨hp.2.2.1⟩
 have hpre := hp.2.2.2
 all_goals refine den_of (τ := tab) tab_ok mixed_ Tryz.func35 rfl (by kernel_rfl) (by kernel_rfl) (by kernel_rfl) ?_
 all_goals (repeat' ((try (conv => whnf)); first
  | refine call_0 ?_
  | refine call_i ?_ ?_
  | refine call_c ?_ (fun _ => ?_) (fun _ => ?_)
  | (with_reducible refine onB_t ?_)
  | (with_reducible refine onB_f ?_)
  | (with_reducible refine onB_d (fun _ => ?_) (fun _ => ?_))
  | (with_reducible refine onB_n (fun _ => ?_) (fun _ => ?_))
  | refine OnB.mk (fun _ => ?_) (fun _ => ?_)
  | refine obl_i ?_ ?_
  | refine Drw.mk (by kernel_rfl) ?_
  | refine mks_i ?_ ?_
  | refine slp_i ?_ ?_
  | (with_reducible refine elem_u ?_ ?_)
  | (with_reducible refine elem_0 ?_)
  | (with_reducible refine elem_1 ?_)
  | refine Ends.mk ?_))
 all_goals (try refine Pr.mk ?_)
 all_goals (try simp only [sgnI_lt0, sgnI_zero, sgnI_le0, sgnI_gt0, sgnI_ge0, sgnI_eq1, cmpI_lt0, cmpI_gt0, cmpI_eq0, cmpI_le0, cmpI_ge0, cmpR_of, sgnR_of, sgnR_lt0, sgnR_eq0, sgnR_gt0, sgnR_le0, sgnR_ge0, sgnR_eq1, cmpR_lt0, cmpR_gt0, cmpR_eq0, cmpR_le0, cmpR_ge0] at *)
 all_goals first
  | (exfalso; grind)
  | with_reducible exact mk_1 (by assumption)
  | with_reducible exact mk_0 (by assumption)
  | (refine ⟨rzb (by omega), rzb (by omega), rzb (by omega)⟩)
  | ((repeat' apply And.intro) <;> first | assumption | exact rzb (by omega) | exact szb (by omega) | exact Int.mul_ne_zero (den_ne _) (den_ne _))
  | skip⟩

instance m_over (a b : Rat) : DenI Tryz.prog 109 [R a, R b] (rz a ≤ 4000000 ∧ rz b ≤ 4000000) (R (a / b)) := ⟨fun hp => by
 have i_a : RzB a 4000000 := ⟨hp.1⟩
 have i_b : RzB b 4000000 := ⟨hp.2⟩
 all_goals refine den_of (τ := tab) tab_ok mixed_ Tryz.func109 rfl (by kernel_rfl) (by kernel_rfl) (by kernel_rfl) ?_
 all_goals (repeat' ((try (conv => whnf)); first
  | refine call_0 ?_
  | refine call_i ?_ ?_
  | refine call_c ?_ (fun _ => ?_) (fun _ => ?_)
  | (with_reducible refine onB_t ?_)
  | (with_reducible refine onB_f ?_)
  | (with_reducible refine onB_d (fun _ => ?_) (fun _ => ?_))
  | (with_reducible refine onB_n (fun _ => ?_) (fun _ => ?_))
  | refine OnB.mk (fun _ => ?_) (fun _ => ?_)
  | refine obl_i ?_ ?_
  | refine Drw.mk (by kernel_rfl) ?_
  | refine mks_i ?_ ?_
  | refine slp_i ?_ ?_
  | (with_reducible refine elem_u ?_ ?_)
  | (with_reducible refine elem_0 ?_)
  | (with_reducible refine elem_1 ?_)
  | refine Ends.mk ?_))
 all_goals (try refine Pr.mk ?_)
 all_goals (try simp only [sgnI_lt0, sgnI_zero, sgnI_le0, sgnI_gt0, sgnI_ge0, sgnI_eq1, cmpI_lt0, cmpI_gt0, cmpI_eq0, cmpI_le0, cmpI_ge0, cmpR_of, sgnR_of, sgnR_lt0, sgnR_eq0, sgnR_gt0, sgnR_le0, sgnR_ge0, sgnR_eq1, cmpR_lt0, cmpR_gt0, cmpR_eq0, cmpR_le0, cmpR_ge0] at *)
 all_goals first
  | (subst b; exact congrArg R (div_0 a))
  | (exfalso; simp at *; done)
  | rfl
  | (simp only [redB, redC, mkA, mkB, mkC, cooC, ptC, *, true_or, or_true, if_true, if_false, or_self, and_self, and_true, true_and, and_false, false_and, not_true, not_false_iff, Bool.false_eq_true, decide_true, decide_false, Bool.or_true, Bool.true_or, Bool.or_false, Bool.false_or]; rfl)
  | ((repeat' apply And.intro) <;> first | assumption | exact rzb (by omega) | exact szb (by omega) | exact Int.mul_ne_zero (den_ne _) (den_ne _))
  | (exfalso; simp_all; done)
  | (exfalso; grind)
  | omega
  | ((repeat' apply And.intro) <;> first | assumption | exact rzb (by omega) | exact szb (by omega) | exact Int.mul_ne_zero (den_ne _) (den_ne _))
  | skip⟩

instance g_distance_add (a b : Rat) : DenI Tryz.prog 127 [R a, R b] (rz a ≤ 4000000 ∧ rz b ≤ 4000000) (R (a + b)) := ⟨fun hp => by
 have i_a : RzB a 4000000 := ⟨hp.1⟩
 have i_b : RzB b 4000000 := ⟨hp.2⟩
 all_goals refine den_of (τ := tab) tab_ok mixed_ Tryz.func127 rfl (by kernel_rfl) (by kernel_rfl) (by kernel_rfl) ?_
 all_goals (repeat' ((try (conv => whnf)); first
  | refine call_0 ?_
  | refine call_i ?_ ?_
  | refine call_c ?_ (fun _ => ?_) (fun _ => ?_)
  | (with_reducible refine onB_t ?_)
  | (with_reducible refine onB_f ?_)
  | (with_reducible refine onB_d (fun _ => ?_) (fun _ => ?_))
  | (with_reducible refine onB_n (fun _ => ?_) (fun _ => ?_))
  | refine OnB.mk (fun _ => ?_) (fun _ => ?_)
  | refine obl_i ?_ ?_
  | refine Drw.mk (by kernel_rfl) ?_
  | refine mks_i ?_ ?_
  | refine slp_i ?_ ?_
  | (with_reducible refine elem_u ?_ ?_)
  | (with_reducible refine elem_0 ?_)
  | (with_reducible refine elem_1 ?_)
  | refine Ends.mk ?_))
 all_goals (try refine Pr.mk ?_)
 all_goals (try simp only [sgnI_lt0, sgnI_zero, sgnI_le0, sgnI_gt0, sgnI_ge0, sgnI_eq1, cmpI_lt0, cmpI_gt0, cmpI_eq0, cmpI_le0, cmpI_ge0, cmpR_of, sgnR_of, sgnR_lt0, sgnR_eq0, sgnR_gt0, sgnR_le0, sgnR_ge0, sgnR_eq1, cmpR_lt0, cmpR_gt0, cmpR_eq0, cmpR_le0, cmpR_ge0] at *)
 all_goals first
  | rfl
  | (simp only [redB, redC, mkA, mkB, mkC, cooC, ptC, *, true_or, or_true, if_true, if_false, or_self, and_self, and_true, true_and, and_false, false_and, not_true, not_false_iff, Bool.false_eq_true, decide_true, decide_false, Bool.or_true, Bool.true_or, Bool.or_false, Bool.false_or]; rfl)
  | ((repeat' apply And.intro) <;> first | assumption | exact rzb (by omega) | exact szb (by omega) | exact Int.mul_ne_zero (den_ne _) (den_ne _))
  | (exfalso; simp_all; done)
  | (exfalso; grind)
  | omega
  | ((repeat' apply And.intro) <;> first | assumption | exact rzb (by omega) | exact szb (by omega) | exact Int.mul_ne_zero (den_ne _) (den_ne _))
  | skip⟩

instance g_distance_sub (a b : Rat) : DenI Tryz.prog 126 [R a, R b] (rz a ≤ 4000000 ∧ rz b ≤ 4000000) (R (a - b)) := ⟨fun hp => by
 have i_a : RzB a 4000000 := ⟨hp.1⟩
 have i_b : RzB b 4000000 := ⟨hp.2⟩
 all_goals refine den_of (τ := tab) tab_ok mixed_ Tryz.func126 rfl (by kernel_rfl) (by kernel_rfl) (by kernel_rfl) ?_
 all_goals (repeat' ((try (conv => whnf)); first
  | refine call_0 ?_
  | refine call_i ?_ ?_
  | refine call_c ?_ (fun _ => ?_) (fun _ => ?_)
  | (with_reducible refine onB_t ?_)
  | (with_reducible refine onB_f ?_)
  | (with_reducible refine onB_d (fun _ => ?_) (fun _ => ?_))
  | (with_reducible refine onB_n (fun _ => ?_) (fun _ => ?_))
  | refine OnB.mk (fun _ => ?_) (fun _ => ?_)
  | refine obl_i ?_ ?_
  | refine Drw.mk (by kernel_rfl) ?_
  | refine mks_i ?_ ?_
  | refine slp_i ?_ ?_
  | (with_reducible refine elem_u ?_ ?_)
  | (with_reducible refine elem_0 ?_)
  | (with_reducible refine elem_1 ?_)
  | refine Ends.mk ?_))
 all_goals (try refine Pr.mk ?_)
 all_goals (try simp only [sgnI_lt0, sgnI_zero, sgnI_le0, sgnI_gt0, sgnI_ge0, sgnI_eq1, cmpI_lt0, cmpI_gt0, cmpI_eq0, cmpI_le0, cmpI_ge0, cmpR_of, sgnR_of, sgnR_lt0, sgnR_eq0, sgnR_gt0, sgnR_le0, sgnR_ge0, sgnR_eq1, cmpR_lt0, cmpR_gt0, cmpR_eq0, cmpR_le0, cmpR_ge0] at *)
 all_goals first
  | rfl
  | (simp only [redB, redC, mkA, mkB, mkC, cooC, ptC, *, true_or, or_true, if_true, if_false, or_self, and_self, and_true, true_and, and_false, false_and, not_true, not_false_iff, Bool.false_eq_true, decide_true, decide_false, Bool.or_true, Bool.true_or, Bool.or_false, Bool.false_or]; rfl)
  | ((repeat' apply And.intro) <;> first | assumption | exact rzb (by omega) | exact szb (by omega) | exact Int.mul_ne_zero (den_ne _) (den_ne _))
  | (exfalso; simp_all; done)
  | (exfalso; grind)
  | omega
  | ((repeat' apply And.intro) <;> first | assumption | exact rzb (by omega) | exact szb (by omega) | exact Int.mul_ne_zero (den_ne _) (den_ne _))
  | skip⟩

instance g_distance_mul (a b : Rat) : DenI Tryz.prog 110 [R a, R b] (rz a ≤ 4000000 ∧ rz b ≤ 4000000) (R (a * b)) := ⟨fun hp => by
 have i_a : RzB a 4000000 := ⟨hp.1⟩
 have i_b : RzB b 4000000 := ⟨hp.2⟩
 all_goals refine den_of (τ := tab) tab_ok mixed_ Tryz.func110 rfl (by kernel_rfl) (by kernel_rfl) (by kernel_rfl) ?_
 all_goals (repeat' ((try (conv => whnf)); first
  | refine call_0 ?_
  | refine call_i ?_ ?_
  | refine call_c ?_ (fun _ => ?_) (fun _ => ?_)
  | (with_reducible refine onB_t ?_)
  | (with_reducible refine onB_f ?_)
  | (with_reducible refine onB_d (fun _ => ?_) (fun _ => ?_))
  | (with_reducible refine onB_n (fun _ => ?_) (fun _ => ?_))
  | refine OnB.mk (fun _ => ?_) (fun _ => ?_)
  | refine obl_i ?_ ?_
  | refine Drw.mk (by kernel_rfl) ?_
  | refine mks_i ?_ ?_
  | refine slp_i ?_ ?_
  | (with_reducible refine elem_u ?_ ?_)
  | (with_reducible refine elem_0 ?_)
  | (with_reducible refine elem_1 ?_)
  | refine Ends.mk ?_))
 all_goals (try refine Pr.mk ?_)
 all_goals (try simp only [sgnI_lt0, sgnI_zero, sgnI_le0, sgnI_gt0, sgnI_ge0, sgnI_eq1, cmpI_lt0, cmpI_gt0, cmpI_eq0, cmpI_le0, cmpI_ge0, cmpR_of, sgnR_of, sgnR_lt0, sgnR_eq0, sgnR_gt0, sgnR_le0, sgnR_ge0, sgnR_eq1, cmpR_lt0, cmpR_gt0, cmpR_eq0, cmpR_le0, cmpR_ge0] at *)
 all_goals first
  | rfl
  | (simp only [redB, redC, mkA, mkB, mkC, cooC, ptC, *, true_or, or_true, if_true, if_false, or_self, and_self, and_true, true_and, and_false, false_and, not_true, not_false_iff, Bool.false_eq_true, decide_true, decide_false, Bool.or_true, Bool.true_or, Bool.or_false, Bool.false_or]; rfl)
  | ((repeat' apply And.intro) <;> first | assumption | exact rzb (by omega) | exact szb (by omega) | exact Int.mul_ne_zero (den_ne _) (den_ne _))
  | (exfalso; simp_all; done)
  | (exfalso; grind)
  | omega
  | ((repeat' apply And.intro) <;> first | assumption | exact rzb (by omega) | exact szb (by omega) | exact Int.mul_ne_zero (den_ne _) (den_ne _))
  | skip⟩

instance g_distance_way (a b c d : Rat) : DenI Tryz.prog 106 [Q2 a b, Q2 c d] (rz a ≤ 4000000 ∧ rz b ≤ 4000000 ∧ rz c ≤ 4000000 ∧ rz d ≤ 4000000) (Q2 (c - a) (d - b)) := ⟨fun hp => by
 have i_a : RzB a 4000000 := ⟨hp.1⟩
 have i_b : RzB b 4000000 := ⟨hp.2.1⟩
 have i_c : RzB c 4000000 := ⟨hp.2.2.1⟩
 have i_d : RzB d 4000000 := ⟨hp.2.2.2⟩
 all_goals refine den_of (τ := tab) tab_ok mixed_ Tryz.func106 rfl (by kernel_rfl) (by kernel_rfl) (by kernel_rfl) ?_
 all_goals (repeat' ((try (conv => whnf)); first
  | refine call_0 ?_
  | refine call_i ?_ ?_
  | refine call_c ?_ (fun _ => ?_) (fun _ => ?_)
  | (with_reducible refine onB_t ?_)
  | (with_reducible refine onB_f ?_)
  | (with_reducible refine onB_d (fun _ => ?_) (fun _ => ?_))
  | (with_reducible refine onB_n (fun _ => ?_) (fun _ => ?_))
  | refine OnB.mk (fun _ => ?_) (fun _ => ?_)
  | refine obl_i ?_ ?_
  | refine Drw.mk (by kernel_rfl) ?_
  | refine mks_i ?_ ?_
  | refine slp_i ?_ ?_
  | (with_reducible refine elem_u ?_ ?_)
  | (with_reducible refine elem_0 ?_)
  | (with_reducible refine elem_1 ?_)
  | refine Ends.mk ?_))
 all_goals (try refine Pr.mk ?_)
 all_goals (try simp only [sgnI_lt0, sgnI_zero, sgnI_le0, sgnI_gt0, sgnI_ge0, sgnI_eq1, cmpI_lt0, cmpI_gt0, cmpI_eq0, cmpI_le0, cmpI_ge0, cmpR_of, sgnR_of, sgnR_lt0, sgnR_eq0, sgnR_gt0, sgnR_le0, sgnR_ge0, sgnR_eq1, cmpR_lt0, cmpR_gt0, cmpR_eq0, cmpR_le0, cmpR_ge0] at *)
 all_goals first
  | rfl
  | (simp only [redB, redC, mkA, mkB, mkC, cooC, ptC, *, true_or, or_true, if_true, if_false, or_self, and_self, and_true, true_and, and_false, false_and, not_true, not_false_iff, Bool.false_eq_true, decide_true, decide_false, Bool.or_true, Bool.true_or, Bool.or_false, Bool.false_or]; rfl)
  | ((repeat' apply And.intro) <;> first | assumption | exact rzb (by omega) | exact szb (by omega) | exact Int.mul_ne_zero (den_ne _) (den_ne _))
  | (exfalso; simp_all; done)
  | (exfalso; grind)
  | omega
  | ((repeat' apply And.intro) <;> first | assumption | exact rzb (by omega) | exact szb (by omega) | exact Int.mul_ne_zero (den_ne _) (den_ne _))
  | skip⟩

instance g_distance_dot (a b c d : Rat) : DenI Tryz.prog 108 [Q2 a b, Q2 c d] (rz a ≤ 1000000 ∧ rz b ≤ 1000000 ∧ rz c ≤ 1000000 ∧ rz d ≤ 1000000) (R (a * c + b * d)) := ⟨fun hp => by
 have i_a : RzB a 1000000 := ⟨hp.1⟩
 have i_b : RzB b 1000000 := ⟨hp.2.1⟩
 have i_c : RzB c 1000000 := ⟨hp.2.2.1⟩
 have i_d : RzB d 1000000 := ⟨hp.2.2.2⟩
 all_goals refine den_of (τ := tab) tab_ok mixed_ Tryz.func108 rfl (by kernel_rfl) (by kernel_rfl) (by kernel_rfl) ?_
 all_goals (repeat' ((try (conv => whnf)); first
  | refine call_0 ?_
  | refine call_i ?_ ?_
  | refine call_c ?_ (fun _ => ?_) (fun _ => ?_)
  | (with_reducible refine onB_t ?_)
  | (with_reducible refine onB_f ?_)
  | (with_reducible refine onB_d (fun _ => ?_) (fun _ => ?_))
  | (with_reducible refine onB_n (fun _ => ?_) (fun _ => ?_))
  | refine OnB.mk (fun _ => ?_) (fun _ => ?_)
  | refine obl_i ?_ ?_
  | refine Drw.mk (by kernel_rfl) ?_
  | refine mks_i ?_ ?_
  | refine slp_i ?_ ?_
  | (with_reducible refine elem_u ?_ ?_)
  | (with_reducible refine elem_0 ?_)
  | (with_reducible refine elem_1 ?_)
  | refine Ends.mk ?_))
 all_goals (try refine Pr.mk ?_)
 all_goals (try simp only [sgnI_lt0, sgnI_zero, sgnI_le0, sgnI_gt0, sgnI_ge0, sgnI_eq1, cmpI_lt0, cmpI_gt0, cmpI_eq0, cmpI_le0, cmpI_ge0, cmpR_of, sgnR_of, sgnR_lt0, sgnR_eq0, sgnR_gt0, sgnR_le0, sgnR_ge0, sgnR_eq1, cmpR_lt0, cmpR_gt0, cmpR_eq0, cmpR_le0, cmpR_ge0] at *)
 all_goals first
  | rfl
  | (simp only [redB, redC, mkA, mkB, mkC, cooC, ptC, *, true_or, or_true, if_true, if_false, or_self, and_self, and_true, true_and, and_false, false_and, not_true, not_false_iff, Bool.false_eq_true, decide_true, decide_false, Bool.or_true, Bool.true_or, Bool.or_false, Bool.false_or]; rfl)
  | ((repeat' apply And.intro) <;> first | assumption | exact rzb (by omega) | exact szb (by omega) | exact Int.mul_ne_zero (den_ne _) (den_ne _))
  | (exfalso; simp_all; done)
  | (exfalso; grind)
  | omega
  | ((repeat' apply And.intro) <;> first | assumption | exact rzb (by omega) | exact szb (by omega) | exact Int.mul_ne_zero (den_ne _) (den_ne _))
  | skip⟩

instance g_distance_cross (a b c d : Rat) : DenI Tryz.prog 107 [Q2 a b, Q2 c d] (rz a ≤ 1000000 ∧ rz b ≤ 1000000 ∧ rz c ≤ 1000000 ∧ rz d ≤ 1000000) (R (a * d - b * c)) := ⟨fun hp => by
 have i_a : RzB a 1000000 := ⟨hp.1⟩
 have i_b : RzB b 1000000 := ⟨hp.2.1⟩
 have i_c : RzB c 1000000 := ⟨hp.2.2.1⟩
 have i_d : RzB d 1000000 := ⟨hp.2.2.2⟩
 all_goals refine den_of (τ := tab) tab_ok mixed_ Tryz.func107 rfl (by kernel_rfl) (by kernel_rfl) (by kernel_rfl) ?_
 all_goals (repeat' ((try (conv => whnf)); first
  | refine call_0 ?_
  | refine call_i ?_ ?_
  | refine call_c ?_ (fun _ => ?_) (fun _ => ?_)
  | (with_reducible refine onB_t ?_)
  | (with_reducible refine onB_f ?_)
  | (with_reducible refine onB_d (fun _ => ?_) (fun _ => ?_))
  | (with_reducible refine onB_n (fun _ => ?_) (fun _ => ?_))
  | refine OnB.mk (fun _ => ?_) (fun _ => ?_)
  | refine obl_i ?_ ?_
  | refine Drw.mk (by kernel_rfl) ?_
  | refine mks_i ?_ ?_
  | refine slp_i ?_ ?_
  | (with_reducible refine elem_u ?_ ?_)
  | (with_reducible refine elem_0 ?_)
  | (with_reducible refine elem_1 ?_)
  | refine Ends.mk ?_))
 all_goals (try refine Pr.mk ?_)
 all_goals (try simp only [sgnI_lt0, sgnI_zero, sgnI_le0, sgnI_gt0, sgnI_ge0, sgnI_eq1, cmpI_lt0, cmpI_gt0, cmpI_eq0, cmpI_le0, cmpI_ge0, cmpR_of, sgnR_of, sgnR_lt0, sgnR_eq0, sgnR_gt0, sgnR_le0, sgnR_ge0, sgnR_eq1, cmpR_lt0, cmpR_gt0, cmpR_eq0, cmpR_le0, cmpR_ge0] at *)
 all_goals first
  | rfl
  | (simp only [redB, redC, mkA, mkB, mkC, cooC, ptC, *, true_or, or_true, if_true, if_false, or_self, and_self, and_true, true_and, and_false, false_and, not_true, not_false_iff, Bool.false_eq_true, decide_true, decide_false, Bool.or_true, Bool.true_or, Bool.or_false, Bool.false_or]; rfl)
  | ((repeat' apply And.intro) <;> first | assumption | exact rzb (by omega) | exact szb (by omega) | exact Int.mul_ne_zero (den_ne _) (den_ne _))
  | (exfalso; simp_all; done)
  | (exfalso; grind)
  | omega
  | ((repeat' apply And.intro) <;> first | assumption | exact rzb (by omega) | exact szb (by omega) | exact Int.mul_ne_zero (den_ne _) (den_ne _))
  | skip⟩

end Go.Proofs.YtigbdpkpaleboaaGreatDoor

namespace Go.Proofs.YtigbdpkpaleboaaGreatDoor
open Go Go.RowKit Go.Sw
set_option linter.unusedVariables false
set_option maxRecDepth 100000
set_option maxHeartbeats 8000000
set_option synthInstance.maxSize 4000
set_option synthInstance.maxHeartbeats 400000
instance g_distance_cr (a b c d x y : Rat) : DenI Tryz.prog 77 [Q2 a b, Q2 c d, Q2 x y, Q2 x y] (rz a ≤ 20000 ∧ rz b ≤ 20000 ∧ rz c ≤ 20000 ∧ rz d ≤ 20000 ∧ rz x ≤ 20000 ∧ rz y ≤ 20000) (.bool false) := ⟨fun hp => by
 have i_a : RzB a 20000 := ⟨hp.1⟩
 have i_b : RzB b 20000 := ⟨hp.2.1⟩
 have i_c : RzB c 20000 := ⟨hp.2.2.1⟩
 have i_d : RzB d 20000 := ⟨hp.2.2.2.1⟩
 have i_x : RzB x 20000 := ⟨hp.2.2.2.2.1⟩
 have i_y : RzB y 20000 := ⟨hp.2.2.2.2.2⟩
 all_goals refine den_of (τ := tab) tab_ok mixed_ Tryz.func77 rfl (by kernel_rfl) (by kernel_rfl) (by kernel_rfl) ?_
 all_goals (repeat' ((try (conv => whnf)); first
  | refine call_0 ?_
  | refine call_i ?_ ?_
  | refine call_c ?_ (fun _ => ?_) (fun _ => ?_)
  | (with_reducible refine onB_t ?_)
  | (with_reducible refine onB_f ?_)
  | (with_reducible refine onB_d (fun _ => ?_) (fun _ => ?_))
  | (with_reducible refine onB_n (fun _ => ?_) (fun _ => ?_))
  | refine OnB.mk (fun _ => ?_) (fun _ => ?_)
  | refine obl_i ?_ ?_
  | refine Drw.mk (by kernel_rfl) ?_
  | refine mks_i ?_ ?_
  | refine slp_i ?_ ?_
  | (with_reducible refine elem_u ?_ ?_)
  | (with_reducible refine elem_0 ?_)
  | (with_reducible refine elem_1 ?_)
  | refine Ends.mk ?_))
 all_goals (try refine Pr.mk ?_)
 all_goals (try simp only [sgnI_lt0, sgnI_zero, sgnI_le0, sgnI_gt0, sgnI_ge0, sgnI_eq1, cmpI_lt0, cmpI_gt0, cmpI_eq0, cmpI_le0, cmpI_ge0, cmpR_of, sgnR_of, sgnR_lt0, sgnR_eq0, sgnR_gt0, sgnR_le0, sgnR_ge0, sgnR_eq1, cmpR_lt0, cmpR_gt0, cmpR_eq0, cmpR_le0, cmpR_ge0] at *)
 all_goals (try simp only [w_ss, w_sc, w_xs, w_xx] at *)
 all_goals first
  | rfl
  | (exfalso; with_reducible exact ss_nn (by assumption))
  | ((repeat' apply And.intro) <;> first | assumption | exact rzb (by omega) | exact szb (by omega) | exact Int.mul_ne_zero (den_ne _) (den_ne _))
  | ((repeat' apply And.intro) <;> first | assumption | exact rzb (by omega) | exact szb (by omega) | exact Int.mul_ne_zero (den_ne _) (den_ne _))
  | skip⟩

instance g_distance_to (a b c d x y : Rat) : DenI Tryz.prog 78 [Q2 a b, Q2 c d, Q2 x y] (rz a ≤ 20000 ∧ rz b ≤ 20000 ∧ rz c ≤ 20000 ∧ rz d ≤ 20000 ∧ rz x ≤ 20000 ∧ rz y ≤ 20000) (R (segD a b c d x y)) := ⟨fun hp => by
 have i_a : RzB a 20000 := ⟨hp.1⟩
 have i_b : RzB b 20000 := ⟨hp.2.1⟩
 have i_c : RzB c 20000 := ⟨hp.2.2.1⟩
 have i_d : RzB d 20000 := ⟨hp.2.2.2.1⟩
 have i_x : RzB x 20000 := ⟨hp.2.2.2.2.1⟩
 have i_y : RzB y 20000 := ⟨hp.2.2.2.2.2⟩
 all_goals refine den_of (τ := tab) tab_ok mixed_ Tryz.func78 rfl (by kernel_rfl) (by kernel_rfl) (by kernel_rfl) ?_
 all_goals (repeat' ((try (conv => whnf)); first
  | refine call_0 ?_
  | refine call_i ?_ ?_
  | refine call_c ?_ (fun _ => ?_) (fun _ => ?_)
  | (with_reducible refine onB_t ?_)
  | (with_reducible refine onB_f ?_)
  | (with_reducible refine onB_d (fun _ => ?_) (fun _ => ?_))
  | (with_reducible refine onB_n (fun _ => ?_) (fun _ => ?_))
  | refine OnB.mk (fun _ => ?_) (fun _ => ?_)
  | refine obl_i ?_ ?_
  | refine Drw.mk (by kernel_rfl) ?_
  | refine mks_i ?_ ?_
  | refine slp_i ?_ ?_
  | (with_reducible refine elem_u ?_ ?_)
  | (with_reducible refine elem_0 ?_)
  | (with_reducible refine elem_1 ?_)
  | refine Ends.mk ?_))
 all_goals (try refine Pr.mk ?_)
 all_goals (try simp only [sgnI_lt0, sgnI_zero, sgnI_le0, sgnI_gt0, sgnI_ge0, sgnI_eq1, cmpI_lt0, cmpI_gt0, cmpI_eq0, cmpI_le0, cmpI_ge0, cmpR_of, sgnR_of, sgnR_lt0, sgnR_eq0, sgnR_gt0, sgnR_le0, sgnR_ge0, sgnR_eq1, cmpR_lt0, cmpR_gt0, cmpR_eq0, cmpR_le0, cmpR_ge0] at *)
 all_goals first
  | with_reducible exact seg_1 (by assumption)
  | with_reducible exact seg_2 (by assumption) (by assumption)
  | with_reducible exact seg_3 (by assumption) (by assumption)
  | (refine ⟨rzb (by omega), rzb (by omega), fun h => seg_n0 h (by assumption) (by assumption)⟩)
  | ((repeat' apply And.intro) <;> first | assumption | exact rzb (by omega) | exact szb (by omega) | exact Int.mul_ne_zero (den_ne _) (den_ne _))
  | ((repeat' apply And.intro) <;> first | assumption | exact rzb (by omega) | exact szb (by omega) | exact Int.mul_ne_zero (den_ne _) (den_ne _))
  | skip⟩

instance g_distance_sg (a b c d x y : Rat) : DenI Tryz.prog 50 [Q2 a b, Q2 c d, Q2 x y, Q2 x y] (rz a ≤ 1000 ∧ rz b ≤ 1000 ∧ rz c ≤ 1000 ∧ rz d ≤ 1000 ∧ rz x ≤ 1000 ∧ rz y ≤ 1000) (R (segD a b c d x y)) := ⟨fun hp => by
 have i_a : RzB a 1000 := ⟨hp.1⟩
 have i_b : RzB b 1000 := ⟨hp.2.1⟩
 have i_c : RzB c 1000 := ⟨hp.2.2.1⟩
 have i_d : RzB d 1000 := ⟨hp.2.2.2.1⟩
 have i_x : RzB x 1000 := ⟨hp.2.2.2.2.1⟩
 have i_y : RzB y 1000 := ⟨hp.2.2.2.2.2⟩
 all_goals refine den_of (τ := tab) tab_ok mixed_ Tryz.func50 rfl (by kernel_rfl) (by kernel_rfl) (by kernel_rfl) ?_
 all_goals (repeat' ((try (conv => whnf)); first
  | refine call_0 ?_
  | refine call_i ?_ ?_
  | refine call_c ?_ (fun _ => ?_) (fun _ => ?_)
  | (with_reducible refine onB_t ?_)
  | (with_reducible refine onB_f ?_)
  | (with_reducible refine onB_d (fun _ => ?_) (fun _ => ?_))
  | (with_reducible refine onB_n (fun _ => ?_) (fun _ => ?_))
  | refine OnB.mk (fun _ => ?_) (fun _ => ?_)
  | refine obl_i ?_ ?_
  | refine Drw.mk (by kernel_rfl) ?_
  | refine mks_i ?_ ?_
  | refine slp_i ?_ ?_
  | (with_reducible refine elem_u ?_ ?_)
  | (with_reducible refine elem_0 ?_)
  | (with_reducible refine elem_1 ?_)
  | refine Ends.mk ?_))
 all_goals (try refine Pr.mk ?_)
 all_goals first
  | ((conv => whnf); refine Sw.Loop.unroll ?_)
  | skip
 all_goals (repeat' ((try rw [w01]); (try rw [w11]); (try rw [w21]); (try rw [w31]); (try rw [w41]); (try rw [w51]); (try (conv => whnf)); first
  | refine call_0 ?_
  | refine call_i ?_ ?_
  | refine call_c ?_ (fun _ => ?_) (fun _ => ?_)
  | (with_reducible refine onB_t ?_)
  | (with_reducible refine onB_f ?_)
  | refine onB_dy (by first | decide | (simp only [List.length_cons, List.length_nil]; done) | (simp only [List.length_cons, List.length_nil]; decide)) ?_
  | refine onB_dn (by first | decide | (simp only [List.length_cons, List.length_nil]; done) | (simp only [List.length_cons, List.length_nil]; decide)) ?_
  | (with_reducible refine onB_d (fun _ => ?_) (fun _ => ?_))
  | (with_reducible refine onB_n (fun _ => ?_) (fun _ => ?_))
  | refine OnB.mk (fun _ => ?_) (fun _ => ?_)
  | refine obl_i ?_ ?_
  | refine Drw.mk (by kernel_rfl) ?_
  | refine mks_i ?_ ?_
  | refine slp_i ?_ ?_
  | (with_reducible refine elem_u ?_ ?_)
  | (with_reducible refine elem_0 ?_)
  | (with_reducible refine elem_1 ?_)
  | (with_reducible refine elem_2 ?_)
  | (with_reducible refine elem_3 ?_)
  | (with_reducible refine elem_4 ?_)
  | (with_reducible refine elem_5 ?_)
  | refine Ends.mk ?_))
 all_goals (try refine Pr.mk ?_)
 all_goals first
  | ((conv => whnf); refine Sw.Loop.unroll ?_)
  | skip
 all_goals (repeat' ((try rw [w01]); (try rw [w11]); (try rw [w21]); (try rw [w31]); (try rw [w41]); (try rw [w51]); (try (conv => whnf)); first
  | refine call_0 ?_
  | refine call_i ?_ ?_
  | refine call_c ?_ (fun _ => ?_) (fun _ => ?_)
  | (with_reducible refine onB_t ?_)
  | (with_reducible refine onB_f ?_)
  | refine onB_dy (by first | decide | (simp only [List.length_cons, List.length_nil]; done) | (simp only [List.length_cons, List.length_nil]; decide)) ?_
  | refine onB_dn (by first | decide | (simp only [List.length_cons, List.length_nil]; done) | (simp only [List.length_cons, List.length_nil]; decide)) ?_
  | (with_reducible refine onB_d (fun _ => ?_) (fun _ => ?_))
  | (with_reducible refine onB_n (fun _ => ?_) (fun _ => ?_))
  | refine OnB.mk (fun _ => ?_) (fun _ => ?_)
  | refine obl_i ?_ ?_
  | refine Drw.mk (by kernel_rfl) ?_
  | refine mks_i ?_ ?_
  | refine slp_i ?_ ?_
  | (with_reducible refine elem_u ?_ ?_)
  | (with_reducible refine elem_0 ?_)
  | (with_reducible refine elem_1 ?_)
  | (with_reducible refine elem_2 ?_)
  | (with_reducible refine elem_3 ?_)
  | (with_reducible refine elem_4 ?_)
  | (with_reducible refine elem_5 ?_)
  | refine Ends.mk ?_))
 all_goals (try refine Pr.mk ?_)
 all_goals first
  | ((conv => whnf); refine Sw.Loop.unroll ?_)
  | skip
 all_goals (repeat' ((try rw [w01]); (try rw [w11]); (try rw [w21]); (try rw [w31]); (try rw [w41]); (try rw [w51]); (try (conv => whnf)); first
  | refine call_0 ?_
  | refine call_i ?_ ?_
  | refine call_c ?_ (fun _ => ?_) (fun _ => ?_)
  | (with_reducible refine onB_t ?_)
  | (with_reducible refine onB_f ?_)
  | refine onB_dy (by first | decide | (simp only [List.length_cons, List.length_nil]; done) | (simp only [List.length_cons, List.length_nil]; decide)) ?_
  | refine onB_dn (by first | decide | (simp only [List.length_cons, List.length_nil]; done) | (simp only [List.length_cons, List.length_nil]; decide)) ?_
  | (with_reducible refine onB_d (fun _ => ?_) (fun _ => ?_))
  | (with_reducible refine onB_n (fun _ => ?_) (fun _ => ?_))
  | refine OnB.mk (fun _ => ?_) (fun _ => ?_)
  | refine obl_i ?_ ?_
  | refine Drw.mk (by kernel_rfl) ?_
  | refine mks_i ?_ ?_
  | refine slp_i ?_ ?_
  | (with_reducible refine elem_u ?_ ?_)
  | (with_reducible refine elem_0 ?_)
  | (with_reducible refine elem_1 ?_)
  | (with_reducible refine elem_2 ?_)
  | (with_reducible refine elem_3 ?_)
  | (with_reducible refine elem_4 ?_)
  | (with_reducible refine elem_5 ?_)
  | refine Ends.mk ?_))
 all_goals (try refine Pr.mk ?_)
 all_goals first
  | ((conv => whnf); refine Sw.Loop.unroll ?_)
  | skip
 all_goals (repeat' ((try rw [w01]); (try rw [w11]); (try rw [w21]); (try rw [w31]); (try rw [w41]); (try rw [w51]); (try (conv => whnf)); first
  | refine call_0 ?_
  | refine call_i ?_ ?_
  | refine call_c ?_ (fun _ => ?_) (fun _ => ?_)
  | (with_reducible refine onB_t ?_)
  | (with_reducible refine onB_f ?_)
  | refine onB_dy (by first | decide | (simp only [List.length_cons, List.length_nil]; done) | (simp only [List.length_cons, List.length_nil]; decide)) ?_
  | refine onB_dn (by first | decide | (simp only [List.length_cons, List.length_nil]; done) | (simp only [List.length_cons, List.length_nil]; decide)) ?_
  | (with_reducible refine onB_d (fun _ => ?_) (fun _ => ?_))
  | (with_reducible refine onB_n (fun _ => ?_) (fun _ => ?_))
  | refine OnB.mk (fun _ => ?_) (fun _ => ?_)
  | refine obl_i ?_ ?_
  | refine Drw.mk (by kernel_rfl) ?_
  | refine mks_i ?_ ?_
  | refine slp_i ?_ ?_
  | (with_reducible refine elem_u ?_ ?_)
  | (with_reducible refine elem_0 ?_)
  | (with_reducible refine elem_1 ?_)
  | (with_reducible refine elem_2 ?_)
  | (with_reducible refine elem_3 ?_)
  | (with_reducible refine elem_4 ?_)
  | (with_reducible refine elem_5 ?_)
  | refine Ends.mk ?_))
 all_goals (try refine Pr.mk ?_)
 all_goals (try simp only [sgnI_lt0, sgnI_zero, sgnI_le0, sgnI_gt0, sgnI_ge0, sgnI_eq1, cmpI_lt0, cmpI_gt0, cmpI_eq0, cmpI_le0, cmpI_ge0, cmpR_of, sgnR_of, sgnR_lt0, sgnR_eq0, sgnR_gt0, sgnR_le0, sgnR_ge0, sgnR_eq1, cmpR_lt0, cmpR_gt0, cmpR_eq0, cmpR_le0, cmpR_ge0] at *)
 all_goals (try simp only [List.length_map, List.length_cons, List.length_nil] at *)
 all_goals first
  | rfl
  | (exfalso; with_reducible exact sg_n1 (by assumption))
  | (exfalso; with_reducible exact sg_n2 (by assumption))
  | (exfalso; with_reducible exact sg_n3 (by assumption))
  | ((repeat' apply And.intro) <;> first | assumption | exact rzb (by omega) | exact szb (by omega) | exact Int.mul_ne_zero (den_ne _) (den_ne _))
  | skip⟩

end Go.Proofs.YtigbdpkpaleboaaGreatDoor

namespace Go.Proofs.YtigbdpkpaleboaaGreatDoor
open Go Go.RowKit Go.Sw
set_option linter.unusedVariables false
set_option maxRecDepth 100000
set_option maxHeartbeats 8000000
set_option synthInstance.maxSize 4000
set_option synthInstance.maxHeartbeats 400000

end Go.Proofs.YtigbdpkpaleboaaGreatDoor

namespace Go.Proofs.YtigbdpkpaleboaaGreatDoor
open Go Go.RowKit Go.Sw
set_option linter.unusedVariables false
set_option maxRecDepth 100000
set_option maxHeartbeats 8000000
set_option synthInstance.maxSize 4000
set_option synthInstance.maxHeartbeats 400000
instance n_num (n : Int)  : DenI Tryz.prog 31 [.int .i64 n] (-9223372036854775808 ≤ n ∧ n ≤ 9223372036854775807) (R (n : Rat)) := ⟨fun hp => by
 refine den_of (τ := tab) tab_ok mixed_ Tryz.func31 rfl (by kernel_rfl) (by kernel_rfl) (by kernel_rfl) ?_
 all_goals (repeat' ((try (conv => whnf)); first
  | refine call_0 ?_
  | refine call_i ?_ ?_
  | refine call_c ?_ (fun _ => ?_) (fun _ => ?_)
  | (with_reducible refine onB_t ?_)
  | (with_reducible refine onB_f ?_)
  | (with_reducible refine onB_d (fun _ => ?_) (fun _ => ?_))
  | (with_reducible refine onB_n (fun _ => ?_) (fun _ => ?_))
  | refine OnB.mk (fun _ => ?_) (fun _ => ?_)
  | refine obl_i ?_ ?_
  | refine Drw.mk (by kernel_rfl) ?_
  | refine mks_i ?_ ?_
  | refine slp_i ?_ ?_
  | (with_reducible refine elem_u ?_ ?_)
  | (with_reducible refine elem_0 ?_)
  | (with_reducible refine elem_1 ?_)
  | refine Ends.mk ?_))
 all_goals (try refine Pr.mk ?_)
 all_goals (try simp only [sgnI_lt0, sgnI_zero, sgnI_le0, sgnI_gt0, sgnI_ge0, sgnI_eq1, cmpI_lt0, cmpI_gt0, cmpI_eq0, cmpI_le0, cmpI_ge0, cmpR_of, sgnR_of, sgnR_lt0, sgnR_eq0, sgnR_gt0, sgnR_le0, sgnR_ge0, sgnR_eq1, cmpR_lt0, cmpR_gt0, cmpR_eq0, cmpR_le0, cmpR_ge0] at *)
 all_goals first
  | rfl
  | (simp only [redB, redC, mkA, mkB, mkC, cooC, ptC, *, true_or, or_true, if_true, if_false, or_self, and_self, and_true, true_and, and_false, false_and, not_true, not_false_iff, Bool.false_eq_true, decide_true, decide_false, Bool.or_true, Bool.true_or, Bool.or_false, Bool.false_or]; rfl)
  | ((repeat' apply And.intro) <;> first | assumption | exact rzb (by omega) | exact szb (by omega) | exact Int.mul_ne_zero (den_ne _) (den_ne _))
  | (exfalso; simp_all; done)
  | (exfalso; grind)
  | omega
  | ((repeat' apply And.intro) <;> first | assumption | exact rzb (by omega) | exact szb (by omega) | exact Int.mul_ne_zero (den_ne _) (den_ne _))
  | skip⟩

instance g_material_add (a b : Rat) : DenI Tryz.prog 55 [R a, R b] (rz a ≤ 4000000 ∧ rz b ≤ 4000000) (R (a + b)) := ⟨fun hp => by
 have i_a : RzB a 4000000 := ⟨hp.1⟩
 have i_b : RzB b 4000000 := ⟨hp.2⟩
 all_goals refine den_of (τ := tab) tab_ok mixed_ Tryz.func55 rfl (by kernel_rfl) (by kernel_rfl) (by kernel_rfl) ?_
 all_goals (repeat' ((try (conv => whnf)); first
  | refine call_0 ?_
  | refine call_i ?_ ?_
  | refine call_c ?_ (fun _ => ?_) (fun _ => ?_)
  | (with_reducible refine onB_t ?_)
  | (with_reducible refine onB_f ?_)
  | (with_reducible refine onB_d (fun _ => ?_) (fun _ => ?_))
  | (with_reducible refine onB_n (fun _ => ?_) (fun _ => ?_))
  | refine OnB.mk (fun _ => ?_) (fun _ => ?_)
  | refine obl_i ?_ ?_
  | refine Drw.mk (by kernel_rfl) ?_
  | refine mks_i ?_ ?_
  | refine slp_i ?_ ?_
  | (with_reducible refine elem_u ?_ ?_)
  | (with_reducible refine elem_0 ?_)
  | (with_reducible refine elem_1 ?_)
  | refine Ends.mk ?_))
 all_goals (try refine Pr.mk ?_)
 all_goals (try simp only [sgnI_lt0, sgnI_zero, sgnI_le0, sgnI_gt0, sgnI_ge0, sgnI_eq1, cmpI_lt0, cmpI_gt0, cmpI_eq0, cmpI_le0, cmpI_ge0, cmpR_of, sgnR_of, sgnR_lt0, sgnR_eq0, sgnR_gt0, sgnR_le0, sgnR_ge0, sgnR_eq1, cmpR_lt0, cmpR_gt0, cmpR_eq0, cmpR_le0, cmpR_ge0] at *)
 all_goals first
  | rfl
  | (simp only [redB, redC, mkA, mkB, mkC, cooC, ptC, *, true_or, or_true, if_true, if_false, or_self, and_self, and_true, true_and, and_false, false_and, not_true, not_false_iff, Bool.false_eq_true, decide_true, decide_false, Bool.or_true, Bool.true_or, Bool.or_false, Bool.false_or]; rfl)
  | ((repeat' apply And.intro) <;> first | assumption | exact rzb (by omega) | exact szb (by omega) | exact Int.mul_ne_zero (den_ne _) (den_ne _))
  | (exfalso; simp_all; done)
  | (exfalso; grind)
  | omega
  | ((repeat' apply And.intro) <;> first | assumption | exact rzb (by omega) | exact szb (by omega) | exact Int.mul_ne_zero (den_ne _) (den_ne _))
  | skip⟩

instance g_material_sub (a b : Rat) : DenI Tryz.prog 33 [R a, R b] (rz a ≤ 4000000 ∧ rz b ≤ 4000000) (R (a - b)) := ⟨fun hp => by
 have i_a : RzB a 4000000 := ⟨hp.1⟩
 have i_b : RzB b 4000000 := ⟨hp.2⟩
 all_goals refine den_of (τ := tab) tab_ok mixed_ Tryz.func33 rfl (by kernel_rfl) (by kernel_rfl) (by kernel_rfl) ?_
 all_goals (repeat' ((try (conv => whnf)); first
  | refine call_0 ?_
  | refine call_i ?_ ?_
  | refine call_c ?_ (fun _ => ?_) (fun _ => ?_)
  | (with_reducible refine onB_t ?_)
  | (with_reducible refine onB_f ?_)
  | (with_reducible refine onB_d (fun _ => ?_) (fun _ => ?_))
  | (with_reducible refine onB_n (fun _ => ?_) (fun _ => ?_))
  | refine OnB.mk (fun _ => ?_) (fun _ => ?_)
  | refine obl_i ?_ ?_
  | refine Drw.mk (by kernel_rfl) ?_
  | refine mks_i ?_ ?_
  | refine slp_i ?_ ?_
  | (with_reducible refine elem_u ?_ ?_)
  | (with_reducible refine elem_0 ?_)
  | (with_reducible refine elem_1 ?_)
  | refine Ends.mk ?_))
 all_goals (try refine Pr.mk ?_)
 all_goals (try simp only [sgnI_lt0, sgnI_zero, sgnI_le0, sgnI_gt0, sgnI_ge0, sgnI_eq1, cmpI_lt0, cmpI_gt0, cmpI_eq0, cmpI_le0, cmpI_ge0, cmpR_of, sgnR_of, sgnR_lt0, sgnR_eq0, sgnR_gt0, sgnR_le0, sgnR_ge0, sgnR_eq1, cmpR_lt0, cmpR_gt0, cmpR_eq0, cmpR_le0, cmpR_ge0] at *)
 all_goals first
  | rfl
  | (simp only [redB, redC, mkA, mkB, mkC, cooC, ptC, *, true_or, or_true, if_true, if_false, or_self, and_self, and_true, true_and, and_false, false_and, not_true, not_false_iff, Bool.false_eq_true, decide_true, decide_false, Bool.or_true, Bool.true_or, Bool.or_false, Bool.false_or]; rfl)
  | ((repeat' apply And.intro) <;> first | assumption | exact rzb (by omega) | exact szb (by omega) | exact Int.mul_ne_zero (den_ne _) (den_ne _))
  | (exfalso; simp_all; done)
  | (exfalso; grind)
  | omega
  | ((repeat' apply And.intro) <;> first | assumption | exact rzb (by omega) | exact szb (by omega) | exact Int.mul_ne_zero (den_ne _) (den_ne _))
  | skip⟩

instance g_material_mul (a b : Rat) : DenI Tryz.prog 34 [R a, R b] (rz a ≤ 4000000 ∧ rz b ≤ 4000000) (R (a * b)) := ⟨fun hp => by
 have i_a : RzB a 4000000 := ⟨hp.1⟩
 have i_b : RzB b 4000000 := ⟨hp.2⟩
 all_goals refine den_of (τ := tab) tab_ok mixed_ Tryz.func34 rfl (by kernel_rfl) (by kernel_rfl) (by kernel_rfl) ?_
 all_goals (repeat' ((try (conv => whnf)); first
  | refine call_0 ?_
  | refine call_i ?_ ?_
  | refine call_c ?_ (fun _ => ?_) (fun _ => ?_)
  | (with_reducible refine onB_t ?_)
  | (with_reducible refine onB_f ?_)
  | (with_reducible refine onB_d (fun _ => ?_) (fun _ => ?_))
  | (with_reducible refine onB_n (fun _ => ?_) (fun _ => ?_))
  | refine OnB.mk (fun _ => ?_) (fun _ => ?_)
  | refine obl_i ?_ ?_
  | refine Drw.mk (by kernel_rfl) ?_
  | refine mks_i ?_ ?_
  | refine slp_i ?_ ?_
  | (with_reducible refine elem_u ?_ ?_)
  | (with_reducible refine elem_0 ?_)
  | (with_reducible refine elem_1 ?_)
  | refine Ends.mk ?_))
 all_goals (try refine Pr.mk ?_)
 all_goals (try simp only [sgnI_lt0, sgnI_zero, sgnI_le0, sgnI_gt0, sgnI_ge0, sgnI_eq1, cmpI_lt0, cmpI_gt0, cmpI_eq0, cmpI_le0, cmpI_ge0, cmpR_of, sgnR_of, sgnR_lt0, sgnR_eq0, sgnR_gt0, sgnR_le0, sgnR_ge0, sgnR_eq1, cmpR_lt0, cmpR_gt0, cmpR_eq0, cmpR_le0, cmpR_ge0] at *)
 all_goals first
  | rfl
  | (simp only [redB, redC, mkA, mkB, mkC, cooC, ptC, *, true_or, or_true, if_true, if_false, or_self, and_self, and_true, true_and, and_false, false_and, not_true, not_false_iff, Bool.false_eq_true, decide_true, decide_false, Bool.or_true, Bool.true_or, Bool.or_false, Bool.false_or]; rfl)
  | ((repeat' apply And.intro) <;> first | assumption | exact rzb (by omega) | exact szb (by omega) | exact Int.mul_ne_zero (den_ne _) (den_ne _))
  | (exfalso; simp_all; done)
  | (exfalso; grind)
  | omega
  | ((repeat' apply And.intro) <;> first | assumption | exact rzb (by omega) | exact szb (by omega) | exact Int.mul_ne_zero (den_ne _) (den_ne _))
  | skip⟩

instance g_material_way (a b c d : Rat) : DenI Tryz.prog 24 [Q2 a b, Q2 c d] (rz a ≤ 4000000 ∧ rz b ≤ 4000000 ∧ rz c ≤ 4000000 ∧ rz d ≤ 4000000) (Q2 (c - a) (d - b)) := ⟨fun hp => by
 have i_a : RzB a 4000000 := ⟨hp.1⟩
 have i_b : RzB b 4000000 := ⟨hp.2.1⟩
 have i_c : RzB c 4000000 := ⟨hp.2.2.1⟩
 have i_d : RzB d 4000000 := ⟨hp.2.2.2⟩
 all_goals refine den_of (τ := tab) tab_ok mixed_ Tryz.func24 rfl (by kernel_rfl) (by kernel_rfl) (by kernel_rfl) ?_
 all_goals (repeat' ((try (conv => whnf)); first
  | refine call_0 ?_
  | refine call_i ?_ ?_
  | refine call_c ?_ (fun _ => ?_) (fun _ => ?_)
  | (with_reducible refine onB_t ?_)
  | (with_reducible refine onB_f ?_)
  | (with_reducible refine onB_d (fun _ => ?_) (fun _ => ?_))
  | (with_reducible refine onB_n (fun _ => ?_) (fun _ => ?_))
  | refine OnB.mk (fun _ => ?_) (fun _ => ?_)
  | refine obl_i ?_ ?_
  | refine Drw.mk (by kernel_rfl) ?_
  | refine mks_i ?_ ?_
  | refine slp_i ?_ ?_
  | (with_reducible refine elem_u ?_ ?_)
  | (with_reducible refine elem_0 ?_)
  | (with_reducible refine elem_1 ?_)
  | refine Ends.mk ?_))
 all_goals (try refine Pr.mk ?_)
 all_goals (try simp only [sgnI_lt0, sgnI_zero, sgnI_le0, sgnI_gt0, sgnI_ge0, sgnI_eq1, cmpI_lt0, cmpI_gt0, cmpI_eq0, cmpI_le0, cmpI_ge0, cmpR_of, sgnR_of, sgnR_lt0, sgnR_eq0, sgnR_gt0, sgnR_le0, sgnR_ge0, sgnR_eq1, cmpR_lt0, cmpR_gt0, cmpR_eq0, cmpR_le0, cmpR_ge0] at *)
 all_goals first
  | rfl
  | (simp only [redB, redC, mkA, mkB, mkC, cooC, ptC, *, true_or, or_true, if_true, if_false, or_self, and_self, and_true, true_and, and_false, false_and, not_true, not_false_iff, Bool.false_eq_true, decide_true, decide_false, Bool.or_true, Bool.true_or, Bool.or_false, Bool.false_or]; rfl)
  | ((repeat' apply And.intro) <;> first | assumption | exact rzb (by omega) | exact szb (by omega) | exact Int.mul_ne_zero (den_ne _) (den_ne _))
  | (exfalso; simp_all; done)
  | (exfalso; grind)
  | omega
  | ((repeat' apply And.intro) <;> first | assumption | exact rzb (by omega) | exact szb (by omega) | exact Int.mul_ne_zero (den_ne _) (den_ne _))
  | skip⟩

instance g_material_dot (a b c d : Rat) : DenI Tryz.prog 28 [Q2 a b, Q2 c d] (rz a ≤ 1000000 ∧ rz b ≤ 1000000 ∧ rz c ≤ 1000000 ∧ rz d ≤ 1000000) (R (a * c + b * d)) := ⟨fun hp => by
 have i_a : RzB a 1000000 := ⟨hp.1⟩
 have i_b : RzB b 1000000 := ⟨hp.2.1⟩
 have i_c : RzB c 1000000 := ⟨hp.2.2.1⟩
 have i_d : RzB d 1000000 := ⟨hp.2.2.2⟩
 all_goals refine den_of (τ := tab) tab_ok mixed_ Tryz.func28 rfl (by kernel_rfl) (by kernel_rfl) (by kernel_rfl) ?_
 all_goals (repeat' ((try (conv => whnf)); first
  | refine call_0 ?_
  | refine call_i ?_ ?_
  | refine call_c ?_ (fun _ => ?_) (fun _ => ?_)
  | (with_reducible refine onB_t ?_)
  | (with_reducible refine onB_f ?_)
  | (with_reducible refine onB_d (fun _ => ?_) (fun _ => ?_))
  | (with_reducible refine onB_n (fun _ => ?_) (fun _ => ?_))
  | refine OnB.mk (fun _ => ?_) (fun _ => ?_)
  | refine obl_i ?_ ?_
  | refine Drw.mk (by kernel_rfl) ?_
  | refine mks_i ?_ ?_
  | refine slp_i ?_ ?_
  | (with_reducible refine elem_u ?_ ?_)
  | (with_reducible refine elem_0 ?_)
  | (with_reducible refine elem_1 ?_)
  | refine Ends.mk ?_))
 all_goals (try refine Pr.mk ?_)
 all_goals (try simp only [sgnI_lt0, sgnI_zero, sgnI_le0, sgnI_gt0, sgnI_ge0, sgnI_eq1, cmpI_lt0, cmpI_gt0, cmpI_eq0, cmpI_le0, cmpI_ge0, cmpR_of, sgnR_of, sgnR_lt0, sgnR_eq0, sgnR_gt0, sgnR_le0, sgnR_ge0, sgnR_eq1, cmpR_lt0, cmpR_gt0, cmpR_eq0, cmpR_le0, cmpR_ge0] at *)
 all_goals first
  | rfl
  | (simp only [redB, redC, mkA, mkB, mkC, cooC, ptC, *, true_or, or_true, if_true, if_false, or_self, and_self, and_true, true_and, and_false, false_and, not_true, not_false_iff, Bool.false_eq_true, decide_true, decide_false, Bool.or_true, Bool.true_or, Bool.or_false, Bool.false_or]; rfl)
  | ((repeat' apply And.intro) <;> first | assumption | exact rzb (by omega) | exact szb (by omega) | exact Int.mul_ne_zero (den_ne _) (den_ne _))
  | (exfalso; simp_all; done)
  | (exfalso; grind)
  | omega
  | ((repeat' apply And.intro) <;> first | assumption | exact rzb (by omega) | exact szb (by omega) | exact Int.mul_ne_zero (den_ne _) (den_ne _))
  | skip⟩

instance n_vec (m n k : Int)  : DenI Tryz.prog 25 [.agg [.v (.int .i64 m), .v (.int .i64 n), .v (.int .i64 k)]] ((-9223372036854775808 ≤ m ∧ m ≤ 9223372036854775807) ∧ -9223372036854775808 ≤ n ∧ n ≤ 9223372036854775807) (Q2 (m : Rat) (n : Rat)) := ⟨fun hp => by
 refine den_of (τ := tab) tab_ok mixed_ Tryz.func25 rfl (by kernel_rfl) (by kernel_rfl) (by kernel_rfl) ?_
 all_goals (repeat' ((try (conv => whnf)); first
  | refine call_0 ?_
  | refine call_i ?_ ?_
  | refine call_c ?_ (fun _ => ?_) (fun _ => ?_)
  | (with_reducible refine onB_t ?_)
  | (with_reducible refine onB_f ?_)
  | (with_reducible refine onB_d (fun _ => ?_) (fun _ => ?_))
  | (with_reducible refine onB_n (fun _ => ?_) (fun _ => ?_))
  | refine OnB.mk (fun _ => ?_) (fun _ => ?_)
  | refine obl_i ?_ ?_
  | refine Drw.mk (by kernel_rfl) ?_
  | refine mks_i ?_ ?_
  | refine slp_i ?_ ?_
  | (with_reducible refine elem_u ?_ ?_)
  | (with_reducible refine elem_0 ?_)
  | (with_reducible refine elem_1 ?_)
  | refine Ends.mk ?_))
 all_goals (try refine Pr.mk ?_)
 all_goals (try simp only [sgnI_lt0, sgnI_zero, sgnI_le0, sgnI_gt0, sgnI_ge0, sgnI_eq1, cmpI_lt0, cmpI_gt0, cmpI_eq0, cmpI_le0, cmpI_ge0, cmpR_of, sgnR_of, sgnR_lt0, sgnR_eq0, sgnR_gt0, sgnR_le0, sgnR_ge0, sgnR_eq1, cmpR_lt0, cmpR_gt0, cmpR_eq0, cmpR_le0, cmpR_ge0] at *)
 all_goals first
  | rfl
  | (simp only [redB, redC, mkA, mkB, mkC, cooC, ptC, *, true_or, or_true, if_true, if_false, or_self, and_self, and_true, true_and, and_false, false_and, not_true, not_false_iff, Bool.false_eq_true, decide_true, decide_false, Bool.or_true, Bool.true_or, Bool.or_false, Bool.false_or]; rfl)
  | ((repeat' apply And.intro) <;> first | assumption | exact rzb (by omega) | exact szb (by omega) | exact Int.mul_ne_zero (den_ne _) (den_ne _))
  | (exfalso; simp_all; done)
  | (exfalso; grind)
  | omega
  | ((repeat' apply And.intro) <;> first | assumption | exact rzb (by omega) | exact szb (by omega) | exact Int.mul_ne_zero (den_ne _) (den_ne _))
  | skip⟩

instance n_sq (n : Int)  : DenI Tryz.prog 29 [.int .i64 n] (medI n) (R ((n : Rat) * (n : Rat))) := ⟨fun hp => by
 have i_n : RzB ((n : Int) : Rat) 4 := ⟨rz_med hp⟩
 all_goals refine den_of (τ := tab) tab_ok mixed_ Tryz.func29 rfl (by kernel_rfl) (by kernel_rfl) (by kernel_rfl) ?_
 all_goals (repeat' ((try (conv => whnf)); first
  | refine call_0 ?_
  | refine call_i ?_ ?_
  | refine call_c ?_ (fun _ => ?_) (fun _ => ?_)
  | (with_reducible refine onB_t ?_)
  | (with_reducible refine onB_f ?_)
  | (with_reducible refine onB_d (fun _ => ?_) (fun _ => ?_))
  | (with_reducible refine onB_n (fun _ => ?_) (fun _ => ?_))
  | refine OnB.mk (fun _ => ?_) (fun _ => ?_)
  | refine obl_i ?_ ?_
  | refine Drw.mk (by kernel_rfl) ?_
  | refine mks_i ?_ ?_
  | refine slp_i ?_ ?_
  | (with_reducible refine elem_u ?_ ?_)
  | (with_reducible refine elem_0 ?_)
  | (with_reducible refine elem_1 ?_)
  | refine Ends.mk ?_))
 all_goals (try refine Pr.mk ?_)
 all_goals (try simp only [sgnI_lt0, sgnI_zero, sgnI_le0, sgnI_gt0, sgnI_ge0, sgnI_eq1, cmpI_lt0, cmpI_gt0, cmpI_eq0, cmpI_le0, cmpI_ge0, cmpR_of, sgnR_of, sgnR_lt0, sgnR_eq0, sgnR_gt0, sgnR_le0, sgnR_ge0, sgnR_eq1, cmpR_lt0, cmpR_gt0, cmpR_eq0, cmpR_le0, cmpR_ge0] at *)
 all_goals first
  | (unfold medI at *; omega)
  | rfl
  | (simp only [redB, redC, mkA, mkB, mkC, cooC, ptC, *, true_or, or_true, if_true, if_false, or_self, and_self, and_true, true_and, and_false, false_and, not_true, not_false_iff, Bool.false_eq_true, decide_true, decide_false, Bool.or_true, Bool.true_or, Bool.or_false, Bool.false_or]; rfl)
  | ((repeat' apply And.intro) <;> first | assumption | exact rzb (by omega) | exact szb (by omega) | exact Int.mul_ne_zero (den_ne _) (den_ne _))
  | (exfalso; simp_all; done)
  | (exfalso; grind)
  | omega
  | ((repeat' apply And.intro) <;> first | assumption | exact rzb (by omega) | exact szb (by omega) | exact Int.mul_ne_zero (den_ne _) (den_ne _))
  | skip⟩

instance n_level (fx fy fz tx ty tz r : Int)  : DenI Tryz.prog 26 [.agg [.v (.int .i64 fx), .v (.int .i64 fy), .v (.int .i64 fz), .v (.int .i64 tx), .v (.int .i64 ty), .v (.int .i64 tz), .v (.int .i64 r)]] (True) (.bool (decide (fz = tz))) := ⟨fun hp => by
 refine den_of (τ := tab) tab_ok mixed_ Tryz.func26 rfl (by kernel_rfl) (by kernel_rfl) (by kernel_rfl) ?_
 all_goals (repeat' ((try (conv => whnf)); first
  | refine call_0 ?_
  | refine call_i ?_ ?_
  | refine call_c ?_ (fun _ => ?_) (fun _ => ?_)
  | (with_reducible refine onB_t ?_)
  | (with_reducible refine onB_f ?_)
  | (with_reducible refine onB_d (fun _ => ?_) (fun _ => ?_))
  | (with_reducible refine onB_n (fun _ => ?_) (fun _ => ?_))
  | refine OnB.mk (fun _ => ?_) (fun _ => ?_)
  | refine obl_i ?_ ?_
  | refine Drw.mk (by kernel_rfl) ?_
  | refine mks_i ?_ ?_
  | refine slp_i ?_ ?_
  | (with_reducible refine elem_u ?_ ?_)
  | (with_reducible refine elem_0 ?_)
  | (with_reducible refine elem_1 ?_)
  | refine Ends.mk ?_))
 all_goals (try refine Pr.mk ?_)
 all_goals (try simp only [sgnI_lt0, sgnI_zero, sgnI_le0, sgnI_gt0, sgnI_ge0, sgnI_eq1, cmpI_lt0, cmpI_gt0, cmpI_eq0, cmpI_le0, cmpI_ge0, cmpR_of, sgnR_of, sgnR_lt0, sgnR_eq0, sgnR_gt0, sgnR_le0, sgnR_ge0, sgnR_eq1, cmpR_lt0, cmpR_gt0, cmpR_eq0, cmpR_le0, cmpR_ge0] at *)
 all_goals first
  | rfl
  | (simp only [redB, redC, mkA, mkB, mkC, cooC, ptC, *, true_or, or_true, if_true, if_false, or_self, and_self, and_true, true_and, and_false, false_and, not_true, not_false_iff, Bool.false_eq_true, decide_true, decide_false, Bool.or_true, Bool.true_or, Bool.or_false, Bool.false_or]; rfl)
  | ((repeat' apply And.intro) <;> first | assumption | exact rzb (by omega) | exact szb (by omega) | exact Int.mul_ne_zero (den_ne _) (den_ne _))
  | (exfalso; simp_all; done)
  | (exfalso; grind)
  | omega
  | ((repeat' apply And.intro) <;> first | assumption | exact rzb (by omega) | exact szb (by omega) | exact Int.mul_ne_zero (den_ne _) (den_ne _))
  | skip⟩

instance n_over (fx fy fz tx ty tz r s : Int) (x y : Rat)  : DenI Tryz.prog 23 [.agg [.v (.int .i64 fx), .v (.int .i64 fy), .v (.int .i64 fz), .v (.int .i64 tx), .v (.int .i64 ty), .v (.int .i64 tz), .v (.int .i64 r)], Q2 x y, .int .i64 s] (medI fx ∧ medI fy ∧ medI fz ∧ medI tx ∧ medI ty ∧ medI tz ∧ medI r ∧ medI s ∧ rz x ≤ 6 ∧ rz y ≤ 6) (.bool (decide (swOn ((fx : Int) : Rat) ((fy : Int) : Rat) ((tx : Int) : Rat) ((ty : Int) : Rat) s x y))) := ⟨fun hp => by
 obtain ⟨m_fx, m_fy, m_fz, m_tx, m_ty, m_tz, m_r, m_s, i1, i2⟩ := hp
 have i_fx : RzB ((fx : Int) : Rat) 4 := ⟨rz_med m_fx⟩
 have i_fy : RzB ((fy : Int) : Rat) 4 := ⟨rz_med m_fy⟩
 have i_fz : RzB ((fz : Int) : Rat) 4 := ⟨rz_med m_fz⟩
 have i_tx : RzB ((tx : Int) : Rat) 4 := ⟨rz_med m_tx⟩
 have i_ty : RzB ((ty : Int) : Rat) 4 := ⟨rz_med m_ty⟩
 have i_tz : RzB ((tz : Int) : Rat) 4 := ⟨rz_med m_tz⟩
 have i_r : RzB ((r : Int) : Rat) 4 := ⟨rz_med m_r⟩
 have i_s : RzB ((s : Int) : Rat) 4 := ⟨rz_med m_s⟩
 have i_x : RzB x 6 := ⟨i1⟩
 have i_y : RzB y 6 := ⟨i2⟩
 have i_d1 : RzB ((fz - tz : Int) : Rat) 4 := ⟨rz_i _ (by unfold medI at *; omega) (by unfold medI at *; omega)⟩
 have i_d2 : RzB ((tz - fz : Int) : Rat) 4 := ⟨rz_i _ (by unfold medI at *; omega) (by unfold medI at *; omega)⟩
 all_goals refine den_of (τ := tab) tab_ok mixed_ Tryz.func23 rfl (by kernel_rfl) (by kernel_rfl) (by kernel_rfl) ?_
 all_goals (repeat' ((try (conv => whnf)); first
  | refine call_0 ?_
  | refine call_i ?_ ?_
  | refine call_c ?_ (fun _ => ?_) (fun _ => ?_)
  | (with_reducible refine onB_t ?_)
  | (with_reducible refine onB_f ?_)
  | (with_reducible refine onB_d (fun _ => ?_) (fun _ => ?_))
  | (with_reducible refine onB_n (fun _ => ?_) (fun _ => ?_))
  | refine OnB.mk (fun _ => ?_) (fun _ => ?_)
  | refine obl_i ?_ ?_
  | refine Drw.mk (by kernel_rfl) ?_
  | refine mks_i ?_ ?_
  | refine slp_i ?_ ?_
  | (with_reducible refine elem_u ?_ ?_)
  | (with_reducible refine elem_0 ?_)
  | (with_reducible refine elem_1 ?_)
  | refine Ends.mk ?_))
 all_goals (try refine Pr.mk ?_)
 all_goals (try simp only [sgnI_lt0, sgnI_zero, sgnI_le0, sgnI_gt0, sgnI_ge0, sgnI_eq1, cmpI_lt0, cmpI_gt0, cmpI_eq0, cmpI_le0, cmpI_ge0, cmpR_of, sgnR_of, sgnR_lt0, sgnR_eq0, sgnR_gt0, sgnR_le0, sgnR_ge0, sgnR_eq1, cmpR_lt0, cmpR_gt0, cmpR_eq0, cmpR_le0, cmpR_ge0] at *)
 all_goals first
  | with_reducible exact on_1 (by assumption)
  | with_reducible exact on_2 (by assumption)
  | (unfold medI at *; omega)
  | ((repeat' apply And.intro) <;> first | assumption | exact rzb (by omega) | exact szb (by omega) | (unfold medI at *; omega))
  | ((repeat' apply And.intro) <;> first | assumption | exact rzb (by omega) | exact szb (by omega) | exact Int.mul_ne_zero (den_ne _) (den_ne _))
  | skip⟩

instance n_swept (fx fy fz tx ty tz r : Int) (x y : Rat)  : DenC Tryz.prog 13 [.agg [.v (.int .i64 fx), .v (.int .i64 fy), .v (.int .i64 fz), .v (.int .i64 tx), .v (.int .i64 ty), .v (.int .i64 tz), .v (.int .i64 r)], Q2 x y] (medI fx ∧ medI fy ∧ medI fz ∧ medI tx ∧ medI ty ∧ medI tz ∧ medI r ∧ rz x ≤ 6 ∧ rz y ≤ 6) (swOn ((fx : Int) : Rat) ((fy : Int) : Rat) ((tx : Int) : Rat) ((ty : Int) : Rat) r x y) (.tup [Q3 (swR ((fx : Int) : Rat) ((fy : Int) : Rat) fz ((tx : Int) : Rat) ((ty : Int) : Rat) tz ((r : Int) : Rat) x y).a (swR ((fx : Int) : Rat) ((fy : Int) : Rat) fz ((tx : Int) : Rat) ((ty : Int) : Rat) tz ((r : Int) : Rat) x y).b (swR ((fx : Int) : Rat) ((fy : Int) : Rat) fz ((tx : Int) : Rat) ((ty : Int) : Rat) tz ((r : Int) : Rat) x y).c, .bool true]) (.tup [ZQ3, .bool false]) := ⟨denC fun hp q e1 e2 => by
 obtain ⟨m_fx, m_fy, m_fz, m_tx, m_ty, m_tz, m_r, i1, i2⟩ := hp
 have i_fx : RzB ((fx : Int) : Rat) 4 := ⟨rz_med m_fx⟩
 have i_fy : RzB ((fy : Int) : Rat) 4 := ⟨rz_med m_fy⟩
 have i_fz : RzB ((fz : Int) : Rat) 4 := ⟨rz_med m_fz⟩
 have i_tx : RzB ((tx : Int) : Rat) 4 := ⟨rz_med m_tx⟩
 have i_ty : RzB ((ty : Int) : Rat) 4 := ⟨rz_med m_ty⟩
 have i_tz : RzB ((tz : Int) : Rat) 4 := ⟨rz_med m_tz⟩
 have i_r : RzB ((r : Int) : Rat) 4 := ⟨rz_med m_r⟩
 have i_x : RzB x 6 := ⟨i1⟩
 have i_y : RzB y 6 := ⟨i2⟩
 have i_d1 : RzB ((fz - tz : Int) : Rat) 4 := ⟨rz_i _ (by unfold medI at *; omega) (by unfold medI at *; omega)⟩
 have i_d2 : RzB ((tz - fz : Int) : Rat) 4 := ⟨rz_i _ (by unfold medI at *; omega) (by unfold medI at *; omega)⟩
 all_goals refine den_of (τ := tab) tab_ok mixed_ Tryz.func13 rfl (by kernel_rfl) (by kernel_rfl) (by kernel_rfl) ?_
 all_goals (repeat' ((try (conv => whnf)); first
  | refine call_0 ?_
  | refine call_i ?_ ?_
  | refine call_c ?_ (fun _ => ?_) (fun _ => ?_)
  | (with_reducible refine onB_t ?_)
  | (with_reducible refine onB_f ?_)
  | (with_reducible refine onB_d (fun _ => ?_) (fun _ => ?_))
  | (with_reducible refine onB_n (fun _ => ?_) (fun _ => ?_))
  | refine OnB.mk (fun _ => ?_) (fun _ => ?_)
  | refine obl_i ?_ ?_
  | refine Drw.mk (by kernel_rfl) ?_
  | refine mks_i ?_ ?_
  | refine slp_i ?_ ?_
  | (with_reducible refine elem_u ?_ ?_)
  | (with_reducible refine elem_0 ?_)
  | (with_reducible refine elem_1 ?_)
  | refine Ends.mk ?_))
 all_goals (try refine Pr.mk ?_)
 all_goals (try simp only [sgnI_lt0, sgnI_zero, sgnI_le0, sgnI_gt0, sgnI_ge0, sgnI_eq1, cmpI_lt0, cmpI_gt0, cmpI_eq0, cmpI_le0, cmpI_ge0, cmpR_of, sgnR_of, sgnR_lt0, sgnR_eq0, sgnR_gt0, sgnR_le0, sgnR_ge0, sgnR_eq1, cmpR_lt0, cmpR_gt0, cmpR_eq0, cmpR_le0, cmpR_ge0] at *)
 all_goals (try simp (disch := (unfold medI at *; omega)) only [wi64] at *)
 all_goals (try simp only [refA] at *)
 all_goals first
  | (exfalso; rename ¬True => h; exact h trivial)
  | (rw [e2 (by assumption)]; rfl)
  | (rw [e1 (by assumption), swR_u (by assumption) (.inl (by omega))]; rfl)
  | (rw [e1 (by assumption), swR_u (by assumption) (.inr (by assumption))]; rfl)
  | (rw [e1 (by assumption), swR_d (by assumption) (.inl (by omega))]; rfl)
  | (rw [e1 (by assumption), swR_d (by assumption) (.inr (by assumption))]; rfl)
  | (rw [e1 (by assumption), swR_u' (by assumption) (by omega) (by assumption)]; rfl)
  | (rw [e1 (by assumption), swR_d' (by assumption) (by omega) (by assumption)]; rfl)
  | (exfalso; exact sw_eu (by assumption) (by assumption) (by assumption))
  | (exfalso; exact sw_ed (by assumption) (by assumption) (by assumption))
  | (refine ⟨rzb (by omega), rzb (by omega), rzb (by omega), ?_⟩; first | exact sw_iu (by assumption) | exact sw_id (by assumption))
  | (unfold medI at *; omega)
  | ((repeat' apply And.intro) <;> first | assumption | exact rzb (by omega) | exact szb (by omega) | (unfold medI at *; omega))
  | (refine ⟨rzb (by omega), rzb (by omega), ?_⟩; first | exact sw_fu (by assumption) (by assumption) | exact sw_fd (by assumption) (by assumption))
  | ((repeat' apply And.intro) <;> first | assumption | exact rzb (by omega) | exact szb (by omega) | exact Int.mul_ne_zero (den_ne _) (den_ne _))
  | skip⟩

end Go.Proofs.YtigbdpkpaleboaaGreatDoor
