/-
  Roots and points in reduced form, and what lines and circles answer at them.
  Lines, circles and points out of smallI numbers.
  Leaves of the runs of fractions, roots and points.
  Numbers that sequences of fractions come near: their signs, and square roots.
  Intervals that contain what a sequence comes near; the signs that they decide.
  Plain laws of lines and circles.
  The distance of a point from a segment, and the height that a tool sweeps.
  Multiples of lines, and circles through three points.
  Validity of lines and circles, with any fields.
  Leaves of the runs of material, distances and signs.
  What the functions cmp.isNaN[int], cmp.Compare[int], rational.Cmp, rational.Div, rational.Make, rational.Frac, swarfref02.Same, swarfref02.perfect, swarfref02.Make, swarfref02.Div, swarfref02.Sqrt, rational.side, rational.Sqrt answer, each out of its text by the abstract run.
  The simplest number between two others: what the recursion on continued fractions gives (plain laws).
  Conditions: none.
-/
import Derived.Test.YtghlkihmnopenaaGreatDoorM10
set_option linter.all false
namespace Go.Sw
open Go
set_option linter.unusedVariables false
/-! ### Reduced forms -/
def redB (b c : Rat) : Rat := if b = 0 ∨ c = 0 then 0 else b
def redC (b c : Rat) : Rat := if b = 0 ∨ c = 0 then 0 else c
def mkA (a b c : Rat) : Rat := if isSqR c = true then a + b * sqR c else a
def mkB (b c : Rat) : Rat := if isSqR c = true then 0 else redB b c
def mkC (b c : Rat) : Rat := if isSqR c = true then 0 else redC b c
def cooC (b c : Rat) : Rat := if b = 0 then 0 else c
def ptC (b e c : Rat) : Rat := if b = 0 ∧ e = 0 then 0 else c
/-! ### Leaves of the runs -/
section
variable {a b : Rat}
theorem rsame_1 (h : a.num = b.num) : packA [AV.c (Cell.v (.bool (decide ((a.den : Int) = (b.den : Int)))))] = AV.bool (decide (a = b)) :=
  bE (by rw [decide_eq_decide]; exact ⟨fun h2 => Rat.ext h (by omega), fun h2 => by rw [h2]⟩)
theorem rsame_0 (h : ¬a.num = b.num) : packA [AV.c (Cell.v (.bool false))] = AV.bool (decide (a = b)) :=
  bE (by symm; rw [decide_eq_false_iff_not]; exact fun e => h (by rw [e]))
end
end Go.Sw

namespace Go.Sw
open Go
set_option linter.unusedVariables false
theorem rz_sqR {c : Rat} (h : isSqR c = true) : rz (sqR c) ≤ rz c := by
  obtain ⟨h1, h2⟩ := sqR_parts h
  have k : ∀ n : Nat, isq n ≤ n := fun n => by
    have h3 := (isq_ok n).1
    rcases Nat.eq_zero_or_pos (isq n) with h4 | h4
    · omega
    · exact Nat.le_trans (Nat.le_mul_of_pos_left _ h4) h3
  unfold rz
  rw [h1, h2]
  have a1 := sz_mono (a := ((isq c.num.natAbs : Nat) : Int)) (b := c.num) (by rw [Int.natAbs_natCast]; exact k _)
  have a2 := sz_mono (a := ((isq (c.den : Int).natAbs : Nat) : Int)) (b := (c.den : Int)) (by rw [Int.natAbs_natCast]; exact k _)
  omega
theorem rz_0 : rz 0 ≤ 1 := by decide +kernel
instance : RzB 0 1 := ⟨rz_0⟩
theorem rz_mkA {a b c : Rat} {m n k : Nat} (h1 : rz a ≤ m) (h2 : rz b ≤ n) (h3 : rz c ≤ k) : rz (mkA a b c) ≤ 2 * (m + (n + k)) + 1 := by
  unfold mkA
  split
  · rename_i h
    have := rz_add a (b * sqR c); have := rz_mul b (sqR c); have := rz_sqR h; omega
  · omega
theorem rz_mkB {b c : Rat} {n : Nat} (h2 : rz b ≤ n) : rz (mkB b c) ≤ n + 1 := by
  have := rz_0
  unfold mkB redB
  split
  · omega
  · split <;> omega
theorem rz_mkC {b c : Rat} {n : Nat} (h2 : rz c ≤ n) : rz (mkC b c) ≤ n + 1 := by
  have := rz_0
  unfold mkC redC
  split
  · omega
  · split <;> omega
theorem rz_redB {b c : Rat} {n : Nat} (h2 : rz b ≤ n) : rz (redB b c) ≤ n + 1 := by
  have := rz_0
  unfold redB
  split <;> omega
theorem rz_redC {b c : Rat} {n : Nat} (h2 : rz c ≤ n) : rz (redC b c) ≤ n + 1 := by
  have := rz_0
  unfold redC
  split <;> omega
theorem rz_cooC {b c : Rat} {n : Nat} (h2 : rz c ≤ n) : rz (cooC b c) ≤ n + 1 := by
  have := rz_0
  unfold cooC
  split <;> omega
theorem rz_ptC {b e c : Rat} {n : Nat} (h2 : rz c ≤ n) : rz (ptC b e c) ≤ n + 1 := by
  have := rz_0
  unfold ptC
  split <;> omega
instance {a b c : Rat} {m n k : Nat} [h1 : RzB a m] [h2 : RzB b n] [h3 : RzB c k] : RzB (mkA a b c) (2 * (m + (n + k)) + 1) := ⟨rz_mkA h1.h h2.h h3.h⟩
instance {b c : Rat} {n : Nat} [h2 : RzB b n] : RzB (mkB b c) (n + 1) := ⟨rz_mkB h2.h⟩
instance {b c : Rat} {n : Nat} [h2 : RzB c n] : RzB (mkC b c) (n + 1) := ⟨rz_mkC h2.h⟩
instance {b c : Rat} {n : Nat} [h2 : RzB b n] : RzB (redB b c) (n + 1) := ⟨rz_redB h2.h⟩
instance {b c : Rat} {n : Nat} [h2 : RzB c n] : RzB (redC b c) (n + 1) := ⟨rz_redC h2.h⟩
instance {b c : Rat} {n : Nat} [h2 : RzB c n] : RzB (cooC b c) (n + 1) := ⟨rz_cooC h2.h⟩
instance {b e c : Rat} {n : Nat} [h2 : RzB c n] : RzB (ptC b e c) (n + 1) := ⟨rz_ptC h2.h⟩
instance {p : Prop} [Decidable p] {a b : Rat} {m n : Nat} [h1 : RzB a m] [h2 : RzB b n] : RzB (if p then a else b) (m + n) := ⟨by split; exact Nat.le_trans h1.h (by omega); exact Nat.le_trans h2.h (by omega)⟩
end Go.Sw

namespace Go.Sw
open Go
set_option linter.unusedVariables false
class SzB (n : Int) (k : outParam Nat) : Prop where
  h : sz n ≤ k
theorem szb {n : Int} {k K : Nat} [i : SzB n k] (h : k ≤ K) : sz n ≤ K := Nat.le_trans i.h h
instance {q : Rat} {n : Nat} [i : RzB q n] : SzB q.num n := ⟨Nat.le_trans (rz_num q) i.h⟩
instance {q : Rat} {n : Nat} [i : RzB q n] : SzB (q.den : Int) n := ⟨Nat.le_trans (rz_den q) i.h⟩
instance {a b : Int} {m n : Nat} [i : SzB a m] [j : SzB b n] : SzB (a * b) (m + n) := ⟨by have := sz_mul a b; have := i.h; have := j.h; omega⟩
instance {a b : Int} {m n : Nat} [i : SzB a m] [j : SzB b n] : SzB (a + b) (m + n + 1) := ⟨by have := sz_add a b; have := i.h; have := j.h; omega⟩
instance {a : Int} {m : Nat} [i : SzB a m] : SzB (-a) m := ⟨by rw [sz_neg]; exact i.h⟩
instance {p : Prop} [Decidable p] {a b : Int} {m n : Nat} [h1 : SzB a m] [h2 : SzB b n] : SzB (if p then a else b) (m + n) := ⟨by split; exact Nat.le_trans h1.h (by omega); exact Nat.le_trans h2.h (by omega)⟩
instance : SzB 0 3 := ⟨sz_64 (by decide) (by decide)⟩
instance : SzB 1 3 := ⟨sz_64 (by decide) (by decide)⟩
theorem isq_le (n : Nat) : isq n ≤ n := by
  have h3 := (isq_ok n).1
  rcases Nat.eq_zero_or_pos (isq n) with h4 | h4
  · omega
  · exact Nat.le_trans (Nat.le_mul_of_pos_left _ h4) h3
instance {a : Int} {m : Nat} [i : SzB a m] : SzB ((isq a.natAbs : Nat) : Int) m := ⟨Nat.le_trans (sz_mono (by rw [Int.natAbs_natCast]; exact isq_le _)) i.h⟩
instance {c : Rat} {n : Nat} [i : RzB c n] : RzB (sqR c) n := ⟨by
  have hd : ((isq (c.den : Int).natAbs : Nat) : Int) ≠ 0 := by
    have h1 := (isq_ok (c.den : Int).natAbs).2
    have h2 := den_pos c
    intro e
    have : isq (c.den : Int).natAbs = 0 := by omega
    rw [this] at h1; omega
  have := rz_red (n := ((isq c.num.natAbs : Nat) : Int)) hd
  have a1 := sz_mono (a := ((isq c.num.natAbs : Nat) : Int)) (b := c.num) (by rw [Int.natAbs_natCast]; exact isq_le _)
  have a2 := sz_mono (a := ((isq (c.den : Int).natAbs : Nat) : Int)) (b := (c.den : Int)) (by rw [Int.natAbs_natCast]; exact isq_le _)
  have h := i.h
  unfold rz at h
  unfold sqR
  omega⟩
section
variable {a b c : Rat}
end
section
variable {a b c : Rat} {q : AV}
theorem cmp_sg (h : ¬sgnR a = sgnR b) : packA [AV.c (Cell.v (.int .i64 (cmpI (sgnR a) (sgnR b))))] = AV.int .i64 (cmpR a b) := iE (by
  rcases sgn_cases a with ⟨a1, a2⟩ | ⟨a1, a2⟩ | ⟨a1, a2⟩ <;> rcases sgn_cases b with ⟨b1, b2⟩ | ⟨b1, b2⟩ | ⟨b1, b2⟩ <;> rw [a2, b2] at h ⊢ <;> first
    | exact absurd rfl h
    | (rw [cmpR_m (by grind)]; rfl)
    | (rw [cmpR_1 (by grind)]; rfl))
theorem div_1 (hb : ¬b = 0) (e : ¬b = 0 → q = AV.tup [R (a / b), AV.int .i64 0]) : packA [R (((a.num * b.den : Int) : Rat) / ((a.den * b.num : Int) : Rat)), AV.c (Cell.v (.int .i64 0))] = q := by
  rw [e hb, div_div a b hb]; rfl
theorem den_num0 (h : (a.den : Int) * b.num = 0) : b = 0 := by
  rcases Int.mul_eq_zero.1 h with h | h
  · exact absurd h (den_ne a)
  · exact (num_eq0 b).1 h
theorem div_2 (h : ¬(a.den : Int) * b.num = 0) (e : ¬b = 0 → q = AV.tup [R (a / b), AV.int .i64 0]) : packA [R (((a.num * b.den : Int) : Rat) / ((a.den * b.num : Int) : Rat)), AV.c (Cell.v (.int .i64 0))] = q :=
  div_1 (fun e => h (by rw [e]; simp)) e
theorem den_num1 (h : ¬b = 0) : (a.den : Int) * b.num ≠ 0 := fun e => h (den_num0 e)
theorem frac_0 (n : Int) : ((0 : Int) : Rat) = (n : Rat) / ((0 : Int) : Rat) := by rw [← frac0 n]; decide +kernel
theorem perf_1 {x : Int} (h : (if x < 0 then (7 : Int) else 0) = 0) : packA [Z (if x < 0 then 0 else (isq x.natAbs : Nat)), AV.c (Cell.v (.bool (decide ((if x < 0 then 0 else ((isq x.natAbs : Nat) : Int)) * (if x < 0 then 0 else ((isq x.natAbs : Nat) : Int)) = x))))] = AV.tup [Z (if x < 0 then 0 else (isq x.natAbs : Nat)), AV.bool (isSq x)] := by
  have h0 : ¬x < 0 := fun h1 => by rw [if_pos h1] at h; exact absurd h (by decide)
  have e : isSq x = decide ((if x < 0 then 0 else ((isq x.natAbs : Nat) : Int)) * (if x < 0 then 0 else ((isq x.natAbs : Nat) : Int)) = x) := by
    unfold isSq
    rw [if_neg h0, decide_eq_true (show 0 ≤ x by omega), Bool.true_and]
  rw [e]; rfl
theorem perf_2 {x : Int} (h : ¬(if x < 0 then (7 : Int) else 0) = 0) : packA [Z (if x < 0 then 0 else (isq x.natAbs : Nat)), AV.c (Cell.v (.bool false))] = AV.tup [Z (if x < 0 then 0 else (isq x.natAbs : Nat)), AV.bool (isSq x)] := by
  have h0 : x < 0 := Decidable.byContradiction fun h1 => h (by rw [if_neg h1])
  have e : isSq x = false := by
    unfold isSq
    rw [decide_eq_false (show ¬0 ≤ x by omega), Bool.false_and]
  rw [e]; rfl
theorem sqrt_1 (h1 : (!isSq a.num) = false) (h2 : (!isSq a.den) = false) (e : isSqR a = true → q = AV.tup [R (sqR a), AV.bool true]) :
    packA [AV.agg [zs (if a.num < 0 then 0 else (isq a.num.natAbs : Nat)), zl (if a.num < 0 then 0 else (isq a.num.natAbs : Nat)), zs (if (a.den : Int) < 0 then 0 else (isq (a.den : Int).natAbs : Nat)), zl (if (a.den : Int) < 0 then 0 else (isq (a.den : Int).natAbs : Nat))], AV.c (Cell.v (.bool true))] = q := by
  have k1 : isSq a.num = true := by simpa using h1
  have k2 : isSq a.den = true := by simpa using h2
  have k : isSqR a = true := by unfold isSqR; rw [k1, k2]; rfl
  obtain ⟨p1, p2⟩ := sqR_parts k
  have n1 : ¬a.num < 0 := by
    unfold isSq at k1
    rw [Bool.and_eq_true, decide_eq_true_eq] at k1
    omega
  have n2 : ¬(a.den : Int) < 0 := by omega
  rw [e k, if_neg n1, if_neg n2, ← p1, ← p2]
  rfl
theorem sqrt_0 (h : (!isSq a.num) = true ∨ (!isSq a.den) = true) : ¬isSqR a = true := by
  unfold isSqR
  rcases h with h | h <;> simp at h <;> rw [h] <;> simp
end
instance {a b : Rat} {m n : Nat} [h : RzB a m] [k : RzB b n] : RzB (a / b) (m + n + 1) := ⟨by
  by_cases hb : b = 0
  · subst hb
    have : a / 0 = 0 := by rw [Rat.div_def, Rat.inv_zero, Rat.mul_zero]
    rw [this]; have := rz_0; omega
  · have := rz_div a b hb; have := h.h; have := k.h; omega⟩
section
variable {a b c : Rat}
end
section
variable {ax bx ay bb c X Y Q : Rat}
end
end Go.Sw

namespace Go.Sw
open Go
set_option linter.unusedVariables false

def Cau (f : Nat → Rat) : Prop := ∀ d : Rat, 0 < d → ∃ N, ∀ m n, N ≤ m → N ≤ n → f m < f n + d
def PosS (f : Nat → Rat) : Prop := ∃ d : Rat, 0 < d ∧ ∃ N, ∀ n, N ≤ n → d < f n
def NulS (f : Nat → Rat) : Prop := ∀ d : Rat, 0 < d → ∃ N, ∀ n, N ≤ n → -d < f n ∧ f n < d
/-- From some place on, not far outside of a bound. -/
def Bnd (f : Nat → Rat) : Prop := ∃ B : Rat, 0 < B ∧ ∃ N, ∀ n, N ≤ n → -B < f n ∧ f n < B
/-- The sign of what a sequence comes near. -/
def SgS (f : Nat → Rat) (n : Int) : Prop := (n = 1 ∧ PosS f) ∨ (n = -1 ∧ PosS fun k => -f k) ∨ (n = 0 ∧ NulS f)

theorem mul_bnd {x y B e : Rat} (h1 : -B < x) (h2 : x < B) (h3 : -e < y) (h4 : y < e) : x * y < B * e := by
  have p1 := Rat.mul_pos (show 0 < B - x by grind) (show 0 < e + y by grind)
  have p2 := Rat.mul_pos (show 0 < B + x by grind) (show 0 < e - y by grind)
  grind
theorem mul_bnd' {x y B e : Rat} (h1 : -B < x) (h2 : x < B) (h3 : -e < y) (h4 : y < e) : -(B * e) < x * y := by
  have := mul_bnd (x := -x) (y := y) (B := B) (e := e) (by grind) (by grind) h3 h4
  grind
theorem div_pos' {a b : Rat} (h1 : 0 < a) (h2 : 0 < b) : 0 < a / b := by
  have hb : b ≠ 0 := by grind
  rcases Rat.le_total (a := a / b) (b := 0) with h | h
  · have p := Rat.mul_nonneg (show 0 ≤ -(a / b) by grind) (show 0 ≤ b by grind)
    have e : a / b * b = a := by grind
    grind
  · by_cases e : a / b = 0
    · have e' : a / b * b = a := by grind
      rw [e] at e'; grind
    · grind
theorem NulS.add {f g : Nat → Rat} (h : NulS f) (k : NulS g) : NulS fun n => f n + g n := fun d hd => by
  obtain ⟨N, hN⟩ := h (d * (1 / 2)) (by grind)
  obtain ⟨M, hM⟩ := k (d * (1 / 2)) (by grind)
  refine ⟨N + M, fun n hn => ?_⟩
  have a := hN n (by omega)
  have b := hM n (by omega)
  constructor <;> grind
theorem NulS.neg {f : Nat → Rat} (h : NulS f) : NulS fun n => -f n := fun d hd => by
  obtain ⟨N, hN⟩ := h d hd
  exact ⟨N, fun n hn => by have := hN n hn; constructor <;> grind⟩
theorem NulS.sub {f g : Nat → Rat} (h : NulS f) (k : NulS g) : NulS fun n => f n - g n := fun d hd => by
  obtain ⟨N, hN⟩ := h.add k.neg d hd
  exact ⟨N, fun n hn => by have := hN n hn; simp only at this; constructor <;> grind⟩
theorem NulS.mul {f g : Nat → Rat} (h : NulS f) (k : Bnd g) : NulS fun n => f n * g n := fun d hd => by
  obtain ⟨B, hB, M, hM⟩ := k
  obtain ⟨N, hN⟩ := h (d / B) (div_pos' hd hB)
  refine ⟨N + M, fun n hn => ?_⟩
  have a := hN n (by omega)
  have b := hM n (by omega)
  have e : d / B * B = d := by have : B ≠ 0 := (by grind); grind
  have p1 := mul_bnd a.1 a.2 b.1 b.2
  have p2 := mul_bnd' a.1 a.2 b.1 b.2
  rw [e] at p1 p2
  exact ⟨p2, p1⟩
theorem NulS.zero : NulS fun _ => 0 := fun d hd => ⟨0, fun n _ => by constructor <;> grind⟩
theorem NulS.cg {f g : Nat → Rat} (h : NulS f) (e : ∀ n, f n = g n) : NulS g := by rwa [funext e] at h
theorem Cau.bnd {f : Nat → Rat} (h : Cau f) : Bnd f := by
  obtain ⟨N, hN⟩ := h 1 (by grind)
  rcases Rat.le_total (a := 0) (b := f N) with h0 | h0
  · refine ⟨f N + 1, by grind, N, fun n hn => ?_⟩
    have a := hN n N hn (Nat.le_refl _)
    have b := hN N n (Nat.le_refl _) hn
    constructor <;> grind
  · refine ⟨-f N + 1, by grind, N, fun n hn => ?_⟩
    have a := hN n N hn (Nat.le_refl _)
    have b := hN N n (Nat.le_refl _) hn
    constructor <;> grind
theorem Cau.const (q : Rat) : Cau fun _ => q := fun d hd => ⟨0, fun m n _ _ => by grind⟩
theorem Cau.add {f g : Nat → Rat} (h : Cau f) (k : Cau g) : Cau fun n => f n + g n := fun d hd => by
  obtain ⟨N, hN⟩ := h (d * (1 / 2)) (by grind)
  obtain ⟨M, hM⟩ := k (d * (1 / 2)) (by grind)
  refine ⟨N + M, fun m n hm hn => ?_⟩
  have a := hN m n (by omega) (by omega)
  have b := hM m n (by omega) (by omega)
  grind
theorem Cau.neg {f : Nat → Rat} (h : Cau f) : Cau fun n => -f n := fun d hd => by
  obtain ⟨N, hN⟩ := h d hd
  exact ⟨N, fun m n hm hn => by have := hN n m hn hm; grind⟩
theorem Cau.sub {f g : Nat → Rat} (h : Cau f) (k : Cau g) : Cau fun n => f n - g n := fun d hd => by
  obtain ⟨N, hN⟩ := h.add k.neg d hd
  exact ⟨N, fun m n hm hn => by have := hN m n hm hn; simp only at this; grind⟩
theorem Cau.mul {f g : Nat → Rat} (h : Cau f) (k : Cau g) : Cau fun n => f n * g n := fun d hd => by
  obtain ⟨B, hB, M1, h1⟩ := h.bnd
  obtain ⟨D, hD, M2, h2⟩ := k.bnd
  obtain ⟨N1, k1⟩ := h (d * (1 / 2) / D) (div_pos' (by grind) hD)
  obtain ⟨N2, k2⟩ := k (d * (1 / 2) / B) (div_pos' (by grind) hB)
  refine ⟨M1 + M2 + N1 + N2, fun m n hm hn => ?_⟩
  have a1 := h1 m (by omega)
  have a2 := h2 n (by omega)
  have b1 := k1 m n (by omega) (by omega)
  have b2 := k1 n m (by omega) (by omega)
  have c1 := k2 m n (by omega) (by omega)
  have c2 := k2 n m (by omega) (by omega)
  have e1 : D * (d * (1 / 2) / D) = d * (1 / 2) := by have : D ≠ 0 := (by grind); grind
  have e2 : B * (d * (1 / 2) / B) = d * (1 / 2) := by have : B ≠ 0 := (by grind); grind
  have p1 := mul_bnd (x := f m) (y := g m - g n) (e := d * (1 / 2) / B) a1.1 a1.2 (by grind) (by grind)
  have p2 := mul_bnd (x := g n) (y := f m - f n) (e := d * (1 / 2) / D) a2.1 a2.2 (by grind) (by grind)
  rw [e2] at p1
  rw [e1] at p2
  grind
theorem PosS.add {f g : Nat → Rat} (h : PosS f) (k : PosS g) : PosS fun n => f n + g n := by
  obtain ⟨d, hd, N, hN⟩ := h
  obtain ⟨e, he, M, hM⟩ := k
  exact ⟨d, hd, N + M, fun n hn => by have := hN n (by omega); have := hM n (by omega); grind⟩
theorem PosS.nul {f g : Nat → Rat} (h : PosS f) (k : NulS g) : PosS fun n => f n + g n := by
  obtain ⟨d, hd, N, hN⟩ := h
  obtain ⟨M, hM⟩ := k (d * (1 / 2)) (by grind)
  exact ⟨d * (1 / 2), by grind, N + M, fun n hn => by have := hN n (by omega); have := hM n (by omega); grind⟩
theorem PosS.mul {f g : Nat → Rat} (h : PosS f) (k : PosS g) : PosS fun n => f n * g n := by
  obtain ⟨d, hd, N, hN⟩ := h
  obtain ⟨e, he, M, hM⟩ := k
  refine ⟨d * e, Rat.mul_pos hd he, N + M, fun n hn => ?_⟩
  have a := hN n (by omega)
  have b := hM n (by omega)
  have p1 := Rat.mul_pos (show 0 < f n - d by grind) (show 0 < g n by grind)
  have p2 := Rat.mul_pos hd (show 0 < g n - e by grind)
  grind
theorem PosS.cg {f g : Nat → Rat} (h : PosS f) (e : ∀ n, f n = g n) : PosS g := by rwa [funext e] at h
theorem PosS.not {f : Nat → Rat} (h : PosS f) (k : PosS fun n => -f n) : False := by
  obtain ⟨d, hd, N, hN⟩ := h
  obtain ⟨e, he, M, hM⟩ := k
  have := hN (N + M) (by omega)
  have := hM (N + M) (by omega)
  grind
namespace SgS
theorem ex {f : Nat → Rat} (h : Cau f) : ∃ n, SgS f n := by
  by_cases h1 : PosS f
  · exact ⟨1, .inl ⟨rfl, h1⟩⟩
  · by_cases h2 : PosS fun n => -f n
    · exact ⟨-1, .inr (.inl ⟨rfl, h2⟩)⟩
    · refine ⟨0, .inr (.inr ⟨rfl, fun d hd => ?_⟩)⟩
      obtain ⟨N, hN⟩ := h (d * (1 / 2)) (by grind)
      have a1 : ∃ m, N ≤ m ∧ f m ≤ d * (1 / 2) := Classical.byContradiction fun hc => h1 ⟨d * (1 / 2), by grind, N, fun n hn => by
        rcases Rat.le_total (a := f n) (b := d * (1 / 2)) with h | h
        · exact absurd ⟨n, hn, h⟩ hc
        · by_cases e : f n = d * (1 / 2)
          · exact absurd ⟨n, hn, by grind⟩ hc
          · grind⟩
      have a2 : ∃ m, N ≤ m ∧ -f m ≤ d * (1 / 2) := Classical.byContradiction fun hc => h2 ⟨d * (1 / 2), by grind, N, fun n hn => by
        rcases Rat.le_total (a := -f n) (b := d * (1 / 2)) with h | h
        · exact absurd ⟨n, hn, h⟩ hc
        · by_cases e : -f n = d * (1 / 2)
          · exact absurd ⟨n, hn, by grind⟩ hc
          · grind⟩
      obtain ⟨m1, g1, k1⟩ := a1
      obtain ⟨m2, g2, k2⟩ := a2
      refine ⟨N, fun n hn => ?_⟩
      have b1 := hN n m1 hn g1
      have b2 := hN m2 n g2 hn
      constructor <;> grind
theorem cg {f g : Nat → Rat} {n : Int} (h : SgS f n) (e : ∀ k, f k = g k) : SgS g n := by rwa [funext e] at h
theorem pos {f : Nat → Rat} (h : SgS f 1) : PosS f := by
  rcases h with ⟨e, h⟩ | ⟨e, h⟩ | ⟨e, h⟩
  · exact h
  · exact absurd e (by decide)
  · exact absurd e (by decide)
theorem npos {f : Nat → Rat} (h : SgS f (-1)) : PosS fun n => -f n := by
  rcases h with ⟨e, h⟩ | ⟨e, h⟩ | ⟨e, h⟩
  · exact absurd e (by decide)
  · exact h
  · exact absurd e (by decide)
theorem nul {f : Nat → Rat} (h : SgS f 0) : NulS f := by
  rcases h with ⟨e, h⟩ | ⟨e, h⟩ | ⟨e, h⟩
  · exact absurd e (by decide)
  · exact absurd e (by decide)
  · exact h
theorem of_npos {f : Nat → Rat} (h : PosS fun n => -f n) : SgS f (-1) := .inr (.inl ⟨rfl, h⟩)
theorem lim {f : Nat → Rat} {n : Int} (h : SgS f n) : n = 1 ∨ n = -1 ∨ n = 0 := by
  rcases h with ⟨e, h⟩ | ⟨e, h⟩ | ⟨e, h⟩ <;> simp [e]
theorem neg {f : Nat → Rat} {n : Int} (h : SgS f n) : SgS (fun k => -f k) (-n) := by
  rcases h with ⟨rfl, h⟩ | ⟨rfl, h⟩ | ⟨rfl, h⟩
  · exact .inr (.inl ⟨rfl, h.cg fun n => by grind⟩)
  · exact .inl ⟨rfl, h⟩
  · exact .inr (.inr ⟨rfl, h.neg⟩)
/-- A sum with what comes near 0. -/
theorem nadd {f g : Nat → Rat} {n : Int} (h : SgS f n) (k : NulS g) : SgS (fun k => f k + g k) n := by
  rcases h with ⟨rfl, h⟩ | ⟨rfl, h⟩ | ⟨rfl, h⟩
  · exact .inl ⟨rfl, h.nul k⟩
  · exact .inr (.inl ⟨rfl, (h.nul k.neg).cg fun n => by grind⟩)
  · exact .inr (.inr ⟨rfl, h.add k⟩)
theorem near {f g : Nat → Rat} {n : Int} (h : SgS f n) (k : NulS fun i => g i - f i) : SgS g n := (h.nadd k).cg fun n => by grind
theorem same {f g : Nat → Rat} {n : Int} (h : SgS f n) (k : SgS g n) : SgS (fun k => f k + g k) n := by
  rcases h with ⟨rfl, h⟩ | ⟨rfl, h⟩ | ⟨rfl, h⟩
  · exact .inl ⟨rfl, h.add k.pos⟩
  · exact .inr (.inl ⟨rfl, (h.add k.npos).cg fun n => by grind⟩)
  · exact .inr (.inr ⟨rfl, h.add k.nul⟩)
theorem mul {f g : Nat → Rat} {m n : Int} (hf : Cau f) (hg : Cau g) (h : SgS f m) (k : SgS g n) : SgS (fun k => f k * g k) (m * n) := by
  rcases h with ⟨rfl, h⟩ | ⟨rfl, h⟩ | ⟨rfl, h⟩
  · rw [Int.one_mul]
    rcases k with ⟨rfl, k⟩ | ⟨rfl, k⟩ | ⟨rfl, k⟩
    · exact .inl ⟨rfl, h.mul k⟩
    · exact .inr (.inl ⟨rfl, (h.mul k).cg fun n => by grind⟩)
    · exact .inr (.inr ⟨rfl, (k.mul hf.bnd).cg fun n => by grind⟩)
  · rcases k with ⟨rfl, k⟩ | ⟨rfl, k⟩ | ⟨rfl, k⟩
    · exact .inr (.inl ⟨rfl, (h.mul k).cg fun n => by grind⟩)
    · exact .inl ⟨rfl, (h.mul k).cg fun n => by grind⟩
    · exact .inr (.inr ⟨rfl, (k.mul hf.bnd).cg fun n => by grind⟩)
  · rw [Int.zero_mul]
    exact .inr (.inr ⟨rfl, h.mul hg.bnd⟩)
theorem const (q : Rat) : SgS (fun _ => q) (sgnR q) := by
  rcases sgn_cases q with ⟨a, e⟩ | ⟨a, e⟩ | ⟨a, e⟩ <;> rw [e]
  · exact .inr (.inl ⟨rfl, ⟨-q * (1 / 2), by grind, 0, fun n _ => by grind⟩⟩)
  · subst a; exact .inr (.inr ⟨rfl, NulS.zero⟩)
  · exact .inl ⟨rfl, ⟨q * (1 / 2), by grind, 0, fun n _ => by grind⟩⟩
end SgS
/-! ### Square roots -/
def epsS (n : Nat) : Rat := 1 / ((n : Rat) + 1)
/-- The root of c, rounded down to a multiple of 1 / (n + 1). -/
def rtS (c : Rat) (n : Nat) : Rat := ((isq (c * (((n : Rat) + 1) * ((n : Rat) + 1))).floor.toNat : Nat) : Rat) * epsS n
def v2 (A B M : Rat) (n : Nat) : Rat := A + B * rtS M n
def v4 (A B C D M N : Rat) (n : Nat) : Rat := v2 A B M n + v2 C D M n * rtS N n
end Go.Sw

namespace Go.Sw
open Go
set_option linter.unusedVariables false
theorem Bnd.nul {f : Nat → Rat} (h : NulS f) : Bnd f := by
  obtain ⟨N, hN⟩ := h 1 (by grind)
  exact ⟨1, by grind, N, hN⟩
theorem Bnd.add {f g : Nat → Rat} (h : Bnd f) (k : Bnd g) : Bnd fun n => f n + g n := by
  obtain ⟨B, hB, N, hN⟩ := h
  obtain ⟨D, hD, M, hM⟩ := k
  refine ⟨B + D, by grind, N + M, fun n hn => ?_⟩
  have := hN n (by omega)
  have := hM n (by omega)
  constructor <;> grind
theorem Bnd.cg {f g : Nat → Rat} (h : Bnd f) (e : ∀ n, f n = g n) : Bnd g := by rwa [funext e] at h
/-- An interval contains numbers that come near what a sequence comes near. -/
def ConS (p : Int × Int) (f : Nat → Rat) : Prop := ∃ g : Nat → Rat, NulS (fun n => g n - f n) ∧ ∀ n, con p (g n)
theorem ConS.const {p : Int × Int} {q : Rat} (h : con p q) : ConS p fun _ => q := ⟨fun _ => q, NulS.zero.cg fun n => by grind, fun _ => h⟩
theorem ConS.cg {p : Int × Int} {f g : Nat → Rat} (h : ConS p f) (e : ∀ n, f n = g n) : ConS p g := by rwa [funext e] at h
theorem ConS.add {x y p : Int × Int} {f g : Nat → Rat} (e : addI x y = some p) (h : ConS x f) (k : ConS y g) : ConS p fun n => f n + g n := by
  obtain ⟨u, hu, cu⟩ := h
  obtain ⟨v, hv, cv⟩ := k
  exact ⟨fun n => u n + v n, (hu.add hv).cg fun n => by grind, fun n => con_add e (cu n) (cv n)⟩
theorem ConS.mul {x y p : Int × Int} {f g : Nat → Rat} (e : mulI x y = some p) (hf : Cau f) (hg : Cau g) (h : ConS x f) (k : ConS y g) : ConS p fun n => f n * g n := by
  obtain ⟨u, hu, cu⟩ := h
  obtain ⟨v, hv, cv⟩ := k
  have bv : Bnd v := (hg.bnd.add (Bnd.nul hv)).cg fun n => by grind
  exact ⟨fun n => u n * v n, ((hu.mul bv).add (hv.mul hf.bnd)).cg fun n => by grind, fun n => con_mul e (cu n) (cv n)⟩
theorem ConS.lt {p q : Int × Int} {f g : Nat → Rat} (h : ConS p f) (k : ConS q g) (hl : p.2 < q.1) : SgS (fun n => f n - g n) (-1) := by
  obtain ⟨u, hu, cu⟩ := h
  obtain ⟨v, hv, cv⟩ := k
  have := Rat.intCast_lt_intCast.2 hl
  have key : SgS (fun n => u n - v n) (-1) := .of_npos ⟨((q.1 : Rat) - (p.2 : Rat)) * (1 / 131072), by grind, 0, fun n _ => by
    have := (cu n).2
    have := (cv n).1
    grind⟩
  exact key.near ((hv.sub hu).cg fun n => by grind)
end Go.Sw

namespace Go.Sw
open Go
set_option linter.unusedVariables false
end Go.Sw

namespace Go.Sw
open Go
set_option linter.unusedVariables false
/-- The square of the distance of (x, y) from the segment from (a, b) to (c, d). -/
def segD (a b c d x y : Rat) : Rat :=
  if (c - a) * (x - a) + (d - b) * (y - b) ≤ 0 then (x - a) * (x - a) + (y - b) * (y - b)
  else if (c - a) * (c - a) + (d - b) * (d - b) ≤ (c - a) * (x - a) + (d - b) * (y - b) then (x - c) * (x - c) + (y - d) * (y - d)
  else ((c - a) * (y - b) - (d - b) * (x - a)) * ((c - a) * (y - b) - (d - b) * (x - a)) / ((c - a) * (c - a) + (d - b) * (d - b))
theorem rz_segD {a b c d x y : Rat} {m1 m2 m3 m4 m5 m6 : Nat} (h1 : rz a ≤ m1) (h2 : rz b ≤ m2) (h3 : rz c ≤ m3) (h4 : rz d ≤ m4) (h5 : rz x ≤ m5) (h6 : rz y ≤ m6) : rz (segD a b c d x y) ≤ 64 * (m1 + m2 + m3 + m4 + m5 + m6) + 64 := by
  have a1 := rz_sub c a; have a2 := rz_sub d b; have a3 := rz_sub x a; have a4 := rz_sub y b; have a5 := rz_sub x c; have a6 := rz_sub y d
  have b1 := rz_mul (x - a) (x - a); have b2 := rz_mul (y - b) (y - b); have b3 := rz_mul (x - c) (x - c); have b4 := rz_mul (y - d) (y - d)
  have b5 := rz_mul (c - a) (y - b); have b6 := rz_mul (d - b) (x - a); have b7 := rz_mul (c - a) (c - a); have b8 := rz_mul (d - b) (d - b)
  have c1 := rz_add ((x - a) * (x - a)) ((y - b) * (y - b)); have c2 := rz_add ((x - c) * (x - c)) ((y - d) * (y - d)); have c3 := rz_add ((c - a) * (c - a)) ((d - b) * (d - b))
  have c4 := rz_sub ((c - a) * (y - b)) ((d - b) * (x - a))
  have c5 := rz_mul ((c - a) * (y - b) - (d - b) * (x - a)) ((c - a) * (y - b) - (d - b) * (x - a))
  unfold segD
  split
  · omega
  · split
    · omega
    · by_cases h0 : (c - a) * (c - a) + (d - b) * (d - b) = 0
      · rw [h0, Rat.div_def, Rat.inv_zero, Rat.mul_zero]; have := rz_0; omega
      · have := rz_div (((c - a) * (y - b) - (d - b) * (x - a)) * ((c - a) * (y - b) - (d - b) * (x - a))) _ h0
        omega
instance {a b c d x y : Rat} {m1 m2 m3 m4 m5 m6 : Nat} [h1 : RzB a m1] [h2 : RzB b m2] [h3 : RzB c m3] [h4 : RzB d m4] [h5 : RzB x m5] [h6 : RzB y m6] : RzB (segD a b c d x y) (64 * (m1 + m2 + m3 + m4 + m5 + m6) + 64) := ⟨rz_segD h1.h h2.h h3.h h4.h h5.h h6.h⟩
/-- The tool comes over the point. -/
def swOn (fx fy tx ty : Rat) (r : Int) (x y : Rat) : Prop := 0 ≤ r ∧ segD fx fy tx ty x y ≤ (r : Rat) * (r : Rat)
instance {fx fy tx ty : Rat} {r : Int} {x y : Rat} : Decidable (swOn fx fy tx ty r x y) := by unfold swOn; infer_instance
end Go.Sw

namespace Go.Sw
open Go
set_option linter.unusedVariables false
section
variable (a b c d e f : Rat)
end
end Go.Sw

namespace Go.Sw
open Go
set_option linter.unusedVariables false
theorem onB_hn {b : Bool} {k : Bool → Prop} (h : b = false) (hk : k true) : OnB (!b) k := ⟨fun _ => hk, fun e => by rw [h] at e; cases e⟩
theorem onB_hy {b : Bool} {k : Bool → Prop} (h : b = true) (hk : k false) : OnB (!b) k := ⟨fun e => (by rw [h] at e; cases e), fun _ => hk⟩
end Go.Sw

namespace Go.Sw
open Go
set_option linter.unusedVariables false
section
variable {a b c d m n x y : Rat}
theorem sqA_1 {q : AV} (k1 : isSq a.num = true) (k2 : isSq a.den = true) (e : isSqR a = true → q = AV.tup [R (sqR a), AV.bool true]) :
    packA [AV.agg [zs (if a.num < 0 then 0 else (isq a.num.natAbs : Nat)), zl (if a.num < 0 then 0 else (isq a.num.natAbs : Nat)), zs (if (a.den : Int) < 0 then 0 else (isq (a.den : Int).natAbs : Nat)), zl (if (a.den : Int) < 0 then 0 else (isq (a.den : Int).natAbs : Nat))], AV.c (Cell.v (.bool true))] = q :=
  sqrt_1 (by rw [k1]; rfl) (by rw [k2]; rfl) e
theorem sqA_0 {q r : AV} (k1 : isSq a.num = false) (e : ¬isSqR a = true → q = r) : r = q := (e (sqrt_0 (.inl (by rw [k1]; rfl)))).symm
theorem sqA_2 {q r : AV} (k1 : isSq a.den = false) (e : ¬isSqR a = true → q = r) : r = q := (e (sqrt_0 (.inr (by rw [k1]; rfl)))).symm
end
section
variable {fx fy tx ty x y : Rat} {r fz tz : Int}
end
section
variable {fx fy tx ty x y : Rat} {r fz tz : Int}
end
end Go.Sw

namespace Go.Proofs.YtghlkihmnopenaaGreatDoor
open Go Go.RowKit Go.Sw
set_option linter.unusedVariables false
set_option maxRecDepth 100000
set_option maxHeartbeats 8000000
set_option synthInstance.maxSize 4000
set_option synthInstance.maxHeartbeats 400000
instance c_nan (n : Int) : DenI Tryz.prog 114 [.int .i64 n] (True) (.bool false) := ⟨fun hp => by
 refine den_of (τ := tab) tab_ok mixed_ Tryz.func114 rfl (by kernel_rfl) (by kernel_rfl) (by kernel_rfl) ?_
 all_goals (repeat' ((try (conv => whnf)); first
  | refine call_0 ?_
  | refine call_i ?_ ?_
  | refine call_c ?_ (fun _ => ?_) (fun _ => ?_)
  | (with_reducible refine onB_t ?_)
  | (with_reducible refine onB_f ?_)
  | (with_reducible refine onB_d (fun _ => ?_) (fun _ => ?_))
  | (with_reducible refine onB_n (fun _ => ?_) (fun _ => ?_))
  | refine OnB.mk (fun _ => ?_) (fun _ => ?_)
  | refine obl_i ?_ ?_
  | refine Drw.mk (by kernel_rfl) ?_
  | refine mks_i ?_ ?_
  | refine slp_i ?_ ?_
  | (with_reducible refine elem_u ?_ ?_)
  | (with_reducible refine elem_0 ?_)
  | (with_reducible refine elem_1 ?_)
  | refine Ends.mk ?_))
 all_goals (try refine Pr.mk ?_)
 all_goals first
  | (refine bE ?_; simp)
  | skip⟩

instance c_cmp (m n : Int) : DenI Tryz.prog 86 [.int .i64 m, .int .i64 n] (True) (.int .i64 (cmpI m n)) := ⟨fun hp => by
 refine den_of (τ := tab) tab_ok mixed_ Tryz.func86 rfl (by kernel_rfl) (by kernel_rfl) (by kernel_rfl) ?_
 all_goals (repeat' ((try (conv => whnf)); first
  | refine call_0 ?_
  | refine call_i ?_ ?_
  | refine call_c ?_ (fun _ => ?_) (fun _ => ?_)
  | (with_reducible refine onB_t ?_)
  | (with_reducible refine onB_f ?_)
  | (with_reducible refine onB_d (fun _ => ?_) (fun _ => ?_))
  | (with_reducible refine onB_n (fun _ => ?_) (fun _ => ?_))
  | refine OnB.mk (fun _ => ?_) (fun _ => ?_)
  | refine obl_i ?_ ?_
  | refine Drw.mk (by kernel_rfl) ?_
  | refine mks_i ?_ ?_
  | refine slp_i ?_ ?_
  | (with_reducible refine elem_u ?_ ?_)
  | (with_reducible refine elem_0 ?_)
  | (with_reducible refine elem_1 ?_)
  | refine Ends.mk ?_))
 all_goals (try refine Pr.mk ?_)
 all_goals first
  | (refine iE ?_; unfold cmpI; (repeat' split) <;> omega)
  | skip⟩

instance r_cmp (a b : Rat) : DenI Tryz.prog 40 [R a, R b] (rz a ≤ 10000000 ∧ rz b ≤ 10000000) (.int .i64 (cmpR a b)) := ⟨fun hp => by
 have i_a : RzB a 10000000 := ⟨hp.1⟩
 have i_b : RzB b 10000000 := ⟨hp.2⟩
 all_goals refine den_of (τ := tab) tab_ok mixed_ Tryz.func40 rfl (by kernel_rfl) (by kernel_rfl) (by kernel_rfl) ?_
 all_goals (repeat' ((try (conv => whnf)); first
  | refine call_0 ?_
  | refine call_i ?_ ?_
  | refine call_c ?_ (fun _ => ?_) (fun _ => ?_)
  | (with_reducible refine onB_t ?_)
  | (with_reducible refine onB_f ?_)
  | (with_reducible refine onB_d (fun _ => ?_) (fun _ => ?_))
  | (with_reducible refine onB_n (fun _ => ?_) (fun _ => ?_))
  | refine OnB.mk (fun _ => ?_) (fun _ => ?_)
  | refine obl_i ?_ ?_
  | refine Drw.mk (by kernel_rfl) ?_
  | refine mks_i ?_ ?_
  | refine slp_i ?_ ?_
  | (with_reducible refine elem_u ?_ ?_)
  | (with_reducible refine elem_0 ?_)
  | (with_reducible refine elem_1 ?_)
  | refine Ends.mk ?_))
 all_goals (try refine Pr.mk ?_)
 all_goals (try simp only [sgnI_lt0, sgnI_zero, sgnI_le0, sgnI_gt0, sgnI_ge0, sgnI_eq1, cmpI_lt0, cmpI_gt0, cmpI_eq0, cmpI_le0, cmpI_ge0, cmpR_of, sgnR_of, sgnR_lt0, sgnR_eq0, sgnR_gt0, sgnR_le0, sgnR_ge0, sgnR_eq1, cmpR_lt0, cmpR_gt0, cmpR_eq0, cmpR_le0, cmpR_ge0] at *)
 all_goals first
  | with_reducible exact cmp_sg (by assumption)
  | rfl
  | ((repeat' apply And.intro) <;> first | assumption | exact rzb (by omega) | exact szb (by omega) | exact Int.mul_ne_zero (den_ne _) (den_ne _))
  | skip⟩

instance r_div (a b : Rat) : DenC Tryz.prog 50 [R a, R b] (rz a ≤ 10000000 ∧ rz b ≤ 10000000) (b = 0) (.tup [ZR, .int .i64 6]) (.tup [R (a / b), .int .i64 0]) := ⟨denC fun hp q e1 e2 => by
 have i_a : RzB a 10000000 := ⟨hp.1⟩
 have i_b : RzB b 10000000 := ⟨hp.2⟩
 all_goals refine den_of (τ := tab) tab_ok mixed_ Tryz.func50 rfl (by kernel_rfl) (by kernel_rfl) (by kernel_rfl) ?_
 all_goals (repeat' ((try (conv => whnf)); first
  | refine call_0 ?_
  | refine call_i ?_ ?_
  | refine call_c ?_ (fun _ => ?_) (fun _ => ?_)
  | (with_reducible refine onB_t ?_)
  | (with_reducible refine onB_f ?_)
  | (with_reducible refine onB_d (fun _ => ?_) (fun _ => ?_))
  | (with_reducible refine onB_n (fun _ => ?_) (fun _ => ?_))
  | refine OnB.mk (fun _ => ?_) (fun _ => ?_)
  | refine obl_i ?_ ?_
  | refine Drw.mk (by kernel_rfl) ?_
  | refine mks_i ?_ ?_
  | refine slp_i ?_ ?_
  | (with_reducible refine elem_u ?_ ?_)
  | (with_reducible refine elem_0 ?_)
  | (with_reducible refine elem_1 ?_)
  | refine Ends.mk ?_))
 all_goals (try refine Pr.mk ?_)
 all_goals (try simp only [sgnI_lt0, sgnI_zero, sgnI_le0, sgnI_gt0, sgnI_ge0, sgnI_eq1, cmpI_lt0, cmpI_gt0, cmpI_eq0, cmpI_le0, cmpI_ge0, cmpR_of, sgnR_of, sgnR_lt0, sgnR_eq0, sgnR_gt0, sgnR_le0, sgnR_ge0, sgnR_eq1, cmpR_lt0, cmpR_gt0, cmpR_eq0, cmpR_le0, cmpR_ge0] at *)
 all_goals first
  | (rw [e1 (by assumption)]; rfl)
  | with_reducible exact div_1 (by assumption) e2
  | (refine ⟨den_num1 (by assumption), ?_, ?_⟩ <;> exact szb (by omega))
  | ((repeat' apply And.intro) <;> first | assumption | exact rzb (by omega) | exact szb (by omega) | exact Int.mul_ne_zero (den_ne _) (den_ne _))
  | skip⟩

instance r_make (n d : Int)  : DenC Tryz.prog 45 [Z n, Z d] (sz n ≤ 500000000 ∧ sz d ≤ 500000000) (d = 0) (.tup [ZR, .int .i64 6]) (.tup [R ((n : Rat) / d), .int .i64 0]) := ⟨denC fun hp q e1 e2 => by
 have i_n : SzB n 500000000 := ⟨hp.1⟩
 have i_d : SzB d 500000000 := ⟨hp.2⟩
 all_goals refine den_of (τ := tab) tab_ok mixed_ Tryz.func45 rfl (by kernel_rfl) (by kernel_rfl) (by kernel_rfl) ?_
 all_goals (repeat' ((try (conv => whnf)); first
  | refine call_0 ?_
  | refine call_i ?_ ?_
  | refine call_c ?_ (fun _ => ?_) (fun _ => ?_)
  | (with_reducible refine onB_t ?_)
  | (with_reducible refine onB_f ?_)
  | (with_reducible refine onB_d (fun _ => ?_) (fun _ => ?_))
  | (with_reducible refine onB_n (fun _ => ?_) (fun _ => ?_))
  | refine OnB.mk (fun _ => ?_) (fun _ => ?_)
  | refine obl_i ?_ ?_
  | refine Drw.mk (by kernel_rfl) ?_
  | refine mks_i ?_ ?_
  | refine slp_i ?_ ?_
  | (with_reducible refine elem_u ?_ ?_)
  | (with_reducible refine elem_0 ?_)
  | (with_reducible refine elem_1 ?_)
  | refine Ends.mk ?_))
 all_goals (try refine Pr.mk ?_)
 all_goals (try simp only [sgnI_lt0, sgnI_zero, sgnI_le0, sgnI_gt0, sgnI_ge0, sgnI_eq1, cmpI_lt0, cmpI_gt0, cmpI_eq0, cmpI_le0, cmpI_ge0, cmpR_of, sgnR_of, sgnR_lt0, sgnR_eq0, sgnR_gt0, sgnR_le0, sgnR_ge0, sgnR_eq1, cmpR_lt0, cmpR_gt0, cmpR_eq0, cmpR_le0, cmpR_ge0] at *)
 all_goals first
  | (rw [e1 (by assumption)]; rfl)
  | (rw [e2 (by assumption)]; rfl)
  | (refine ⟨by assumption, ?_, ?_⟩ <;> exact szb (by omega))
  | ((repeat' apply And.intro) <;> first | assumption | exact rzb (by omega) | exact szb (by omega) | exact Int.mul_ne_zero (den_ne _) (den_ne _))
  | skip⟩

instance r_frac (n d : Int)  : DenI Tryz.prog 48 [.int .i64 n, .int .i64 d] ((-9223372036854775808 ≤ n ∧ n ≤ 9223372036854775807) ∧ -9223372036854775808 ≤ d ∧ d ≤ 9223372036854775807) (R ((n : Rat) / d)) := ⟨fun hp => by
 refine den_of (τ := tab) tab_ok mixed_ Tryz.func48 rfl (by kernel_rfl) (by kernel_rfl) (by kernel_rfl) ?_
 all_goals (repeat' ((try (conv => whnf)); first
  | refine call_0 ?_
  | refine call_i ?_ ?_
  | refine call_c ?_ (fun _ => ?_) (fun _ => ?_)
  | (with_reducible refine onB_t ?_)
  | (with_reducible refine onB_f ?_)
  | (with_reducible refine onB_d (fun _ => ?_) (fun _ => ?_))
  | (with_reducible refine onB_n (fun _ => ?_) (fun _ => ?_))
  | refine OnB.mk (fun _ => ?_) (fun _ => ?_)
  | refine obl_i ?_ ?_
  | refine Drw.mk (by kernel_rfl) ?_
  | refine mks_i ?_ ?_
  | refine slp_i ?_ ?_
  | (with_reducible refine elem_u ?_ ?_)
  | (with_reducible refine elem_0 ?_)
  | (with_reducible refine elem_1 ?_)
  | refine Ends.mk ?_))
 all_goals (try refine Pr.mk ?_)
 all_goals (try simp only [sgnI_lt0, sgnI_zero, sgnI_le0, sgnI_gt0, sgnI_ge0, sgnI_eq1, cmpI_lt0, cmpI_gt0, cmpI_eq0, cmpI_le0, cmpI_ge0, cmpR_of, sgnR_of, sgnR_lt0, sgnR_eq0, sgnR_gt0, sgnR_le0, sgnR_ge0, sgnR_eq1, cmpR_lt0, cmpR_gt0, cmpR_eq0, cmpR_le0, cmpR_ge0] at *)
 all_goals first
  | rfl
  | omega
  | (subst d; exact congrArg R (frac_0 n))
  | (have z1 := sz_64 hp.1.1 hp.1.2; have z2 := sz_64 hp.2.1 hp.2.2; omega)
  | ((repeat' apply And.intro) <;> first | assumption | exact rzb (by omega) | exact szb (by omega) | exact Int.mul_ne_zero (den_ne _) (den_ne _))
  | skip⟩

instance s_same (a b : Rat) : DenI Tryz.prog 23 [R a, R b] (rz a ≤ 10000000 ∧ rz b ≤ 10000000) (.bool (decide (a = b))) := ⟨fun hp => by
 have i_a : RzB a 10000000 := ⟨hp.1⟩
 have i_b : RzB b 10000000 := ⟨hp.2⟩
 all_goals refine den_of (τ := tab) tab_ok mixed_ Tryz.func23 rfl (by kernel_rfl) (by kernel_rfl) (by kernel_rfl) ?_
 all_goals (repeat' ((try (conv => whnf)); first
  | refine call_0 ?_
  | refine call_i ?_ ?_
  | refine call_c ?_ (fun _ => ?_) (fun _ => ?_)
  | (with_reducible refine onB_t ?_)
  | (with_reducible refine onB_f ?_)
  | (with_reducible refine onB_d (fun _ => ?_) (fun _ => ?_))
  | (with_reducible refine onB_n (fun _ => ?_) (fun _ => ?_))
  | refine OnB.mk (fun _ => ?_) (fun _ => ?_)
  | refine obl_i ?_ ?_
  | refine Drw.mk (by kernel_rfl) ?_
  | refine mks_i ?_ ?_
  | refine slp_i ?_ ?_
  | (with_reducible refine elem_u ?_ ?_)
  | (with_reducible refine elem_0 ?_)
  | (with_reducible refine elem_1 ?_)
  | refine Ends.mk ?_))
 all_goals (try refine Pr.mk ?_)
 all_goals (try simp only [sgnI_lt0, sgnI_zero, sgnI_le0, sgnI_gt0, sgnI_ge0, sgnI_eq1, cmpI_lt0, cmpI_gt0, cmpI_eq0, cmpI_le0, cmpI_ge0, cmpR_of, sgnR_of, sgnR_lt0, sgnR_eq0, sgnR_gt0, sgnR_le0, sgnR_ge0, sgnR_eq1, cmpR_lt0, cmpR_gt0, cmpR_eq0, cmpR_le0, cmpR_ge0] at *)
 all_goals first
  | with_reducible exact rsame_1 (by assumption)
  | with_reducible exact rsame_0 (by assumption)
  | ((repeat' apply And.intro) <;> first | assumption | exact rzb (by omega) | exact szb (by omega) | exact Int.mul_ne_zero (den_ne _) (den_ne _))
  | skip⟩

instance s_perf (a : Int) : DenI Tryz.prog 66 [Z a] (sz a ≤ 10000000) (.tup [Z (if a < 0 then 0 else (isq a.natAbs : Nat)), .bool (isSq a)]) := ⟨fun hp => by
 have i_a : SzB a 10000000 := ⟨hp⟩
 all_goals refine den_of (τ := tab) tab_ok mixed_ Tryz.func66 rfl (by kernel_rfl) (by kernel_rfl) (by kernel_rfl) ?_
 all_goals (repeat' ((try (conv => whnf)); first
  | refine call_0 ?_
  | refine call_i ?_ ?_
  | refine call_c ?_ (fun _ => ?_) (fun _ => ?_)
  | (with_reducible refine onB_t ?_)
  | (with_reducible refine onB_f ?_)
  | (with_reducible refine onB_d (fun _ => ?_) (fun _ => ?_))
  | (with_reducible refine onB_n (fun _ => ?_) (fun _ => ?_))
  | refine OnB.mk (fun _ => ?_) (fun _ => ?_)
  | refine obl_i ?_ ?_
  | refine Drw.mk (by kernel_rfl) ?_
  | refine mks_i ?_ ?_
  | refine slp_i ?_ ?_
  | (with_reducible refine elem_u ?_ ?_)
  | (with_reducible refine elem_0 ?_)
  | (with_reducible refine elem_1 ?_)
  | refine Ends.mk ?_))
 all_goals (try refine Pr.mk ?_)
 all_goals (try simp only [sgnI_lt0, sgnI_zero, sgnI_le0, sgnI_gt0, sgnI_ge0, sgnI_eq1, cmpI_lt0, cmpI_gt0, cmpI_eq0, cmpI_le0, cmpI_ge0, cmpR_of, sgnR_of, sgnR_lt0, sgnR_eq0, sgnR_gt0, sgnR_le0, sgnR_ge0, sgnR_eq1, cmpR_lt0, cmpR_gt0, cmpR_eq0, cmpR_le0, cmpR_ge0] at *)
 all_goals first
  | with_reducible exact perf_1 (by assumption)
  | with_reducible exact perf_2 (by assumption)
  | ((repeat' apply And.intro) <;> first | assumption | exact rzb (by omega) | exact szb (by omega) | exact Int.mul_ne_zero (den_ne _) (den_ne _))
  | skip⟩

instance s_make (n d : Int)  : DenC Tryz.prog 46 [Z n, Z d] (sz n ≤ 500000000 ∧ sz d ≤ 500000000) (d = 0) (.tup [ZR, .int .i64 6]) (.tup [R ((n : Rat) / d), .int .i64 0]) := ⟨denC fun hp q e1 e2 => by
 have i_n : SzB n 500000000 := ⟨hp.1⟩
 have i_d : SzB d 500000000 := ⟨hp.2⟩
 all_goals refine den_of (τ := tab) tab_ok mixed_ Tryz.func46 rfl (by kernel_rfl) (by kernel_rfl) (by kernel_rfl) ?_
 all_goals (repeat' ((try (conv => whnf)); first
  | refine call_0 ?_
  | refine call_i ?_ ?_
  | refine call_c ?_ (fun _ => ?_) (fun _ => ?_)
  | (with_reducible refine onB_t ?_)
  | (with_reducible refine onB_f ?_)
  | (with_reducible refine onB_d (fun _ => ?_) (fun _ => ?_))
  | (with_reducible refine onB_n (fun _ => ?_) (fun _ => ?_))
  | refine OnB.mk (fun _ => ?_) (fun _ => ?_)
  | refine obl_i ?_ ?_
  | refine Drw.mk (by kernel_rfl) ?_
  | refine mks_i ?_ ?_
  | refine slp_i ?_ ?_
  | (with_reducible refine elem_u ?_ ?_)
  | (with_reducible refine elem_0 ?_)
  | (with_reducible refine elem_1 ?_)
  | refine Ends.mk ?_))
 all_goals (try refine Pr.mk ?_)
 all_goals (try simp only [sgnI_lt0, sgnI_zero, sgnI_le0, sgnI_gt0, sgnI_ge0, sgnI_eq1, cmpI_lt0, cmpI_gt0, cmpI_eq0, cmpI_le0, cmpI_ge0, cmpR_of, sgnR_of, sgnR_lt0, sgnR_eq0, sgnR_gt0, sgnR_le0, sgnR_ge0, sgnR_eq1, cmpR_lt0, cmpR_gt0, cmpR_eq0, cmpR_le0, cmpR_ge0] at *)
 all_goals first
  | (rw [e1 (by assumption)]; rfl)
  | (rw [e2 (by assumption)]; rfl)
  | (refine ⟨by assumption, ?_, ?_⟩ <;> exact szb (by omega))
  | ((repeat' apply And.intro) <;> first | assumption | exact rzb (by omega) | exact szb (by omega) | exact Int.mul_ne_zero (den_ne _) (den_ne _))
  | skip⟩

instance s_div (a b : Rat) : DenC Tryz.prog 51 [R a, R b] (rz a ≤ 10000000 ∧ rz b ≤ 10000000) (b = 0) (.tup [ZR, .int .i64 6]) (.tup [R (a / b), .int .i64 0]) := ⟨denC fun hp q e1 e2 => by
 have i_a : RzB a 10000000 := ⟨hp.1⟩
 have i_b : RzB b 10000000 := ⟨hp.2⟩
 all_goals refine den_of (τ := tab) tab_ok mixed_ Tryz.func51 rfl (by kernel_rfl) (by kernel_rfl) (by kernel_rfl) ?_
 all_goals (repeat' ((try (conv => whnf)); first
  | refine call_0 ?_
  | refine call_i ?_ ?_
  | refine call_c ?_ (fun _ => ?_) (fun _ => ?_)
  | (with_reducible refine onB_t ?_)
  | (with_reducible refine onB_f ?_)
  | (with_reducible refine onB_d (fun _ => ?_) (fun _ => ?_))
  | (with_reducible refine onB_n (fun _ => ?_) (fun _ => ?_))
  | refine OnB.mk (fun _ => ?_) (fun _ => ?_)
  | refine obl_i ?_ ?_
  | refine Drw.mk (by kernel_rfl) ?_
  | refine mks_i ?_ ?_
  | refine slp_i ?_ ?_
  | (with_reducible refine elem_u ?_ ?_)
  | (with_reducible refine elem_0 ?_)
  | (with_reducible refine elem_1 ?_)
  | refine Ends.mk ?_))
 all_goals (try refine Pr.mk ?_)
 all_goals (try simp only [sgnI_lt0, sgnI_zero, sgnI_le0, sgnI_gt0, sgnI_ge0, sgnI_eq1, cmpI_lt0, cmpI_gt0, cmpI_eq0, cmpI_le0, cmpI_ge0, cmpR_of, sgnR_of, sgnR_lt0, sgnR_eq0, sgnR_gt0, sgnR_le0, sgnR_ge0, sgnR_eq1, cmpR_lt0, cmpR_gt0, cmpR_eq0, cmpR_le0, cmpR_ge0] at *)
 all_goals first
  | (rw [e1 (den_num0 (by assumption))]; rfl)
  | with_reducible exact div_2 (by assumption) e2
  | ((repeat' apply And.intro) <;> first | assumption | exact rzb (by omega) | exact szb (by omega) | exact Int.mul_ne_zero (den_ne _) (den_ne _))
  | skip⟩

instance s_sqrt (a : Rat) : DenC Tryz.prog 22 [R a] (rz a ≤ 1000000) (isSqR a = true) (.tup [R (sqR a), .bool true]) (.tup [ZR, .bool false]) := ⟨denC fun hp q e1 e2 => by
 have i_a : RzB a 1000000 := ⟨hp⟩
 all_goals refine den_of (τ := tab) tab_ok mixed_ Tryz.func22 rfl (by kernel_rfl) (by kernel_rfl) (by kernel_rfl) ?_
 all_goals (repeat' ((try (conv => whnf)); first
  | refine call_0 ?_
  | refine call_i ?_ ?_
  | refine call_c ?_ (fun _ => ?_) (fun _ => ?_)
  | (with_reducible refine onB_t ?_)
  | (with_reducible refine onB_f ?_)
  | (with_reducible refine onB_d (fun _ => ?_) (fun _ => ?_))
  | (with_reducible refine onB_n (fun _ => ?_) (fun _ => ?_))
  | refine OnB.mk (fun _ => ?_) (fun _ => ?_)
  | refine obl_i ?_ ?_
  | refine Drw.mk (by kernel_rfl) ?_
  | refine mks_i ?_ ?_
  | refine slp_i ?_ ?_
  | (with_reducible refine elem_u ?_ ?_)
  | (with_reducible refine elem_0 ?_)
  | (with_reducible refine elem_1 ?_)
  | refine Ends.mk ?_))
 all_goals (try refine Pr.mk ?_)
 all_goals (try simp only [sgnI_lt0, sgnI_zero, sgnI_le0, sgnI_gt0, sgnI_ge0, sgnI_eq1, cmpI_lt0, cmpI_gt0, cmpI_eq0, cmpI_le0, cmpI_ge0, cmpR_of, sgnR_of, sgnR_lt0, sgnR_eq0, sgnR_gt0, sgnR_le0, sgnR_ge0, sgnR_eq1, cmpR_lt0, cmpR_gt0, cmpR_eq0, cmpR_le0, cmpR_ge0] at *)
 all_goals first
  | with_reducible exact sqrt_1 (by assumption) (by assumption) e1
  | (rw [e2 (sqrt_0 (.inl (by assumption)))]; rfl)
  | (rw [e2 (sqrt_0 (.inr (by assumption)))]; rfl)
  | ((repeat' apply And.intro) <;> first | assumption | exact rzb (by omega) | exact szb (by omega) | exact Int.mul_ne_zero (den_ne _) (den_ne _))
  | skip⟩

instance m_side (a : Int) : DenI Tryz.prog 65 [Z a] (sz a ≤ 10000000) (.tup [Z (if a < 0 then 0 else (isq a.natAbs : Nat)), .bool (isSq a)]) := ⟨fun hp => by
 have i_a : SzB a 10000000 := ⟨hp⟩
 all_goals refine den_of (τ := tab) tab_ok mixed_ Tryz.func65 rfl (by kernel_rfl) (by kernel_rfl) (by kernel_rfl) ?_
 all_goals (repeat' ((try (conv => whnf)); first
  | refine call_0 ?_
  | refine call_i ?_ ?_
  | refine call_c ?_ (fun _ => ?_) (fun _ => ?_)
  | (with_reducible refine onB_t ?_)
  | (with_reducible refine onB_f ?_)
  | (with_reducible refine onB_d (fun _ => ?_) (fun _ => ?_))
  | (with_reducible refine onB_n (fun _ => ?_) (fun _ => ?_))
  | refine OnB.mk (fun _ => ?_) (fun _ => ?_)
  | refine obl_i ?_ ?_
  | refine Drw.mk (by kernel_rfl) ?_
  | refine mks_i ?_ ?_
  | refine slp_i ?_ ?_
  | (with_reducible refine elem_u ?_ ?_)
  | (with_reducible refine elem_0 ?_)
  | (with_reducible refine elem_1 ?_)
  | refine Ends.mk ?_))
 all_goals (try refine Pr.mk ?_)
 all_goals (try simp only [sgnI_lt0, sgnI_zero, sgnI_le0, sgnI_gt0, sgnI_ge0, sgnI_eq1, cmpI_lt0, cmpI_gt0, cmpI_eq0, cmpI_le0, cmpI_ge0, cmpR_of, sgnR_of, sgnR_lt0, sgnR_eq0, sgnR_gt0, sgnR_le0, sgnR_ge0, sgnR_eq1, cmpR_lt0, cmpR_gt0, cmpR_eq0, cmpR_le0, cmpR_ge0] at *)
 all_goals first
  | with_reducible exact perf_1 (by assumption)
  | with_reducible exact perf_2 (by assumption)
  | ((repeat' apply And.intro) <;> first | assumption | exact rzb (by omega) | exact szb (by omega) | exact Int.mul_ne_zero (den_ne _) (den_ne _))
  | skip⟩

instance m_sqrt (a : Rat) : DenC Tryz.prog 21 [R a] (rz a ≤ 1000000) (isSqR a = true) (.tup [R (sqR a), .bool true]) (.tup [ZR, .bool false]) := ⟨denC fun hp q e1 e2 => by
 have i_a : RzB a 1000000 := ⟨hp⟩
 all_goals refine den_of (τ := tab) tab_ok mixed_ Tryz.func21 rfl (by kernel_rfl) (by kernel_rfl) (by kernel_rfl) ?_
 all_goals (repeat' ((try (conv => whnf)); first
  | refine call_0 ?_
  | refine call_i ?_ ?_
  | refine call_c ?_ (fun _ => ?_) (fun _ => ?_)
  | (with_reducible refine onB_t ?_)
  | (with_reducible refine onB_f ?_)
  | (with_reducible refine onB_d (fun _ => ?_) (fun _ => ?_))
  | (with_reducible refine onB_n (fun _ => ?_) (fun _ => ?_))
  | refine OnB.mk (fun _ => ?_) (fun _ => ?_)
  | refine obl_i ?_ ?_
  | refine Drw.mk (by kernel_rfl) ?_
  | refine mks_i ?_ ?_
  | refine slp_i ?_ ?_
  | (with_reducible refine elem_u ?_ ?_)
  | (with_reducible refine elem_0 ?_)
  | (with_reducible refine elem_1 ?_)
  | refine Ends.mk ?_))
 all_goals (try refine Pr.mk ?_)
 all_goals (try simp only [sgnI_lt0, sgnI_zero, sgnI_le0, sgnI_gt0, sgnI_ge0, sgnI_eq1, cmpI_lt0, cmpI_gt0, cmpI_eq0, cmpI_le0, cmpI_ge0, cmpR_of, sgnR_of, sgnR_lt0, sgnR_eq0, sgnR_gt0, sgnR_le0, sgnR_ge0, sgnR_eq1, cmpR_lt0, cmpR_gt0, cmpR_eq0, cmpR_le0, cmpR_ge0] at *)
 all_goals first
  | with_reducible exact sqA_1 (by assumption) (by assumption) e1
  | (refine (Eq.trans ?_ (sqA_0 (by assumption) e2)); rfl)
  | (refine (Eq.trans ?_ (sqA_2 (by assumption) e2)); rfl)
  | ((repeat' apply And.intro) <;> first | assumption | exact rzb (by omega) | exact szb (by omega) | exact Int.mul_ne_zero (den_ne _) (den_ne _))
  | skip⟩

end Go.Proofs.YtghlkihmnopenaaGreatDoor

namespace Go.Sw
open Go
set_option linter.unusedVariables false
/-! ### Numbers and integers -/
theorem add_int_nd (q : Rat) (n : Int) : (q + (n : Rat)).num = q.num + n * q.den ∧ (q + (n : Rat)).den = q.den := by
  have hc : (q.num + n * q.den).natAbs.Coprime q.den := by
    have h := q.reduced
    have e : Int.gcd (q.num + n * q.den) q.den = Int.gcd q.num q.den := by
      rw [Int.gcd_add_mul_right_left]
    exact e.trans h
  have e : q + (n : Rat) = ⟨q.num + n * q.den, q.den, q.den_nz, hc⟩ := by
    rw [Rat.mk_eq_mkRat, Rat.add_def']
    simp
  rw [e]; exact ⟨rfl, rfl⟩
theorem sub_int_nd (q : Rat) (n : Int) : (q - (n : Rat)).num = q.num - n * q.den ∧ (q - (n : Rat)).den = q.den := by
  have h := add_int_nd q (-n)
  rw [Rat.intCast_neg, ← Rat.sub_eq_add_neg] at h
  refine ⟨?_, h.2⟩
  rw [h.1, Int.neg_mul]; rfl
theorem inv_nd {q : Rat} (h : 0 < q) : (((1 : Int) : Rat) / q).num = q.den ∧ ((((1 : Int) : Rat) / q).den : Int) = q.num := by
  have hn : 0 < q.num := by
    have := (Rat.lt_iff 0 q).1 h
    simpa using this
  have e : ((1 : Int) : Rat) / q = q⁻¹ := by rw [Rat.div_def, Rat.intCast_one, Rat.one_mul]
  rw [e, Rat.num_inv, Rat.den_inv, if_neg (by omega), Int.sign_eq_one_of_pos hn]
  omega
theorem num_le_den {q : Rat} (h : q ≤ 1) : q.num ≤ q.den := by
  have := (Rat.le_iff q 1).1 h
  simpa using this
theorem num_lt_den {q : Rat} (h : q < 1) : q.num < q.den := by
  have := (Rat.lt_iff q 1).1 h
  simpa using this
theorem fl_lo (a : Rat) : ((a.floor : Int) : Rat) ≤ a := Rat.floor_le a
theorem fl_hi (a : Rat) : a < ((a.floor : Int) : Rat) + ((1 : Int) : Rat) := by
  have := Rat.lt_floor_add_one a
  rw [Rat.intCast_add] at this; exact this
theorem inv_lt {x y : Rat} (hy : 0 < y) (h : y < x) : ((1 : Int) : Rat) / x < ((1 : Int) : Rat) / y := by
  have hx : 0 < x := by grind
  rw [Rat.intCast_one, Rat.div_lt_iff hx]
  have e : 1 / y * x = x / y := by rw [Rat.div_def, Rat.div_def, Rat.one_mul, Rat.mul_comm]
  rw [e, Rat.lt_div_iff hy, Rat.one_mul]; exact h
theorem inv_pos' {x : Rat} (h : 0 < x) : 0 < ((1 : Int) : Rat) / x := by
  rw [Rat.intCast_one, Rat.div_def, Rat.one_mul]; exact Rat.inv_pos.2 h
/-! ### Between -/
/-- What the recursion gives: the simplest number greater than a and, if there is a limit, less than b. -/
def btw : Nat → Rat → Rat → Bool → Rat
  | 0, a, _, _ => a
  | m + 1, a, b, l =>
    if l = true ∧ ¬ ((a.floor : Int) : Rat) + ((1 : Int) : Rat) < b then
      (if a - ((a.floor : Int) : Rat) = 0 then ((a.floor : Int) : Rat) + ((1 : Int) : Rat) / btw m (((1 : Int) : Rat) / (b - ((a.floor : Int) : Rat))) b false
       else ((a.floor : Int) : Rat) + ((1 : Int) : Rat) / btw m (((1 : Int) : Rat) / (b - ((a.floor : Int) : Rat))) (((1 : Int) : Rat) / (a - ((a.floor : Int) : Rat))) true)
    else ((a.floor : Int) : Rat) + ((1 : Int) : Rat)
def BT (m : Nat) (M : Int) (a b : Rat) (l : Bool) : Prop := 0 ≤ a ∧ a.num ≤ M ∧ (a.den : Int) ≤ M ∧ 1 ≤ m ∧ (l = true → a < b ∧ b.num ≤ M ∧ (b.den : Int) ≤ M ∧ a.den + b.den ≤ m)
section
variable {m : Nat} {M : Int} {a b : Rat}
theorem btw_f : btw (m + 1) a b false = ((a.floor : Int) : Rat) + ((1 : Int) : Rat) := by
  unfold btw; rw [if_neg (fun h => by cases h.1)]
theorem btw_n {l : Bool} (h : ((a.floor : Int) : Rat) + ((1 : Int) : Rat) < b) : btw (m + 1) a b l = ((a.floor : Int) : Rat) + ((1 : Int) : Rat) := by
  unfold btw; rw [if_neg (fun g => g.2 h)]
theorem btw_0 (h : ¬((a.floor : Int) : Rat) + ((1 : Int) : Rat) < b) (h0 : a - ((a.floor : Int) : Rat) = 0) : btw (m + 1) a b true = ((a.floor : Int) : Rat) + ((1 : Int) : Rat) / btw m (((1 : Int) : Rat) / (b - ((a.floor : Int) : Rat))) b false := by
  rw [btw, if_pos ⟨rfl, h⟩, if_pos h0]
theorem btw_1 (h : ¬((a.floor : Int) : Rat) + ((1 : Int) : Rat) < b) (h0 : ¬a - ((a.floor : Int) : Rat) = 0) : btw (m + 1) a b true = ((a.floor : Int) : Rat) + ((1 : Int) : Rat) / btw m (((1 : Int) : Rat) / (b - ((a.floor : Int) : Rat))) (((1 : Int) : Rat) / (a - ((a.floor : Int) : Rat))) true := by
  rw [btw, if_pos ⟨rfl, h⟩, if_neg h0]
theorem x_pos (h : a < b) : 0 < b - ((a.floor : Int) : Rat) := by have := fl_lo a; grind
theorem x_le (h : ¬((a.floor : Int) : Rat) + ((1 : Int) : Rat) < b) : b - ((a.floor : Int) : Rat) ≤ 1 := by
  have h1 : b ≤ ((a.floor : Int) : Rat) + ((1 : Int) : Rat) := Rat.not_lt.1 h
  rw [Rat.intCast_one] at h1; grind
theorem y_lt (a : Rat) : a - ((a.floor : Int) : Rat) < 1 := by
  have h1 := fl_hi a
  rw [Rat.intCast_one] at h1; grind
theorem y_pos (h0 : ¬a - ((a.floor : Int) : Rat) = 0) : 0 < a - ((a.floor : Int) : Rat) := by have := fl_lo a; grind
theorem x_nd (h : BT (m + 1) M a b true) (h1 : ¬((a.floor : Int) : Rat) + ((1 : Int) : Rat) < b) :
    (((1 : Int) : Rat) / (b - ((a.floor : Int) : Rat))).num = b.den ∧ ((((1 : Int) : Rat) / (b - ((a.floor : Int) : Rat))).den : Int) ≤ b.den := by
  obtain ⟨_, _, _, _, h5⟩ := h
  obtain ⟨hab, hn, hd, hm⟩ := h5 rfl
  have hx := x_pos hab
  have e := inv_nd hx
  have e2 := sub_int_nd b a.floor
  have e3 := num_le_den (x_le h1)
  rw [e.1, e.2, e2.2]
  rw [e2.2] at e3
  exact ⟨rfl, e3⟩
theorem BT_f (h : BT (m + 1) M a b true) (h1 : ¬((a.floor : Int) : Rat) + ((1 : Int) : Rat) < b) : BT m M (((1 : Int) : Rat) / (b - ((a.floor : Int) : Rat))) b false := by
  have e := x_nd h h1
  obtain ⟨_, _, _, _, h5⟩ := h
  obtain ⟨hab, hn, hd, hm⟩ := h5 rfl
  have p := a.den_pos
  have p2 := b.den_pos
  refine ⟨Rat.le_of_lt (inv_pos' (x_pos hab)), ?_, ?_, by omega, fun h => by cases h⟩
  · rw [e.1]; exact hd
  · omega
theorem BT_t (h : BT (m + 1) M a b true) (h1 : ¬((a.floor : Int) : Rat) + ((1 : Int) : Rat) < b) (h0 : ¬a - ((a.floor : Int) : Rat) = 0) :
    BT m M (((1 : Int) : Rat) / (b - ((a.floor : Int) : Rat))) (((1 : Int) : Rat) / (a - ((a.floor : Int) : Rat))) true := by
  have e := x_nd h h1
  have k := BT_f h h1
  obtain ⟨_, _, h3, _, h5⟩ := h
  obtain ⟨hab, hn, hd, hm⟩ := h5 rfl
  have e2 := inv_nd (y_pos h0)
  have e3 := sub_int_nd a a.floor
  have e4 := num_lt_den (y_lt a)
  rw [e3.2] at e4
  refine ⟨k.1, k.2.1, k.2.2.1, k.2.2.2.1, fun _ => ⟨inv_lt (y_pos h0) (by grind), ?_, ?_, ?_⟩⟩
  · rw [e2.1, e3.2]; exact h3
  · rw [e2.2]; omega
  · have := e2.2; omega
theorem fl_0 (h : 0 ≤ a) : 0 ≤ a.floor := Rat.le_floor_iff.2 (by simpa using h)
theorem btw_pos : ∀ (m : Nat) {a b : Rat} {l : Bool}, BT m M a b l → a < btw m a b l ∧ (l = true → btw m a b l < b) := by
  intro m
  induction m with
  | zero => intro a b l h; exact absurd h.2.2.2.1 (by omega)
  | succ m ih =>
    intro a b l h
    have hf := fl_hi a
    cases l with
    | false => rw [btw_f]; exact ⟨hf, fun h => by cases h⟩
    | true =>
      by_cases h1 : ((a.floor : Int) : Rat) + ((1 : Int) : Rat) < b
      · rw [btw_n h1]; exact ⟨hf, fun _ => h1⟩
      · have hab := (h.2.2.2.2 rfl).1
        have hx := x_pos hab
        have hlo := fl_lo a
        have key : ∀ z : Rat, ((1 : Int) : Rat) / (b - ((a.floor : Int) : Rat)) < z → ((a.floor : Int) : Rat) + ((1 : Int) : Rat) / z < b ∧ 0 < ((1 : Int) : Rat) / z := by
          intro z hz
          have hz0 : 0 < z := by have := inv_pos' hx; grind
          have := inv_lt (inv_pos' hx) hz
          have e : ((1 : Int) : Rat) / (((1 : Int) : Rat) / (b - ((a.floor : Int) : Rat))) = b - ((a.floor : Int) : Rat) := by
            rw [Rat.intCast_one, Rat.div_def, Rat.div_def, Rat.one_mul, Rat.one_mul, Rat.inv_inv]
          rw [e] at this
          exact ⟨by grind, inv_pos' hz0⟩
        by_cases h0 : a - ((a.floor : Int) : Rat) = 0
        · rw [btw_0 h1 h0]
          have := ih (BT_f h h1)
          have k := key _ this.1
          exact ⟨by grind, fun _ => k.1⟩
        · rw [btw_1 h1 h0]
          have := ih (BT_t h h1 h0)
          have k := key _ this.1
          have hy := y_pos h0
          have g := inv_lt (by have := inv_pos' hx; grind) (this.2 rfl)
          have e : ((1 : Int) : Rat) / (((1 : Int) : Rat) / (a - ((a.floor : Int) : Rat))) = a - ((a.floor : Int) : Rat) := by
            rw [Rat.intCast_one, Rat.div_def, Rat.div_def, Rat.one_mul, Rat.one_mul, Rat.inv_inv]
          rw [e] at g
          exact ⟨by grind, fun _ => k.1⟩
theorem inv_inv' (x : Rat) : ((1 : Int) : Rat) / (((1 : Int) : Rat) / x) = x := by
  rw [Rat.intCast_one, Rat.div_def, Rat.div_def, Rat.one_mul, Rat.one_mul, Rat.inv_inv]
/-- A number greater than an integer that is not negative: its parts are not less than those of the next integer. -/
theorem min_1 {n : Int} (h0 : 0 ≤ n) {y : Rat} (h : (n : Rat) < y) : ((n : Rat) + ((1 : Int) : Rat)).den ≤ y.den ∧ ((n : Rat) + ((1 : Int) : Rat)).num ≤ y.num := by
  have e : (n : Rat) + ((1 : Int) : Rat) = ((n + 1 : Int) : Rat) := by rw [Rat.intCast_add]
  rw [e]
  have p := y.den_pos
  have h1 := (Rat.lt_iff _ _).1 h
  rw [Rat.den_intCast, Rat.num_intCast] at h1 ⊢
  refine ⟨p, ?_⟩
  have : n * 1 ≤ n * (y.den : Int) := Int.mul_le_mul_of_nonneg_left (by omega) h0
  omega
/-- The step of the continued fraction. -/
theorem min_2 {n : Int} (h0 : 0 ≤ n) {z w : Rat} (hz : 0 < z) (hw : 0 < w) (h : z.den ≤ w.den ∧ z.num ≤ w.num) :
    ((n : Rat) + ((1 : Int) : Rat) / z).den ≤ ((n : Rat) + ((1 : Int) : Rat) / w).den ∧ ((n : Rat) + ((1 : Int) : Rat) / z).num ≤ ((n : Rat) + ((1 : Int) : Rat) / w).num := by
  have a1 := inv_nd hz
  have a2 := inv_nd hw
  have b1 := add_int_nd (((1 : Int) : Rat) / z) n
  have b2 := add_int_nd (((1 : Int) : Rat) / w) n
  rw [Rat.add_comm] at b1 b2
  rw [b1.1, b1.2, b2.1, b2.2, a1.1, a2.1, a1.2, a2.2]
  have : n * z.num ≤ n * w.num := Int.mul_le_mul_of_nonneg_left h.2 h0
  omega
theorem btw_min : ∀ (m : Nat) {a b : Rat} {l : Bool}, BT m M a b l → ∀ y : Rat, a < y → (l = true → y < b) → (btw m a b l).den ≤ y.den ∧ (btw m a b l).num ≤ y.num := by
  intro m
  induction m with
  | zero => intro a b l h; exact absurd h.2.2.2.1 (by omega)
  | succ m ih =>
    intro a b l h y hy hyb
    have hf := fl_lo a
    have h0 := fl_0 h.1
    have g : ((a.floor : Int) : Rat) < y := by grind
    cases l with
    | false => rw [btw_f]; exact min_1 h0 g
    | true =>
      by_cases h1 : ((a.floor : Int) : Rat) + ((1 : Int) : Rat) < b
      · rw [btw_n h1]; exact min_1 h0 g
      · have hyb := hyb rfl
        have hx := x_pos (h.2.2.2.2 rfl).1
        have hw : 0 < y - ((a.floor : Int) : Rat) := by grind
        have ey : y = ((a.floor : Int) : Rat) + ((1 : Int) : Rat) / (((1 : Int) : Rat) / (y - ((a.floor : Int) : Rat))) := by rw [inv_inv']; grind
        have hl : ((1 : Int) : Rat) / (b - ((a.floor : Int) : Rat)) < ((1 : Int) : Rat) / (y - ((a.floor : Int) : Rat)) := inv_lt hw (by grind)
        by_cases h2 : a - ((a.floor : Int) : Rat) = 0
        · rw [btw_0 h1 h2, ey]
          have k := ih (BT_f h h1) _ hl (fun e => by cases e)
          have k2 := btw_pos m (BT_f h h1)
          have k3 := inv_pos' hx
          exact min_2 h0 (by grind) (inv_pos' hw) k
        · rw [btw_1 h1 h2, ey]
          have hr := inv_lt (y_pos h2) (show a - ((a.floor : Int) : Rat) < y - ((a.floor : Int) : Rat) by grind)
          have k := ih (BT_t h h1 h2) _ hl (fun _ => hr)
          have k2 := btw_pos m (BT_t h h1 h2)
          have k3 := inv_pos' hx
          exact min_2 h0 (by grind) (inv_pos' hw) k
theorem BT_ini {a b : Rat} (h0 : 0 ≤ a) (h : a < b) {N : Nat} (ha : rz a ≤ N) (hb : rz b ≤ N) : ∃ M : Int, sz M ≤ N ∧ BT (a.den + b.den) M a b true := by
  have p := a.den_pos
  have q := b.den_pos
  have h3 : 0 ≤ a.num := Rat.num_nonneg.2 h0
  have h4 : 0 ≤ b.num := Rat.num_nonneg.2 (by grind)
  have z1 := rz_num a; have z2 := rz_den a; have z3 := rz_num b; have z4 := rz_den b
  refine ⟨max (max a.num a.den) (max b.num b.den), ?_, h0, by omega, by omega, by omega, fun _ => ⟨h, by omega, by omega, by omega⟩⟩
  have : max (max a.num (a.den : Int)) (max b.num (b.den : Int)) = a.num ∨ max (max a.num (a.den : Int)) (max b.num (b.den : Int)) = a.den ∨ max (max a.num (a.den : Int)) (max b.num (b.den : Int)) = b.num ∨ max (max a.num (a.den : Int)) (max b.num (b.den : Int)) = b.den := by omega
  rcases this with e | e | e | e <;> rw [e] <;> omega
theorem BT_rz {m : Nat} {M : Int} {a b : Rat} {l : Bool} {N : Nat} (h : BT m M a b l) (hM : sz M ≤ N) : rz a ≤ 2 * N ∧ (l = true → rz b ≤ 2 * N) := by
  have p := a.den_pos
  have q := b.den_pos
  have key : ∀ x : Rat, 0 ≤ x → x.num ≤ M → (x.den : Int) ≤ M → rz x ≤ 2 * N := by
    intro x hx h1 h2
    have h3 : 0 ≤ x.num := Rat.num_nonneg.2 hx
    have s1 : sz x.num ≤ sz M := sz_mono (by omega)
    have s2 : sz x.den ≤ sz M := sz_mono (by omega)
    unfold rz; omega
  refine ⟨key a h.1 h.2.1 h.2.2.1, fun e => ?_⟩
  obtain ⟨h1, h2, h3, _⟩ := h.2.2.2.2 e
  exact key b (by have := h.1; grind) h2 h3
theorem inv_den (a : Rat) : ((a.den : Int) : Rat) / ((a.num : Int) : Rat) = ((1 : Int) : Rat) / a := by
  by_cases h0 : a = 0
  · subst h0; decide +kernel
  · have h := div_div 1 a h0
    rw [show (1 : Rat).num = 1 from rfl, show (1 : Rat).den = 1 from rfl, Int.one_mul, show ((1 : Nat) : Int) = 1 from rfl, Int.one_mul] at h
    rw [h, Rat.intCast_one]
theorem num_nz {a : Rat} (h : ¬a = 0) : a.num ≠ 0 := fun e => h ((num_eq0 a).1 e)
theorem packT {x y : Rat} (h : x = y) : packA [AV.agg [zs x.num, zl x.num, zs x.den, zl x.den]] = R y := by subst h; rfl
instance {a : Rat} {n : Nat} [i : RzB a n] : RzB ((a.floor : Int) : Rat) (n + 1) := ⟨by have := rz_int a.floor; have := sz_floor a; have := i.h; omega⟩
instance : RzB ((1 : Int) : Rat) 2 := ⟨by decide +kernel⟩
theorem btw_rz {m : Nat} {M : Int} {a b : Rat} {l : Bool} (h : BT m M a b l) (hM : sz M ≤ 100000) : rz (btw m a b l) ≤ 2000000 := by
  have hz := BT_rz h hM
  have hp := btw_pos m h
  have h0 : 0 ≤ (btw m a b l).num := Rat.num_nonneg.2 (by have := hp.1; have := h.1; grind)
  have key : ∀ y : Rat, a < y → (l = true → y < b) → rz (btw m a b l) ≤ rz y := by
    intro y h1 h2
    have k := btw_min m h y h1 h2
    have s1 : sz (btw m a b l).num ≤ sz y.num := sz_mono (by omega)
    have s2 : sz ((btw m a b l).den : Int) ≤ sz (y.den : Int) := sz_mono (by omega)
    unfold rz; omega
  have i_a : RzB a 200000 := ⟨hz.1⟩
  cases l with
  | false =>
    have e := key (a + ((1 : Int) : Rat)) (by rw [Rat.intCast_one]; grind) (fun e => by cases e)
    have : rz (a + ((1 : Int) : Rat)) ≤ 2000000 := rzb (by omega)
    omega
  | true =>
    have i_b : RzB b 200000 := ⟨hz.2 rfl⟩
    have hab := (h.2.2.2.2 rfl).1
    have e := key ((a + b) / (((1 : Int) : Rat) + ((1 : Int) : Rat))) (by rw [Rat.intCast_one]; grind) (fun _ => by rw [Rat.intCast_one]; grind)
    have : rz ((a + b) / (((1 : Int) : Rat) + ((1 : Int) : Rat))) ≤ 2000000 := rzb (by omega)
    omega
theorem inv_p2 {m : Nat} {M : Int} {a b : Rat} {l : Bool} (h : BT m M a b l) (hM : sz M ≤ 100000) : rz (btw m a b l) ≤ 10000000 ∧ ¬btw m a b l = 0 := by
  have := btw_rz h hM
  have hp := (btw_pos m h).1
  have := h.1
  exact ⟨by omega, by grind⟩
theorem inv_p3 {m : Nat} {M : Int} {a b x : Rat} {l : Bool} (hx : rz x ≤ 100000000) (h : BT m M a b l) (hM : sz M ≤ 100000) : rz x ≤ 100000000 ∧ rz (((1 : Int) : Rat) / btw m a b l) ≤ 100000000 := by
  have i : RzB (btw m a b l) 2000000 := ⟨btw_rz h hM⟩
  exact ⟨hx, rzb (by omega)⟩
theorem inv_p1 {a b : Rat} (hz : rz (b - ((a.floor : Int) : Rat)) ≤ 10000000) (h : a < b) : rz (b - ((a.floor : Int) : Rat)) ≤ 10000000 ∧ ¬b - ((a.floor : Int) : Rat) = 0 := by
  have := x_pos h
  exact ⟨hz, by grind⟩
/-- The simplest number between two others. -/
def smp (a b : Rat) : Rat := if a < 0 ∧ 0 < b then 0 else if a < 0 then -btw (a.den + b.den) (-b) (-a) true else btw (a.den + b.den) a b true
theorem smp_0 {a b : Rat} {q : AV} (h1 : a < 0) (h2 : 0 < b) (e1 : a < b → q = .tup [R (smp a b), .int .i64 0]) : packA [R ((0 : Int) : Rat), AV.c (Cell.v (.int .i64 0))] = q := by
  rw [e1 (by grind)]; unfold smp; rw [if_pos ⟨h1, h2⟩]; rfl
theorem smp_n {a b : Rat} {q : AV} (hab : a < b) (h1 : a < 0) (h2 : ¬0 < b) (e1 : a < b → q = .tup [R (smp a b), .int .i64 0]) : packA [R (-btw (a.den + b.den) (-b) (-a) true), AV.c (Cell.v (.int .i64 0))] = q := by
  rw [e1 hab]; unfold smp; rw [if_neg (fun h => h2 h.2), if_pos h1]; rfl
theorem smp_n' {a b : Rat} {q : AV} (hab : a < b) (h1 : a < 0) (h2 : ¬0 < b) (e1 : a < b → q = .tup [R (smp a b), .int .i64 0]) : packA [R (-btw ((-b).den + (-a).den) (-b) (-a) true), AV.c (Cell.v (.int .i64 0))] = q := by
  rw [Rat.neg_den, Rat.neg_den, Nat.add_comm]; exact smp_n hab h1 h2 e1
theorem smp_p {a b : Rat} {q : AV} (hab : a < b) (h1 : ¬a < 0) (e1 : a < b → q = .tup [R (smp a b), .int .i64 0]) : packA [R (btw (a.den + b.den) a b true), AV.c (Cell.v (.int .i64 0))] = q := by
  rw [e1 hab]; unfold smp; rw [if_neg (fun h => h1 h.1), if_neg h1]; rfl
theorem smp_b {a b : Rat} (hab : a < b) (h2 : ¬0 < b) (ha : rz a ≤ 100000) (hb : rz b ≤ 100000) : 0 ≤ -b ∧ -b < -a ∧ rz (-b) ≤ 100000 ∧ rz (-a) ≤ 100000 := by
  rw [rz_neg, rz_neg]; exact ⟨by grind, by grind, hb, ha⟩
theorem smp_c {a b : Rat} (hab : a < b) (h2 : ¬a < 0) (ha : rz a ≤ 100000) (hb : rz b ≤ 100000) : 0 ≤ a ∧ a < b ∧ rz a ≤ 100000 ∧ rz b ≤ 100000 := ⟨by grind, hab, ha, hb⟩
theorem btw_sz {a b : Rat} (h0 : 0 ≤ a) (h : a < b) (ha : rz a ≤ 100000) (hb : rz b ≤ 100000) : rz (btw (a.den + b.den) a b true) ≤ 2000000 := by
  obtain ⟨M, hM, k⟩ := BT_ini h0 h ha hb
  exact btw_rz k hM
theorem rfs_0 {m : Nat} {M : Int} {a b : Rat} (h : BT (m + 1) M a b true) (h1 : ¬((a.floor : Int) : Rat) + ((1 : Int) : Rat) < b) (h2 : a = ((a.floor : Int) : Rat)) :
    ((a.floor : Int) : Rat) + ((1 : Int) : Rat) / (((((1 : Int) : Rat) / (b - ((a.floor : Int) : Rat))).floor : Int) + ((1 : Int) : Rat)) = btw (m + 1) a b true := by
  have k := (BT_f h h1).2.2.2.1
  obtain ⟨m', rfl⟩ : ∃ m', m = m' + 1 := ⟨m - 1, by omega⟩
  rw [btw_0 h1 (by grind), btw_f]
theorem x_nz {a b : Rat} (h : a < b) : ¬b - ((a.floor : Int) : Rat) = 0 := by have := x_pos h; grind
theorem fl1_nz {a b : Rat} (h : a < b) : ¬((((1 : Int) : Rat) / (b - ((a.floor : Int) : Rat))).floor : Rat) + ((1 : Int) : Rat) = 0 := by
  have h1 := fl_0 (Rat.le_of_lt (inv_pos' (x_pos h)))
  have h2 : ((0 : Int) : Rat) ≤ (((((1 : Int) : Rat) / (b - ((a.floor : Int) : Rat))).floor : Int) : Rat) := Rat.intCast_le_intCast.2 h1
  rw [Rat.intCast_zero] at h2
  rw [Rat.intCast_one]; grind
theorem ov_2 {m : Nat} {M : Int} {a b : Rat} {l : Bool} (h : BT m M a b l) (hM : sz M ≤ 100000) : rz (btw m a b l) ≤ 4000000 ∧ ¬btw m a b l = 0 := ⟨Nat.le_trans (btw_rz h hM) (by decide), (inv_p2 h hM).2⟩
theorem sub_nz {a : Rat} (h : ¬a = ((a.floor : Int) : Rat)) : ¬a - ((a.floor : Int) : Rat) = 0 := by grind
end
end Go.Sw
