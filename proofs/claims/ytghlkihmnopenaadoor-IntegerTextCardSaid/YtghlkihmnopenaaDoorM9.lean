/-
  Intervals of machine integers, and products of two words.
  What the filter computes with its intervals, in plain integers and fractions.
  Products of intervals.
  What the filter's laws compute beside the filter: shares, parts, exact signs.
  The examples of the filter's laws.
  Lists of fractions with bounded parts.
  Plain laws of the filter's intervals.
  Parts of intervals lead to parts of the results.
  The sign of A + B sqrt C, out of its sign at two numbers around the root.
  A sign that the filter knows is the exact one.
  Lines and circles: the sign at a point with a root.
  Fractions that are squares, and signs of numbers with a root.
  Roots and points in reduced form, and what lines and circles answer at them.
  Lines, circles and points out of smallI numbers.
  Contracts with two answers.
  Leaves of the runs of fractions, roots and points.
  Numbers that sequences of fractions come near: their signs, and square roots.
  Conditions: none.
-/
import Derived.Test.YtghlkihmnopenaaDoorM8
set_option linter.all false
namespace Go.Sw
open Go
set_option linter.unusedVariables false
/-- An interval whose ends are not too great. -/
def mkI (l h : Int) : Option (Int × Int) := if -2305843009213693952 ≤ l ∧ h ≤ 2305843009213693952 then some (l, h) else none
theorem w1 {q : Int} (h0 : 0 ≤ q) (h : ¬q > 2305843009213693952) : IntKind.i64.wrap q = q := wi64 (by omega) (by omega)
theorem w2 {q : Int} (h0 : 0 ≤ q) (h : ¬q > 2305843009213693952) : IntKind.i64.wrap (q + 1) = q + 1 := wi64 (by omega) (by omega)
theorem w3 {q : Int} (h0 : 0 ≤ q) (h : ¬q > 2305843009213693952) : IntKind.i64.wrap (0 - q) = -q := by rw [wi64 (by omega) (by omega)]; omega
end Go.Sw

namespace Go.Sw
open Go
set_option linter.unusedVariables false
def addI (a b : Int × Int) : Option (Int × Int) := mkI (a.1 + b.1) (a.2 + b.2)
theorem sz_floor (a : Rat) : sz a.floor ≤ rz a := by
  refine Nat.le_trans (sz_mono ?_) (rz_num a)
  rw [← floor_of, Int.fdiv_eq_ediv_of_nonneg _ (by have := den_pos a; omega)]
  exact Int.natAbs_ediv_le_natAbs _ _
end Go.Sw

namespace Go.Sw
open Go
set_option linter.unusedVariables false
set_option linter.unusedSimpArgs false
theorem w01 : IntKind.i64.wrap (0 + 1) = 1 := by decide
theorem w11 : IntKind.i64.wrap (1 + 1) = 2 := by decide
theorem onB_yes {b : Bool} {k : Bool → Prop} (e : b = true) (h : k true) : OnB b k := ⟨fun _ => h, fun h' => by rw [e] at h'; cases h'⟩
theorem onB_no {b : Bool} {k : Bool → Prop} (e : b = false) (h : k false) : OnB b k := ⟨fun h' => (by rw [e] at h'; cases h'), fun _ => h⟩
def dnP (x y : Int) : Int := (x * y) / 65536
def upP (x y : Int) : Int := -((-(x * y)) / 65536)
def mulI (a b : Int × Int) : Option (Int × Int) :=
  mkI (min (min (dnP a.1 b.1) (dnP a.1 b.2)) (min (dnP a.2 b.1) (dnP a.2 b.2))) (max (max (upP a.1 b.1) (upP a.1 b.2)) (max (upP a.2 b.1) (upP a.2 b.2)))
theorem nb {b : Bool} (h : (!b) = true) : ¬b = true := by cases b <;> simp_all
def hw (a b c d : Int) : Nat → Int
  | 0 => 0 | 1 => upP a c | 2 => max (upP a c) (upP a d) | 3 => max (max (upP a c) (upP a d)) (upP b c) | _ => max (max (max (upP a c) (upP a d)) (upP b c)) (upP b d)
def kI : Nat → Int | 0 => 0 | 1 => 1 | _ => 2
theorem hw1 (a b c d : Int) : hw a b c d 1 = upP a c := rfl
theorem hw2 (a b c d : Int) : hw a b c d 2 = max (upP a c) (upP a d) := rfl
theorem k1 : some (AV.int .i64 (IntKind.i64.wrap (0 + 1))) = some (AV.int .i64 (kI 1)) := by rw [w01]; rfl
theorem k2 : some (AV.int .i64 (IntKind.i64.wrap (1 + 1))) = some (AV.int .i64 (kI 2)) := by rw [w11]; rfl
end Go.Sw

namespace Go.Sw
open Go
set_option linter.unusedVariables false
end Go.Sw

namespace Go.Sw
open Go
set_option linter.unusedVariables false
end Go.Sw

namespace Go.Sw
open Go
set_option linter.unusedVariables false
end Go.Sw

namespace Go.Sw
open Go
set_option linter.unusedVariables false
theorem lin_lo {a b x k L : Rat} (h1 : a ≤ x) (h2 : x ≤ b) (p : L ≤ a * k) (q : L ≤ b * k) : L ≤ x * k := by
  rcases Rat.le_total (a := 0) (b := k) with hk | hk
  · have := Rat.mul_le_mul_of_nonneg_right h1 hk; grind
  · have := Rat.mul_le_mul_of_nonneg_right h2 (show 0 ≤ -k by grind); grind
theorem bil_lo {a b c d x y L : Rat} (h1 : a ≤ x) (h2 : x ≤ b) (h3 : c ≤ y) (h4 : y ≤ d) (p1 : L ≤ a * c) (p2 : L ≤ a * d) (p3 : L ≤ b * c) (p4 : L ≤ b * d) : L ≤ x * y := by
  apply lin_lo h1 h2
  · rw [Rat.mul_comm]; exact lin_lo h3 h4 (by rw [Rat.mul_comm]; exact p1) (by rw [Rat.mul_comm]; exact p2)
  · rw [Rat.mul_comm]; exact lin_lo h3 h4 (by rw [Rat.mul_comm]; exact p3) (by rw [Rat.mul_comm]; exact p4)
theorem bil_hi {a b c d x y L : Rat} (h1 : a ≤ x) (h2 : x ≤ b) (h3 : c ≤ y) (h4 : y ≤ d) (p1 : a * c ≤ L) (p2 : a * d ≤ L) (p3 : b * c ≤ L) (p4 : b * d ≤ L) : x * y ≤ L := by
  have := bil_lo (L := -L) (a := -b) (b := -a) (x := -x) (y := y) (c := c) (d := d) (by grind) (by grind) h3 h4 (by grind) (by grind) (by grind) (by grind)
  grind
theorem dn_rat (x y : Int) : ((dnP x y : Int) : Rat) * 65536 ≤ (x : Rat) * (y : Rat) := by
  have h : ((dnP x y * 65536 : Int) : Rat) ≤ ((x * y : Int) : Rat) := Rat.intCast_le_intCast.2 (by unfold dnP; omega)
  rw [Rat.intCast_mul, Rat.intCast_mul] at h
  exact h
theorem up_rat (x y : Int) : (x : Rat) * (y : Rat) ≤ ((upP x y : Int) : Rat) * 65536 := by
  have h : ((x * y : Int) : Rat) ≤ ((upP x y * 65536 : Int) : Rat) := Rat.intCast_le_intCast.2 (by unfold upP; omega)
  rw [Rat.intCast_mul, Rat.intCast_mul] at h
  exact h
/-- An interval contains a number. -/
def con (p : Int × Int) (q : Rat) : Prop := (p.1 : Rat) ≤ q * 65536 ∧ q * 65536 ≤ (p.2 : Rat)
theorem mkI_some {l h : Int} {p : Int × Int} (e : mkI l h = some p) : p = (l, h) := by
  unfold mkI at e
  split at e
  · injection e with e; exact e.symm
  · cases e
theorem con_add {x y p : Int × Int} {u v : Rat} (e : addI x y = some p) (hu : con x u) (hv : con y v) : con p (u + v) := by
  have := mkI_some e
  subst this
  unfold con at *
  simp only [Rat.intCast_add]
  obtain ⟨h1, h2⟩ := hu
  obtain ⟨h3, h4⟩ := hv
  constructor <;> grind
theorem con_mul {x y p : Int × Int} {u v : Rat} (e : mulI x y = some p) (hu : con x u) (hv : con y v) : con p (u * v) := by
  have := mkI_some e
  subst this
  unfold con at *
  obtain ⟨h1, h2⟩ := hu
  obtain ⟨h3, h4⟩ := hv
  simp only
  generalize hl : min (min (dnP x.1 y.1) (dnP x.1 y.2)) (min (dnP x.2 y.1) (dnP x.2 y.2)) = l
  generalize hh : max (max (upP x.1 y.1) (upP x.1 y.2)) (max (upP x.2 y.1) (upP x.2 y.2)) = h
  have lo : ∀ a c : Int, l ≤ dnP a c → (l : Rat) * 65536 ≤ (a : Rat) * (c : Rat) := fun a c hd => by
    have k1 := dn_rat a c
    have k2 := Rat.intCast_le_intCast.2 hd
    grind
  have hi : ∀ a c : Int, upP a c ≤ h → (a : Rat) * (c : Rat) ≤ (h : Rat) * 65536 := fun a c hd => by
    have k1 := up_rat a c
    have k2 := Rat.intCast_le_intCast.2 hd
    grind
  have b1 := bil_lo h1 h2 h3 h4 (lo _ _ (by omega)) (lo _ _ (by omega)) (lo _ _ (by omega)) (lo _ _ (by omega))
  have b2 := bil_hi h1 h2 h3 h4 (hi _ _ (by omega)) (hi _ _ (by omega)) (hi _ _ (by omega)) (hi _ _ (by omega))
  constructor <;> grind
theorem c1 : ((1 : Int) : Rat) = 1 := by decide +kernel
end Go.Sw

namespace Go.Sw
open Go
set_option linter.unusedVariables false
def sub (x y : Int × Int) : Prop := x.1 ≤ y.1 ∧ y.1 ≤ y.2 ∧ y.2 ≤ x.2
end Go.Sw

namespace Go.Sw
open Go
set_option linter.unusedVariables false
theorem sgn_cases (q : Rat) : (q < 0 ∧ sgnR q = -1) ∨ (q = 0 ∧ sgnR q = 0) ∨ (0 < q ∧ sgnR q = 1) := by
  unfold sgnR
  by_cases h1 : q < 0
  · rw [if_pos h1]; exact .inl ⟨h1, rfl⟩
  · rw [if_neg h1]
    by_cases h2 : q = 0
    · rw [if_pos h2]; exact .inr (.inl ⟨h2, rfl⟩)
    · rw [if_neg h2]; exact .inr (.inr ⟨by grind, rfl⟩)
end Go.Sw

namespace Go.Sw
open Go
set_option linter.unusedVariables false
end Go.Sw

namespace Go.Sw
open Go
set_option linter.unusedVariables false
/-- Bounds of the size of a number, found by its form. -/
class RzB (q : Rat) (n : outParam Nat) : Prop where
  h : rz q ≤ n
instance {a b : Rat} {m n : Nat} [h : RzB a m] [k : RzB b n] : RzB (a + b) (2 * (m + n) + 1) := ⟨by have := rz_add a b; have := h.h; have := k.h; omega⟩
instance {a b : Rat} {m n : Nat} [h : RzB a m] [k : RzB b n] : RzB (a - b) (2 * (m + n) + 1) := ⟨by have := rz_sub a b; have := h.h; have := k.h; omega⟩
instance {a b : Rat} {m n : Nat} [h : RzB a m] [k : RzB b n] : RzB (a * b) (m + n) := ⟨by have := rz_mul a b; have := h.h; have := k.h; omega⟩
instance {a : Rat} {m : Nat} [h : RzB a m] : RzB (-a) m := ⟨by rw [rz_neg]; exact h.h⟩
end Go.Sw

namespace Go.Sw
open Go
set_option linter.unusedVariables false
def isSq (n : Int) : Bool := decide (0 ≤ n) && decide ((((isq n.natAbs : Nat) : Int)) * ((isq n.natAbs : Nat) : Int) = n)
def isSqR (a : Rat) : Bool := isSq a.num && isSq a.den
def sqR (a : Rat) : Rat := ((((isq a.num.natAbs : Nat) : Int)) : Rat) / ((((isq (a.den : Int).natAbs : Nat) : Int)) : Rat)
theorem sq_nat {n : Int} (h : isSq n = true) : ((isq n.natAbs : Nat) : Int) * ((isq n.natAbs : Nat) : Int) = n := by
  unfold isSq at h
  rw [Bool.and_eq_true, decide_eq_true_eq, decide_eq_true_eq] at h
  exact h.2
theorem sqR_parts {a : Rat} (h : isSqR a = true) : (sqR a).num = ((isq a.num.natAbs : Nat) : Int) ∧ ((sqR a).den : Int) = ((isq (a.den : Int).natAbs : Nat) : Int) := by
  unfold isSqR at h
  rw [Bool.and_eq_true] at h
  obtain ⟨h1, h2⟩ := h
  have e1 := sq_nat h1
  have e2 := sq_nat h2
  have hd := den_pos a
  have hp : 0 < ((isq (a.den : Int).natAbs : Nat) : Int) := by
    rcases Nat.eq_zero_or_pos (isq (a.den : Int).natAbs) with h0 | h0
    · rw [h0] at e2; simp at e2; omega
    · omega
  have hg : Nat.gcd (isq a.num.natAbs) (isq (a.den : Int).natAbs) = 1 := by
    have hc := a.reduced
    have d1 : Nat.gcd (isq a.num.natAbs) (isq (a.den : Int).natAbs) ∣ a.num.natAbs := by
      have : a.num.natAbs = isq a.num.natAbs * isq a.num.natAbs := by
        have := congrArg Int.natAbs e1; rw [Int.natAbs_mul, Int.natAbs_natCast] at this; exact this.symm
      exact Nat.dvd_trans (Nat.gcd_dvd_left _ _) ⟨_, this⟩
    have d2 : Nat.gcd (isq a.num.natAbs) (isq (a.den : Int).natAbs) ∣ a.den := by
      have : a.den = isq (a.den : Int).natAbs * isq (a.den : Int).natAbs := by
        have := congrArg Int.natAbs e2; rw [Int.natAbs_mul, Int.natAbs_natCast] at this; exact this.symm
      exact Nat.dvd_trans (Nat.gcd_dvd_right _ _) ⟨_, this⟩
    exact Nat.eq_one_of_dvd_one (hc ▸ Nat.dvd_gcd d1 d2)
  obtain ⟨q1, q2⟩ := red_pos (n := ((isq a.num.natAbs : Nat) : Int)) hp
  change Nat.gcd (((isq a.num.natAbs : Nat) : Int)).natAbs (((isq (a.den : Int).natAbs : Nat) : Int)).natAbs = 1 at hg
  rw [hg] at q1 q2
  exact ⟨by unfold sqR; rw [q1]; exact fdiv_one _, by unfold sqR; rw [q2]; exact fdiv_one _⟩
where
  num_den_div {a : Rat} : a = (a.num : Rat) / ((a.den : Int) : Rat) := by
    have h1 := num_den a
    have h2 := den_ne' a
    rw [h1]; grind
end Go.Sw

namespace Go.Sw
open Go
set_option linter.unusedVariables false
/-! ### Reduced forms -/
def redB (b c : Rat) : Rat := if b = 0 ∨ c = 0 then 0 else b
def redC (b c : Rat) : Rat := if b = 0 ∨ c = 0 then 0 else c
def mkA (a b c : Rat) : Rat := if isSqR c = true then a + b * sqR c else a
def mkB (b c : Rat) : Rat := if isSqR c = true then 0 else redB b c
def mkC (b c : Rat) : Rat := if isSqR c = true then 0 else redC b c
def cooC (b c : Rat) : Rat := if b = 0 then 0 else c
def ptC (b e c : Rat) : Rat := if b = 0 ∧ e = 0 then 0 else c
/-! ### Leaves of the runs -/
section
variable {a b : Rat}
end
end Go.Sw

namespace Go.Sw
open Go
set_option linter.unusedVariables false
theorem rz_sqR {c : Rat} (h : isSqR c = true) : rz (sqR c) ≤ rz c := by
  obtain ⟨h1, h2⟩ := sqR_parts h
  have k : ∀ n : Nat, isq n ≤ n := fun n => by
    have h3 := (isq_ok n).1
    rcases Nat.eq_zero_or_pos (isq n) with h4 | h4
    · omega
    · exact Nat.le_trans (Nat.le_mul_of_pos_left _ h4) h3
  unfold rz
  rw [h1, h2]
  have a1 := sz_mono (a := ((isq c.num.natAbs : Nat) : Int)) (b := c.num) (by rw [Int.natAbs_natCast]; exact k _)
  have a2 := sz_mono (a := ((isq (c.den : Int).natAbs : Nat) : Int)) (b := (c.den : Int)) (by rw [Int.natAbs_natCast]; exact k _)
  omega
theorem rz_0 : rz 0 ≤ 1 := by decide +kernel
instance : RzB 0 1 := ⟨rz_0⟩
theorem rz_mkA {a b c : Rat} {m n k : Nat} (h1 : rz a ≤ m) (h2 : rz b ≤ n) (h3 : rz c ≤ k) : rz (mkA a b c) ≤ 2 * (m + (n + k)) + 1 := by
  unfold mkA
  split
  · rename_i h
    have := rz_add a (b * sqR c); have := rz_mul b (sqR c); have := rz_sqR h; omega
  · omega
theorem rz_mkB {b c : Rat} {n : Nat} (h2 : rz b ≤ n) : rz (mkB b c) ≤ n + 1 := by
  have := rz_0
  unfold mkB redB
  split
  · omega
  · split <;> omega
theorem rz_mkC {b c : Rat} {n : Nat} (h2 : rz c ≤ n) : rz (mkC b c) ≤ n + 1 := by
  have := rz_0
  unfold mkC redC
  split
  · omega
  · split <;> omega
theorem rz_redB {b c : Rat} {n : Nat} (h2 : rz b ≤ n) : rz (redB b c) ≤ n + 1 := by
  have := rz_0
  unfold redB
  split <;> omega
theorem rz_redC {b c : Rat} {n : Nat} (h2 : rz c ≤ n) : rz (redC b c) ≤ n + 1 := by
  have := rz_0
  unfold redC
  split <;> omega
theorem rz_cooC {b c : Rat} {n : Nat} (h2 : rz c ≤ n) : rz (cooC b c) ≤ n + 1 := by
  have := rz_0
  unfold cooC
  split <;> omega
theorem rz_ptC {b e c : Rat} {n : Nat} (h2 : rz c ≤ n) : rz (ptC b e c) ≤ n + 1 := by
  have := rz_0
  unfold ptC
  split <;> omega
instance {a b c : Rat} {m n k : Nat} [h1 : RzB a m] [h2 : RzB b n] [h3 : RzB c k] : RzB (mkA a b c) (2 * (m + (n + k)) + 1) := ⟨rz_mkA h1.h h2.h h3.h⟩
instance {b c : Rat} {n : Nat} [h2 : RzB b n] : RzB (mkB b c) (n + 1) := ⟨rz_mkB h2.h⟩
instance {b c : Rat} {n : Nat} [h2 : RzB c n] : RzB (mkC b c) (n + 1) := ⟨rz_mkC h2.h⟩
instance {b c : Rat} {n : Nat} [h2 : RzB b n] : RzB (redB b c) (n + 1) := ⟨rz_redB h2.h⟩
instance {b c : Rat} {n : Nat} [h2 : RzB c n] : RzB (redC b c) (n + 1) := ⟨rz_redC h2.h⟩
instance {b c : Rat} {n : Nat} [h2 : RzB c n] : RzB (cooC b c) (n + 1) := ⟨rz_cooC h2.h⟩
instance {b e c : Rat} {n : Nat} [h2 : RzB c n] : RzB (ptC b e c) (n + 1) := ⟨rz_ptC h2.h⟩
instance {p : Prop} [Decidable p] {a b : Rat} {m n : Nat} [h1 : RzB a m] [h2 : RzB b n] : RzB (if p then a else b) (m + n) := ⟨by split; exact Nat.le_trans h1.h (by omega); exact Nat.le_trans h2.h (by omega)⟩
end Go.Sw

namespace Go.Sw
open Go Go.RowKit
set_option linter.unusedVariables false
/-- f answers r to xs where c holds, and s where it doesn't. -/
class DenC (P : Program) [Wld P] (f : FuncId) (xs : List AV) (pre : outParam Prop) (c : outParam Prop) (r s : outParam AV) : Prop where
  den : pre → (c → Den P f xs r) ∧ (¬c → Den P f xs s)
theorem call_c {P : Program} [Wld P] {f : FuncId} {xs : List AV} {pre c : Prop} {r s : AV} {k : AV → Prop} [h : DenC P f xs pre c r s] (hp : Pr pre) (h1 : c → k r) (h2 : ¬c → k s) : CallP (Den P) f xs k := by
  by_cases hc : c
  · exact ⟨r, (h.den hp.p).1 hc, h1 hc⟩
  · exact ⟨s, (h.den hp.p).2 hc, h2 hc⟩
end Go.Sw

namespace Go.Sw
open Go
set_option linter.unusedVariables false
class SzB (n : Int) (k : outParam Nat) : Prop where
  h : sz n ≤ k
instance {q : Rat} {n : Nat} [i : RzB q n] : SzB q.num n := ⟨Nat.le_trans (rz_num q) i.h⟩
instance {q : Rat} {n : Nat} [i : RzB q n] : SzB (q.den : Int) n := ⟨Nat.le_trans (rz_den q) i.h⟩
instance {a b : Int} {m n : Nat} [i : SzB a m] [j : SzB b n] : SzB (a * b) (m + n) := ⟨by have := sz_mul a b; have := i.h; have := j.h; omega⟩
instance {a b : Int} {m n : Nat} [i : SzB a m] [j : SzB b n] : SzB (a + b) (m + n + 1) := ⟨by have := sz_add a b; have := i.h; have := j.h; omega⟩
instance {a : Int} {m : Nat} [i : SzB a m] : SzB (-a) m := ⟨by rw [sz_neg]; exact i.h⟩
instance {p : Prop} [Decidable p] {a b : Int} {m n : Nat} [h1 : SzB a m] [h2 : SzB b n] : SzB (if p then a else b) (m + n) := ⟨by split; exact Nat.le_trans h1.h (by omega); exact Nat.le_trans h2.h (by omega)⟩
instance : SzB 0 3 := ⟨sz_64 (by decide) (by decide)⟩
instance : SzB 1 3 := ⟨sz_64 (by decide) (by decide)⟩
theorem isq_le (n : Nat) : isq n ≤ n := by
  have h3 := (isq_ok n).1
  rcases Nat.eq_zero_or_pos (isq n) with h4 | h4
  · omega
  · exact Nat.le_trans (Nat.le_mul_of_pos_left _ h4) h3
instance {a : Int} {m : Nat} [i : SzB a m] : SzB ((isq a.natAbs : Nat) : Int) m := ⟨Nat.le_trans (sz_mono (by rw [Int.natAbs_natCast]; exact isq_le _)) i.h⟩
instance {c : Rat} {n : Nat} [i : RzB c n] : RzB (sqR c) n := ⟨by
  have hd : ((isq (c.den : Int).natAbs : Nat) : Int) ≠ 0 := by
    have h1 := (isq_ok (c.den : Int).natAbs).2
    have h2 := den_pos c
    intro e
    have : isq (c.den : Int).natAbs = 0 := by omega
    rw [this] at h1; omega
  have := rz_red (n := ((isq c.num.natAbs : Nat) : Int)) hd
  have a1 := sz_mono (a := ((isq c.num.natAbs : Nat) : Int)) (b := c.num) (by rw [Int.natAbs_natCast]; exact isq_le _)
  have a2 := sz_mono (a := ((isq (c.den : Int).natAbs : Nat) : Int)) (b := (c.den : Int)) (by rw [Int.natAbs_natCast]; exact isq_le _)
  have h := i.h
  unfold rz at h
  unfold sqR
  omega⟩
section
variable {a b c : Rat}
end
section
variable {a b c : Rat} {q : AV}
end
instance {a b : Rat} {m n : Nat} [h : RzB a m] [k : RzB b n] : RzB (a / b) (m + n + 1) := ⟨by
  by_cases hb : b = 0
  · subst hb
    have : a / 0 = 0 := by rw [Rat.div_def, Rat.inv_zero, Rat.mul_zero]
    rw [this]; have := rz_0; omega
  · have := rz_div a b hb; have := h.h; have := k.h; omega⟩
section
variable {a b c : Rat}
end
section
variable {ax bx ay bb c X Y Q : Rat}
end
end Go.Sw

namespace Go.Sw
open Go
set_option linter.unusedVariables false

def Cau (f : Nat → Rat) : Prop := ∀ d : Rat, 0 < d → ∃ N, ∀ m n, N ≤ m → N ≤ n → f m < f n + d
def PosS (f : Nat → Rat) : Prop := ∃ d : Rat, 0 < d ∧ ∃ N, ∀ n, N ≤ n → d < f n
def NulS (f : Nat → Rat) : Prop := ∀ d : Rat, 0 < d → ∃ N, ∀ n, N ≤ n → -d < f n ∧ f n < d
/-- From some place on, not far outside of a bound. -/
def Bnd (f : Nat → Rat) : Prop := ∃ B : Rat, 0 < B ∧ ∃ N, ∀ n, N ≤ n → -B < f n ∧ f n < B
/-- The sign of what a sequence comes near. -/
def SgS (f : Nat → Rat) (n : Int) : Prop := (n = 1 ∧ PosS f) ∨ (n = -1 ∧ PosS fun k => -f k) ∨ (n = 0 ∧ NulS f)

theorem mul_bnd {x y B e : Rat} (h1 : -B < x) (h2 : x < B) (h3 : -e < y) (h4 : y < e) : x * y < B * e := by
  have p1 := Rat.mul_pos (show 0 < B - x by grind) (show 0 < e + y by grind)
  have p2 := Rat.mul_pos (show 0 < B + x by grind) (show 0 < e - y by grind)
  grind
theorem mul_bnd' {x y B e : Rat} (h1 : -B < x) (h2 : x < B) (h3 : -e < y) (h4 : y < e) : -(B * e) < x * y := by
  have := mul_bnd (x := -x) (y := y) (B := B) (e := e) (by grind) (by grind) h3 h4
  grind
theorem div_pos' {a b : Rat} (h1 : 0 < a) (h2 : 0 < b) : 0 < a / b := by
  have hb : b ≠ 0 := by grind
  rcases Rat.le_total (a := a / b) (b := 0) with h | h
  · have p := Rat.mul_nonneg (show 0 ≤ -(a / b) by grind) (show 0 ≤ b by grind)
    have e : a / b * b = a := by grind
    grind
  · by_cases e : a / b = 0
    · have e' : a / b * b = a := by grind
      rw [e] at e'; grind
    · grind
theorem NulS.add {f g : Nat → Rat} (h : NulS f) (k : NulS g) : NulS fun n => f n + g n := fun d hd => by
  obtain ⟨N, hN⟩ := h (d * (1 / 2)) (by grind)
  obtain ⟨M, hM⟩ := k (d * (1 / 2)) (by grind)
  refine ⟨N + M, fun n hn => ?_⟩
  have a := hN n (by omega)
  have b := hM n (by omega)
  constructor <;> grind
theorem NulS.neg {f : Nat → Rat} (h : NulS f) : NulS fun n => -f n := fun d hd => by
  obtain ⟨N, hN⟩ := h d hd
  exact ⟨N, fun n hn => by have := hN n hn; constructor <;> grind⟩
theorem NulS.sub {f g : Nat → Rat} (h : NulS f) (k : NulS g) : NulS fun n => f n - g n := fun d hd => by
  obtain ⟨N, hN⟩ := h.add k.neg d hd
  exact ⟨N, fun n hn => by have := hN n hn; simp only at this; constructor <;> grind⟩
theorem NulS.mul {f g : Nat → Rat} (h : NulS f) (k : Bnd g) : NulS fun n => f n * g n := fun d hd => by
  obtain ⟨B, hB, M, hM⟩ := k
  obtain ⟨N, hN⟩ := h (d / B) (div_pos' hd hB)
  refine ⟨N + M, fun n hn => ?_⟩
  have a := hN n (by omega)
  have b := hM n (by omega)
  have e : d / B * B = d := by have : B ≠ 0 := (by grind); grind
  have p1 := mul_bnd a.1 a.2 b.1 b.2
  have p2 := mul_bnd' a.1 a.2 b.1 b.2
  rw [e] at p1 p2
  exact ⟨p2, p1⟩
theorem NulS.zero : NulS fun _ => 0 := fun d hd => ⟨0, fun n _ => by constructor <;> grind⟩
theorem NulS.cg {f g : Nat → Rat} (h : NulS f) (e : ∀ n, f n = g n) : NulS g := by rwa [funext e] at h
theorem Cau.bnd {f : Nat → Rat} (h : Cau f) : Bnd f := by
  obtain ⟨N, hN⟩ := h 1 (by grind)
  rcases Rat.le_total (a := 0) (b := f N) with h0 | h0
  · refine ⟨f N + 1, by grind, N, fun n hn => ?_⟩
    have a := hN n N hn (Nat.le_refl _)
    have b := hN N n (Nat.le_refl _) hn
    constructor <;> grind
  · refine ⟨-f N + 1, by grind, N, fun n hn => ?_⟩
    have a := hN n N hn (Nat.le_refl _)
    have b := hN N n (Nat.le_refl _) hn
    constructor <;> grind
theorem Cau.const (q : Rat) : Cau fun _ => q := fun d hd => ⟨0, fun m n _ _ => by grind⟩
theorem Cau.add {f g : Nat → Rat} (h : Cau f) (k : Cau g) : Cau fun n => f n + g n := fun d hd => by
  obtain ⟨N, hN⟩ := h (d * (1 / 2)) (by grind)
  obtain ⟨M, hM⟩ := k (d * (1 / 2)) (by grind)
  refine ⟨N + M, fun m n hm hn => ?_⟩
  have a := hN m n (by omega) (by omega)
  have b := hM m n (by omega) (by omega)
  grind
theorem Cau.neg {f : Nat → Rat} (h : Cau f) : Cau fun n => -f n := fun d hd => by
  obtain ⟨N, hN⟩ := h d hd
  exact ⟨N, fun m n hm hn => by have := hN n m hn hm; grind⟩
theorem Cau.sub {f g : Nat → Rat} (h : Cau f) (k : Cau g) : Cau fun n => f n - g n := fun d hd => by
  obtain ⟨N, hN⟩ := h.add k.neg d hd
  exact ⟨N, fun m n hm hn => by have := hN m n hm hn; simp only at this; grind⟩
theorem Cau.mul {f g : Nat → Rat} (h : Cau f) (k : Cau g) : Cau fun n => f n * g n := fun d hd => by
  obtain ⟨B, hB, M1, h1⟩ := h.bnd
  obtain ⟨D, hD, M2, h2⟩ := k.bnd
  obtain ⟨N1, k1⟩ := h (d * (1 / 2) / D) (div_pos' (by grind) hD)
  obtain ⟨N2, k2⟩ := k (d * (1 / 2) / B) (div_pos' (by grind) hB)
  refine ⟨M1 + M2 + N1 + N2, fun m n hm hn => ?_⟩
  have a1 := h1 m (by omega)
  have a2 := h2 n (by omega)
  have b1 := k1 m n (by omega) (by omega)
  have b2 := k1 n m (by omega) (by omega)
  have c1 := k2 m n (by omega) (by omega)
  have c2 := k2 n m (by omega) (by omega)
  have e1 : D * (d * (1 / 2) / D) = d * (1 / 2) := by have : D ≠ 0 := (by grind); grind
  have e2 : B * (d * (1 / 2) / B) = d * (1 / 2) := by have : B ≠ 0 := (by grind); grind
  have p1 := mul_bnd (x := f m) (y := g m - g n) (e := d * (1 / 2) / B) a1.1 a1.2 (by grind) (by grind)
  have p2 := mul_bnd (x := g n) (y := f m - f n) (e := d * (1 / 2) / D) a2.1 a2.2 (by grind) (by grind)
  rw [e2] at p1
  rw [e1] at p2
  grind
theorem PosS.add {f g : Nat → Rat} (h : PosS f) (k : PosS g) : PosS fun n => f n + g n := by
  obtain ⟨d, hd, N, hN⟩ := h
  obtain ⟨e, he, M, hM⟩ := k
  exact ⟨d, hd, N + M, fun n hn => by have := hN n (by omega); have := hM n (by omega); grind⟩
theorem PosS.nul {f g : Nat → Rat} (h : PosS f) (k : NulS g) : PosS fun n => f n + g n := by
  obtain ⟨d, hd, N, hN⟩ := h
  obtain ⟨M, hM⟩ := k (d * (1 / 2)) (by grind)
  exact ⟨d * (1 / 2), by grind, N + M, fun n hn => by have := hN n (by omega); have := hM n (by omega); grind⟩
theorem PosS.mul {f g : Nat → Rat} (h : PosS f) (k : PosS g) : PosS fun n => f n * g n := by
  obtain ⟨d, hd, N, hN⟩ := h
  obtain ⟨e, he, M, hM⟩ := k
  refine ⟨d * e, Rat.mul_pos hd he, N + M, fun n hn => ?_⟩
  have a := hN n (by omega)
  have b := hM n (by omega)
  have p1 := Rat.mul_pos (show 0 < f n - d by grind) (show 0 < g n by grind)
  have p2 := Rat.mul_pos hd (show 0 < g n - e by grind)
  grind
theorem PosS.cg {f g : Nat → Rat} (h : PosS f) (e : ∀ n, f n = g n) : PosS g := by rwa [funext e] at h
theorem PosS.not {f : Nat → Rat} (h : PosS f) (k : PosS fun n => -f n) : False := by
  obtain ⟨d, hd, N, hN⟩ := h
  obtain ⟨e, he, M, hM⟩ := k
  have := hN (N + M) (by omega)
  have := hM (N + M) (by omega)
  grind
namespace SgS
theorem ex {f : Nat → Rat} (h : Cau f) : ∃ n, SgS f n := by
  by_cases h1 : PosS f
  · exact ⟨1, .inl ⟨rfl, h1⟩⟩
  · by_cases h2 : PosS fun n => -f n
    · exact ⟨-1, .inr (.inl ⟨rfl, h2⟩)⟩
    · refine ⟨0, .inr (.inr ⟨rfl, fun d hd => ?_⟩)⟩
      obtain ⟨N, hN⟩ := h (d * (1 / 2)) (by grind)
      have a1 : ∃ m, N ≤ m ∧ f m ≤ d * (1 / 2) := Classical.byContradiction fun hc => h1 ⟨d * (1 / 2), by grind, N, fun n hn => by
        rcases Rat.le_total (a := f n) (b := d * (1 / 2)) with h | h
        · exact absurd ⟨n, hn, h⟩ hc
        · by_cases e : f n = d * (1 / 2)
          · exact absurd ⟨n, hn, by grind⟩ hc
          · grind⟩
      have a2 : ∃ m, N ≤ m ∧ -f m ≤ d * (1 / 2) := Classical.byContradiction fun hc => h2 ⟨d * (1 / 2), by grind, N, fun n hn => by
        rcases Rat.le_total (a := -f n) (b := d * (1 / 2)) with h | h
        · exact absurd ⟨n, hn, h⟩ hc
        · by_cases e : -f n = d * (1 / 2)
          · exact absurd ⟨n, hn, by grind⟩ hc
          · grind⟩
      obtain ⟨m1, g1, k1⟩ := a1
      obtain ⟨m2, g2, k2⟩ := a2
      refine ⟨N, fun n hn => ?_⟩
      have b1 := hN n m1 hn g1
      have b2 := hN m2 n g2 hn
      constructor <;> grind
theorem cg {f g : Nat → Rat} {n : Int} (h : SgS f n) (e : ∀ k, f k = g k) : SgS g n := by rwa [funext e] at h
theorem pos {f : Nat → Rat} (h : SgS f 1) : PosS f := by
  rcases h with ⟨e, h⟩ | ⟨e, h⟩ | ⟨e, h⟩
  · exact h
  · exact absurd e (by decide)
  · exact absurd e (by decide)
theorem npos {f : Nat → Rat} (h : SgS f (-1)) : PosS fun n => -f n := by
  rcases h with ⟨e, h⟩ | ⟨e, h⟩ | ⟨e, h⟩
  · exact absurd e (by decide)
  · exact h
  · exact absurd e (by decide)
theorem nul {f : Nat → Rat} (h : SgS f 0) : NulS f := by
  rcases h with ⟨e, h⟩ | ⟨e, h⟩ | ⟨e, h⟩
  · exact absurd e (by decide)
  · exact absurd e (by decide)
  · exact h
theorem of_npos {f : Nat → Rat} (h : PosS fun n => -f n) : SgS f (-1) := .inr (.inl ⟨rfl, h⟩)
theorem lim {f : Nat → Rat} {n : Int} (h : SgS f n) : n = 1 ∨ n = -1 ∨ n = 0 := by
  rcases h with ⟨e, h⟩ | ⟨e, h⟩ | ⟨e, h⟩ <;> simp [e]
theorem neg {f : Nat → Rat} {n : Int} (h : SgS f n) : SgS (fun k => -f k) (-n) := by
  rcases h with ⟨rfl, h⟩ | ⟨rfl, h⟩ | ⟨rfl, h⟩
  · exact .inr (.inl ⟨rfl, h.cg fun n => by grind⟩)
  · exact .inl ⟨rfl, h⟩
  · exact .inr (.inr ⟨rfl, h.neg⟩)
/-- A sum with what comes near 0. -/
theorem nadd {f g : Nat → Rat} {n : Int} (h : SgS f n) (k : NulS g) : SgS (fun k => f k + g k) n := by
  rcases h with ⟨rfl, h⟩ | ⟨rfl, h⟩ | ⟨rfl, h⟩
  · exact .inl ⟨rfl, h.nul k⟩
  · exact .inr (.inl ⟨rfl, (h.nul k.neg).cg fun n => by grind⟩)
  · exact .inr (.inr ⟨rfl, h.add k⟩)
theorem near {f g : Nat → Rat} {n : Int} (h : SgS f n) (k : NulS fun i => g i - f i) : SgS g n := (h.nadd k).cg fun n => by grind
theorem same {f g : Nat → Rat} {n : Int} (h : SgS f n) (k : SgS g n) : SgS (fun k => f k + g k) n := by
  rcases h with ⟨rfl, h⟩ | ⟨rfl, h⟩ | ⟨rfl, h⟩
  · exact .inl ⟨rfl, h.add k.pos⟩
  · exact .inr (.inl ⟨rfl, (h.add k.npos).cg fun n => by grind⟩)
  · exact .inr (.inr ⟨rfl, h.add k.nul⟩)
theorem mul {f g : Nat → Rat} {m n : Int} (hf : Cau f) (hg : Cau g) (h : SgS f m) (k : SgS g n) : SgS (fun k => f k * g k) (m * n) := by
  rcases h with ⟨rfl, h⟩ | ⟨rfl, h⟩ | ⟨rfl, h⟩
  · rw [Int.one_mul]
    rcases k with ⟨rfl, k⟩ | ⟨rfl, k⟩ | ⟨rfl, k⟩
    · exact .inl ⟨rfl, h.mul k⟩
    · exact .inr (.inl ⟨rfl, (h.mul k).cg fun n => by grind⟩)
    · exact .inr (.inr ⟨rfl, (k.mul hf.bnd).cg fun n => by grind⟩)
  · rcases k with ⟨rfl, k⟩ | ⟨rfl, k⟩ | ⟨rfl, k⟩
    · exact .inr (.inl ⟨rfl, (h.mul k).cg fun n => by grind⟩)
    · exact .inl ⟨rfl, (h.mul k).cg fun n => by grind⟩
    · exact .inr (.inr ⟨rfl, (k.mul hf.bnd).cg fun n => by grind⟩)
  · rw [Int.zero_mul]
    exact .inr (.inr ⟨rfl, h.mul hg.bnd⟩)
theorem const (q : Rat) : SgS (fun _ => q) (sgnR q) := by
  rcases sgn_cases q with ⟨a, e⟩ | ⟨a, e⟩ | ⟨a, e⟩ <;> rw [e]
  · exact .inr (.inl ⟨rfl, ⟨-q * (1 / 2), by grind, 0, fun n _ => by grind⟩⟩)
  · subst a; exact .inr (.inr ⟨rfl, NulS.zero⟩)
  · exact .inl ⟨rfl, ⟨q * (1 / 2), by grind, 0, fun n _ => by grind⟩⟩
end SgS
/-! ### Square roots -/
def epsS (n : Nat) : Rat := 1 / ((n : Rat) + 1)
/-- The root of c, rounded down to a multiple of 1 / (n + 1). -/
def rtS (c : Rat) (n : Nat) : Rat := ((isq (c * (((n : Rat) + 1) * ((n : Rat) + 1))).floor.toNat : Nat) : Rat) * epsS n
def v2 (A B M : Rat) (n : Nat) : Rat := A + B * rtS M n
def v4 (A B C D M N : Rat) (n : Nat) : Rat := v2 A B M n + v2 C D M n * rtS N n
end Go.Sw
