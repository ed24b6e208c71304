/-
  What the filter computes with its intervals, in plain integers and fractions.
  Products of intervals.
  What the filter's laws compute beside the filter: shares, parts, exact signs.
  The examples of the filter's laws.
  Lists of fractions with bounded parts.
  Plain laws of the filter's intervals.
  Parts of intervals lead to parts of the results.
  The sign of A + B sqrt C, out of its sign at two numbers around the root.
  A sign that the filter knows is the exact one.
  Lines and circles: the sign at a point with a root.
  Fractions that are squares, and signs of numbers with a root.
  Roots and points in reduced form, and what lines and circles answer at them.
  Lines, circles and points out of smallI numbers.
  Leaves of the runs of fractions, roots and points.
  Numbers that sequences of fractions come near: their signs, and square roots.
  Intervals that contain what a sequence comes near; the signs that they decide.
  Plain laws of lines and circles.
  Conditions: none.
-/
import Derived.Test.YtghlkihmnopenaaGreatDoorM8
set_option linter.all false
namespace Go.Sw
open Go
set_option linter.unusedVariables false
@[reducible] def upR (a : Rat) : Int := -(-a).floor
theorem fl_up (a : Rat) : a.floor ≤ upR a := by
  unfold upR
  have h1 := Rat.floor_le (a := a)
  have h2 := Rat.floor_le (a := -a)
  have : ((a.floor + (-a).floor : Int) : Rat) ≤ 0 := by rw [Rat.intCast_add]; grind
  have := Rat.intCast_le_intCast.1 (show ((a.floor + (-a).floor : Int) : Rat) ≤ ((0 : Int) : Rat) from this)
  omega
def fromR (a : Rat) : Option (Int × Int) := mkI (a * ((65536 : Int) : Rat)).floor (upR (a * ((65536 : Int) : Rat)))
def addI (a b : Int × Int) : Option (Int × Int) := mkI (a.1 + b.1) (a.2 + b.2)
def i64ok (a : Int) : Prop := -9223372036854775808 ≤ a ∧ a ≤ 9223372036854775807
theorem mkI_ok {l h : Int} (o : Option (Int × Int)) (e : o = mkI l h) (hlh : l ≤ h) : -2305843009213693952 ≤ (o.getD (0, 0)).1 ∧ (o.getD (0, 0)).1 ≤ (o.getD (0, 0)).2 ∧ (o.getD (0, 0)).2 ≤ 2305843009213693952 := by
  subst e
  unfold mkI
  split
  · exact ⟨by simp; omega, by simp; omega, by simp; omega⟩
  · exact ⟨by simp, by simp, by simp⟩
theorem fromR_ok (a : Rat) : -2305843009213693952 ≤ ((fromR a).getD (0, 0)).1 ∧ ((fromR a).getD (0, 0)).1 ≤ ((fromR a).getD (0, 0)).2 ∧ ((fromR a).getD (0, 0)).2 ≤ 2305843009213693952 := mkI_ok _ rfl (fl_up _)
theorem ovE {l h : Int} {b : Bool} {o : Option (Int × Int)} (e1 : l = (o.getD (0, 0)).1) (e2 : h = (o.getD (0, 0)).2) (e3 : b = o.isSome) :
    packA [AV.agg [Cell.v (Value.int .i64 l), Cell.v (Value.int .i64 h)], AV.c (Cell.v (Value.bool b))] = Ov o := by subst e1 e2 e3; rfl
theorem ovN {o : Option (Int × Int)} (e : o = none) : packA [AV.agg [Cell.v (Value.int .i64 0), Cell.v (Value.int .i64 0)], AV.c (Cell.v (Value.bool false))] = Ov o := by subst e; rfl
theorem ovMk {l h : Int} {o : Option (Int × Int)} (e : o = mkI l h) : packA [AV.agg [Cell.v (Value.int .i64 ((mkI l h).getD (0, 0)).1), Cell.v (Value.int .i64 ((mkI l h).getD (0, 0)).2)], AV.c (Cell.v (Value.bool (mkI l h).isSome))] = Ov o := by subst e; rfl
theorem sz_floor (a : Rat) : sz a.floor ≤ rz a := by
  refine Nat.le_trans (sz_mono ?_) (rz_num a)
  rw [← floor_of, Int.fdiv_eq_ediv_of_nonneg _ (by have := den_pos a; omega)]
  exact Int.natAbs_ediv_le_natAbs _ _
theorem fr_lo {a : Rat} (h : ¬(-9223372036854775808 ≤ (a * ((65536 : Int) : Rat)).floor ∧ (a * ((65536 : Int) : Rat)).floor ≤ 9223372036854775807)) : fromR a = none :=
  mkI_no (by have := fl_up (a * ((65536 : Int) : Rat)); omega)
theorem fr_hi {a : Rat} (h : ¬(-9223372036854775808 ≤ -(-(a * ((65536 : Int) : Rat))).floor ∧ -(-(a * ((65536 : Int) : Rat))).floor ≤ 9223372036854775807)) : fromR a = none :=
  mkI_no (by have := fl_up (a * ((65536 : Int) : Rat)); unfold upR at *; omega)
theorem szl (n : Int) (h1 : -9223372036854775808 ≤ n) (h2 : n ≤ 9223372036854775807) : sz n ≤ 3 := sz_64 h1 h2
theorem rz_k : rz ((65536 : Int) : Rat) ≤ 4 := by have := rz_int 65536; have := sz_64 (n := 65536) (by omega) (by omega); omega
theorem rt_fold {l : Int} : List.foldl (fun x y => if y > x then y else x) l [0] = max l 0 := by
  show (if 0 > l then 0 else l) = max l 0
  split <;> omega
/-- roots -/
def rt (n : Int) : Int := if n * 65536 < 0 then 0 else (isq (n * 65536).natAbs : Nat)
theorem rt_if (n : Int) : (if n * 65536 < 0 then 0 else ((isq (n * 65536).natAbs : Nat) : Int)) = rt n := rfl
def rtU (n : Int) : Int := if rt n * rt n = n * 65536 then rt n else rt n + 1
theorem rt_ok {n : Int} (h : 0 ≤ n) : 0 ≤ rt n ∧ rt n * rt n ≤ n * 65536 ∧ n * 65536 < (rt n + 1) * (rt n + 1) := by
  have ⟨h1, h2⟩ := isq_ok (n * 65536).natAbs
  have e : (((n * 65536).natAbs : Nat) : Int) = n * 65536 := by omega
  unfold rt
  rw [if_neg (by omega)]
  refine ⟨by omega, ?_, ?_⟩
  · have := Int.ofNat_le.2 h1; rw [Int.natCast_mul] at this; omega
  · have := Int.ofNat_lt.2 h2; rw [Int.natCast_mul, Int.natCast_add] at this; simpa [e] using this
theorem rt_lim {n : Int} (h : 0 ≤ n) (h2 : n ≤ 2305843009213693952) : 0 ≤ rt n ∧ rt n ≤ 549755813888 := by
  have ⟨h0, h1, _⟩ := rt_ok h
  refine ⟨h0, ?_⟩
  apply Decidable.byContradiction
  intro hc
  have : 549755813889 * 549755813889 ≤ rt n * rt n := Int.mul_le_mul (by omega) (by omega) (by decide) h0
  omega
theorem rtU_ok {n : Int} (h : 0 ≤ n) : rt n ≤ rtU n ∧ rtU n ≤ rt n + 1 ∧ n * 65536 ≤ rtU n * rtU n := by
  have ⟨h0, h1, h2⟩ := rt_ok h
  unfold rtU
  split
  · omega
  · refine ⟨by omega, by omega, by omega⟩
def sqrtI (a : Int × Int) : Option (Int × Int) := if a.2 < 0 then none else mkI (rt (max a.1 0)) (rtU a.2)
theorem rt_mono {l h : Int} (h0 : 0 ≤ l) (h1 : l ≤ h) : rt l ≤ rt h := by
  have ⟨a0, a1, a2⟩ := rt_ok h0
  have ⟨b0, b1, b2⟩ := rt_ok (Int.le_trans h0 h1)
  apply Decidable.byContradiction
  intro hc
  have : (rt h + 1) * (rt h + 1) ≤ rt l * rt l := Int.mul_le_mul (by omega) (by omega) (by omega) a0
  omega
theorem sq_ex {l h m : Int} (h0 : ¬h < 0) (e : ¬rt h * rt h < h * 65536) (hm : m = max l 0) : Ov (mkI (rt m) (rt h)) = Ov (sqrtI (l, h)) := by
  have := (rt_ok (n := h) (by omega)).2.1
  have e' : rt h * rt h = h * 65536 := by omega
  subst hm; unfold sqrtI rtU; rw [if_neg h0, if_pos e']
theorem sq_up {l h m : Int} (h0 : ¬h < 0) (e : rt h * rt h < h * 65536) (hm : m = max l 0) : Ov (mkI (rt m) (rt h + 1)) = Ov (sqrtI (l, h)) := by
  have e' : ¬rt h * rt h = h * 65536 := by omega
  subst hm; unfold sqrtI rtU; rw [if_neg h0, if_neg e']
theorem of_no {l h : Int} (g : ¬(-9223372036854775808 ≤ l ∧ l ≤ 9223372036854775807)) (hlh : l ≤ h) : mkI l h = none := mkI_no (by omega)
theorem of_no2 {l h : Int} (g : ¬(-9223372036854775808 ≤ h ∧ h ≤ 9223372036854775807)) (hlh : l ≤ h) : mkI l h = none := mkI_no (by omega)
theorem of_no3 {l h : Int} (g : (!prIv l h) = true) (hlh : l ≤ h) : mkI l h = none := mkI_no (by unfold prIv at g; simp at g; omega)
theorem of_yes {l h : Int} (g : (!prIv l h) = false) : packA [AV.agg [Cell.v (Value.int .i64 l), Cell.v (Value.int .i64 h)], AV.c (Cell.v (Value.bool true))] = Ov (mkI l h) := by
  unfold prIv at g; simp at g; rw [mkI_yes (by omega) (by omega)]; rfl
theorem rt_ex {l h : Int} (h0 : ¬h < 0) (e : rt h * rt h = h * 65536) : Ov (mkI (rt (max l 0)) (rt h)) = Ov (sqrtI (l, h)) := by
  unfold sqrtI rtU; rw [if_neg h0, if_pos e]
theorem rt_up {l h : Int} (h0 : ¬h < 0) (e : ¬rt h * rt h = h * 65536) : Ov (mkI (rt (max l 0)) (rt h + 1)) = Ov (sqrtI (l, h)) := by
  unfold sqrtI rtU; rw [if_neg h0, if_neg e]
end Go.Sw

namespace Go.Sw
open Go
set_option linter.unusedVariables false
set_option linter.unusedSimpArgs false
theorem w01 : IntKind.i64.wrap (0 + 1) = 1 := by decide
theorem w11 : IntKind.i64.wrap (1 + 1) = 2 := by decide
theorem onB_yes {b : Bool} {k : Bool → Prop} (e : b = true) (h : k true) : OnB b k := ⟨fun _ => h, fun h' => by rw [e] at h'; cases h'⟩
theorem onB_no {b : Bool} {k : Bool → Prop} (e : b = false) (h : k false) : OnB b k := ⟨fun h' => (by rw [e] at h'; cases h'), fun _ => h⟩
def dnP (x y : Int) : Int := (x * y) / 65536
def upP (x y : Int) : Int := -((-(x * y)) / 65536)
theorem dn_le (x y : Int) : dnP x y ≤ upP x y := by unfold dnP upP; omega
theorem scQ_val (x y : Int) : scQ x y = (dnP x y, upP x y) := by
  have e : x * y = if (decide (x < 0) != decide (y < 0)) = true then -((scP x y : Nat) : Int) else ((scP x y : Nat) : Int) := by
    unfold scP
    rw [Int.natCast_mul]
    by_cases h1 : x < 0 <;> by_cases h2 : y < 0 <;> simp only [h1, h2]
    · have e1 : (x.natAbs : Int) = -x := by omega
      have e2 : (y.natAbs : Int) = -y := by omega
      rw [e1, e2]; simp [Int.neg_mul, Int.mul_neg, Int.neg_neg]
    · have e1 : (x.natAbs : Int) = -x := by omega
      have e2 : (y.natAbs : Int) = y := by omega
      rw [e1, e2]; simp [Int.neg_mul, Int.mul_neg, Int.neg_neg]
    · have e1 : (x.natAbs : Int) = x := by omega
      have e2 : (y.natAbs : Int) = -y := by omega
      rw [e1, e2]; simp [Int.neg_mul, Int.mul_neg, Int.neg_neg]
    · have e1 : (x.natAbs : Int) = x := by omega
      have e2 : (y.natAbs : Int) = y := by omega
      rw [e1, e2]; simp [Int.neg_mul, Int.mul_neg, Int.neg_neg]
  unfold scQ dnP upP
  generalize scP x y = p at *
  generalize (decide (x < 0) != decide (y < 0)) = s at *
  rw [e]
  cases s <;> by_cases hm : p % 65536 = 0 <;> simp only [hm, if_true, if_false] <;> (refine Prod.ext ?_ ?_ <;> simp <;> omega)
def scOk (x y : Int) : Prop := -2305843009213693952 ≤ dnP x y ∧ upP x y ≤ 2305843009213693952
theorem scI_ok {x y : Int} (h : (scI x y).2.2 = true) : (scI x y).1 = dnP x y ∧ (scI x y).2.1 = upP x y ∧ -2305843009213693952 ≤ dnP x y ∧ upP x y ≤ 2305843009213693952 := by
  unfold scI at *
  rw [scQ_val] at *
  split at h
  · exact absurd h (by simp)
  · rename_i g
    rw [if_neg g]
    exact ⟨rfl, rfl, of_decide_eq_true h⟩
theorem scI_no {x y : Int} (h : ¬(scI x y).2.2 = true) : ¬(-2305843009213693952 ≤ dnP x y ∧ upP x y ≤ 2305843009213693952) := by
  have q := scQ_val x y
  unfold scI at h
  rw [q] at h
  split at h
  · rename_i g
    unfold scQ at q
    generalize scP x y = p at *
    intro ⟨h1, h2⟩
    generalize (decide (x < 0) != decide (y < 0)) = s at *
    have q1 := congrArg Prod.fst q
    have q2 := congrArg Prod.snd q
    cases s <;> by_cases hm : p % 65536 = 0 <;> simp only [hm, if_true, if_false] at q1 q2 <;> simp at q1 q2 <;> omega
  · intro ⟨h1, h2⟩
    exact h (decide_eq_true ⟨h1, h2⟩)
def mulI (a b : Int × Int) : Option (Int × Int) :=
  mkI (min (min (dnP a.1 b.1) (dnP a.1 b.2)) (min (dnP a.2 b.1) (dnP a.2 b.2))) (max (max (upP a.1 b.1) (upP a.1 b.2)) (max (upP a.2 b.1) (upP a.2 b.2)))
theorem nb {b : Bool} (h : (!b) = true) : ¬b = true := by cases b <;> simp_all
theorem nb' {b : Bool} (h : (!b) = false) : b = true := by cases b <;> simp_all
theorem min_fold (u v : Int) : List.foldl (fun x y => if y < x then y else x) u [v] = min u v := by
  show (if v < u then v else u) = min u v
  split <;> omega
theorem max_fold (u v : Int) : List.foldl (fun x y => if y > x then y else x) u [v] = max u v := by
  show (if v > u then v else u) = max u v
  split <;> omega
theorem mul_none {a b c d x y : Int} (hx : x = a ∨ x = b) (hy : y = c ∨ y = d) (h : (!(scI x y).2.2) = true) : mulI (a, b) (c, d) = none := by
  have := scI_no (nb h)
  apply mkI_no
  rcases hx with rfl | rfl <;> rcases hy with rfl | rfl <;> simp only <;> omega
theorem mul_some {a b c d : Int} (h1 : (!(scI a c).2.2) = false) (h2 : (!(scI a d).2.2) = false) (h3 : (!(scI b c).2.2) = false) (h4 : (!(scI b d).2.2) = false) :
    packA [AV.agg [Cell.v (Value.int .i64 (min (min (min (min 2305843009213693952 (scI a c).1) (scI a d).1) (scI b c).1) (scI b d).1)), Cell.v (Value.int .i64 (max (max (max (max (-2305843009213693952) (scI a c).2.1) (scI a d).2.1) (scI b c).2.1) (scI b d).2.1))], AV.c (Cell.v (Value.bool true))] = Ov (mulI (a, b) (c, d)) := by
  obtain ⟨e1, e2, e3, e4⟩ := scI_ok (nb' h1)
  obtain ⟨f1, f2, f3, f4⟩ := scI_ok (nb' h2)
  obtain ⟨g1, g2, g3, g4⟩ := scI_ok (nb' h3)
  obtain ⟨k1, k2, k3, k4⟩ := scI_ok (nb' h4)
  have d1 := dn_le a c
  have d2 := dn_le a d
  have d3 := dn_le b c
  have d4 := dn_le b d
  rw [e1, e2, f1, f2, g1, g2, k1, k2]
  unfold mulI
  rw [mkI_yes (by simp only; omega) (by simp only; omega)]
  refine ovE ?_ ?_ rfl <;> simp only [Option.getD_some] <;> omega
/-- A root's cells. -/
@[reducible] def Q3 (a b c : Rat) : AV := .agg [zs a.num, zl a.num, zs a.den, zl a.den, zs b.num, zl b.num, zs b.den, zl b.den, zs c.num, zl c.num, zs c.den, zl c.den]
def rootI (a b c : Rat) : Option (Int × Int) :=
  match fromR a with
  | none => none
  | some x => if b = 0 then some x else
    match fromR b, fromR c with
    | some y, some z => if c < 0 then none else
      match sqrtI z with
      | none => none
      | some s => match mulI y s with
        | none => none
        | some p => addI x p
    | _, _ => none
theorem floor_uniq {q : Rat} {m : Int} (h1 : (m : Rat) ≤ q) (h2 : q < ((m + 1 : Int) : Rat)) : q.floor = m := by
  have a1 : m ≤ q.floor := Rat.le_floor_iff.2 h1
  have a2 : q.floor < m + 1 := Rat.floor_lt_iff.2 h2
  omega
theorem floor_dn (a c : Int) : ((a : Rat) * (c : Rat) * (((1 : Int) : Rat) / ((65536 : Int) : Rat))).floor = dnP a c := by
  have e : (a : Rat) * (c : Rat) * (((1 : Int) : Rat) / ((65536 : Int) : Rat)) = ((a * c : Int) : Rat) / 65536 := by
    rw [Rat.intCast_mul]; grind
  rw [e]
  unfold dnP
  generalize a * c = n
  apply floor_uniq
  · have h : ((n / 65536 * 65536 : Int) : Rat) ≤ (n : Rat) := Rat.intCast_le_intCast.2 (by omega)
    rw [Rat.intCast_mul] at h
    generalize ((n / 65536 : Int) : Rat) = x at *
    grind
  · have h : (n : Rat) < (((n / 65536 + 1) * 65536 : Int) : Rat) := Rat.intCast_lt_intCast.2 (by omega)
    rw [Rat.intCast_mul] at h
    generalize ((n / 65536 + 1 : Int) : Rat) = x at *
    grind
theorem up_dn (a c : Int) : upR ((a : Rat) * (c : Rat) * (((1 : Int) : Rat) / ((65536 : Int) : Rat))) = upP a c := by
  unfold upP
  have := floor_dn (-a) c
  unfold dnP at this
  rw [Rat.intCast_neg, Rat.neg_mul, Rat.neg_mul, Int.neg_mul] at this
  unfold upR
  rw [this]
def lw (a b c d : Int) : Nat → Int
  | 0 => 0 | 1 => dnP a c | 2 => min (dnP a c) (dnP a d) | 3 => min (min (dnP a c) (dnP a d)) (dnP b c) | _ => min (min (min (dnP a c) (dnP a d)) (dnP b c)) (dnP b d)
def hw (a b c d : Int) : Nat → Int
  | 0 => 0 | 1 => upP a c | 2 => max (upP a c) (upP a d) | 3 => max (max (upP a c) (upP a d)) (upP b c) | _ => max (max (max (upP a c) (upP a d)) (upP b c)) (upP b d)
def kI : Nat → Int | 0 => 0 | 1 => 1 | _ => 2
theorem lw1 (a b c d : Int) : lw a b c d 1 = dnP a c := rfl
theorem lw2 (a b c d : Int) : lw a b c d 2 = min (dnP a c) (dnP a d) := rfl
theorem lw3 (a b c d : Int) : lw a b c d 3 = min (min (dnP a c) (dnP a d)) (dnP b c) := rfl
theorem lw4 (a b c d : Int) : lw a b c d 4 = min (min (min (dnP a c) (dnP a d)) (dnP b c)) (dnP b d) := rfl
theorem hw1 (a b c d : Int) : hw a b c d 1 = upP a c := rfl
theorem hw2 (a b c d : Int) : hw a b c d 2 = max (upP a c) (upP a d) := rfl
theorem hw3 (a b c d : Int) : hw a b c d 3 = max (max (upP a c) (upP a d)) (upP b c) := rfl
theorem hw4 (a b c d : Int) : hw a b c d 4 = max (max (max (upP a c) (upP a d)) (upP b c)) (upP b d) := rfl
theorem k1 : some (AV.int .i64 (IntKind.i64.wrap (0 + 1))) = some (AV.int .i64 (kI 1)) := by rw [w01]; rfl
theorem k2 : some (AV.int .i64 (IntKind.i64.wrap (1 + 1))) = some (AV.int .i64 (kI 2)) := by rw [w11]; rfl
theorem rz_m (a c : Int) (h1 : -9223372036854775808 ≤ a ∧ a ≤ 9223372036854775807) (h2 : -9223372036854775808 ≤ c ∧ c ≤ 9223372036854775807) : rz (a : Rat) ≤ 4 ∧ rz (c : Rat) ≤ 4 ∧ rz ((a : Rat) * (c : Rat)) ≤ 8 ∧ rz (((1 : Int) : Rat) / ((65536 : Int) : Rat)) ≤ 6 ∧ rz ((a : Rat) * (c : Rat) * (((1 : Int) : Rat) / ((65536 : Int) : Rat))) ≤ 14 := by
  have z1 := rz_int a
  have z2 := rz_int c
  have z3 := sz_64 h1.1 h1.2
  have z4 := sz_64 h2.1 h2.2
  have z5 := rz_mul (a : Rat) (c : Rat)
  have z6 := rz_red (n := 1) (d := 65536) (by decide)
  have z7 := szl 65536 (by omega) (by omega)
  have z8 := sz_one
  have z9 := rz_mul ((a : Rat) * (c : Rat)) (((1 : Int) : Rat) / ((65536 : Int) : Rat))
  omega
theorem lw_01 (a b c d : Int) : lw a b c d (0 + 1) = dnP a c := rfl
theorem hw_01 (a b c d : Int) : hw a b c d (0 + 1) = upP a c := rfl
theorem lw_02 (a b c d : Int) : lw a b c d (0 + 2) = min (dnP a c) (dnP a d) := rfl
theorem hw_02 (a b c d : Int) : hw a b c d (0 + 2) = max (upP a c) (upP a d) := rfl
theorem lw_20 (a b c d : Int) : lw a b c d (2 + 0) = min (dnP a c) (dnP a d) := rfl
theorem hw_20 (a b c d : Int) : hw a b c d (2 + 0) = max (upP a c) (upP a d) := rfl
theorem lw_21 (a b c d : Int) : lw a b c d (2 + 1) = min (min (dnP a c) (dnP a d)) (dnP b c) := rfl
theorem hw_21 (a b c d : Int) : hw a b c d (2 + 1) = max (max (upP a c) (upP a d)) (upP b c) := rfl
theorem lw_22 (a b c d : Int) : lw a b c d (2 + 2) = min (min (min (dnP a c) (dnP a d)) (dnP b c)) (dnP b d) := rfl
theorem hw_22 (a b c d : Int) : hw a b c d (2 + 2) = max (max (max (upP a c) (upP a d)) (upP b c)) (upP b d) := rfl
theorem zvar0 : some (Bk.var [Cell.v (.bool false), Cell.sl 1 []]) = some (Bk.var [zs 0, zl 0]) := by
  have := Z0
  unfold Z at this
  injection this with h
  rw [h]
theorem zvar {x y : Int} (h : x = y) : some (Bk.var [zs x, zl x]) = some (Bk.var [zs y, zl y]) := by rw [h]
theorem mul_lw (a b c d : Int) : mkI (lw a b c d 4) (hw a b c d 4) = mulI (a, b) (c, d) := by
  unfold mulI lw hw
  congr 1 <;> simp only <;> omega
theorem lw_hw (a b c d : Int) : lw a b c d 4 ≤ hw a b c d 4 := by
  have d1 := dn_le a c
  unfold lw hw
  simp only
  omega
@[reducible] def Q5 (a b c d e : Rat) : AV := .agg [zs a.num, zl a.num, zs a.den, zl a.den, zs b.num, zl b.num, zs b.den, zl b.den, zs c.num, zl c.num, zs c.den, zl c.den, zs d.num, zl d.num, zs d.den, zl d.den, zs e.num, zl e.num, zs e.den, zl e.den]
def prodI (n : Rat) (o : Option (Int × Int)) : Option (Int × Int) :=
  match fromR n, o with
  | some b, some a => mulI b a
  | _, _ => none
def sideI (la lb lc ax bx ay bb c : Rat) : Int × Bool :=
  match prodI la (rootI ax bx c), prodI lb (rootI ay bb c), fromR lc with
  | some x, some y, some z => match addI x y with
    | none => (0, false)
    | some s => match addI s (-z.2, -z.1) with
      | none => (0, false)
      | some t => sgIv t.1 t.2
  | _, _, _ => (0, false)
def ivB (x : Int × Int) : Prop := -2305843009213693952 ≤ x.1 ∧ x.1 ≤ x.2 ∧ x.2 ≤ 2305843009213693952
theorem ivB_from (a : Rat) : ivB ((fromR a).getD (0, 0)) := fromR_ok a
theorem ivB_mul (x y : Int × Int) : ivB ((mulI x y).getD (0, 0)) := mkI_ok _ rfl (by have := dn_le x.1 y.1; omega)
theorem ivB_sqrt {x : Int × Int} (h : ivB x) : ivB ((sqrtI x).getD (0, 0)) := by
  unfold sqrtI
  split
  · exact ⟨by decide, by decide, by decide⟩
  · rename_i g
    refine mkI_ok _ rfl ?_
    have := rt_mono (l := max x.1 0) (h := x.2) (by omega) (by unfold ivB at h; omega)
    have := (rtU_ok (n := x.2) (by omega)).1
    omega
theorem ivB_add {x y : Int × Int} (h1 : ivB x) (h2 : ivB y) : ivB ((addI x y).getD (0, 0)) := mkI_ok _ rfl (by unfold ivB at *; omega)
theorem ivB_root (a b c : Rat) : ivB ((rootI a b c).getD (0, 0)) := by
  have h0 : ivB (0, 0) := ⟨by decide, by decide, by decide⟩
  unfold rootI
  have ha := ivB_from a
  have hb := ivB_from b
  have hc := ivB_from c
  split
  · exact h0
  · rename_i x hx
    rw [hx] at ha
    split
    · exact ha
    · split
      · rename_i y z hy hz
        split
        · exact h0
        · split
          · exact h0
          · split
            · exact h0
            · rename_i s hs _ p hp
              refine ivB_add ha ?_
              have := ivB_mul y s
              rw [hp] at this
              exact this
      · exact h0
theorem ivB_prod (n : Rat) (o : Option (Int × Int)) : ivB ((prodI n o).getD (0, 0)) := by
  unfold prodI
  split
  · exact ivB_mul _ _
  · exact ⟨by decide, by decide, by decide⟩
theorem ovN1 {o : Option (Int × Int)} (e : (none : Option (Int × Int)) = o) : packA [AV.agg [Cell.v (Value.int .i64 0), Cell.v (Value.int .i64 0)], AV.c (Cell.v (Value.bool false))] = Ov o := by subst e; rfl
end Go.Sw

namespace Go.Sw
open Go
set_option linter.unusedVariables false
theorem sgnR_lim (a : Rat) : -1 ≤ sgnR a ∧ sgnR a ≤ 1 := by unfold sgnR; split <;> (try split) <;> omega
theorem cmpR_lim (a b : Rat) : -1 ≤ cmpR a b ∧ cmpR a b ≤ 1 := by unfold cmpR; split <;> (try split) <;> omega
theorem one_mul_lim {x y : Int} (h1 : -1 ≤ x ∧ x ≤ 1) (h2 : -1 ≤ y ∧ y ≤ 1) : -1 ≤ x * y ∧ x * y ≤ 1 := by
  have a : x = -1 ∨ x = 0 ∨ x = 1 := by omega
  rcases a with rfl | rfl | rfl <;> omega
theorem w_ss (a b : Rat) : IntKind.i64.wrap (sgnR a * sgnR b) = sgnR a * sgnR b := by
  have := one_mul_lim (sgnR_lim a) (sgnR_lim b)
  exact wi64 (by omega) (by omega)
theorem w_sc (a b c : Rat) : IntKind.i64.wrap (sgnR a * cmpR b c) = sgnR a * cmpR b c := by
  have := one_mul_lim (sgnR_lim a) (cmpR_lim b c)
  exact wi64 (by omega) (by omega)
/-- The sign of a + b sqrt c. -/
def exI (a b c : Rat) : Int :=
  if sgnR a = sgnR b * sgnR c ∨ sgnR b * sgnR c = 0 then sgnR a
  else if sgnR a = 0 then sgnR b * sgnR c
  else sgnR a * cmpR (a * a) (b * b * c)
theorem ex_4 {a b c : Rat} (g1 : ¬sgnR a = sgnR b * sgnR c) (g2 : ¬sgnR b * sgnR c = 0) (g3 : ¬sgnR a = 0) : exI a b c = sgnR a * cmpR (a * a) (b * b * c) := by
  unfold exI; rw [if_neg (fun h => h.elim g1 g2), if_neg g3]
def btwR (l h : Int) (s : Nat) : Rat := ((l : Rat) + ((h : Rat) - (l : Rat)) * (((s : Int) : Rat) / ((255 : Int) : Rat))) * (((1 : Int) : Rat) / ((65536 : Int) : Rat))
def inR (l h : Int) (x : Rat) : Bool := decide ((l : Rat) ≤ x * ((65536 : Int) : Rat)) && decide (x * ((65536 : Int) : Rat) ≤ (h : Rat))
def partI (l h : Int) (u v : Nat) : Int × Int := if (u : Int) + v > h - l then (l, h) else (l + u, h - v)
theorem rz_i (n : Int) (h1 : -9223372036854775808 ≤ n) (h2 : n ≤ 9223372036854775807) : rz (n : Rat) ≤ 4 := by
  have := rz_int n; have := sz_64 h1 h2; omega
theorem rz_q (n d : Int) (h0 : d ≠ 0) (h1 : -9223372036854775808 ≤ n ∧ n ≤ 9223372036854775807) (h2 : -9223372036854775808 ≤ d ∧ d ≤ 9223372036854775807) : rz ((n : Rat) / (d : Rat)) ≤ 6 := by
  have := rz_red (n := n) h0; have := sz_64 h1.1 h1.2; have := sz_64 h2.1 h2.2; omega
theorem rz_b (l h : Int) (s : Nat) (hl : -2305843009213693952 ≤ l ∧ l ≤ 2305843009213693952) (hh : -2305843009213693952 ≤ h ∧ h ≤ 2305843009213693952) (hs : s < 256) :
    rz (l : Rat) ≤ 4 ∧ rz (h : Rat) ≤ 4 ∧ rz (((s : Int) : Rat) / ((255 : Int) : Rat)) ≤ 6 ∧ rz (((1 : Int) : Rat) / ((65536 : Int) : Rat)) ≤ 6 ∧ rz ((h : Rat) - (l : Rat)) ≤ 17 ∧
    rz (((h : Rat) - (l : Rat)) * (((s : Int) : Rat) / ((255 : Int) : Rat))) ≤ 23 ∧ rz ((l : Rat) + ((h : Rat) - (l : Rat)) * (((s : Int) : Rat) / ((255 : Int) : Rat))) ≤ 55 ∧ rz (btwR l h s) ≤ 61 := by
  have z1 := rz_i l (by omega) (by omega)
  have z2 := rz_i h (by omega) (by omega)
  have z3 := rz_q s 255 (by decide) ⟨by omega, by omega⟩ ⟨by omega, by omega⟩
  have z4 := rz_q 1 65536 (by decide) ⟨by omega, by omega⟩ ⟨by omega, by omega⟩
  have z5 := rz_sub (h : Rat) (l : Rat)
  have z6 := rz_mul ((h : Rat) - (l : Rat)) (((s : Int) : Rat) / ((255 : Int) : Rat))
  have z7 := rz_add (l : Rat) (((h : Rat) - (l : Rat)) * (((s : Int) : Rat) / ((255 : Int) : Rat)))
  have z8 := rz_mul ((l : Rat) + ((h : Rat) - (l : Rat)) * (((s : Int) : Rat) / ((255 : Int) : Rat))) (((1 : Int) : Rat) / ((65536 : Int) : Rat))
  unfold btwR
  omega
theorem ivE {a b : Int} {p : Int × Int} (e : (a, b) = p) : packA [AV.agg [Cell.v (Value.int .i64 a), Cell.v (Value.int .i64 b)]] = Iv p.1 p.2 := by subst e; rfl
end Go.Sw

namespace Go.Sw
open Go
set_option linter.unusedVariables false
theorem aw_rt : rt 131072 = 92681 := by
  have h : 92681 = isq (131072 * 65536 : Int).natAbs := isq_uniq (by decide) (by decide)
  unfold rt
  rw [← h]
  rfl
theorem aw_sq : sqrtI (131072, 131072) = some (92681, 92682) := by
  have e : max (131072 : Int) 0 = 131072 := by decide
  unfold sqrtI rtU
  simp only [e, aw_rt]
  decide
theorem aw_1 : fromR (((1 : Int) : Rat) / ((3 : Int) : Rat)) = some (21845, 21846) := by decide +kernel
theorem fr_0 : fromR ((0 : Int) : Rat) = some (0, 0) := by decide +kernel
theorem fr_1 : fromR ((1 : Int) : Rat) = some (65536, 65536) := by decide +kernel
theorem fr_m : fromR ((-1 : Int) : Rat) = some (-65536, -65536) := by decide +kernel
theorem fr_2 : fromR ((2 : Int) : Rat) = some (131072, 131072) := by decide +kernel
theorem aw_r : rootI ((1 : Int) : Rat) ((-1 : Int) : Rat) ((2 : Int) : Rat) = some (-27146, -27145) := by
  unfold rootI; rw [fr_1, fr_m, fr_2]; simp only [aw_sq]; decide +kernel
theorem aw_r1 : rootI ((0 : Int) : Rat) ((1 : Int) : Rat) ((2 : Int) : Rat) = some (92681, 92682) := by
  unfold rootI; rw [fr_0, fr_1, fr_2]; simp only [aw_sq]; decide +kernel
theorem aw_r2 : rootI ((0 : Int) : Rat) ((0 : Int) : Rat) ((2 : Int) : Rat) = some (0, 0) := by
  unfold rootI; rw [fr_0]; simp only; rw [if_pos (by decide +kernel)]
theorem fr_99 : fromR ((99 : Int) : Rat) = some (6488064, 6488064) := by decide +kernel
theorem fr_140 : fromR ((140 : Int) : Rat) = some (9175040, 9175040) := by decide +kernel
theorem fr_47 : fromR ((470832 : Int) : Rat) = some (30856445952, 30856445952) := by decide +kernel
theorem fr_66 : fromR ((665857 : Int) : Rat) = some (43637604352, 43637604352) := by decide +kernel
theorem mu_0 : mulI (0, 0) (0, 0) = some (0, 0) := by decide
theorem mu_1 : mulI (6488064, 6488064) (92681, 92682) = some (9175419, 9175518) := by decide
theorem mu_2 : mulI (30856445952, 30856445952) (92681, 92682) = some (43637180592, 43637651424) := by decide
theorem ad_1 : addI (9175419, 9175518) (0, 0) = some (9175419, 9175518) := by decide
theorem ad_2 : addI (43637180592, 43637651424) (0, 0) = some (43637180592, 43637651424) := by decide
theorem ae_1 : addI (9175419, 9175518) (-9175040, -9175040) = some (379, 478) := by decide
theorem ae_2 : addI (43637180592, 43637651424) (-43637604352, -43637604352) = some (-423760, 47072) := by decide
theorem side_of {la lb lc ax bx ay bb c : Rat} {r1 r2 x y z p q s t : Int × Int} (h1 : rootI ax bx c = some r1) (h2 : rootI ay bb c = some r2) (h3 : fromR la = some x) (h4 : fromR lb = some y) (h5 : fromR lc = some z)
    (h6 : mulI x r1 = some p) (h7 : mulI y r2 = some q) (h8 : addI p q = some s) (h9 : addI s (-z.2, -z.1) = some t) : sideI la lb lc ax bx ay bb c = sgIv t.1 t.2 := by
  unfold sideI prodI
  rw [h1, h2, h3, h4, h5]
  simp only [h6, h7, h8, h9]
theorem aw_s1 : sideI ((99 : Int) : Rat) ((0 : Int) : Rat) ((140 : Int) : Rat) ((0 : Int) : Rat) ((1 : Int) : Rat) ((0 : Int) : Rat) ((0 : Int) : Rat) ((2 : Int) : Rat) = (1, true) :=
  (side_of aw_r1 aw_r2 fr_99 fr_0 fr_140 mu_1 mu_0 ad_1 ae_1).trans (by decide)
theorem aw_s2 : sideI ((470832 : Int) : Rat) ((0 : Int) : Rat) ((665857 : Int) : Rat) ((0 : Int) : Rat) ((1 : Int) : Rat) ((0 : Int) : Rat) ((0 : Int) : Rat) ((2 : Int) : Rat) = (0, false) :=
  (side_of aw_r1 aw_r2 fr_47 fr_0 fr_66 mu_2 mu_0 ad_2 ae_2).trans (by decide)
theorem sg_r : sgIv (-27146) (-27145) = (-1, true) := by decide
theorem sg_n : sgIv (-1) 0 = (0, false) := by decide
end Go.Sw

namespace Go.Sw
open Go
set_option linter.unusedVariables false
abbrev RawR := Bool × List Nat × Bool × List Nat
@[reducible] def rc (r : RawR) : List Cell := [.v (.bool r.1), lmc r.2.1, .v (.bool r.2.2.1), lmc r.2.2.2]
def rd0 : RawR := (false, [], false, [])
def okr (k : Int) (r : RawR) : Bool := decide ((r.2.1.length : Int) ≤ k) && (decide ((r.2.2.2.length : Int) ≤ k) && validR r.1 r.2.1 r.2.2.1 r.2.2.2)
theorem getD_mem {L : List RawR} {x : Nat} (hx : x < L.length) : L.getD x rd0 ∈ L := by
  simp [List.getD, hx]
theorem all_bad {L : List RawR} {k : Int} {x : Nat} (hx : x < L.length) (h : okr k (L.getD x rd0) = false) : false = L.all (okr k) := by
  symm
  rw [List.all_eq_false]
  exact ⟨_, getD_mem hx, by rw [h]; exact Bool.false_ne_true⟩
theorem all_end {L : List RawR} {k : Int} {x : Nat} (hx : x ≤ L.length ∧ ∀ j, j < x → okr k (L.getD j rd0) = true) (h : ¬((x : Nat) : Int) < L.length) : true = L.all (okr k) := by
  symm
  rw [List.all_eq_true]
  intro r hr
  obtain ⟨j, hj, rfl⟩ := List.getElem_of_mem hr
  have := hx.2 j (by omega)
  simpa [List.getD, hj] using this
theorem okr_1 {k : Int} {r : RawR} (h : (r.2.1.length : Int) > k) : okr k r = false := by
  unfold okr; rw [decide_eq_false (by omega)]; rfl
theorem okr_2 {k : Int} {r : RawR} (h : (r.2.2.2.length : Int) > k) : okr k r = false := by
  unfold okr; rw [decide_eq_false (p := (r.2.2.2.length : Int) ≤ k) (by omega)]; simp
theorem okr_3 {k : Int} {r : RawR} (h : (!validR r.1 r.2.1 r.2.2.1 r.2.2.2) = true) : okr k r = false := by
  unfold okr; simp at h; simp [h]
theorem okr_yes {k : Int} {r : RawR} (h1 : ¬(r.2.1.length : Int) > k) (h2 : ¬(r.2.2.2.length : Int) > k) (h3 : (!validR r.1 r.2.1 r.2.2.1 r.2.2.2) = false) : okr k r = true := by
  unfold okr; simp at h3; simp [h3]; omega
end Go.Sw

namespace Go.Sw
open Go
set_option linter.unusedVariables false
theorem prIv_b {a b : Int} : ((!prIv a b) = false) ↔ (a ≤ b ∧ -2305843009213693952 ≤ a ∧ b ≤ 2305843009213693952) := by unfold prIv; simp
theorem okr_cases (k : Int) (n1 : Bool) (l1 : List Nat) (n2 : Bool) (l2 : List Nat) : okr k (n1, l1, n2, l2) = false ∨ ∃ q : Rat, n1 = decide (q.num < 0) ∧ l1 = lim q.num.natAbs ∧ n2 = decide ((q.den : Int) < 0) ∧ l2 = lim (q.den : Int).natAbs ∧ rz q ≤ 2 * k.toNat ∧ okr k (decide (q.num < 0), lim q.num.natAbs, decide ((q.den : Int) < 0), lim (q.den : Int).natAbs) = true := by
  cases h : okr k (n1, l1, n2, l2) with
  | false => exact .inl rfl
  | true =>
    right
    have h' := h
    unfold okr at h'
    simp only [Bool.and_eq_true, decide_eq_true_eq] at h'
    obtain ⟨h1, h2, h3⟩ := h'
    obtain ⟨q, rfl, rfl, rfl, rfl⟩ := validR_ex h3
    refine ⟨q, rfl, rfl, rfl, rfl, ?_, h⟩
    unfold rz sz
    omega
theorem in_from {a : Rat} (h : (!(fromR a).isSome) = false) : inR ((fromR a).getD (0, 0)).1 ((fromR a).getD (0, 0)).2 a = true := by
  cases e : fromR a with
  | none => rw [e] at h; cases h
  | some x =>
    have hx : x = ((a * ((65536 : Int) : Rat)).floor, upR (a * ((65536 : Int) : Rat))) := by
      unfold fromR mkI at e
      split at e
      · injection e with e; exact e.symm
      · cases e
    subst hx
    unfold inR
    simp only [Option.getD_some, Bool.and_eq_true, decide_eq_true_eq]
    refine ⟨Rat.floor_le _, ?_⟩
    have := Rat.floor_le (-(a * ((65536 : Int) : Rat)))
    unfold upR
    rw [Rat.intCast_neg]
    grind
theorem lin_lo {a b x k L : Rat} (h1 : a ≤ x) (h2 : x ≤ b) (p : L ≤ a * k) (q : L ≤ b * k) : L ≤ x * k := by
  rcases Rat.le_total (a := 0) (b := k) with hk | hk
  · have := Rat.mul_le_mul_of_nonneg_right h1 hk; grind
  · have := Rat.mul_le_mul_of_nonneg_right h2 (show 0 ≤ -k by grind); grind
theorem bil_lo {a b c d x y L : Rat} (h1 : a ≤ x) (h2 : x ≤ b) (h3 : c ≤ y) (h4 : y ≤ d) (p1 : L ≤ a * c) (p2 : L ≤ a * d) (p3 : L ≤ b * c) (p4 : L ≤ b * d) : L ≤ x * y := by
  apply lin_lo h1 h2
  · rw [Rat.mul_comm]; exact lin_lo h3 h4 (by rw [Rat.mul_comm]; exact p1) (by rw [Rat.mul_comm]; exact p2)
  · rw [Rat.mul_comm]; exact lin_lo h3 h4 (by rw [Rat.mul_comm]; exact p3) (by rw [Rat.mul_comm]; exact p4)
theorem bil_hi {a b c d x y L : Rat} (h1 : a ≤ x) (h2 : x ≤ b) (h3 : c ≤ y) (h4 : y ≤ d) (p1 : a * c ≤ L) (p2 : a * d ≤ L) (p3 : b * c ≤ L) (p4 : b * d ≤ L) : x * y ≤ L := by
  have := bil_lo (L := -L) (a := -b) (b := -a) (x := -x) (y := y) (c := c) (d := d) (by grind) (by grind) h3 h4 (by grind) (by grind) (by grind) (by grind)
  grind
theorem dn_rat (x y : Int) : ((dnP x y : Int) : Rat) * 65536 ≤ (x : Rat) * (y : Rat) := by
  have h : ((dnP x y * 65536 : Int) : Rat) ≤ ((x * y : Int) : Rat) := Rat.intCast_le_intCast.2 (by unfold dnP; omega)
  rw [Rat.intCast_mul, Rat.intCast_mul] at h
  exact h
theorem up_rat (x y : Int) : (x : Rat) * (y : Rat) ≤ ((upP x y : Int) : Rat) * 65536 := by
  have h : ((x * y : Int) : Rat) ≤ ((upP x y * 65536 : Int) : Rat) := Rat.intCast_le_intCast.2 (by unfold upP; omega)
  rw [Rat.intCast_mul, Rat.intCast_mul] at h
  exact h
/-- An interval contains a number. -/
def con (p : Int × Int) (q : Rat) : Prop := (p.1 : Rat) ≤ q * 65536 ∧ q * 65536 ≤ (p.2 : Rat)
theorem mkI_some {l h : Int} {p : Int × Int} (e : mkI l h = some p) : p = (l, h) := by
  unfold mkI at e
  split at e
  · injection e with e; exact e.symm
  · cases e
theorem con_add {x y p : Int × Int} {u v : Rat} (e : addI x y = some p) (hu : con x u) (hv : con y v) : con p (u + v) := by
  have := mkI_some e
  subst this
  unfold con at *
  simp only [Rat.intCast_add]
  obtain ⟨h1, h2⟩ := hu
  obtain ⟨h3, h4⟩ := hv
  constructor <;> grind
theorem con_mul {x y p : Int × Int} {u v : Rat} (e : mulI x y = some p) (hu : con x u) (hv : con y v) : con p (u * v) := by
  have := mkI_some e
  subst this
  unfold con at *
  obtain ⟨h1, h2⟩ := hu
  obtain ⟨h3, h4⟩ := hv
  simp only
  generalize hl : min (min (dnP x.1 y.1) (dnP x.1 y.2)) (min (dnP x.2 y.1) (dnP x.2 y.2)) = l
  generalize hh : max (max (upP x.1 y.1) (upP x.1 y.2)) (max (upP x.2 y.1) (upP x.2 y.2)) = h
  have lo : ∀ a c : Int, l ≤ dnP a c → (l : Rat) * 65536 ≤ (a : Rat) * (c : Rat) := fun a c hd => by
    have k1 := dn_rat a c
    have k2 := Rat.intCast_le_intCast.2 hd
    grind
  have hi : ∀ a c : Int, upP a c ≤ h → (a : Rat) * (c : Rat) ≤ (h : Rat) * 65536 := fun a c hd => by
    have k1 := up_rat a c
    have k2 := Rat.intCast_le_intCast.2 hd
    grind
  have b1 := bil_lo h1 h2 h3 h4 (lo _ _ (by omega)) (lo _ _ (by omega)) (lo _ _ (by omega)) (lo _ _ (by omega))
  have b2 := bil_hi h1 h2 h3 h4 (hi _ _ (by omega)) (hi _ _ (by omega)) (hi _ _ (by omega)) (hi _ _ (by omega))
  constructor <;> grind
theorem c65 : ((65536 : Int) : Rat) = 65536 := by decide +kernel
theorem c255 : ((255 : Int) : Rat) = 255 := by decide +kernel
theorem c1 : ((1 : Int) : Rat) = 1 := by decide +kernel
theorem in_con {l h : Int} {x : Rat} (e : con (l, h) x) : inR l h x = true := by
  unfold inR con at *
  rw [c65]
  simp only [Bool.and_eq_true, decide_eq_true_eq]
  exact e
theorem con_btw {l h : Int} {s : Nat} (hl : l ≤ h) (hs : s < 256) : con (l, h) (btwR l h s) := by
  have k1 : (0 : Rat) ≤ ((s : Int) : Rat) := by have := Rat.intCast_le_intCast.2 (show (0 : Int) ≤ (s : Int) by omega); simpa using this
  have k2 : ((s : Int) : Rat) ≤ 255 := by have := Rat.intCast_le_intCast.2 (show (s : Int) ≤ 255 by omega); rw [c255] at this; exact this
  have k3 := Rat.intCast_le_intCast.2 hl
  unfold con btwR
  rw [c65, c255, c1]
  simp only
  generalize ((s : Int) : Rat) = t at *
  generalize (l : Rat) = a at *
  generalize (h : Rat) = b at *
  have m1 : 0 ≤ (b - a) * t := Rat.mul_nonneg (by grind) k1
  have m2 := Rat.mul_le_mul_of_nonneg_left k2 (show 0 ≤ b - a by grind)
  constructor <;> grind
theorem mul_law4 {a b c d : Int} {s t : Nat} (h1 : a ≤ b) (h2 : c ≤ d) (hs : s < 256) (ht : t < 256) (e : (!(mulI (a, b) (c, d)).isSome) = false) :
    inR ((mulI (a, b) (c, d)).getD (0, 0)).1 ((mulI (a, b) (c, d)).getD (0, 0)).2 (btwR a b s * btwR c d t) = true := by
  cases h : mulI (a, b) (c, d) with
  | none => rw [h] at e; cases e
  | some p => exact in_con (con_mul h (con_btw h1 hs) (con_btw h2 ht))
theorem con_sqrt {x p : Int × Int} {q : Rat} (e : sqrtI x = some p) (hx : con x q) (h0 : 0 ≤ q) :
    (p.1 : Rat) * (p.1 : Rat) ≤ q * (65536 * 65536) ∧ q * (65536 * 65536) ≤ (p.2 : Rat) * (p.2 : Rat) ∧ 0 ≤ p.1 ∧ p.1 ≤ p.2 := by
  unfold sqrtI at e
  split at e
  · cases e
  · rename_i g
    have := mkI_some e
    subst this
    unfold con at hx
    obtain ⟨h1, h2⟩ := hx
    have hle : max x.1 0 ≤ x.2 := by
      have : ((x.1 : Int) : Rat) ≤ (x.2 : Rat) := Rat.le_trans h1 h2
      have := Rat.intCast_le_intCast.1 this
      omega
    have r1 := rt_ok (n := max x.1 0) (by omega)
    have r2 := rtU_ok (n := x.2) (by omega)
    have r3 := rt_mono (l := max x.1 0) (h := x.2) (by omega) hle
    have hm : ((max x.1 0 : Int) : Rat) ≤ q * 65536 := by
      rcases Int.le_total x.1 0 with h | h
      · rw [show max x.1 0 = 0 by omega]; have : ((0 : Int) : Rat) = 0 := rfl; rw [this]; grind
      · rw [show max x.1 0 = x.1 by omega]; exact h1
    have k1 := Rat.intCast_le_intCast.2 r1.2.1
    have k2 := Rat.intCast_le_intCast.2 r2.2.2
    rw [Rat.intCast_mul, Rat.intCast_mul, c65] at k1 k2
    refine ⟨by simp only; grind, by simp only; grind, r1.1, by simp only; omega⟩
theorem sqrt_law {a b : Int} {s : Nat} (h1 : a ≤ b) (hs : s < 256) (e : (!(sqrtI (a, b)).isSome) = false) (h0 : ¬sgnR (btwR a b s) < 0) :
    cmpR ((((sqrtI (a, b)).getD (0, 0)).1 : Rat) * (((sqrtI (a, b)).getD (0, 0)).1 : Rat)) (btwR a b s * (((65536 : Int) : Rat) * ((65536 : Int) : Rat))) ≤ 0 ∧
    cmpR (btwR a b s * (((65536 : Int) : Rat) * ((65536 : Int) : Rat))) ((((sqrtI (a, b)).getD (0, 0)).2 : Rat) * (((sqrtI (a, b)).getD (0, 0)).2 : Rat)) ≤ 0 := by
  rw [cmpR_le0, cmpR_le0, c65]
  rw [sgnR_lt0] at h0
  cases h : sqrtI (a, b) with
  | none => rw [h] at e; cases e
  | some p =>
    have := con_sqrt h (con_btw h1 hs) (by grind)
    exact ⟨this.1, this.2.1⟩
theorem rz_sq {a : Int} (h1 : -2305843009213693952 ≤ a) (h2 : a ≤ 2305843009213693952) : rz (a : Rat) ≤ 4 ∧ rz ((a : Rat) * (a : Rat)) ≤ 8 := by
  have := rz_i a (by omega) (by omega)
  have := rz_mul (a : Rat) (a : Rat)
  omega
theorem rz_kk (q : Rat) : rz (((65536 : Int) : Rat) * ((65536 : Int) : Rat)) ≤ 8 ∧ rz (q * (((65536 : Int) : Rat) * ((65536 : Int) : Rat))) ≤ rz q + 8 := by
  have := rz_k
  have := rz_mul ((65536 : Int) : Rat) ((65536 : Int) : Rat)
  have := rz_mul q (((65536 : Int) : Rat) * ((65536 : Int) : Rat))
  omega
end Go.Sw

namespace Go.Sw
open Go
set_option linter.unusedVariables false
def sub (x y : Int × Int) : Prop := x.1 ≤ y.1 ∧ y.1 ≤ y.2 ∧ y.2 ≤ x.2
theorem con_int {x : Int × Int} {n : Int} (h1 : x.1 ≤ n) (h2 : n ≤ x.2) : con x ((n : Rat) * (1 / 65536)) := by
  have k1 := Rat.intCast_le_intCast.2 h1
  have k2 := Rat.intCast_le_intCast.2 h2
  unfold con
  constructor <;> grind
theorem mul_in {x y p : Int × Int} {m n : Int} (e : mulI x y = some p) (h1 : x.1 ≤ m) (h2 : m ≤ x.2) (h3 : y.1 ≤ n) (h4 : n ≤ y.2) : p.1 ≤ dnP m n ∧ upP m n ≤ p.2 := by
  have ⟨k1, k2⟩ := con_mul e (con_int h1 h2) (con_int h3 h4)
  have a1 : ((p.1 * 65536 : Int) : Rat) ≤ ((m * n : Int) : Rat) := by rw [Rat.intCast_mul, Rat.intCast_mul, c65]; grind
  have a2 : ((m * n : Int) : Rat) ≤ ((p.2 * 65536 : Int) : Rat) := by rw [Rat.intCast_mul, Rat.intCast_mul, c65]; grind
  have b1 := Rat.intCast_le_intCast.1 a1
  have b2 := Rat.intCast_le_intCast.1 a2
  unfold dnP upP
  constructor <;> omega
theorem mkI_of {l h L H : Int} (h1 : L ≤ l) (h2 : h ≤ H) (e : ¬mkI L H = none) : mkI l h = some (l, h) := by
  unfold mkI at *
  split at e
  · exact if_pos (by omega)
  · exact absurd rfl e
theorem part_add {x y u v p : Int × Int} (hx : sub x u) (hy : sub y v) (e : addI x y = some p) : ∃ q, addI u v = some q ∧ p.1 ≤ q.1 ∧ q.2 ≤ p.2 := by
  have := mkI_some e
  subst this
  unfold sub at *
  exact ⟨_, mkI_of (L := x.1 + y.1) (H := x.2 + y.2) (by omega) (by omega) (by unfold addI at e; rw [e]; simp), by simp only; omega, by simp only; omega⟩
theorem part_mul {x y u v p : Int × Int} (hx : sub x u) (hy : sub y v) (e : mulI x y = some p) : ∃ q, mulI u v = some q ∧ p.1 ≤ q.1 ∧ q.2 ≤ p.2 := by
  unfold sub at *
  have m1 := mul_in (m := u.1) (n := v.1) e (by omega) (by omega) (by omega) (by omega)
  have m2 := mul_in (m := u.1) (n := v.2) e (by omega) (by omega) (by omega) (by omega)
  have m3 := mul_in (m := u.2) (n := v.1) e (by omega) (by omega) (by omega) (by omega)
  have m4 := mul_in (m := u.2) (n := v.2) e (by omega) (by omega) (by omega) (by omega)
  have hp := mkI_some e
  refine ⟨_, mkI_of (L := p.1) (H := p.2) (by omega) (by omega) ?_, by simp only; omega, by simp only; omega⟩
  rw [hp] at e ⊢
  unfold mulI at e
  rw [e]; simp
theorem part_sqrt {x u p : Int × Int} (hx : sub x u) (e : sqrtI x = some p) : u.2 < 0 ∨ ∃ q, sqrtI u = some q ∧ p.1 ≤ q.1 ∧ q.2 ≤ p.2 := by
  by_cases h0 : u.2 < 0
  · exact .inl h0
  right
  unfold sub at hx
  unfold sqrtI at *
  split at e
  · cases e
  · have hp := mkI_some e
    subst hp
    rw [if_neg h0]
    have r1 := rt_mono (l := max x.1 0) (h := max u.1 0) (by omega) (by omega)
    have r2 : rtU u.2 ≤ rtU x.2 := by
      have a1 := rt_ok (n := u.2) (by omega)
      have a2 := rtU_ok (n := u.2) (by omega)
      have a3 := rtU_ok (n := x.2) (by omega)
      have a4 := rt_mono (l := u.2) (h := x.2) (by omega) (by omega)
      apply Decidable.byContradiction
      intro hc
      have hr : rtU u.2 = rt u.2 + 1 := by omega
      have hx2 : rtU x.2 = rt u.2 := by omega
      rw [hx2] at a3
      have : rt u.2 * rt u.2 = u.2 * 65536 := by omega
      unfold rtU at hr
      rw [if_pos this] at hr
      omega
    exact ⟨_, mkI_of r1 r2 (by rw [e]; simp), r1, r2⟩
theorem partI_sub {a b : Int} (h : a ≤ b) (u v : Nat) : sub (a, b) (partI a b u v) := by
  unfold sub partI; split <;> simp only <;> omega
def wOk (o o' : Option (Int × Int)) : Prop := o'.isSome = true ∧ (o.getD (0, 0)).1 ≤ (o'.getD (0, 0)).1 ∧ (o'.getD (0, 0)).2 ≤ (o.getD (0, 0)).2
theorem pA {x y u v : Int × Int} (hx : sub x u) (hy : sub y v) (h : (addI x y).isSome = true) : wOk (addI x y) (addI u v) := by
  obtain ⟨p, e⟩ := Option.isSome_iff_exists.1 h
  obtain ⟨q, k, h1, h2⟩ := part_add hx hy e
  rw [e, k]; exact ⟨rfl, h1, h2⟩
theorem pM {x y u v : Int × Int} (hx : sub x u) (hy : sub y v) (h : (mulI x y).isSome = true) : wOk (mulI x y) (mulI u v) := by
  obtain ⟨p, e⟩ := Option.isSome_iff_exists.1 h
  obtain ⟨q, k, h1, h2⟩ := part_mul hx hy e
  rw [e, k]; exact ⟨rfl, h1, h2⟩
theorem pS {x u : Int × Int} (hx : sub x u) (h : (sqrtI x).isSome = true) (hn : ¬u.2 < 0) : wOk (sqrtI x) (sqrtI u) := by
  obtain ⟨p, e⟩ := Option.isSome_iff_exists.1 h
  obtain ⟨q, k, h1, h2⟩ := (part_sqrt hx e).resolve_left hn
  rw [e, k]; exact ⟨rfl, h1, h2⟩
theorem sqN {u : Int × Int} (h : (sqrtI u).isSome = true) : ¬u.2 < 0 := by
  intro hn; unfold sqrtI at h; rw [if_pos hn] at h; cases h
end Go.Sw

namespace Go.Sw
open Go
set_option linter.unusedVariables false
theorem con_from {a : Rat} {x : Int × Int} (e : fromR a = some x) : con x a := by
  have := mkI_some e
  subst this
  unfold con upR
  rw [c65]
  simp only
  refine ⟨Rat.floor_le _, ?_⟩
  have := Rat.floor_le (-(a * 65536))
  rw [Rat.intCast_neg]
  grind
theorem con_neg {x : Int × Int} {q : Rat} (h : con x q) : con (-x.2, -x.1) (-q) := by
  unfold con at *
  simp only [Rat.intCast_neg]
  constructor <;> grind
theorem con_sgn {p : Int × Int} {q : Rat} {n : Int} (h : sgIv p.1 p.2 = (n, true)) (hq : con p q) : sgnR q = n := by
  obtain ⟨h1, h2⟩ := hq
  unfold sgIv at h
  have z : ((0 : Int) : Rat) = 0 := rfl
  split at h
  · rename_i g
    injection h with h3 h4
    subst h3
    have := Rat.intCast_lt_intCast.2 g
    rw [z] at this
    exact sgnR_eq1.2 (by grind)
  · split at h
    · rename_i g
      injection h with h3 h4
      subst h3
      have := Rat.intCast_lt_intCast.2 g
      rw [z] at this
      have hq : q < 0 := by grind
      unfold sgnR; rw [if_pos hq]
    · injection h with h3 h4
      subst h3
      have g := of_decide_eq_true h4
      rw [g.1, z] at h1
      rw [g.2, z] at h2
      exact sgnR_eq0.2 (by grind)
theorem sgn_cases (q : Rat) : (q < 0 ∧ sgnR q = -1) ∨ (q = 0 ∧ sgnR q = 0) ∨ (0 < q ∧ sgnR q = 1) := by
  unfold sgnR
  by_cases h1 : q < 0
  · rw [if_pos h1]; exact .inl ⟨h1, rfl⟩
  · rw [if_neg h1]
    by_cases h2 : q = 0
    · rw [if_pos h2]; exact .inr (.inl ⟨h2, rfl⟩)
    · rw [if_neg h2]; exact .inr (.inr ⟨by grind, rfl⟩)
theorem sq_lt {x y : Rat} (h0 : 0 ≤ x) (h : x < y) : x * x < y * y := by
  have a1 := Rat.mul_le_mul_of_nonneg_left (Rat.le_of_lt h) h0
  have a2 := Rat.mul_lt_mul_of_pos_right h (show 0 < y by grind)
  grind
theorem sq_nn (x : Rat) : 0 ≤ x * x := by
  rcases Rat.le_total (a := 0) (b := x) with h | h
  · exact Rat.mul_nonneg h h
  · have := Rat.mul_nonneg (show 0 ≤ -x by grind) (show 0 ≤ -x by grind); grind
theorem cmpR_1 {a b : Rat} (h : b < a) : cmpR a b = 1 := by unfold cmpR; rw [if_neg (by grind), if_pos h]
theorem cmpR_m {a b : Rat} (h : a < b) : cmpR a b = -1 := by unfold cmpR; rw [if_pos h]
theorem cmpR_z {a b : Rat} (h : a = b) : cmpR a b = 0 := cmpR_eq0.2 h
theorem exI_sgn {A B C s1 s2 : Rat} {n : Int} (p1 : 0 ≤ s1) (p2 : s1 ≤ s2) (q1 : s1 * s1 ≤ C) (q2 : C ≤ s2 * s2) (h1 : sgnR (A + B * s1) = n) (h2 : sgnR (A + B * s2) = n) : exI A B C = n := by
  have hC : 0 ≤ C := Rat.le_trans (sq_nn s1) q1
  have bb := sq_nn B
  have m1 : B * B * (s1 * s1) ≤ B * B * C := Rat.mul_le_mul_of_nonneg_left q1 bb
  have m2 : B * B * C ≤ B * B * (s2 * s2) := Rat.mul_le_mul_of_nonneg_left q2 bb
  have p3 : 0 ≤ s2 := Rat.le_trans p1 p2
  unfold exI
  rcases sgn_cases C with ⟨c1, c2⟩ | ⟨c1, c2⟩ | ⟨c1, c2⟩
  · grind
  · rw [c2, Int.mul_zero, if_pos (.inr rfl)]
    have : s1 = 0 := by
      rcases sgn_cases s1 with ⟨k, _⟩ | ⟨k, _⟩ | ⟨k, _⟩
      · grind
      · exact k
      · have := Rat.mul_pos k k; grind
    subst this
    rw [← h1]; congr 1; grind
  · have p4 : 0 < s2 := by
      rcases sgn_cases s2 with ⟨k, _⟩ | ⟨k, _⟩ | ⟨k, _⟩
      · grind
      · subst k; grind
      · exact k
    rw [c2, Int.mul_one]
    rcases sgn_cases B with ⟨b1, b2⟩ | ⟨b1, b2⟩ | ⟨b1, b2⟩ <;> rcases sgn_cases A with ⟨a1, a2⟩ | ⟨a1, a2⟩ | ⟨a1, a2⟩ <;> rw [a2, b2]
    · have k := Rat.mul_nonneg (show 0 ≤ -B by grind) p1
      have : A + B * s1 < 0 := by grind
      rw [← h1]; unfold sgnR; rw [if_pos this]; rfl
    · have k := Rat.mul_pos (show 0 < -B by grind) p4
      have : A + B * s2 < 0 := by grind
      rw [← h2]; unfold sgnR; rw [if_pos this]; rfl
    · have k1 := Rat.mul_nonneg (show 0 ≤ -B by grind) p1
      have k2 := Rat.mul_nonneg (show 0 ≤ -B by grind) p3
      rcases sgn_cases (A + B * s1) with ⟨u1, u2⟩ | ⟨u1, u2⟩ | ⟨u1, u2⟩
      · rw [h1] at u2; subst u2
        have := sq_lt (x := A) (y := -B * s1) (by grind) (by grind)
        rw [cmpR_m (by grind)]; rfl
      · rw [h1] at u2; subst u2
        have v := sgnR_eq0.1 h2
        have e : A * A = B * B * (s1 * s1) := by have : A = -B * s1 := by grind
                                                 subst this; grind
        have e2 : A * A = B * B * (s2 * s2) := by have : A = -B * s2 := by grind
                                                  subst this; grind
        rw [cmpR_z (by grind)]; rfl
      · rw [h1] at u2; subst u2
        have v := sgnR_eq1.1 h2
        have := sq_lt (x := -B * s2) (y := A) (by grind) (by grind)
        rw [cmpR_1 (by grind)]; rfl
    · subst b1
      rw [← h1]
      have : A + 0 * s1 = A := by grind
      rw [this, a2]; rfl
    · subst b1
      rw [← h1]
      have : A + 0 * s1 = A := by grind
      rw [this, a2]; rfl
    · subst b1
      rw [← h1]
      have : A + 0 * s1 = A := by grind
      rw [this, a2]; rfl
    · have k1 := Rat.mul_nonneg (show 0 ≤ B by grind) p1
      have k2 := Rat.mul_nonneg (show 0 ≤ B by grind) p3
      rcases sgn_cases (A + B * s1) with ⟨u1, u2⟩ | ⟨u1, u2⟩ | ⟨u1, u2⟩
      · rw [h1] at u2; subst u2
        have v : A + B * s2 < 0 := by
          rcases sgn_cases (A + B * s2) with ⟨t1, t2⟩ | ⟨t1, t2⟩ | ⟨t1, t2⟩
          · exact t1
          · rw [h2] at t2; cases t2
          · rw [h2] at t2; cases t2
        have := sq_lt (x := B * s2) (y := -A) (by grind) (by grind)
        rw [cmpR_1 (by grind)]; rfl
      · rw [h1] at u2; subst u2
        have v := sgnR_eq0.1 h2
        have e : A * A = B * B * (s1 * s1) := by have : A = -B * s1 := by grind
                                                 subst this; grind
        have e2 : A * A = B * B * (s2 * s2) := by have : A = -B * s2 := by grind
                                                  subst this; grind
        rw [cmpR_z (by grind)]; rfl
      · rw [h1] at u2; subst u2
        have := sq_lt (x := -A) (y := B * s1) (by grind) (by grind)
        rw [cmpR_m (by grind)]; rfl
    · have k := Rat.mul_pos (show 0 < B by grind) p4
      rw [← h2, sgnR_eq1.2 (by grind)]; rfl
    · have k := Rat.mul_nonneg (show 0 ≤ B by grind) p1
      rw [← h1, sgnR_eq1.2 (by grind)]; rfl
/-- What a root's interval holds: the number at each end of the square root's interval. -/
theorem root_con {a b c : Rat} {p : Int × Int} (e : rootI a b c = some p) :
    (b = 0 ∧ con p a) ∨ (0 ≤ c ∧ ∃ s1 s2 : Rat, 0 ≤ s1 ∧ s1 ≤ s2 ∧ s1 * s1 ≤ c ∧ c ≤ s2 * s2 ∧ (∃ w z, fromR c = some z ∧ sqrtI z = some w ∧ s1 = (w.1 : Rat) * (1 / 65536) ∧ s2 = (w.2 : Rat) * (1 / 65536)) ∧ con p (a + b * s1) ∧ con p (a + b * s2)) := by
  unfold rootI at e
  cases ha : fromR a with
  | none => rw [ha] at e; cases e
  | some x =>
    rw [ha] at e
    simp only at e
    by_cases hb : b = 0
    · rw [if_pos hb] at e
      injection e with e
      subst e
      exact .inl ⟨hb, con_from ha⟩
    · rw [if_neg hb] at e
      right
      cases hy : fromR b with
      | none => rw [hy] at e; cases e
      | some y =>
        cases hz : fromR c with
        | none => rw [hy, hz] at e; cases e
        | some z =>
          rw [hy, hz] at e
          simp only at e
          split at e
          · cases e
          · rename_i hc
            have h0 : 0 ≤ c := by grind
            cases hw : sqrtI z with
            | none => rw [hw] at e; cases e
            | some w =>
              rw [hw] at e
              simp only at e
              cases hp : mulI y w with
              | none => rw [hp] at e; cases e
              | some m =>
                rw [hp] at e
                simp only at e
                obtain ⟨k1, k2, k3, k4⟩ := con_sqrt hw (con_from hz) h0
                have j1 := Rat.intCast_le_intCast.2 k3
                have j2 := Rat.intCast_le_intCast.2 k4
                have z0 : ((0 : Int) : Rat) = 0 := rfl
                rw [z0] at j1
                refine ⟨h0, (w.1 : Rat) * (1 / 65536), (w.2 : Rat) * (1 / 65536), by grind, by grind, by grind, by grind, ⟨w, z, rfl, hw, rfl, rfl⟩, ?_, ?_⟩
                · exact con_add e (con_from ha) (con_mul hp (con_from hy) (con_int (by omega) (by omega)))
                · exact con_add e (con_from ha) (con_mul hp (con_from hy) (con_int (by omega) (by omega)))
theorem root_sgn {a b c : Rat} {p : Int × Int} {n : Int} (e : rootI a b c = some p) (h : sgIv p.1 p.2 = (n, true)) : (b = 0 → n = sgnR a) ∧ (¬b = 0 → n = exI a b c) := by
  rcases root_con e with ⟨hb, k⟩ | ⟨h0, s1, s2, p1, p2, q1, q2, _, k1, k2⟩
  · exact ⟨fun _ => (con_sgn h k).symm, fun hn => absurd hb hn⟩
  · refine ⟨fun hb => ?_, fun _ => (exI_sgn p1 p2 q1 q2 (con_sgn h k1) (con_sgn h k2)).symm⟩
    subst hb
    rw [← con_sgn h k1]
    congr 1; grind
theorem exI_zero {a c : Rat} : exI a 0 c = sgnR a := by
  unfold exI
  have : sgnR 0 = 0 := sgnR_eq0.2 rfl
  rw [this, Int.zero_mul, if_pos (.inr rfl)]
theorem side_sgn {la lb lc ax bx ay bb c : Rat} {n : Int} (h : sideI la lb lc ax bx ay bb c = (n, true)) : exI (la * ax + lb * ay - lc) (la * bx + lb * bb) c = n := by
  unfold sideI prodI at h
  cases h1 : rootI ax bx c with
  | none => rw [h1] at h; cases hl : fromR la <;> rw [hl] at h <;> simp at h
  | some r1 =>
    cases h2 : rootI ay bb c with
    | none => rw [h1, h2] at h; cases hl : fromR la <;> cases hm : fromR lb <;> rw [hl, hm] at h <;> simp at h <;> (split at h <;> simp at h)
    | some r2 =>
      rw [h1, h2] at h
      cases h3 : fromR la with
      | none => rw [h3] at h; simp at h
      | some x =>
        cases h4 : fromR lb with
        | none => rw [h3, h4] at h; simp at h
        | some y =>
          rw [h3, h4] at h
          simp only at h
          cases h5 : mulI x r1 with
          | none => rw [h5] at h; simp at h
          | some m1 =>
            cases h6 : mulI y r2 with
            | none => rw [h5, h6] at h; simp at h
            | some m2 =>
              cases h7 : fromR lc with
              | none => rw [h5, h6, h7] at h; simp at h
              | some z =>
                rw [h5, h6, h7] at h
                simp only at h
                cases h8 : addI m1 m2 with
                | none => rw [h8] at h; simp at h
                | some s =>
                  rw [h8] at h
                  simp only at h
                  cases h9 : addI s (-z.2, -z.1) with
                  | none => rw [h9] at h; simp at h
                  | some t =>
                    rw [h9] at h
                    simp only at h
                    have key : ∀ u v : Rat, con r1 u → con r2 v → sgnR (la * u + lb * v - lc) = n := fun u v hu hv => by
                      have := con_add h9 (con_add h8 (con_mul h5 (con_from h3) hu) (con_mul h6 (con_from h4) hv)) (con_neg (con_from h7))
                      rw [← con_sgn h this]
                      congr 1
                      grind
                    rcases root_con h1 with ⟨b1, k1⟩ | ⟨h0, s1, s2, p1, p2, q1, q2, ⟨w, z', e1, e2, e3, e4⟩, k1, k2⟩ <;> rcases root_con h2 with ⟨b2, j1⟩ | ⟨h0', t1, t2, p1', p2', q1', q2', ⟨w', z'', e1', e2', e3', e4'⟩, j1, j2⟩
                    · have e : la * bx + lb * bb = 0 := by rw [b1, b2]; grind
                      rw [e, exI_zero]
                      exact key _ _ k1 j1
                    · refine exI_sgn p1' p2' q1' q2' ?_ ?_
                      · rw [← key _ _ k1 j1, b1]; congr 1; grind
                      · rw [← key _ _ k1 j2, b1]; congr 1; grind
                    · refine exI_sgn p1 p2 q1 q2 ?_ ?_
                      · rw [← key _ _ k1 j1, b2]; congr 1; grind
                      · rw [← key _ _ k2 j1, b2]; congr 1; grind
                    · rw [e1] at e1'
                      injection e1' with e1'
                      subst e1'
                      rw [e2] at e2'
                      injection e2' with e2'
                      subst e2'
                      subst e3 e4 e3' e4'
                      refine exI_sgn p1 p2 q1 q2 ?_ ?_
                      · rw [← key _ _ k1 j1]; congr 1; grind
                      · rw [← key _ _ k2 j2]; congr 1; grind
end Go.Sw

namespace Go.Sw
open Go
set_option linter.unusedVariables false
theorem root_n {a b c : Rat} (h1 : (!(rootI a b c).isSome) = false) (h2 : (!(sgIv ((rootI a b c).getD (0, 0)).1 ((rootI a b c).getD (0, 0)).2).2) = false) :
    (sgnR b = 0 → (sgIv ((rootI a b c).getD (0, 0)).1 ((rootI a b c).getD (0, 0)).2).1 = sgnR a) ∧ (¬sgnR b = 0 → (sgIv ((rootI a b c).getD (0, 0)).1 ((rootI a b c).getD (0, 0)).2).1 = exI a b c) := by
  cases h : rootI a b c with
  | none => rw [h] at h1; simp at h1
  | some p =>
    rw [h] at h2
    simp only [Option.getD_some] at h2 ⊢
    obtain ⟨k1, k2⟩ := root_sgn (n := (sgIv p.1 p.2).1) h (by
      have : (sgIv p.1 p.2).2 = true := by simpa using h2
      exact Prod.ext rfl this)
    exact ⟨fun e => k1 (sgnR_eq0.1 e), fun e => k2 fun e' => e (sgnR_eq0.2 e')⟩
theorem side_n {la lb lc ax bx ay bb c : Rat} (h2 : (!(sideI la lb lc ax bx ay bb c).2) = false) : (sideI la lb lc ax bx ay bb c).1 = exI (la * ax + lb * ay - lc) (la * bx + lb * bb) c :=
  (side_sgn (n := (sideI la lb lc ax bx ay bb c).1) (Prod.ext rfl (by simpa using h2))).symm
theorem okr_get {k : Int} {n1 : Bool} {l1 : List Nat} {n2 : Bool} {l2 : List Nat} (h : okr k (n1, l1, n2, l2) = true) : ∃ q : Rat, n1 = decide (q.num < 0) ∧ l1 = lim q.num.natAbs ∧ n2 = decide ((q.den : Int) < 0) ∧ l2 = lim (q.den : Int).natAbs ∧ rz q ≤ 2 * k.toNat ∧ okr k (decide (q.num < 0), lim q.num.natAbs, decide ((q.den : Int) < 0), lim (q.den : Int).natAbs) = true := by
  rcases okr_cases k n1 l1 n2 l2 with h' | h'
  · rw [h] at h'; cases h'
  · exact h'
end Go.Sw

namespace Go.Sw
open Go
set_option linter.unusedVariables false
/-- Bounds of the size of a number, found by its form. -/
class RzB (q : Rat) (n : outParam Nat) : Prop where
  h : rz q ≤ n
theorem rzb {q : Rat} {n N : Nat} [k : RzB q n] (h : n ≤ N) : rz q ≤ N := Nat.le_trans k.h h
instance {a b : Rat} {m n : Nat} [h : RzB a m] [k : RzB b n] : RzB (a + b) (2 * (m + n) + 1) := ⟨by have := rz_add a b; have := h.h; have := k.h; omega⟩
instance {a b : Rat} {m n : Nat} [h : RzB a m] [k : RzB b n] : RzB (a - b) (2 * (m + n) + 1) := ⟨by have := rz_sub a b; have := h.h; have := k.h; omega⟩
instance {a b : Rat} {m n : Nat} [h : RzB a m] [k : RzB b n] : RzB (a * b) (m + n) := ⟨by have := rz_mul a b; have := h.h; have := k.h; omega⟩
instance {a : Rat} {m : Nat} [h : RzB a m] : RzB (-a) m := ⟨by rw [rz_neg]; exact h.h⟩
/-! ### Two numbers around a root -/
theorem bet_sgn {A B C t m : Rat} {n : Int} (h0 : 0 ≤ t) (h1 : t * t ≤ C) (h2 : 0 ≤ m) (h3 : C ≤ m * m) (k1 : sgnR (A + B * t) = n) (k2 : sgnR (A + B * m) = n) : exI A B C = n := by
  have htm : t ≤ m := by
    rcases Rat.le_total (a := t) (b := m) with h | h
    · exact h
    · rcases Rat.le_total (a := m) (b := t) with h' | h'
      · by_cases e : m = t
        · grind
        · have := sq_lt h2 (show m < t by grind)
          grind
      · exact h'
  exact exI_sgn h0 htm h1 h3 k1 k2
/-- A value between two numbers of one sign. -/
theorem sgn_mix {x y l : Rat} {n : Int} (h0 : 0 ≤ l) (h1 : l ≤ 1) (hx : sgnR x = n) (hy : sgnR y = n) : sgnR (x + l * (y - x)) = n := by
  have e : x + l * (y - x) = (1 - l) * x + l * y := by grind
  rw [e]
  rcases sgn_cases x with ⟨a1, a2⟩ | ⟨a1, a2⟩ | ⟨a1, a2⟩ <;> rcases sgn_cases y with ⟨b1, b2⟩ | ⟨b1, b2⟩ | ⟨b1, b2⟩ <;> rw [a2] at hx <;> rw [b2] at hy <;> subst hx <;> (try (exfalso; omega))
  · have p1 := Rat.mul_nonneg (show 0 ≤ 1 - l by grind) (show 0 ≤ -x by grind)
    have p2 := Rat.mul_nonneg h0 (show 0 ≤ -y by grind)
    have : (1 - l) * x + l * y < 0 := by
      by_cases hl : l = 0
      · subst hl; grind
      · have := Rat.mul_pos (show 0 < l by grind) (show 0 < -y by grind)
        grind
    unfold sgnR; rw [if_pos this]
  · subst a1 b1; rw [Rat.mul_zero, Rat.mul_zero]; exact sgnR_eq0.2 (by grind)
  · have p1 := Rat.mul_nonneg (show 0 ≤ 1 - l by grind) (show 0 ≤ x by grind)
    have p2 := Rat.mul_nonneg h0 (show 0 ≤ y by grind)
    have : 0 < (1 - l) * x + l * y := by
      by_cases hl : l = 0
      · subst hl; grind
      · have := Rat.mul_pos (show 0 < l by grind) b1
        grind
    exact sgnR_eq1.2 this
theorem mul_le_can {x y k : Rat} (hk : 0 < k) (h : x * k ≤ y * k) : x ≤ y := by
  rcases Rat.le_total (a := x) (b := y) with h' | h'
  · exact h'
  · by_cases e : x = y
    · grind
    · have := Rat.mul_pos (show 0 < x - y by grind) hk; grind
theorem mul_can {x y k : Rat} (hk : 0 < k) (h : x * k = y * k) : x = y := by
  have h1 := mul_le_can hk (show x * k ≤ y * k by grind)
  have h2 := mul_le_can hk (show y * k ≤ x * k by grind)
  grind
theorem sgn_mix' {x y z s t u : Rat} {n : Int} (h1 : s ≤ u) (h2 : u ≤ t) (hz : z * (t - s) = x * (t - u) + y * (u - s)) (hx : sgnR x = n) (hy : sgnR y = n) (h3 : s < t) : sgnR z = n := by
  obtain ⟨l, hl⟩ : ∃ l, l * (t - s) = u - s := ⟨(u - s) / (t - s), (by have hne : t - s ≠ 0 := (by grind); grind)⟩
  have hk : 0 < t - s := by grind
  have e : z = x + l * (y - x) := mul_can hk (by grind)
  rw [e]
  refine sgn_mix (mul_le_can hk (by grind)) (mul_le_can hk (by grind)) hx hy
/-- The sign of a square's sum over the numbers around a root is its sign at the root. -/
theorem quad_sgn {P X W C s t : Rat} {n : Int} (h0 : 0 ≤ s) (h1 : s ≤ t) (h2 : s * s ≤ C) (h3 : C ≤ t * t) (hW : 0 ≤ W)
    (k1 : sgnR (P + 2 * X * s + W * (s * s)) = n) (k2 : sgnR (P + X * (s + t) + W * (s * t)) = n) (k3 : sgnR (P + 2 * X * t + W * (t * t)) = n) : exI (P + W * C) (2 * X) C = n := by
  by_cases hst : s = t
  · subst hst
    have hC : C = s * s := by grind
    subst hC
    refine exI_sgn h0 (Rat.le_refl) (Rat.le_refl) (Rat.le_refl) ?_ ?_ <;> rw [← k1] <;> congr 1 <;> grind
  · have hlt : s < t := by grind
    have ht : 0 < t := by grind
    have hsum : 0 < s + t := by grind
    -- the lower number
    have hs0 : s + t ≠ 0 := by grind
    obtain ⟨t0, e0⟩ : ∃ t0, t0 * (s + t) = C + s * t := ⟨(C + s * t) / (s + t), by grind⟩
    have q1 := Rat.mul_nonneg (show 0 ≤ t - s by grind) h0
    have l1 : s ≤ t0 := by
      rcases Rat.le_total (a := s) (b := t0) with h | h
      · exact h
      · by_cases e : s = t0
        · grind
        · have := Rat.mul_pos (show 0 < s - t0 by grind) hsum; grind
    have l2 : t0 ≤ t := by
      rcases Rat.le_total (a := t0) (b := t) with h | h
      · exact h
      · by_cases e : t = t0
        · grind
        · have := Rat.mul_pos (show 0 < t0 - t by grind) hsum; grind
    have l3 : t0 * t0 ≤ C := by
      have := Rat.mul_nonneg (show 0 ≤ t0 - s by grind) (show 0 ≤ t - t0 by grind)
      grind
    have m0 : sgnR (P + W * C + 2 * X * t0) = n := sgn_mix' l1 l2 (by grind) k1 k3 hlt
    -- the upper number: t1 t2 = C, both between s and t
    have up : ∃ m, 0 ≤ m ∧ C ≤ m * m ∧ sgnR (P + W * C + 2 * X * m) = n := by
      rcases Rat.le_total (a := s * t) (b := C) with h | h
      · -- t1 = C / t, t2 = t
        have ht0 : t ≠ 0 := by grind
        obtain ⟨u, eu⟩ : ∃ u, u * t = C := ⟨C / t, by grind⟩
        have u1 : s ≤ u := by
          rcases Rat.le_total (a := s) (b := u) with h | h
          · exact h
          · by_cases e : s = u
            · grind
            · have := Rat.mul_pos (show 0 < s - u by grind) ht; grind
        have u2 : u ≤ t := by
          rcases Rat.le_total (a := u) (b := t) with h | h
          · exact h
          · by_cases e : t = u
            · grind
            · have := Rat.mul_pos (show 0 < u - t by grind) ht; grind
        refine ⟨(u + t) * (1 / 2), by grind, ?_, ?_⟩
        · have := sq_nn (t - u); grind
        · have := sgn_mix' (z := P + X * (u + t) + W * (u * t)) u1 u2 (by grind) k2 k3 hlt
          rw [← this]; congr 1; grind
      · -- t1 = s, t2 = C / s
        by_cases hs : s = 0
        · subst hs
          have hC : C = 0 := by grind
          subst hC
          refine ⟨0, Rat.le_refl, by grind, ?_⟩
          rw [← k1]; congr 1; grind
        · have hs1 : 0 < s := by grind
          obtain ⟨u, eu⟩ : ∃ u, s * u = C := ⟨C / s, by grind⟩
          have u1 : s ≤ u := by
            rcases Rat.le_total (a := s) (b := u) with h | h
            · exact h
            · by_cases e : s = u
              · grind
              · have := Rat.mul_pos (show 0 < s - u by grind) hs1; grind
          have u2 : u ≤ t := by
            rcases Rat.le_total (a := u) (b := t) with h | h
            · exact h
            · by_cases e : t = u
              · grind
              · have := Rat.mul_pos (show 0 < u - t by grind) hs1; grind
          refine ⟨(s + u) * (1 / 2), by grind, ?_, ?_⟩
          · have := sq_nn (u - s); grind
          · have := sgn_mix' (z := P + X * (s + u) + W * (s * u)) u1 u2 (by grind) k1 k2 hlt
            rw [← this]; congr 1; grind
    obtain ⟨m, m1, m2, m3⟩ := up
    exact bet_sgn (Rat.le_trans h0 l1) l3 m1 m2 m0 m3
/-! ### The power of a point, by intervals -/
def negI (x : Int × Int) : Int × Int := (-x.2, -x.1)
def distI (a b c f : Rat) : Option (Int × Int) :=
  match rootI a b c, fromR f with
  | some x, some y => addI x (-y.2, -y.1)
  | _, _ => none
def quickI (ax bx ay bb c X Y Q : Rat) : Int × Bool :=
  match distI ax bx c X, distI ay bb c Y, fromR Q with
  | some x, some y, some q => (match mulI x x, mulI y y with
    | some s, some t => (match addI s t with
      | some u => (match addI u (-q.2, -q.1) with
        | some r => sgIv r.1 r.2
        | none => (0, false))
      | none => (0, false))
    | _, _ => (0, false))
  | _, _, _ => (0, false)
def rootSq (c s1 s2 : Rat) : Prop := 0 ≤ c ∧ 0 ≤ s1 ∧ s1 ≤ s2 ∧ s1 * s1 ≤ c ∧ c ≤ s2 * s2 ∧ ∃ w z, fromR c = some z ∧ sqrtI z = some w ∧ s1 = (w.1 : Rat) * (1 / 65536) ∧ s2 = (w.2 : Rat) * (1 / 65536)
theorem rootSq_eq {c s1 s2 t1 t2 : Rat} (h : rootSq c s1 s2) (k : rootSq c t1 t2) : s1 = t1 ∧ s2 = t2 := by
  obtain ⟨_, _, _, _, _, w, z, e1, e2, e3, e4⟩ := h
  obtain ⟨_, _, _, _, _, w', z', e1', e2', e3', e4'⟩ := k
  rw [e1] at e1'
  injection e1' with e1'
  subst e1'
  rw [e2] at e2'
  injection e2' with e2'
  subst e2'
  exact ⟨e3.trans e3'.symm, e4.trans e4'.symm⟩
theorem dist_con {a b c f : Rat} {p : Int × Int} (e : distI a b c f = some p) : (b = 0 ∧ con p (a - f)) ∨ ∃ s1 s2, rootSq c s1 s2 ∧ con p (a - f + b * s1) ∧ con p (a - f + b * s2) := by
  unfold distI at e
  cases h1 : rootI a b c with
  | none => rw [h1] at e; cases e
  | some x =>
    cases h2 : fromR f with
    | none => rw [h1, h2] at e; cases e
    | some y =>
      rw [h1, h2] at e
      simp only at e
      have k0 := con_neg (con_from h2)
      rcases root_con h1 with ⟨hb, k⟩ | ⟨h0, s1, s2, p1, p2, q1, q2, ⟨w, z, e1, e2, e3, e4⟩, k1, k2⟩
      · refine .inl ⟨hb, ?_⟩
        have := con_add e k k0
        rwa [show a + -f = a - f by grind] at this
      · refine .inr ⟨s1, s2, ⟨h0, p1, p2, q1, q2, w, z, e1, e2, e3, e4⟩, ?_, ?_⟩
        · have := con_add e k1 k0
          rwa [show a + b * s1 + -f = a - f + b * s1 by grind] at this
        · have := con_add e k2 k0
          rwa [show a + b * s2 + -f = a - f + b * s2 by grind] at this
theorem quick_sgn {ax bx ay bb c X Y Q : Rat} {n : Int} (h : quickI ax bx ay bb c X Y Q = (n, true)) :
    exI ((ax - X) * (ax - X) + (ay - Y) * (ay - Y) + c * (bx * bx + bb * bb) - Q) ((ax - X) * bx + (ay - Y) * bb + ((ax - X) * bx + (ay - Y) * bb)) c = n := by
  unfold quickI at h
  cases h1 : distI ax bx c X with
  | none => rw [h1] at h; simp at h
  | some x =>
    cases h2 : distI ay bb c Y with
    | none => rw [h1, h2] at h; simp at h
    | some y =>
      cases h3 : fromR Q with
      | none => rw [h1, h2, h3] at h; simp at h
      | some q =>
        rw [h1, h2, h3] at h
        simp only at h
        cases h4 : mulI x x with
        | none => rw [h4] at h; simp at h
        | some s =>
          cases h5 : mulI y y with
          | none => rw [h4, h5] at h; simp at h
          | some t =>
            rw [h4, h5] at h
            simp only at h
            cases h6 : addI s t with
            | none => rw [h6] at h; simp at h
            | some u =>
              rw [h6] at h
              simp only at h
              cases h7 : addI u (-q.2, -q.1) with
              | none => rw [h7] at h; simp at h
              | some r =>
                rw [h7] at h
                simp only at h
                have key : ∀ u1 u2 v1 v2 : Rat, con x u1 → con x u2 → con y v1 → con y v2 → sgnR (u1 * u2 + v1 * v2 - Q) = n := fun u1 u2 v1 v2 a b c d => by
                  have := con_add h7 (con_add h6 (con_mul h4 a b) (con_mul h5 c d)) (con_neg (con_from h3))
                  rw [← con_sgn h this]; congr 1; grind
                have fin : ∀ s1 s2 : Rat, rootSq c s1 s2 → con x (ax - X + bx * s1) → con x (ax - X + bx * s2) → con y (ay - Y + bb * s1) → con y (ay - Y + bb * s2) →
                    exI ((ax - X) * (ax - X) + (ay - Y) * (ay - Y) + c * (bx * bx + bb * bb) - Q) ((ax - X) * bx + (ay - Y) * bb + ((ax - X) * bx + (ay - Y) * bb)) c = n := fun s1 s2 ⟨_, p1, p2, q1, q2, _⟩ a1 a2 b1 b2 => by
                  have w1 := sq_nn bx
                  have w2 := sq_nn bb
                  have := quad_sgn (P := (ax - X) * (ax - X) + (ay - Y) * (ay - Y) - Q) (X := (ax - X) * bx + (ay - Y) * bb) (W := bx * bx + bb * bb) (C := c) (n := n) p1 p2 q1 q2 (by grind)
                    (by rw [← key _ _ _ _ a1 a1 b1 b1]; congr 1; grind) (by rw [← key _ _ _ _ a1 a2 b1 b2]; congr 1; grind) (by rw [← key _ _ _ _ a2 a2 b2 b2]; congr 1; grind)
                  rw [← this]; congr 1 <;> grind
                rcases dist_con h1 with ⟨b1, k1⟩ | ⟨s1, s2, hs, k1, k2⟩ <;> rcases dist_con h2 with ⟨b2, j1⟩ | ⟨t1, t2, ht, j1, j2⟩
                · subst b1 b2
                  rw [show (ax - X) * 0 + (ay - Y) * 0 + ((ax - X) * 0 + (ay - Y) * 0) = (0 : Rat) by grind, exI_zero, ← key _ _ _ _ k1 k1 j1 j1]
                  congr 1; grind
                · subst b1
                  have e : ∀ s : Rat, ax - X + 0 * s = ax - X := fun s => by grind
                  exact fin t1 t2 ht (by rw [e]; exact k1) (by rw [e]; exact k1) j1 j2
                · subst b2
                  have e : ∀ s : Rat, ay - Y + 0 * s = ay - Y := fun s => by grind
                  exact fin s1 s2 hs k1 k2 (by rw [e]; exact j1) (by rw [e]; exact j1)
                · obtain ⟨rfl, rfl⟩ := rootSq_eq hs ht
                  exact fin _ _ hs k1 k2 j1 j2
end Go.Sw

namespace Go.Sw
open Go
set_option linter.unusedVariables false
def isSq (n : Int) : Bool := decide (0 ≤ n) && decide ((((isq n.natAbs : Nat) : Int)) * ((isq n.natAbs : Nat) : Int) = n)
def isSqR (a : Rat) : Bool := isSq a.num && isSq a.den
def sqR (a : Rat) : Rat := ((((isq a.num.natAbs : Nat) : Int)) : Rat) / ((((isq (a.den : Int).natAbs : Nat) : Int)) : Rat)
theorem isSq_iff {n : Int} : isSq n = true ↔ ∃ m : Nat, (m : Int) * m = n := by
  unfold isSq
  rw [Bool.and_eq_true, decide_eq_true_eq, decide_eq_true_eq]
  constructor
  · rintro ⟨_, h⟩; exact ⟨_, h⟩
  · rintro ⟨m, rfl⟩
    have e : ((m : Int) * m).natAbs = m * m := by rw [Int.natAbs_mul, Int.natAbs_natCast]
    have h : isq (m * m) = m := (isq_uniq (Nat.le_refl _) (Nat.mul_lt_mul'' (by omega) (by omega))).symm
    rw [e, h]
    exact ⟨Int.mul_nonneg (by omega) (by omega), rfl⟩
theorem sq_nat {n : Int} (h : isSq n = true) : ((isq n.natAbs : Nat) : Int) * ((isq n.natAbs : Nat) : Int) = n := by
  unfold isSq at h
  rw [Bool.and_eq_true, decide_eq_true_eq, decide_eq_true_eq] at h
  exact h.2
theorem sqR_parts {a : Rat} (h : isSqR a = true) : (sqR a).num = ((isq a.num.natAbs : Nat) : Int) ∧ ((sqR a).den : Int) = ((isq (a.den : Int).natAbs : Nat) : Int) := by
  unfold isSqR at h
  rw [Bool.and_eq_true] at h
  obtain ⟨h1, h2⟩ := h
  have e1 := sq_nat h1
  have e2 := sq_nat h2
  have hd := den_pos a
  have hp : 0 < ((isq (a.den : Int).natAbs : Nat) : Int) := by
    rcases Nat.eq_zero_or_pos (isq (a.den : Int).natAbs) with h0 | h0
    · rw [h0] at e2; simp at e2; omega
    · omega
  have hg : Nat.gcd (isq a.num.natAbs) (isq (a.den : Int).natAbs) = 1 := by
    have hc := a.reduced
    have d1 : Nat.gcd (isq a.num.natAbs) (isq (a.den : Int).natAbs) ∣ a.num.natAbs := by
      have : a.num.natAbs = isq a.num.natAbs * isq a.num.natAbs := by
        have := congrArg Int.natAbs e1; rw [Int.natAbs_mul, Int.natAbs_natCast] at this; exact this.symm
      exact Nat.dvd_trans (Nat.gcd_dvd_left _ _) ⟨_, this⟩
    have d2 : Nat.gcd (isq a.num.natAbs) (isq (a.den : Int).natAbs) ∣ a.den := by
      have : a.den = isq (a.den : Int).natAbs * isq (a.den : Int).natAbs := by
        have := congrArg Int.natAbs e2; rw [Int.natAbs_mul, Int.natAbs_natCast] at this; exact this.symm
      exact Nat.dvd_trans (Nat.gcd_dvd_right _ _) ⟨_, this⟩
    exact Nat.eq_one_of_dvd_one (hc ▸ Nat.dvd_gcd d1 d2)
  obtain ⟨q1, q2⟩ := red_pos (n := ((isq a.num.natAbs : Nat) : Int)) hp
  change Nat.gcd (((isq a.num.natAbs : Nat) : Int)).natAbs (((isq (a.den : Int).natAbs : Nat) : Int)).natAbs = 1 at hg
  rw [hg] at q1 q2
  exact ⟨by unfold sqR; rw [q1]; exact fdiv_one _, by unfold sqR; rw [q2]; exact fdiv_one _⟩
theorem sqR_nn {a : Rat} (h : isSqR a = true) : 0 ≤ sqR a := by
  have h1 := (sqR_parts h).1
  have h2 := num_lt0 (sqR a)
  rw [h1] at h2
  rcases Rat.le_total (a := 0) (b := sqR a) with h3 | h3
  · exact h3
  · by_cases e : sqR a = 0
    · grind
    · have := h2.2 (by grind); omega
theorem sqR_sq {a : Rat} (h : isSqR a = true) : sqR a * sqR a = a := by
  have hh := h
  unfold isSqR at hh
  rw [Bool.and_eq_true] at hh
  obtain ⟨p1, p2⟩ := sqR_parts h
  have e1 := sq_nat hh.1
  have e2 := sq_nat hh.2
  rw [← p1] at e1
  rw [← p2] at e2
  have := mul_div (sqR a) (sqR a)
  rw [e1, e2] at this
  rw [← this, ← num_den_div]
where
  num_den_div {a : Rat} : a = (a.num : Rat) / ((a.den : Int) : Rat) := by
    have h1 := num_den a
    have h2 := den_ne' a
    rw [h1]; grind
theorem sq_parts (s : Rat) : (s * s).num = s.num * s.num ∧ ((s * s).den : Int) = s.den * s.den := by
  have hp : (0 : Int) < s.den * s.den := Int.mul_pos (den_pos s) (den_pos s)
  obtain ⟨q1, q2⟩ := red_pos (n := s.num * s.num) hp
  have hg : Nat.gcd (s.num * s.num).natAbs ((s.den : Int) * s.den).natAbs = 1 := by
    rw [Int.natAbs_mul, Int.natAbs_mul, Int.natAbs_natCast]
    have hc : Nat.Coprime s.num.natAbs s.den := s.reduced
    exact Nat.Coprime.mul_right (Nat.Coprime.mul_left hc hc) (Nat.Coprime.mul_left hc hc)
  rw [hg] at q1 q2
  rw [mul_div] at q1 q2
  exact ⟨q1.trans (fdiv_one _), q2.trans (fdiv_one _)⟩
theorem isSqR_of {a s : Rat} (h : s * s = a) : isSqR a = true := by
  subst h
  obtain ⟨h1, h2⟩ := sq_parts s
  unfold isSqR
  rw [Bool.and_eq_true]
  refine ⟨isSq_iff.2 ⟨s.num.natAbs, ?_⟩, isSq_iff.2 ⟨s.den, h2.symm⟩⟩
  rw [h1]
  have := Int.natAbs_mul_self (a := s.num)
  exact this
theorem no_sq {a s : Rat} (h : isSqR a = false) : s * s ≠ a := fun e => by rw [isSqR_of e] at h; cases h
/-! ### The sign of a reduced root -/
def sgn3 (a b c : Rat) : Int := if sgnR a = sgnR b ∨ sgnR b = 0 then sgnR a else if sgnR a = 0 then sgnR b else if 0 < a * a - b * b * c then sgnR a else sgnR b
theorem exI_sq {a b s : Rat} (h : 0 ≤ s) : exI a b (s * s) = sgnR (a + b * s) := exI_sgn h Rat.le_refl Rat.le_refl Rat.le_refl rfl rfl
theorem exI_rat {a b c : Rat} (h : isSqR c = true) : exI a b c = sgnR (a + b * sqR c) := by
  conv => lhs; rw [← sqR_sq h]
  exact exI_sq (sqR_nn h)
theorem sgn3_exI {a b c : Rat} (h : b = 0 ∨ (0 < c ∧ isSqR c = false)) : sgn3 a b c = exI a b c := by
  rcases h with rfl | ⟨hc, hs⟩
  · rw [exI_zero]; unfold sgn3; rw [if_pos (.inr (sgnR_eq0.2 rfl))]
  · unfold sgn3 exI
    rw [sgnR_eq1.2 hc, Int.mul_one]
    rcases sgn_cases a with ⟨a1, a2⟩ | ⟨a1, a2⟩ | ⟨a1, a2⟩ <;> rcases sgn_cases b with ⟨b1, b2⟩ | ⟨b1, b2⟩ | ⟨b1, b2⟩ <;> rw [a2, b2] <;> simp
    · have hb : b ≠ 0 := by grind
      by_cases g : 0 < a * a - b * b * c
      · rw [if_pos g, cmpR_1 (by grind)]
      · rw [if_neg g]
        by_cases e : a * a = b * b * c
        · exact absurd (show a / b * (a / b) = c by grind) (no_sq hs)
        · rw [cmpR_m (by grind)]; rfl
    · have hb : b ≠ 0 := by grind
      by_cases g : 0 < a * a - b * b * c
      · rw [if_pos g, cmpR_1 (by grind)]
      · rw [if_neg g]
        by_cases e : a * a = b * b * c
        · exact absurd (show a / b * (a / b) = c by grind) (no_sq hs)
        · rw [cmpR_m (by grind)]
end Go.Sw

namespace Go.Sw
open Go
set_option linter.unusedVariables false
@[reducible] def Q2 (a b : Rat) : AV := .agg [zs a.num, zl a.num, zs a.den, zl a.den, zs b.num, zl b.num, zs b.den, zl b.den]
/-- The zero values of structs of fractions. -/
@[reducible] def ZQ2 : AV := .agg [.v (.bool false), .sl 1 [], .v (.bool false), .sl 1 [], .v (.bool false), .sl 1 [], .v (.bool false), .sl 1 []]
@[reducible] def ZQ3 : AV := .agg [.v (.bool false), .sl 1 [], .v (.bool false), .sl 1 [], .v (.bool false), .sl 1 [], .v (.bool false), .sl 1 [], .v (.bool false), .sl 1 [], .v (.bool false), .sl 1 []]
/-! ### Reduced forms -/
def redB (b c : Rat) : Rat := if b = 0 ∨ c = 0 then 0 else b
def redC (b c : Rat) : Rat := if b = 0 ∨ c = 0 then 0 else c
def mkA (a b c : Rat) : Rat := if isSqR c = true then a + b * sqR c else a
def mkB (b c : Rat) : Rat := if isSqR c = true then 0 else redB b c
def mkC (b c : Rat) : Rat := if isSqR c = true then 0 else redC b c
def cooC (b c : Rat) : Rat := if b = 0 then 0 else c
def ptC (b e c : Rat) : Rat := if b = 0 ∧ e = 0 then 0 else c
def okP (b e c : Rat) : Prop := (b = 0 ∧ e = 0 ∧ c = 0) ∨ (0 < c ∧ isSqR c = false)
theorem isSqR_0 : isSqR 0 = true := isSqR_of (s := 0) (by grind)
theorem nsq_ne {c : Rat} (h : isSqR c = false) : c ≠ 0 := fun e => by rw [e, isSqR_0] at h; cases h
theorem redB_of {b c : Rat} (h : isSqR c = false) : redB b c = b := by
  unfold redB
  split
  · rename_i e; rcases e with e | e
    · exact e.symm
    · exact absurd e (nsq_ne h)
  · rfl
theorem redC_of {b c : Rat} (h : isSqR c = false) : redC b c = if b = 0 then 0 else c := by
  unfold redC
  by_cases e : b = 0
  · rw [if_pos (.inl e), if_pos e]
  · rw [if_neg (by rintro (h' | h'); exact e h'; exact nsq_ne h h'), if_neg e]
/-- The point of a description is in reduced form. -/
theorem okP_mk {b e c : Rat} (h0 : 0 ≤ c) : okP (mkB b c) (mkB e c) (ptC (mkB b c) (mkB e c) (if mkB b c = 0 then mkC e c else mkC b c)) := by
  cases h : isSqR c with
  | true => unfold mkB mkC ptC; simp only [h, if_true, and_self]; exact .inl ⟨rfl, rfl, rfl⟩
  | false =>
    have hc : 0 < c := by
      have := nsq_ne h
      grind
    unfold mkB mkC ptC
    simp only [h, Bool.false_eq_true, if_false, redB_of h, redC_of h]
    by_cases h1 : b = 0 <;> by_cases h2 : e = 0
    · simp only [h1, h2, and_self, if_true]; exact .inl ⟨rfl, rfl, rfl⟩
    · simp only [h1, h2, and_false, if_true, if_false]; exact .inr ⟨hc, h⟩
    · simp only [h1, false_and, if_false]; exact .inr ⟨hc, h⟩
    · simp only [h1, false_and, if_false]; exact .inr ⟨hc, h⟩
theorem okP_tr {b e c : Rat} (h : okP b e c) : okP b e c := h
/-! ### The reference's answers -/
theorem value_exI {a b c e f : Rat} (h : okP e f c) (hb : e = 0 ∧ f = 0 → b = 0) : sgn3 (mkA a b c) (mkB b c) (mkC b c) = exI a b c := by
  rcases h with ⟨h1, h2, rfl⟩ | ⟨hc, hs⟩
  · rw [hb ⟨h1, h2⟩]
    unfold mkA mkB mkC
    simp only [isSqR_0, if_true]
    rw [sgn3_exI (.inl rfl), exI_zero, exI_zero]
    congr 1; grind
  · unfold mkA mkB mkC
    simp only [hs, Bool.false_eq_true, if_false, redB_of hs, redC_of hs]
    by_cases h0 : b = 0
    · subst h0; rw [sgn3_exI (.inl rfl), exI_zero, exI_zero]
    · rw [if_neg h0]; exact sgn3_exI (.inr ⟨hc, hs⟩)
/-- The square of a distance: A, B and C of the root. -/
theorem power_exI {u v b e c q A B C c1 c2 k : Rat} (h : okP b e c) (e1 : c1 = cooC b c) (e2 : c2 = cooC e c)
    (hA : A = u * u + b * b * c1 + (v * v + e * e * c2) + -q) (hk : k = if redB (u * b + b * u) c1 = 0 then redC (v * e + e * v) c2 else redC (u * b + b * u) c1)
    (hB : B = redB (redB (u * b + b * u) c1 + redB (v * e + e * v) c2) k) (hC : C = redC (redB (u * b + b * u) c1 + redB (v * e + e * v) c2) k) :
    sgn3 A B C = exI (u * u + v * v + c * (b * b + e * e) - q) (u * b + v * e + (u * b + v * e)) c := by
  rcases h with ⟨rfl, rfl, rfl⟩ | ⟨hc, hs⟩
  · have z1 : redB (u * 0 + 0 * u) c1 = 0 := by unfold redB; rw [if_pos (.inl (by grind))]
    have z2 : redB (v * 0 + 0 * v) c2 = 0 := by unfold redB; rw [if_pos (.inl (by grind))]
    rw [z1, z2] at hB hC
    have : B = 0 := by rw [hB]; unfold redB; rw [if_pos (.inl (by grind))]
    rw [this, sgn3_exI (.inl rfl), exI_zero, show u * 0 + v * 0 + (u * 0 + v * 0) = (0 : Rat) by grind, exI_zero, hA]
    congr 1; grind
  · have r1 : redB (u * b + b * u) c1 = u * b + b * u ∧ b * b * c1 = b * b * c ∧ (u * b + b * u ≠ 0 → redC (u * b + b * u) c1 = c) := by
      by_cases hb : b = 0
      · subst hb; refine ⟨?_, by grind, fun h => absurd (by grind) h⟩
        unfold redB; rw [if_pos (.inl (by grind))]; grind
      · have : c1 = c := by rw [e1]; unfold cooC; rw [if_neg hb]
        rw [this]
        exact ⟨redB_of hs, rfl, fun h => by rw [redC_of hs, if_neg h]⟩
    have r2 : redB (v * e + e * v) c2 = v * e + e * v ∧ e * e * c2 = e * e * c ∧ (v * e + e * v ≠ 0 → redC (v * e + e * v) c2 = c) := by
      by_cases he : e = 0
      · subst he; refine ⟨?_, by grind, fun h => absurd (by grind) h⟩
        unfold redB; rw [if_pos (.inl (by grind))]; grind
      · have : c2 = c := by rw [e2]; unfold cooC; rw [if_neg he]
        rw [this]
        exact ⟨redB_of hs, rfl, fun h => by rw [redC_of hs, if_neg h]⟩
    rw [r1.1] at hk hB hC
    rw [r2.1] at hB hC
    rw [show u * u + v * v + c * (b * b + e * e) - q = A by rw [hA]; grind]
    by_cases hz : u * b + b * u + (v * e + e * v) = 0
    · have hB0 : B = 0 := by rw [hB]; unfold redB; rw [if_pos (.inl hz)]
      rw [hB0, sgn3_exI (.inl rfl), exI_zero, show u * b + v * e + (u * b + v * e) = (0 : Rat) by grind, exI_zero]
    · have hkc : k = c := by
        rw [hk]
        by_cases h1 : u * b + b * u = 0
        · rw [if_pos h1]; exact r2.2.2 (by grind)
        · rw [if_neg h1]; exact r1.2.2 h1
      have hB1 : B = u * b + v * e + (u * b + v * e) := by rw [hB, hkc, redB_of hs]; grind
      have hC1 : C = c := by rw [hC, hkc, redC_of hs, if_neg hz]
      rw [hB1, hC1]
      exact sgn3_exI (.inr ⟨hc, hs⟩)
/-! ### The program's answers -/
theorem side_any {la lb lc ax bx ay bb c : Rat} : (if (sideI la lb lc ax bx ay bb c).2 = true then (sideI la lb lc ax bx ay bb c).1 else exI (la * ax + lb * ay - lc) (la * bx + lb * bb) c) = exI (la * ax + lb * ay - lc) (la * bx + lb * bb) c := by
  split
  · rename_i h; exact side_n (by rw [h]; rfl)
  · rfl
theorem quick_n {ax bx ay bb c X Y Q : Rat} (h : (quickI ax bx ay bb c X Y Q).2 = true) :
    (quickI ax bx ay bb c X Y Q).1 = exI ((ax - X) * (ax - X) + (ay - Y) * (ay - Y) + c * (bx * bx + bb * bb) - Q) ((ax - X) * bx + (ay - Y) * bb + ((ax - X) * bx + (ay - Y) * bb)) c :=
  (quick_sgn (n := (quickI ax bx ay bb c X Y Q).1) (Prod.ext rfl h)).symm
/-! ### Leaves of the runs -/
section
variable {a b : Rat}
theorem rsame_1 (h : a.num = b.num) : packA [AV.c (Cell.v (.bool (decide ((a.den : Int) = (b.den : Int)))))] = AV.bool (decide (a = b)) :=
  bE (by rw [decide_eq_decide]; exact ⟨fun h2 => Rat.ext h (by omega), fun h2 => by rw [h2]⟩)
theorem rsame_0 (h : ¬a.num = b.num) : packA [AV.c (Cell.v (.bool false))] = AV.bool (decide (a = b)) :=
  bE (by symm; rw [decide_eq_false_iff_not]; exact fun e => h (by rw [e]))
end
end Go.Sw

namespace Go.Sw
open Go
set_option linter.unusedVariables false
theorem rz_sqR {c : Rat} (h : isSqR c = true) : rz (sqR c) ≤ rz c := by
  obtain ⟨h1, h2⟩ := sqR_parts h
  have k : ∀ n : Nat, isq n ≤ n := fun n => by
    have h3 := (isq_ok n).1
    rcases Nat.eq_zero_or_pos (isq n) with h4 | h4
    · omega
    · exact Nat.le_trans (Nat.le_mul_of_pos_left _ h4) h3
  unfold rz
  rw [h1, h2]
  have a1 := sz_mono (a := ((isq c.num.natAbs : Nat) : Int)) (b := c.num) (by rw [Int.natAbs_natCast]; exact k _)
  have a2 := sz_mono (a := ((isq (c.den : Int).natAbs : Nat) : Int)) (b := (c.den : Int)) (by rw [Int.natAbs_natCast]; exact k _)
  omega
theorem rz_0 : rz 0 ≤ 1 := by decide +kernel
instance : RzB 0 1 := ⟨rz_0⟩
theorem rz_mkA {a b c : Rat} {m n k : Nat} (h1 : rz a ≤ m) (h2 : rz b ≤ n) (h3 : rz c ≤ k) : rz (mkA a b c) ≤ 2 * (m + (n + k)) + 1 := by
  unfold mkA
  split
  · rename_i h
    have := rz_add a (b * sqR c); have := rz_mul b (sqR c); have := rz_sqR h; omega
  · omega
theorem rz_mkB {b c : Rat} {n : Nat} (h2 : rz b ≤ n) : rz (mkB b c) ≤ n + 1 := by
  have := rz_0
  unfold mkB redB
  split
  · omega
  · split <;> omega
theorem rz_mkC {b c : Rat} {n : Nat} (h2 : rz c ≤ n) : rz (mkC b c) ≤ n + 1 := by
  have := rz_0
  unfold mkC redC
  split
  · omega
  · split <;> omega
theorem rz_redB {b c : Rat} {n : Nat} (h2 : rz b ≤ n) : rz (redB b c) ≤ n + 1 := by
  have := rz_0
  unfold redB
  split <;> omega
theorem rz_redC {b c : Rat} {n : Nat} (h2 : rz c ≤ n) : rz (redC b c) ≤ n + 1 := by
  have := rz_0
  unfold redC
  split <;> omega
theorem rz_cooC {b c : Rat} {n : Nat} (h2 : rz c ≤ n) : rz (cooC b c) ≤ n + 1 := by
  have := rz_0
  unfold cooC
  split <;> omega
theorem rz_ptC {b e c : Rat} {n : Nat} (h2 : rz c ≤ n) : rz (ptC b e c) ≤ n + 1 := by
  have := rz_0
  unfold ptC
  split <;> omega
instance {a b c : Rat} {m n k : Nat} [h1 : RzB a m] [h2 : RzB b n] [h3 : RzB c k] : RzB (mkA a b c) (2 * (m + (n + k)) + 1) := ⟨rz_mkA h1.h h2.h h3.h⟩
instance {b c : Rat} {n : Nat} [h2 : RzB b n] : RzB (mkB b c) (n + 1) := ⟨rz_mkB h2.h⟩
instance {b c : Rat} {n : Nat} [h2 : RzB c n] : RzB (mkC b c) (n + 1) := ⟨rz_mkC h2.h⟩
instance {b c : Rat} {n : Nat} [h2 : RzB b n] : RzB (redB b c) (n + 1) := ⟨rz_redB h2.h⟩
instance {b c : Rat} {n : Nat} [h2 : RzB c n] : RzB (redC b c) (n + 1) := ⟨rz_redC h2.h⟩
instance {b c : Rat} {n : Nat} [h2 : RzB c n] : RzB (cooC b c) (n + 1) := ⟨rz_cooC h2.h⟩
instance {b e c : Rat} {n : Nat} [h2 : RzB c n] : RzB (ptC b e c) (n + 1) := ⟨rz_ptC h2.h⟩
instance {p : Prop} [Decidable p] {a b : Rat} {m n : Nat} [h1 : RzB a m] [h2 : RzB b n] : RzB (if p then a else b) (m + n) := ⟨by split; exact Nat.le_trans h1.h (by omega); exact Nat.le_trans h2.h (by omega)⟩
theorem rz_q' (n d : Int) (h1 : -9223372036854775808 ≤ n ∧ n ≤ 9223372036854775807) (h2 : -9223372036854775808 ≤ d ∧ d ≤ 9223372036854775807) : rz ((n : Rat) / (d : Rat)) ≤ 6 := by
  by_cases h0 : d = 0
  · subst h0
    have : ((n : Int) : Rat) / ((0 : Int) : Rat) = 0 := by rw [← frac0 n]; decide +kernel
    rw [this]; have := rz_0; omega
  · exact rz_q n d h0 h1 h2
/-- A point out of a description. -/
structure Pt where
  ax : Rat
  bx : Rat
  ay : Rat
  bb : Rat
  c : Rat
def ptI (ax bx ay bb : Int) (c d : Nat) : Pt :=
  let n : Rat := ((d : Int) + 1 : Int)
  ⟨mkA (ax / n) (bx / n) ((c : Int) : Rat), mkB (bx / n) ((c : Int) : Rat), mkA (ay / n) (bb / n) ((c : Int) : Rat), mkB (bb / n) ((c : Int) : Rat),
   ptC (mkB (bx / n) ((c : Int) : Rat)) (mkB (bb / n) ((c : Int) : Rat)) (if mkB (bx / n) ((c : Int) : Rat) = 0 then mkC (bb / n) ((c : Int) : Rat) else mkC (bx / n) ((c : Int) : Rat))⟩
def smallI (n : Int) : Prop := -32768 ≤ n ∧ n ≤ 65535
theorem ptI_ok {ax bx ay bb : Int} {c d : Nat} (h1 : smallI ax) (h2 : smallI bx) (h3 : smallI ay) (h4 : smallI bb) (h5 : c ≤ 65535) (h6 : d ≤ 255) :
    rz (ptI ax bx ay bb c d).ax ≤ 40 ∧ rz (ptI ax bx ay bb c d).bx ≤ 40 ∧ rz (ptI ax bx ay bb c d).ay ≤ 40 ∧ rz (ptI ax bx ay bb c d).bb ≤ 40 ∧ rz (ptI ax bx ay bb c d).c ≤ 40 ∧ okP (ptI ax bx ay bb c d).bx (ptI ax bx ay bb c d).bb (ptI ax bx ay bb c d).c := by
  unfold smallI at *
  have i1 : RzB ((ax : Rat) / (((d : Int) + 1 : Int) : Rat)) 6 := ⟨rz_q' _ _ (by omega) (by omega)⟩
  have i2 : RzB ((bx : Rat) / (((d : Int) + 1 : Int) : Rat)) 6 := ⟨rz_q' _ _ (by omega) (by omega)⟩
  have i3 : RzB ((ay : Rat) / (((d : Int) + 1 : Int) : Rat)) 6 := ⟨rz_q' _ _ (by omega) (by omega)⟩
  have i4 : RzB ((bb : Rat) / (((d : Int) + 1 : Int) : Rat)) 6 := ⟨rz_q' _ _ (by omega) (by omega)⟩
  have i5 : RzB ((c : Int) : Rat) 4 := ⟨rz_i _ (by omega) (by omega)⟩
  unfold ptI
  simp only
  refine ⟨rzb (by omega), rzb (by omega), rzb (by omega), rzb (by omega), rzb (by omega), ?_⟩
  refine okP_mk ?_
  have : ((0 : Int) : Rat) ≤ ((c : Int) : Rat) := Rat.intCast_le_intCast.2 (by omega)
  exact this
structure Ln where
  a : Rat
  b : Rat
  c : Rat
def lnI (a b c : Int) (d : Nat) : Ln :=
  let n : Rat := (((d % 8 : Nat) : Int) + 1 : Int)
  ⟨a / n, if a = 0 ∧ b = 0 then ((1 : Int) : Rat) else (b : Rat), c / n⟩
theorem q_ne {n d : Int} (h : n ≠ 0) (hd : d ≠ 0) : ((n : Rat) / (d : Rat)) ≠ 0 := by
  have h1 : ((n : Int) : Rat) ≠ 0 := fun e => h (Rat.intCast_inj.1 (by rw [e]; rfl))
  have h2 : ((d : Int) : Rat) ≠ 0 := fun e => hd (Rat.intCast_inj.1 (by rw [e]; rfl))
  intro e
  have : (n : Rat) / (d : Rat) * (d : Rat) = 0 := by rw [e]; grind
  grind
theorem lnI_ok {a b c : Int} {d : Nat} (h1 : smallI a) (h2 : smallI b) (h3 : smallI c) : rz (lnI a b c d).a ≤ 8 ∧ rz (lnI a b c d).b ≤ 8 ∧ rz (lnI a b c d).c ≤ 8 ∧ ¬((lnI a b c d).a = 0 ∧ (lnI a b c d).b = 0) := by
  unfold smallI at *
  have hd := Nat.mod_lt d (show 0 < 8 by decide)
  have i1 : RzB ((a : Rat) / ((((d % 8 : Nat) : Int) + 1 : Int) : Rat)) 6 := ⟨rz_q' _ _ (by omega) (by omega)⟩
  have i3 : RzB ((c : Rat) / ((((d % 8 : Nat) : Int) + 1 : Int) : Rat)) 6 := ⟨rz_q' _ _ (by omega) (by omega)⟩
  have i2 : RzB (b : Rat) 4 := ⟨rz_i _ (by omega) (by omega)⟩
  have i4 : RzB ((1 : Int) : Rat) 4 := ⟨rz_i _ (by omega) (by omega)⟩
  unfold lnI
  simp only
  refine ⟨rzb (by omega), rzb (by omega), rzb (by omega), ?_⟩
  rintro ⟨e1, e2⟩
  by_cases ha : a = 0
  · by_cases hb : b = 0
    · rw [if_pos ⟨ha, hb⟩] at e2; revert e2; decide +kernel
    · rw [if_neg (fun h => hb h.2)] at e2
      exact hb (Rat.intCast_inj.1 (by rw [e2]; rfl))
  · exact q_ne ha (by omega) e1
def ciI (x y : Int) (q d : Nat) : Ln :=
  let n : Rat := (((d % 8 : Nat) : Int) + 1 : Int)
  ⟨x / n, y / n, (((q : Int) + 1 : Int) : Rat) / n⟩
theorem ciI_ok {x y : Int} {q d : Nat} (h1 : smallI x) (h2 : smallI y) (h3 : q ≤ 65535) : rz (ciI x y q d).a ≤ 8 ∧ rz (ciI x y q d).b ≤ 8 ∧ rz (ciI x y q d).c ≤ 8 := by
  unfold smallI at *
  have hd := Nat.mod_lt d (show 0 < 8 by decide)
  have i1 : RzB ((x : Rat) / ((((d % 8 : Nat) : Int) + 1 : Int) : Rat)) 6 := ⟨rz_q' _ _ (by omega) (by omega)⟩
  have i2 : RzB ((y : Rat) / ((((d % 8 : Nat) : Int) + 1 : Int) : Rat)) 6 := ⟨rz_q' _ _ (by omega) (by omega)⟩
  have i3 : RzB ((((q : Int) + 1 : Int) : Rat) / ((((d % 8 : Nat) : Int) + 1 : Int) : Rat)) 6 := ⟨rz_q' _ _ (by omega) (by omega)⟩
  unfold ciI
  exact ⟨rzb (by omega), rzb (by omega), rzb (by omega)⟩
end Go.Sw

namespace Go.Sw
open Go
set_option linter.unusedVariables false
class SzB (n : Int) (k : outParam Nat) : Prop where
  h : sz n ≤ k
theorem szb {n : Int} {k K : Nat} [i : SzB n k] (h : k ≤ K) : sz n ≤ K := Nat.le_trans i.h h
instance {q : Rat} {n : Nat} [i : RzB q n] : SzB q.num n := ⟨Nat.le_trans (rz_num q) i.h⟩
instance {q : Rat} {n : Nat} [i : RzB q n] : SzB (q.den : Int) n := ⟨Nat.le_trans (rz_den q) i.h⟩
instance {a b : Int} {m n : Nat} [i : SzB a m] [j : SzB b n] : SzB (a * b) (m + n) := ⟨by have := sz_mul a b; have := i.h; have := j.h; omega⟩
instance {a b : Int} {m n : Nat} [i : SzB a m] [j : SzB b n] : SzB (a + b) (m + n + 1) := ⟨by have := sz_add a b; have := i.h; have := j.h; omega⟩
instance {a : Int} {m : Nat} [i : SzB a m] : SzB (-a) m := ⟨by rw [sz_neg]; exact i.h⟩
instance {p : Prop} [Decidable p] {a b : Int} {m n : Nat} [h1 : SzB a m] [h2 : SzB b n] : SzB (if p then a else b) (m + n) := ⟨by split; exact Nat.le_trans h1.h (by omega); exact Nat.le_trans h2.h (by omega)⟩
instance : SzB 0 3 := ⟨sz_64 (by decide) (by decide)⟩
instance : SzB 1 3 := ⟨sz_64 (by decide) (by decide)⟩
theorem isq_le (n : Nat) : isq n ≤ n := by
  have h3 := (isq_ok n).1
  rcases Nat.eq_zero_or_pos (isq n) with h4 | h4
  · omega
  · exact Nat.le_trans (Nat.le_mul_of_pos_left _ h4) h3
instance {a : Int} {m : Nat} [i : SzB a m] : SzB ((isq a.natAbs : Nat) : Int) m := ⟨Nat.le_trans (sz_mono (by rw [Int.natAbs_natCast]; exact isq_le _)) i.h⟩
theorem szh {n : Int} {k : Nat} (h : sz n ≤ k) : SzB n k := ⟨h⟩
instance {c : Rat} {n : Nat} [i : RzB c n] : RzB (sqR c) n := ⟨by
  have hd : ((isq (c.den : Int).natAbs : Nat) : Int) ≠ 0 := by
    have h1 := (isq_ok (c.den : Int).natAbs).2
    have h2 := den_pos c
    intro e
    have : isq (c.den : Int).natAbs = 0 := by omega
    rw [this] at h1; omega
  have := rz_red (n := ((isq c.num.natAbs : Nat) : Int)) hd
  have a1 := sz_mono (a := ((isq c.num.natAbs : Nat) : Int)) (b := c.num) (by rw [Int.natAbs_natCast]; exact isq_le _)
  have a2 := sz_mono (a := ((isq (c.den : Int).natAbs : Nat) : Int)) (b := (c.den : Int)) (by rw [Int.natAbs_natCast]; exact isq_le _)
  have h := i.h
  unfold rz at h
  unfold sqR
  omega⟩
section
variable {a b c : Rat}
theorem s3_1 (h : sgnR a = sgnR b) : packA [AV.c (Cell.v (.int .i64 (sgnR a)))] = AV.int .i64 (sgn3 a b c) := iE (by unfold sgn3; rw [if_pos (.inl h)])
theorem s3_2 (h : b = 0) : packA [AV.c (Cell.v (.int .i64 (sgnR a)))] = AV.int .i64 (sgn3 a b c) := iE (by unfold sgn3; rw [if_pos (.inr (sgnR_eq0.2 h))])
theorem s3_3 (h1 : ¬sgnR a = sgnR b) (h2 : ¬b = 0) (h3 : a = 0) : packA [AV.c (Cell.v (.int .i64 (sgnR b)))] = AV.int .i64 (sgn3 a b c) := iE (by
  unfold sgn3; rw [if_neg (by rintro (h | h); exact h1 h; exact h2 (sgnR_eq0.1 h)), if_pos (sgnR_eq0.2 h3)])
theorem s3_4 (h1 : ¬sgnR a = sgnR b) (h2 : ¬b = 0) (h3 : ¬a = 0) (h4 : 0 < a * a - b * b * c) : packA [AV.c (Cell.v (.int .i64 (sgnR a)))] = AV.int .i64 (sgn3 a b c) := iE (by
  unfold sgn3; rw [if_neg (by rintro (h | h); exact h1 h; exact h2 (sgnR_eq0.1 h)), if_neg (fun e => h3 (sgnR_eq0.1 e)), if_pos h4])
theorem s3_5 (h1 : ¬sgnR a = sgnR b) (h2 : ¬b = 0) (h3 : ¬a = 0) (h4 : ¬0 < a * a - b * b * c) : packA [AV.c (Cell.v (.int .i64 (sgnR b)))] = AV.int .i64 (sgn3 a b c) := iE (by
  unfold sgn3; rw [if_neg (by rintro (h | h); exact h1 h; exact h2 (sgnR_eq0.1 h)), if_neg (fun e => h3 (sgnR_eq0.1 e)), if_neg h4])
end
section
variable {a b c : Rat} {q : AV}
theorem cmp_sg (h : ¬sgnR a = sgnR b) : packA [AV.c (Cell.v (.int .i64 (cmpI (sgnR a) (sgnR b))))] = AV.int .i64 (cmpR a b) := iE (by
  rcases sgn_cases a with ⟨a1, a2⟩ | ⟨a1, a2⟩ | ⟨a1, a2⟩ <;> rcases sgn_cases b with ⟨b1, b2⟩ | ⟨b1, b2⟩ | ⟨b1, b2⟩ <;> rw [a2, b2] at h ⊢ <;> first
    | exact absurd rfl h
    | (rw [cmpR_m (by grind)]; rfl)
    | (rw [cmpR_1 (by grind)]; rfl))
theorem div_1 (hb : ¬b = 0) (e : ¬b = 0 → q = AV.tup [R (a / b), AV.int .i64 0]) : packA [R (((a.num * b.den : Int) : Rat) / ((a.den * b.num : Int) : Rat)), AV.c (Cell.v (.int .i64 0))] = q := by
  rw [e hb, div_div a b hb]; rfl
theorem den_num0 (h : (a.den : Int) * b.num = 0) : b = 0 := by
  rcases Int.mul_eq_zero.1 h with h | h
  · exact absurd h (den_ne a)
  · exact (num_eq0 b).1 h
theorem div_2 (h : ¬(a.den : Int) * b.num = 0) (e : ¬b = 0 → q = AV.tup [R (a / b), AV.int .i64 0]) : packA [R (((a.num * b.den : Int) : Rat) / ((a.den * b.num : Int) : Rat)), AV.c (Cell.v (.int .i64 0))] = q :=
  div_1 (fun e => h (by rw [e]; simp)) e
theorem den_num1 (h : ¬b = 0) : (a.den : Int) * b.num ≠ 0 := fun e => h (den_num0 e)
theorem frac_0 (n : Int) : ((0 : Int) : Rat) = (n : Rat) / ((0 : Int) : Rat) := by rw [← frac0 n]; decide +kernel
theorem perf_1 {x : Int} (h : (if x < 0 then (7 : Int) else 0) = 0) : packA [Z (if x < 0 then 0 else (isq x.natAbs : Nat)), AV.c (Cell.v (.bool (decide ((if x < 0 then 0 else ((isq x.natAbs : Nat) : Int)) * (if x < 0 then 0 else ((isq x.natAbs : Nat) : Int)) = x))))] = AV.tup [Z (if x < 0 then 0 else (isq x.natAbs : Nat)), AV.bool (isSq x)] := by
  have h0 : ¬x < 0 := fun h1 => by rw [if_pos h1] at h; exact absurd h (by decide)
  have e : isSq x = decide ((if x < 0 then 0 else ((isq x.natAbs : Nat) : Int)) * (if x < 0 then 0 else ((isq x.natAbs : Nat) : Int)) = x) := by
    unfold isSq
    rw [if_neg h0, decide_eq_true (show 0 ≤ x by omega), Bool.true_and]
  rw [e]; rfl
theorem perf_2 {x : Int} (h : ¬(if x < 0 then (7 : Int) else 0) = 0) : packA [Z (if x < 0 then 0 else (isq x.natAbs : Nat)), AV.c (Cell.v (.bool false))] = AV.tup [Z (if x < 0 then 0 else (isq x.natAbs : Nat)), AV.bool (isSq x)] := by
  have h0 : x < 0 := Decidable.byContradiction fun h1 => h (by rw [if_neg h1])
  have e : isSq x = false := by
    unfold isSq
    rw [decide_eq_false (show ¬0 ≤ x by omega), Bool.false_and]
  rw [e]; rfl
theorem sqrt_1 (h1 : (!isSq a.num) = false) (h2 : (!isSq a.den) = false) (e : isSqR a = true → q = AV.tup [R (sqR a), AV.bool true]) :
    packA [AV.agg [zs (if a.num < 0 then 0 else (isq a.num.natAbs : Nat)), zl (if a.num < 0 then 0 else (isq a.num.natAbs : Nat)), zs (if (a.den : Int) < 0 then 0 else (isq (a.den : Int).natAbs : Nat)), zl (if (a.den : Int) < 0 then 0 else (isq (a.den : Int).natAbs : Nat))], AV.c (Cell.v (.bool true))] = q := by
  have k1 : isSq a.num = true := by simpa using h1
  have k2 : isSq a.den = true := by simpa using h2
  have k : isSqR a = true := by unfold isSqR; rw [k1, k2]; rfl
  obtain ⟨p1, p2⟩ := sqR_parts k
  have n1 : ¬a.num < 0 := by
    unfold isSq at k1
    rw [Bool.and_eq_true, decide_eq_true_eq] at k1
    omega
  have n2 : ¬(a.den : Int) < 0 := by omega
  rw [e k, if_neg n1, if_neg n2, ← p1, ← p2]
  rfl
theorem sqrt_0 (h : (!isSq a.num) = true ∨ (!isSq a.den) = true) : ¬isSqR a = true := by
  unfold isSqR
  rcases h with h | h <;> simp at h <;> rw [h] <;> simp
end
theorem mk_common {b e c : Rat} : mkB b c = 0 ∨ mkB e c = 0 ∨ mkC b c = mkC e c := by
  cases h : isSqR c with
  | true => unfold mkB; rw [if_pos h]; exact .inl rfl
  | false =>
    by_cases hb : b = 0
    · subst hb; left; unfold mkB redB; rw [if_neg (by rw [h]; decide), if_pos (.inl rfl)]
    · by_cases he : e = 0
      · subst he; right; left; unfold mkB redB; rw [if_neg (by rw [h]; decide), if_pos (.inl rfl)]
      · right; right; unfold mkC; rw [redC_of h, redC_of h, if_neg hb, if_neg he]
theorem sq_common {u b v e c : Rat} (h : okP b e c) : redB (u * b + b * u) (cooC b c) = 0 ∨ redB (v * e + e * v) (cooC e c) = 0 ∨ redC (u * b + b * u) (cooC b c) = redC (v * e + e * v) (cooC e c) := by
  by_cases h1 : redB (u * b + b * u) (cooC b c) = 0
  · exact .inl h1
  · by_cases h2 : redB (v * e + e * v) (cooC e c) = 0
    · exact .inr (.inl h2)
    · right; right
      have k : ∀ x y : Rat, ¬redB x y = 0 → ¬x = 0 ∧ ¬y = 0 := fun x y hh => by
        unfold redB at hh
        by_cases g : x = 0 ∨ y = 0
        · rw [if_pos g] at hh; exact absurd rfl hh
        · exact ⟨fun e => g (.inl e), fun e => g (.inr e)⟩
      have k1 := k _ _ h1
      have k2 := k _ _ h2
      unfold redC
      rw [if_neg (by rintro (g | g); exact k1.1 g; exact k1.2 g), if_neg (by rintro (g | g); exact k2.1 g; exact k2.2 g)]
      unfold cooC at *
      by_cases hb : b = 0
      · rw [if_pos hb] at k1; exact absurd rfl k1.2
      · by_cases he : e = 0
        · rw [if_pos he] at k2; exact absurd rfl k2.2
        · rw [if_neg hb, if_neg he]
theorem exI_lim (a b c : Rat) : -1 ≤ exI a b c ∧ exI a b c ≤ 1 := by
  unfold exI
  have h1 := sgnR_lim a
  have h2 := one_mul_lim (sgnR_lim b) (sgnR_lim c)
  have h3 := one_mul_lim (sgnR_lim a) (cmpR_lim (a * a) (b * b * c))
  repeat' split
  all_goals first | exact h1 | exact h2 | exact h3
theorem w_ex (a b c : Rat) : IntKind.i64.wrap (0 - exI a b c) = -exI a b c := by
  have := exI_lim a b c
  rw [wi64 (by omega) (by omega)]; omega
theorem w_s3 (a b c : Rat) : IntKind.i64.wrap (0 - sgn3 a b c) = -sgn3 a b c := by
  have h1 := sgnR_lim a
  have h2 := sgnR_lim b
  have h : -1 ≤ sgn3 a b c ∧ sgn3 a b c ≤ 1 := by
    unfold sgn3
    repeat' split
    all_goals first | exact h1 | exact h2
  rw [wi64 (by omega) (by omega)]; omega
theorem sumsq_ne {a b : Rat} (h : ¬(a = 0 ∧ b = 0)) : ¬a * a + b * b = 0 := fun e => by
  have h1 := sq_nn a
  have h2 := sq_nn b
  have k : ∀ x : Rat, x * x = 0 → x = 0 := fun x hx => by
    rcases Rat.mul_eq_zero.1 hx with h | h <;> exact h
  exact h ⟨k a (by grind), k b (by grind)⟩
theorem neg_3 {a b c : Rat} {n : Int} (h : sgn3 a b c = n) : packA [AV.c (Cell.v (.int .i64 (IntKind.i64.wrap (0 - sgn3 a b c))))] = AV.int .i64 (-n) := iE (by rw [w_s3, h])
theorem neg_x {a b c : Rat} {n : Int} (h : exI a b c = n) : packA [AV.c (Cell.v (.int .i64 (IntKind.i64.wrap (0 - exI a b c))))] = AV.int .i64 (-n) := iE (by rw [w_ex, h])
theorem neg_q {a b c d e f g h : Rat} {n : Int} (k : (quickI a b c d e f g h).2 = true) (hn : (quickI a b c d e f g h).1 = n) (h1 : -1 ≤ n) (h2 : n ≤ 1) : packA [AV.c (Cell.v (.int .i64 (IntKind.i64.wrap (0 - (quickI a b c d e f g h).1))))] = AV.int .i64 (-n) := iE (by
  rw [hn, wi64 (by omega) (by omega)]; omega)
theorem okP_nn {b e c : Rat} (h : okP b e c) : 0 ≤ c := by
  rcases h with ⟨_, _, rfl⟩ | ⟨h, _⟩
  · exact Rat.le_refl
  · grind
instance {a b : Rat} {m n : Nat} [h : RzB a m] [k : RzB b n] : RzB (a / b) (m + n + 1) := ⟨by
  by_cases hb : b = 0
  · subst hb
    have : a / 0 = 0 := by rw [Rat.div_def, Rat.inv_zero, Rat.mul_zero]
    rw [this]; have := rz_0; omega
  · have := rz_div a b hb; have := h.h; have := k.h; omega⟩
theorem div_0 (a : Rat) : ((0 : Int) : Rat) = a / 0 := by
  have : ((0 : Int) : Rat) = 0 := rfl
  rw [this, Rat.div_def, Rat.inv_zero, Rat.mul_zero]
section
variable {a b c : Rat}
theorem sg_1 (h : sgnR b * sgnR c = 0) : packA [AV.c (Cell.v (.int .i64 (sgnR a)))] = AV.int .i64 (exI a b c) := iE (by unfold exI; rw [if_pos (.inr h)])
theorem sg_2 (h : sgnR a = sgnR b * sgnR c) : packA [AV.c (Cell.v (.int .i64 (sgnR a)))] = AV.int .i64 (exI a b c) := iE (by unfold exI; rw [if_pos (.inl h)])
theorem sg_3 (h1 : ¬sgnR b * sgnR c = 0) (h2 : ¬sgnR a = sgnR b * sgnR c) (h3 : a = 0) : packA [AV.c (Cell.v (.int .i64 (sgnR b * sgnR c)))] = AV.int .i64 (exI a b c) := iE (by
  unfold exI; rw [if_neg (by rintro (h | h); exact h2 h; exact h1 h), if_pos (sgnR_eq0.2 h3)])
theorem sg_4 (h1 : ¬sgnR b * sgnR c = 0) (h2 : ¬sgnR a = sgnR b * sgnR c) (h3 : ¬a = 0) : packA [AV.c (Cell.v (.int .i64 (sgnR a * cmpR (a * a) (b * b * c))))] = AV.int .i64 (exI a b c) := iE (by
  rw [ex_4 h2 h1 (fun e => h3 (sgnR_eq0.1 e))])
end
theorem ivB_dist (a b c f : Rat) : ivB ((distI a b c f).getD (0, 0)) := by
  unfold distI
  have h1 := ivB_root a b c
  have h2 := ivB_from f
  cases h3 : rootI a b c with
  | none => unfold ivB; simp only [Option.getD_none]; decide
  | some x =>
    cases h4 : fromR f with
    | none => unfold ivB; simp only [Option.getD_none]; decide
    | some y =>
      rw [h3] at h1
      rw [h4] at h2
      simp only [Option.getD_some] at h1 h2
      exact ivB_add h1 (by unfold ivB at *; simp only; omega)
theorem dist_n1 {a b c f : Rat} (h : (!(rootI a b c).isSome) = true ∨ (!(fromR f).isSome) = true) : (none : Option (Int × Int)) = distI a b c f := by
  unfold distI
  rcases h with h | h
  · cases h1 : rootI a b c with
    | none => rfl
    | some x => rw [h1] at h; cases h
  · cases h1 : rootI a b c with
    | none => rfl
    | some x => cases h2 : fromR f with
      | none => rfl
      | some y => rw [h2] at h; cases h
theorem dist_s {a b c f : Rat} (h : (!(rootI a b c).isSome) = false) (k : (!(fromR f).isSome) = false) : addI ((rootI a b c).getD (0, 0)) (-((fromR f).getD (0, 0)).2, -((fromR f).getD (0, 0)).1) = distI a b c f := by
  unfold distI
  cases h1 : rootI a b c with
  | none => rw [h1] at h; cases h
  | some x => cases h2 : fromR f with
    | none => rw [h2] at k; cases k
    | some y => rfl
section
variable {ax bx ay bb c X Y Q : Rat}
theorem qk_0 {p : Int × Bool} (h : p = (0, false)) : packA [AV.c (Cell.v (.int .i64 0)), AV.c (Cell.v (.bool false))] = AV.tup [.int .i64 p.1, .bool p.2] := by rw [h]; rfl
theorem qk_1 (h : (!(distI ax bx c X).isSome) = true ∨ (!(distI ay bb c Y).isSome) = true ∨ (!(fromR Q).isSome) = true) : quickI ax bx ay bb c X Y Q = (0, false) := by
  unfold quickI
  cases h1 : distI ax bx c X with
  | none => rfl
  | some x => cases h2 : distI ay bb c Y with
    | none => rfl
    | some y => cases h3 : fromR Q with
      | none => rfl
      | some q => rw [h1, h2, h3] at h; simp at h
theorem qk_eq {x y q : Int × Int} (h1 : (!(distI ax bx c X).isSome) = false) (h2 : (!(distI ay bb c Y).isSome) = false) (h3 : (!(fromR Q).isSome) = false) (e1 : x = (distI ax bx c X).getD (0, 0)) (e2 : y = (distI ay bb c Y).getD (0, 0)) (e3 : q = (fromR Q).getD (0, 0)) :
    quickI ax bx ay bb c X Y Q = (match mulI x x, mulI y y with
    | some s, some t => (match addI s t with
      | some u => (match addI u (-q.2, -q.1) with
        | some r => sgIv r.1 r.2
        | none => (0, false))
      | none => (0, false))
    | _, _ => (0, false)) := by
  subst e1 e2 e3
  unfold quickI
  cases k1 : distI ax bx c X with
  | none => rw [k1] at h1; cases h1
  | some x => cases k2 : distI ay bb c Y with
    | none => rw [k2] at h2; cases h2
    | some y => cases k3 : fromR Q with
      | none => rw [k3] at h3; cases h3
      | some q => rfl
end
theorem ln_1 {a b c : Int} {d : Nat} (h1 : a = 0) (h2 : b = 0) : packA [Q3 ((a : Rat) / ((((d % 8 : Nat) : Int) + 1 : Int) : Rat)) ((1 : Int) : Rat) ((c : Rat) / ((((d % 8 : Nat) : Int) + 1 : Int) : Rat))] = Q3 (lnI a b c d).a (lnI a b c d).b (lnI a b c d).c := by
  unfold lnI; simp only; rw [if_pos ⟨h1, h2⟩]; rfl
theorem ln_2 {a b c : Int} {d : Nat} (h : ¬(a = 0 ∧ b = 0)) : packA [Q3 ((a : Rat) / ((((d % 8 : Nat) : Int) + 1 : Int) : Rat)) (b : Rat) ((c : Rat) / ((((d % 8 : Nat) : Int) + 1 : Int) : Rat))] = Q3 (lnI a b c d).a (lnI a b c d).b (lnI a b c d).c := by
  unfold lnI; simp only; rw [if_neg h]; rfl
theorem dm8 (d : Nat) : ((d : Nat) : Int).tmod 8 = ((d % 8 : Nat) : Int) := by rw [Int.tmod_eq_emod_of_nonneg (by omega)]; rfl
end Go.Sw

namespace Go.Sw
open Go
set_option linter.unusedVariables false

def Cau (f : Nat → Rat) : Prop := ∀ d : Rat, 0 < d → ∃ N, ∀ m n, N ≤ m → N ≤ n → f m < f n + d
def PosS (f : Nat → Rat) : Prop := ∃ d : Rat, 0 < d ∧ ∃ N, ∀ n, N ≤ n → d < f n
def NulS (f : Nat → Rat) : Prop := ∀ d : Rat, 0 < d → ∃ N, ∀ n, N ≤ n → -d < f n ∧ f n < d
/-- From some place on, not far outside of a bound. -/
def Bnd (f : Nat → Rat) : Prop := ∃ B : Rat, 0 < B ∧ ∃ N, ∀ n, N ≤ n → -B < f n ∧ f n < B
/-- The sign of what a sequence comes near. -/
def SgS (f : Nat → Rat) (n : Int) : Prop := (n = 1 ∧ PosS f) ∨ (n = -1 ∧ PosS fun k => -f k) ∨ (n = 0 ∧ NulS f)

theorem mul_bnd {x y B e : Rat} (h1 : -B < x) (h2 : x < B) (h3 : -e < y) (h4 : y < e) : x * y < B * e := by
  have p1 := Rat.mul_pos (show 0 < B - x by grind) (show 0 < e + y by grind)
  have p2 := Rat.mul_pos (show 0 < B + x by grind) (show 0 < e - y by grind)
  grind
theorem mul_bnd' {x y B e : Rat} (h1 : -B < x) (h2 : x < B) (h3 : -e < y) (h4 : y < e) : -(B * e) < x * y := by
  have := mul_bnd (x := -x) (y := y) (B := B) (e := e) (by grind) (by grind) h3 h4
  grind
theorem div_pos' {a b : Rat} (h1 : 0 < a) (h2 : 0 < b) : 0 < a / b := by
  have hb : b ≠ 0 := by grind
  rcases Rat.le_total (a := a / b) (b := 0) with h | h
  · have p := Rat.mul_nonneg (show 0 ≤ -(a / b) by grind) (show 0 ≤ b by grind)
    have e : a / b * b = a := by grind
    grind
  · by_cases e : a / b = 0
    · have e' : a / b * b = a := by grind
      rw [e] at e'; grind
    · grind
theorem NulS.add {f g : Nat → Rat} (h : NulS f) (k : NulS g) : NulS fun n => f n + g n := fun d hd => by
  obtain ⟨N, hN⟩ := h (d * (1 / 2)) (by grind)
  obtain ⟨M, hM⟩ := k (d * (1 / 2)) (by grind)
  refine ⟨N + M, fun n hn => ?_⟩
  have a := hN n (by omega)
  have b := hM n (by omega)
  constructor <;> grind
theorem NulS.neg {f : Nat → Rat} (h : NulS f) : NulS fun n => -f n := fun d hd => by
  obtain ⟨N, hN⟩ := h d hd
  exact ⟨N, fun n hn => by have := hN n hn; constructor <;> grind⟩
theorem NulS.sub {f g : Nat → Rat} (h : NulS f) (k : NulS g) : NulS fun n => f n - g n := fun d hd => by
  obtain ⟨N, hN⟩ := h.add k.neg d hd
  exact ⟨N, fun n hn => by have := hN n hn; simp only at this; constructor <;> grind⟩
theorem NulS.mul {f g : Nat → Rat} (h : NulS f) (k : Bnd g) : NulS fun n => f n * g n := fun d hd => by
  obtain ⟨B, hB, M, hM⟩ := k
  obtain ⟨N, hN⟩ := h (d / B) (div_pos' hd hB)
  refine ⟨N + M, fun n hn => ?_⟩
  have a := hN n (by omega)
  have b := hM n (by omega)
  have e : d / B * B = d := by have : B ≠ 0 := (by grind); grind
  have p1 := mul_bnd a.1 a.2 b.1 b.2
  have p2 := mul_bnd' a.1 a.2 b.1 b.2
  rw [e] at p1 p2
  exact ⟨p2, p1⟩
theorem NulS.zero : NulS fun _ => 0 := fun d hd => ⟨0, fun n _ => by constructor <;> grind⟩
theorem NulS.cg {f g : Nat → Rat} (h : NulS f) (e : ∀ n, f n = g n) : NulS g := by rwa [funext e] at h
theorem Cau.bnd {f : Nat → Rat} (h : Cau f) : Bnd f := by
  obtain ⟨N, hN⟩ := h 1 (by grind)
  rcases Rat.le_total (a := 0) (b := f N) with h0 | h0
  · refine ⟨f N + 1, by grind, N, fun n hn => ?_⟩
    have a := hN n N hn (Nat.le_refl _)
    have b := hN N n (Nat.le_refl _) hn
    constructor <;> grind
  · refine ⟨-f N + 1, by grind, N, fun n hn => ?_⟩
    have a := hN n N hn (Nat.le_refl _)
    have b := hN N n (Nat.le_refl _) hn
    constructor <;> grind
theorem Cau.const (q : Rat) : Cau fun _ => q := fun d hd => ⟨0, fun m n _ _ => by grind⟩
theorem Cau.add {f g : Nat → Rat} (h : Cau f) (k : Cau g) : Cau fun n => f n + g n := fun d hd => by
  obtain ⟨N, hN⟩ := h (d * (1 / 2)) (by grind)
  obtain ⟨M, hM⟩ := k (d * (1 / 2)) (by grind)
  refine ⟨N + M, fun m n hm hn => ?_⟩
  have a := hN m n (by omega) (by omega)
  have b := hM m n (by omega) (by omega)
  grind
theorem Cau.neg {f : Nat → Rat} (h : Cau f) : Cau fun n => -f n := fun d hd => by
  obtain ⟨N, hN⟩ := h d hd
  exact ⟨N, fun m n hm hn => by have := hN n m hn hm; grind⟩
theorem Cau.sub {f g : Nat → Rat} (h : Cau f) (k : Cau g) : Cau fun n => f n - g n := fun d hd => by
  obtain ⟨N, hN⟩ := h.add k.neg d hd
  exact ⟨N, fun m n hm hn => by have := hN m n hm hn; simp only at this; grind⟩
theorem Cau.mul {f g : Nat → Rat} (h : Cau f) (k : Cau g) : Cau fun n => f n * g n := fun d hd => by
  obtain ⟨B, hB, M1, h1⟩ := h.bnd
  obtain ⟨D, hD, M2, h2⟩ := k.bnd
  obtain ⟨N1, k1⟩ := h (d * (1 / 2) / D) (div_pos' (by grind) hD)
  obtain ⟨N2, k2⟩ := k (d * (1 / 2) / B) (div_pos' (by grind) hB)
  refine ⟨M1 + M2 + N1 + N2, fun m n hm hn => ?_⟩
  have a1 := h1 m (by omega)
  have a2 := h2 n (by omega)
  have b1 := k1 m n (by omega) (by omega)
  have b2 := k1 n m (by omega) (by omega)
  have c1 := k2 m n (by omega) (by omega)
  have c2 := k2 n m (by omega) (by omega)
  have e1 : D * (d * (1 / 2) / D) = d * (1 / 2) := by have : D ≠ 0 := (by grind); grind
  have e2 : B * (d * (1 / 2) / B) = d * (1 / 2) := by have : B ≠ 0 := (by grind); grind
  have p1 := mul_bnd (x := f m) (y := g m - g n) (e := d * (1 / 2) / B) a1.1 a1.2 (by grind) (by grind)
  have p2 := mul_bnd (x := g n) (y := f m - f n) (e := d * (1 / 2) / D) a2.1 a2.2 (by grind) (by grind)
  rw [e2] at p1
  rw [e1] at p2
  grind
theorem PosS.add {f g : Nat → Rat} (h : PosS f) (k : PosS g) : PosS fun n => f n + g n := by
  obtain ⟨d, hd, N, hN⟩ := h
  obtain ⟨e, he, M, hM⟩ := k
  exact ⟨d, hd, N + M, fun n hn => by have := hN n (by omega); have := hM n (by omega); grind⟩
theorem PosS.nul {f g : Nat → Rat} (h : PosS f) (k : NulS g) : PosS fun n => f n + g n := by
  obtain ⟨d, hd, N, hN⟩ := h
  obtain ⟨M, hM⟩ := k (d * (1 / 2)) (by grind)
  exact ⟨d * (1 / 2), by grind, N + M, fun n hn => by have := hN n (by omega); have := hM n (by omega); grind⟩
theorem PosS.mul {f g : Nat → Rat} (h : PosS f) (k : PosS g) : PosS fun n => f n * g n := by
  obtain ⟨d, hd, N, hN⟩ := h
  obtain ⟨e, he, M, hM⟩ := k
  refine ⟨d * e, Rat.mul_pos hd he, N + M, fun n hn => ?_⟩
  have a := hN n (by omega)
  have b := hM n (by omega)
  have p1 := Rat.mul_pos (show 0 < f n - d by grind) (show 0 < g n by grind)
  have p2 := Rat.mul_pos hd (show 0 < g n - e by grind)
  grind
theorem PosS.cg {f g : Nat → Rat} (h : PosS f) (e : ∀ n, f n = g n) : PosS g := by rwa [funext e] at h
theorem PosS.not {f : Nat → Rat} (h : PosS f) (k : PosS fun n => -f n) : False := by
  obtain ⟨d, hd, N, hN⟩ := h
  obtain ⟨e, he, M, hM⟩ := k
  have := hN (N + M) (by omega)
  have := hM (N + M) (by omega)
  grind
theorem PosS.nn {f : Nat → Rat} (h : PosS f) (k : NulS f) : False := by
  obtain ⟨d, hd, N, hN⟩ := h
  obtain ⟨M, hM⟩ := k d hd
  have := hN (N + M) (by omega)
  have := hM (N + M) (by omega)
  grind
namespace SgS
theorem ex {f : Nat → Rat} (h : Cau f) : ∃ n, SgS f n := by
  by_cases h1 : PosS f
  · exact ⟨1, .inl ⟨rfl, h1⟩⟩
  · by_cases h2 : PosS fun n => -f n
    · exact ⟨-1, .inr (.inl ⟨rfl, h2⟩)⟩
    · refine ⟨0, .inr (.inr ⟨rfl, fun d hd => ?_⟩)⟩
      obtain ⟨N, hN⟩ := h (d * (1 / 2)) (by grind)
      have a1 : ∃ m, N ≤ m ∧ f m ≤ d * (1 / 2) := Classical.byContradiction fun hc => h1 ⟨d * (1 / 2), by grind, N, fun n hn => by
        rcases Rat.le_total (a := f n) (b := d * (1 / 2)) with h | h
        · exact absurd ⟨n, hn, h⟩ hc
        · by_cases e : f n = d * (1 / 2)
          · exact absurd ⟨n, hn, by grind⟩ hc
          · grind⟩
      have a2 : ∃ m, N ≤ m ∧ -f m ≤ d * (1 / 2) := Classical.byContradiction fun hc => h2 ⟨d * (1 / 2), by grind, N, fun n hn => by
        rcases Rat.le_total (a := -f n) (b := d * (1 / 2)) with h | h
        · exact absurd ⟨n, hn, h⟩ hc
        · by_cases e : -f n = d * (1 / 2)
          · exact absurd ⟨n, hn, by grind⟩ hc
          · grind⟩
      obtain ⟨m1, g1, k1⟩ := a1
      obtain ⟨m2, g2, k2⟩ := a2
      refine ⟨N, fun n hn => ?_⟩
      have b1 := hN n m1 hn g1
      have b2 := hN m2 n g2 hn
      constructor <;> grind
theorem uniq {f : Nat → Rat} {m n : Int} (h : SgS f m) (k : SgS f n) : m = n := by
  rcases h with ⟨rfl, h⟩ | ⟨rfl, h⟩ | ⟨rfl, h⟩ <;> rcases k with ⟨rfl, k⟩ | ⟨rfl, k⟩ | ⟨rfl, k⟩ <;> first
    | rfl
    | exact (h.not k).elim
    | exact (k.not h).elim
    | exact (h.nn k).elim
    | exact (k.nn h).elim
    | exact (h.nn k.neg).elim
    | exact (k.nn h.neg).elim
theorem cg {f g : Nat → Rat} {n : Int} (h : SgS f n) (e : ∀ k, f k = g k) : SgS g n := by rwa [funext e] at h
theorem pos {f : Nat → Rat} (h : SgS f 1) : PosS f := by
  rcases h with ⟨e, h⟩ | ⟨e, h⟩ | ⟨e, h⟩
  · exact h
  · exact absurd e (by decide)
  · exact absurd e (by decide)
theorem npos {f : Nat → Rat} (h : SgS f (-1)) : PosS fun n => -f n := by
  rcases h with ⟨e, h⟩ | ⟨e, h⟩ | ⟨e, h⟩
  · exact absurd e (by decide)
  · exact h
  · exact absurd e (by decide)
theorem nul {f : Nat → Rat} (h : SgS f 0) : NulS f := by
  rcases h with ⟨e, h⟩ | ⟨e, h⟩ | ⟨e, h⟩
  · exact absurd e (by decide)
  · exact absurd e (by decide)
  · exact h
theorem of_pos {f : Nat → Rat} (h : PosS f) : SgS f 1 := .inl ⟨rfl, h⟩
theorem of_npos {f : Nat → Rat} (h : PosS fun n => -f n) : SgS f (-1) := .inr (.inl ⟨rfl, h⟩)
theorem of_nul {f : Nat → Rat} (h : NulS f) : SgS f 0 := .inr (.inr ⟨rfl, h⟩)
theorem lim {f : Nat → Rat} {n : Int} (h : SgS f n) : n = 1 ∨ n = -1 ∨ n = 0 := by
  rcases h with ⟨e, h⟩ | ⟨e, h⟩ | ⟨e, h⟩ <;> simp [e]
theorem neg {f : Nat → Rat} {n : Int} (h : SgS f n) : SgS (fun k => -f k) (-n) := by
  rcases h with ⟨rfl, h⟩ | ⟨rfl, h⟩ | ⟨rfl, h⟩
  · exact .inr (.inl ⟨rfl, h.cg fun n => by grind⟩)
  · exact .inl ⟨rfl, h⟩
  · exact .inr (.inr ⟨rfl, h.neg⟩)
/-- A sum with what comes near 0. -/
theorem nadd {f g : Nat → Rat} {n : Int} (h : SgS f n) (k : NulS g) : SgS (fun k => f k + g k) n := by
  rcases h with ⟨rfl, h⟩ | ⟨rfl, h⟩ | ⟨rfl, h⟩
  · exact .inl ⟨rfl, h.nul k⟩
  · exact .inr (.inl ⟨rfl, (h.nul k.neg).cg fun n => by grind⟩)
  · exact .inr (.inr ⟨rfl, h.add k⟩)
theorem near {f g : Nat → Rat} {n : Int} (h : SgS f n) (k : NulS fun i => g i - f i) : SgS g n := (h.nadd k).cg fun n => by grind
theorem same {f g : Nat → Rat} {n : Int} (h : SgS f n) (k : SgS g n) : SgS (fun k => f k + g k) n := by
  rcases h with ⟨rfl, h⟩ | ⟨rfl, h⟩ | ⟨rfl, h⟩
  · exact .inl ⟨rfl, h.add k.pos⟩
  · exact .inr (.inl ⟨rfl, (h.add k.npos).cg fun n => by grind⟩)
  · exact .inr (.inr ⟨rfl, h.add k.nul⟩)
theorem mul {f g : Nat → Rat} {m n : Int} (hf : Cau f) (hg : Cau g) (h : SgS f m) (k : SgS g n) : SgS (fun k => f k * g k) (m * n) := by
  rcases h with ⟨rfl, h⟩ | ⟨rfl, h⟩ | ⟨rfl, h⟩
  · rw [Int.one_mul]
    rcases k with ⟨rfl, k⟩ | ⟨rfl, k⟩ | ⟨rfl, k⟩
    · exact .inl ⟨rfl, h.mul k⟩
    · exact .inr (.inl ⟨rfl, (h.mul k).cg fun n => by grind⟩)
    · exact .inr (.inr ⟨rfl, (k.mul hf.bnd).cg fun n => by grind⟩)
  · rcases k with ⟨rfl, k⟩ | ⟨rfl, k⟩ | ⟨rfl, k⟩
    · exact .inr (.inl ⟨rfl, (h.mul k).cg fun n => by grind⟩)
    · exact .inl ⟨rfl, (h.mul k).cg fun n => by grind⟩
    · exact .inr (.inr ⟨rfl, (k.mul hf.bnd).cg fun n => by grind⟩)
  · rw [Int.zero_mul]
    exact .inr (.inr ⟨rfl, h.mul hg.bnd⟩)
theorem const (q : Rat) : SgS (fun _ => q) (sgnR q) := by
  rcases sgn_cases q with ⟨a, e⟩ | ⟨a, e⟩ | ⟨a, e⟩ <;> rw [e]
  · exact .inr (.inl ⟨rfl, ⟨-q * (1 / 2), by grind, 0, fun n _ => by grind⟩⟩)
  · subst a; exact .inr (.inr ⟨rfl, NulS.zero⟩)
  · exact .inl ⟨rfl, ⟨q * (1 / 2), by grind, 0, fun n _ => by grind⟩⟩
end SgS
/-! ### Square roots -/
def epsS (n : Nat) : Rat := 1 / ((n : Rat) + 1)
theorem cast_nn (n : Nat) : (0 : Rat) ≤ (n : Rat) := Rat.intCast_le_intCast.2 (show (0 : Int) ≤ (n : Int) by omega)
theorem eps_pos (n : Nat) : 0 < epsS n := div_pos' (by grind) (by have := cast_nn n; grind)
theorem eps_mul (n : Nat) : epsS n * ((n : Rat) + 1) = 1 := by
  have h : (n : Rat) + 1 ≠ 0 := by have := cast_nn n; grind
  unfold epsS; grind
theorem eps_nul : NulS epsS := fun d hd => by
  refine ⟨d.den, fun n hn => ⟨by have := eps_pos n; grind, ?_⟩⟩
  have h1 := num_den d
  have h2 : (1 : Rat) ≤ (d.num : Rat) := Rat.intCast_le_intCast.2 (show (1 : Int) ≤ d.num by have := (num_gt0 d).2 hd; omega)
  have h3 : ((d.den : Int) : Rat) ≤ (n : Rat) := Rat.intCast_le_intCast.2 (show (d.den : Int) ≤ (n : Int) by omega)
  have h4 := Rat.mul_nonneg (show 0 ≤ d by grind) (show 0 ≤ (n : Rat) - ((d.den : Int) : Rat) by grind)
  have h5 := eps_mul n
  have h6 := eps_pos n
  rcases Rat.le_total (a := d) (b := epsS n) with h | h
  · have h7 := Rat.mul_nonneg (show 0 ≤ epsS n - d by grind) (show 0 ≤ (n : Rat) + 1 by have := cast_nn n; grind)
    grind
  · by_cases e : epsS n = d
    · rw [e] at h5; grind
    · grind
/-- The root of c, rounded down to a multiple of 1 / (n + 1). -/
def rtS (c : Rat) (n : Nat) : Rat := ((isq (c * (((n : Rat) + 1) * ((n : Rat) + 1))).floor.toNat : Nat) : Rat) * epsS n
theorem rts_ok {c : Rat} (hc : 0 ≤ c) (n : Nat) : 0 ≤ rtS c n ∧ rtS c n * rtS c n ≤ c ∧ c < (rtS c n + epsS n) * (rtS c n + epsS n) := by
  have hn := cast_nn n
  have he := eps_pos n
  have hm := eps_mul n
  generalize hx : c * (((n : Rat) + 1) * ((n : Rat) + 1)) = x
  have hx0 : 0 ≤ x := by rw [← hx]; exact Rat.mul_nonneg hc (Rat.mul_nonneg (by grind) (by grind))
  have f1 := Rat.floor_le (a := x)
  have f2 := Rat.lt_floor_add_one (a := x)
  have f0 : 0 ≤ x.floor := Rat.le_floor_iff.2 (by simpa using hx0)
  obtain ⟨i1, i2⟩ := isq_ok x.floor.toNat
  unfold rtS
  rw [hx]
  generalize isq x.floor.toNat = k at *
  have j1 : (k : Rat) * (k : Rat) ≤ x := by
    have : ((k * k : Nat) : Int) ≤ x.floor := by omega
    have := Rat.intCast_le_intCast.2 this
    have e : (((k * k : Nat) : Int) : Rat) = (k : Rat) * (k : Rat) := by simp [Rat.natCast_mul, Rat.intCast_natCast]
    rw [e] at this
    exact Rat.le_trans this f1
  have j2 : x < ((k : Rat) + 1) * ((k : Rat) + 1) := by
    have : x.floor + 1 ≤ (((k + 1) * (k + 1) : Nat) : Int) := by omega
    have := Rat.intCast_le_intCast.2 this
    have e : ((((k + 1) * (k + 1) : Nat) : Int) : Rat) = ((k : Rat) + 1) * ((k : Rat) + 1) := by simp [Rat.natCast_mul, Rat.natCast_add, Rat.intCast_natCast]
    rw [e] at this
    have e2 : ((x.floor + 1 : Int) : Rat) = (x.floor : Rat) + 1 := by rw [Rat.intCast_add]; rfl
    grind
  have hk := cast_nn k
  have ee := Rat.mul_pos he he
  have q1 : c = x * (epsS n * epsS n) := by rw [← hx]; grind
  refine ⟨Rat.mul_nonneg hk (by grind), ?_, ?_⟩
  · have := Rat.mul_nonneg (show 0 ≤ x - (k : Rat) * (k : Rat) by grind) (show 0 ≤ epsS n * epsS n by grind)
    rw [q1]; grind
  · have := Rat.mul_pos (show 0 < ((k : Rat) + 1) * ((k : Rat) + 1) - x by grind) ee
    rw [q1]; grind
theorem lt_of_sq {x y : Rat} (hy : 0 ≤ y) (h : x * x < y * y) : x < y := by
  rcases Rat.le_total (a := y) (b := x) with k | k
  · have p1 := Rat.mul_nonneg (show 0 ≤ x - y by grind) hy
    have p2 := Rat.mul_nonneg (show 0 ≤ x - y by grind) (show 0 ≤ x by grind)
    grind
  · by_cases e : x = y
    · subst e; grind
    · grind
theorem rts_cau {c : Rat} (hc : 0 ≤ c) : Cau (rtS c) := fun d hd => by
  obtain ⟨N, hN⟩ := eps_nul d hd
  refine ⟨N, fun m n hm hn => ?_⟩
  obtain ⟨a1, a2, a3⟩ := rts_ok hc m
  obtain ⟨b1, b2, b3⟩ := rts_ok hc n
  have := lt_of_sq (x := rtS c m) (y := rtS c n + epsS n) (by have := eps_pos n; grind) (by grind)
  have := (hN n hn).2
  grind
theorem rts_sq {c : Rat} (hc : 0 ≤ c) : NulS fun n => rtS c n * rtS c n - c := by
  have k : NulS fun n => epsS n * (rtS c n + rtS c n + epsS n) := eps_nul.mul (((rts_cau hc).add (rts_cau hc)).add (f := fun n => rtS c n + rtS c n) (g := epsS) (fun d hd => by
    obtain ⟨N, hN⟩ := eps_nul d hd
    exact ⟨N, fun m n hm hn => by have := (hN m hm).2; have := eps_pos n; grind⟩)).bnd
  intro d hd
  obtain ⟨N, hN⟩ := k d hd
  refine ⟨N, fun n hn => ?_⟩
  obtain ⟨a1, a2, a3⟩ := rts_ok hc n
  have := hN n hn
  simp only at this
  constructor <;> grind
theorem rts_sg {c : Rat} (hc : 0 ≤ c) : SgS (rtS c) (sgnR c) := by
  obtain ⟨n, hn⟩ := SgS.ex (rts_cau hc)
  have h1 : SgS (fun _ => c) (n * n) := (hn.mul (rts_cau hc) (rts_cau hc) hn).near ((rts_sq hc).neg.cg fun k => by grind)
  have h2 := h1.uniq (SgS.const c)
  have h3 : n ≠ -1 := by
    rintro rfl
    obtain ⟨d, hd, N, hN⟩ := hn.npos
    have := hN N (Nat.le_refl _)
    have := (rts_ok hc N).1
    grind
  rcases hn.lim with rfl | rfl | rfl
  · rw [← h2]; exact hn
  · exact absurd rfl h3
  · rw [← h2]; exact hn
/-- The sign of a sum with a root, out of those of the parts. -/
theorem root_step {F G : Nat → Rat} {x y z : Int} {c : Rat} (hF : Cau F) (hG : Cau G) (hc : 0 ≤ c) (h1 : SgS F x) (h2 : SgS G y) (h3 : SgS (fun n => F n * F n - c * (G n * G n)) z) :
    SgS (fun n => F n + G n * rtS c n) (if x = y * sgnR c ∨ y * sgnR c = 0 then x else if x = 0 then y * sgnR c else x * z) := by
  have hr := rts_cau hc
  have hy := h2.mul hG hr (rts_sg hc)
  generalize y * sgnR c = t at *
  split
  · rename_i h
    rcases h with rfl | rfl
    · exact h1.same hy
    · exact h1.nadd hy.nul
  · rename_i h
    split
    · rename_i h0
      subst h0
      exact (hy.nadd h1.nul).cg fun n => by grind
    · rename_i h0
      have hv : Cau fun n => F n + G n * rtS c n := hF.add (hG.mul hr)
      have hw : Cau fun n => F n - G n * rtS c n := hF.sub (hG.mul hr)
      have ht : t = -x := by
        rcases h1.lim with rfl | rfl | rfl <;> rcases hy.lim with rfl | rfl | rfl <;> first | rfl | (exfalso; revert h h0; decide)
      subst ht
      have kw : SgS (fun n => F n - G n * rtS c n) x := by
        have := h1.same (g := fun n => -(G n * rtS c n)) (by have := hy.neg; rwa [Int.neg_neg] at this)
        exact this.cg fun n => by grind
      obtain ⟨n, hn⟩ := SgS.ex hv
      have p := hn.mul hv hw kw
      have q : SgS (fun k => F k * F k - c * (G k * G k)) (n * x) := p.near (((rts_sq hc).mul (hG.mul hG).bnd).cg fun k => by grind)
      have e := q.uniq h3
      have : n = x * z := by rw [← e]; rcases h1.lim with rfl | rfl | rfl <;> rcases hn.lim with rfl | rfl | rfl <;> first | rfl | (exfalso; exact h0 rfl)
      rw [← this]; exact hn
/-- The sign of A + B sqrt(C). -/
theorem sg_exI {A B C : Rat} (hC : 0 ≤ C) : SgS (fun n => A + B * rtS C n) (exI A B C) := by
  have h := root_step (Cau.const A) (Cau.const B) hC (SgS.const A) (SgS.const B) (SgS.const _)
  have e : (if sgnR A = sgnR B * sgnR C ∨ sgnR B * sgnR C = 0 then sgnR A else if sgnR A = 0 then sgnR B * sgnR C else sgnR A * sgnR (A * A - C * (B * B))) = exI A B C := by
    unfold exI
    have : sgnR (A * A - C * (B * B)) = cmpR (A * A) (B * B * C) := by
      rcases sgn_cases (A * A - C * (B * B)) with ⟨a, e⟩ | ⟨a, e⟩ | ⟨a, e⟩ <;> rw [e]
      · rw [cmpR_m (by grind)]
      · rw [cmpR_z (by grind)]
      · rw [cmpR_1 (by grind)]
    rw [this]
  rw [← e]; exact h
/-- The sign of A + B sqrt(M) + C sqrt(N) + D sqrt(M) sqrt(N). -/
def sg4 (A B C D M N : Rat) : Int :=
  if exI A B M = exI C D M * sgnR N ∨ exI C D M * sgnR N = 0 then exI A B M
  else if exI A B M = 0 then exI C D M * sgnR N
  else exI A B M * exI (A * A + B * B * M - N * (C * C + D * D * M)) (A * B - N * (C * D) + (A * B - N * (C * D))) M
def v2 (A B M : Rat) (n : Nat) : Rat := A + B * rtS M n
def v4 (A B C D M N : Rat) (n : Nat) : Rat := v2 A B M n + v2 C D M n * rtS N n
theorem v2_cau {A B M : Rat} (hM : 0 ≤ M) : Cau (v2 A B M) := (Cau.const A).add ((Cau.const B).mul (rts_cau hM))
theorem v4_cau {A B C D M N : Rat} (hM : 0 ≤ M) (hN : 0 ≤ N) : Cau (v4 A B C D M N) := (v2_cau hM).add ((v2_cau hM).mul (rts_cau hN))
theorem v2_sg {A B M : Rat} (hM : 0 ≤ M) : SgS (v2 A B M) (exI A B M) := sg_exI hM
theorem v4_sg {A B C D M N : Rat} (hM : 0 ≤ M) (hN : 0 ≤ N) : SgS (v4 A B C D M N) (sg4 A B C D M N) := by
  refine root_step (v2_cau hM) (v2_cau hM) hN (v2_sg hM) (v2_sg hM) ?_
  refine (sg_exI (A := A * A + B * B * M - N * (C * C + D * D * M)) (B := A * B - N * (C * D) + (A * B - N * (C * D))) hM).near ?_
  exact ((rts_sq hM).mul (Cau.const (B * B - N * (D * D))).bnd).cg fun n => by unfold v2; grind
end Go.Sw

namespace Go.Sw
open Go
set_option linter.unusedVariables false
theorem Bnd.nul {f : Nat → Rat} (h : NulS f) : Bnd f := by
  obtain ⟨N, hN⟩ := h 1 (by grind)
  exact ⟨1, by grind, N, hN⟩
theorem Bnd.add {f g : Nat → Rat} (h : Bnd f) (k : Bnd g) : Bnd fun n => f n + g n := by
  obtain ⟨B, hB, N, hN⟩ := h
  obtain ⟨D, hD, M, hM⟩ := k
  refine ⟨B + D, by grind, N + M, fun n hn => ?_⟩
  have := hN n (by omega)
  have := hM n (by omega)
  constructor <;> grind
theorem Bnd.cg {f g : Nat → Rat} (h : Bnd f) (e : ∀ n, f n = g n) : Bnd g := by rwa [funext e] at h
/-- An interval contains numbers that come near what a sequence comes near. -/
def ConS (p : Int × Int) (f : Nat → Rat) : Prop := ∃ g : Nat → Rat, NulS (fun n => g n - f n) ∧ ∀ n, con p (g n)
theorem ConS.const {p : Int × Int} {q : Rat} (h : con p q) : ConS p fun _ => q := ⟨fun _ => q, NulS.zero.cg fun n => by grind, fun _ => h⟩
theorem ConS.cg {p : Int × Int} {f g : Nat → Rat} (h : ConS p f) (e : ∀ n, f n = g n) : ConS p g := by rwa [funext e] at h
theorem ConS.add {x y p : Int × Int} {f g : Nat → Rat} (e : addI x y = some p) (h : ConS x f) (k : ConS y g) : ConS p fun n => f n + g n := by
  obtain ⟨u, hu, cu⟩ := h
  obtain ⟨v, hv, cv⟩ := k
  exact ⟨fun n => u n + v n, (hu.add hv).cg fun n => by grind, fun n => con_add e (cu n) (cv n)⟩
theorem ConS.mul {x y p : Int × Int} {f g : Nat → Rat} (e : mulI x y = some p) (hf : Cau f) (hg : Cau g) (h : ConS x f) (k : ConS y g) : ConS p fun n => f n * g n := by
  obtain ⟨u, hu, cu⟩ := h
  obtain ⟨v, hv, cv⟩ := k
  have bv : Bnd v := (hg.bnd.add (Bnd.nul hv)).cg fun n => by grind
  exact ⟨fun n => u n * v n, ((hu.mul bv).add (hv.mul hf.bnd)).cg fun n => by grind, fun n => con_mul e (cu n) (cv n)⟩
theorem ConS.rt {x p : Int × Int} {c : Rat} (e : sqrtI x = some p) (hx : con x c) (h0 : 0 ≤ c) : ConS p (rtS c) := by
  obtain ⟨k1, k2, k3, k4⟩ := con_sqrt e hx h0
  have j1 := Rat.intCast_le_intCast.2 k3
  have j2 := Rat.intCast_le_intCast.2 k4
  have z0 : ((0 : Int) : Rat) = 0 := rfl
  rw [z0] at j1
  obtain ⟨s, hs⟩ : ∃ s : Rat, s * 65536 = (p.1 : Rat) := ⟨(p.1 : Rat) * (1 / 65536), by grind⟩
  obtain ⟨t, ht⟩ : ∃ t : Rat, t * 65536 = (p.2 : Rat) := ⟨(p.2 : Rat) * (1 / 65536), by grind⟩
  rw [← hs] at k1 j1 j2
  rw [← ht] at k2 j2
  have a1 : s * s ≤ c := by grind
  have a2 : c ≤ t * t := by grind
  have s0 : 0 ≤ s := by grind
  have t0 : 0 ≤ t := by grind
  have hi : ∀ n, rtS c n ≤ t := fun n => by
    obtain ⟨b1, b2, b3⟩ := rts_ok h0 n
    rcases Rat.le_total (a := rtS c n) (b := t) with h | h
    · exact h
    · by_cases q : rtS c n = t
      · grind
      · have := sq_lt t0 (show t < rtS c n by grind)
        grind
  have lo : ∀ n, s < rtS c n + epsS n := fun n => by
    obtain ⟨b1, b2, b3⟩ := rts_ok h0 n
    exact lt_of_sq (by have := eps_pos n; grind) (by grind)
  refine ⟨fun n => if rtS c n < s then s else rtS c n, fun d hd => ?_, fun n => ?_⟩
  · obtain ⟨N, hN⟩ := eps_nul d hd
    refine ⟨N, fun n hn => ?_⟩
    have := hN n hn
    have := lo n
    by_cases hl : rtS c n < s
    · simp only [if_pos hl]; constructor <;> grind
    · simp only [if_neg hl]; constructor <;> grind
  · have := hi n
    unfold con
    by_cases hl : rtS c n < s
    · simp only [if_pos hl]; constructor <;> grind
    · simp only [if_neg hl]; constructor <;> grind
theorem ConS.sg {p : Int × Int} {f : Nat → Rat} {n : Int} (h : sgIv p.1 p.2 = (n, true)) (k : ConS p f) : SgS f n := by
  obtain ⟨g, hg, cg⟩ := k
  have z : ((0 : Int) : Rat) = 0 := rfl
  have key : SgS g n := by
    unfold sgIv at h
    split at h
    · rename_i hl
      injection h with h3 h4
      subst h3
      have := Rat.intCast_lt_intCast.2 hl
      rw [z] at this
      refine .of_pos ⟨(p.1 : Rat) * (1 / 131072), by grind, 0, fun n _ => ?_⟩
      have := (cg n).1
      grind
    · split at h
      · rename_i hl
        injection h with h3 h4
        subst h3
        have := Rat.intCast_lt_intCast.2 hl
        rw [z] at this
        refine .of_npos ⟨-(p.2 : Rat) * (1 / 131072), by grind, 0, fun n _ => ?_⟩
        have := (cg n).2
        grind
      · injection h with h3 h4
        subst h3
        have hz := of_decide_eq_true h4
        refine .of_nul fun d hd => ⟨0, fun n _ => ?_⟩
        obtain ⟨a, b⟩ := cg n
        rw [hz.1, z] at a
        rw [hz.2, z] at b
        constructor <;> grind
  exact key.near (hg.neg.cg fun n => by grind)
/-- A root's interval. -/
theorem ConS.root {a b c : Rat} {p : Int × Int} (h0 : 0 ≤ c) (e : rootI a b c = some p) : ConS p (v2 a b c) := by
  unfold rootI at e
  cases ha : fromR a with
  | none => rw [ha] at e; cases e
  | some x =>
    rw [ha] at e
    simp only at e
    by_cases hb : b = 0
    · rw [if_pos hb] at e
      injection e with e
      subst e
      exact (ConS.const (con_from ha)).cg fun n => by unfold v2; rw [hb]; grind
    · rw [if_neg hb] at e
      cases hy : fromR b with
      | none => rw [hy] at e; cases e
      | some y =>
        cases hz : fromR c with
        | none => rw [hy, hz] at e; cases e
        | some z =>
          rw [hy, hz] at e
          simp only at e
          split at e
          · cases e
          · cases hw : sqrtI z with
            | none => rw [hw] at e; cases e
            | some w =>
              rw [hw] at e
              simp only at e
              cases hp : mulI y w with
              | none => rw [hp] at e; cases e
              | some m =>
                rw [hp] at e
                simp only at e
                exact ConS.add e (ConS.const (con_from ha)) (ConS.mul hp (Cau.const b) (rts_cau h0) (ConS.const (con_from hy)) (ConS.rt hw (con_from hz) h0))
theorem ConS.lt {p q : Int × Int} {f g : Nat → Rat} (h : ConS p f) (k : ConS q g) (hl : p.2 < q.1) : SgS (fun n => f n - g n) (-1) := by
  obtain ⟨u, hu, cu⟩ := h
  obtain ⟨v, hv, cv⟩ := k
  have := Rat.intCast_lt_intCast.2 hl
  have key : SgS (fun n => u n - v n) (-1) := .of_npos ⟨((q.1 : Rat) - (p.2 : Rat)) * (1 / 131072), by grind, 0, fun n _ => by
    have := (cu n).2
    have := (cv n).1
    grind⟩
  exact key.near ((hv.sub hu).cg fun n => by grind)
/-- The interval of a sum with two square roots. -/
def m4I (M N : Rat) : Option ((Int × Int) × (Int × Int)) :=
  match fromR M, fromR N with
  | some x, some y => (match sqrtI x, sqrtI y with | some m, some n => some (m, n) | _, _ => none)
  | _, _ => none
def mI (q : Rat) (m : Int × Int) : Option (Int × Int) := match fromR q with | some x => mulI x m | none => none
def quick4 (A B C D M N : Rat) : Option (Int × Int) :=
  match m4I M N with
  | some (m, n) => (match mI B m, mI C n, mulI m n with
    | some b, some c, some k => (match mI D k, fromR A with
      | some d, some a => (match addI a b, addI c d with
        | some x, some y => addI x y
        | _, _ => none)
      | _, _ => none)
    | _, _, _ => none)
  | none => none
theorem mI_con {q : Rat} {m p : Int × Int} {f : Nat → Rat} (hf : Cau f) (e : mI q m = some p) (k : ConS m f) : ConS p fun n => q * f n := by
  unfold mI at e
  cases h : fromR q with
  | none => rw [h] at e; cases e
  | some x => rw [h] at e; exact ConS.mul e (Cau.const q) hf (ConS.const (con_from h)) k
theorem quick4_con {A B C D M N : Rat} {p : Int × Int} (hM : 0 ≤ M) (hN : 0 ≤ N) (e : quick4 A B C D M N = some p) : ConS p (v4 A B C D M N) := by
  unfold quick4 m4I at e
  have cM := rts_cau hM
  have cN := rts_cau hN
  cases h1 : fromR M with
  | none => rw [h1] at e; cases e
  | some x =>
  cases h2 : fromR N with
  | none => rw [h1, h2] at e; cases e
  | some y =>
  rw [h1, h2] at e
  simp only at e
  cases h3 : sqrtI x with
  | none => rw [h3] at e; cases e
  | some m =>
  cases h4 : sqrtI y with
  | none => rw [h3, h4] at e; cases e
  | some n =>
  rw [h3, h4] at e
  simp only at e
  have r1 := ConS.rt h3 (con_from h1) hM
  have r2 := ConS.rt h4 (con_from h2) hN
  cases h5 : mI B m with
  | none => rw [h5] at e; cases e
  | some b =>
  cases h6 : mI C n with
  | none => rw [h5, h6] at e; cases e
  | some c =>
  cases h7 : mulI m n with
  | none => rw [h5, h6, h7] at e; cases e
  | some k =>
  rw [h5, h6, h7] at e
  simp only at e
  cases h8 : mI D k with
  | none => rw [h8] at e; cases e
  | some d =>
  cases h9 : fromR A with
  | none => rw [h8, h9] at e; cases e
  | some a =>
  rw [h8, h9] at e
  simp only at e
  cases h10 : addI a b with
  | none => rw [h10] at e; cases e
  | some u =>
  cases h11 : addI c d with
  | none => rw [h10, h11] at e; cases e
  | some v =>
  rw [h10, h11] at e
  simp only at e
  have q1 := ConS.add h10 (ConS.const (con_from h9)) (mI_con cM h5 r1)
  have q2 := ConS.add h11 (mI_con cN h6 r2) (mI_con (cM.mul cN) h8 (ConS.mul h7 cM cN r1 r2))
  exact (ConS.add e q1 q2).cg fun n => by unfold v4 v2; grind
theorem quick4_sg {A B C D M N : Rat} {p : Int × Int} {n : Int} (hM : 0 ≤ M) (hN : 0 ≤ N) (e : quick4 A B C D M N = some p) (h : sgIv p.1 p.2 = (n, true)) : sg4 A B C D M N = n :=
  (v4_sg hM hN).uniq ((quick4_con hM hN e).sg h)
/-! ### The order of roots -/
/-- The order of a + b sqrt(c) and d + e sqrt(f). -/
def cmp4 (a b c d e f : Rat) : Int := sg4 (a - d) b (-e) 0 c f
theorem cmp4_sg {a b c d e f : Rat} (hc : 0 ≤ c) (hf : 0 ≤ f) : SgS (fun n => v2 a b c n - v2 d e f n) (cmp4 a b c d e f) :=
  (v4_sg hc hf).cg fun n => by unfold v4 v2; grind
theorem cmp4_apart {a b c d e f : Rat} {p q : Int × Int} (hc : 0 ≤ c) (hf : 0 ≤ f) (h1 : rootI a b c = some p) (h2 : rootI d e f = some q) (hl : p.2 < q.1) : cmp4 a b c d e f = -1 :=
  (cmp4_sg hc hf).uniq (ConS.lt (ConS.root hc h1) (ConS.root hf h2) hl)
theorem cmp4_neg {a b c d e f : Rat} (hc : 0 ≤ c) (hf : 0 ≤ f) : cmp4 d e f a b c = -cmp4 a b c d e f :=
  (cmp4_sg hf hc).uniq ((cmp4_sg hc hf).neg.cg fun n => by grind)
theorem cmp4_apart' {a b c d e f : Rat} {p q : Int × Int} (hc : 0 ≤ c) (hf : 0 ≤ f) (h1 : rootI a b c = some p) (h2 : rootI d e f = some q) (hl : q.2 < p.1) : cmp4 a b c d e f = 1 := by
  have := cmp4_apart hf hc h2 h1 hl
  rw [cmp4_neg hc hf] at this
  omega
/-- With one radicand. -/
theorem cmp4_one {a b c d e : Rat} (hc : 0 ≤ c) : cmp4 a b c d e c = exI (a - d) (b - e) c :=
  (cmp4_sg hc hc).uniq ((v2_sg hc).cg fun n => by unfold v2; grind)
theorem cmpR_sub (a d : Rat) : sgnR (a - d) = cmpR a d := by
  rcases sgn_cases (a - d) with ⟨h, e⟩ | ⟨h, e⟩ | ⟨h, e⟩ <;> rw [e]
  · rw [cmpR_m (by grind)]
  · rw [cmpR_z (by grind)]
  · rw [cmpR_1 (by grind)]
theorem cmp4_rat {a c d f : Rat} (hc : 0 ≤ c) (hf : 0 ≤ f) : cmp4 a 0 c d 0 f = cmpR a d := by
  rw [← cmpR_sub]
  exact (cmp4_sg hc hf).uniq ((SgS.const (a - d)).cg fun n => by unfold v2; grind)
theorem cmp4_self {a b c : Rat} (hc : 0 ≤ c) : cmp4 a b c a b c = 0 :=
  (cmp4_sg hc hc).uniq (.of_nul (NulS.zero.cg fun n => by grind))
end Go.Sw

namespace Go.Sw
open Go
set_option linter.unusedVariables false
theorem ex0 {A B C : Rat} (hA : A = 0) (hB : B = 0) : exI A B C = 0 := by
  subst hA hB
  rw [exI_zero]; exact sgnR_eq0.2 rfl
theorem validR_R (q : Rat) : validR (decide (q.num < 0)) (lim q.num.natAbs) (decide ((q.den : Int) < 0)) (lim (q.den : Int).natAbs) = true := by
  rw [validR_int]
  have h1 := den_pos q
  have h2 := q.reduced
  rw [Bool.and_eq_true, decide_eq_true_eq, decide_eq_true_eq]
  exact ⟨sgnI_eq1.2 h1, by rw [Int.natAbs_natCast]; exact congrArg Int.ofNat h2⟩
/-- The foot of a point on a line. -/
theorem foot_1 {a b c x y : Rat} (h : ¬(a = 0 ∧ b = 0)) : x - (a * x + b * y - c) / (a * a + b * b) * a = x + (c - (a * x + b * y)) / (a * a + b * b) * a ∧ y - (a * x + b * y - c) / (a * a + b * b) * b = y + (c - (a * x + b * y)) / (a * a + b * b) * b := by
  have := sumsq_ne h
  constructor <;> grind
theorem foot_2 {a b c x y : Rat} (h : ¬(a = 0 ∧ b = 0)) : a * (x - (a * x + b * y - c) / (a * a + b * b) * a) + b * (y - (a * x + b * y - c) / (a * a + b * b) * b) - c = 0 := by
  have := sumsq_ne h
  grind
theorem foot_3 {a b c x y k : Rat} : (x - k * a - x) * b = (y - k * b - y) * a := by grind
end Go.Sw
