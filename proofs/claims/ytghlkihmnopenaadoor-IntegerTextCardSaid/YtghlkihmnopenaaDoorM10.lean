/-
  Intervals that contain what a sequence comes near; the signs that they decide.
  Plain laws of lines and circles.
  The distance of a point from a segment, and the height that a tool sweeps.
  Multiples of lines, and circles through three points.
  Validity of lines and circles, with any fields.
  Leaves of the runs of material, distances and signs.
  The simplest number between two others: what the recursion on continued fractions gives (plain laws).
  Texts of integers: their bytes, and the number that digits stand for.
  What Parse makes of a text.
  Texts of fractions: what Parse makes of a text (plain laws).
  Texts of whole numbers: what is written is read again, and the other way round.
  Texts of fractions, and digits that are written one at a time.
  The limbs of a number and its digits.
  Conditions: none.
-/
import Derived.Test.YtghlkihmnopenaaDoorM9
import Derived.Laws.Strings
import Derived.Lib.Bytealg
import Derived.Lib.AppendStr
set_option linter.all false
namespace Go.Sw
open Go
set_option linter.unusedVariables false
theorem Bnd.nul {f : Nat → Rat} (h : NulS f) : Bnd f := by
  obtain ⟨N, hN⟩ := h 1 (by grind)
  exact ⟨1, by grind, N, hN⟩
theorem Bnd.add {f g : Nat → Rat} (h : Bnd f) (k : Bnd g) : Bnd fun n => f n + g n := by
  obtain ⟨B, hB, N, hN⟩ := h
  obtain ⟨D, hD, M, hM⟩ := k
  refine ⟨B + D, by grind, N + M, fun n hn => ?_⟩
  have := hN n (by omega)
  have := hM n (by omega)
  constructor <;> grind
theorem Bnd.cg {f g : Nat → Rat} (h : Bnd f) (e : ∀ n, f n = g n) : Bnd g := by rwa [funext e] at h
/-- An interval contains numbers that come near what a sequence comes near. -/
def ConS (p : Int × Int) (f : Nat → Rat) : Prop := ∃ g : Nat → Rat, NulS (fun n => g n - f n) ∧ ∀ n, con p (g n)
theorem ConS.const {p : Int × Int} {q : Rat} (h : con p q) : ConS p fun _ => q := ⟨fun _ => q, NulS.zero.cg fun n => by grind, fun _ => h⟩
theorem ConS.cg {p : Int × Int} {f g : Nat → Rat} (h : ConS p f) (e : ∀ n, f n = g n) : ConS p g := by rwa [funext e] at h
theorem ConS.add {x y p : Int × Int} {f g : Nat → Rat} (e : addI x y = some p) (h : ConS x f) (k : ConS y g) : ConS p fun n => f n + g n := by
  obtain ⟨u, hu, cu⟩ := h
  obtain ⟨v, hv, cv⟩ := k
  exact ⟨fun n => u n + v n, (hu.add hv).cg fun n => by grind, fun n => con_add e (cu n) (cv n)⟩
theorem ConS.mul {x y p : Int × Int} {f g : Nat → Rat} (e : mulI x y = some p) (hf : Cau f) (hg : Cau g) (h : ConS x f) (k : ConS y g) : ConS p fun n => f n * g n := by
  obtain ⟨u, hu, cu⟩ := h
  obtain ⟨v, hv, cv⟩ := k
  have bv : Bnd v := (hg.bnd.add (Bnd.nul hv)).cg fun n => by grind
  exact ⟨fun n => u n * v n, ((hu.mul bv).add (hv.mul hf.bnd)).cg fun n => by grind, fun n => con_mul e (cu n) (cv n)⟩
theorem ConS.lt {p q : Int × Int} {f g : Nat → Rat} (h : ConS p f) (k : ConS q g) (hl : p.2 < q.1) : SgS (fun n => f n - g n) (-1) := by
  obtain ⟨u, hu, cu⟩ := h
  obtain ⟨v, hv, cv⟩ := k
  have := Rat.intCast_lt_intCast.2 hl
  have key : SgS (fun n => u n - v n) (-1) := .of_npos ⟨((q.1 : Rat) - (p.2 : Rat)) * (1 / 131072), by grind, 0, fun n _ => by
    have := (cu n).2
    have := (cv n).1
    grind⟩
  exact key.near ((hv.sub hu).cg fun n => by grind)
end Go.Sw

namespace Go.Sw
open Go
set_option linter.unusedVariables false
end Go.Sw

namespace Go.Sw
open Go
set_option linter.unusedVariables false
/-- The square of the distance of (x, y) from the segment from (a, b) to (c, d). -/
def segD (a b c d x y : Rat) : Rat :=
  if (c - a) * (x - a) + (d - b) * (y - b) ≤ 0 then (x - a) * (x - a) + (y - b) * (y - b)
  else if (c - a) * (c - a) + (d - b) * (d - b) ≤ (c - a) * (x - a) + (d - b) * (y - b) then (x - c) * (x - c) + (y - d) * (y - d)
  else ((c - a) * (y - b) - (d - b) * (x - a)) * ((c - a) * (y - b) - (d - b) * (x - a)) / ((c - a) * (c - a) + (d - b) * (d - b))
theorem rz_segD {a b c d x y : Rat} {m1 m2 m3 m4 m5 m6 : Nat} (h1 : rz a ≤ m1) (h2 : rz b ≤ m2) (h3 : rz c ≤ m3) (h4 : rz d ≤ m4) (h5 : rz x ≤ m5) (h6 : rz y ≤ m6) : rz (segD a b c d x y) ≤ 64 * (m1 + m2 + m3 + m4 + m5 + m6) + 64 := by
  have a1 := rz_sub c a; have a2 := rz_sub d b; have a3 := rz_sub x a; have a4 := rz_sub y b; have a5 := rz_sub x c; have a6 := rz_sub y d
  have b1 := rz_mul (x - a) (x - a); have b2 := rz_mul (y - b) (y - b); have b3 := rz_mul (x - c) (x - c); have b4 := rz_mul (y - d) (y - d)
  have b5 := rz_mul (c - a) (y - b); have b6 := rz_mul (d - b) (x - a); have b7 := rz_mul (c - a) (c - a); have b8 := rz_mul (d - b) (d - b)
  have c1 := rz_add ((x - a) * (x - a)) ((y - b) * (y - b)); have c2 := rz_add ((x - c) * (x - c)) ((y - d) * (y - d)); have c3 := rz_add ((c - a) * (c - a)) ((d - b) * (d - b))
  have c4 := rz_sub ((c - a) * (y - b)) ((d - b) * (x - a))
  have c5 := rz_mul ((c - a) * (y - b) - (d - b) * (x - a)) ((c - a) * (y - b) - (d - b) * (x - a))
  unfold segD
  split
  · omega
  · split
    · omega
    · by_cases h0 : (c - a) * (c - a) + (d - b) * (d - b) = 0
      · rw [h0, Rat.div_def, Rat.inv_zero, Rat.mul_zero]; have := rz_0; omega
      · have := rz_div (((c - a) * (y - b) - (d - b) * (x - a)) * ((c - a) * (y - b) - (d - b) * (x - a))) _ h0
        omega
instance {a b c d x y : Rat} {m1 m2 m3 m4 m5 m6 : Nat} [h1 : RzB a m1] [h2 : RzB b m2] [h3 : RzB c m3] [h4 : RzB d m4] [h5 : RzB x m5] [h6 : RzB y m6] : RzB (segD a b c d x y) (64 * (m1 + m2 + m3 + m4 + m5 + m6) + 64) := ⟨rz_segD h1.h h2.h h3.h h4.h h5.h h6.h⟩
/-- The tool comes over the point. -/
def swOn (fx fy tx ty : Rat) (r : Int) (x y : Rat) : Prop := 0 ≤ r ∧ segD fx fy tx ty x y ≤ (r : Rat) * (r : Rat)
instance {fx fy tx ty : Rat} {r : Int} {x y : Rat} : Decidable (swOn fx fy tx ty r x y) := by unfold swOn; infer_instance
end Go.Sw

namespace Go.Sw
open Go
set_option linter.unusedVariables false
section
variable (a b c d e f : Rat)
end
end Go.Sw

namespace Go.Sw
open Go
set_option linter.unusedVariables false
end Go.Sw

namespace Go.Sw
open Go
set_option linter.unusedVariables false
section
variable {a b c d m n x y : Rat}
end
section
variable {fx fy tx ty x y : Rat} {r fz tz : Int}
end
section
variable {fx fy tx ty x y : Rat} {r fz tz : Int}
end
end Go.Sw

namespace Go.Sw
open Go
set_option linter.unusedVariables false
section
variable {m : Nat} {M : Int} {a b : Rat}
instance {a : Rat} {n : Nat} [i : RzB a n] : RzB ((a.floor : Int) : Rat) (n + 1) := ⟨by have := rz_int a.floor; have := sz_floor a; have := i.h; omega⟩
instance : RzB ((1 : Int) : Rat) 2 := ⟨by decide +kernel⟩
end
end Go.Sw

namespace Go.Sw
open Go Go.RowKit
set_option linter.unusedVariables false
/-- The bytes of a string. -/
def bsL (s : ByteArray) : List Nat := s.data.toList.map fun b => b.toNat
theorem bsL_len (s : ByteArray) : (bsL s).length = s.size := by simp [bsL]
theorem bsL_get (s : ByteArray) (j : Nat) : (s.data.toList.getD j 0).toNat = (bsL s).getD j 0 := by
  unfold bsL
  rw [List.getD_eq_getElem?_getD, List.getD_eq_getElem?_getD, List.getElem?_map]
  cases s.data.toList[j]? <;> rfl
theorem bsL_inj {a b : ByteArray} (h : bsL a = bsL b) : a = b := by
  have : a.data.toList = b.data.toList := by
    unfold bsL at h
    exact (List.map_inj_right (fun x y h => UInt8.toNat_inj.1 h)).1 h
  cases a; cases b
  simpa using this
theorem eqb_iff (a b : ByteArray) : (a.toList == b.toList) = decide (bsL a = bsL b) := by
  rw [ByteArray.toList_eq, ByteArray.toList_eq]
  by_cases h : bsL a = bsL b
  · rw [decide_eq_true h, bsL_inj h]; simp
  · rw [decide_eq_false h]
    rw [beq_eq_false_iff_ne]
    exact fun e => h (by unfold bsL; rw [e])
theorem bsL_ext (s : ByteArray) (a b : Nat) : bsL (s.extract a b) = ((bsL s).take b).drop a := by
  unfold bsL
  rw [ByteArray.data_extract, Array.toList_extract, List.extract_eq_take_drop, ← List.map_take, ← List.map_drop, List.drop_take]
theorem bytesC_eq (s : ByteArray) : bytesC s = (bsL s).map fun c => [Cell.v (.int .u8 (c : Nat))] := by unfold bytesC bsL; rw [List.map_map]; rfl
theorem strAt_i {s : ByteArray} {i : Int} {k : Int → Prop} (hp : Pr (0 ≤ i ∧ i < s.size)) (hk : k (((bsL s).getD i.toNat 0 : Nat) : Int)) : StrAt s i k := by
  obtain ⟨⟨h1, h2⟩⟩ := hp
  exact ⟨i.toNat, by omega, by omega, by rw [bsL_get]; exact hk⟩
theorem elem_b {s : ByteArray} {i : Int} {k : List Cell → Prop} (hp : Pr (0 ≤ i ∧ i < s.size)) (hk : k [.v (.int .u8 ((bsL s).getD i.toNat 0 : Nat))]) : Elem (bytesC s) i k := by
  rw [bytesC_eq]
  exact elem_map 0 (f := fun c : Nat => [Cell.v (.int .u8 (c : Nat))]) ⟨by rw [bsL_len]; exact hp.p⟩ hk
theorem bytesC_len (s : ByteArray) : (bytesC s).length = s.size := by simp [bytesC]
/-! ### Decimal digits -/
def decV (l : List Nat) : Nat := l.foldl (fun a c => 10 * a + (c - 48)) 0
theorem fold_dec (l : List Nat) : ∀ x, l.foldl (fun a c => 10 * a + (c - 48)) x = x * 10 ^ l.length + decV l := by
  induction l with
  | nil => intro x; simp [decV]
  | cons c r ih =>
    intro x
    unfold decV
    simp only [List.foldl_cons, List.length_cons]
    rw [ih, ih (10 * 0 + (c - 48)), Nat.pow_succ]
    grind
theorem decV_app (a b : List Nat) : decV (a ++ b) = decV a * 10 ^ b.length + decV b := by
  unfold decV
  rw [List.foldl_append, fold_dec]; rfl
theorem decV_snoc (a : List Nat) (c : Nat) : decV (a ++ [c]) = 10 * decV a + (c - 48) := by
  rw [decV_app]; simp [decV]; omega
theorem decV_lt {l : List Nat} (h : ∀ c ∈ l, c ≤ 57) : decV l < 10 ^ l.length := by
  induction l with
  | nil => decide
  | cons c r ih =>
    have h1 := ih fun x hx => h x (by simp [hx])
    have h2 := h c (by simp)
    rw [show c :: r = [c] ++ r from rfl, decV_app, List.length_append, Nat.pow_add]
    have h3 : decV [c] ≤ 9 := by simp [decV]; omega
    have := Nat.mul_le_mul_right (10 ^ r.length) h3
    simp only [List.length_singleton, Nat.pow_one]
    omega
/-- The number in the m-th group of nine digits from the end. -/
def chk (l : List Nat) (m : Nat) : Nat := decV ((l.take (l.length - 9 * m)).drop (l.length - 9 * (m + 1)))
def grp (l : List Nat) (m : Nat) : List Nat := (List.range m).map (chk l)
theorem grp_len (l : List Nat) (m : Nat) : (grp l m).length = m := by simp [grp]
theorem grp_snoc (l : List Nat) (m : Nat) : grp l (m + 1) = grp l m ++ [chk l m] := by simp [grp, List.range_succ]
theorem chk_lt {l : List Nat} (h : ∀ c ∈ l, c ≤ 57) (m : Nat) : chk l m < 1000000000 := by
  have h1 : decV ((l.take (l.length - 9 * m)).drop (l.length - 9 * (m + 1))) < 10 ^ ((l.take (l.length - 9 * m)).drop (l.length - 9 * (m + 1))).length :=
    decV_lt fun c hc => h c (List.mem_of_mem_take (List.mem_of_mem_drop hc))
  have h2 : ((l.take (l.length - 9 * m)).drop (l.length - 9 * (m + 1))).length ≤ 9 := by rw [List.length_drop, List.length_take]; omega
  have h3 : 10 ^ ((l.take (l.length - 9 * m)).drop (l.length - 9 * (m + 1))).length ≤ 10 ^ 9 := Nat.pow_le_pow_right (by decide) h2
  unfold chk
  omega
theorem grp_lb {l : List Nat} (h : ∀ c ∈ l, c ≤ 57) (m : Nat) : Lb (grp l m) := fun x hx => by
  obtain ⟨j, _, rfl⟩ := List.mem_map.1 hx
  exact chk_lt h j
theorem val_grp (l : List Nat) : ∀ m, val (grp l m) = decV (l.drop (l.length - 9 * m))
  | 0 => by simp [grp, val, decV]
  | m + 1 => by
    rw [grp_snoc, val_append, val_grp l m, grp_len]
    simp only [val, Nat.mul_zero, Nat.add_zero]
    have e : l.drop (l.length - 9 * (m + 1)) = (l.take (l.length - 9 * m)).drop (l.length - 9 * (m + 1)) ++ l.drop (l.length - 9 * m) := by
      have h1 := List.take_append_drop (l.length - 9 * m) l
      have h2 : l.length - 9 * (m + 1) ≤ (l.take (l.length - 9 * m)).length := by rw [List.length_take]; omega
      have h3 := List.drop_append_of_le_length (l₂ := l.drop (l.length - 9 * m)) h2
      rw [h1] at h3
      exact h3
    rw [e, decV_app]
    show decV _ + 1000000000 ^ m * chk l m = chk l m * 10 ^ _ + _
    by_cases hm : 9 * m ≤ l.length
    · have : (l.drop (l.length - 9 * m)).length = 9 * m := by rw [List.length_drop]; omega
      rw [this, show (1000000000 : Nat) = 10 ^ 9 from rfl, ← Nat.pow_mul]
      grind
    · have hz : chk l m = 0 := by
        unfold chk
        rw [show l.length - 9 * m = 0 by omega]
        simp [decV]
      rw [hz]; omega
theorem val_grp_all {l : List Nat} {m : Nat} (h : l.length ≤ 9 * m) : val (grp l m) = decV l := by rw [val_grp, show l.length - 9 * m = 0 by omega, List.drop_zero]
end Go.Sw

namespace Go.Sw
open Go Go.RowKit
set_option linter.unusedVariables false
@[reducible] def mB : ByteArray := ⟨#[45]⟩
@[reducible] def AV.str (s : ByteArray) : AV := .c (.v (.string s))
def pfx (s p : ByteArray) : Bool := decide (p.size ≤ s.size) && decide ((bsL s).take p.size = bsL p)
def cutP (s p : ByteArray) : ByteArray := if pfx s p = true then s.extract p.size s.size else s
theorem hp_y {s p : ByteArray} (h : (s.size : Int) ≥ p.size) : packA [AV.c (Cell.v (.bool ((s.extract 0 p.size).toList == p.toList)))] = AV.bool (pfx s p) := by
  refine bE ?_
  unfold pfx
  rw [eqb_iff, bsL_ext, decide_eq_true (show p.size ≤ s.size by omega), Bool.true_and, List.drop_zero]
theorem hp_n {s p : ByteArray} (h : ¬(s.size : Int) ≥ p.size) : packA [AV.c (Cell.v (.bool false))] = AV.bool (pfx s p) := by
  refine bE ?_
  unfold pfx
  rw [decide_eq_false (show ¬p.size ≤ s.size by omega)]; rfl
theorem cp_n {s p : ByteArray} (h : (!pfx s p) = true) : packA [AV.c (Cell.v (.string s)), AV.c (Cell.v (.bool false))] = AV.tup [AV.str (cutP s p), AV.bool (pfx s p)] := by
  have h : pfx s p = false := by simpa using h
  unfold cutP
  rw [h, if_neg (by decide)]; rfl
theorem cp_y {s p : ByteArray} (h : (!pfx s p) = false) : packA [AV.c (Cell.v (.string (s.extract p.size s.size))), AV.c (Cell.v (.bool true))] = AV.tup [AV.str (cutP s p), AV.bool (pfx s p)] := by
  have h : pfx s p = true := by simpa using h
  unfold cutP
  rw [h, if_pos rfl]; rfl
theorem pfx_le {s p : ByteArray} (h : (!pfx s p) = false) : p.size ≤ s.size := by
  have h : pfx s p = true := by simpa using h
  unfold pfx at h
  simp only [Bool.and_eq_true, decide_eq_true_eq] at h
  exact h.1
theorem cutP_size (s p : ByteArray) : (cutP s p).size ≤ s.size := by
  unfold cutP
  split
  · rw [ByteArray.size_extract]; omega
  · omega
def dgt (l : List Nat) (j : Nat) : Prop := 48 ≤ l.getD j 0 ∧ l.getD j 0 ≤ 57
instance {l : List Nat} {j : Nat} : Decidable (dgt l j) := by unfold dgt; infer_instance
/-- The text of an integer. -/
def okI (s : ByteArray) : Bool :=
  decide (0 < (cutP s mB).size) && (decide (s.size ≤ 65536) && (!(decide ((bsL (cutP s mB)).getD 0 0 = 48) && (decide (1 < (cutP s mB).size) || pfx s mB)) && decide (∀ j, j < (cutP s mB).size → dgt (bsL (cutP s mB)) j)))
def parN (s : ByteArray) : Int := if okI s = true then sgnv (pfx s mB) (decV (bsL (cutP s mB))) else 0
def parE (s : ByteArray) : Int := if okI s = true then 0 else 2
@[reducible] def parR (s : ByteArray) : AV := .tup [Z (parN s), .int .i64 (parE s)]
theorem z0_eq : Z 0 = AV.agg [Cell.v (.bool false), Cell.sl 1 []] := by
  show AV.agg [Cell.v (.bool (decide ((0 : Int) < 0))), lmc (lim (0 : Int).natAbs)] = _
  rw [show (0 : Int).natAbs = 0 from rfl, lim_zero]; rfl
theorem par_no {s : ByteArray} (h : okI s = false) : packA [AV.agg [Cell.v (.bool false), Cell.sl 1 []], AV.c (Cell.v (.int .i64 2))] = parR s := by
  unfold parR parN parE
  rw [h, if_neg (by decide), if_neg (by decide), z0_eq]; rfl
theorem par_yes {s : ByteArray} (h : okI s = true) {l : List Nat} (hl : val l = decV (bsL (cutP s mB))) : packA [Z (sgnv (pfx s mB) (val l)), AV.c (Cell.v (.int .i64 0))] = parR s := by
  unfold parR parN parE
  rw [h, if_pos rfl, if_pos rfl, hl]; rfl
theorem dgts {b : ByteArray} (h : ∀ j, j < b.size → dgt (bsL b) j) : ∀ c ∈ bsL b, c ≤ 57 := fun c hc => by
  obtain ⟨j, hj, e⟩ := List.getElem_of_mem hc
  have := h j (by rwa [bsL_len] at hj)
  unfold dgt at this
  rw [List.getD_eq_getElem?_getD, List.getElem?_eq_getElem hj, e] at this
  exact this.2
/-! ### The rounds of Parse -/
section
variable {s b : ByteArray} {k m : Nat}
theorem ok_n1 (h : bsL (cutP s mB) = bsL ⟨#[]⟩) : okI s = false := by
  have : (cutP s mB).size = 0 := by rw [← bsL_len, h]; rfl
  unfold okI; rw [decide_eq_false (by omega)]; rfl
theorem ok_n2 (h : (s.size : Int) > 65536) : okI s = false := by
  unfold okI; rw [decide_eq_false (show ¬s.size ≤ 65536 by omega)]; simp
theorem ok_n3 (h : (((bsL (cutP s mB)).getD 0 0 : Nat) : Int) = 48) (h2 : ((cutP s mB).size : Int) > 1) : okI s = false := by
  unfold okI
  rw [decide_eq_true (show (bsL (cutP s mB)).getD 0 0 = 48 by omega), decide_eq_true (show 1 < (cutP s mB).size by omega)]; simp
theorem ok_n4 (h : (((bsL (cutP s mB)).getD 0 0 : Nat) : Int) = 48) (h2 : pfx s mB = true) : okI s = false := by
  unfold okI
  rw [decide_eq_true (show (bsL (cutP s mB)).getD 0 0 = 48 by omega), h2]; simp
theorem ok_n5 (hk : k < (cutP s mB).size) (h : ¬dgt (bsL (cutP s mB)) k) : okI s = false := by
  unfold okI
  rw [decide_eq_false (show ¬∀ j, j < (cutP s mB).size → dgt (bsL (cutP s mB)) j from fun g => h (g k hk))]; simp
theorem ok_y (h1 : ¬bsL (cutP s mB) = bsL ⟨#[]⟩) (h2 : ¬(s.size : Int) > 65536) (h3 : ¬((((bsL (cutP s mB)).getD 0 0 : Nat) : Int) = 48 ∧ (((cutP s mB).size : Int) > 1 ∨ pfx s mB = true)))
    (h4 : ∀ j, j < (cutP s mB).size → dgt (bsL (cutP s mB)) j) : okI s = true := by
  have e1 : 0 < (cutP s mB).size := by
    refine Nat.pos_of_ne_zero fun e => h1 ?_
    have : (bsL (cutP s mB)).length = 0 := by rw [bsL_len, e]
    rw [List.length_eq_zero_iff.1 this]; rfl
  unfold okI
  rw [decide_eq_true e1, decide_eq_true (show s.size ≤ 65536 by omega), decide_eq_true h4]
  by_cases g : (bsL (cutP s mB)).getD 0 0 = 48
  · rw [decide_eq_true g, decide_eq_false (fun g2 => h3 ⟨by omega, .inl (by omega)⟩)]
    cases hp : pfx s mB with
    | true => exact absurd ⟨by omega, .inr hp⟩ h3
    | false => rfl
  · rw [decide_eq_false g]; rfl
theorem dg_lo (h : (((bsL b).getD k 0 : Nat) : Int) < 48) : ¬dgt (bsL b) k := fun g => by have := g.1; omega
theorem dg_hi (h : (((bsL b).getD k 0 : Nat) : Int) > 57) : ¬dgt (bsL b) k := fun g => by have := g.2; omega
theorem dg_step (h : ∀ j, j < k → dgt (bsL b) j) (h1 : ¬(((bsL b).getD k 0 : Nat) : Int) < 48) (h2 : ¬(((bsL b).getD k 0 : Nat) : Int) > 57) : ∀ j, j < k + 1 → dgt (bsL b) j := fun j hj => by
  rcases Nat.lt_succ_iff_lt_or_eq.1 hj with g | g
  · exact h j g
  · subst g; unfold dgt; omega
/-- The bytes of the m-th group from the end. -/
def gbs (b : ByteArray) (m : Nat) : List Nat := ((bsL b).take (b.size - 9 * m)).drop (b.size - 9 * (m + 1))
theorem gbs_len (b : ByteArray) (m : Nat) : (gbs b m).length = b.size - 9 * m - (b.size - 9 * (m + 1)) := by
  unfold gbs; rw [List.length_drop, List.length_take, bsL_len]; omega
theorem gbs_ext (b : ByteArray) (m : Nat) : bsL (b.extract (b.size - 9 * (m + 1)) (b.size - 9 * m)) = gbs b m := bsL_ext b _ _
theorem gbs_get (b : ByteArray) (m j : Nat) (h : j < (gbs b m).length) : (gbs b m).getD j 0 = (bsL b).getD (b.size - 9 * (m + 1) + j) 0 := by
  rw [gbs_len] at h
  unfold gbs
  rw [List.getD_eq_getElem?_getD, List.getD_eq_getElem?_getD, List.getElem?_drop, List.getElem?_take, if_pos (by omega)]
theorem gbs_dg (h : ∀ j, j < b.size → dgt (bsL b) j) (hj : k < (gbs b m).length) : 48 ≤ (gbs b m).getD k 0 ∧ (gbs b m).getD k 0 ≤ 57 := by
  have h2 := hj
  rw [gbs_len] at h2
  have := h (b.size - 9 * (m + 1) + k) (by omega)
  unfold dgt at this
  rw [gbs_get b m k hj]
  exact this
theorem gbs_lt (h : ∀ j, j < b.size → dgt (bsL b) j) (hj : k ≤ (gbs b m).length) : decV ((gbs b m).take k) < 10 ^ k := by
  have := decV_lt (l := (gbs b m).take k) fun c hc => dgts h c (List.mem_of_mem_take (List.mem_of_mem_drop (List.mem_of_mem_take hc)))
  rw [List.length_take, Nat.min_eq_left hj] at this
  exact this
theorem gbs_step (hj : k < (gbs b m).length) : decV ((gbs b m).take (k + 1)) = 10 * decV ((gbs b m).take k) + ((gbs b m).getD k 0 - 48) := by
  have : (gbs b m).take (k + 1) = (gbs b m).take k ++ [(gbs b m).getD k 0] := by
    rw [List.take_succ, List.getD_eq_getElem?_getD, List.getElem?_eq_getElem hj]; rfl
  rw [this, decV_snoc]
theorem gbs_end (b : ByteArray) (m : Nat) (hj : ¬k < (gbs b m).length) : decV ((gbs b m).take k) = chk (bsL b) m := by
  rw [List.take_of_length_le (by omega)]
  unfold gbs chk
  rw [bsL_len]
theorem u32_step {x : Nat} {c : Nat} (hx : x < 100000000) (hc : 48 ≤ c ∧ c ≤ 57) :
    IntKind.u32.wrap (IntKind.u32.wrap (10 * (x : Int)) + IntKind.u32.wrap (IntKind.u8.wrap ((c : Int) - 48))) = ((10 * x + (c - 48) : Nat) : Int) := by
  simp only [IntKind.wrap_u32, IntKind.wrap_u8]
  omega
theorem grpG {T : TypeId} {l : List Nat} {x : Nat} (h : x = chk l m) : some (Bk.grow T 1 (((grp l m).map fun x => [Cell.v (u32 x)]) ++ [[Cell.v (.int .u32 (x : Nat))]])) = some (Bk.grow T 1 ((grp l (m + 1)).map fun x => [Cell.v (u32 x)])) := by
  rw [grp_snoc, List.map_append, h]; rfl
theorem ne_size (h : ¬bsL b = bsL ⟨#[]⟩) : 0 ≤ (0 : Int) ∧ (0 : Int) < (b.size : Nat) := by
  refine ⟨Int.le_refl _, ?_⟩
  have : 0 < b.size := by
    refine Nat.pos_of_ne_zero fun e => h ?_
    have : (bsL b).length = 0 := by rw [bsL_len, e]
    rw [List.length_eq_zero_iff.1 this]; rfl
  omega
theorem gbs_u32 {q : Nat} (h : ∀ j, j < b.size → dgt (bsL b) j) (hq : q < (gbs b m).length) :
    some (AV.int .u32 (IntKind.u32.wrap (IntKind.u32.wrap (10 * (decV ((gbs b m).take q) : Nat)) + IntKind.u32.wrap (IntKind.u8.wrap (((bsL (b.extract (b.size - 9 * (m + 1)) (b.size - 9 * m))).getD q 0 : Nat) - 48))))) = some (AV.int .u32 (decV ((gbs b m).take (q + 1)) : Nat)) := by
  rw [gbs_ext, gbs_step hq]
  have h1 := gbs_lt (m := m) h (Nat.le_of_lt hq)
  have h2 : (gbs b m).length ≤ 9 := by rw [gbs_len]; omega
  have h3 : 10 ^ q ≤ 10 ^ 8 := Nat.pow_le_pow_right (by decide) (by omega)
  rw [u32_step (by omega) (gbs_dg h hq)]
theorem grpX {T : TypeId} {q : Nat} (hq : ¬q < (gbs b m).length) : some (Bk.grow T 1 (((grp (bsL b) m).map fun x => [Cell.v (u32 x)]) ++ [[Cell.v (.int .u32 (decV ((gbs b m).take q) : Nat))]])) = some (Bk.grow T 1 ((grp (bsL b) (m + 1)).map fun x => [Cell.v (u32 x)])) := grpG (gbs_end b m hq)
theorem ok_a {c n : Int} {p : Bool} (h : ¬c = 48) : ¬(c = 48 ∧ (n > 1 ∨ p = true)) := fun g => h g.1
theorem ok_b {c n : Int} {p : Bool} (h : ¬n > 1) (h2 : p = false) : ¬(c = 48 ∧ (n > 1 ∨ p = true)) := fun g => by
  rcases g.2 with g | g
  · exact h g
  · rw [h2] at g; cases g
theorem all_of (h1 : k ≤ b.size) (h2 : ¬(k : Int) < b.size) (h : ∀ j, j < k → dgt (bsL b) j) : ∀ j, j < b.size → dgt (bsL b) j := fun j hj => h j (by omega)
theorem grp_end (h : ¬((b.size : Nat) : Int) - 9 * (m : Int) > 0) : val (grp (bsL b) m) = decV (bsL b) := val_grp_all (by rw [bsL_len]; omega)
theorem ext_eq {a c a' c' : Nat} (h1 : a = a') (h2 : c = c') : some (AV.c (Cell.sl 1 (bytesC (b.extract a c)))) = some (AV.c (Cell.sl 1 (bytesC (b.extract a' c')))) := by rw [h1, h2]
end
end Go.Sw

namespace Go.Sw
open Go
set_option linter.unusedVariables false
theorem strE {a b : ByteArray} (h : a = b) : packA [AV.c (Cell.v (.string a))] = AV.str b := by subst h; rfl
end Go.Sw

namespace Go.Sw
open Go Go.Lib
set_option linter.unusedVariables false
/-- Digits as numbers. -/
def dgl (n : Nat) : List Nat := (decDigits n).map fun b => b.toNat
theorem dg_nat {k : Nat} (h : k < 10) : (UInt8.ofNat (48 + k)).toNat = 48 + k := by
  have : k = 0 ∨ k = 1 ∨ k = 2 ∨ k = 3 ∨ k = 4 ∨ k = 5 ∨ k = 6 ∨ k = 7 ∨ k = 8 ∨ k = 9 := by omega
  rcases this with rfl | rfl | rfl | rfl | rfl | rfl | rfl | rfl | rfl | rfl <;> rfl
theorem dgl_small {n : Nat} (h : n < 10) : dgl n = [48 + n] := by unfold dgl; rw [dec_small h, List.map_cons, dg_nat h]; rfl
theorem dgl_big {n : Nat} (h : ¬n < 10) : dgl n = dgl (n / 10) ++ [48 + n % 10] := by
  unfold dgl; rw [dec_big h, List.map_append, List.map_cons, dg_nat (Nat.mod_lt _ (by decide))]; rfl
theorem dgl_val (n : Nat) : decV (dgl n) = n := by
  induction n using Nat.strongRecOn with
  | _ n ih =>
    by_cases h : n < 10
    · rw [dgl_small h]; simp [decV]
    · rw [dgl_big h, decV_snoc, ih (n / 10) (by omega)]; omega
theorem dgl_dg (n : Nat) : ∀ c ∈ dgl n, 48 ≤ c ∧ c ≤ 57 := by
  induction n using Nat.strongRecOn with
  | _ n ih =>
    intro c hc
    by_cases h : n < 10
    · rw [dgl_small h] at hc; simp at hc; omega
    · rw [dgl_big h] at hc
      rcases List.mem_append.1 hc with g | g
      · exact ih (n / 10) (by omega) c g
      · simp at g; omega
theorem dgl_len (n : Nat) : (dgl n).length = nDigits n := by unfold dgl; rw [List.length_map, decDigits_length]
theorem dgl_head {n : Nat} (h : 0 < n) : (dgl n).getD 0 0 ≠ 48 := by
  obtain ⟨d, r, h1, h2⟩ := dec_head n h
  unfold dgl
  rw [h1]
  show d.toNat ≠ 48
  intro e
  exact h2 (UInt8.toNat_inj.1 (by rw [e]; rfl))
theorem bsL_mk (l : List UInt8) : bsL ⟨l.toArray⟩ = l.map fun b => b.toNat := rfl
theorem bsL_fmt (n : Int) : bsL (fmtD n) = (if n < 0 then [45] else []) ++ dgl n.natAbs := by
  unfold fmtD
  rw [bsL_mk, List.map_append]
  congr 1
  split <;> rfl
theorem pfx_iff (s : ByteArray) : pfx s mB = decide ((bsL s).take 1 = [45]) := by
  unfold pfx
  rw [show bsL mB = [45] from rfl, show mB.size = 1 from rfl]
  by_cases h : (bsL s).take 1 = [45]
  · have : 1 ≤ s.size := by
      rw [← bsL_len]
      have := congrArg List.length h
      rw [List.length_take, List.length_singleton] at this
      omega
    rw [decide_eq_true h, decide_eq_true this]; rfl
  · rw [decide_eq_false h, Bool.and_false]
theorem bsL_cut (s : ByteArray) : bsL (cutP s mB) = if pfx s mB = true then (bsL s).drop 1 else bsL s := by
  unfold cutP
  split
  · rw [bsL_ext, show s.size = (bsL s).length from (bsL_len s).symm, List.take_length]; rfl
  · rfl
theorem dgl_ne (n : Nat) : (dgl n).take 1 ≠ [45] := by
  intro e
  have h : 45 ∈ dgl n := List.mem_of_mem_take (i := 1) (by rw [e]; exact List.mem_singleton.2 rfl)
  have := (dgl_dg n 45 h).1
  omega
theorem pfx_fmt (n : Int) : pfx (fmtD n) mB = decide (n < 0) := by
  rw [pfx_iff, bsL_fmt]
  by_cases h : n < 0
  · rw [if_pos h, decide_eq_true h]; rfl
  · rw [if_neg h, decide_eq_false h, List.nil_append]
    exact decide_eq_false (dgl_ne _)
theorem cut_fmt (n : Int) : bsL (cutP (fmtD n) mB) = dgl n.natAbs := by
  rw [bsL_cut, pfx_fmt, bsL_fmt]
  by_cases h : n < 0
  · rw [decide_eq_true h, if_pos rfl, if_pos h]; rfl
  · rw [decide_eq_false h, if_neg (by decide), if_neg h, List.nil_append]
theorem fmtD_size (n : Int) : (fmtD n).size = (if n < 0 then 1 else 0) + nDigits n.natAbs := by
  rw [← bsL_len, bsL_fmt, List.length_append, dgl_len]
  congr 1
  split <;> rfl
theorem okI_fmt {n : Int} (h : (fmtD n).size ≤ 65536) : okI (fmtD n) = true := by
  have hl : (cutP (fmtD n) mB).size = nDigits n.natAbs := by rw [← bsL_len, cut_fmt, dgl_len]
  have hp := nDigits_pos n.natAbs
  unfold okI
  rw [cut_fmt, hl, pfx_fmt, decide_eq_true (show 0 < nDigits n.natAbs by omega), decide_eq_true h]
  have h1 : (∀ j, j < nDigits n.natAbs → dgt (dgl n.natAbs) j) := fun j hj => by
    have := dgl_dg n.natAbs ((dgl n.natAbs).getD j 0) (by
      rw [List.getD_eq_getElem?_getD, List.getElem?_eq_getElem (by rw [dgl_len]; exact hj)]
      exact List.getElem_mem _)
    exact this
  rw [decide_eq_true h1]
  by_cases h0 : n.natAbs = 0
  · have : n = 0 := by omega
    subst this
    rw [nDigits_small (show (0 : Int).natAbs < 10 by decide)]
    simp
  · rw [decide_eq_false (dgl_head (by omega))]; simp
theorem parN_fmt {n : Int} (h : (fmtD n).size ≤ 65536) : parN (fmtD n) = n := by
  unfold parN
  rw [okI_fmt h, if_pos rfl, pfx_fmt, cut_fmt, dgl_val]
  exact sgnv_of n
theorem parE_fmt {n : Int} (h : (fmtD n).size ≤ 65536) : parE (fmtD n) = 0 := by
  unfold parE
  rw [okI_fmt h, if_pos rfl]
end Go.Sw

namespace Go.Sw
open Go Go.Lib
set_option linter.unusedVariables false
theorem bsL_app (a b : ByteArray) : bsL (a ++ b) = bsL a ++ bsL b := by
  unfold bsL
  rw [ByteArray.data_append, Array.toList_append, List.map_append]
/-! ### Digits that are set at their places -/
theorem decV_set : ∀ {l : List Nat} {i c : Nat} (hi : i < l.length), l.getD i 0 = 48 → 48 ≤ c → decV (l.set i c) = decV l + (c - 48) * 10 ^ (l.length - 1 - i)
  | x :: r, 0, c, _, h, hc => by
    have h : x = 48 := h
    subst h
    rw [List.set_cons_zero, show c :: r = [c] ++ r from rfl, show 48 :: r = [48] ++ r from rfl, decV_app, decV_app]
    simp [decV]; omega
  | x :: r, i + 1, c, hi, h, hc => by
    have hi : i < r.length := by simpa using hi
    rw [List.set_cons_succ, show x :: r.set i c = [x] ++ r.set i c from rfl, show x :: r = [x] ++ r from rfl, decV_app, decV_app, List.length_set, decV_set hi h hc, List.length_append, List.length_singleton, show 1 + r.length - 1 - (i + 1) = r.length - 1 - i by omega]
    omega
theorem chk_set {l : List Nat} {i c : Nat} (hi : i < l.length) (h : l.getD i 0 = 48) (hc : 48 ≤ c) (m : Nat) :
    chk (l.set i c) m = chk l m + if m = (l.length - 1 - i) / 9 then (c - 48) * 10 ^ ((l.length - 1 - i) % 9) else 0 := by
  unfold chk
  rw [List.length_set, List.take_set, List.drop_set]
  by_cases h1 : i < l.length - 9 * (m + 1)
  · rw [if_pos h1, if_neg (by omega)]; rfl
  · rw [if_neg h1]
    by_cases h2 : i < l.length - 9 * m
    · rw [if_pos (by omega)]
      have hlen : ((l.take (l.length - 9 * m)).drop (l.length - 9 * (m + 1))).length = l.length - 9 * m - (l.length - 9 * (m + 1)) := by rw [List.length_drop, List.length_take]; omega
      rw [decV_set (by omega) ?_ hc, hlen]
      · congr 2
        congr 1
        omega
      · rw [List.getD_eq_getElem?_getD, List.getElem?_drop, List.getElem?_take, if_pos (by omega), show l.length - 9 * (m + 1) + (i - (l.length - 9 * (m + 1))) = i by omega, ← List.getD_eq_getElem?_getD]; exact h
    · rw [if_neg (by omega), List.set_eq_of_length_le]; · rfl
      rw [List.length_drop, List.length_take]; omega
/-- The first x of the digits, noughts behind them. -/
def fstD (l : List Nat) (x : Nat) : List Nat := l.take x ++ List.replicate (l.length - x) 48
theorem fstD_len {l : List Nat} {x : Nat} (hx : x ≤ l.length) : (fstD l x).length = l.length := by unfold fstD; rw [List.length_append, List.length_take, List.length_replicate]; omega
theorem fstD_step {l : List Nat} {x : Nat} (hx : x < l.length) : fstD l (x + 1) = (fstD l x).set x (l.getD x 0) ∧ (fstD l x).getD x 0 = 48 := by
  unfold fstD
  have e : l.length - x = (l.length - (x + 1)) + 1 := by omega
  have ht : (l.take x).length = x := by rw [List.length_take]; omega
  constructor
  · rw [List.take_succ, e, List.replicate_succ, List.set_append_right _ _ (by omega), ht, Nat.sub_self, List.set_cons_zero, List.append_assoc, List.getD_eq_getElem?_getD, List.getElem?_eq_getElem hx]; rfl
  · rw [List.getD_eq_getElem?_getD, List.getElem?_append_right (by omega), ht, Nat.sub_self, e, List.replicate_succ]; rfl
theorem fstD_all (l : List Nat) : fstD l l.length = l := by unfold fstD; simp
theorem fstD_0 (l : List Nat) (m : Nat) : grp (fstD l 0) m = List.replicate m 0 := by
  have hz : ∀ k, decV (List.replicate k 48) = 0 := by
    intro k
    induction k with
    | zero => rfl
    | succ k ih => rw [List.replicate_succ', decV_snoc, ih]
  unfold grp fstD
  rw [List.take_zero, List.nil_append]
  refine List.ext_getElem (by simp) fun i h1 h2 => ?_
  rw [List.getElem_map, List.getElem_replicate]
  unfold chk
  rw [List.take_replicate, List.drop_replicate, hz]
theorem fstD_dg {l : List Nat} {x : Nat} (h : ∀ j, j < x → 48 ≤ l.getD j 0 ∧ l.getD j 0 ≤ 57) (hx : x ≤ l.length) : ∀ c ∈ fstD l x, c ≤ 57 := by
  intro c hc
  rcases List.mem_append.1 hc with g | g
  · obtain ⟨j, hj, e⟩ := List.getElem_of_mem g
    rw [List.length_take] at hj
    have := h j (by omega)
    rw [List.getElem_take] at e
    rw [List.getD_eq_getElem?_getD, List.getElem?_eq_getElem (by omega), Option.getD_some, e] at this
    exact this.2
  · rw [List.eq_of_mem_replicate g]; decide
theorem grp_set {l : List Nat} {x M : Nat} (hx : x < l.length) (hd : 48 ≤ l.getD x 0) :
    grp (fstD l (x + 1)) M = (grp (fstD l x) M).set ((l.length - 1 - x) / 9) (chk (fstD l x) ((l.length - 1 - x) / 9) + (l.getD x 0 - 48) * 10 ^ ((l.length - 1 - x) % 9)) := by
  obtain ⟨h1, h2⟩ := fstD_step hx
  have hl := fstD_len (l := l) (x := x) (by omega)
  refine List.ext_getElem (by simp [grp_len]) fun i a b => ?_
  rw [List.getElem_set]
  simp only [grp, List.getElem_map, List.getElem_range]
  rw [h1, chk_set (by omega) h2 hd, hl]
  split
  · rename_i e; subst e; rw [if_pos rfl]
  · rename_i e; rw [if_neg (fun e2 => e e2.symm)]; rfl
end Go.Sw

namespace Go.Sw
open Go Go.Lib
set_option linter.unusedVariables false
theorem lim_get : ∀ (i m : Nat), (lim m).getD i 0 = m / 1000000000 ^ i % 1000000000
  | 0, m => by
    by_cases h : m = 0
    · subst h; rw [lim_zero]; rfl
    · rw [lim_pos h]; simp
  | i + 1, m => by
    by_cases h : m = 0
    · subst h; simp [lim_zero]
    · rw [lim_pos h, List.getD_cons_succ, lim_get i, Nat.div_div_eq_div_mul, ← Nat.pow_succ']
theorem lim_ge : ∀ (i m : Nat), i < (lim m).length → 0 < m / 1000000000 ^ i
  | 0, m, h => by
    have : m ≠ 0 := fun e => by subst e; rw [lim_zero] at h; exact absurd h (by decide)
    simp; omega
  | i + 1, m, h => by
    have : m ≠ 0 := fun e => by subst e; rw [lim_zero] at h; exact absurd h (by simp)
    rw [lim_pos this, List.length_cons] at h
    have := lim_ge i (m / 1000000000) (by omega)
    rwa [Nat.div_div_eq_div_mul, ← Nat.pow_succ'] at this
theorem lim_ltX (m : Nat) : m < 1000000000 ^ (lim m).length := by
  have := val_lt (lim m) (lb_lim m)
  rwa [val_lim] at this
theorem lim_at {i m : Nat} (h : i < (lim m).length) : (lim m)[i]? = some (m / 1000000000 ^ i % 1000000000) := by
  have := lim_get i m
  rw [List.getD_eq_getElem?_getD, List.getElem?_eq_getElem h] at this
  rw [List.getElem?_eq_getElem h]
  exact congrArg some this
theorem lim_topx {m : Nat} (h : 0 < (lim m).length) : m / 1000000000 ^ ((lim m).length - 1) % 1000000000 = m / 1000000000 ^ ((lim m).length - 1) := by
  apply Nat.mod_eq_of_lt
  apply Nat.div_lt_of_lt_mul
  have := lim_ltX m
  rwa [← Nat.pow_succ, show ((lim m).length - 1).succ = (lim m).length by omega]
/-- A limb more: its digits, noughts ahead. -/
theorem dec_limb {m i : Nat} (h : i + 1 < (lim m).length) :
    decDigits (m / 1000000000 ^ i) = decDigits (m / 1000000000 ^ (i + 1)) ++ List.replicate (9 - nDigits (m / 1000000000 ^ i % 1000000000)) 48 ++ decDigits (m / 1000000000 ^ i % 1000000000) := by
  have h1 := lim_ge (i + 1) m h
  have hx : m / 1000000000 ^ i % 1000000000 < 10 ^ 9 := Nat.mod_lt _ (by decide)
  have e : m / 1000000000 ^ (i + 1) = m / 1000000000 ^ i / 1000000000 := by rw [Nat.div_div_eq_div_mul, Nat.pow_succ]
  rw [List.append_assoc, ← pad_dec 9 _ (by decide) hx, ← dec_pad 9 _ _ h1 hx, e]
  congr 1
  have := Nat.div_add_mod (m / 1000000000 ^ i) 1000000000
  omega
theorem dec_lenX {m i : Nat} (h : 0 < (lim m).length) : (decDigits (m / 1000000000 ^ i)).length ≤ 9 * (lim m).length := by
  rw [decDigits_length]
  apply nDigits_le (by omega)
  refine Nat.lt_of_le_of_lt (Nat.div_le_self _ _) ?_
  rw [Nat.pow_mul]
  exact lim_ltX m
theorem limb_dg {x : Nat} (h : x < 1000000000) : 1 ≤ nDigits x ∧ nDigits x ≤ 9 := ⟨nDigits_pos x, nDigits_le (by decide) h⟩
def bv (l : List UInt8) : List Value := l.map fun b => .int .u8 (b.toNat : Int)
theorem bv_len (l : List UInt8) : (bv l).length = l.length := by unfold bv; simp
theorem bv_app (a b : List UInt8) : bv (a ++ b) = bv a ++ bv b := by unfold bv; rw [List.map_append]
theorem bv_str (l : List UInt8) : strCells ⟨l.toArray⟩ = bv l := rfl
theorem decS_size (n : Nat) : (decS n).size = nDigits n := by
  show (decDigits n).toArray.size = _
  rw [List.size_toArray, decDigits_length]
end Go.Sw
