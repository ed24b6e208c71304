/-
  Strings.
  Conditions: none; every rule is for any program.
-/
import Derived.Test.YtlaojdpcfenlkaaSwBaseJ
import Derived.Laws.Strings
import Derived.Test.YtlaojdpcfenlkaaSwPlainJ
namespace Go.Sw
open Go Go.RowKit
section
variable {P : Program} {ρ : Operand → Value} {w : World} {d : Option Tmp} {ty : TypeId} {pos : String} {af : Array Edge} {gd : Option (Nat × Bool)}
theorem ex_eqs {t u : TypeId} {x y : Operand} {a b : ByteArray} (hx : ρ x = .string a) (hy : ρ y = .string b) :
    (execOp ρ ⟨d, .binOp .eql t x y u, ty, pos, af, gd⟩).run P w = .ok (.value (.bool (decide (a = b)))) w := by
  have h : (a.toList == b.toList) = decide (a = b) := by
    rw [ByteArray.toList_eq, ByteArray.toList_eq]
    by_cases h : a = b
    · subst h; simp
    · rw [decide_eq_false h, beq_eq_false_iff_ne]
      exact fun e => h (ByteArray.ext (Array.ext' e))
  simp [execOp, hx, hy, go_sem, binOp, Op.stringOp, h]
theorem run_slice_str {t : TypeId} (ht : P.underlying t = some .string) {s : ByteArray} {lo hi : Option Value} {l h m : Nat}
    (hb : (Instr.sliceBounds false s.size s.size lo hi none).run P w = .ok (l, h, m) w) : (Instr.sliceAt t (.string s) lo hi none).run P w = .ok (.string (s.extract l h)) w := by
  simp [Instr.sliceAt, Instr.slice, run_underlying ht, hb]
theorem ex_str_h {t : TypeId} {x y : Operand} {s : ByteArray} {k : IntKind} {i : Int} {j : Nat} (ht : P.underlying t = some .string) (hx : ρ x = .string s) (hy : ρ y = .int k i) (hi : i = (j : Nat)) (h1 : j ≤ s.size) :
    (execOp ρ ⟨d, .slice t x none (some y) none, ty, pos, af, gd⟩).run P w = .ok (.value (.string (s.extract 0 j))) w := by
  subst hi
  have hb : (Instr.sliceBounds false s.size s.size none (some (.int k (j : Int))) none).run P w = .ok (0, j, s.size) w := by
    simp [Instr.sliceBounds, run_sliceBound, h1]
  simp [execOp, hx, hy, run_slice_str ht hb]
theorem ex_str_l {t : TypeId} {x y : Operand} {s : ByteArray} {k : IntKind} {i : Int} {j : Nat} (ht : P.underlying t = some .string) (hx : ρ x = .string s) (hy : ρ y = .int k i) (hi : i = (j : Nat)) (h1 : j ≤ s.size) :
    (execOp ρ ⟨d, .slice t x (some y) none none, ty, pos, af, gd⟩).run P w = .ok (.value (.string (s.extract j s.size))) w := by
  subst hi
  have hb : (Instr.sliceBounds false s.size s.size (some (.int k (j : Int))) none none).run P w = .ok (j, s.size, s.size) w := by
    simp [Instr.sliceBounds, run_sliceBound, h1]
  simp [execOp, hx, hy, run_slice_str ht hb]
theorem ex_str_lh {t : TypeId} {x y z : Operand} {s : ByteArray} {k k' : IntKind} {i i' : Int} {j m : Nat} (ht : P.underlying t = some .string) (hx : ρ x = .string s) (hy : ρ y = .int k i) (hz : ρ z = .int k' i') (hi : i = (j : Nat)) (hi' : i' = (m : Nat)) (h1 : j ≤ m) (h2 : m ≤ s.size) :
    (execOp ρ ⟨d, .slice t x (some y) (some z) none, ty, pos, af, gd⟩).run P w = .ok (.value (.string (s.extract j m))) w := by
  subst hi hi'
  have hb : (Instr.sliceBounds false s.size s.size (some (.int k (j : Int))) (some (.int k' (m : Int))) none).run P w = .ok (j, m, s.size) w := by
    simp [Instr.sliceBounds, run_sliceBound, h1, h2]
  simp [execOp, hx, hy, hz, run_slice_str ht hb]
/-- An integer's two cells. -/
@[reducible] def ic (A : Option Addr) (c : Nat) (x : Int) : Array Value := #[.bool (decide (x < 0)), .slice A (lim x.natAbs).length c]
def bt (s : ByteArray) (i : Nat) : Nat := (s.data.getD i 0).toNat
theorem ex_index {t : TypeId} {x y : Operand} {s : ByteArray} {k : IntKind} {i : Int} {j : Nat} (ht : P.underlying t = some .string) (hx : ρ x = .string s) (hy : ρ y = .int k i) (hi : i = (j : Nat)) (h1 : j < s.size) :
    (execOp ρ ⟨d, .index t x y, ty, pos, af, gd⟩).run P w = .ok (.value (.int .u8 ((bt s j : Nat) : Int))) w := by
  subst hi
  have hg : s[j]? = some (s.data.getD j 0) := by
    rw [getElem?_pos s j h1]
    simp [Array.getD, h1, ByteArray.getElem_eq_getElem_data]
  simp [execOp, hx, hy, Instr.index, asIntOf, run_underlying ht, hg, bt]
end
def hasP (s p : ByteArray) : Bool := decide (p.size ≤ s.size) && decide (s.extract 0 p.size = p)
theorem hasP_a : hasP (⟨#[45, 48]⟩ : ByteArray) (⟨#[45]⟩ : ByteArray) = true := by decide +kernel
theorem hasP_b : hasP (⟨#[48, 49]⟩ : ByteArray) (⟨#[45]⟩ : ByteArray) = false := by decide +kernel
theorem parse_bad {s : ByteArray} (h : s = ⟨#[45, 48]⟩ ∨ s = ⟨#[48, 49]⟩) : ¬ (if hasP s (⟨#[45]⟩ : ByteArray) then s.extract (⟨#[45]⟩ : ByteArray).size s.size else s) = (⟨#[]⟩ : ByteArray) ∧ s.size ≤ 65536 ∧ 0 < (if hasP s (⟨#[45]⟩ : ByteArray) then s.extract (⟨#[45]⟩ : ByteArray).size s.size else s).size ∧ bt (if hasP s (⟨#[45]⟩ : ByteArray) then s.extract (⟨#[45]⟩ : ByteArray).size s.size else s) 0 = 48 ∧ (1 < (if hasP s (⟨#[45]⟩ : ByteArray) then s.extract (⟨#[45]⟩ : ByteArray).size s.size else s).size ∨ hasP s (⟨#[45]⟩ : ByteArray) = true) := by
  rcases h with rfl | rfl <;> decide +kernel
theorem lim_base : ([0, 1] : List Nat) = lim (1000000000 : Int).natAbs := by
  show [0, 1] = lim 1000000000
  rw [lim_pos (by omega), lim_pos (by omega), show 1000000000 / 1000000000 / 1000000000 = 0 by omega, lim_zero]
theorem sqrt99 {r : Nat} (h : (99 : Int) < 0 ∧ r = 0 ∨ 0 ≤ (99 : Int) ∧ r * r ≤ (99 : Int).natAbs ∧ (99 : Int).natAbs < (r + 1) * (r + 1)) : r = 9 := by
  rcases h with h | ⟨_, h1, h2⟩
  · omega
  · have h1' : r * r ≤ 99 := h1
    have h2' : 99 < (r + 1) * (r + 1) := h2
    rcases Nat.lt_or_ge r 9 with h | h
    · have := Nat.mul_le_mul (show r + 1 ≤ 9 by omega) (show r + 1 ≤ 9 by omega); omega
    · rcases Nat.lt_or_ge r 10 with h3 | h3
      · omega
      · have := Nat.mul_le_mul h3 h3; omega
end Go.Sw
