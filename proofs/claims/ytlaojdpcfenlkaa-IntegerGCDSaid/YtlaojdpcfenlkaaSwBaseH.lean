/-
  Windows of an own array.
  Conditions: none; every rule is for any program.
-/
import Derived.Test.YtlaojdpcfenlkaaSwBaseG
import Derived.Test.YtlaojdpcfenlkaaSwPlainH
namespace Go.Sw
open Go Go.RowKit
section
variable {P : Program} {ρ : Operand → Value} {w : World} {d : Option Tmp} {ty : TypeId} {pos : String} {af : Array Edge} {gd : Option (Nat × Bool)}
theorem add_win (g o j : Nat) : Addr.add ⟨g, o, none⟩ j = ⟨g, o + j, none⟩ := by
  unfold Addr.add
  split
  · rename_i h; subst h; rfl
  · rfl
theorem ex_idxw {t e : TypeId} {x y : Operand} {g o n c : Nat} {k : IntKind} {i : Int} {j : Nat} (ht : sliceOf P t = some (e, 1)) (hx : ρ x = .slice (some ⟨g, o, none⟩) n c) (hy : ρ y = .int k i) (hi : i = (j : Nat)) (h1 : j < n) :
    (execOp ρ ⟨d, .indexAddr t x y, ty, pos, af, gd⟩).run P w = .ok (.value (.pointer (some ⟨g, o + j, none⟩))) w := by
  have := ex_idx (w := w) (d := d) (ty := ty) (pos := pos) (af := af) (gd := gd) (j := j) ht hx rfl hy hi h1
  rwa [add_win] at this
theorem ex_slice_lhw {t e : TypeId} {x y z : Operand} {g n c : Nat} {k k' : IntKind} {i i' : Int} {j m : Nat} (ht : sliceOf P t = some (e, 1)) (hx : ρ x = .slice (some ⟨g, 0, none⟩) n c) (hy : ρ y = .int k i) (hz : ρ z = .int k' i') (hi : i = (j : Nat)) (hi' : i' = (m : Nat)) (h1 : j ≤ m) (h2 : m ≤ c) (h3 : j < c) :
    (execOp ρ ⟨d, .slice t x (some y) (some z) none, ty, pos, af, gd⟩).run P w = .ok (.value (.slice (some ⟨g, j, none⟩) (m - j) (c - j))) w := by
  have := ex_slice_lh (w := w) (d := d) (ty := ty) (pos := pos) (af := af) (gd := gd) (j := j) (m := m) ht hx hy hz hi hi' h1 h2
  rw [if_neg (by omega)] at this
  simpa [add_win] using this
theorem ex_slice_lhq {t e : TypeId} {x y z : Operand} {g n c : Nat} {k k' : IntKind} {i i' : Int} {j m q : Nat} (ht : sliceOf P t = some (e, 1)) (hx : ρ x = .slice (some ⟨g, 0, none⟩) n c) (hy : ρ y = .int k i) (hz : ρ z = .int k' i') (hi : i = (j : Nat)) (hi' : i' = (m : Nat)) (h1 : j ≤ m) (h2 : m ≤ c) (h3 : j < c) (hq : m - j = q) :
    (execOp ρ ⟨d, .slice t x (some y) (some z) none, ty, pos, af, gd⟩).run P w = .ok (.value (.slice (some ⟨g, j, none⟩) q (c - j))) w := by
  subst hq
  exact ex_slice_lhw ht hx hy hz hi hi' h1 h2 h3
end
theorem us_fit2 {L : List Nat} {R : List Value} {i : Nat} {v : Value} (h : i < L.length) : i + (#[v] : Array Value).size ≤ ((us L ++ R).toArray).size := by simp; omega
/-- A slice that has grown becomes an array of the call's own, with cells to spare. -/
theorem OwV.settle {e : TypeId} {So : List Bx} {v : Value} {l : List Nat} (h : OwV e So v (us l)) (hl : 0 < l.length) : ∃ g c R, So = [(g, e, (us l ++ R).toArray)] ∧ v = .slice (some ⟨g, 0, none⟩) l.length c ∧ l.length ≤ c ∧ c ≤ maxLen := by
  rcases h with ⟨rfl, rfl, h⟩ | ⟨g, c, r, rfl, rfl, hc, hm⟩
  · have : l = [] := by simpa [us] using h
    subst this; simp at hl
  · rw [us_length] at hc
    exact ⟨g, c, r, rfl, by rw [us_length], by omega, hm⟩
theorem OwV.full (e : TypeId) (g : Nat) (l : List Nat) (n c : Nat) (hn : n = l.length) (hc : c = l.length) (hm : l.length ≤ 1000000000000) : OwV e [(g, e, (us l).toArray)] (.slice (some ⟨g, 0, none⟩) n c) (us l) := by
  subst hn hc
  have := OwV.block e g (us l).length (us l) [] (by simp) (by rw [us_length]; unfold maxLen; omega)
  rw [List.append_nil, us_length] at this
  exact this
theorem UC.of_boxR {w : World} {X : List Nat} {g c n : Nat} {t : TypeId} {L : List Nat} {R : List Value} (hg : w.heap[g]? = some (.cells (us L ++ R).toArray t (0, 0))) (hx : g ∉ X) (hc : c ≤ maxLen) (hn : n ≤ L.length) (hnc : n ≤ c) : UC w X (some ⟨g, 0, none⟩) c (L.take n) := by
  have h := Cl.of_block hg hx n
  have e : ((us L ++ R).toArray.toList).take n = us (L.take n) := by
    rw [List.toList_toArray, List.take_append_of_le_length (by simpa using hn)]
    simp [us, List.map_take]
  refine ⟨by simpa [e] using h, by simp; omega, by unfold maxLen at hc; omega⟩
end Go.Sw
