/-
  Arguments that are integers of the document, as they come in.
  Conditions: none; every law is for any program.
-/
import Derived.Test.YtlaojdpcfenlkaaSwBaseK
import Derived.ProofKit
import Derived.Lib.SmallJoins
namespace Go.Sw
open Go Go.RowKit Go.ChangeShapes Go.WideShapes Go.ChangeAt Go.Joins Go.Deep
theorem mem_of_cell {w : World} {a : Addr} {v : Value} (h : w.cell? a = some v) : a.block < w.heap.size := by
  unfold World.cell? at h
  rcases Nat.lt_or_ge a.block w.heap.size with h1 | h1
  · exact h1
  · have : w.heap[a.block]? = none := by simp [h1]
    rw [this] at h; simp at h
theorem toNat_wf {n : Int} (h : (Lit.int .u32 n).wf = true) : ((n.toNat : Nat) : Int) = n := by
  have : 0 ≤ n := by
    simp [Lit.wf] at h
    have h2 : IntKind.u32.min = 0 := by decide
    omega
  omega
theorem limbs_open {P : Program} {H : Type} {enc : TypeId × Value → H} {w : World} {t e : TypeId} {fuel : Nat} {c : Value} {x : DataW H × List MemPlace} {X : List Nat} (hX : X = []) (ht : P.underlying t = some (.slice e)) (he : P.underlying e = some (.int .u32)) (hc : P.cellsOf e = 1)
    (h : DataW.trod enc P w 0 (fun _ => true) true fuel t [c] = some x) : ∃ A cap l, c = .slice A (List.length l) cap ∧ UC w X A cap l := by
  subst hX
  rcases open_ints ht he hc h with ⟨hcs, _⟩ | ⟨a, len, cap, zs, hcs, _, hl, hm, hz, _, hcell, hwz⟩
  · simp at hcs
    exact ⟨none, 0, [], hcs, UC.nil (by omega)⟩
  · simp at hcs
    simp only [if_true] at hz
    refine ⟨some a, cap, (zs.take len).map Int.toNat, by rw [hcs]; simp; omega, ⟨fun hne => ?_, by simp; omega, by have : maxLen = 9223372036854775807 := rfl; omega⟩⟩
    have hlen : 0 < zs.length := by
      rcases Nat.eq_zero_or_pos zs.length with h0 | h0
      · have : zs = [] := List.eq_nil_of_length_eq_zero h0
        subst this; simp [us] at hne
      · exact h0
    have hb := mem_of_cell (hcell 0 hlen)
    rw [block_add] at hb
    refine ⟨a, rfl, hb, by simp, fun j u hu => ?_⟩
    have hj : j < (us ((zs.take len).map Int.toNat)).length := (List.getElem?_eq_some_iff.1 hu).1
    have hj' : j < len ∧ j < zs.length := by simpa [us, Nat.lt_min] using hj
    rw [hcell j (by omega)]
    have hwf := hwz (zs.getD j 0) (by simp [List.getD, hj'.2])
    rw [← hu]
    have hz2 : zs.getD j 0 = zs[j]'hj'.2 := by simp [List.getD, hj'.2]
    rw [hz2] at hwf ⊢
    have := toNat_wf hwf
    simp [us, u32, hj'.1, List.getElem?_eq_getElem hj'.2]
    omega
theorem raw_open {P : Program} {H : Type} {enc : TypeId × Value → H} {w : World} {r : Reach} {b0 : Nat} {t e : TypeId} {f0 f1 : Field} {v : Value} {d : DataW H} {p : List MemPlace} (hs : P.underlying t = some (.struct #[f0, f1])) (hone : oneCellFields P #[f0, f1] = true) (hC : P.cellsOf t = 2)
    (hb : P.underlying f0.type = some .bool) (hsl : P.underlying f1.type = some (.slice e)) (he : P.underlying e = some (.int .u32)) (hc : P.cellsOf e = 1)
    (hv : Value.okWide P w r b0 t v) (h : DataW.Trod enc P w 0 (fun _ => true) true t v d p) : ∃ neg l, RawV w [] v neg l := by
  obtain ⟨c0, c1, y0, y1, m, rfl, _, _, hy0, hy1⟩ := open_agg2 hs hone hC hv h
  obtain ⟨b, e0, _⟩ := DataW.trod_bool hb hy0
  simp at e0
  obtain ⟨A, cap, l, e1, hu⟩ := limbs_open rfl hsl he hc hy1
  subst e0 e1
  exact ⟨b, l, _, rfl, A, cap, rfl, hu⟩
theorem raw_int {w : World} {X : List Nat} {v : Value} {ng : Bool} {l : List Nat} {n : Nat} (h : RawV w X v ng l) (hl : l.length ≤ n) (hv : validL ng l = true) : IntV w X v (sgnv ng (val l)) ∧ sz (sgnv ng (val l)) ≤ n := by
  obtain ⟨h1, h2⟩ := validL_int hv
  refine ⟨?_, by unfold sz; rw [← h2]; exact hl⟩
  unfold IntV
  rw [← h1, ← h2]
  exact h
theorem okI64 {n : Int} (h : (Lit.int .i64 n).wf = true) : -9223372036854775808 ≤ n ∧ n ≤ 9223372036854775807 := by
  simp [Lit.wf] at h
  have h2 : IntKind.i64.min = -9223372036854775808 := by decide
  omega
end Go.Sw
