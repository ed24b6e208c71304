/-
  Small arrays written out that the call then grows.
  Conditions: none; every rule is for any program.
-/
import Derived.Test.YtlaojdpcfenlkaaSwBaseK
import Derived.Test.YtlaojdpcfenlkaaSwPlainK
namespace Go.Sw
open Go Go.RowKit
theorem UC.of_boxP {w : World} {X : List Nat} {g c n : Nat} {t : TypeId} {L : List Nat} (hg : w.heap[g]? = some (.cells (us L).toArray t (0, 0))) (hx : g ∉ X) (hc : c ≤ maxLen) (hn : n ≤ L.length) (hnc : n ≤ c) : UC w X (some ⟨g, 0, none⟩) c (L.take n) := UC.of_boxR (R := []) (by simpa using hg) hx hc hn hnc
section
set_option linter.unusedVariables false
variable {P : Program} {Q : Exit → Act → World → Prop} {a : Act} {w : World} {K : Act → World → Prop} {N : Nat} {L : List (Nat × Value)} {w0 : World} {S : List Bx} {X : List Nat}
variable {ty : TypeId} {pos : String} {af : Array Edge} {gd : Option (Nat × Bool)}
theorem op_lit_own {d : Nat} {t e : TypeId} {s n b : Nat} {z cs : Array Value} {parts : Array (Nat × Operand)} {vs : Array (Nat × Value)} (hF : Frm N a L) (hS : St w0 w S) (hlt : Nat.blt d N = true) (ht : sliceOf P t = some (e, s)) (he : Sw.elemOf P e = some (z, s, b)) (hn : Nat.ble (n * s) 16777216 = true) (h0 : Nat.beq (n * s) 0 = false)
    (hv : parts.map (fun p => (p.1, a.eval p.2)) = vs) (hfill : Instr.fill (fun i => some (i * s, s)) (madeCells z (n * s)) vs.toList = some cs)
    (k : ∀ g w', w.heap.size ≤ g → St w0 w' ((g, e, cs) :: S) → Ext w X w' (g :: X) → Frm N (a.put (some d) (.slice (some ⟨g, 0, none⟩) n n)) ((d, .slice (some ⟨g, 0, none⟩) n n) :: L) → K (a.put (some d) (.slice (some ⟨g, 0, none⟩) n n)) w') :
    Oper.wp P ⟨some d, .buildSlice t n parts, ty, pos, af, gd⟩ a w K Q := by
  have hr := run_lit (w := w) ht he (by simpa [Nat.ble_eq] using hn) (fun e => by simp [e] at h0) hfill
  have hr' : (execOp a.eval ⟨some d, .buildSlice t n parts, ty, pos, af, gd⟩).run P w = .ok (.value (.slice (some ⟨w.heap.size, 0, none⟩) n n)) (w.alloc (.cells cs e)) := by
    have hv' : (parts.map fun x => match x with | (i, x) => (i, a.eval x)) = vs := by rw [← hv]
    simp only [execOp, hv', Sem.run_bind, hr, Result.andThen_ok, Sem.run_pure]
  exact op_val hF rfl hlt hr' fun h => k _ _ (Nat.le_refl _) (hS.alloc _ _) (Ext.alloc _ _ _) h
end
end Go.Sw
