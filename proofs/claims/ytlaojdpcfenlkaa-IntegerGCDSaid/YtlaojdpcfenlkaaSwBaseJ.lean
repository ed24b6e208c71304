/-
  A region that draws its order, with the states in a list: only the steps that can be are asked for.
  Conditions: none; the rule is for any program.
-/
import Derived.Test.YtlaojdpcfenlkaaSwBaseI
namespace Go.Sw
open Go Go.RowKit
set_option linter.unusedVariables false
def stOf : List (Act → World → Prop) → Nat → Act → World → Prop
  | [], _ => fun _ _ => False
  | φ :: _, 0 => φ
  | _ :: r, s + 1 => stOf r s
def AllN (f : Nat → Prop) : List Nat → Prop
  | [] => True
  | s :: r => f s ∧ AllN f r
theorem AllN.at_ {f : Nat → Prop} : ∀ {T : List Nat}, AllN f T → ∀ {s : Nat}, s ∈ T → f s
  | [], _, s, h => by cases h
  | t :: r, k, s, h => by
    rcases List.mem_cons.1 h with rfl | h
    · exact k.1
    · exact AllN.at_ k.2 h
def AllP (f : (Act → World → Prop) → Prop) : List (Act → World → Prop) → Prop
  | [] => True
  | φ :: r => f φ ∧ AllP f r
theorem AllP.at_ {f : (Act → World → Prop) → Prop} : ∀ {Ls : List (Act → World → Prop)}, AllP f Ls → ∀ {s : Nat} {a : Act} {w : World}, stOf Ls s a w → f (stOf Ls s)
  | [], _, s, a, w, h => h.elim
  | φ :: r, k, 0, a, w, h => k.1
  | φ :: r, k, s + 1, a, w, h => AllP.at_ k.2 (s := s) h
theorem stOf_lt : ∀ {Ls : List (Act → World → Prop)} {s : Nat} {a : Act} {w : World}, stOf Ls s a w → s < Ls.length
  | [], s, a, w, h => h.elim
  | φ :: r, 0, a, w, h => by simp
  | φ :: r, s + 1, a, w, h => by have := stOf_lt (Ls := r) (s := s) h; simp; omega
def canRun (l : List Oper) (acts done : List Nat) (i : Nat) : Bool :=
  match l[i]? with
  | some o => (acts.all fun j => !((pre o).elem j) || done.elem j) && (acts.all fun j => match l[j]? with | some o' => !((pre o').elem i) || !(done.elem j) | none => true)
  | none => false
def stepsOk (l : List Oper) (acts : List Nat) (As : List (List Nat)) (T : List (List Nat)) : Bool :=
  (List.range l.length).all fun i => (List.range As.length).all fun s => !(canRun l acts (As.getD s []) i) || (acts.elem i && (As.getD s []).elem i) || (T.getD i []).elem s
theorem Before.can {l : List Oper} {C : List (Option Value)} {acts done : List Nat} {i : Nat} {o : Oper} {a : Act} (h : Before l C acts done i o a) (ho : l[i]? = some o) : canRun l acts done i = true := by
  unfold canRun
  rw [ho]
  simp only [Bool.and_eq_true, List.all_eq_true, Bool.or_eq_true, Bool.not_eq_true']
  refine ⟨fun j hj => ?_, fun j hj => ?_⟩
  · cases hp : (pre o).elem j with
    | false => left; rfl
    | true => right; exact h.have_ j (by simpa using hj) hp
  · cases ho' : l[j]? with
    | none => rfl
    | some o' =>
      simp only [Bool.or_eq_true, Bool.not_eq_true']
      cases hp : (pre o').elem i with
      | false => left; rfl
      | true => right; exact h.not_ j (by simpa using hj) o' ho' hp
theorem OpsOk.mono {f g : Nat → Oper → Prop} : ∀ {r : List Oper} {k : Nat}, (∀ i o, r[i]? = some o → f (k + i) o → g (k + i) o) → OpsOk f k r → OpsOk g k r
  | [], _, _, _ => trivial
  | o :: r, k, h, hk => ⟨h 0 o rfl hk.1, OpsOk.mono (fun i o' ho' hf => by
      have := h (i + 1) o' (by simpa using ho')
      rw [show k + (i + 1) = k + 1 + i by omega] at this
      exact this hf) hk.2⟩
section
variable {P : Program} {Q : Exit → Act → World → Prop} {l : List Oper}
theorem drawn2 {id N : Nat} {a : Act} {w : World} {L0 : List (Nat × Value)} (C : List (Option Value)) (acts : List Nat) (As : List (List Nat)) (T : List (List Nat)) (full : Nat) (Ls : List (Act → World → Prop)) (hm : P.follows .mixedOrders = true) (hac : acyc l = true) (hsl : slotsOk N l L0 = true)
    (hacts : acts.all (fun i => Nat.blt i l.length) = true) (hT : stepsOk l acts As T = true) (hlen : Nat.beq Ls.length As.length = true)
    (hfull : (List.range As.length).all (fun s => !(acts.all fun i => (As.getD s []).elem i) || Nat.beq s full) = true) (hF : Frm N a L0) (hA0 : (acts.all fun i => !((As.getD 0 []).elem i)) = true) (h0 : stOf Ls 0 a w.drew)
    (hput : AllP (fun φ => ∀ a w i o d v, l[i]? = some o → o.dst = some d → acts.elem i = false → φ a w → φ (a.put (some d) v) w) Ls)
    (hops : OpsOk (fun i o =>
      (acts.elem i = false ∧ ∃ d v, o.dst = some d ∧ C[i]? = some (some v) ∧ ∀ s a w, stOf Ls s a w → Frm N a L0 → Before l C acts (As.getD s []) i o a → ∀ K : Act → World → Prop, K (a.put (some d) v) w → wpOp P l.toArray Q i K a w) ∨
      (acts.elem i = false ∧ ∃ d v, o.dst = some d ∧ C[i]? = some (some v) ∧ AllN (fun s => ∀ a w, stOf Ls s a w → Frm N a L0 → Before l C acts (As.getD s []) i o a → ∀ K : Act → World → Prop, K (a.put (some d) v) w → wpOp P l.toArray Q i K a w) (T.getD i [])) ∨
      (acts.elem i = true ∧ AllN (fun s => ∀ a w, stOf Ls s a w → Frm N a L0 → Before l C acts (As.getD s []) i o a →
        wpOp P l.toArray Q i (fun a' w' => ∃ s', (acts.all fun j => (As.getD s' []).elem j == (Nat.beq j i || (As.getD s []).elem j)) = true ∧ stOf Ls s' a' w' ∧ ∃ v, a' = a.put o.dst v ∧ ∀ u, C[i]? = some (some u) → v = u) a w) (T.getD i []))) 0 l)
    (hend : ∀ a w, stOf Ls full a w → Frm N a L0 → (∀ (i : Nat) (o : Oper) (d : Nat) (v : Value), l[i]? = some o → o.dst = some d → C[i]? = some (some v) → a.tmps.getD d undef = v) → Q .normal a w) : (Code.region id l.toArray true).wp P Q a w := by
  have hlen' : Ls.length = As.length := Nat.eq_of_beq_eq_true hlen
  have hin : ∀ {i : Nat} {o : Oper} {s : Nat} {a : Act} {w : World}, l[i]? = some o → stOf Ls s a w → Before l C acts (As.getD s []) i o a → (acts.elem i && (As.getD s []).elem i) = false → s ∈ T.getD i [] := by
    intro i o s a w ho hs hb hd
    have hi : i < l.length := (List.getElem?_eq_some_iff.1 ho).1
    have hslt : s < As.length := by rw [← hlen']; exact stOf_lt hs
    have h1 := List.all_eq_true.1 (List.all_eq_true.1 hT i (by simpa using hi)) s (by simpa using hslt)
    rw [hb.can ho, hd] at h1
    simpa using h1
  refine drawn C acts (fun s => As.getD s []) (stOf Ls) hm hac hsl hacts hF ⟨hA0, h0⟩ (fun s a w i o d v ho hd hna hΦ => (hput.at_ hΦ) a w i o d v ho hd hna hΦ) ?_ ?_
  · refine OpsOk.mono (fun i o ho hk => ?_) hops
    rw [Nat.zero_add] at hk ⊢
    rcases hk with h | ⟨h1, d, v, h2, h3, h4⟩ | ⟨h1, h2⟩
    · exact .inl h
    · refine .inl ⟨h1, d, v, h2, h3, fun s a w hs hF hb => ?_⟩
      exact h4.at_ (hin ho hs hb (by rw [h1]; rfl)) a w hs hF hb
    · refine .inr ⟨h1, fun s a w hs hF hb hd => ?_⟩
      exact h2.at_ (hin ho hs hb (by rw [hd]; simp)) a w hs hF hb
  · intro s a w hall hs hF hC
    have hslt : s < As.length := by rw [← hlen']; exact stOf_lt hs
    have h1 := List.all_eq_true.1 hfull s (by simpa using hslt)
    rw [hall] at h1
    have : s = full := by simpa using h1
    subst this
    exact hend a w hs hF hC
end
end Go.Sw
