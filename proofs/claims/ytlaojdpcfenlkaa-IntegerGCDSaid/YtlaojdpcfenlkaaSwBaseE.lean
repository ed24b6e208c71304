/-
  A region that draws its order: an invariant over what has been done; operations that answer the same whenever they run.
  Conditions: none; every rule is for any program.
-/
import Derived.Test.YtlaojdpcfenlkaaSwBaseD
namespace Go.Sw
open Go Go.RowKit

def acyc (l : List Oper) : Bool := (List.range l.length).all fun i => match l[i]? with
  | some o => o.after.toList.all fun e => !(Region.binds .any e) || Nat.blt e.on i
  | none => true
theorem acyc_of {l : List Oper} (h : acyc l = true) {i : Nat} {o : Oper} (ho : l[i]? = some o) {e : Edge} (he : e ∈ o.after) (hb : Region.binds .any e = true) : e.on < i := by
  have hi : i < l.length := (List.getElem?_eq_some_iff.1 ho).1
  have h1 := List.all_eq_true.1 h i (by simpa using hi)
  simp only [ho] at h1
  have h2 := List.all_eq_true.1 h1 e (by simpa using he)
  simpa [hb, Nat.blt_eq] using h2
theorem count_set : ∀ (l : List Bool) (i : Nat), l[i]? = some false → (l.set i true).count false + 1 = l.count false
  | [], i, h => by simp at h
  | b :: r, 0, h => by
    have : b = false := by simpa using h
    subst this
    simp
  | b :: r, i + 1, h => by
    have := count_set r i (by simpa using h)
    simp only [List.set_cons_succ, List.count_cons]
    omega

section
variable {P : Program} {Q : Exit → Act → World → Prop} {l : List Oper}
theorem drawn_inv {id : Nat} {a : Act} {w : World} (hm : P.follows .mixedOrders = true) (hac : acyc l = true) (J : (Nat → Bool) → Act → World → Prop) (h0 : J (fun _ => false) a w.drew)
    (hst : ∀ ls a w i o, J ls a w → l[i]? = some o → ls i = false → (∀ e ∈ o.after, Region.binds .any e = true → ls e.on = true) → wpOp P l.toArray Q i (J (fun j => Nat.beq j i || ls j)) a w)
    (hend : ∀ ls a w, J ls a w → (∀ i, i < l.length → ls i = true) → Q .normal a w) : (Code.region id l.toArray true).wp P Q a w := by
  refine wp_region_any hm ?_
  have key : ∀ (fuel : Nat) (listed : Array Bool) (a : Act) (w : World), listed.size = l.length → listed.toList.count false ≤ fuel → J (fun i => listed.getD i false) a w → wpAny P .any l.toArray Q fuel listed a w := by
    intro fuel
    induction fuel with
    | zero =>
      intro listed a w hs hc hJ
      have hall : ∀ i, i < l.length → listed.getD i false = true := by
        intro i hi
        have hlt : i < listed.size := by omega
        cases hb : listed[i] with
        | true => simp [Array.getD, hlt, hb]
        | false =>
          have hm : false ∈ listed.toList := by rw [← hb]; simp
          have := List.count_pos_iff.2 hm
          omega
      refine ⟨?_, hend _ _ _ hJ hall⟩
      simp only [Region.ready, List.size_toArray]
      refine List.filter_eq_nil_iff.2 fun i hi => ?_
      have hil : i < l.length := by simpa using hi
      have := hall i hil
      have hlt : i < listed.size := by omega
      simp only [Array.getD, hlt, dif_pos] at this ⊢
      have h2 : listed[i] = true := this
      simp [h2]
    | succ fuel ih =>
      intro listed a w hs hc hJ
      refine ⟨fun hr => hend _ _ _ hJ ?_, fun i hi => ?_⟩
      · intro i
        induction i using Nat.strongRecOn with
        | _ i ihi =>
          intro hil
          have hlt : i < listed.size := by omega
          cases hb : listed[i] with
          | true => simp [Array.getD, hlt, hb]
          | false =>
            exfalso
            have hmem : i ∈ Region.ready .any l.toArray listed := by
              simp only [Region.ready, List.size_toArray]
              refine List.mem_filter.2 ⟨by simpa using hil, ?_⟩
              have ho : l[i]? = some l[i] := List.getElem?_eq_getElem hil
              simp only [Array.getD, hlt, dif_pos, List.getElem?_toArray, ho, Option.map_some, Option.getD_some]
              have e0 : listed.getInternal i hlt = false := hb
              rw [e0]
              simp only [Bool.not_false, Bool.true_and, Array.all_eq_true']
              intro e he
              cases hbd : Region.binds .any e with
              | false => rfl
              | true =>
                have hlt' := acyc_of hac ho he hbd
                have := ihi e.on hlt' (by omega)
                simp only [Array.getD] at this
                simpa using this
            rw [hr] at hmem
            cases hmem
      · simp only [Region.ready, List.size_toArray] at hi
        obtain ⟨hir, hcond⟩ := List.mem_filter.1 hi
        have hil : i < l.length := by simpa using hir
        have hlt : i < listed.size := by omega
        have ho : l[i]? = some l[i] := List.getElem?_eq_getElem hil
        simp only [Bool.and_eq_true, List.getElem?_toArray, ho, Option.map_some, Option.getD_some] at hcond
        have hfalse : listed[i] = false := by
          have := hcond.1
          simpa [Array.getD, hlt] using this
        have hpre : ∀ e ∈ (l[i]).after, Region.binds .any e = true → listed.getD e.on false = true := by
          intro e he hb
          have := Array.all_eq_true'.1 hcond.2 e he
          simpa [hb] using this
        have hJi := hst _ a w i _ hJ ho (by simp [Array.getD, hlt, hfalse]) hpre
        refine wpOp_mono (fun a' w' hJ' => ?_) hJi
        refine ih _ a' w' (by simpa using hs) ?_ ?_
        · have h1 : listed.toList[i]? = some false := by simp [hlt, hfalse]
          have h2 := count_set listed.toList i h1
          rw [Array.toList_setIfInBounds]
          omega
        · have e : (fun j => (listed.setIfInBounds i true).getD j false) = fun j => Nat.beq j i || listed.getD j false := by
            funext j
            by_cases hj : j = i
            · subst hj; simp [Array.getD, hlt]
            · rw [beq_no hj]
              simp only [Bool.false_or, Array.getD_eq_getD_getElem?]
              rw [Array.getElem?_setIfInBounds_ne (fun e => hj e.symm)]
          rw [e]
          exact hJ'
  refine key _ _ _ _ (by simp) ?_ ?_
  · simp
  · have e : (fun i => (Array.replicate l.toArray.size false).getD i false) = fun _ => false := by
      funext i
      simp only [Array.getD_eq_getD_getElem?, Array.getElem?_replicate]
      split <;> rfl
    rw [e]
    exact h0

/-! ### Operations that answer the same whenever they run, and the others in their states -/
def pre (o : Oper) : List Nat := o.after.toList.filterMap fun e => if Region.binds .any e then some e.on else none
theorem mem_pre {o : Oper} {j : Nat} : j ∈ pre o ↔ ∃ e ∈ o.after, Region.binds .any e = true ∧ e.on = j := by
  simp only [pre, List.mem_filterMap]
  constructor
  · rintro ⟨e, he, h⟩
    split at h
    · rename_i hb; exact ⟨e, by simpa using he, hb, by simpa using h⟩
    · cases h
  · rintro ⟨e, he, hb, rfl⟩
    exact ⟨e, by simpa using he, by simp [hb]⟩
def OpsOk (f : Nat → Oper → Prop) : Nat → List Oper → Prop
  | _, [] => True
  | i, o :: r => f i o ∧ OpsOk f (i + 1) r
theorem OpsOk.at_ {f : Nat → Oper → Prop} : ∀ {l : List Oper} {k : Nat}, OpsOk f k l → ∀ {i : Nat} {o : Oper}, l[i]? = some o → f (k + i) o
  | [], _, _, i, o, h => by simp at h
  | _ :: r, k, hk, 0, o, h => by simp at h; subst h; exact hk.1
  | _ :: r, k, hk, i + 1, o, h => by
    have := OpsOk.at_ hk.2 (i := i) (o := o) (by simpa using h)
    rwa [show k + 1 + i = k + (i + 1) by omega] at this
/-- No slot is written twice, none of the frame's. -/
def slotsOk (N : Nat) (l : List Oper) (L0 : List (Nat × Value)) : Bool :=
  (List.range l.length).all fun i => match (l[i]?).bind (·.dst) with
    | some d => Nat.blt d N && (lk d L0).isNone && (List.range l.length).all fun j => Nat.beq i j || (match (l[j]?).bind (·.dst) with | some e => !(Nat.beq d e) | none => true)
    | none => true
/-- What each operation answers, where that is known ahead. -/
def Cok (l : List Oper) (ls : Nat → Bool) (a : Act) (C : List (Option Value)) : Prop :=
  ∀ i o d v, l[i]? = some o → o.dst = some d → C[i]? = some (some v) → ls i = true → a.tmps.getD d undef = v

theorem Frm.put_other {N : Nat} {a : Act} {L : List (Nat × Value)} (h : Frm N a L) {d : Nat} (v : Value) (hd : (lk d L).isNone = true) : Frm N (a.put (some d) v) L := by
  refine ⟨by simp [Act.put, h.size], h.defers, fun t u hu => ?_⟩
  have hne : d ≠ t := by rintro rfl; rw [hu] at hd; cases hd
  have := h.get t u hu
  simp only [Act.put, Array.getD_eq_getD_getElem?] at this ⊢
  rw [Array.getElem?_setIfInBounds_ne hne]
  exact this
theorem getD_put_other {a : Act} {d t : Nat} (v : Value) (h : d ≠ t) : (a.put (some d) v).tmps.getD t undef = a.tmps.getD t undef := by
  simp only [Act.put, Array.getD_eq_getD_getElem?]
  rw [Array.getElem?_setIfInBounds_ne h]
theorem getD_put_same {a : Act} {d N : Nat} (v : Value) (hs : a.tmps.size = N) (h : d < N) : (a.put (some d) v).tmps.getD d undef = v := by
  have : d < a.tmps.size := by omega
  simp [Act.put, this]

/-- What an operation finds: what it hangs on is done, what hangs on it is not. -/
structure Before (l : List Oper) (C : List (Option Value)) (acts : List Nat) (done : List Nat) (i : Nat) (o : Oper) (a : Act) : Prop where
  val : ∀ j o' d v, (pre o).elem j = true → l[j]? = some o' → o'.dst = some d → C[j]? = some (some v) → a.tmps.getD d undef = v
  have_ : ∀ j, acts.elem j = true → (pre o).elem j = true → done.elem j = true
  not_ : ∀ j, acts.elem j = true → ∀ o', l[j]? = some o' → (pre o').elem i = true → done.elem j = false

theorem drawn {id N : Nat} {a : Act} {w : World} {L0 : List (Nat × Value)} (C : List (Option Value)) (acts : List Nat) (A : Nat → List Nat) (Φ : Nat → Act → World → Prop) (hm : P.follows .mixedOrders = true) (hac : acyc l = true) (hsl : slotsOk N l L0 = true)
    (hacts : acts.all (fun i => Nat.blt i l.length) = true) (hF : Frm N a L0) (h0 : (acts.all fun i => !((A 0).elem i)) = true ∧ Φ 0 a w.drew)
    (hput : ∀ s a w i o d v, l[i]? = some o → o.dst = some d → acts.elem i = false → Φ s a w → Φ s (a.put (some d) v) w)
    (hops : OpsOk (fun i o =>
      (acts.elem i = false ∧ ∃ d v, o.dst = some d ∧ C[i]? = some (some v) ∧ ∀ s a w, Φ s a w → Frm N a L0 → Before l C acts (A s) i o a → ∀ K : Act → World → Prop, K (a.put (some d) v) w → wpOp P l.toArray Q i K a w) ∨
      (acts.elem i = true ∧ ∀ s a w, Φ s a w → Frm N a L0 → Before l C acts (A s) i o a → (A s).elem i = false →
        wpOp P l.toArray Q i (fun a' w' => ∃ s', (acts.all fun j => (A s').elem j == (Nat.beq j i || (A s).elem j)) = true ∧ Φ s' a' w' ∧ ∃ v, a' = a.put o.dst v ∧ ∀ u, C[i]? = some (some u) → v = u) a w)) 0 l)
    (hend : ∀ s a w, (acts.all fun i => (A s).elem i) = true → Φ s a w → Frm N a L0 → (∀ (i : Nat) (o : Oper) (d : Nat) (v : Value), l[i]? = some o → o.dst = some d → C[i]? = some (some v) → a.tmps.getD d undef = v) → Q .normal a w) : (Code.region id l.toArray true).wp P Q a w := by
  have hslot : ∀ (i : Nat) (o : Oper) (d : Nat), l[i]? = some o → o.dst = some d → d < N ∧ (lk d L0).isNone = true ∧ ∀ (j : Nat) (o' : Oper) (e : Nat), l[j]? = some o' → o'.dst = some e → j ≠ i → d ≠ e := by
    intro i o d ho hd
    have hi : i < l.length := (List.getElem?_eq_some_iff.1 ho).1
    have h1 := List.all_eq_true.1 hsl i (by simpa using hi)
    simp only [ho, Option.bind_some, hd, Bool.and_eq_true] at h1
    refine ⟨by simpa [Nat.blt_eq] using h1.1.1, h1.1.2, fun j o' e ho' hd' hne => ?_⟩
    have hj : j < l.length := (List.getElem?_eq_some_iff.1 ho').1
    have := List.all_eq_true.1 h1.2 j (by simpa using hj)
    rw [beq_no (fun e => hne e.symm)] at this
    simp only [ho', Option.bind_some, hd', Bool.false_or] at this
    intro e
    subst e
    simp at this
  refine drawn_inv hm hac (fun ls a w => Frm N a L0 ∧ Cok l ls a C ∧ (∀ (j : Nat) (o : Oper), l[j]? = some o → ls j = true → ∀ k ∈ pre o, ls k = true) ∧ ∃ s, (∀ i ∈ acts, ls i = (A s).elem i) ∧ Φ s a w) ?_ ?_ ?_
  · obtain ⟨hs, hΦ⟩ := h0
    exact ⟨hF, fun _ _ _ _ _ _ _ hq => absurd hq (by simp), fun _ _ _ hq => absurd hq (by simp), 0, fun i hi => by have := List.all_eq_true.1 hs i hi; simpa using this, hΦ⟩
  · rintro ls a w i o ⟨hF, hC, hcl, s, hs, hΦ⟩ ho hi hpre
    have hpre' : ∀ k ∈ pre o, ls k = true := fun k hk => by
      obtain ⟨e, he, hb, rfl⟩ := mem_pre.1 hk
      exact hpre e he hb
    have hbef : Before l C acts (A s) i o a := by
      refine ⟨fun j o' d v hp ho' hd' hc => hC j o' d v ho' hd' hc (hpre' j (by simpa using hp)), fun j hj hp => ?_, fun j hj o' ho' hp => ?_⟩
      · rw [← hs j (by simpa using hj)]; exact hpre' j (by simpa using hp)
      · have hp : i ∈ pre o' := by simpa using hp
        rw [← hs j (by simpa using hj)]
        cases hl : ls j with
        | false => rfl
        | true => have := hcl j o' ho' hl i hp; rw [hi] at this; cases this
    have hcl' : ∀ (j : Nat) (o' : Oper), l[j]? = some o' → (Nat.beq j i || ls j) = true → ∀ k ∈ pre o', (Nat.beq k i || ls k) = true := by
      intro j o' ho' hl k hk
      by_cases hji : j = i
      · subst hji
        rw [ho] at ho'
        cases ho'
        simp [hpre' k hk]
      · rw [beq_no hji] at hl
        simp [hcl j o' ho' (by simpa using hl) k hk]
    have hCok : ∀ v, (∀ u, C[i]? = some (some u) → v = u) → Cok l (fun j => Nat.beq j i || ls j) (a.put o.dst v) C := by
      intro v hv j o' d u ho' hd' hc hl
      by_cases hji : j = i
      · subst hji
        rw [ho] at ho'
        cases ho'
        rw [hd', getD_put_same v hF.size (hslot _ _ _ ho hd').1]
        exact hv u hc
      · have hold := hC j o' d u ho' hd' hc (by simpa [beq_no hji] using hl)
        cases hd : o.dst with
        | none => exact hold
        | some e =>
          rw [getD_put_other v ((hslot i o e ho hd).2.2 j o' d ho' hd' hji)]
          exact hold
    have hFput : ∀ v, Frm N (a.put o.dst v) L0 := by
      intro v
      cases hd : o.dst with
      | none => exact hF
      | some e => exact hF.put_other v (hslot i o e ho hd).2.1
    have hop := hops.at_ ho
    simp only [Nat.zero_add] at hop
    rcases hop with ⟨hna, d, v, hd, hmem, hrun⟩ | ⟨hact, hrun⟩
    · refine hrun s a w hΦ hF hbef _ ?_
      have h1 := hCok v (fun u hu => by rw [hmem] at hu; cases hu; rfl)
      have h2 := hFput v
      rw [hd] at h1 h2
      refine ⟨h2, h1, hcl', s, fun j hj => ?_, hput s a w i o d v ho hd hna hΦ⟩
      have hji : j ≠ i := fun e => by subst e; simp at hna; exact hna hj
      show (Nat.beq j i || ls j) = _
      rw [beq_no hji]
      exact hs j hj
    · have h := hrun s a w hΦ hF hbef (by rw [← hs i (by simpa using hact)]; exact hi)
      refine wpOp_mono (fun a' w' hk => ?_) h
      obtain ⟨s', hs', hΦ', v, rfl, hv⟩ := hk
      refine ⟨hFput v, hCok v hv, hcl', s', fun j hj => ?_, hΦ'⟩
      show (Nat.beq j i || ls j) = _
      rw [hs j hj]
      have := List.all_eq_true.1 hs' j hj
      exact (beq_iff_eq.1 this).symm
  · rintro ls a w ⟨hF, hC, hcl, s, hs, hΦ⟩ hall
    refine hend s a w (List.all_eq_true.2 fun i hi => ?_) hΦ hF (fun i o d v ho hd hc => hC i o d v ho hd hc (hall i (List.getElem?_eq_some_iff.1 ho).1))
    rw [← hs i hi]
    exact hall i (by simpa [Nat.blt_eq] using List.all_eq_true.1 hacts i hi)

/-! ### The forms of the obligations -/
theorem wop {i : Nat} {o : Oper} {a : Act} {w : World} {K : Act → World → Prop} (ho : l[i]? = some o) (hg : o.guard = none) (h : o.wp P a w K Q) : wpOp P l.toArray Q i K a w := by
  unfold wpOp
  simp only [List.getElem?_toArray, ho]
  rw [if_pos (by simp [Region.wanted, hg])]
  exact .inl h
theorem wopg {i j : Nat} {b : Bool} {o : Oper} {a : Act} {w : World} {K : Act → World → Prop} {N : Nat} {L : List (Nat × Value)} (hF : Frm N a L) (ho : l[i]? = some o) (hg : o.guard = some (j, b)) (hs : said l.toArray L j = some b) (h : o.wp P a w K Q) : wpOp P l.toArray Q i K a w := by
  unfold wpOp
  simp only [List.getElem?_toArray, ho]
  rw [if_pos (by simp [Region.wanted, hg, yielded_of hF hs])]
  exact .inl h
theorem fl_val {i d : Nat} {o : Oper} {a : Act} {w : World} {K : Act → World → Prop} {v : Value} (ho : l[i]? = some o) (hg : o.guard = none) (hd : o.dst = some d) (hr : (execOp a.eval o).run P w = .ok (.value v) w) (hK : K (a.put (some d) v) w) : wpOp P l.toArray Q i K a w := by
  refine wop ho hg ?_
  unfold Oper.wp
  rw [hr]
  simp only [Oper.upon, hd]
  exact hK
theorem fl_valg {i j d : Nat} {b : Bool} {o : Oper} {a : Act} {w : World} {K : Act → World → Prop} {v : Value} {N : Nat} {L : List (Nat × Value)} (hF : Frm N a L) (ho : l[i]? = some o) (hg : o.guard = some (j, b)) (hs : said l.toArray L j = some b) (hd : o.dst = some d) (hr : (execOp a.eval o).run P w = .ok (.value v) w) (hK : K (a.put (some d) v) w) : wpOp P l.toArray Q i K a w := by
  refine wopg hF ho hg hs ?_
  unfold Oper.wp
  rw [hr]
  simp only [Oper.upon, hd]
  exact hK
theorem fl_skip {i j d : Nat} {b c : Bool} {o : Oper} {a : Act} {w : World} {K : Act → World → Prop} {N : Nat} {L : List (Nat × Value)} (hF : Frm N a L) (ho : l[i]? = some o) (hg : o.guard = some (j, b)) (hs : said l.toArray L j = some c) (hne : (c == b) = false) (hd : o.dst = some d) (hK : K (a.put (some d) undef) w) : wpOp P l.toArray Q i K a w := by
  unfold wpOp
  simp only [List.getElem?_toArray, ho]
  have : Region.wanted o (yielded l.toArray a.tmps) = false := by
    simp only [Region.wanted, hg, yielded_of hF hs]
    cases c <;> cases b <;> first | rfl | cases hne
  rw [this]
  simp only [Bool.false_eq_true, if_false, hd]
  exact hK
/-- The frame of a state holds no slot of an operation that answers the same whenever it runs. -/
def freeOf (l : List Oper) (acts : List Nat) (L : List (Nat × Value)) : Bool := (List.range l.length).all fun i => acts.elem i || (match (l[i]?).bind (·.dst) with | some d => (lk d L).isNone | none => true)
theorem freeOf_at {acts : List Nat} {L : List (Nat × Value)} (h : freeOf l acts L = true) {i : Nat} {o : Oper} {d : Nat} (ho : l[i]? = some o) (hd : o.dst = some d) (hna : acts.elem i = false) : (lk d L).isNone = true := by
  have hi : i < l.length := (List.getElem?_eq_some_iff.1 ho).1
  have := List.all_eq_true.1 h i (by simpa using hi)
  rw [hna] at this
  simpa [ho, hd] using this
end
theorem St.perm {w0 w : World} {L L' : List Bx} (h : St w0 w L) (hp : L.Perm L') : St w0 w L' :=
  ⟨h.below, fun b hb => h.box b (hp.mem_iff.2 hb), (hp.pairwise_iff (fun {_ _} h e => h e.symm)).1 h.nd⟩
end Go.Sw
