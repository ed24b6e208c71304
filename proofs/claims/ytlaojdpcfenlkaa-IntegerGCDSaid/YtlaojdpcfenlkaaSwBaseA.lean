/-
  Frames of slots as lists, own blocks, data in memory, and one rule for each operation.
  Conditions: none; every rule is for any program.
-/
import Derived.WalkKit
import Derived.Orders
namespace Go.Sw
open Go Go.RowKit

/-! ### Frames -/
def lk (t : Nat) : List (Nat × Value) → Option Value
  | [] => none
  | (s, v) :: r => cond (Nat.beq s t) (some v) (lk t r)

theorem beq_no {a b : Nat} (h : ¬ a = b) : Nat.beq a b = false := by
  cases e : Nat.beq a b with
  | false => rfl
  | true => exact absurd (Nat.eq_of_beq_eq_true e) h
structure Frm (N : Nat) (a : Act) (L : List (Nat × Value)) : Prop where
  size : a.tmps.size = N
  defers : a.defers = []
  get : ∀ t v, lk t L = some v → a.tmps.getD t undef = v

theorem Frm.put {N : Nat} {a : Act} {L : List (Nat × Value)} (h : Frm N a L) {d : Nat} (hd : d < N) (v : Value) : Frm N (a.put (some d) v) ((d, v) :: L) := by
  refine ⟨by simp [Act.put, h.size], h.defers, fun t u hu => ?_⟩
  simp only [lk] at hu
  by_cases e : d = t
  · subst e
    simp at hu
    subst hu
    have : d < a.tmps.size := by rw [h.size]; exact hd
    simp [Act.put, this]
  · have e' : Nat.beq d t = false := beq_no e
    rw [e'] at hu
    have := h.get t u hu
    simp only [Act.put, Array.getD_eq_getD_getElem?] at this ⊢
    rw [Array.getElem?_setIfInBounds_ne e]
    exact this

theorem Frm.put_none {N : Nat} {a : Act} {L : List (Nat × Value)} (h : Frm N a L) (v : Value) : Frm N (a.put none v) L := h

/-- A frame says less of fewer slots. -/
theorem Frm.sub {N : Nat} {a : Act} {L L' : List (Nat × Value)} (h : Frm N a L) (hs : ∀ t v, lk t L' = some v → lk t L = some v) : Frm N a L' :=
  ⟨h.size, h.defers, fun t v hv => h.get t v (hs t v hv)⟩

theorem Frm.nil {N : Nat} {a : Act} {L : List (Nat × Value)} (h : Frm N a L) : Frm N a [] := ⟨h.size, h.defers, fun _ _ hv => by simp [lk] at hv⟩
theorem Frm.cons {N : Nat} {a : Act} {L : List (Nat × Value)} (h : Frm N a L) {t : Nat} {v : Value} (hv : a.tmps.getD t undef = v) : Frm N a ((t, v) :: L) := by
  refine ⟨h.size, h.defers, fun s u hu => ?_⟩
  simp only [lk] at hu
  by_cases e : t = s
  · subst e; simp at hu; rw [hv, hu]
  · have e' : Nat.beq t s = false := beq_no e
    rw [e'] at hu
    exact h.get s u hu
/-- One more slot, out of a greater frame. -/
theorem Frm.take {N : Nat} {a : Act} {L L' : List (Nat × Value)} (h : Frm N a L) (h' : Frm N a L') {t : Nat} {v : Value} (hv : lk t L = some v) : Frm N a ((t, v) :: L') :=
  h'.cons (h.get t v hv)

def ev (L : List (Nat × Value)) : Operand → Option Value
  | .tmp t => lk t L
  | .const v => some v
  | .global g => some (.pointer (some ⟨g, 0, none⟩))
  | .func f => some (.func (.func f) #[] #[])

theorem Frm.ev {N : Nat} {a : Act} {L : List (Nat × Value)} (h : Frm N a L) {x : Operand} {v : Value} (hv : Sw.ev L x = some v) : a.eval x = v := by
  cases x with
  | tmp t => exact h.get t v hv
  | const u => exact Option.some.inj hv
  | global g => exact Option.some.inj hv
  | func f => exact Option.some.inj hv

/-! ### Own blocks -/
abbrev Bx := Nat × TypeId × Array Value
structure St (w0 w : World) (L : List Bx) : Prop where
  below : Below w0.heap.size w0 w
  box : ∀ b ∈ L, w.heap[b.1]? = some (.cells b.2.2 b.2.1 (0, 0)) ∧ w0.heap.size ≤ b.1
  nd : L.Pairwise fun a b => a.1 ≠ b.1

def bl (L : List Bx) : List Nat := L.map (·.1)

theorem lt_of_heap {w : World} {g : Nat} {o : Obj} (h : w.heap[g]? = some o) : g < w.heap.size := (Array.getElem?_eq_some_iff.1 h).1

theorem St.refl (w : World) : St w w [] := ⟨Below.refl _ _, fun _ h => absurd h (by simp), List.Pairwise.nil⟩
theorem St.lt {w0 w : World} {L : List Bx} (h : St w0 w L) {b : Bx} (hb : b ∈ L) : b.1 < w.heap.size := lt_of_heap (h.box b hb).1
theorem St.bnd {w0 w : World} {L : List Bx} (h : St w0 w L) {X : List Nat} (hX : ∀ m ∈ X, m < w0.heap.size) : ∀ m ∈ bl L ++ X, m < w.heap.size := by
  intro m hm
  rcases List.mem_append.1 hm with hm | hm
  · obtain ⟨b, hb, rfl⟩ := List.mem_map.1 hm
    exact h.lt hb
  · exact Nat.lt_of_lt_of_le (hX m hm) h.below.size
theorem St.get {w0 w : World} {L : List Bx} (h : St w0 w L) (k : Nat) {g : Nat} {t : TypeId} {cs : Array Value} (hk : L[k]? = some (g, t, cs)) : w.heap[g]? = some (.cells cs t (0, 0)) :=
  (h.box _ (List.mem_of_getElem? hk)).1
theorem St.base {w0 w : World} {L : List Bx} (h : St w0 w L) (k : Nat) {g : Nat} {t : TypeId} {cs : Array Value} (hk : L[k]? = some (g, t, cs)) : w0.heap.size ≤ g :=
  (h.box _ (List.mem_of_getElem? hk)).2
theorem St.drew {w0 w : World} {L : List Bx} (h : St w0 w L) : St w0 w.drew L := ⟨h.below.drew, h.box, h.nd⟩
theorem St.alloc {w0 w : World} {L : List Bx} (h : St w0 w L) (cs : Array Value) (t : TypeId) : St w0 (w.alloc (.cells cs t)) ((w.heap.size, t, cs) :: L) := by
  refine ⟨h.below.alloc h.below.size _, fun b hb => ?_, ?_⟩
  · rcases List.mem_cons.1 hb with rfl | hb
    · exact ⟨heap_alloc_new w _, h.below.size⟩
    · exact ⟨(Below.heap_alloc w _ _ (h.lt hb)).trans (h.box b hb).1, (h.box b hb).2⟩
  · exact List.pairwise_cons.2 ⟨fun b hb => Nat.ne_of_gt (h.lt hb), h.nd⟩
/-- A new block that nobody will write to. -/
theorem St.alloc_ {w0 w : World} {L : List Bx} (h : St w0 w L) (o : Obj) : St w0 (w.alloc o) L :=
  ⟨h.below.alloc h.below.size _, fun b hb => ⟨(Below.heap_alloc w _ _ (h.lt hb)).trans (h.box b hb).1, (h.box b hb).2⟩, h.nd⟩
theorem St.call {w0 w w' : World} {L : List Bx} (h : St w0 w L) (hb : Below w.heap.size w w') : St w0 w' L :=
  ⟨h.below.trans (hb.mono h.below.size), fun b hb' => ⟨(hb.block _ (h.lt hb')).trans (h.box b hb').1, (h.box b hb').2⟩, h.nd⟩
/-- Own blocks are forgotten. -/
theorem St.drop {w0 w : World} {L L' : List Bx} (h : St w0 w L) (hs : L'.Sublist L) : St w0 w L' :=
  ⟨h.below, fun b hb => h.box b (hs.subset hb), h.nd.sublist hs⟩
/-- A known block is taken in. -/
theorem St.push {w0 w : World} {L : List Bx} (h : St w0 w L) {g : Nat} {t : TypeId} {cs : Array Value} (hg : w.heap[g]? = some (.cells cs t (0, 0))) (h0 : w0.heap.size ≤ g) (hn : g ∉ bl L) : St w0 w ((g, t, cs) :: L) := by
  refine ⟨h.below, fun b hb => ?_, List.pairwise_cons.2 ⟨fun b hb e => hn (List.mem_map.2 ⟨b, hb, e.symm⟩), h.nd⟩⟩
  rcases List.mem_cons.1 hb with rfl | hb
  · exact ⟨hg, h0⟩
  · exact h.box b hb

theorem bl_set {L : List Bx} (k : Nat) {g : Nat} {t t' : TypeId} {cs cs' : Array Value} (hk : L[k]? = some (g, t, cs)) : bl (L.set k (g, t', cs')) = bl L := by
  have hlt : k < L.length := (List.getElem?_eq_some_iff.1 hk).1
  have hv : L[k] = (g, t, cs) := (List.getElem?_eq_some_iff.1 hk).2
  apply List.ext_getElem?
  intro i
  simp only [bl, List.getElem?_map, List.getElem?_set]
  by_cases hi : k = i
  · subst hi
    simp [hlt, hv]
  · simp [hi]
theorem nd_set {L : List Bx} (h : L.Pairwise fun a b => a.1 ≠ b.1) (k : Nat) {g : Nat} {t t' : TypeId} {cs cs' : Array Value} (hk : L[k]? = some (g, t, cs)) :
    (L.set k (g, t', cs')).Pairwise (fun a b => a.1 ≠ b.1) := by
  have h' : (bl L).Pairwise (· ≠ ·) := List.pairwise_map.2 h
  rw [← bl_set (t' := t') (cs' := cs') k hk] at h'
  exact List.pairwise_map.1 h'
/-- The k-th own block is written over; nothing else has turned. -/
theorem St.write {w0 w w' : World} {L : List Bx} (h : St w0 w L) (k : Nat) {g : Nat} {t : TypeId} {cs cs' : Array Value} (hk : L[k]? = some (g, t, cs))
    (hg : w.grownBy w' (some g)) (hn : w'.heap[g]? = some (.cells cs' t (0, 0))) : St w0 w' (L.set k (g, t, cs')) := by
  refine ⟨h.below.grown hg h.below.size (fun k' hk' => by cases hk'; exact h.base k hk), fun b hb => ?_, nd_set h.nd k hk⟩
  obtain ⟨i, hi, rfl⟩ := List.getElem_of_mem hb
  by_cases e : k = i
  · subst e
    simp only [List.getElem_set_self]
    exact ⟨hn, h.base k hk⟩
  · rw [List.getElem_set_ne e]
    have hil : i < L.length := by simpa using hi
    have hkl : k < L.length := (List.getElem?_eq_some_iff.1 hk).1
    have hm : L[i] ∈ L := List.getElem_mem hil
    have hne : (L[i]).1 ≠ g := by
      have hkv : L[k] = (g, t, cs) := by have := hk; rw [List.getElem?_eq_getElem hkl] at this; exact Option.some.inj this
      rcases Nat.lt_or_gt_of_ne e with hlt | hgt
      · have := List.pairwise_iff_getElem.1 h.nd k i hkl hil hlt
        rw [hkv] at this; exact fun e => this e.symm
      · have := List.pairwise_iff_getElem.1 h.nd i k hil hkl hgt
        rw [hkv] at this; exact this
    exact ⟨(hg.block _ (h.lt hm) (fun e => hne (by injection e))).trans (h.box _ hm).1, (h.box _ hm).2⟩

/-! ### What does not turn -/
structure Ext (w : World) (X : List Nat) (w' : World) (X' : List Nat) : Prop where
  size : w.heap.size ≤ w'.heap.size
  block : ∀ k, k < w.heap.size → k ∉ X → w'.heap[k]? = w.heap[k]? ∧ k ∉ X'
theorem Ext.refl (w : World) (X : List Nat) : Ext w X w X := ⟨Nat.le_refl _, fun _ _ h => ⟨rfl, h⟩⟩
theorem Ext.trans {w w' w'' : World} {X X' X'' : List Nat} (h : Ext w X w' X') (k : Ext w' X' w'' X'') : Ext w X w'' X'' :=
  ⟨Nat.le_trans h.size k.size, fun i hi hx => by
    obtain ⟨h1, h2⟩ := h.block i hi hx
    obtain ⟨k1, k2⟩ := k.block i (Nat.lt_of_lt_of_le hi h.size) h2
    exact ⟨k1.trans h1, k2⟩⟩
theorem Ext.drew (w : World) (X : List Nat) : Ext w X w.drew X := ⟨Nat.le_refl _, fun _ _ h => ⟨rfl, h⟩⟩
theorem Ext.call {w w' : World} (X : List Nat) (h : Below w.heap.size w w') : Ext w X w' X := ⟨h.size, fun k hk hx => ⟨h.block k hk, hx⟩⟩
theorem Ext.alloc (w : World) (X : List Nat) (o : Obj) : Ext w X (w.alloc o) (w.heap.size :: X) :=
  ⟨by simp, fun k hk hx => ⟨Below.heap_alloc w o k hk, by simp [hx]; omega⟩⟩
theorem Ext.alloc_ (w : World) (X : List Nat) (o : Obj) : Ext w X (w.alloc o) X :=
  ⟨by simp, fun k hk hx => ⟨Below.heap_alloc w o k hk, hx⟩⟩
theorem Ext.write {w w' : World} {X : List Nat} {g : Nat} (h : w.grownBy w' (some g)) (hg : g ∈ X) : Ext w X w' X :=
  ⟨h.size, fun k hk hx => ⟨h.block k hk (fun e => hx (by injection e with e; rw [e]; exact hg)), hx⟩⟩
theorem Ext.drop {w : World} {X X' : List Nat} (h : ∀ x ∈ X', x ∈ X) : Ext w X w X' := ⟨Nat.le_refl _, fun _ _ hx => ⟨rfl, fun h' => hx (h _ h')⟩⟩
/-- A block of the call's own that the caller's list does not know. -/
theorem Ext.add {w : World} {X : List Nat} {g : Nat} {w1 : World} {X1 : List Nat} (h : Ext w1 X1 w X) (hg : w1.heap.size ≤ g) : Ext w1 X1 w (g :: X) :=
  ⟨h.size, fun k hk hx => ⟨(h.block k hk hx).1, by have := (h.block k hk hx).2; simp [this]; omega⟩⟩

/-- The cells 'vs' lie at A, outside the blocks X. -/
def Cl (w : World) (X : List Nat) (A : Option Addr) (vs : List Value) : Prop :=
  vs ≠ [] → ∃ ad, A = some ad ∧ ad.block < w.heap.size ∧ ad.block ∉ X ∧ ∀ j u, vs[j]? = some u → w.cell? (ad.add j) = some u

theorem block_add (a : Addr) (n : Nat) : (a.add n).block = a.block := by unfold Addr.add; split <;> rfl
theorem add_add' (a : Addr) (i j : Nat) : (a.add i).add j = a.add (i + j) := by
  unfold Addr.add
  by_cases hi : i = 0 <;> by_cases hj : j = 0 <;> simp [hi, hj, Nat.add_assoc]

theorem Cl.nil (w : World) (X : List Nat) (A : Option Addr) : Cl w X A [] := fun h => absurd rfl h
theorem Cl.ext {w w' : World} {X X' : List Nat} {A : Option Addr} {vs : List Value} (h : Cl w X A vs) (e : Ext w X w' X') : Cl w' X' A vs := fun hv => by
  obtain ⟨ad, rfl, hb, hx, hc⟩ := h hv
  obtain ⟨e1, e2⟩ := e.block _ hb hx
  exact ⟨ad, rfl, Nat.lt_of_lt_of_le hb e.size, e2, fun j u hu => (World.cell?_of_block (w := w) (by rw [block_add]; exact e1)).trans (hc j u hu)⟩
theorem Cl.at_ {w : World} {X : List Nat} {A : Option Addr} {vs : List Value} (h : Cl w X A vs) {j : Nat} {u : Value} (hu : vs[j]? = some u) : ∃ ad, A = some ad ∧ w.cell? (ad.add j) = some u := by
  obtain ⟨ad, rfl, _, _, hc⟩ := h (by intro e; subst e; simp at hu)
  exact ⟨ad, rfl, hc j u hu⟩
theorem Cl.at2 {w : World} {X : List Nat} {A : Option Addr} {vs : List Value} (h : Cl w X A vs) {j : Nat} {u : Value} (hu : vs[j]? = some u) : ∃ ad, A = some ad ∧ ∀ {w' : World} {X' : List Nat}, Ext w X w' X' → w'.cell? (ad.add j) = some u := by
  obtain ⟨ad, rfl, hb, hx, hc⟩ := h (by intro e; subst e; simp at hu)
  exact ⟨ad, rfl, fun e => (World.cell?_of_block (w := w) (by rw [block_add]; exact (e.block _ hb hx).1)).trans (hc j u hu)⟩
theorem Cl.take {w : World} {X : List Nat} {A : Option Addr} {vs : List Value} (h : Cl w X A vs) (n : Nat) : Cl w X A (vs.take n) := fun hv => by
  obtain ⟨ad, rfl, hb, hx, hc⟩ := h (by intro e; subst e; simp at hv)
  refine ⟨ad, rfl, hb, hx, fun j u hu => hc j u ?_⟩
  rw [List.getElem?_take] at hu
  split at hu
  · exact hu
  · cases hu
theorem Cl.drop {w : World} {X : List Nat} {A : Option Addr} {vs : List Value} (h : Cl w X A vs) (n : Nat) : Cl w X (A.map (·.add n)) (vs.drop n) := fun hv => by
  obtain ⟨ad, rfl, hb, hx, hc⟩ := h (by intro e; subst e; simp at hv)
  refine ⟨ad.add n, rfl, by rw [block_add]; exact hb, by rw [block_add]; exact hx, fun j u hu => ?_⟩
  rw [add_add']
  exact hc _ u (by rw [← hu, List.getElem?_drop])
/-- The cells of an own block, once it is forgotten. -/
theorem Cl.of_block {w : World} {X : List Nat} {g : Nat} {t : TypeId} {cs : Array Value} {fr : Nat × Nat} (hg : w.heap[g]? = some (.cells cs t fr)) (hx : g ∉ X) (n : Nat) : Cl w X (some ⟨g, 0, none⟩) (cs.toList.take n) := fun _ => by
  refine ⟨_, rfl, lt_of_heap hg, hx, fun j u hu => ?_⟩
  rw [Addr.add_lit, Nat.zero_add, cell_of_row w g j cs t fr hg]
  rw [List.getElem?_take] at hu
  split at hu
  · simpa using hu
  · cases hu
end Go.Sw
