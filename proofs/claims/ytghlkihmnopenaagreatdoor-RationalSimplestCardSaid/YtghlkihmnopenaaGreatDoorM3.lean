/-
  Which machine values and which memory an abstract value stands for.
  The operations over abstract values: each does what the abstract run says.
  The operations on memory over abstract values.
  New blocks, writes, and data handed on, over abstract values.
  Variables made and written, structs and slices built, over abstract values.
  Structs and slices built, and calls, over abstract values.
  Structs, slices and calls over abstract values.
  Calls over abstract values.
  Conditions: none.
-/
import Derived.Test.YtghlkihmnopenaaGreatDoorM2
set_option linter.all false
namespace Go.Sw
open Go Go.RowKit
set_option linter.unusedVariables false

inductive RepC (w : World) (X : List Nat) : Value → Cell → Prop where
  | v (u : Value) (h : u.oneCell' = true) : RepC w X u (.v u)
  | sl (A : Option Addr) (n cap s : Nat) (uss : List (List Value)) (es : List (List Cell)) (hn : n = es.length) (hu : uss.length = es.length)
      (hc : Cl w X A uss.flatten) (hcap : n ≤ cap) (hmx : cap ≤ 9223372036854775807)
      (hs : ∀ (i : Nat) us e, uss[i]? = some us → es[i]? = some e → us.length = s ∧ e.length = s)
      (hr : ∀ (i : Nat) us e, uss[i]? = some us → es[i]? = some e → ∀ (j : Nat) u c, us[j]? = some u → e[j]? = some c → RepC w X u c) :
      RepC w X (.slice A n cap) (.sl s es)
theorem RepC.ext {w w' : World} {X X' : List Nat} {u : Value} {c : Cell} (h : RepC w X u c) (e : Ext w X w' X') : RepC w' X' u c := by
  induction h with
  | v u h => exact .v u h
  | sl A n cap s uss es hn hu hc hcap hmx hs hr ih => exact .sl A n cap s uss es hn hu (hc.ext e) hcap hmx hs ih
theorem RepC.one {w : World} {X : List Nat} {u : Value} {c : Cell} (h : RepC w X u c) : u.oneCell' = true := by
  cases h with
  | v u h => exact h
  | sl => rfl
theorem RepC.nil (w : World) (X : List Nat) (s : Nat) : RepC w X (.slice none 0 0) (.sl s []) :=
  .sl none 0 0 s [] [] rfl rfl (Cl.nil _ _ _) (Nat.le_refl _) (by omega) (fun i us e h => by simp at h) (fun i us e h => by simp at h)
structure RepL (w : World) (X : List Nat) (us : List Value) (cs : List Cell) : Prop where
  len : us.length = cs.length
  get : ∀ (j : Nat) u c, us[j]? = some u → cs[j]? = some c → RepC w X u c
theorem RepL.ext {w w' : World} {X X' : List Nat} {us : List Value} {cs : List Cell} (h : RepL w X us cs) (e : Ext w X w' X') : RepL w' X' us cs := ⟨h.len, fun j u c a b => (h.get j u c a b).ext e⟩
theorem RepL.nil (w : World) (X : List Nat) : RepL w X [] [] := ⟨rfl, fun j u c h => by simp at h⟩
theorem RepL.cons {w : World} {X : List Nat} {u : Value} {c : Cell} {us : List Value} {cs : List Cell} (h : RepC w X u c) (k : RepL w X us cs) : RepL w X (u :: us) (c :: cs) :=
  ⟨by simp [k.len], fun j x y a b => by
    cases j with
    | zero => simp at a b; subst a b; exact h
    | succ j => exact k.get j x y (by simpa using a) (by simpa using b)⟩
theorem RepL.inv {w : World} {X : List Nat} {us : List Value} {c : Cell} {cs : List Cell} (h : RepL w X us (c :: cs)) : ∃ u r, us = u :: r ∧ RepC w X u c ∧ RepL w X r cs := by
  have hl := h.len
  cases us with
  | nil => simp at hl
  | cons u r => exact ⟨u, r, rfl, h.get 0 u c rfl rfl, by simpa using hl, fun j x y a b => h.get (j + 1) x y (by simpa using a) (by simpa using b)⟩
theorem RepL.one {w : World} {X : List Nat} {us : List Value} {cs : List Cell} (h : RepL w X us cs) : ∀ u ∈ us, u.oneCell' = true := by
  intro u hu
  obtain ⟨i, hi, rfl⟩ := List.getElem_of_mem hu
  have hi' : i < cs.length := by rw [← h.len]; exact hi
  exact (h.get i _ _ (List.getElem?_eq_getElem hi) (List.getElem?_eq_getElem hi')).one
theorem RepL.drop {w : World} {X : List Nat} {us : List Value} {cs : List Cell} (h : RepL w X us cs) (n : Nat) : RepL w X (us.drop n) (cs.drop n) :=
  ⟨by simp [h.len], fun j u c a b => h.get (n + j) u c (by rw [List.getElem?_drop] at a; exact a) (by rw [List.getElem?_drop] at b; exact b)⟩
theorem RepL.take {w : World} {X : List Nat} {us : List Value} {cs : List Cell} (h : RepL w X us cs) (n : Nat) : RepL w X (us.take n) (cs.take n) :=
  ⟨by simp [h.len], fun j u c a b => by
    rw [List.getElem?_take] at a b
    split at a
    · rename_i hj; rw [if_pos hj] at b; exact h.get j u c a b
    · cases a⟩
theorem RepL.append {w : World} {X : List Nat} {us vs : List Value} {cs ds : List Cell} (h : RepL w X us cs) (k : RepL w X vs ds) : RepL w X (us ++ vs) (cs ++ ds) :=
  ⟨by simp [h.len, k.len], fun j u c a b => by
    by_cases hj : j < us.length
    · rw [List.getElem?_append_left hj] at a
      rw [List.getElem?_append_left (by rw [← h.len]; exact hj)] at b
      exact h.get j u c a b
    · rw [List.getElem?_append_right (by omega)] at a
      rw [List.getElem?_append_right (by rw [← h.len]; omega), ← h.len] at b
      exact k.get _ u c a b⟩
/-- Elements of s cells each. -/
structure RepS (w : World) (X : List Nat) (s : Nat) (uss : List (List Value)) (es : List (List Cell)) : Prop where
  len : uss.length = es.length
  sz : ∀ us ∈ uss, us.length = s
  get : ∀ (i : Nat) us e, uss[i]? = some us → es[i]? = some e → RepL w X us e
theorem RepS.ext {w w' : World} {X X' : List Nat} {s : Nat} {us : List (List Value)} {cs : List (List Cell)} (h : RepS w X s us cs) (e : Ext w X w' X') : RepS w' X' s us cs := ⟨h.len, h.sz, fun j u c a b => (h.get j u c a b).ext e⟩
theorem RepS.nil (w : World) (X : List Nat) (s : Nat) : RepS w X s [] [] := ⟨rfl, fun u h => by simp at h, fun j u c h => by simp at h⟩
theorem RepS.append {w : World} {X : List Nat} {s : Nat} {us vs : List (List Value)} {cs ds : List (List Cell)} (h : RepS w X s us cs) (k : RepS w X s vs ds) : RepS w X s (us ++ vs) (cs ++ ds) :=
  ⟨by simp [h.len, k.len], fun u hu => by rcases List.mem_append.1 hu with hu | hu; exact h.sz u hu; exact k.sz u hu, fun j u c a b => by
    by_cases hj : j < us.length
    · rw [List.getElem?_append_left hj] at a
      rw [List.getElem?_append_left (by rw [← h.len]; exact hj)] at b
      exact h.get j u c a b
    · rw [List.getElem?_append_right (by omega)] at a
      rw [List.getElem?_append_right (by rw [← h.len]; omega), ← h.len] at b
      exact k.get _ u c a b⟩
theorem RepS.of_sl {w : World} {X : List Nat} {u : Value} {s : Nat} {es : List (List Cell)} (h : RepC w X u (.sl s es)) : ∃ A cap uss, u = .slice A es.length cap ∧ es.length ≤ cap ∧ cap ≤ 9223372036854775807 ∧ Cl w X A uss.flatten ∧ RepS w X s uss es := by
  cases h with
  | sl A n cap s uss es hn hu hc hcap hmx hs hr =>
    subst hn
    refine ⟨A, cap, uss, rfl, hcap, hmx, hc, hu, fun us hus => ?_, fun i us e a b => ⟨?_, hr i us e a b⟩⟩
    · obtain ⟨i, hi, rfl⟩ := List.getElem_of_mem hus
      exact (hs i _ _ (List.getElem?_eq_getElem hi) (List.getElem?_eq_getElem (by omega))).1
    · have := hs i us e a b
      omega
theorem RepS.sl {w : World} {X : List Nat} {A : Option Addr} {cap s : Nat} {uss : List (List Value)} {es : List (List Cell)} (h : RepS w X s uss es) (hc : Cl w X A uss.flatten) (hcap : es.length ≤ cap) (hmx : cap ≤ 9223372036854775807) : RepC w X (.slice A es.length cap) (.sl s es) :=
  .sl A _ cap s uss es rfl h.len hc hcap hmx (fun i us e a b => ⟨h.sz us (List.mem_of_getElem? a), by have := (h.get i us e a b).len; rw [← this]; exact h.sz us (List.mem_of_getElem? a)⟩) (fun i us e a b => (h.get i us e a b).get)
theorem flatten_len {s : Nat} : ∀ {uss : List (List Value)}, (∀ us ∈ uss, us.length = s) → uss.flatten.length = uss.length * s
  | [], _ => by simp
  | u :: r, h => by
    have h1 := flatten_len (uss := r) (fun us hu => h us (by simp [hu]))
    have h2 := h u (by simp)
    simp [h1, h2, Nat.succ_mul]; omega
theorem flatten_at {s : Nat} : ∀ {uss : List (List Value)}, (∀ us ∈ uss, us.length = s) → ∀ {i : Nat} {us : List Value}, uss[i]? = some us → ∀ j, j < s → uss.flatten[i * s + j]? = us[j]?
  | [], _, i, us, h, _, _ => by simp at h
  | u :: r, hs, 0, us, h, j, hj => by
    have : u = us := by simpa using h
    subst this
    rw [Nat.zero_mul, Nat.zero_add, List.flatten_cons, List.getElem?_append_left (by rw [hs u (by simp)]; exact hj)]
  | u :: r, hs, i + 1, us, h, j, hj => by
    have hu := hs u (by simp)
    have := flatten_at (uss := r) (fun us hm => hs us (by simp [hm])) (i := i) (us := us) (by simpa using h) j hj
    rw [List.flatten_cons, List.getElem?_append_right (by rw [hu, Nat.succ_mul]; omega), hu, ← this]
    congr 1
    rw [Nat.succ_mul]; omega

/-! ### Data -/
inductive RepD (w : World) (X : List Nat) : Value → AV → Prop where
  | c {u x} (h : RepC w X u x) : RepD w X u (.c x)
  | agg {us : List Value} {cs : List Cell} (h : RepL w X us cs) : RepD w X (.agg us.toArray) (.agg cs)
theorem RepD.ext {w w' : World} {X X' : List Nat} {u : Value} {v : AV} (h : RepD w X u v) (e : Ext w X w' X') : RepD w' X' u v := by
  cases h with
  | c h => exact .c (h.ext e)
  | agg h => exact .agg (h.ext e)
/-- A result: data, or several of them. -/
inductive RepR (w : World) (X : List Nat) : Value → AV → Prop where
  | d {u v} (h : RepD w X u v) : RepR w X u v
  | tup {us : List Value} {vs : List AV} (hl : us.length = vs.length) (h : ∀ (i : Nat) u v, us[i]? = some u → vs[i]? = some v → RepD w X u v) : RepR w X (.tuple us.toArray) (.tup vs)
theorem oneCell_cells {u : Value} (h : u.oneCell' = true) : u.cells = #[u] := by
  cases u <;> first | rfl | (exfalso; revert h; simp [Value.oneCell'])
theorem RepD.cells {w : World} {X : List Nat} {u : Value} {v : AV} (h : RepD w X u v) : ∃ us : List Value, u.cells = us.toArray ∧ RepL w X us (cellsOf v) := by
  cases h with
  | c h => exact ⟨[u], oneCell_cells h.one, .cons h (.nil _ _)⟩
  | agg h => exact ⟨_, rfl, h⟩

/-- What a call of f with data answers. -/
def DenO (P : Program) (f : FuncId) (xs : List AV) (r : AV) : Prop :=
  hasBody P f = true ∧ ∀ (w : World) (X : List Nat) (vs : List Value), (∀ m ∈ X, m < w.heap.size) → vs.length = xs.length → (∀ (i : Nat) u v, vs[i]? = some u → xs[i]? = some v → RepD w X u v) →
    Calls P f vs.toArray w (Ret fun u w' => RepR w' X u r ∧ Below w.heap.size w w')
/-- What a call of f answers that is given a variable, and what it writes to it. -/
def DenW (P : Program) (f : FuncId) (cs : List Cell) (xs : List AV) (cs' : List Cell) (r : AV) : Prop :=
  hasBody P f = true ∧ ∀ (w : World) (X : List Nat) (g : Nat) (T : TypeId) (us vs : List Value), (∀ m ∈ X, m < w.heap.size) → w.heap[g]? = some (.cells us.toArray T (0, 0)) → RepL w X us cs →
    vs.length = xs.length → (∀ (i : Nat) u v, vs[i]? = some u → xs[i]? = some v → RepD w X u v) →
    Calls P f (.pointer (some ⟨g, 0, none⟩) :: vs).toArray w (Ret fun u w' => RepR w' X u r ∧ w.grownBy w' (some g) ∧ ∃ us' : List Value, w'.heap[g]? = some (.cells us'.toArray T (0, 0)) ∧ RepL w' X us' cs')
def Den (P : Program) (f : FuncId) (xs : List AV) (r : AV) : Prop :=
  match xs, r with
  | .tup [.agg cs] :: as, .tup [.agg cs', r'] => DenW P f cs as cs' r'
  | xs, r => DenO P f xs r
def noTup : List AV → Bool
  | .tup _ :: _ => false
  | _ => true
theorem Den.old {P : Program} {f : FuncId} {xs : List AV} {r : AV} (h : Den P f xs r) (hn : noTup xs = true) : DenO P f xs r := by
  unfold Den at h
  split at h
  · simp [noTup] at hn
  · exact h
theorem Den.of {P : Program} {f : FuncId} {xs : List AV} {r : AV} (h : DenO P f xs r) (hn : noTup xs = true) : Den P f xs r := by
  unfold Den
  split
  · simp [noTup] at hn
  · exact h
theorem noTup_rep {w : World} {X : List Nat} {us : List Value} {xs : List AV} (hl : us.length = xs.length) (h : ∀ (i : Nat) u v, us[i]? = some u → xs[i]? = some v → RepD w X u v) : noTup xs = true := by
  unfold noTup
  split
  · match us, hl with
    | u :: _, _ => exact (nomatch h 0 u _ rfl rfl)
  · rfl
/-- A block of the call's own: a variable, or a slice that grows. -/
structure MB where
  isVar : Bool
  own : Bool
  g : Option Nat
  T : TypeId
  s : Nat
  n : Nat
  cap : Nat
  us : List Value
def hdr (m : MB) : Value := .slice (m.g.map fun g => ⟨g, 0, none⟩) m.n m.cap
abbrev MM := Nat → Option MB
inductive RepV (w : World) (X : List Nat) (M : MM) : Value → AV → Prop where
  | d {u v} (h : RepD w X u v) : RepV w X M u v
  | tup {us : List Value} {vs : List AV} (hl : us.length = vs.length) (h : ∀ (i : Nat) u v, us[i]? = some u → vs[i]? = some v → RepD w X u v) : RepV w X M (.tuple us.toArray) (.tup vs)
  | ptr {b o m g} (hm : M b = some m) (hv : m.isVar = true) (hg : m.g = some g) : RepV w X M (.pointer (some ⟨g, o, none⟩)) (.ptr b o)
  | pe {u b n i o m} (hm : M b = some m) (hv : m.isVar = false) (hle : n ≤ m.n) (h : m.n = n → ∃ g, m.g = some g ∧ u = .pointer (some ⟨g, i * m.s + o, none⟩)) : RepV w X M u (.pe b n i o)
  | rd {g o : Nat} {us : List Value} {cs : List Cell} (hc : Cl w X (some ⟨g, o, none⟩) us) (h : RepL w X us cs) : RepV w X M (.pointer (some ⟨g, o, none⟩)) (.rd cs)
  | gs {u b n m} (hm : M b = some m) (hv : m.isVar = false) (hle : n ≤ m.n) (h : m.n = n → u = hdr m) : RepV w X M u (.gs b n)
  | bad {u} (h : u = undef) : RepV w X M u .bad
  | any {u} : RepV w X M u .any
/-- A block later on. -/
structure Comp (m m' : MB) : Prop where
  v : m'.isVar = m.isVar
  g : m.isVar = true → m'.g = m.g
  h : m.isVar = false → (m'.g = m.g ∧ m'.s = m.s ∧ m'.n = m.n ∧ m'.cap = m.cap) ∨ m.n < m'.n
theorem Comp.refl (m : MB) : Comp m m := ⟨rfl, fun _ => rfl, fun _ => .inl ⟨rfl, rfl, rfl, rfl⟩⟩
theorem RepV.ext {w w' : World} {X X' : List Nat} {M M' : MM} {u : Value} {v : AV} (h : RepV w X M u v) (e : Ext w X w' X') (hM : ∀ b ∈ idsA v, ∀ m, M b = some m → ∃ m', M' b = some m' ∧ Comp m m') : RepV w' X' M' u v := by
  cases h with
  | d h => exact .d (h.ext e)
  | tup hl h => exact .tup hl fun i u v a b => (h i u v a b).ext e
  | ptr hm hv hg =>
    obtain ⟨m', h1, h2⟩ := hM _ (by simp [idsA]) _ hm
    exact .ptr h1 (h2.v.trans hv) ((h2.g hv).trans hg)
  | pe hm hv hle h =>
    obtain ⟨m', h1, h2⟩ := hM _ (by simp [idsA]) _ hm
    rename_i b n i o m
    rcases h2.h hv with ⟨e1, e2, e3, e4⟩ | hlt
    · exact .pe h1 (h2.v.trans hv) (by omega) fun hn => by rw [e1, e2]; exact h (e3 ▸ hn)
    · exact .pe h1 (h2.v.trans hv) (by omega) fun hn => by omega
  | rd hc h => exact .rd (hc.ext e) (h.ext e)
  | gs hm hv hle h =>
    obtain ⟨m', h1, h2⟩ := hM _ (by simp [idsA]) _ hm
    rename_i b n m
    rcases h2.h hv with ⟨e1, e2, e3, e4⟩ | hlt
    · exact .gs h1 (h2.v.trans hv) (by omega) fun hn => by
        have := h (e3 ▸ hn)
        rw [this]; unfold hdr; rw [e1, e3, e4]
    · exact .gs h1 (h2.v.trans hv) (by omega) fun hn => by omega
  | bad h => exact .bad h
  | any => exact .any

/-! ### The blocks of the call's own -/
def RepM (w : World) (X : List Nat) (m : MB) : Bk → Prop
  | .var cs => m.isVar = true ∧ m.own = true ∧ (∃ g, m.g = some g) ∧ RepL w X m.us cs
  | .grow T s es => m.isVar = false ∧ m.own = true ∧ m.T = T ∧ (m.s = s ∧ 0 < s) ∧ m.n = es.length ∧
      ((m.g = none ∧ es = [] ∧ m.cap = 0) ∨ ∃ g uss rest, m.g = some g ∧ m.us = uss.flatten ++ rest ∧ RepS w X s uss es ∧ m.cap * s = m.us.length ∧ m.cap ≤ maxLen ∧ m.n ≤ m.cap)
  | .froz s es => m.isVar = false ∧ (m.s = s ∧ 0 < s) ∧ m.n = es.length ∧ RepC w X (hdr m) (.sl s es)
  | .dead => True
theorem RepM.ext {w w' : World} {X X' : List Nat} {m : MB} {x : Bk} (h : RepM w X m x) (e : Ext w X w' X') : RepM w' X' m x := by
  cases x with
  | var cs => exact ⟨h.1, h.2.1, h.2.2.1, h.2.2.2.ext e⟩
  | grow T s es =>
    obtain ⟨h1, h2, h3, h4, h5, h6⟩ := h
    refine ⟨h1, h2, h3, h4, h5, ?_⟩
    rcases h6 with h6 | ⟨g, uss, rest, a1, a2, a3, a4⟩
    · exact .inl h6
    · exact .inr ⟨g, uss, rest, a1, a2, a3.ext e, a4⟩
  | froz s es => exact ⟨h.1, h.2.1, h.2.2.1, h.2.2.2.ext e⟩
  | dead => trivial
structure MS (w0 w : World) (S : List Bx) (M : MM) : Prop where
  st : St w0 w S
  inS : ∀ b m, M b = some m → m.own = true → ∀ g, m.g = some g → (g, m.T, m.us.toArray) ∈ S
  inj : ∀ b b' m m' g, M b = some m → M b' = some m' → m.own = true → m'.own = true → m.g = some g → m'.g = some g → b = b'
def MM.set (M : MM) (b : Nat) (m : MB) : MM := fun i => if i = b then some m else M i
theorem MM.set_same (M : MM) (b : Nat) (m : MB) : M.set b m b = some m := by simp [MM.set]
theorem MM.set_other (M : MM) {b i : Nat} (m : MB) (h : i ≠ b) : M.set b m i = M i := by simp [MM.set, h]
/-- The state of a call: frame and memory. -/
structure Sta (N : Nat) (w0 : World) (X0 : List Nat) (S : List Bx) (M : MM) (a : Act) (w : World) (e : Env) (b : Bxs) : Prop where
  ms : MS w0 w S M
  x0 : ∀ m ∈ X0, m < w0.heap.size
  sz : a.tmps.size = N
  df : a.defers = []
  env : ∀ t v, ld t e = some v → RepV w (bl S ++ X0) M (a.tmps.getD t undef) v
  box : ∀ i x, ld i b = some x → ∃ m, M i = some m ∧ RepM w (bl S ++ X0) m x
def Conc (N : Nat) (w0 : World) (X0 : List Nat) (e : Env) (b : Bxs) (a : Act) (w : World) : Prop := ∃ S M, Sta N w0 X0 S M a w e b
theorem Sta.bnd {N : Nat} {w0 : World} {X0 : List Nat} {S : List Bx} {M : MM} {a : Act} {w : World} {e : Env} {b : Bxs} (h : Sta N w0 X0 S M a w e b) : ∀ m ∈ bl S ++ X0, m < w.heap.size := h.ms.st.bnd h.x0
/-- What an operation does. -/
def Does (P : Program) (o : Oper) (a : Act) (w : World) (R : Value → World → Prop) : Prop :=
  (∃ u w', (execOp a.eval o).run P w = .ok (.value u) w' ∧ R u w') ∨ (∃ w', (execOp a.eval o).run P w = .ok .skip w' ∧ R undef w') ∨ ∃ f vs, (execOp a.eval o).run P w = .ok (.enter f vs) w ∧ Calls P f vs w (Ret R)
theorem Does.wp {P : Program} {o : Oper} {a : Act} {w : World} {R : Value → World → Prop} {K : Act → World → Prop} {Q : Exit → Act → World → Prop} (h : Does P o a w R) (k : ∀ u w', R u w' → K (a.put o.dst u) w') : o.wp P a w K Q := by
  unfold Oper.wp
  rcases h with ⟨u, w', hr, hR⟩ | ⟨w', hr, hR⟩ | ⟨f, vs, hr, hc⟩
  · rw [hr]; exact k u w' hR
  · rw [hr]; exact k _ w' hR
  · rw [hr]
    simp only [Oper.upon]
    refine hc.mono ?_
    rintro e w' ⟨v, rfl, hR⟩
    exact k v w' hR
/-- Behind an operation with the value v and the writes f. -/
def Post (w0 : World) (X0 : List Nat) (S : List Bx) (M : MM) (w : World) (al : List Nat) (v : AV) (f : Bxs) (u : Value) (w' : World) : Prop :=
  ∃ S' M', MS w0 w' S' M' ∧ Ext w (bl S ++ X0) w' (bl S' ++ X0) ∧ RepV w' (bl S' ++ X0) M' u v ∧ (∀ i, i ∉ f.map (·.1) → M' i = M i) ∧
    (∀ i m, M i = some m → i ∉ al → ∃ m', M' i = some m' ∧ Comp m m') ∧ (∀ i x, (i, x) ∈ f → ∃ m', M' i = some m' ∧ RepM w' (bl S' ++ X0) m' x)
/-- An operation that only computes. -/
theorem Post.pure {w0 : World} {X0 : List Nat} {S : List Bx} {M : MM} {w : World} {al : List Nat} {v : AV} {u : Value} (h : MS w0 w S M) (hv : RepV w (bl S ++ X0) M u v) : Post w0 X0 S M w al v [] u w :=
  ⟨S, M, h, Ext.refl _ _, hv, fun _ _ => rfl, fun i m hm _ => ⟨m, hm, Comp.refl m⟩, fun i x hx => by simp at hx⟩
end Go.Sw

namespace Go.Sw
open Go Go.RowKit
set_option linter.unusedVariables false

theorem takeN_some {α : Type} : ∀ {n : Nat} {l r : List α}, takeN n l = some r → r = l.take n ∧ n ≤ l.length
  | 0, l, r, h => by simp [takeN] at h; simp [h]
  | n + 1, [], r, h => by simp [takeN] at h
  | n + 1, x :: l, r, h => by
    simp only [takeN] at h
    cases hq : takeN n l with
    | none => simp [hq] at h
    | some q =>
      simp [hq] at h
      obtain ⟨h1, h2⟩ := takeN_some hq
      subst h h1
      simp; omega
theorem dropN_eq {α : Type} : ∀ (n : Nat) (l : List α), dropN n l = l.drop n
  | 0, l => by simp [dropN]
  | n + 1, [] => by simp [dropN]
  | n + 1, x :: l => by simp [dropN, dropN_eq n l]
theorem putN_some {α : Type} : ∀ {n : Nat} {vs l r : List α}, putN n vs l = some r → n + vs.length ≤ l.length ∧ r = l.take n ++ vs ++ l.drop (n + vs.length)
  | 0, [], l, r, h => by simp [putN] at h; simp [h]
  | 0, y :: vs, [], r, h => by simp [putN] at h
  | 0, y :: vs, x :: l, r, h => by
    simp only [putN] at h
    cases hq : putN 0 vs l with
    | none => simp [hq] at h
    | some q =>
      simp [hq] at h
      obtain ⟨h1, h2⟩ := putN_some hq
      subst h h2
      simp at h1 ⊢
      exact h1
  | n + 1, vs, [], r, h => by simp [putN] at h
  | n + 1, vs, x :: l, r, h => by
    simp only [putN] at h
    cases hq : putN n vs l with
    | none => simp [hq] at h
    | some q =>
      simp [hq] at h
      obtain ⟨h1, h2⟩ := putN_some hq
      subst h h2
      simp
      refine ⟨by omega, ?_⟩
      rw [show n + 1 + vs.length = (n + vs.length) + 1 by omega, List.drop_succ_cons]

/-! ### The table of types -/
def zOk : Value → Cell → Bool
  | .bool a, .v (.bool b) => a == b
  | .int k a, .v (.int k' b) => decide (k = k') && decide (a = b)
  | .string s, .v (.string s') => decide (s = s')
  | .slice none 0 0, .sl _ [] => true
  | _, _ => false
def zsOk : List Value → List Cell → Bool
  | [], [] => true
  | u :: r, c :: l => zOk u c && zsOk r l
  | _, _ => false
def fldOk (P : Program) (f : Field) (x : Nat × Nat × Bool) : Bool :=
  decide (f.offset = x.1) && decide ((P.info? f.type).map (·.size) = some x.2.1) && decide (x.2.1 ≠ 0) && (if x.2.2 then isRow P f.type x.2.1 else isOne P f.type)
def fldsOk (P : Program) : List Field → List (Nat × Nat × Bool) → Bool
  | [], [] => true
  | f :: r, x :: l => fldOk P f x && fldsOk P r l
  | _, _ => false
def flatFlds (P : Program) : Nat → List Field → List Bool → Bool
  | _, [], [] => true
  | o, f :: r, b :: ks => decide (f.name ≠ "_") && decide (f.offset = o) && isOne P f.type && (match P.underlying f.type, b with | some (.int _), false => true | some .bool, true => true | _, _ => false) && flatFlds P (o + 1) r ks
  | _, _, _ => false
/-- Structs whose fields are numbers, truth values or structs of such. -/
def flat2 (P : Program) : Nat → List Field → List Bool → Bool
  | _, [], ks => ks.isEmpty
  | o, f :: r, ks => decide (f.name ≠ "_") && decide (f.offset = o) && (match P.underlying f.type with
    | some (.struct fl) => !P.stoodInHeld f.type && isRow P f.type fl.size && decide (fl.size ≤ ks.length) && flatFlds P 0 fl.toList (ks.take fl.size) && flat2 P (o + fl.size) r (ks.drop fl.size)
    | _ => (match ks with
      | b :: ks' => isOne P f.type && (match P.underlying f.type, b with | some (.int _), false => true | some .bool, true => true | _, _ => false) && flat2 P (o + 1) r ks'
      | [] => false))
def flatOk (P : Program) (t : TypeId) (ks : List Bool) : Bool :=
  match P.underlying t with
  | some (.struct fl) => !P.stoodInHeld t && (!P.eqGuardType P.depth t && flat2 P 0 fl.toList ks)
  | _ => false
def tiOk (P : Program) (t : TypeId) : TI → Bool
  | .int k => isOne P t && decide (intOfT P t = some k) && (match zeroOf P t with | some z => zsOk z.toList [.v (.int k 0)] | none => false)
  | .bool => isOne P t && (match P.underlying t with | some .bool => true | _ => false) && (match zeroOf P t with | some z => zsOk z.toList [.v (.bool false)] | none => false)
  | .str => isOne P t && (match P.underlying t with | some .string => true | _ => false) && (match zeroOf P t with | some z => zsOk z.toList [.v (.string ByteArray.empty)] | none => false)
  | .row n fs z => isRow P t n && decide (n ≠ 0) && (match zeroOf P t with | some zz => zsOk zz.toList z | none => false) && (match P.underlying t with | some (.struct fl) => fldsOk P fl.toList fs | _ => false)
  | .slice e s b z => isOne P t && decide (s ≠ 0) && decide (sliceOf P t = some (e, s)) && (match zeroOf P t with | some zz => zsOk zz.toList [.sl 0 []] | none => false) && (match Sw.elemOf P e with | some (zz, s', b') => zsOk zz.toList z && decide (s' = s) && decide (b' = b) && decide (zz.size = s) | none => false)
  | .arr n s one z => isRow P t (n * s) && decide (n * s ≠ 0) && (match zeroOf P t with | some zz => zsOk zz.toList z | none => false) && (match P.underlying t with | some (.array m e) => decide (m = n) && decide ((P.info? e).map (·.size) = some s) | _ => false)
  | .flat ks z => isRow P t z.length && decide (z.length ≠ 0) && (match zeroOf P t with | some zz => zsOk zz.toList z | none => false) && flatOk P t ks
def tabOk (P : Program) (τ : Tab) : Bool := τ.all fun p => tiOk P p.1 p.2
theorem ld_mem {α : Type} {t : Nat} {x : α} : ∀ {l : List (Nat × α)}, ld t l = some x → (t, x) ∈ l
  | [], h => by simp [ld] at h
  | (s, v) :: r, h => by
    simp only [ld] at h
    cases hb : Nat.beq s t with
    | true =>
      rw [hb] at h
      have := Nat.eq_of_beq_eq_true hb
      subst this
      simp at h
      subst h
      simp
    | false =>
      rw [hb] at h
      exact List.mem_cons_of_mem _ (ld_mem h)
theorem tab_at {P : Program} {τ : Tab} (h : tabOk P τ = true) {t : TypeId} {ti : TI} (ht : ld t τ = some ti) : tiOk P t ti = true :=
  List.all_eq_true.1 h _ (ld_mem ht)
theorem zOk_rep {u : Value} {c : Cell} (h : zOk u c = true) (w : World) (X : List Nat) : RepC w X u c := by
  unfold zOk at h
  split at h
  · rename_i x y
    have := eq_of_beq h
    subst this; exact .v _ rfl
  · simp only [Bool.and_eq_true, decide_eq_true_eq] at h
    obtain ⟨rfl, rfl⟩ := h; exact .v _ rfl
  · simp only [decide_eq_true_eq] at h
    subst h; exact .v _ rfl
  · exact .nil _ _ _
  · cases h
theorem zsOk_rep (w : World) (X : List Nat) : ∀ {us : List Value} {cs : List Cell}, zsOk us cs = true → RepL w X us cs
  | [], [], _ => .nil _ _
  | u :: r, c :: l, h => by
    simp only [zsOk, Bool.and_eq_true] at h
    exact .cons (zOk_rep h.1 w X) (zsOk_rep w X h.2)
  | [], _ :: _, h => by simp [zsOk] at h
  | _ :: _, [], h => by simp [zsOk] at h
theorem fldsOk_at {P : Program} : ∀ {fl : List Field} {fs : List (Nat × Nat × Bool)}, fldsOk P fl fs = true → ∀ {i : Nat} {x : Nat × Nat × Bool}, fs[i]? = some x → ∃ f, fl[i]? = some f ∧ fldOk P f x = true
  | [], [], _, i, x, hx => by simp at hx
  | f :: r, y :: l, h, i, x, hx => by
    simp only [fldsOk, Bool.and_eq_true] at h
    cases i with
    | zero => simp at hx; subst hx; exact ⟨f, rfl, h.1⟩
    | succ i => obtain ⟨g, h1, h2⟩ := fldsOk_at h.2 (i := i) (x := x) (by simpa using hx); exact ⟨g, by simpa using h1, h2⟩
  | [], _ :: _, h, _, _, _ => by simp [fldsOk] at h
  | _ :: _, [], h, _, _, _ => by simp [fldsOk] at h

section
variable {P : Program} {τ : Tab} {N : Nat} {w0 : World} {X0 : List Nat} {S : List Bx} {M : MM} {a : Act} {w : World} {e : Env} {b : Bxs}
variable {d : Option Nat} {ty : TypeId} {pos : String} {af : Array Edge} {gd : Option (Nat × Bool)} {k : AV → Bxs → Prop}
/-- What is to be shown of each operation. -/
def Good (P : Program) (w0 : World) (X0 : List Nat) (S : List Bx) (M : MM) (a : Act) (w : World) (o : Oper) (k : AV → Bxs → Prop) : Prop :=
  ∃ v f, k v f ∧ Does P o a w (Post w0 X0 S M w (alO o) v f)
theorem Good.val {o : Oper} {v : AV} {u : Value} (h : MS w0 w S M) (hk : k v []) (hr : (execOp a.eval o).run P w = .ok (.value u) w) (hv : RepV w (bl S ++ X0) M u v) : Good P w0 X0 S M a w o k :=
  ⟨v, [], hk, .inl ⟨u, w, hr, Post.pure h hv⟩⟩
theorem oneCell_ok {v : Value} (h1 : ∀ cs, v ≠ .agg cs) (h2 : ∀ vs, v ≠ .tuple vs) : v.oneCell' = true := by
  cases v <;> first | rfl | (rename_i x; exact absurd rfl (h1 x)) | (rename_i x; exact absurd rfl (h2 x))
theorem Sta.ev (h : Sta N w0 X0 S M a w e b) {x : Operand} {v : AV} (hx : ae e x = some v) : RepV w (bl S ++ X0) M (a.eval x) v := by
  cases x with
  | tmp t => exact h.env t v hx
  | const u =>
    simp only [ae, Option.some.injEq] at hx
    subst hx
    unfold cv
    split
    · exact .any
    · exact .any
    · rename_i h1 h2
      exact .d (.c (.v _ (oneCell_ok (fun cs e => h1 cs e) (fun vs e => h2 vs e))))
  | func f =>
    simp only [ae, Option.some.injEq] at hx
    subst hx
    exact .d (.c (.v _ rfl))
  | global g => cases hx
theorem RepV.v_ {X : List Nat} {u x : Value} (h : RepV w X M u (.c (.v x))) : u = x := by
  cases h with
  | d h => cases h with
    | c h => cases h; rfl
theorem RepV.sl_ {X : List Nat} {u : Value} {s : Nat} {es : List (List Cell)} (h : RepV w X M u (.c (.sl s es))) : RepC w X u (.sl s es) := by
  cases h with
  | d h => cases h with
    | c h => exact h
theorem RepV.agg_ {X : List Nat} {u : Value} {cs : List Cell} (h : RepV w X M u (.agg cs)) : ∃ us : List Value, u = .agg us.toArray ∧ RepL w X us cs := by
  cases h with
  | d h => cases h with
    | agg h => exact ⟨_, rfl, h⟩
theorem RepV.ptr_ {X : List Nat} {u : Value} {i o : Nat} (h : RepV w X M u (.ptr i o)) : ∃ m g, M i = some m ∧ m.isVar = true ∧ m.g = some g ∧ u = .pointer (some ⟨g, o, none⟩) := by
  cases h with
  | d h => cases h
  | ptr hm hv hg => exact ⟨_, _, hm, hv, hg, rfl⟩
theorem RepV.pe_ {X : List Nat} {u : Value} {c n i o : Nat} (h : RepV w X M u (.pe c n i o)) : ∃ m, M c = some m ∧ m.isVar = false ∧ (m.n = n → ∃ g, m.g = some g ∧ u = .pointer (some ⟨g, i * m.s + o, none⟩)) := by
  cases h with
  | d h => cases h
  | pe hm hv hle h => exact ⟨_, hm, hv, h⟩
theorem RepV.gs_ {X : List Nat} {u : Value} {c n : Nat} (h : RepV w X M u (.gs c n)) : ∃ m, M c = some m ∧ m.isVar = false ∧ (m.n = n → u = hdr m) := by
  cases h with
  | d h => cases h
  | gs hm hv hle h => exact ⟨_, hm, hv, h⟩
theorem RepV.rd_ {X : List Nat} {u : Value} {cs : List Cell} (h : RepV w X M u (.rd cs)) : ∃ g o us, u = .pointer (some ⟨g, o, none⟩) ∧ Cl w X (some ⟨g, o, none⟩) us ∧ RepL w X us cs := by
  cases h with
  | d h => cases h
  | rd hc h => exact ⟨_, _, _, rfl, hc, h⟩

/-! ### Values -/
theorem aop_move {x : Operand} (h : Sta N w0 X0 S M a w e b) (hk : aop (Den P) τ ⟨d, .move x, ty, pos, af, gd⟩ e b k) : Good P w0 X0 S M a w ⟨d, .move x, ty, pos, af, gd⟩ k := by
  unfold aop at hk
  cases hx : ae e x with
  | none => simp [hx] at hk
  | some v => simp only [hx] at hk; exact .val h.ms hk (ex_move rfl) (h.ev hx)
theorem aop_assign {x : Operand} (h : Sta N w0 X0 S M a w e b) (hk : aop (Den P) τ ⟨d, .assign x, ty, pos, af, gd⟩ e b k) : Good P w0 X0 S M a w ⟨d, .assign x, ty, pos, af, gd⟩ k := by
  unfold aop at hk
  cases hx : ae e x with
  | none => simp [hx] at hk
  | some v => simp only [hx] at hk; exact .val h.ms hk (ex_assign rfl) (h.ev hx)

theorem aop_pick {x y z : Operand} (h : Sta N w0 X0 S M a w e b) (hk : aop (Den P) τ ⟨d, .pick x y z, ty, pos, af, gd⟩ e b k) : Good P w0 X0 S M a w ⟨d, .pick x y z, ty, pos, af, gd⟩ k := by
  unfold aop at hk
  simp only at hk
  split at hk
  · rename_i p hx
    have hxv := (h.ev hx).v_
    have hb : (match ae e (cond p y z) with | some v => k v [] | none => False) := by cases p <;> first | exact hk.t rfl | exact hk.f rfl
    cases hq : ae e (cond p y z) with
    | none => simp [hq] at hb
    | some v =>
      simp only [hq] at hb
      refine .val h.ms hb ?_ (h.ev hq)
      cases p <;> simp [execOp, hxv, asBool]
  · cases hk
theorem aop_extract {x : Operand} {i : Nat} (h : Sta N w0 X0 S M a w e b) (hk : aop (Den P) τ ⟨d, .extract x i, ty, pos, af, gd⟩ e b k) : Good P w0 X0 S M a w ⟨d, .extract x i, ty, pos, af, gd⟩ k := by
  unfold aop at hk
  simp only at hk
  split at hk
  · rename_i vs hx
    cases hi : vs[i]? with
    | none => simp [hi] at hk
    | some v =>
      simp only [hi] at hk
      have hxv := h.ev hx
      generalize hu : a.eval x = u at hxv
      cases hxv with
      | d hd => cases hd
      | tup hl hh =>
        rename_i us
        have hlt : i < us.length := by rw [hl]; exact (List.getElem?_eq_some_iff.1 hi).1
        have hui : us[i]? = some us[i] := List.getElem?_eq_getElem hlt
        refine .val h.ms hk (ex_extract hu (by simpa using hui)) (.d (hh i _ _ hui hi))
  · cases hk
theorem aop_not {t : TypeId} {x : Operand} (h : Sta N w0 X0 S M a w e b) (hk : aop (Den P) τ ⟨d, .unOp .not t x, ty, pos, af, gd⟩ e b k) : Good P w0 X0 S M a w ⟨d, .unOp .not t x, ty, pos, af, gd⟩ k := by
  unfold aop at hk
  simp only at hk
  split at hk
  · rename_i p hx
    exact .val h.ms hk (ex_not (h.ev hx).v_) (.d (.c (.v _ rfl)))
  · cases hk
theorem aop_nilCheck {x : Operand} (h : Sta N w0 X0 S M a w e b) (hk : aop (Den P) τ ⟨d, .nilCheck x, ty, pos, af, gd⟩ e b k) : Good P w0 X0 S M a w ⟨d, .nilCheck x, ty, pos, af, gd⟩ k := by
  unfold aop at hk
  simp only at hk
  split at hk
  · rename_i i o hx
    have hv := h.ev hx
    obtain ⟨m, g, _, _, _, ev⟩ := hv.ptr_
    rw [ev] at hv
    exact .val h.ms hk (by simp [execOp, ev]) hv
  · cases hk
theorem aop_neg {t : TypeId} {x : Operand} (h : Sta N w0 X0 S M a w e b) (hk : aop (Den P) τ ⟨d, .unOp .neg t x, ty, pos, af, gd⟩ e b k) : Good P w0 X0 S M a w ⟨d, .unOp .neg t x, ty, pos, af, gd⟩ k := by
  unfold aop at hk
  simp only at hk
  split at hk
  · rename_i p q hx
    exact .val h.ms hk (ex_neg (h.ev hx).v_ rfl) (.d (.c (.v _ rfl)))
  · cases hk
theorem intT {t : TypeId} {ki : IntKind} (h : tiOk P t (.int ki) = true) : P.underlying t = some (.int ki) := by
  simp only [tiOk, Bool.and_eq_true, decide_eq_true_eq] at h
  have h2 := h.1.2
  unfold intOfT at h2
  split at h2
  · rename_i k' hu; simp at h2; rw [hu, h2]
  · cases h2
theorem ex_shl {ρ : Operand → Value} {t u : TypeId} {x y : Operand} {ki kj : IntKind} {a b : Int} (hx : ρ x = .int ki a) (hy : ρ y = .int kj b) (hb : 0 ≤ b) :
    (execOp ρ ⟨d, .binOp .shl t x y u, ty, pos, af, gd⟩).run P w = .ok (.value (.int ki (ki.wrap (a * 2 ^ (min b.toNat ki.bits))))) w := by
  have : ¬ b < 0 := by omega
  simp [execOp, hx, hy, eqGuard, binOp, Op.shift, this]
theorem ex_shr {ρ : Operand → Value} {t u : TypeId} {x y : Operand} {ki kj : IntKind} {a b : Int} (hx : ρ x = .int ki a) (hy : ρ y = .int kj b) (hb : 0 ≤ b) :
    (execOp ρ ⟨d, .binOp .shr t x y u, ty, pos, af, gd⟩).run P w = .ok (.value (.int ki (a.fdiv (2 ^ (min b.toNat ki.bits))))) w := by
  have : ¬ b < 0 := by omega
  simp [execOp, hx, hy, eqGuard, binOp, Op.shift, this]
theorem ex_and {ρ : Operand → Value} {t u : TypeId} {x y : Operand} {ki : IntKind} {a b : Int} (hx : ρ x = .int ki a) (hy : ρ y = .int ki b) :
    (execOp ρ ⟨d, .binOp .and t x y u, ty, pos, af, gd⟩).run P w = .ok (.value (.int ki (andI ki a b))) w := by
  simp [execOp, hx, hy, eqGuard, binOp, Op.intBits, andI]
theorem ex_or {ρ : Operand → Value} {t u : TypeId} {x y : Operand} {ki : IntKind} {a b : Int} (hx : ρ x = .int ki a) (hy : ρ y = .int ki b) :
    (execOp ρ ⟨d, .binOp .or t x y u, ty, pos, af, gd⟩).run P w = .ok (.value (.int ki (orI ki a b))) w := by
  simp [execOp, hx, hy, eqGuard, binOp, Op.intBits, orI]
theorem flatIn_at {t : TypeId} {ks : List Bool} (h : tabOk P τ = true) (ht : flatIn t τ = some ks) : flatOk P t ks = true := by
  have : ∃ z, (t, TI.flat ks z) ∈ τ := by
    clear h
    induction τ with
    | nil => cases ht
    | cons x r ih =>
      obtain ⟨s, ti⟩ := x
      have key : flatIn t r = some ks → ∃ z, (t, TI.flat ks z) ∈ (s, ti) :: r := fun ht => by obtain ⟨z, hz⟩ := ih ht; exact ⟨z, List.mem_cons_of_mem _ hz⟩
      cases ti with
      | flat ks' z =>
        cases hb : Nat.beq s t with
        | true =>
          have := Nat.eq_of_beq_eq_true hb
          subst this
          simp only [flatIn, hb, cond_true, Option.some.injEq] at ht
          subst ht
          exact ⟨_, List.mem_cons_self⟩
        | false =>
          simp only [flatIn, hb, cond_false] at ht
          exact key ht
      | int _ => exact key ht
      | bool => exact key ht
      | str => exact key ht
      | row _ _ _ => exact key ht
      | slice _ _ _ _ => exact key ht
      | arr _ _ _ _ => exact key ht
  obtain ⟨z, hz⟩ := this
  have := List.all_eq_true.1 h _ hz
  simp only [tiOk, Bool.and_eq_true] at this
  exact this.2
theorem run_eq1 {t : TypeId} {b : Bool} {d : Nat} (h1 : (match P.underlying t, b with | some (.int _), false => true | some .bool, true => true | _, _ => false) = true) {x y : Value} {q : Bool}
    (hxy : (b = false ∧ ∃ k m n, x = .int k m ∧ y = .int k n ∧ q = decide (m = n)) ∨ (b = true ∧ ∃ m n, x = .bool m ∧ y = .bool n ∧ q = (m == n))) :
    (Op.equalIn (d + 1) t x y).run P w = .ok q w := by
  rcases hxy with ⟨rfl, k, m, n, rfl, rfl, rfl⟩ | ⟨rfl, m, n, rfl, rfl, rfl⟩
  · split at h1 <;> first | cases h1 | skip
    · rename_i kk hu _
      simp [Op.equalIn, run_underlying hu]
      rfl
    · simp at *
  · split at h1 <;> first | cases h1 | skip
    · simp at *
    · rename_i hu _
      simp [Op.equalIn, run_underlying hu]
def eqVs : List Bool → List Value → List Value → Option Bool
  | [], [], [] => some true
  | false :: ks, .int k a :: r, .int k' b :: r' => (match decide (k = k'), eqVs ks r r' with | true, some q => some (decide (a = b) && q) | _, _ => none)
  | true :: ks, .bool p :: r, .bool p' :: r' => (match eqVs ks r r' with | some q => some ((p == p') && q) | none => none)
  | _, _, _ => none
theorem eqVs_cons {b : Bool} {ks : List Bool} {us vs : List Value} {q : Bool} (h : eqVs (b :: ks) us vs = some q) :
    ∃ x us' y vs' e q', us = x :: us' ∧ vs = y :: vs' ∧ q = (e && q') ∧ eqVs ks us' vs' = some q' ∧ ((b = false ∧ ∃ k m n, x = .int k m ∧ y = .int k n ∧ e = decide (m = n)) ∨ (b = true ∧ ∃ m n, x = .bool m ∧ y = .bool n ∧ e = (m == n))) := by
  unfold eqVs at h
  split at h
  · exact absurd (by assumption : b :: ks = []) (by simp)
  · rename_i hbk
    injection hbk with h1 h2
    subst h1 h2
    split at h
    · rename_i hk hq
      have hkk := of_decide_eq_true hk
      subst hkk
      injection h with h
      exact ⟨_, _, _, _, _, _, rfl, rfl, h.symm, hq, .inl ⟨rfl, _, _, _, rfl, rfl, rfl⟩⟩
    · cases h
  · rename_i hbk
    injection hbk with h1 h2
    subst h1 h2
    split at h
    · rename_i hq
      injection h with h
      exact ⟨_, _, _, _, _, _, rfl, rfl, h.symm, hq, .inr ⟨rfl, _, _, rfl, rfl, rfl⟩⟩
    · cases h
  · cases h
theorem run_part1 {t : TypeId} (h : isOne P t = true) (cs : Array Value) (off : Nat) {v : Value} (hv : cs[off]? = some v) : (part t cs off).run P w = .ok v w := by
  simp [part, run_isAgg_one h, hv]
theorem dropC {α : Type} {l r : List α} {o : Nat} {x : α} (h : l.drop o = x :: r) : l[o]? = some x ∧ l.drop (o + 1) = r := by
  constructor
  · have := congrArg (fun l => l[0]?) h
    simpa using this
  · have := congrArg (List.drop 1) h
    simpa [List.drop_drop] using this
theorem run_floop {d : Nat} (us vs : List Value) : ∀ (l : List Field) (ks : List Bool) (o : Nat) (q : Bool), flatFlds P o l ks = true → eqVs ks (us.drop o) (vs.drop o) = some q →
    (forIn l ((none : Option Bool), ()) (fun f __s => (if f.name = "_" then pure (ForInStep.yield (none, ()))
            else do
              let __do_lift ← part f.type us.toArray f.offset
              let __do_lift_1 ← part f.type vs.toArray f.offset
              let __do_lift ← Op.equalIn (d + 1) f.type __do_lift __do_lift_1
              if __do_lift = false then pure (ForInStep.done (some false, ())) else pure (ForInStep.yield (none, ())) : Sem (ForInStep (Option Bool × Unit))))).run P w = .ok (if q then (none, ()) else (some false, ())) w
  | [], [], o, q, _, h => by
    unfold eqVs at h
    split at h <;> first | (injection h with h; subst h; simp) | cases h | simp_all
  | [], _ :: _, o, q, hf, _ => by simp [flatFlds] at hf
  | _ :: _, [], o, q, hf, _ => by simp [flatFlds] at hf
  | f :: r, b :: ks, o, q, hf, h => by
    simp only [flatFlds, Bool.and_eq_true, decide_eq_true_eq] at hf
    obtain ⟨⟨⟨⟨f1, f2⟩, f3⟩, f4⟩, f5⟩ := hf
    obtain ⟨x, us', y, vs', e, q', hu, hv, rfl, hq, he⟩ := eqVs_cons h
    obtain ⟨u1, u2⟩ := dropC hu
    obtain ⟨v1, v2⟩ := dropC hv
    have ih := run_floop (d := d) us vs r ks (o + 1) q' f5 (by rw [u2, v2]; exact hq)
    have hp1 : (part f.type us.toArray f.offset).run P w = .ok x w := run_part1 f3 _ _ (by rw [f2]; simpa using u1)
    have hp2 : (part f.type vs.toArray f.offset).run P w = .ok y w := run_part1 f3 _ _ (by rw [f2]; simpa using v1)
    have he' := run_eq1 (P := P) (w := w) (t := f.type) (d := d) f4 he
    rw [List.forIn_cons]
    simp only [f1, if_false, Sem.run_bind, hp1, hp2, he', Result.andThen_ok]
    cases e with
    | false => simp
    | true => simp only [if_false, Bool.true_eq_false, Sem.run_pure, Result.andThen_ok, Bool.true_and]; exact ih
theorem run_eqs {t : TypeId} {fl : Array Field} {d : Nat} {ks : List Bool} (hu : P.underlying t = some (.struct fl)) (hs : P.stoodInHeld t = false) (hf : flatFlds P 0 fl.toList ks = true) (us vs : List Value) {q : Bool} (h : eqVs ks us vs = some q) :
    (Op.equalIn (d + 2) t (.agg us.toArray) (.agg vs.toArray)).run P w = .ok q w := by
  unfold Op.equalIn
  simp [run_underlying hu, hs]
  rw [← Array.forIn_toList, run_floop us vs fl.toList ks 0 q hf (by simpa using h)]
  cases q <;> simp
theorem eqVs_split : ∀ (m : Nat) {ks : List Bool} {us vs : List Value} {q : Bool}, m ≤ ks.length → eqVs ks us vs = some q →
    ∃ q1 q2, eqVs (ks.take m) (us.take m) (vs.take m) = some q1 ∧ eqVs (ks.drop m) (us.drop m) (vs.drop m) = some q2 ∧ q = (q1 && q2)
  | 0, ks, us, vs, q, _, h => ⟨true, q, by simp [eqVs], by simpa using h, by simp⟩
  | m + 1, [], us, vs, q, hm, h => by simp at hm
  | m + 1, b :: ks, us, vs, q, hm, h => by
    obtain ⟨x, us', y, vs', e, q', rfl, rfl, rfl, hq, he⟩ := eqVs_cons h
    obtain ⟨q1, q2, h1, h2, h3⟩ := eqVs_split m (ks := ks) (by simpa using hm) hq
    refine ⟨e && q1, q2, ?_, by simpa using h2, by rw [h3, Bool.and_assoc]⟩
    simp only [List.take_succ_cons]
    rcases he with ⟨rfl, k, a, c, rfl, rfl, rfl⟩ | ⟨rfl, a, c, rfl, rfl, rfl⟩
    · simp [eqVs, h1]
    · simp [eqVs, h1]
theorem eqVs_len : ∀ {ks : List Bool} {us vs : List Value} {q : Bool}, eqVs ks us vs = some q → us.length = ks.length ∧ vs.length = ks.length
  | [], us, vs, q, h => by
    unfold eqVs at h
    split at h <;> first | (constructor <;> rfl) | cases h | simp_all
  | b :: ks, us, vs, q, h => by
    obtain ⟨x, us', y, vs', e, q', rfl, rfl, rfl, hq, he⟩ := eqVs_cons h
    obtain ⟨h1, h2⟩ := eqVs_len hq
    simp [h1, h2]
theorem run_partn {t : TypeId} {n : Nat} (h : isRow P t n = true) (us : List Value) (off : Nat) : (part t us.toArray off).run P w = .ok (.agg ((us.drop off).take n).toArray) w := by
  simp only [part, Sem.run_bind, run_isAgg_row h, Result.andThen_ok, if_true, run_sizeOf_row h, Sem.run_pure]
  congr 2
  apply Array.ext'
  rw [Array.toList_extract, List.extract_eq_drop_take]
  simp
theorem run_floop2 {d : Nat} (us vs : List Value) : ∀ (l : List Field) (ks : List Bool) (o : Nat) (q : Bool), flat2 P o l ks = true → eqVs ks (us.drop o) (vs.drop o) = some q →
    (forIn l ((none : Option Bool), ()) (fun f __s => (if f.name = "_" then pure (ForInStep.yield (none, ()))
            else do
              let __do_lift ← part f.type us.toArray f.offset
              let __do_lift_1 ← part f.type vs.toArray f.offset
              let __do_lift ← Op.equalIn (d + 2) f.type __do_lift __do_lift_1
              if __do_lift = false then pure (ForInStep.done (some false, ())) else pure (ForInStep.yield (none, ())) : Sem (ForInStep (Option Bool × Unit))))).run P w = .ok (if q then (none, ()) else (some false, ())) w
  | [], [], o, q, _, h => by
    unfold eqVs at h
    split at h <;> first | (injection h with h; subst h; simp) | cases h | simp_all
  | [], _ :: _, o, q, hf, _ => by simp [flat2] at hf
  | f :: r, ks, o, q, hf, h => by
    simp only [flat2, Bool.and_eq_true, decide_eq_true_eq] at hf
    obtain ⟨⟨f1, f2⟩, hf⟩ := hf
    rw [List.forIn_cons]
    split at hf
    · rename_i fl hu
      simp only [Bool.and_eq_true, Bool.not_eq_true', decide_eq_true_eq] at hf
      obtain ⟨⟨⟨⟨g1, g2⟩, g3⟩, g4⟩, g5⟩ := hf
      obtain ⟨q1, q2, h1, h2, h3⟩ := eqVs_split fl.size g3 h
      rw [List.drop_drop] at h2
      rw [List.drop_drop] at h2
      have hp1 := run_partn (w := w) g2 us f.offset
      have hp2 := run_partn (w := w) g2 vs f.offset
      have he' := run_eqs (w := w) (d := d) hu g1 g4 ((us.drop f.offset).take fl.size) ((vs.drop f.offset).take fl.size) (by rw [f2]; exact h1)
      have ih := run_floop2 (d := d) us vs r (ks.drop fl.size) (o + fl.size) q2 g5 h2
      subst h3
      simp only [f1, if_false, Sem.run_bind, hp1, hp2, he', Result.andThen_ok]
      cases q1 with
      | false => simp
      | true => simp only [if_false, Bool.true_eq_false, Sem.run_pure, Result.andThen_ok, Bool.true_and]; exact ih
    · split at hf
      · rename_i b ks'
        simp only [Bool.and_eq_true] at hf
        obtain ⟨⟨f3, f4⟩, f5⟩ := hf
        obtain ⟨x, us', y, vs', e, q', hu, hv, hqq, hq, he⟩ := eqVs_cons h
        obtain ⟨u1, u2⟩ := dropC hu
        obtain ⟨v1, v2⟩ := dropC hv
        have ih := run_floop2 (d := d) us vs r ks' (o + 1) q' f5 (by rw [u2, v2]; exact hq)
        have hp1 : (part f.type us.toArray f.offset).run P w = .ok x w := run_part1 f3 _ _ (by rw [f2]; simpa using u1)
        have hp2 : (part f.type vs.toArray f.offset).run P w = .ok y w := run_part1 f3 _ _ (by rw [f2]; simpa using v1)
        have he' := run_eq1 (P := P) (w := w) (t := f.type) (d := d + 1) f4 he
        subst hqq
        simp only [f1, if_false, Sem.run_bind, hp1, hp2, he', Result.andThen_ok]
        cases e with
        | false => simp
        | true => simp only [if_false, Bool.true_eq_false, Sem.run_pure, Result.andThen_ok, Bool.true_and]; exact ih
      · cases hf
theorem run_eqs2 {t : TypeId} {fl : Array Field} {d : Nat} {ks : List Bool} (hu : P.underlying t = some (.struct fl)) (hs : P.stoodInHeld t = false) (hf : flat2 P 0 fl.toList ks = true) (us vs : List Value) {q : Bool} (h : eqVs ks us vs = some q) :
    (Op.equalIn (d + 3) t (.agg us.toArray) (.agg vs.toArray)).run P w = .ok q w := by
  unfold Op.equalIn
  simp [run_underlying hu, hs]
  rw [← Array.forIn_toList, run_floop2 us vs fl.toList ks 0 q hf (by simpa using h)]
  cases q <;> simp
theorem ex_eqS {ρ : Operand → Value} {t u : TypeId} {x y : Operand} {ks : List Bool} {us vs : List Value} {q : Bool} (hf : flatOk P t ks = true) (hx : ρ x = .agg us.toArray) (hy : ρ y = .agg vs.toArray) (h : eqVs ks us vs = some q) :
    (execOp ρ ⟨d, .binOp .eql t x y u, ty, pos, af, gd⟩).run P w = .ok (.value (.bool q)) w := by
  unfold flatOk at hf
  split at hf
  · rename_i fl hu
    simp only [Bool.and_eq_true, Bool.not_eq_true'] at hf
    have h1 := run_eqs2 (P := P) (w := w) (d := 9997) hu hf.1 hf.2.2 us vs h
    have h2 : (Op.equal t (.agg us.toArray) (.agg vs.toArray)).run P w = .ok q w := h1
    simp [execOp, hx, hy, eqGuard, binOp, hf.2.1, h2]
  · cases hf
theorem ex_neS {ρ : Operand → Value} {t u : TypeId} {x y : Operand} {ks : List Bool} {us vs : List Value} {q : Bool} (hf : flatOk P t ks = true) (hx : ρ x = .agg us.toArray) (hy : ρ y = .agg vs.toArray) (h : eqVs ks us vs = some q) :
    (execOp ρ ⟨d, .binOp .neq t x y u, ty, pos, af, gd⟩).run P w = .ok (.value (.bool (!q))) w := by
  unfold flatOk at hf
  split at hf
  · rename_i fl hu
    simp only [Bool.and_eq_true, Bool.not_eq_true'] at hf
    have h1 := run_eqs2 (P := P) (w := w) (d := 9997) hu hf.1 hf.2.2 us vs h
    have h2 : (Op.equal t (.agg us.toArray) (.agg vs.toArray)).run P w = .ok q w := h1
    simp [execOp, hx, hy, eqGuard, binOp, hf.2.1, h2]
  · cases hf
theorem RepL.vcons {X : List Nat} {us : List Value} {u : Value} {cs : List Cell} (h : RepL w X us (.v u :: cs)) : ∃ us', us = u :: us' ∧ RepL w X us' cs := by
  have hl := h.len
  cases us with
  | nil => simp at hl
  | cons x r =>
    have h0 := h.get 0 x (.v u) (by simp) (by simp)
    have hx : x = u := by
      generalize hc : Cell.v u = c at h0
      cases h0 with
      | v _ _ => injection hc with hc; exact hc.symm
      | sl => cases hc
    subst hx
    exact ⟨r, rfl, by simpa using hl, fun j y c h1 h2 => h.get (j + 1) y c (by simpa using h1) (by simpa using h2)⟩
theorem eqC_rep {X : List Nat} : ∀ {ks : List Bool} {us vs : List Value} {cs ds : List Cell} {q : Bool}, RepL w X us cs → RepL w X vs ds → eqC ks cs ds = some q → eqVs ks us vs = some q := by
  intro ks
  induction ks with
  | nil =>
    intro us vs cs ds q h1 h2 h
    unfold eqC at h
    split at h
    · have e1 := h1.len
      have e2 := h2.len
      simp at e1 e2
      subst e1 e2
      exact h
    · simp_all
    · simp_all
    · cases h
  | cons b ks ih =>
    intro us vs cs ds q h1 h2 h
    unfold eqC at h
    split at h
    · simp_all
    · rename_i hbk
      injection hbk with e1 e2
      subst e1 e2
      split at h
      · rename_i hk hq
        injection h with h
        obtain ⟨u1, rfl, r1⟩ := h1.vcons
        obtain ⟨u2, rfl, r2⟩ := h2.vcons
        simp only [eqVs, hk, ih r1 r2 hq, h]
      · cases h
    · rename_i hbk
      injection hbk with e1 e2
      subst e1 e2
      split at h
      · rename_i hq
        injection h with h
        obtain ⟨u1, rfl, r1⟩ := h1.vcons
        obtain ⟨u2, rfl, r2⟩ := h2.vcons
        simp only [eqVs, ih r1 r2 hq, h]
      · cases h
    · cases h
theorem boolT {t : TypeId} (h : tiOk P t .bool = true) : P.underlying t = some .bool := by
  simp only [tiOk, Bool.and_eq_true] at h
  have h2 := h.1.2
  split at h2
  · assumption
  · cases h2
theorem strT {t : TypeId} (h : tiOk P t .str = true) : P.underlying t = some .string := by
  simp only [tiOk, Bool.and_eq_true] at h
  have h2 := h.1.2
  split at h2
  · assumption
  · cases h2
theorem ex_sadd {ρ : Operand → Value} {t u : TypeId} {x y : Operand} {a b : ByteArray} (hx : ρ x = .string a) (hy : ρ y = .string b) (hb : a.size + b.size ≤ 9223372036854775807) :
    (execOp ρ ⟨d, .binOp .add t x y u, ty, pos, af, gd⟩).run P w = .ok (.value (.string (a ++ b))) w := by
  have : ¬ ((a.size + b.size : Nat) : Int) > 9223372036854775807 := by omega
  have h2 : IntKind.i64.max = 9223372036854775807 := by decide
  simp [execOp, hx, hy, eqGuard, binOp, Op.stringOp, h2]
  omega
theorem ex_seq {ρ : Operand → Value} {t u : TypeId} {x y : Operand} {a b : ByteArray} (hx : ρ x = .string a) (hy : ρ y = .string b) :
    (execOp ρ ⟨d, .binOp .eql t x y u, ty, pos, af, gd⟩).run P w = .ok (.value (.bool (a.toList == b.toList))) w := by
  simp [execOp, hx, hy, eqGuard, binOp, Op.stringOp]
theorem ex_sne {ρ : Operand → Value} {t u : TypeId} {x y : Operand} {a b : ByteArray} (hx : ρ x = .string a) (hy : ρ y = .string b) :
    (execOp ρ ⟨d, .binOp .neq t x y u, ty, pos, af, gd⟩).run P w = .ok (.value (.bool (!(a.toList == b.toList)))) w := by
  simp [execOp, hx, hy, eqGuard, binOp, Op.stringOp]
set_option maxHeartbeats 4000000 in
theorem aop_bin {op : BinOp} {t u : TypeId} {x y : Operand} (hτ : tabOk P τ = true) (h : Sta N w0 X0 S M a w e b) (hk : aop (Den P) τ ⟨d, .binOp op t x y u, ty, pos, af, gd⟩ e b k) : Good P w0 X0 S M a w ⟨d, .binOp op t x y u, ty, pos, af, gd⟩ k := by
  unfold aop at hk
  simp only at hk
  split at hk
  · rename_i p q hx hy
    have hxe := (h.ev hx).v_
    have hye := (h.ev hy).v_
    split at hk
    · rename_i ht
      exact .val h.ms hk (ex_eqb (boolT (tab_at hτ ht)) hxe hye) (.d (.c (.v _ rfl)))
    · rename_i ht
      exact .val h.ms hk (ex_neb (boolT (tab_at hτ ht)) hxe hye) (.d (.c (.v _ rfl)))
    · cases hk
  · rename_i cs ds hx hy
    split at hk
    · rename_i ks hf
      split at hk
      · rename_i q hq
        obtain ⟨us, hxe, hl⟩ := (h.ev hx).agg_
        obtain ⟨vs, hye, hm⟩ := (h.ev hy).agg_
        exact .val h.ms hk (ex_eqS (flatIn_at hτ hf) hxe hye (eqC_rep hl hm hq)) (.d (.c (.v _ rfl)))
      · cases hk
    · rename_i ks hf
      split at hk
      · rename_i q hq
        obtain ⟨us, hxe, hl⟩ := (h.ev hx).agg_
        obtain ⟨vs, hye, hm⟩ := (h.ev hy).agg_
        exact .val h.ms hk (ex_neS (flatIn_at hτ hf) hxe hye (eqC_rep hl hm hq)) (.d (.c (.v _ rfl)))
      · cases hk
    · cases hk
  · rename_i p q _ _ hx hy
    have hxv := h.ev hx
    have hyv := h.ev hy
    have hp : ∀ (ki : IntKind) (n : Int), RepV w (bl S ++ X0) M (.int ki n) (.c (.v (.int ki n))) := fun _ _ => .d (.c (.v _ rfl))
    have hq : ∀ (c : Bool), RepV w (bl S ++ X0) M (.bool c) (.c (.v (.bool c))) := fun _ => .d (.c (.v _ rfl))
    unfold binA at hk
    split at hk <;> first
      | exact False.elim hk
      | (have hxe := hxv.v_; have hye := hyv.v_; exact .val h.ms hk.k (ex_shl hxe hye hk.p) (hp _ _))
      | (have hxe := hxv.v_; have hye := hyv.v_; exact .val h.ms hk.k (ex_shr hxe hye hk.p) (hp _ _))
      | (have hxe := hxv.v_; have hye := hyv.v_; exact .val h.ms hk.k (ex_sadd hxe hye hk.p) (.d (.c (.v _ rfl))))
      | (have hxe := hxv.v_; have hye := hyv.v_; exact .val h.ms hk (ex_seq hxe hye) (hq _))
      | (have hxe := hxv.v_; have hye := hyv.v_; exact .val h.ms hk (ex_sne hxe hye) (hq _))
      | (split at hk <;> first
          | exact False.elim hk
          | (rename_i hd; have hkk := of_decide_eq_true hd; subst hkk; have hxe := hxv.v_; have hye := hyv.v_; first
            | exact .val h.ms hk (ex_add hxe hye rfl) (hp _ _)
            | exact .val h.ms hk (ex_sub hxe hye rfl) (hp _ _)
            | exact .val h.ms hk (ex_mul hxe hye rfl) (hp _ _)
            | exact .val h.ms hk.k (ex_quo hxe hye hk.p rfl) (hp _ _)
            | exact .val h.ms hk.k (ex_rem hxe hye hk.p rfl) (hp _ _)
            | exact .val h.ms hk (ex_and hxe hye) (hp _ _)
            | exact .val h.ms hk (ex_or hxe hye) (hp _ _)
            | exact .val h.ms hk (ex_lss hxe hye) (hq _)
            | exact .val h.ms hk (ex_leq hxe hye) (hq _)
            | exact .val h.ms hk (ex_gtr hxe hye) (hq _)
            | exact .val h.ms hk (ex_geq hxe hye) (hq _)
            | exact .val h.ms hk (ex_eql hxe hye) (hq _)
            | exact .val h.ms hk (ex_neq hxe hye) (hq _)))
  · cases hk

/-! ### Memory -/
/-- The cells us lie at an address. -/
def Mem (w : World) (ad : Addr) (us : List Value) : Prop := ∀ (j : Nat) u, us[j]? = some u → w.cell? (ad.add j) = some u
theorem Mem.drop {ad : Addr} {us : List Value} (h : Mem w ad us) (n : Nat) : Mem w (ad.add n) (us.drop n) := fun j u hu => by
  rw [add_add']; exact h _ u (by rwa [List.getElem?_drop] at hu)
theorem Mem.of_row {g : Nat} {us : List Value} {T : TypeId} (hg : w.heap[g]? = some (.cells us.toArray T (0, 0))) : Mem w ⟨g, 0, none⟩ us := fun j u hu => by
  rw [Addr.add_lit, Nat.zero_add, cell_of_row w g j us.toArray T _ hg]; simpa using hu
theorem Mem.of_cl {X : List Nat} {ad : Addr} {us : List Value} (h : Cl w X (some ad) us) : Mem w ad us := fun j u hu => by
  obtain ⟨ad', h1, h2⟩ := h.at_ hu
  cases h1; exact h2
theorem Sta.row (h : Sta N w0 X0 S M a w e b) {i : Nat} {m : MB} {g : Nat} (hm : M i = some m) (ho : m.own = true) (hg : m.g = some g) : w.heap[g]? = some (.cells m.us.toArray m.T (0, 0)) :=
  (h.ms.st.box _ (h.ms.inS i m hm ho g hg)).1
theorem ex_ld {X : List Nat} {ρ : Operand → Value} {d : Option Nat} {t : TypeId} {x : Operand} {ti : TI} {ad : Addr} {us : List Value} {cs : List Cell} {v : AV} (ht : tiOk P t ti = true) (hx : ρ x = .pointer (some ad)) (hm : Mem w ad us) (hr : RepL w X us cs) (hv : rdAs ti cs = some v) :
    ∃ u, (execOp ρ ⟨d, .load t x, ty, pos, af, gd⟩).run P w = .ok (.value u) w ∧ RepV w X M u v := by
  have big : ∀ n, isRow P t n = true → takeN n cs = (match v with | .agg l => some l | _ => none) → (∃ l, v = .agg l) → ∃ u, (execOp ρ ⟨d, .load t x, ty, pos, af, gd⟩).run P w = .ok (.value u) w ∧ RepV w X M u v := by
    rintro n hrow ht ⟨l, rfl⟩
    obtain ⟨rfl, hn⟩ := takeN_some ht
    have hlen : (us.take n).length = n := by rw [List.length_take, hr.len]; omega
    exact ⟨_, ex_loadn (cs := (us.take n).toArray) (by simp only [List.size_toArray, hlen]; exact hrow) hx (fun j u hu => hm j u (by
      simp only [List.getElem?_toArray, List.getElem?_take] at hu
      split at hu
      · exact hu
      · cases hu)), .d (.agg (hr.take n))⟩
  have small : isOne P t = true → (∃ c r, cs = c :: r ∧ v = .c c) → ∃ u, (execOp ρ ⟨d, .load t x, ty, pos, af, gd⟩).run P w = .ok (.value u) w ∧ RepV w X M u v := by
    rintro hone ⟨c, r, rfl, rfl⟩
    obtain ⟨u, r', rfl, h1, h2⟩ := hr.inv
    have := hm 0 u rfl
    have hz : ad.add 0 = ad := by simp [Addr.add]
    rw [hz] at this
    exact ⟨u, ex_load1 hone hx this, .d (.c h1)⟩
  cases ti with
  | row n fs z =>
    simp only [tiOk, Bool.and_eq_true] at ht
    simp only [rdAs] at hv
    cases hq : takeN n cs with
    | none => simp [hq] at hv
    | some l =>
      simp only [hq, Option.some.injEq] at hv
      subst hv
      exact big n ht.1.1.1 hq ⟨l, rfl⟩
  | arr n s one z =>
    simp only [tiOk, Bool.and_eq_true] at ht
    simp only [rdAs] at hv
    cases hq : takeN (n * s) cs with
    | none => simp [hq] at hv
    | some l =>
      simp only [hq, Option.some.injEq] at hv
      subst hv
      exact big _ ht.1.1.1 hq ⟨l, rfl⟩
  | flat ks z => cases hv
  | int ki =>
    simp only [tiOk, Bool.and_eq_true] at ht
    exact small ht.1.1 (by cases cs with | nil => cases hv | cons c r => exact ⟨c, r, rfl, (Option.some.inj hv).symm⟩)
  | bool =>
    simp only [tiOk, Bool.and_eq_true] at ht
    exact small ht.1.1 (by cases cs with | nil => cases hv | cons c r => exact ⟨c, r, rfl, (Option.some.inj hv).symm⟩)
  | str =>
    simp only [tiOk, Bool.and_eq_true] at ht
    exact small ht.1.1 (by cases cs with | nil => cases hv | cons c r => exact ⟨c, r, rfl, (Option.some.inj hv).symm⟩)
  | slice e' s by_ z =>
    simp only [tiOk, Bool.and_eq_true] at ht
    exact small ht.1.1.1.1 (by cases cs with | nil => cases hv | cons c r => exact ⟨c, r, rfl, (Option.some.inj hv).symm⟩)
/-- The memory of a slice that the call owns, or has handed on. -/
theorem Sta.elems (h : Sta N w0 X0 S M a w e b) {i : Nat} {x : Bk} {s : Nat} {es : List (List Cell)} (hx : ld i b = some x) (hg : (∃ T, x = .grow T s es) ∨ x = .froz s es) :
    ∃ m, M i = some m ∧ m.isVar = false ∧ (m.s = s ∧ 0 < s) ∧ m.n = es.length ∧ ∀ (j : Nat) cs, es[j]? = some cs → ∃ g us, m.g = some g ∧ Mem w ⟨g, j * s, none⟩ us ∧ RepL w (bl S ++ X0) us cs := by
  obtain ⟨m, hm, hR⟩ := h.box i x hx
  rcases hg with ⟨T, rfl⟩ | rfl
  · obtain ⟨h1, h2, h3, h4, h5, h6⟩ := hR
    refine ⟨m, hm, h1, h4, h5, fun j cs hj => ?_⟩
    rcases h6 with ⟨_, rfl, _⟩ | ⟨g, uss, rest, g1, g2, g3, g4, g5, g6⟩
    · simp at hj
    · have hlt : j < uss.length := by rw [g3.len]; exact (List.getElem?_eq_some_iff.1 hj).1
      have huj : uss[j]? = some uss[j] := List.getElem?_eq_getElem hlt
      refine ⟨g, uss[j], g1, fun q u hu => ?_, g3.get j _ _ huj hj⟩
      have hsz := g3.sz _ (List.getElem_mem hlt)
      have hqs : q < s := by rw [← hsz]; exact (List.getElem?_eq_some_iff.1 hu).1
      rw [Addr.add_lit, cell_of_row w g _ _ _ _ (h.row hm h2 g1)]
      rw [List.getElem?_toArray, g2]
      have hfl := flatten_at g3.sz huj q hqs
      rw [List.getElem?_append_left, hfl]
      · exact hu
      · rw [← hfl] at hu; exact (List.getElem?_eq_some_iff.1 hu).1
  · obtain ⟨h1, h2, h3, h4⟩ := hR
    refine ⟨m, hm, h1, h2, h3, fun j cs hj => ?_⟩
    obtain ⟨A, cap, uss, ha, _, _, hcl, hS⟩ := RepS.of_sl h4
    have hlt : j < uss.length := by rw [hS.len]; exact (List.getElem?_eq_some_iff.1 hj).1
    have huj : uss[j]? = some uss[j] := List.getElem?_eq_getElem hlt
    have hsz := hS.sz _ (List.getElem_mem hlt)
    unfold hdr at ha
    injection ha with ha1 ha2 ha3
    subst ha1
    cases hgg : m.g with
    | none =>
      have hl0 : 0 < (uss[j]).length := by rw [hsz]; exact h2.2
      have hfl := flatten_at hS.sz huj 0 h2.2
      obtain ⟨ad, had, _⟩ := hcl.at_ (hfl.trans (List.getElem?_eq_getElem hl0))
      rw [hgg] at had; cases had
    | some g =>
      refine ⟨g, uss[j], rfl, fun q u hu => ?_, hS.get j _ _ huj hj⟩
      have hqs : q < s := by rw [← hsz]; exact (List.getElem?_eq_some_iff.1 hu).1
      have hfl := flatten_at hS.sz huj q hqs
      obtain ⟨ad, had, hc⟩ := hcl.at_ (hfl.trans hu)
      rw [hgg] at had
      cases had
      rw [Addr.add_lit] at hc ⊢
      simpa using hc
end
end Go.Sw

namespace Go.Sw
open Go Go.RowKit
set_option linter.unusedVariables false
section
variable {P : Program} {τ : Tab} {N : Nat} {w0 : World} {X0 : List Nat} {S : List Bx} {M : MM} {a : Act} {w : World} {e : Env} {b : Bxs}
variable {d : Option Nat} {ty : TypeId} {pos : String} {af : Array Edge} {gd : Option (Nat × Bool)} {k : AV → Bxs → Prop}
theorem aop_load {t : TypeId} {x : Operand} (hτ : tabOk P τ = true) (h : Sta N w0 X0 S M a w e b) (hk : aop (Den P) τ ⟨d, .load t x, ty, pos, af, gd⟩ e b k) : Good P w0 X0 S M a w ⟨d, .load t x, ty, pos, af, gd⟩ k := by
  unfold aop at hk
  simp only at hk
  split at hk
  · rename_i ti i off ht hx
    obtain ⟨m, g, hm, hv, hg, hxe⟩ := (h.ev hx).ptr_
    split at hk
    · rename_i cs hb
      cases hr : rdAs ti (dropN off cs) with
      | none => simp [hr] at hk
      | some v =>
        simp only [hr] at hk
        rw [dropN_eq] at hr
        obtain ⟨m', hm', h1, h2, ⟨g', h3⟩, h4⟩ := h.box i _ hb
        rw [hm] at hm'
        cases hm'
        have hmem := (Mem.of_row (h.row hm h2 hg)).drop off
        rw [Addr.add_lit, Nat.zero_add] at hmem
        obtain ⟨u, hu, hR⟩ := ex_ld (M := M) (ty := ty) (pos := pos) (af := af) (gd := gd) (d := d) (tab_at hτ ht) hxe hmem (h4.drop off) hr
        exact .val h.ms hk hu hR
    · cases hk
  · rename_i ti cs ht hx
    obtain ⟨g, o, us, hxe, hc, hl⟩ := (h.ev hx).rd_
    cases hr : rdAs ti cs with
    | none => simp [hr] at hk
    | some v =>
      simp only [hr] at hk
      obtain ⟨u, hu, hR⟩ := ex_ld (M := M) (ty := ty) (pos := pos) (af := af) (gd := gd) (d := d) (tab_at hτ ht) hxe (Mem.of_cl hc) hl hr
      exact .val h.ms hk hu hR
  · rename_i ti i n j off ht hx
    obtain ⟨m, hm, hv, hn⟩ := (h.ev hx).pe_
    have key : ∀ (s : Nat) (es : List (List Cell)) (y : Bk), ld i b = some y → ((∃ T, y = .grow T s es) ∨ y = .froz s es) → Obl (n = es.length) (Elem es (j : Nat) fun cs => (match rdAs ti (dropN off cs) with | some v => k v [] | none => False)) → Good P w0 X0 S M a w ⟨d, .load t x, ty, pos, af, gd⟩ k := by
      rintro s es y hb hy ⟨hl, ⟨j', cs, hj, he, hkk⟩⟩
      have hj' : j = j' := by omega
      subst hj'
      cases hr : rdAs ti (dropN off cs) with
      | none => simp [hr] at hkk
      | some v =>
        simp only [hr] at hkk
        rw [dropN_eq] at hr
        obtain ⟨m', hm', h1, h2, h3, h4⟩ := h.elems hb hy
        rw [hm] at hm'
        cases hm'
        obtain ⟨g, us, hg, hmem, hR⟩ := h4 j cs he
        obtain ⟨g', hg', hxe⟩ := hn (by omega)
        rw [hg] at hg'
        cases hg'
        rw [h2.1] at hxe
        have hmem' := hmem.drop off
        rw [Addr.add_lit] at hmem'
        obtain ⟨u, hu, hR⟩ := ex_ld (M := M) (ty := ty) (pos := pos) (af := af) (gd := gd) (d := d) (tab_at hτ ht) hxe hmem' (hR.drop off) hr
        exact .val h.ms hkk hu hR
    split at hk
    · rename_i T s es hb
      exact key s es _ hb (.inl ⟨T, rfl⟩) hk
    · rename_i s es hb
      exact key s es _ hb (.inr rfl) hk
    · cases hk
  · cases hk

theorem rowT {t : TypeId} {n : Nat} {fs : List (Nat × Nat × Bool)} {z : List Cell} (h : tiOk P t (.row n fs z) = true) : ∃ fl, P.underlying t = some (.struct fl) ∧ fldsOk P fl.toList fs = true := by
  simp only [tiOk, Bool.and_eq_true] at h
  have h2 := h.2
  split at h2
  · rename_i fl hu; exact ⟨fl, hu, h2⟩
  · cases h2
theorem fieldOff_of {t : TypeId} {n i : Nat} {fs : List (Nat × Nat × Bool)} {z : List Cell} {x : Nat × Nat × Bool} (h : tiOk P t (.row n fs z) = true) (hi : fs[i]? = some x) : fieldOff P t i = some x.1 := by
  obtain ⟨fl, hu, hf⟩ := rowT h
  obtain ⟨f, h1, h2⟩ := fldsOk_at hf hi
  simp only [fldOk, Bool.and_eq_true, decide_eq_true_eq] at h2
  unfold fieldOff
  rw [hu]
  have h1' : fl[i]? = some f := by simpa using h1
  simp only [h1', h2.1.1.2]
  simp [h2.1.2, h2.1.1.1]
  cases hq : P.info? f.type with
  | none => have := h2.1.1.2; simp [hq] at this
  | some y => simp
theorem aop_fieldAddr {t : TypeId} {x : Operand} {i : Nat} (hτ : tabOk P τ = true) (h : Sta N w0 X0 S M a w e b) (hk : aop (Den P) τ ⟨d, .fieldAddr t x i, ty, pos, af, gd⟩ e b k) : Good P w0 X0 S M a w ⟨d, .fieldAddr t x i, ty, pos, af, gd⟩ k := by
  unfold aop at hk
  simp only at hk
  split at hk
  · rename_i n fs z ht
    have htt := tab_at hτ ht
    split at hk
    · rename_i off s1 s2 j o' hi hx
      obtain ⟨m, g, hm, hv, hg, hxe⟩ := (h.ev hx).ptr_
      exact .val h.ms hk (ex_field_addr (fieldOff_of htt hi) hxe) (.ptr hm hv hg)
    · rename_i off s1 s2 c n' j o' hi hx
      have hx0 := h.ev hx
      have key : ∀ (s : Nat) (es : List (List Cell)) (y : Bk), ld c b = some y → ((∃ T, y = .grow T s es) ∨ y = .froz s es) → Obl (n' = es.length) (k (.pe c n' j (o' + off)) []) → Good P w0 X0 S M a w ⟨d, .fieldAddr t x i, ty, pos, af, gd⟩ k := by
        rintro s es y hb hy ⟨hl, hkk⟩
        obtain ⟨m', hm', h1, h2, h3, h4⟩ := h.elems hb hy
        generalize hu : a.eval x = u at hx0
        cases hx0 with
        | d hd => cases hd
        | pe hm hv hle hh =>
          rw [hm] at hm'
          cases hm'
          obtain ⟨g, hg, rfl⟩ := hh (by omega)
          refine .val h.ms hkk (ex_field_addr (fieldOff_of htt hi) hu) (.pe hm hv hle fun hn => ⟨g, hg, ?_⟩)
          rw [Nat.add_assoc]
      split at hk
      · rename_i T s es hb
        exact key s es _ hb (.inl ⟨T, rfl⟩) hk
      · rename_i s es hb
        exact key s es _ hb (.inr rfl) hk
      · cases hk
    · rename_i off s1 s2 cs hi hx
      obtain ⟨g, o, us, hxe, hc, hl⟩ := (h.ev hx).rd_
      rw [dropN_eq] at hk
      refine .val h.ms hk (ex_field_addr (fieldOff_of htt hi) hxe) ?_
      have := hc.drop off
      simp only [Option.map_some, Addr.add_lit] at this
      exact .rd this (hl.drop off)
    · cases hk
  · cases hk

theorem run_part_row {t : TypeId} {n : Nat} (h : isRow P t n = true) (cs : Array Value) (off : Nat) : (part t cs off).run P w = .ok (.agg (cs.extract off (off + n))) w := by
  simp [part, run_isAgg_row h, run_sizeOf_row h]
theorem run_part_one {t : TypeId} (h : isOne P t = true) (cs : Array Value) (off : Nat) {v : Value} (hv : cs[off]? = some v) : (part t cs off).run P w = .ok v w := by
  simp [part, run_isAgg_one h, hv]
theorem aop_field {t : TypeId} {x : Operand} {i : Nat} (hτ : tabOk P τ = true) (h : Sta N w0 X0 S M a w e b) (hk : aop (Den P) τ ⟨d, .field t x i, ty, pos, af, gd⟩ e b k) : Good P w0 X0 S M a w ⟨d, .field t x i, ty, pos, af, gd⟩ k := by
  unfold aop at hk
  simp only at hk
  split at hk
  · rename_i n fs z ht
    have htt := tab_at hτ ht
    split at hk
    · rename_i off s ag cs hi hx
      obtain ⟨us, hxe, hl⟩ := (h.ev hx).agg_
      obtain ⟨fl, hu, hf⟩ := rowT htt
      obtain ⟨f, h1, h2⟩ := fldsOk_at hf hi
      simp only [fldOk, Bool.and_eq_true, decide_eq_true_eq] at h2
      have h1' : fl[i]? = some f := by simpa using h1
      have hrun : (execOp a.eval ⟨d, .field t x i, ty, pos, af, gd⟩).run P w = ((do pure (Next.value (← part f.type us.toArray f.offset))) : Sem Next).run P w := by
        simp [execOp, hxe, Instr.field, run_underlying hu, h1', asAgg]
      cases hr : takeN s (dropN off cs) with
      | none => simp [hr] at hk
      | some l =>
        simp only [hr] at hk
        rw [dropN_eq] at hr
        obtain ⟨rfl, hn⟩ := takeN_some hr
        cases ag with
        | true =>
          simp only at hk
          have h3 : isRow P f.type s = true := by simpa using h2.2
          refine .val h.ms hk (u := .agg ((us.drop off).take s).toArray) ?_ (.d (.agg ((hl.drop off).take s)))
          rw [hrun, Sem.run_bind, run_part_row h3]
          simp only [Result.andThen_ok, Sem.run_pure]
          congr 3
          apply Array.ext'
          simp [h2.1.1.1, List.take_drop]
        | false =>
          simp only at hk
          have h3 : isOne P f.type = true := by simpa using h2.2
          split at hk
          · rename_i c r hc
            have hcc : cs[off]? = some c := by
              have := congrArg (fun l => l[0]?) hc
              simp only [List.getElem?_take, List.getElem?_drop] at this
              split at this
              · simpa using this
              · simp at this
            have hlt : off < us.length := by rw [hl.len]; exact (List.getElem?_eq_some_iff.1 hcc).1
            have hu' : us[off]? = some us[off] := List.getElem?_eq_getElem hlt
            refine .val h.ms hk (u := us[off]) ?_ (.d (.c (hl.get off _ _ hu' hcc)))
            rw [hrun, Sem.run_bind, run_part_one h3 (v := us[off]) _ _ (by rw [h2.1.1.1]; simpa using hu')]
            simp
          · cases hk
    · cases hk
  · cases hk
theorem aop_indexAddr {t : TypeId} {x y : Operand} (hτ : tabOk P τ = true) (h : Sta N w0 X0 S M a w e b) (hk : aop (Den P) τ ⟨d, .indexAddr t x y, ty, pos, af, gd⟩ e b k) : Good P w0 X0 S M a w ⟨d, .indexAddr t x y, ty, pos, af, gd⟩ k := by
  unfold aop at hk
  simp only at hk
  split at hk
  · rename_i e' s by_ z s' es ki i ht hx hy
    split at hk
    · rename_i hs
      have hs' := Nat.eq_of_beq_eq_true hs
      subst hs'
      obtain ⟨j, cs, rfl, he, hkk⟩ := hk
      have htt := tab_at hτ ht
      simp only [tiOk, Bool.and_eq_true, decide_eq_true_eq] at htt
      have hs0 : 0 < s := by have := htt.1.1.1.2; omega
      have hsl := htt.1.1.2
      obtain ⟨A, cap, uss, ha, hcap, hmx, hcl, hS⟩ := RepS.of_sl (h.ev hx).sl_
      have hjl : j < es.length := (List.getElem?_eq_some_iff.1 he).1
      have hlt : j < uss.length := by rw [hS.len]; exact hjl
      have huj : uss[j]? = some uss[j] := List.getElem?_eq_getElem hlt
      have hsz := hS.sz _ (List.getElem_mem hlt)
      have hl0 : 0 < (uss[j]).length := by omega
      have hne : uss.flatten ≠ [] := by
        have := flatten_at hS.sz huj 0 hs0
        intro hf; rw [hf] at this
        rw [List.getElem?_eq_getElem hl0] at this; simp at this
      obtain ⟨ad, rfl, hb1, hb2, hc⟩ := hcl hne
      have hspot : ad = ⟨ad.block, ad.off, none⟩ := by
        have h0 : 0 < uss.flatten.length := List.length_pos_iff.2 hne
        have := hc 0 _ (List.getElem?_eq_getElem h0)
        have hz : ad.add 0 = ad := by simp [Addr.add]
        rw [hz] at this
        unfold World.cell? at this
        cases hsp : ad.spot with
        | none => cases ad; simp_all
        | some q => split at this <;> simp [hsp] at this
      refine .val h.ms hkk (ex_index_addr hsl (ha) (h.ev hy).v_ (by omega) (by omega)) ?_
      rw [hspot]
      simp only [Int.toNat_natCast, Addr.add_lit]
      refine .rd (us := uss[j]) (fun _ => ⟨_, rfl, hb1, hb2, fun q u hu => ?_⟩) (hS.get j _ _ huj he)
      have hqs : q < s := by rw [← hsz]; exact (List.getElem?_eq_some_iff.1 hu).1
      have := hc _ u ((flatten_at hS.sz huj q hqs).trans hu)
      rw [hspot] at this
      rw [Addr.add_lit] at this ⊢
      rwa [Nat.add_assoc]
    · cases hk
  · rename_i e' s by_ z c n ki i ht hx hy
    have htt := tab_at hτ ht
    simp only [tiOk, Bool.and_eq_true, decide_eq_true_eq] at htt
    have hsl := htt.1.1.2
    obtain ⟨m, hm, hv, hn⟩ := (h.ev hx).gs_
    split at hk
    · rename_i T s' es hb
      split at hk
      · rename_i hs
        have hs' := Nat.eq_of_beq_eq_true hs
        subst hs'
        obtain ⟨hl, ⟨j, cs, rfl, he, hkk⟩⟩ := hk
        obtain ⟨m', hm', h1, h2, h3, h4⟩ := h.elems hb (.inl ⟨T, rfl⟩)
        rw [hm] at hm'
        cases hm'
        obtain ⟨g, us, hg, hmem, hR⟩ := h4 j cs he
        have hxe := hn (by omega)
        have hjl : j < es.length := (List.getElem?_eq_some_iff.1 he).1
        unfold hdr at hxe
        rw [hg] at hxe
        have := ex_index_addr (w := w) (d := d) (ty := ty) (pos := pos) (af := af) (gd := gd) hsl hxe (h.ev hy).v_ (by omega) (by omega)
        refine .val h.ms hkk this ?_
        simp only [Int.toNat_natCast, Addr.add_lit]
        exact .pe hm hv (by omega) fun _ => ⟨g, hg, by rw [h2.1]; simp⟩
      · cases hk
    · rename_i s' es hb
      split at hk
      · rename_i hs
        have hs' := Nat.eq_of_beq_eq_true hs
        subst hs'
        obtain ⟨hl, ⟨j, cs, rfl, he, hkk⟩⟩ := hk
        obtain ⟨m', hm', h1, h2, h3, hC⟩ := h.box c _ hb
        rw [hm] at hm'
        cases hm'
        have hxe := hn (by omega)
        have hjl : j < es.length := (List.getElem?_eq_some_iff.1 he).1
        obtain ⟨A, cap, uss, ha, hcap, hmx, hcl, hS⟩ := RepS.of_sl hC
        have hlt : j < uss.length := by rw [hS.len]; exact hjl
        have huj : uss[j]? = some uss[j] := List.getElem?_eq_getElem hlt
        have hsz := hS.sz _ (List.getElem_mem hlt)
        have hl0 : 0 < (uss[j]).length := by rw [hsz]; exact h2.2
        have hne : uss.flatten ≠ [] := by
          have := flatten_at hS.sz huj 0 h2.2
          intro hf; rw [hf] at this
          rw [List.getElem?_eq_getElem hl0] at this; simp at this
        obtain ⟨ad, rfl, hb1, hb2, hc⟩ := hcl hne
        rw [ha] at hxe
        have had : ∃ g, ad = ⟨g, 0, none⟩ := by
          unfold hdr at ha
          injection ha with ha1 _ _
          cases hgg : m.g with
          | none => rw [hgg] at ha1; cases ha1
          | some g => rw [hgg] at ha1; cases ha1; exact ⟨g, rfl⟩
        obtain ⟨g, rfl⟩ := had
        refine .val h.ms hkk (ex_index_addr hsl hxe (h.ev hy).v_ (by omega) (by omega)) ?_
        simp only [Int.toNat_natCast, Addr.add_lit]
        refine .rd (us := uss[j]) (fun _ => ⟨_, rfl, hb1, hb2, fun q u hu => ?_⟩) (hS.get j _ _ huj he)
        have hqs : q < s := by rw [← hsz]; exact (List.getElem?_eq_some_iff.1 hu).1
        have := hc _ u ((flatten_at hS.sz huj q hqs).trans hu)
        rw [Addr.add_lit] at this ⊢
        rwa [Nat.add_assoc]
      · cases hk
    · cases hk
  · rename_i n s one z c o' ki i ht hx hy
    have htt := tab_at hτ ht
    simp only [tiOk, Bool.and_eq_true, decide_eq_true_eq] at htt
    split at hk
    · rename_i hlt
      have hlt' : i < n := by simpa [Nat.blt_eq] using hlt
      obtain ⟨m, g, hm, hv, hg, hxe⟩ := (h.ev hx).ptr_
      have hye := (h.ev hy).v_
      refine .val h.ms hk (u := .pointer (some ⟨g, o' + i * s, none⟩)) ?_ (.ptr hm hv hg)
      have h2 := htt.2
      split at h2
      · rename_i mm ee hu
        simp only [Bool.and_eq_true, decide_eq_true_eq] at h2
        obtain ⟨rfl, h3⟩ := h2
        cases hq : P.info? ee with
        | none => simp [hq] at h3
        | some y =>
          have hsz : y.size = s := by simpa [hq] using h3
          simp [execOp, hxe, hye, Instr.indexAt, asIntOf, run_underlying hu, Instr.sureAddr, hlt', sizeOf, typeInfo, hq, hsz, Addr.add_lit]
      · cases h2
    · cases hk
  · cases hk
end
end Go.Sw

namespace Go.Sw
open Go Go.RowKit
set_option linter.unusedVariables false

theorem ld_up {α : Type} {t : Nat} {x : α} : ∀ (l : List (Nat × α)) (i : Nat), ld i (up t x l) = if i = t then some x else ld i l
  | [], i => by
    simp only [up, ld]
    by_cases h : i = t
    · subst h; simp
    · rw [beq_no (fun e => h e.symm), if_neg h]; rfl
  | (s, v) :: r, i => by
    simp only [up]
    by_cases hs : s = t
    · subst hs
      simp only [Nat.beq_refl, cond_true, ld]
      by_cases h : i = s
      · subst h; simp
      · rw [beq_no (fun e => h e.symm), if_neg h]; rfl
    · rw [beq_no hs]
      simp only [cond_false, ld, ld_up r i]
      by_cases h : i = t
      · subst h; rw [beq_no hs]; simp
      · simp [h]
theorem ld_ups {α : Type} : ∀ (f : List (Nat × α)) (l : List (Nat × α)) (i : Nat) (x : α), ld i (ups f l) = some x → (i, x) ∈ f ∨ (i ∉ f.map (·.1) ∧ ld i l = some x)
  | [], l, i, x, h => .inr ⟨by simp, h⟩
  | (t, y) :: r, l, i, x, h => by
    rcases ld_ups r (up t y l) i x h with h1 | ⟨h1, h2⟩
    · left; exact List.mem_cons_of_mem _ h1
    · rw [ld_up] at h2
      split at h2
      · rename_i hi; cases h2; subst hi; left; simp
      · rename_i hi; right; exact ⟨by simp [hi]; simpa using h1, h2⟩
theorem ups_append {α : Type} : ∀ (f g : List (Nat × α)) (l : List (Nat × α)), ups (f ++ g) l = ups g (ups f l)
  | [], g, l => rfl
  | (t, x) :: r, g, l => by simp [ups, ups_append r g]

theorem Comp.trans {m m' m'' : MB} (h : Comp m m') (k : Comp m' m'') : Comp m m'' :=
  ⟨k.v.trans h.v, fun hv => (k.g (h.v.trans hv)).trans (h.g hv), fun hv => by
    rcases h.h hv with ⟨a1, a2, a3, a4⟩ | a <;> rcases k.h (h.v.trans hv) with ⟨c1, c2, c3, c4⟩ | c
    · exact .inl ⟨c1.trans a1, c2.trans a2, c3.trans a3, c4.trans a4⟩
    · right; omega
    · right; omega
    · right; omega⟩

section
variable {P : Program} {τ : Tab} {N : Nat} {w0 : World} {X0 : List Nat} {S : List Bx} {M : MM} {a : Act} {w : World} {e : Env} {b : Bxs}
variable {d : Option Nat} {ty : TypeId} {pos : String} {af : Array Edge} {gd : Option (Nat × Bool)} {k : AV → Bxs → Prop}

/-! ### What becomes of the memory -/
structure Chg (w : World) (X : List Nat) (M : MM) (w' : World) (X' : List Nat) (M' : MM) (al : List Nat) (f : Bxs) : Prop where
  ext : Ext w X w' X'
  same : ∀ i, i ∉ f.map (·.1) → M' i = M i
  comp : ∀ i m, M i = some m → i ∉ al → ∃ m', M' i = some m' ∧ Comp m m'
  new : ∀ i x, (i, x) ∈ f → ∃ m', M' i = some m' ∧ RepM w' X' m' x
theorem Chg.refl (w : World) (X : List Nat) (M : MM) : Chg w X M w X M [] [] := ⟨Ext.refl _ _, fun _ _ => rfl, fun i m hm _ => ⟨m, hm, Comp.refl m⟩, fun i x hx => by simp at hx⟩
theorem Chg.post {al : List Nat} {f : Bxs} {w' : World} {S' : List Bx} {M' : MM} {u : Value} {v : AV} (h : Chg w (bl S ++ X0) M w' (bl S' ++ X0) M' al f) (hm : MS w0 w' S' M') (hv : RepV w' (bl S' ++ X0) M' u v) : Post w0 X0 S M w al v f u w' :=
  ⟨S', M', hm, h.ext, hv, h.same, h.comp, h.new⟩
/-- One change behind another that writes to nothing the first one wrote to, or says it anew. -/
theorem Chg.trans {X X' X'' : List Nat} {w' w'' : World} {M' M'' : MM} {al : List Nat} {f g : Bxs} (h : Chg w X M w' X' M' [] f) (k : Chg w' X' M' w'' X'' M'' al g) (hd : ∀ i ∈ g.map (·.1), i ∉ f.map (·.1)) : Chg w X M w'' X'' M'' al (f ++ g) := by
  refine ⟨h.ext.trans k.ext, fun i hi => ?_, fun i m hm hi => ?_, fun i x hx => ?_⟩
  · simp only [List.map_append, List.mem_append, not_or] at hi
    rw [k.same i hi.2, h.same i hi.1]
  · obtain ⟨m', h1, h2⟩ := h.comp i m hm (by simp)
    obtain ⟨m'', k1, k2⟩ := k.comp i m' h1 hi
    exact ⟨m'', k1, h2.trans k2⟩
  · rcases List.mem_append.1 hx with hx | hx
    · obtain ⟨m', h1, h2⟩ := h.new i x hx
      have hi : i ∉ g.map (·.1) := fun hg => hd i hg (List.mem_map.2 ⟨_, hx, rfl⟩)
      exact ⟨m', (k.same i hi).trans h1, h2.ext k.ext⟩
    · exact k.new i x hx
/-- Memory changes, the frame does not. -/
theorem Sta.chg (h : Sta N w0 X0 S M a w e b) {S' : List Bx} {M' : MM} {w' : World} {f : Bxs} (hm : MS w0 w' S' M') (hc : Chg w (bl S ++ X0) M w' (bl S' ++ X0) M' [] f) : Sta N w0 X0 S' M' a w' e (ups f b) := by
  refine ⟨hm, h.x0, h.sz, h.df, fun t v hv => (h.env t v hv).ext hc.ext (fun i _ m hm => hc.comp i m hm (by simp)), fun i x hx => ?_⟩
  rcases ld_ups f b i x hx with h1 | ⟨h1, h2⟩
  · exact hc.new i x h1
  · obtain ⟨m, k1, k2⟩ := h.box i x h2
    exact ⟨m, (hc.same i h1).trans k1, k2.ext hc.ext⟩
theorem bl_filter_mem {S : List Bx} {g x : Nat} (h : x ∈ bl (S.filter fun q => !(Nat.beq q.1 g))) : x ∈ bl S ∧ x ≠ g := by
  obtain ⟨q, hq, rfl⟩ := List.mem_map.1 h
  obtain ⟨h1, h2⟩ := List.mem_filter.1 hq
  refine ⟨List.mem_map.2 ⟨q, h1, rfl⟩, fun e => ?_⟩
  rw [e] at h2; simp at h2
/-- A block is given away. -/
theorem MS.drop (h : MS w0 w S M) {i : Nat} {m : MB} {g : Nat} (hm : M i = some m) (ho : m.own = true) (hg : m.g = some g) {m' : MB} (ho' : m'.own = false) : MS w0 w (S.filter fun q => !(Nat.beq q.1 g)) (M.set i m') := by
  refine ⟨h.st.drop List.filter_sublist, fun c mc hc hco gc hgc => ?_, fun c c' mc mc' gc h1 h2 h3 h4 h5 h6 => ?_⟩
  · by_cases hci : c = i
    · subst hci; rw [MM.set_same] at hc; cases hc; rw [ho'] at hco; cases hco
    · rw [MM.set_other _ _ hci] at hc
      refine List.mem_filter.2 ⟨h.inS c mc hc hco gc hgc, ?_⟩
      have : gc ≠ g := fun e => hci (h.inj c i mc m g hc hm hco ho (e ▸ hgc) hg)
      simp [beq_no this]
  · by_cases hci : c = i
    · subst hci; rw [MM.set_same] at h1; cases h1; rw [ho'] at h3; cases h3
    · by_cases hci' : c' = i
      · subst hci'; rw [MM.set_same] at h2; cases h2; rw [ho'] at h4; cases h4
      · rw [MM.set_other _ _ hci] at h1
        rw [MM.set_other _ _ hci'] at h2
        exact h.inj c c' mc mc' gc h1 h2 h3 h4 h5 h6
theorem MS.give (h : MS w0 w S M) {i : Nat} {m m' : MB} (hm : M i = some m) (ho' : m'.own = false) : MS w0 w S (M.set i m') := by
  refine ⟨h.st, fun c mc hc hco gc hgc => ?_, fun c c' mc mc' gc h1 h2 h3 h4 h5 h6 => ?_⟩
  · by_cases hci : c = i
    · subst hci; rw [MM.set_same] at hc; cases hc; rw [ho'] at hco; cases hco
    · rw [MM.set_other _ _ hci] at hc
      exact h.inS c mc hc hco gc hgc
  · by_cases hci : c = i
    · subst hci; rw [MM.set_same] at h1; cases h1; rw [ho'] at h3; cases h3
    · by_cases hci' : c' = i
      · subst hci'; rw [MM.set_same] at h2; cases h2; rw [ho'] at h4; cases h4
      · rw [MM.set_other _ _ hci] at h1
        rw [MM.set_other _ _ hci'] at h2
        exact h.inj c c' mc mc' gc h1 h2 h3 h4 h5 h6
/-- A slice of the call's own is written to no more. -/
theorem freeze (h : Sta N w0 X0 S M a w e b) {i s : Nat} {T : TypeId} {es : List (List Cell)} (hb : ld i b = some (.grow T s es)) :
    ∃ S' M', MS w0 w S' M' ∧ Chg w (bl S ++ X0) M w (bl S' ++ X0) M' [] [(i, .froz s es)] ∧ ∀ m, M i = some m → RepC w (bl S' ++ X0) (hdr m) (.sl s es) := by
  obtain ⟨m, hm, h1, h2, h3, h4, h5, h6⟩ := h.box i _ hb
  have hcomp : Comp m { m with own := false } := ⟨rfl, fun _ => rfl, fun _ => .inl ⟨rfl, rfl, rfl, rfl⟩⟩
  have fin : ∀ S' : List Bx, (∀ x ∈ bl S', x ∈ bl S) → MS w0 w S' (M.set i { m with own := false }) → RepC w (bl S' ++ X0) (hdr m) (.sl s es) → ∃ S' M', MS w0 w S' M' ∧ Chg w (bl S ++ X0) M w (bl S' ++ X0) M' [] [(i, .froz s es)] ∧ ∀ m, M i = some m → RepC w (bl S' ++ X0) (hdr m) (.sl s es) := by
    intro S' hsub hms hC
    refine ⟨S', _, hms, ⟨Ext.drop fun x hx => ?_, fun c hc => MM.set_other _ _ (by simpa using hc), fun c mc hc _ => ?_, fun c x hx => ?_⟩, fun m' hm' => ?_⟩
    · rcases List.mem_append.1 hx with hx | hx
      · exact List.mem_append_left _ (hsub x hx)
      · exact List.mem_append_right _ hx
    · by_cases hci : c = i
      · subst hci; rw [hm] at hc; cases hc; exact ⟨_, MM.set_same _ _ _, hcomp⟩
      · exact ⟨mc, by rw [MM.set_other _ _ hci, hc], Comp.refl _⟩
    · simp only [List.mem_singleton, Prod.mk.injEq] at hx
      obtain ⟨rfl, rfl⟩ := hx
      exact ⟨_, MM.set_same _ _ _, h1, h4, h5, hC⟩
    · rw [hm] at hm'; cases hm'; exact hC
  rcases h6 with ⟨g1, rfl, g3⟩ | ⟨g, uss, rest, g1, g2, g3, g4, g5, g6⟩
  · refine fin S (fun _ hx => hx) (h.ms.give hm rfl) ?_
    unfold hdr
    rw [g1, g3, h5]
    exact .nil _ _ _
  · refine fin _ (fun x hx => (bl_filter_mem hx).1) (h.ms.drop hm h2 g1 rfl) ?_
    have hrow := h.row hm h2 g1
    have hng : g ∉ bl (S.filter fun q => !(Nat.beq q.1 g)) ++ X0 := by
      intro hx
      rcases List.mem_append.1 hx with hx | hx
      · exact (bl_filter_mem hx).2 rfl
      · have h7 := h.x0 g hx
        have h8 := (h.ms.st.box _ (h.ms.inS i m hm h2 g g1)).2
        simp only at h8
        omega
    have hcl := Cl.of_block hrow hng uss.flatten.length
    rw [List.toList_toArray, g2, List.take_left' rfl] at hcl
    have hmx : m.cap ≤ 9223372036854775807 := by unfold maxLen at g5; omega
    have hS := g3.ext (w' := w) (X' := bl (S.filter fun q => !(Nat.beq q.1 g)) ++ X0) (Ext.drop fun x hx => by
      rcases List.mem_append.1 hx with hx | hx
      · exact List.mem_append_left _ (bl_filter_mem hx).1
      · exact List.mem_append_right _ hx)
    unfold hdr
    rw [g1, h5]
    exact hS.sl hcl (by omega) hmx
/-- A value as data. -/
theorem argK_ok {v : AV} {u : Value} (h : Sta N w0 X0 S M a w e b) (hv : RepV w (bl S ++ X0) M u v) (hk : argK b v k) :
    ∃ v' f S' M', k v' f ∧ MS w0 w S' M' ∧ Chg w (bl S ++ X0) M w (bl S' ++ X0) M' [] f ∧ RepD w (bl S' ++ X0) u v' ∧ (∀ i x, (i, x) ∈ f → (∃ T s es, ld i b = some (.grow T s es)) ∧ ∃ s es, x = .froz s es) := by
  unfold argK at hk
  split at hk
  · refine ⟨_, [], S, M, hk, h.ms, Chg.refl _ _ _, ?_, fun i x hx => by simp at hx⟩
    rw [hv.v_]
    exact .c (.nil _ _ _)
  · rename_i x _
    refine ⟨_, [], S, M, hk, h.ms, Chg.refl _ _ _, ?_, fun i x hx => by simp at hx⟩
    cases hv with
    | d hd => exact hd
  · rename_i cs
    refine ⟨_, [], S, M, hk, h.ms, Chg.refl _ _ _, ?_, fun i x hx => by simp at hx⟩
    cases hv with
    | d hd => exact hd
  · rename_i i n
    obtain ⟨m, hm, hvv, hn⟩ := hv.gs_
    split at hk
    · rename_i T s es hb
      obtain ⟨hl, hkk⟩ := hk
      obtain ⟨S', M', h1, h2, h3⟩ := freeze h hb
      obtain ⟨m', hm', q1, q2, q3, q4, q5, q6⟩ := h.box i _ hb
      rw [hm] at hm'
      cases hm'
      refine ⟨_, _, S', M', hkk, h1, h2, ?_, fun c x hx => ?_⟩
      · rw [hn (by omega)]; exact .c (h3 m hm)
      · simp only [List.mem_singleton, Prod.mk.injEq] at hx
        obtain ⟨rfl, rfl⟩ := hx
        exact ⟨⟨T, s, es, hb⟩, s, es, rfl⟩
    · rename_i s es hb
      obtain ⟨hl, hkk⟩ := hk
      obtain ⟨m', hm', q1, q2, q3, q4⟩ := h.box i _ hb
      rw [hm] at hm'
      cases hm'
      refine ⟨_, [], S, M, hkk, h.ms, Chg.refl _ _ _, ?_, fun i x hx => by simp at hx⟩
      rw [hn (by omega)]; exact .c q4
    · cases hk
  · cases hk
end
end Go.Sw

namespace Go.Sw
open Go Go.RowKit
set_option linter.unusedVariables false
section
variable {P : Program} {τ : Tab} {N : Nat} {w0 : World} {X0 : List Nat} {S : List Bx} {M : MM} {a : Act} {w : World} {e : Env} {b : Bxs}
variable {d : Option Nat} {ty : TypeId} {pos : String} {af : Array Edge} {gd : Option (Nat × Bool)} {k : AV → Bxs → Prop}
theorem MS.alloc (h : MS w0 w S M) {i : Nat} {m : MB} {T : TypeId} (ho : m.own = true) (hg : m.g = some w.heap.size) (hT : m.T = T) : MS w0 (w.alloc (.cells m.us.toArray T)) ((w.heap.size, T, m.us.toArray) :: S) (M.set i m) := by
  refine ⟨h.st.alloc _ _, fun c mc hc hco gc hgc => ?_, fun c c' mc mc' gc h1 h2 h3 h4 h5 h6 => ?_⟩
  · by_cases hci : c = i
    · subst hci; rw [MM.set_same] at hc; cases hc; rw [hg] at hgc; cases hgc; rw [hT]; simp
    · rw [MM.set_other _ _ hci] at hc
      exact List.mem_cons_of_mem _ (h.inS c mc hc hco gc hgc)
  · have old : ∀ c mc, c ≠ i → M.set i m c = some mc → mc.own = true → ∀ g, mc.g = some g → g ≠ w.heap.size := by
      intro c mc hci hc hco g hgc
      rw [MM.set_other _ _ hci] at hc
      have h8 := h.st.lt (h.inS c mc hc hco g hgc)
      simp only at h8
      omega
    by_cases hci : c = i
    · by_cases hci' : c' = i
      · rw [hci, hci']
      · subst hci; rw [MM.set_same] at h1; cases h1; rw [hg] at h5; cases h5
        exact absurd rfl (old c' mc' hci' h2 h4 _ h6)
    · by_cases hci' : c' = i
      · subst hci'; rw [MM.set_same] at h2; cases h2; rw [hg] at h6; cases h6
        exact absurd rfl (old c mc hci h1 h3 _ h5)
      · rw [MM.set_other _ _ hci] at h1
        rw [MM.set_other _ _ hci'] at h2
        exact h.inj c c' mc mc' gc h1 h2 h3 h4 h5 h6
/-- A new variable. -/
theorem new_var (h : Sta N w0 X0 S M a w e b) (i : Nat) (T : TypeId) {us : List Value} {cs : List Cell} (hl : RepL w (bl S ++ X0) us cs) :
    ∃ S' M', MS w0 (w.alloc (.cells us.toArray T)) S' M' ∧ Chg w (bl S ++ X0) M (w.alloc (.cells us.toArray T)) (bl S' ++ X0) M' [i] [(i, .var cs)] ∧ RepV (w.alloc (.cells us.toArray T)) (bl S' ++ X0) M' (.pointer (some ⟨w.heap.size, 0, none⟩)) (.ptr i 0) := by
  have hms := h.ms.alloc (i := i) (m := ⟨true, true, some w.heap.size, T, 0, 0, 0, us⟩) rfl rfl rfl
  have hext : Ext w (bl S ++ X0) (w.alloc (.cells us.toArray T)) (bl ((w.heap.size, T, us.toArray) :: S) ++ X0) := Ext.alloc _ _ _
  refine ⟨_, _, hms, ⟨hext, fun c hc => MM.set_other _ _ (by simpa using hc), fun c mc hc hci => ⟨mc, by rw [MM.set_other _ _ (by simpa using hci), hc], Comp.refl _⟩, fun c x hx => ?_⟩, .ptr (MM.set_same _ _ _) rfl rfl⟩
  simp only [List.mem_singleton, Prod.mk.injEq] at hx
  obtain ⟨rfl, rfl⟩ := hx
  exact ⟨_, MM.set_same _ _ _, rfl, rfl, ⟨_, rfl⟩, hl.ext hext⟩
theorem zero_of {t : TypeId} {ti : TI} (h : tiOk P t ti = true) : ∃ z, zeroOf P t = some z ∧ zsOk z.toList (zeroCells ti) = true := by
  cases ti <;> simp only [tiOk, Bool.and_eq_true] at h <;> simp only [zeroCells]
  all_goals first
    | (have h2 := h.2; split at h2 <;> first | exact ⟨_, by assumption, h2⟩ | cases h2)
    | (have h2 := h.1.2; split at h2 <;> first | exact ⟨_, by assumption, h2⟩ | cases h2)
theorem aop_alloc {t : TypeId} (hτ : tabOk P τ = true) (h : Sta N w0 X0 S M a w e b) (hk : aop (Den P) τ ⟨d, .alloc t, ty, pos, af, gd⟩ e b k) : Good P w0 X0 S M a w ⟨d, .alloc t, ty, pos, af, gd⟩ k := by
  unfold aop at hk
  simp only at hk
  split at hk
  · rename_i ti i ht
    obtain ⟨z, hz, hzz⟩ := zero_of (tab_at hτ ht)
    obtain ⟨S', M', h1, h2, h3⟩ := new_var h i t (zsOk_rep w (bl S ++ X0) hzz)
    exact ⟨_, _, hk, .inl ⟨_, _, ex_alloc hz, h2.post h1 h3⟩⟩
  · cases hk
theorem aop_box {t : TypeId} {x : Operand} (h : Sta N w0 X0 S M a w e b) (hk : aop (Den P) τ ⟨d, .box t x, ty, pos, af, gd⟩ e b k) : Good P w0 X0 S M a w ⟨d, .box t x, ty, pos, af, gd⟩ k := by
  unfold aop at hk
  simp only at hk
  split at hk
  · rename_i i v hx
    obtain ⟨v', f, S1, M1, hk1, hm1, hc1, hd, _⟩ := argK_ok h (h.ev hx) hk
    split at hk1
    · rename_i hf
      have h1 := h.chg hm1 hc1
      obtain ⟨us, hu, hl⟩ := hd.cells
      obtain ⟨S', M', q1, q2, q3⟩ := new_var h1 i t hl
      have hq := hc1.trans q2 (fun c hc => by
        simp only [List.map_cons, List.map_nil, List.mem_singleton] at hc
        subst hc
        intro hm
        obtain ⟨p, hp, hpe⟩ := List.mem_map.1 hm
        have := List.any_eq_false.1 hf p hp
        rw [hpe] at this
        simp at this)
      refine ⟨_, _, hk1, .inl ⟨_, _, ex_box rfl, ?_⟩⟩
      rw [hu]
      exact hq.post q1 q3
    · cases hk1
  · cases hk

/-! ### Writes -/
theorem splice_list (us vs : List Value) (o : Nat) : splice us.toArray o vs.toArray = (us.take o ++ vs ++ us.drop (o + vs.length)).toArray := by
  simp [splice]
theorem MS.write (h : MS w0 w S M) {i : Nat} {m : MB} {g : Nat} (hm : M i = some m) (ho : m.own = true) (hg : m.g = some g) {w' : World} {us : List Value} (hgr : w.grownBy w' (some g)) (hn : w'.heap[g]? = some (.cells us.toArray m.T (0, 0))) :
    ∃ S', MS w0 w' S' (M.set i { m with us := us }) ∧ bl S' = bl S := by
  obtain ⟨j, hj, hjv⟩ := List.getElem_of_mem (h.inS i m hm ho g hg)
  have hjs : S[j]? = some (g, m.T, m.us.toArray) := by rw [List.getElem?_eq_getElem hj, hjv]
  refine ⟨_, ⟨h.st.write j hjs hgr hn, fun c mc hc hco gc hgc => ?_, fun c c' mc mc' gc h1 h2 h3 h4 h5 h6 => ?_⟩, bl_set j hjs⟩
  · by_cases hci : c = i
    · subst hci
      rw [MM.set_same] at hc
      cases hc
      rw [hg] at hgc
      cases hgc
      exact List.mem_iff_getElem?.2 ⟨j, by simp [hj]⟩
    · rw [MM.set_other _ _ hci] at hc
      obtain ⟨q, hq, hqv⟩ := List.getElem_of_mem (h.inS c mc hc hco gc hgc)
      have hne : gc ≠ g := fun e => hci (h.inj c i mc m g hc hm hco ho (e ▸ hgc) hg)
      have hqj : j ≠ q := by
        rintro rfl
        rw [hjv] at hqv
        exact hne (congrArg Prod.fst hqv).symm
      exact List.mem_iff_getElem?.2 ⟨q, by rw [List.getElem?_set_ne hqj, List.getElem?_eq_getElem hq, hqv]⟩
  · by_cases hci : c = i
    · by_cases hci' : c' = i
      · rw [hci, hci']
      · subst hci
        rw [MM.set_same] at h1
        cases h1
        rw [MM.set_other _ _ hci'] at h2
        exact h.inj c c' m mc' gc hm h2 ho h4 h5 h6
    · by_cases hci' : c' = i
      · subst hci'
        rw [MM.set_same] at h2
        cases h2
        rw [MM.set_other _ _ hci] at h1
        exact h.inj c c' mc m gc h1 hm h3 ho h5 h6
      · rw [MM.set_other _ _ hci] at h1
        rw [MM.set_other _ _ hci'] at h2
        exact h.inj c c' mc mc' gc h1 h2 h3 h4 h5 h6
theorem sz_of {t : TypeId} {ti : TI} (h : tiOk P t ti = true) : (P.info? t).map (·.size) = some (szOf ti) := by
  have one : isOne P t = true → (P.info? t).map (·.size) = some 1 := fun h => by simp only [isOne, Bool.and_eq_true, decide_eq_true_eq] at h; exact h.2
  have row : ∀ n, isRow P t n = true → (P.info? t).map (·.size) = some n := fun n h => by simp only [isRow, Bool.and_eq_true, decide_eq_true_eq] at h; exact h.2
  cases ti <;> simp only [tiOk, Bool.and_eq_true] at h <;> simp only [szOf]
  · exact one h.1.1
  · exact one h.1.1
  · exact one h.1.1
  · exact row _ h.1.1.1
  · exact one h.1.1.1.1
  · exact row _ h.1.1.1
  · exact row _ h.1.1.1
theorem all_one {us : List Value} (h : ∀ u ∈ us, u.oneCell' = true) : us.toArray.toList.all Value.oneCell' = true := List.all_eq_true.2 (by simpa using h)
theorem flatten_put {s : Nat} {rest : List Value} {vs : List Value} {off : Nat} : ∀ {uss : List (List Value)} {i : Nat} {u : List Value}, (∀ us ∈ uss, us.length = s) → uss[i]? = some u → off + vs.length ≤ s →
    (uss.flatten ++ rest).take (i * s + off) ++ vs ++ (uss.flatten ++ rest).drop (i * s + off + vs.length) = (uss.set i (u.take off ++ vs ++ u.drop (off + vs.length))).flatten ++ rest
  | [], i, u, _, h, _ => by simp at h
  | x :: r, 0, u, hs, h, hf => by
    have : x = u := by simpa using h
    subst this
    have hx := hs x (by simp)
    simp only [Nat.zero_mul, Nat.zero_add, List.flatten_cons, List.set_cons_zero, List.append_assoc]
    rw [List.take_append_of_le_length (by omega), List.drop_append_of_le_length (by omega)]
  | x :: r, i + 1, u, hs, h, hf => by
    have hx := hs x (by simp)
    have ih := flatten_put (rest := rest) (vs := vs) (off := off) (uss := r) (i := i) (u := u) (fun us hm => hs us (by simp [hm])) (by simpa using h) hf
    have e1 : (i + 1) * s + off = x.length + (i * s + off) := by rw [Nat.succ_mul]; omega
    simp only [List.flatten_cons, List.set_cons_succ, List.append_assoc] at ih ⊢
    rw [e1, List.take_length_add_append, Nat.add_assoc x.length, List.drop_length_add_append]
    simp only [List.append_assoc] at ih ⊢
    rw [ih]
theorem aop_store {t : TypeId} {x y : Operand} (hτ : tabOk P τ = true) (h : Sta N w0 X0 S M a w e b) (hk : aop (Den P) τ ⟨d, .store t x y, ty, pos, af, gd⟩ e b k) : Good P w0 X0 S M a w ⟨d, .store t x y, ty, pos, af, gd⟩ k := by
  unfold aop at hk
  simp only at hk
  split at hk
  · rename_i ti i off v ht hx hy
    obtain ⟨m, g, hm, hv, hg, hxe⟩ := (h.ev hx).ptr_
    split at hk
    · rename_i cs hb
      obtain ⟨v', f, S1, M1, hk1, hm1, hc1, hd, hff⟩ := argK_ok h (h.ev hy) hk
      have h1 := h.chg hm1 hc1
      obtain ⟨vs, hu, hl⟩ := hd.cells
      have hif : i ∉ f.map (·.1) := by
        intro hm
        obtain ⟨p, hp, hpe⟩ := List.mem_map.1 hm
        obtain ⟨⟨T, s, es, he⟩, _⟩ := hff p.1 p.2 hp
        rw [hpe, hb] at he
        cases he
      have hM1 : M1 i = some m := (hc1.same i hif).trans hm
      obtain ⟨m', hm', q1, q2, ⟨g', q3⟩, q4⟩ := h.box i _ hb
      rw [hm] at hm'
      cases hm'
      have hrow := h1.row hM1 q2 hg
      split at hk1
      · rename_i cs' hsz hp
        have hszz := Nat.eq_of_beq_eq_true hsz
        obtain ⟨hfit, rfl⟩ := putN_some hp
        have q4' := q4.ext hc1.ext
        have hlen := hl.len
        have hrun := run_storeAt (P := P) (w := w) (t := t) (g := g) (off := off) (v := a.eval y) hu (by rw [sz_of (tab_at hτ ht), ← hszz, ← hlen]; simp) (all_one hl.one) hrow (by simp [q4.len, hlen]; exact hfit)
        rw [splice_list] at hrun
        have hgr := grownBy_setRow w g (m.us.take off ++ vs ++ m.us.drop (off + vs.length)).toArray
        obtain ⟨S', hms, hbl⟩ := hm1.write hM1 q2 hg hgr (setRow_heap w g _ _ _ _ hrow)
        refine ⟨_, _, hk1, .inr (.inl ⟨w.setRow g (m.us.take off ++ vs ++ m.us.drop (off + vs.length)).toArray, ?_, ?_⟩)⟩
        · simp only [execOp, hxe, Sem.run_bind, hrun, Result.andThen_ok, Sem.run_pure]
        · have hgin : g ∈ bl S1 ++ X0 := List.mem_append_left _ (List.mem_map.2 ⟨_, hm1.inS i m hM1 q2 g hg, rfl⟩)
          have hext : Ext w (bl S1 ++ X0) (w.setRow g (m.us.take off ++ vs ++ m.us.drop (off + vs.length)).toArray) (bl S' ++ X0) := by rw [hbl]; exact Ext.write hgr hgin
          have hc2 : Chg w (bl S1 ++ X0) M1 (w.setRow g (m.us.take off ++ vs ++ m.us.drop (off + vs.length)).toArray) (bl S' ++ X0) (M1.set i { m with us := m.us.take off ++ vs ++ m.us.drop (off + vs.length) }) (alO ⟨d, .store t x y, ty, pos, af, gd⟩) [(i, .var (cs.take off ++ cellsOf v' ++ cs.drop (off + (cellsOf v').length)))] := by
            refine ⟨hext, fun c hc => MM.set_other _ _ (by simpa using hc), fun c mc hc _ => ?_, fun c z hz => ?_⟩
            · by_cases hci : c = i
              · subst hci
                rw [hM1] at hc
                cases hc
                exact ⟨_, MM.set_same _ _ _, rfl, fun _ => rfl, fun h0 => by rw [q1] at h0; cases h0⟩
              · exact ⟨mc, by rw [MM.set_other _ _ hci, hc], Comp.refl _⟩
            · simp only [List.mem_singleton, Prod.mk.injEq] at hz
              obtain ⟨rfl, rfl⟩ := hz
              refine ⟨_, MM.set_same _ _ _, q1, q2, ⟨g, hg⟩, ?_⟩
              rw [← hlen]
              exact (((q4'.take off).append hl).append (q4'.drop _)).ext hext
          exact (hc1.trans hc2 (fun c hc => by simp at hc; subst hc; exact hif)).post hms .any
      · exact False.elim hk1
    · cases hk
  · rename_i ti i n j off v ht hx hy
    obtain ⟨m, hm, hv, hn⟩ := (h.ev hx).pe_
    split at hk
    · rename_i T s es hb
      obtain ⟨v', f, S1, M1, hk1, hm1, hc1, hd, hff⟩ := argK_ok h (h.ev hy) hk
      split at hk1
      · rename_i hf0
        obtain ⟨hnl, ⟨j', cs, hj, he, hkk⟩⟩ := hk1
        have hj' : j = j' := by omega
        subst hj'
        split at hkk
        · rename_i cs' hsz hp
          have hszz := Nat.eq_of_beq_eq_true hsz
          obtain ⟨hfit, rfl⟩ := putN_some hp
          have hM1 : M1 i = some m := (hc1.same i (by simp)).trans hm
          have h1 := h.chg hm1 hc1
          obtain ⟨vs, hu, hl⟩ := hd.cells
          have hlen := hl.len
          obtain ⟨m', hm', q1, q2, q3, q4, q5, q6⟩ := h1.box i _ hb
          rw [hM1] at hm'
          cases hm'
          rcases q6 with ⟨_, rfl, _⟩ | ⟨g, uss, rest, g1, g2, g3, g4, g5, g6⟩
          · simp at he
          · obtain ⟨g', hg', hxe⟩ := hn (by omega)
            rw [g1] at hg'
            cases hg'
            rw [q4.1] at hxe
            have hlt : j < uss.length := by rw [g3.len]; exact (List.getElem?_eq_some_iff.1 he).1
            have huj : uss[j]? = some uss[j] := List.getElem?_eq_getElem hlt
            have hsj := g3.sz _ (List.getElem_mem hlt)
            have hRj := g3.get j _ _ huj he
            have hcs : cs.length = s := by rw [← hRj.len]; exact hsj
            have hrow := h1.row hM1 q2 g1
            have hfl : uss.flatten.length = uss.length * s := flatten_len g3.sz
            have hbig : j * s + s ≤ uss.length * s := by rw [← Nat.succ_mul]; exact Nat.mul_le_mul_right s hlt
            have hrun := run_storeAt (P := P) (w := w) (t := t) (g := g) (off := j * s + off) (v := a.eval y) hu (by rw [sz_of (tab_at hτ ht), ← hszz, ← hlen]; simp) (all_one hl.one) hrow (by
              simp only [List.size_toArray, g2, List.length_append, hfl]; omega)
            rw [splice_list, g2, flatten_put g3.sz huj (by omega)] at hrun
            have hgr := grownBy_setRow w g ((uss.set j (uss[j].take off ++ vs ++ uss[j].drop (off + vs.length))).flatten ++ rest).toArray
            obtain ⟨S', hms, hbl⟩ := hm1.write hM1 q2 g1 hgr (setRow_heap w g _ _ _ _ hrow)
            refine ⟨_, _, hkk, .inr (.inl ⟨w.setRow g ((uss.set j (uss[j].take off ++ vs ++ uss[j].drop (off + vs.length))).flatten ++ rest).toArray, ?_, ?_⟩)⟩
            · simp only [execOp, hxe, Sem.run_bind, hrun, Result.andThen_ok, Sem.run_pure]
            · have hgin : g ∈ bl S1 ++ X0 := List.mem_append_left _ (List.mem_map.2 ⟨_, hm1.inS i m hM1 q2 g g1, rfl⟩)
              have hext : Ext w (bl S1 ++ X0) (w.setRow g ((uss.set j (uss[j].take off ++ vs ++ uss[j].drop (off + vs.length))).flatten ++ rest).toArray) (bl S' ++ X0) := by rw [hbl]; exact Ext.write hgr hgin
              have hnl' : (uss[j].take off ++ vs ++ uss[j].drop (off + vs.length)).length = s := by simp; omega
              have hc2 : Chg w (bl S1 ++ X0) M1 (w.setRow g ((uss.set j (uss[j].take off ++ vs ++ uss[j].drop (off + vs.length))).flatten ++ rest).toArray) (bl S' ++ X0) (M1.set i { m with us := (uss.set j (uss[j].take off ++ vs ++ uss[j].drop (off + vs.length))).flatten ++ rest }) (alO ⟨d, .store t x y, ty, pos, af, gd⟩) [(i, .grow T s (es.set j (cs.take off ++ cellsOf v' ++ cs.drop (off + (cellsOf v').length))))] := by
                refine ⟨hext, fun c hc => MM.set_other _ _ (by simpa using hc), fun c mc hc _ => ?_, fun c z hz => ?_⟩
                · by_cases hci : c = i
                  · subst hci
                    rw [hM1] at hc
                    cases hc
                    exact ⟨_, MM.set_same _ _ _, rfl, fun _ => rfl, fun h0 => .inl ⟨rfl, rfl, rfl, rfl⟩⟩
                  · exact ⟨mc, by rw [MM.set_other _ _ hci, hc], Comp.refl _⟩
                · simp only [List.mem_singleton, Prod.mk.injEq] at hz
                  obtain ⟨rfl, rfl⟩ := hz
                  refine ⟨_, MM.set_same _ _ _, q1, q2, q3, q4, by simpa using q5, .inr ⟨g, _, rest, g1, rfl, ⟨by simpa using g3.len, fun us hus => ?_, fun c us ee hc1 hc2 => ?_⟩, ?_, g5, g6⟩⟩
                  · rcases List.mem_or_eq_of_mem_set hus with hus | rfl
                    · exact g3.sz us hus
                    · exact hnl'
                  · by_cases hcj : j = c
                    · subst hcj
                      rw [List.getElem?_set_self hlt] at hc1
                      rw [List.getElem?_set_self (by rw [← g3.len]; exact hlt)] at hc2
                      cases hc1
                      cases hc2
                      rw [← hlen]
                      exact (((hRj.take off).append hl).append (hRj.drop _)).ext hext
                    · rw [List.getElem?_set_ne hcj] at hc1 hc2
                      exact (g3.get c us ee hc1 hc2).ext hext
                  · rw [g4, g2]
                    have hs2 : ∀ us ∈ uss.set j (uss[j].take off ++ vs ++ uss[j].drop (off + vs.length)), us.length = s := fun us hus => by
                      rcases List.mem_or_eq_of_mem_set hus with hus | rfl
                      · exact g3.sz us hus
                      · exact hnl'
                    simp only [List.length_append, hfl, flatten_len hs2, List.length_set]
              exact (hc1.trans hc2 (fun c hc => by simp)).post hms .any
        · exact False.elim hkk
      · exact False.elim hk1
    · cases hk
  · cases hk
end
end Go.Sw

namespace Go.Sw
open Go Go.RowKit
set_option linter.unusedVariables false
theorem take_set_snoc {α : Type} (us : List α) (n : Nat) (v : α) (h : n < us.length) : (us.set n v).take (n + 1) = us.take n ++ [v] := by
  rw [List.take_add_one, List.getElem?_set_self h]
  simp only [List.take_set, Option.toList_some]
  rw [List.set_eq_of_length_le (by simp; omega)]
theorem foldl_set (off : Nat) : ∀ (vs us : List Value) (k : Nat), off + k + vs.length ≤ us.length → (vs.zipIdx k).foldl (fun (cs : Array Value) p => cs.setIfInBounds (off + p.2) p.1) us.toArray = (us.take (off + k) ++ vs ++ us.drop (off + k + vs.length)).toArray
  | [], us, k, h => by simp
  | v :: r, us, k, h => by
    simp only [List.length_cons] at h
    simp only [List.zipIdx_cons, List.foldl_cons, List.setIfInBounds_toArray]
    rw [foldl_set off r (us.set (off + k) v) (k + 1) (by simp; omega)]
    congr 1
    have h1 : off + k < us.length := by omega
    rw [show off + (k + 1) = off + k + 1 by omega, take_set_snoc us _ v h1, List.drop_set_of_lt (by omega)]
    simp
    congr 1; omega
section
variable {P : Program} {τ : Tab} {N : Nat} {w0 : World} {X0 : List Nat} {S : List Bx} {M : MM} {a : Act} {w : World} {e : Env} {b : Bxs}
variable {d : Option Nat} {ty : TypeId} {pos : String} {af : Array Edge} {gd : Option (Nat × Bool)} {k : AV → Bxs → Prop}
/-- Freezes alone. -/
def FrzOnly (b f : Bxs) : Prop := ∀ i x, (i, x) ∈ f → (∃ T s es, ld i b = some (.grow T s es)) ∧ ∃ s es, x = .froz s es
theorem frz_disj {b f g : Bxs} (hf : FrzOnly b f) (hg : FrzOnly (ups f b) g) : ∀ i ∈ g.map (·.1), i ∉ f.map (·.1) := by
  intro i hi hm
  obtain ⟨p, hp, rfl⟩ := List.mem_map.1 hi
  obtain ⟨⟨T, s, es, he⟩, _⟩ := hg p.1 p.2 hp
  rcases ld_ups f b _ _ he with h | ⟨h, _⟩
  · obtain ⟨_, s', es', h2⟩ := hf _ _ h
    cases h2
  · exact h hm
theorem FrzOnly.append {b f g : Bxs} (hf : FrzOnly b f) (hg : FrzOnly (ups f b) g) : FrzOnly b (f ++ g) := by
  intro i x hx
  rcases List.mem_append.1 hx with hx | hx
  · exact hf i x hx
  · obtain ⟨⟨T, s, es, he⟩, h2⟩ := hg i x hx
    refine ⟨?_, h2⟩
    rcases ld_ups f b _ _ he with h | ⟨h, h3⟩
    · obtain ⟨_, s', es', h4⟩ := hf _ _ h
      cases h4
    · exact ⟨T, s, es, h3⟩
theorem FrzOnly.nil (b : Bxs) : FrzOnly b [] := fun i x hx => by simp at hx
theorem argK_ok' {v : AV} {u : Value} (h : Sta N w0 X0 S M a w e b) (hv : RepV w (bl S ++ X0) M u v) (hk : argK b v k) :
    ∃ v' f S' M', k v' f ∧ MS w0 w S' M' ∧ Chg w (bl S ++ X0) M w (bl S' ++ X0) M' [] f ∧ RepD w (bl S' ++ X0) u v' ∧ FrzOnly b f := argK_ok h hv hk
/-- Several values as data. -/
theorem argsK_ok : ∀ {vs : List AV} {us : List Value} {b : Bxs} {S : List Bx} {M : MM} {k : List AV → Bxs → Prop}, Sta N w0 X0 S M a w e b → us.length = vs.length → (∀ (i : Nat) u v, us[i]? = some u → vs[i]? = some v → RepV w (bl S ++ X0) M u v) → argsK vs b k →
    ∃ vs' f S' M', k vs' f ∧ MS w0 w S' M' ∧ Chg w (bl S ++ X0) M w (bl S' ++ X0) M' [] f ∧ (us.length = vs'.length ∧ ∀ (i : Nat) u v, us[i]? = some u → vs'[i]? = some v → RepD w (bl S' ++ X0) u v) ∧ FrzOnly b f
  | [], us, b, S, M, k, h, hl, hr, hk => by
    have : us = [] := List.eq_nil_of_length_eq_zero (by simpa using hl)
    subst this
    exact ⟨_, _, S, M, hk, h.ms, Chg.refl _ _ _, ⟨rfl, fun i u v a => by simp at a⟩, FrzOnly.nil _⟩
  | v :: r, us, b, S, M, k, h, hl, hr, hk => by
    cases us with
    | nil => simp at hl
    | cons u us =>
      simp only [argsK] at hk
      obtain ⟨v', f, S1, M1, hk1, hm1, hc1, hd1, hf1⟩ := argK_ok' h (hr 0 u v rfl rfl) hk
      have h1 := h.chg hm1 hc1
      obtain ⟨vs', g, S2, M2, hk2, hm2, hc2, ⟨hl2, hd2⟩, hf2⟩ := argsK_ok h1 (by simpa using hl) (fun i u' v'' a c => (hr (i + 1) u' v'' (by simpa using a) (by simpa using c)).ext hc1.ext (fun c _ m hm => hc1.comp c m hm (by simp))) hk1
      refine ⟨_, _, S2, M2, hk2, hm2, hc1.trans hc2 (frz_disj hf1 hf2), ⟨by simp [hl2], fun i x y a c => ?_⟩, hf1.append hf2⟩
      cases i with
      | zero => simp at a c; subst a c; exact hd1.ext hc2.ext
      | succ i => exact hd2 i x y (by simpa using a) (by simpa using c)
theorem partsK_ok : ∀ {ps : List (Nat × Operand)} {b : Bxs} {S : List Bx} {M : MM} {k : List (Nat × List Cell) → Bxs → Prop}, Sta N w0 X0 S M a w e b → partsK e ps b k →
    ∃ vs f S' M', k vs f ∧ MS w0 w S' M' ∧ Chg w (bl S ++ X0) M w (bl S' ++ X0) M' [] f ∧ (ps.length = vs.length ∧ ∀ (i : Nat) p q, ps[i]? = some p → vs[i]? = some q → p.1 = q.1 ∧ ∃ us, (a.eval p.2).cells = us.toArray ∧ RepL w (bl S' ++ X0) us q.2) ∧ FrzOnly b f
  | [], b, S, M, k, h, hk => ⟨_, _, S, M, hk, h.ms, Chg.refl _ _ _, ⟨rfl, fun i u v a => by simp at a⟩, FrzOnly.nil _⟩
  | (j, x) :: r, b, S, M, k, h, hk => by
    simp only [partsK] at hk
    cases hx : ae e x with
    | none => simp [hx] at hk
    | some v =>
      simp only [hx] at hk
      obtain ⟨v', f, S1, M1, hk1, hm1, hc1, hd1, hf1⟩ := argK_ok' h (h.ev hx) hk
      have h1 := h.chg hm1 hc1
      obtain ⟨vs', g, S2, M2, hk2, hm2, hc2, ⟨hl2, hd2⟩, hf2⟩ := partsK_ok h1 hk1
      refine ⟨_, _, S2, M2, hk2, hm2, hc1.trans hc2 (frz_disj hf1 hf2), ⟨by simp [hl2], fun i p q hp hq => ?_⟩, hf1.append hf2⟩
      cases i with
      | zero =>
        simp at hp hq
        subst hp hq
        obtain ⟨us, hu, hl⟩ := hd1.cells
        exact ⟨rfl, us, hu, hl.ext hc2.ext⟩
      | succ i => exact hd2 i p q (by simpa using hp) (by simpa using hq)
theorem fill_ok {X : List Nat} {place : Nat → Option (Nat × Nat)} {fs : List (Nat × Nat × Bool)} (hp : ∀ i x, fs[i]? = some x → place i = some (x.1, x.2.1)) : ∀ {ps : List (Nat × Value)} {vs : List (Nat × List Cell)} {zz : List Value} {z cs : List Cell}, ps.length = vs.length →
    (∀ (i : Nat) p q, ps[i]? = some p → vs[i]? = some q → p.1 = q.1 ∧ ∃ us, p.2.cells = us.toArray ∧ RepL w X us q.2) → RepL w X zz z → fillA fs vs z = some cs → ∃ us, Instr.fill place zz.toArray ps = some us.toArray ∧ RepL w X us cs
  | [], [], zz, z, cs, _, _, hz, hf => by simp [fillA] at hf; subst hf; exact ⟨zz, rfl, hz⟩
  | [], _ :: _, zz, z, cs, hl, _, hz, hf => by simp at hl
  | _ :: _, [], zz, z, cs, hl, _, hz, hf => by simp at hl
  | (i, u) :: r, (j, c) :: l, zz, z, cs, hl, hr, hz, hf => by
    obtain ⟨hij, us, hu, hL⟩ := hr 0 _ _ rfl rfl
    simp only at hij hu
    subst hij
    simp only [fillA] at hf
    cases hfi : fs[i]? with
    | none => simp [hfi] at hf
    | some x =>
      obtain ⟨o, s, ag⟩ := x
      simp only [hfi] at hf
      split at hf
      · rename_i z' hs hput
        have hs' := Nat.eq_of_beq_eq_true hs
        obtain ⟨hfit, rfl⟩ := putN_some hput
        have hlen : us.length = c.length := hL.len
        have hzl := hz.len
        have hnew : RepL w X (zz.take o ++ us ++ zz.drop (o + us.length)) (z.take o ++ c ++ z.drop (o + c.length)) := by
          rw [hlen]; exact ((hz.take o).append hL).append (hz.drop _)
        obtain ⟨us', h1, h2⟩ := fill_ok hp (by simpa using hl) (fun k p q a b => hr (k + 1) p q (by simpa using a) (by simpa using b)) hnew hf
        refine ⟨us', ?_, h2⟩
        unfold Instr.fill
        rw [hp i _ hfi]
        simp only [hu]
        have hc1 : ¬ (us.toArray.size ≠ s || decide (o + us.toArray.size > zz.toArray.size)) = true := by
          simp; omega
        rw [if_neg hc1]
        have := foldl_set o us zz 0 (by omega)
        simp only [Nat.add_zero] at this
        have e2 : us.toArray.zipIdx.foldl (fun (cs : Array Value) p => cs.setIfInBounds (o + p.2) p.1) zz.toArray = (us.zipIdx 0).foldl (fun (cs : Array Value) p => cs.setIfInBounds (o + p.2) p.1) zz.toArray := by simp
        rw [e2, this]
        exact h1
      · cases hf
end
end Go.Sw

namespace Go.Sw
open Go Go.RowKit
set_option linter.unusedVariables false
section
variable {P : Program} {τ : Tab} {N : Nat} {w0 : World} {X0 : List Nat} {S : List Bx} {M : MM} {a : Act} {w : World} {e : Env} {b : Bxs}
variable {d : Option Nat} {ty : TypeId} {pos : String} {af : Array Edge} {gd : Option (Nat × Bool)} {k : AV → Bxs → Prop}
theorem run_places : ∀ {fl : List Field} {fs : List (Nat × Nat × Bool)}, fldsOk P fl fs = true → (fl.mapM (m := Sem) fun f => Prod.mk f.offset <$> sizeOf f.type).run P w = .ok (fs.map fun x => (x.1, x.2.1)) w
  | [], [], _ => by simp
  | f :: r, x :: l, h => by
    simp only [fldsOk, Bool.and_eq_true] at h
    have ih := run_places h.2
    have h2 := h.1
    simp only [fldOk, Bool.and_eq_true, decide_eq_true_eq] at h2
    have h3 : (sizeOf f.type).run P w = .ok x.2.1 w := by
      cases hq : P.info? f.type with
      | none => have := h2.1.1.2; simp [hq] at this
      | some i => have := h2.1.1.2; simp [hq] at this; simp [sizeOf, typeInfo, hq, this]
    have h1 : (Prod.mk f.offset <$> sizeOf f.type).run P w = .ok (x.1, x.2.1) w := by
      simp [h3, h2.1.1.1]
    rw [List.mapM_cons, Sem.run_bind, h1]
    simp only [Result.andThen_ok, Sem.run_bind, ih, Sem.run_pure, List.map_cons]
  | [], _ :: _, h => by simp [fldsOk] at h
  | _ :: _, [], h => by simp [fldsOk] at h
theorem aop_build {t : TypeId} {ps : Array (Nat × Operand)} (hτ : tabOk P τ = true) (h : Sta N w0 X0 S M a w e b) (hk : aop (Den P) τ ⟨d, .build t ps, ty, pos, af, gd⟩ e b k) : Good P w0 X0 S M a w ⟨d, .build t ps, ty, pos, af, gd⟩ k := by
  unfold aop at hk
  simp only at hk
  split at hk
  · rename_i n fs z ht
    have htt := tab_at hτ ht
    obtain ⟨vs, f, S1, M1, hk1, hm1, hc1, ⟨hl1, hp1⟩, _⟩ := partsK_ok h hk
    cases hf : fillA fs vs z with
    | none => simp [hf] at hk1
    | some cs =>
      simp only [hf] at hk1
      obtain ⟨fl, hu, hfl⟩ := rowT htt
      obtain ⟨zz, hz, hzz⟩ := zero_of htt
      have hzr := zsOk_rep w (bl S1 ++ X0) hzz
      obtain ⟨us, h1, h2⟩ := fill_ok (X := bl S1 ++ X0) (w := w) (place := fun i => ((fs.map fun x => (x.1, x.2.1)).toArray)[i]?) (fs := fs) (ps := ps.toList.map fun p => (p.1, a.eval p.2)) (vs := vs) (zz := zz.toList) (z := z) (cs := cs)
        (fun i x hx => by simp [hx]) (by simpa using hl1) (fun i p q hp hq => by
          rw [List.getElem?_map] at hp
          cases hpp : ps.toList[i]? with
          | none => simp [hpp] at hp
          | some p0 => simp [hpp] at hp; subst hp; exact hp1 i p0 q hpp hq) hzr hf
      refine ⟨_, _, hk1, .inl ⟨.agg us.toArray, w, ?_, hc1.post hm1 (.d (.agg h2))⟩⟩
      unfold zeroOf at hz
      cases hq : P.info? t with
      | none => simp [hq] at hz
      | some i =>
        cases hzi : i.zero with
        | none => simp [hq, hzi] at hz
        | some v =>
          simp [hq, hzi] at hz
          have hr := run_places (w := w) hfl
          have hr' : (fl.mapM (m := Sem) fun f => Prod.mk f.offset <$> sizeOf f.type).run P w = .ok (fs.map fun x => (x.1, x.2.1)).toArray w := by
            rw [Array.mapM_eq_mapM_toList]
            simp [hr]
          have h1' : Instr.fill (fun i => ((fs.map fun x => (x.1, x.2.1)).toArray)[i]?) v.cells (ps.map fun p => (p.1, a.eval p.2)).toList = some us.toArray := by
            rw [hz, Array.toList_map]; exact h1
          simp only [execOp, Instr.build, zeroValue, typeInfo, Sem.run_bind]
          simp [hq, hzi, run_underlying hu, hr']
          simp at h1'
          simp [h1']
  · cases hk

theorem fill_lit {X : List Nat} {s : Nat} : ∀ {ps : List (Nat × Value)} {vs : List (Nat × List Cell)} {k0 : Nat} {es : List (List Cell)} {done zs : List Value}, ps.length = vs.length →
    (∀ (i : Nat) p q, ps[i]? = some p → vs[i]? = some q → p.1 = k0 + i ∧ ∃ us, p.2.cells = us.toArray ∧ RepL w X us q.2) → litA s vs ps.length = some es → done.length = k0 * s → zs.length = ps.length * s →
    ∃ uss, Instr.fill (fun i => some (i * s, s)) (done ++ zs).toArray ps = some (done ++ uss.flatten).toArray ∧ RepS w X s uss es
  | [], [], k0, es, done, zs, _, _, hl, _, hz => by
    simp [litA] at hl
    subst hl
    have : zs = [] := List.eq_nil_of_length_eq_zero (by simpa using hz)
    subst this
    exact ⟨[], by simp [Instr.fill], .nil _ _ _⟩
  | [], _ :: _, _, _, _, _, h, _, _, _, _ => by simp at h
  | _ :: _, [], _, _, _, _, h, _, _, _, _ => by simp at h
  | (i, u) :: r, (j, c) :: l, k0, es, done, zs, hlen, hr, hl, hd, hz => by
    obtain ⟨hi, us, hu, hL⟩ := hr 0 _ _ rfl rfl
    simp only [Nat.add_zero] at hi hu
    subst hi
    simp only [List.length_cons, litA] at hl
    cases hq : litA s l r.length with
    | none => simp [hq] at hl
    | some es' =>
      simp only [hq] at hl
      cases hs : Nat.beq c.length s with
      | false => simp [hs] at hl
      | true =>
        simp only [hs, cond_true, Option.some.injEq] at hl
        subst hl
        have hcs := Nat.eq_of_beq_eq_true hs
        have hul : us.length = c.length := hL.len
        simp only [List.length_cons, Nat.succ_mul] at hz
        have hsplit : zs = zs.take s ++ zs.drop s := (List.take_append_drop s zs).symm
        have hts : (zs.take s).length = s := by rw [List.length_take]; omega
        obtain ⟨uss, h1, h2⟩ := fill_lit (ps := r) (vs := l) (k0 := i + 1) (es := es') (done := done ++ us) (zs := zs.drop s) (by simpa using hlen) (fun q p q' hp hq' => by
          obtain ⟨e1, e2⟩ := hr (q + 1) p q' (by simpa using hp) (by simpa using hq')
          exact ⟨by omega, e2⟩) hq (by rw [List.length_append, hd, hul, hcs, Nat.succ_mul]) (by simp; omega)
        refine ⟨us :: uss, ?_, by simp [h2.len], fun x hx => ?_, fun q us' ee hq1 hq2 => ?_⟩
        · unfold Instr.fill
          simp only [hu]
          have hc1 : ¬ (us.toArray.size ≠ s || decide (i * s + us.toArray.size > (done ++ zs).toArray.size)) = true := by
            simp; omega
          rw [if_neg hc1]
          have hf := foldl_set (i * s) us (done ++ zs) 0 (by simp; omega)
          have e2 : us.toArray.zipIdx.foldl (fun (cs : Array Value) p => cs.setIfInBounds (i * s + p.2) p.1) (done ++ zs).toArray = (us.zipIdx 0).foldl (fun (cs : Array Value) p => cs.setIfInBounds (i * s + p.2) p.1) (done ++ zs).toArray := by simp
          rw [e2, hf]
          have e3 : (done ++ zs).take (i * s + 0) ++ us ++ (done ++ zs).drop (i * s + 0 + us.length) = done ++ us ++ zs.drop s := by
            rw [Nat.add_zero, ← hd, List.take_left' rfl, List.drop_length_add_append, hul, hcs]
          rw [e3, h1]
          simp
        · rcases List.mem_cons.1 hx with rfl | hx
          · omega
          · exact h2.sz x hx
        · cases q with
          | zero => simp at hq1 hq2; subst hq1 hq2; exact hL
          | succ q => exact h2.get q us' ee (by simpa using hq1) (by simpa using hq2)
theorem inOrder_at : ∀ {ps : List (Nat × Operand)} {n : Nat}, inOrder n ps = true → ∀ {i : Nat} {p : Nat × Operand}, ps[i]? = some p → p.1 = n + i
  | [], n, _, i, p, h => by simp at h
  | (j, x) :: r, n, ho, i, p, h => by
    simp only [inOrder] at ho
    cases hb : Nat.beq n j with
    | false => simp [hb] at ho
    | true =>
      simp only [hb, cond_true] at ho
      have := Nat.eq_of_beq_eq_true hb
      subst this
      cases i with
      | zero => simp at h; subst h; rfl
      | succ i => have := inOrder_at ho (i := i) (p := p) (by simpa using h); omega
theorem litA_len {s : Nat} : ∀ {vs : List (Nat × List Cell)} {n : Nat} {es : List (List Cell)}, litA s vs n = some es → vs.length = n ∧ es.length = n
  | [], 0, es, h => by simp [litA] at h; subst h; simp
  | [], n + 1, es, h => by simp [litA] at h
  | _ :: _, 0, es, h => by simp [litA] at h
  | (i, c) :: r, n + 1, es, h => by
    simp only [litA] at h
    cases hq : litA s r n with
    | none => simp [hq] at h
    | some l =>
      simp only [hq] at h
      obtain ⟨h1, h2⟩ := litA_len hq
      cases hb : Nat.beq c.length s with
      | false => simp [hb] at h
      | true => simp [hb] at h; subst h; simp [h1, h2]
theorem MS.alloc_ (h : MS w0 w S M) (o : Obj) : MS w0 (w.alloc o) S M := ⟨h.st.alloc_ o, h.inS, h.inj⟩
theorem MS.call (h : MS w0 w S M) {w' : World} (hb : Below w.heap.size w w') : MS w0 w' S M := ⟨h.st.call hb, h.inS, h.inj⟩
theorem Chg.ext_ {X X' : List Nat} {w' w'' : World} {M' : MM} {al : List Nat} {f : Bxs} (h : Chg w X M w' X' M' al f) (he : Ext w' X' w'' X') : Chg w X M w'' X' M' al f :=
  ⟨h.ext.trans he, h.same, h.comp, fun i x hx => by obtain ⟨m', h1, h2⟩ := h.new i x hx; exact ⟨m', h1, h2.ext he⟩⟩
theorem Chg.al {X X' : List Nat} {w' : World} {M' : MM} {al : List Nat} {f : Bxs} (h : Chg w X M w' X' M' [] f) : Chg w X M w' X' M' al f := ⟨h.ext, h.same, fun i m hm _ => h.comp i m hm (by simp), h.new⟩
theorem sliceT {t e' : TypeId} {s by_ : Nat} {z : List Cell} (h : tiOk P t (.slice e' s by_ z) = true) : 0 < s ∧ sliceOf P t = some (e', s) ∧ ∃ zz, Sw.elemOf P e' = some (zz, s, by_) ∧ zsOk zz.toList z = true ∧ zz.size = s := by
  simp only [tiOk, Bool.and_eq_true, decide_eq_true_eq] at h
  refine ⟨by have := h.1.1.1.2; omega, h.1.1.2, ?_⟩
  have h2 := h.2
  split at h2
  · rename_i zz s' b' he
    simp only [Bool.and_eq_true, decide_eq_true_eq] at h2
    obtain ⟨⟨⟨q1, rfl⟩, rfl⟩, q2⟩ := h2
    exact ⟨zz, he, q1, q2⟩
  · cases h2
theorem aop_buildSlice {t : TypeId} {n : Nat} {ps : Array (Nat × Operand)} (hτ : tabOk P τ = true) (h : Sta N w0 X0 S M a w e b) (hk : aop (Den P) τ ⟨d, .buildSlice t n ps, ty, pos, af, gd⟩ e b k) : Good P w0 X0 S M a w ⟨d, .buildSlice t n ps, ty, pos, af, gd⟩ k := by
  unfold aop at hk
  simp only at hk
  split at hk
  · rename_i e' s by_ z ht ho
    obtain ⟨hs0, hsl, zz, hel, hzz, hzs⟩ := sliceT (tab_at hτ ht)
    obtain ⟨vs, f, S1, M1, hk1, hm1, hc1, ⟨hl1, hp1⟩, _⟩ := partsK_ok h hk
    split at hk1
    · rename_i es hlit h0 hle
      have hn0 : 0 < n * s := by simpa [Nat.blt_eq] using h0
      have hnl : n * s ≤ 16777216 := by simpa [Nat.ble_eq] using hle
      obtain ⟨hvn, hen⟩ := litA_len hlit
      obtain ⟨uss, h1, h2⟩ := fill_lit (w := w) (X := bl S1 ++ X0) (s := s) (ps := ps.toList.map fun p => (p.1, a.eval p.2)) (vs := vs) (k0 := 0) (es := es) (done := []) (zs := (madeCells zz (n * s)).toList) (by simpa using hl1) (fun i p q hp hq => by
          rw [List.getElem?_map] at hp
          cases hpp : ps.toList[i]? with
          | none => simp [hpp] at hp
          | some p0 =>
            simp [hpp] at hp
            subst hp
            exact ⟨inOrder_at ho hpp, (hp1 i p0 q hpp hq).2⟩) (by rw [List.length_map, hl1, hvn]; exact hlit) (by simp) (by rw [Array.length_toList, size_madeCells, List.length_map, hl1, hvn])
      simp only [List.nil_append] at h1
      have hrun := run_lit (P := P) (w := w) (n := n) (parts := ps.map fun p => (p.1, a.eval p.2)) hsl hel hnl (by omega) (by rw [Array.toList_map]; simpa using h1)
      have hX : ∀ m ∈ bl S1 ++ X0, m < w.heap.size := (h.chg hm1 hc1).bnd
      have hext := Ext.alloc_ w (bl S1 ++ X0) (.cells uss.flatten.toArray e')
      have hcl := Cl.of_new hX uss.flatten.toArray e'
      refine ⟨_, _, hk1, .inl ⟨.slice (some ⟨w.heap.size, 0, none⟩) n n, _, ?_, ((hc1.ext_ hext).al).post (hm1.alloc_ _) (.d (.c ?_))⟩⟩
      · simp only [execOp, Sem.run_bind]
        rw [hrun]
        simp
      · have := (h2.ext hext).sl (A := some ⟨w.heap.size, 0, none⟩) (cap := n) (by simpa using hcl) (by omega) (by have := Nat.le_mul_of_pos_right n hs0; omega)
        rwa [hen] at this
    · exact False.elim hk1
  · cases hk
end
end Go.Sw

namespace Go.Sw
open Go Go.RowKit
set_option linter.unusedVariables false
section
variable {P : Program} {τ : Tab} {N : Nat} {w0 : World} {X0 : List Nat} {S : List Bx} {M : MM} {a : Act} {w : World} {e : Env} {b : Bxs}
variable {d : Option Nat} {ty : TypeId} {pos : String} {af : Array Edge} {gd : Option (Nat × Bool)} {k : AV → Bxs → Prop}
theorem mapO_ok {α β : Type} {f : α → Option β} : ∀ {l : List α} {r : List β}, mapO f l = some r → l.length = r.length ∧ ∀ (i : Nat) x, l[i]? = some x → ∃ y, r[i]? = some y ∧ f x = some y
  | [], r, h => by simp [mapO] at h; subst h; simp
  | x :: l, r, h => by
    simp only [mapO] at h
    cases hx : f x with
    | none => simp [hx] at h
    | some y =>
      cases hq : mapO f l with
      | none => simp [hx, hq] at h
      | some q =>
        simp [hx, hq] at h
        subst h
        obtain ⟨h1, h2⟩ := mapO_ok hq
        refine ⟨by simp [h1], fun i z hz => ?_⟩
        cases i with
        | zero => simp at hz; subst hz; exact ⟨y, rfl, hx⟩
        | succ i => simpa using h2 i z (by simpa using hz)
theorem plainC_ext {w : World} {X X' : List Nat} {u : Value} {c : Cell} (hc : plainC c = true) (h : RepC w X u c) : RepC w X' u c := by
  cases h with
  | v u h => exact .v u h
  | sl => simp [plainC] at hc
theorem plainD {w : World} {X X' : List Nat} {u : Value} {v : AV} (hp : (match v with | .c x => plainC x | .agg cs => cs.all plainC | _ => false) = true) (h : RepD w X u v) : RepD w X' u v := by
  cases h with
  | c h => exact .c (plainC_ext hp h)
  | agg h => exact .agg ⟨h.len, fun j u c a b => plainC_ext (List.all_eq_true.1 hp _ (List.mem_of_getElem? b)) (h.get j u c a b)⟩
theorem plainA_ext {w : World} {X X' : List Nat} {u : Value} {r : AV} (hp : plainA r = true) (h : RepR w X u r) : RepR w X' u r := by
  cases h with
  | d h =>
    cases h with
    | c h => exact .d (plainD (v := .c _) hp (.c h))
    | agg h => exact .d (plainD (v := .agg _) hp (.agg h))
  | tup hl h =>
    refine .tup hl fun i u v a b => ?_
    have := List.all_eq_true.1 hp _ (List.mem_of_getElem? b)
    exact plainD this (h i u v a b)
theorem RepR.v {w : World} {X : List Nat} {M : MM} {u : Value} {r : AV} (h : RepR w X u r) : RepV w X M u r := by
  cases h with
  | d h => exact .d h
  | tup hl h => exact .tup hl h
theorem ops_rep (h : Sta N w0 X0 S M a w e b) {l : List Operand} {vs : List AV} (hv : mapO (fun x => ae e x) l = some vs) :
    (l.map a.eval).length = vs.length ∧ ∀ (i : Nat) u v, (l.map a.eval)[i]? = some u → vs[i]? = some v → RepV w (bl S ++ X0) M u v := by
  obtain ⟨h1, h2⟩ := mapO_ok hv
  refine ⟨by simp [h1], fun i u v hu hv' => ?_⟩
  rw [List.getElem?_map] at hu
  cases hx : l[i]? with
  | none => simp [hx] at hu
  | some x =>
    simp [hx] at hu
    subst hu
    obtain ⟨y, q1, q2⟩ := h2 i x hx
    rw [hv'] at q1
    cases q1
    exact h.ev q2
theorem fnOf_some {u : Value} {f : FuncId} (h : fnOf u = some f) : u = .func (.func f) #[] #[] := by
  unfold fnOf at h
  split at h
  · rename_i f' a c
    split at h
    · rename_i h1 h2
      cases h
      have e1 : a = #[] := Array.ext' (by simpa using h1)
      have e2 : c = #[] := Array.ext' (by simpa using h2)
      rw [e1, e2]
    · cases h
  · cases h
theorem fnA_some {x : Operand} {f : FuncId} (h : Sta N w0 X0 S M a w e b) (hf : fnA e x = some f) : a.eval x = .func (.func f) #[] #[] := by
  unfold fnA at hf
  split at hf
  · rename_i u hu
    have e1 := fnOf_some hf
    subst e1
    have e2 := h.ev hu
    generalize a.eval x = y at e2 ⊢
    cases e2 with
    | d hd => cases hd with
      | c hc => cases hc; rfl
  · cases hf
theorem ex_callv {ρ : Operand → Value} {P : Program} {w : World} {d : Option Nat} {ty : TypeId} {pos : String} {af : Array Edge} {gd : Option (Nat × Bool)} {f : FuncId} {x : Operand} {xs : Array Operand} {ts : Array TypeId} {vs : Array Value} (hf : hasBody P f = true) (hv : xs.map ρ = vs) (hfn : ρ x = .func (.func f) #[] #[]) :
    (execOp ρ ⟨d, .call ⟨.value x, xs, ts⟩, ty, pos, af, gd⟩).run P w = .ok (.enter f vs) w := by
  unfold hasBody at hf
  cases hq : P.funcs[f]? with
  | none => simp [hq] at hf
  | some fn =>
    simp only [hq, Bool.and_eq_true, Bool.not_eq_true'] at hf
    obtain ⟨h1, h2⟩ := hf
    have h2' : ¬ fn.name = "runtime.NumGoroutine" := by simpa using h2
    cases hb : fn.body with
    | none => simp [hb] at h1
    | some c => simp [execOp, resolve, hfn, Deferred.ofValue, invoke, callFunc, hq, h2', hb, hv]
theorem call_fn {f : FuncId} {x : Operand} (hx : fnA e x = some f) {xs : Array Operand} {ts : Array TypeId} {vs : List AV} (h : Sta N w0 X0 S M a w e b) (hv : mapO (fun x => ae e x) xs.toList = some vs)
    (hk : argsK vs b fun as fz => CallP (Den P) f as fun r => k r (match plainA r with | true => [] | false => fz)) : Good P w0 X0 S M a w ⟨d, .call ⟨.value x, xs, ts⟩, ty, pos, af, gd⟩ k := by
  obtain ⟨hl, hr⟩ := ops_rep h hv
  obtain ⟨as, fz, S1, M1, ⟨r, hden, hk1⟩, hm1, hc1, ⟨hl1, hr1⟩, _⟩ := argsK_ok h hl hr hk
  obtain ⟨hb, hd⟩ := hden.old (noTup_rep hl1 hr1)
  have h1 := h.chg hm1 hc1
  have hcall := hd w (bl S1 ++ X0) (xs.toList.map a.eval) h1.bnd hl1 hr1
  refine ⟨r, _, hk1, .inr (.inr ⟨f, (xs.toList.map a.eval).toArray, ex_callv hb (Array.ext' (by simp)) (fnA_some h hx), hcall.mono ?_⟩)⟩
  rintro en w' ⟨u, rfl, hR, hB⟩
  refine ⟨u, rfl, ?_⟩
  cases hp : plainA r with
  | true =>
    have hext := Ext.call (bl S ++ X0) hB
    exact ⟨S, M, h.ms.call hB, hext, (plainA_ext hp hR).v, fun _ _ => rfl, fun i m hm _ => ⟨m, hm, Comp.refl m⟩, fun i x hx => by simp at hx⟩
  | false =>
    have hext := Ext.call (bl S1 ++ X0) hB
    exact ((hc1.ext_ hext).al).post (hm1.call hB) hR.v

theorem RepV.ptr_i {w : World} {X : List Nat} {M : MM} {u : Value} {i o : Nat} (h : RepV w X M u (.ptr i o)) : ∃ m g, M i = some m ∧ m.isVar = true ∧ m.g = some g ∧ u = .pointer (some ⟨g, o, none⟩) := by
  cases h with
  | d h => exact nomatch h
  | ptr hm hv hg => exact ⟨_, _, hm, hv, hg, rfl⟩
theorem callR_some {i : Nat} {k : AV → Bxs → Prop} {r : AV} (h : callR i k r) : ∃ cs v, r = .tup [.agg cs, v] ∧ plainA v = true ∧ k v [(i, .var cs)] := by
  unfold callR at h
  split at h
  · rename_i cs v
    cases hv : plainA v with
    | true => rw [hv] at h; exact ⟨cs, v, rfl, hv, h⟩
    | false => rw [hv] at h; exact False.elim h
  · exact False.elim h
theorem callW_some {D : FuncId → List AV → AV → Prop} {f : FuncId} {i : Nat} {vs : List AV} {bx : Bxs} {k : AV → Bxs → Prop} (h : callW D f i vs bx k) :
    ∃ cs, ld i bx = some (.var cs) ∧ argsK vs bx fun as fz => (match fz with | [] => CallP D f (.tup [.agg cs] :: as) (callR i k) | _ :: _ => False) := by
  unfold callW at h
  split at h
  · rename_i cs hc; exact ⟨cs, hc, h⟩
  · exact False.elim h
theorem ptrHead_some {vs r : List AV} {i : Nat} (h : ptrHead vs = some (i, r)) : vs = .ptr i 0 :: r := by
  unfold ptrHead at h
  split at h
  · cases h; rfl
  · cases h
theorem call_fnw {f : FuncId} {x : Operand} (hx : fnA e x = some f) {xs : Array Operand} {ts : Array TypeId} {vs : List AV} {i : Nat} (h : Sta N w0 X0 S M a w e b) (hv : mapO (fun x => ae e x) xs.toList = some (.ptr i 0 :: vs))
    (hk : callW (Den P) f i vs b k) : Good P w0 X0 S M a w ⟨d, .call ⟨.value x, xs, ts⟩, ty, pos, af, gd⟩ k := by
  obtain ⟨cs, hbx, hk⟩ := callW_some hk
  obtain ⟨hl, hr⟩ := ops_rep h hv
  obtain ⟨u0, us, hus⟩ : ∃ u0 us, xs.toList.map a.eval = u0 :: us := by
    cases hq : xs.toList.map a.eval with
    | nil => rw [hq] at hl; simp at hl
    | cons u0 us => exact ⟨u0, us, rfl⟩
  rw [hus] at hl hr
  obtain ⟨m, g, hm, hmv, hg, rfl⟩ := (hr 0 _ _ rfl rfl).ptr_i
  obtain ⟨as, fz, S1, M1, hk1, hm1, hc1, ⟨hl1, hr1⟩, _⟩ := argsK_ok h (us := us) (by simpa using hl) (fun j u v hu hv' => hr (j + 1) u v (by simpa using hu) (by simpa using hv')) hk
  match fz, hk1, hc1 with
  | _ :: _, hk1, _ => exact False.elim hk1
  | [], ⟨r, hden, hkr⟩, hc1 =>
  obtain ⟨cs', r', rfl, hpl, hk2⟩ := callR_some hkr
  obtain ⟨hb, hd⟩ : DenW P f cs as cs' r' := hden
  have h1 := h.chg hm1 hc1
  have hM1 : M1 i = some m := (hc1.same i (by simp)).trans hm
  obtain ⟨m', hm', q1, q2, _, q4⟩ := h1.box i _ hbx
  rw [hM1] at hm'
  cases hm'
  have hrow := h1.row hM1 q2 hg
  have hcall := hd w (bl S1 ++ X0) g m.T m.us us h1.bnd hrow q4 hl1 hr1
  refine ⟨r', _, hk2, .inr (.inr ⟨f, (.pointer (some ⟨g, 0, none⟩) :: us).toArray, ex_callv hb (Array.ext' (by simpa using hus)) (fnA_some h hx), hcall.mono ?_⟩)⟩
  rintro en w' ⟨u, rfl, hR, hgr, us', hn, hL⟩
  refine ⟨u, rfl, ?_⟩
  obtain ⟨S', hms, hbl⟩ := hm1.write hM1 q2 hg hgr hn
  have hgin : g ∈ bl S1 ++ X0 := List.mem_append_left _ (List.mem_map.2 ⟨_, hm1.inS i m hM1 q2 g hg, rfl⟩)
  have hext : Ext w (bl S1 ++ X0) w' (bl S' ++ X0) := by rw [hbl]; exact Ext.write hgr hgin
  have hc2 : Chg w (bl S1 ++ X0) M1 w' (bl S' ++ X0) (M1.set i { m with us := us' }) (alO ⟨d, .call ⟨.value x, xs, ts⟩, ty, pos, af, gd⟩) [(i, .var cs')] := by
    refine ⟨hext, fun c hc => MM.set_other _ _ (by simpa using hc), fun c mc hc _ => ?_, fun c z hz => ?_⟩
    · by_cases hci : c = i
      · subst hci
        rw [hM1] at hc
        cases hc
        exact ⟨_, MM.set_same _ _ _, rfl, fun _ => rfl, fun h0 => by rw [q1] at h0; cases h0⟩
      · exact ⟨mc, by rw [MM.set_other _ _ hci, hc], Comp.refl _⟩
    · simp only [List.mem_singleton, Prod.mk.injEq] at hz
      obtain ⟨rfl, rfl⟩ := hz
      exact ⟨_, MM.set_same _ _ _, q1, q2, ⟨g, hg⟩, by rw [hbl]; exact hL⟩
  have hR' : RepR w' (bl S' ++ X0) u r' := by rw [hbl]; exact hR
  exact (hc1.trans hc2 (fun c _ => by simp)).post hms hR'.v
theorem ops_get (h : Sta N w0 X0 S M a w e b) {xs : Array Operand} {vs : List AV} (hv : mapO (fun x => ae e x) xs.toList = some vs) : ∃ us : List Value, xs.map a.eval = us.toArray ∧ us.length = vs.length ∧ ∀ (i : Nat) u v, us[i]? = some u → vs[i]? = some v → RepV w (bl S ++ X0) M u v := by
  obtain ⟨h1, h2⟩ := ops_rep h hv
  exact ⟨_, Array.ext' (by simp), h1, h2⟩
theorem call_len {x : AV} {n : Nat} {xs : Array Operand} {t : TypeId} {e' : TypeId} {s by_ : Nat} {z : List Cell} (ht : tiOk P t (.slice e' s by_ z) = true) (h : Sta N w0 X0 S M a w e b) (hv : mapO (fun x => ae e x) xs.toList = some [x])
    (hx : ∀ u, RepV w (bl S ++ X0) M u x → ∃ A c, u = .slice A n c) (hk : k (.int .i64 (n : Nat)) []) : Good P w0 X0 S M a w ⟨d, .call ⟨.builtin .len, xs, #[t]⟩, ty, pos, af, gd⟩ k := by
  obtain ⟨us, hu, hl, hr⟩ := ops_get h hv
  obtain ⟨u, rfl⟩ : ∃ u, us = [u] := by
    match us, hl with
    | [u], _ => exact ⟨u, rfl⟩
  obtain ⟨A, c, rfl⟩ := hx u (hr 0 u x rfl rfl)
  obtain ⟨_, hsl, _⟩ := sliceT ht
  refine .val h.ms hk (u := .int .i64 n) ?_ (.d (.c (.v _ rfl)))
  have hsl' : P.underlying t = some (.slice e') := by
    unfold sliceOf at hsl
    split at hsl
    · rename_i q hq
      cases hi : P.info? q with
      | none => simp [hi] at hsl
      | some j => simp [hi] at hsl; rw [hq, hsl.1]
    · cases hsl
  simp [execOp, resolve, invoke, builtin, hu, Builtin.len_, run_underlying hsl', goInt]
theorem intA_some {v : AV} {n : Int} (h : intA v = some n) : ∃ ki, v = .c (.v (.int ki n)) := by
  unfold intA at h
  split at h
  · cases h; exact ⟨_, rfl⟩
  · cases h
theorem ints_of {us : List Value} {vs : List AV} {ns : List Int} (hl : us.length = vs.length) (hr : ∀ (i : Nat) u v, us[i]? = some u → vs[i]? = some v → RepV w (bl S ++ X0) M u v) (hn : mapO intA vs = some ns) :
    us.length = ns.length ∧ ∀ (i : Nat) u n, us[i]? = some u → ns[i]? = some n → ∃ ki, u = .int ki n := by
  obtain ⟨h1, h2⟩ := mapO_ok hn
  refine ⟨by omega, fun i u n hu hni => ?_⟩
  have hi : i < vs.length := by rw [← hl]; exact (List.getElem?_eq_some_iff.1 hu).1
  obtain ⟨m, q1, q2⟩ := h2 i _ (List.getElem?_eq_getElem hi)
  rw [hni] at q1
  cases q1
  obtain ⟨ki, hv⟩ := intA_some q2
  have := hr i u _ hu (List.getElem?_eq_getElem hi)
  rw [hv] at this
  exact ⟨ki, this.v_⟩
theorem fold_min (ki : IntKind) : ∀ (us : List Value) (ns : List Int) (a : Int), us.length = ns.length → (∀ (i : Nat) u n, us[i]? = some u → ns[i]? = some n → ∃ ki, u = .int ki n) → (us.foldlM Builtin.min2 (.int ki a)).run P w = .ok (.int ki (ns.foldl (fun x y => if y < x then y else x) a)) w
  | [], [], a, _, _ => by simp
  | u :: us, n :: ns, a, hl, h => by
    obtain ⟨kj, rfl⟩ := h 0 u n rfl rfl
    simp only [List.foldlM_cons, Sem.run_bind, Builtin.min2, Sem.run_pure, Result.andThen_ok, List.foldl_cons]
    exact fold_min ki us ns _ (by simpa using hl) (fun i u n a b => h (i + 1) u n (by simpa using a) (by simpa using b))
  | [], _ :: _, _, h, _ => by simp at h
  | _ :: _, [], _, h, _ => by simp at h
theorem fold_max (ki : IntKind) : ∀ (us : List Value) (ns : List Int) (a : Int), us.length = ns.length → (∀ (i : Nat) u n, us[i]? = some u → ns[i]? = some n → ∃ ki, u = .int ki n) → (us.foldlM Builtin.max2 (.int ki a)).run P w = .ok (.int ki (ns.foldl (fun x y => if y > x then y else x) a)) w
  | [], [], a, _, _ => by simp
  | u :: us, n :: ns, a, hl, h => by
    obtain ⟨kj, rfl⟩ := h 0 u n rfl rfl
    simp only [List.foldlM_cons, Sem.run_bind, Builtin.max2, Sem.run_pure, Result.andThen_ok, List.foldl_cons]
    exact fold_max ki us ns _ (by simpa using hl) (fun i u n a b => h (i + 1) u n (by simpa using a) (by simpa using b))
  | [], _ :: _, _, h, _ => by simp at h
  | _ :: _, [], _, h, _ => by simp at h
theorem call_minmax {xs : Array Operand} {ts : Array TypeId} {ns : List Int} {n0 n1 : Int} {ki : IntKind} {r : List AV} (mx : Bool) (h : Sta N w0 X0 S M a w e b) (hv : mapO (fun x => ae e x) xs.toList = some (.c (.v (.int ki n1)) :: r)) (hn : mapO intA (.c (.v (.int ki n1)) :: r) = some (n0 :: ns))
    (hk : k (.int ki (ns.foldl (fun x y => if (if mx then y > x else y < x) then y else x) n0)) []) : Good P w0 X0 S M a w ⟨d, .call ⟨.builtin (if mx then .max else .min), xs, ts⟩, ty, pos, af, gd⟩ k := by
  obtain ⟨us, hu, hl, hr⟩ := ops_get h hv
  obtain ⟨g1, g2⟩ := ints_of hl hr hn
  cases us with
  | nil => simp at g1
  | cons u us =>
    have hu0 := (hr 0 u _ rfl rfl).v_
    subst hu0
    obtain ⟨kj, hk0⟩ := g2 0 _ n0 rfl rfl
    injection hk0 with _ hk1
    subst hk1
    refine .val h.ms hk (u := .int ki _) ?_ (.d (.c (.v _ rfl)))
    cases mx with
    | true =>
      have := fold_max (P := P) (w := w) ki us ns n1 (by simpa using g1) (fun i u n a b => g2 (i + 1) u n (by simpa using a) (by simpa using b))
      simp [execOp, resolve, invoke, builtin, hu, Builtin.max_, this]
    | false =>
      have := fold_min (P := P) (w := w) ki us ns n1 (by simpa using g1) (fun i u n a b => g2 (i + 1) u n (by simpa using a) (by simpa using b))
      simp [execOp, resolve, invoke, builtin, hu, Builtin.min_, this]
end
end Go.Sw
