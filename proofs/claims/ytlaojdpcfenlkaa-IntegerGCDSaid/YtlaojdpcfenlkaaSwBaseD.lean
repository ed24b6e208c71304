/-
  Limbs and integers in memory, and the operations on slices.
  Conditions: none; every law is for any program.
-/
import Derived.Test.YtlaojdpcfenlkaaSwBaseC
namespace Go.Sw
open Go Go.RowKit

theorem args1 {a : Act} {x : Operand} {u : Value} (h : a.eval x = u) : #[x].map a.eval = #[u] := by simp [h]
theorem args2 {a : Act} {x y : Operand} {u v : Value} (h : a.eval x = u) (k : a.eval y = v) : #[x, y].map a.eval = #[u, v] := by simp [h, k]
theorem args3 {a : Act} {x y z : Operand} {u v t : Value} (h : a.eval x = u) (k : a.eval y = v) (m : a.eval z = t) : #[x, y, z].map a.eval = #[u, v, t] := by simp [h, k, m]
theorem args4 {a : Act} {x y z p : Operand} {u v t q : Value} (h : a.eval x = u) (k : a.eval y = v) (m : a.eval z = t) (n : a.eval p = q) : #[x, y, z, p].map a.eval = #[u, v, t, q] := by simp [h, k, m, n]
theorem args0 {a : Act} : (#[] : Array Operand).map a.eval = #[] := by simp

theorem lk_int {L : List (Nat × Value)} {t : Nat} {k : IntKind} {a b : Int} (h : lk t L = some (.int k a)) (e : a = b) : lk t L = some (.int k b) := by rw [h, e]
theorem lk_bool {L : List (Nat × Value)} {t : Nat} {a b : Bool} (h : lk t L = some (.bool a)) (e : a = b) : lk t L = some (.bool b) := by rw [h, e]
theorem lk_slice {L : List (Nat × Value)} {t : Nat} {A : Option Addr} {n n' c : Nat} (h : lk t L = some (.slice A n c)) (e : n = n') : lk t L = some (.slice A n' c) := by rw [h, e]

/-! ### Wraps of numbers in their range -/
theorem wi64 {a : Int} (h1 : -9223372036854775808 ≤ a) (h2 : a ≤ 9223372036854775807) : IntKind.i64.wrap a = a := by rw [IntKind.wrap_i64]; omega
theorem wu32 {a : Int} (h1 : 0 ≤ a) (h2 : a ≤ 4294967295) : IntKind.u32.wrap a = a := by rw [IntKind.wrap_u32]; omega
theorem wu64 {a : Int} (h1 : 0 ≤ a) (h2 : a ≤ 18446744073709551615) : IntKind.u64.wrap a = a := by rw [IntKind.wrap_u64]; omega
theorem wu8 {a : Int} (h1 : 0 ≤ a) (h2 : a ≤ 255) : IntKind.u8.wrap a = a := by rw [IntKind.wrap_u8]; omega

/-! ### Limbs -/
def u32 (x : Nat) : Value := .int .u32 (x : Int)
def us (l : List Nat) : List Value := l.map u32
theorem us_get {l : List Nat} {i : Nat} (h : i < l.length) : (us l)[i]? = some (.int .u32 (l.getD i 0 : Nat)) := by
  simp [us, u32, List.getElem?_eq_getElem h]
theorem us_one (l : List Nat) : ∀ u ∈ us l, u.oneCell' = true := by
  intro u hu
  obtain ⟨x, _, rfl⟩ := List.mem_map.1 hu
  rfl
@[simp] theorem us_length (l : List Nat) : (us l).length = l.length := by simp [us]

structure UC (w : World) (X : List Nat) (A : Option Addr) (c : Nat) (l : List Nat) : Prop where
  cl : Cl w X A (us l)
  len : l.length ≤ c
  cap : c ≤ 9223372036854775807
def UL (w : World) (X : List Nat) (v : Value) (l : List Nat) : Prop := ∃ A n c, v = .slice A n c ∧ n = l.length ∧ UC w X A c l
theorem UC.ext {w w' : World} {X X' : List Nat} {A : Option Addr} {c : Nat} {l : List Nat} (h : UC w X A c l) (e : Ext w X w' X') : UC w' X' A c l := ⟨h.cl.ext e, h.len, h.cap⟩
theorem UL.ext {w w' : World} {X X' : List Nat} {v : Value} {l : List Nat} (h : UL w X v l) (e : Ext w X w' X') : UL w' X' v l := by
  obtain ⟨A, n, c, rfl, hn, h⟩ := h
  exact ⟨A, n, c, rfl, hn, h.ext e⟩
/-- At a call's end: what is said of the list, over fewer blocks. -/
theorem UL.fin {w : World} {X X' : List Nat} {v : Value} {L l : List Nat} (h : UL w X v L) (e : L = l) (hx : ∀ x ∈ X', x ∈ X) : UL w X' v l := by
  subst e
  exact h.ext (Ext.drop hx)
theorem UL.nil_ (w : World) (X : List Nat) : UL w X (.slice none 0 0) [] := ⟨none, 0, 0, rfl, rfl, ⟨Cl.nil _ _ _, Nat.le_refl _, by omega⟩⟩
theorem UC.take {w : World} {X : List Nat} {A : Option Addr} {c : Nat} {l : List Nat} (h : UC w X A c l) (n : Nat) : UC w X A c (l.take n) :=
  ⟨by have := h.cl.take n; simpa [us, List.map_take] using this, by have := h.len; simp; omega, h.cap⟩
theorem UC.take_cap {w : World} {X : List Nat} {A : Option Addr} {c : Nat} {l : List Nat} (h : UC w X A c l) {n m : Nat} (hn : n ≤ m) (hm : m ≤ c) : UC w X A m (l.take n) :=
  ⟨(h.take n).cl, by simp; omega, Nat.le_trans hm h.cap⟩
theorem UC.nil {w : World} {X : List Nat} {A : Option Addr} {c : Nat} (hc : c ≤ 9223372036854775807) : UC w X A c [] := ⟨Cl.nil _ _ _, Nat.zero_le _, hc⟩
theorem UC.drop {w : World} {X : List Nat} {A : Option Addr} {c : Nat} {l : List Nat} (h : UC w X A c l) (n : Nat) : UC w X (if c = n then A else A.map (·.add n)) (c - n) (l.drop n) := by
  have hl := h.len
  have hc := h.cap
  refine ⟨?_, by simp; omega, by omega⟩
  split
  · rename_i e
    have : l.drop n = [] := List.drop_eq_nil_of_le (by omega)
    rw [this]
    exact Cl.nil _ _ _
  · have := h.cl.drop n
    simpa [us, List.map_drop] using this

/-! ### Integers: any fields; valid ones -/
def RawC (w : World) (X : List Nat) (cs : Array Value) (neg : Bool) (l : List Nat) : Prop := ∃ A c, cs = #[.bool neg, .slice A l.length c] ∧ UC w X A c l
theorem RawC.ext {w w' : World} {X X' : List Nat} {cs : Array Value} {neg : Bool} {l : List Nat} (h : RawC w X cs neg l) (e : Ext w X w' X') : RawC w' X' cs neg l := by
  obtain ⟨A, c, rfl, h⟩ := h
  exact ⟨A, c, rfl, h.ext e⟩

def RawV (w : World) (X : List Nat) (v : Value) (neg : Bool) (l : List Nat) : Prop := ∃ cs, v = .agg cs ∧ RawC w X cs neg l
theorem RawV.fin {w : World} {X X' : List Nat} {v : Value} {L l : List Nat} {b neg : Bool} (h : UL w X v L) (hb : b = neg) (e : L = l) (hx : ∀ x ∈ X', x ∈ X) : RawV w X' (.agg #[.bool b, v]) neg l := by
  subst e hb
  obtain ⟨A, n, c, rfl, rfl, h⟩ := h
  exact ⟨_, rfl, A, c, rfl, h.ext (Ext.drop hx)⟩

section
variable {P : Program} {ρ : Operand → Value} {w : World} {d : Option Tmp} {ty : TypeId} {pos : String} {af : Array Edge} {gd : Option (Nat × Bool)}
/-- The address of an element of one cell. -/
theorem ex_idx {t e : TypeId} {x y : Operand} {A : Option Addr} {ad : Addr} {n c : Nat} {k : IntKind} {i : Int} {j : Nat} (ht : sliceOf P t = some (e, 1)) (hx : ρ x = .slice A n c) (hA : A = some ad) (hy : ρ y = .int k i) (hi : i = (j : Nat)) (h1 : j < n) :
    (execOp ρ ⟨d, .indexAddr t x y, ty, pos, af, gd⟩).run P w = .ok (.value (.pointer (some (ad.add j)))) w := by
  subst hA
  subst hi
  have := ex_index_addr (w := w) (d := d) (ty := ty) (pos := pos) (af := af) (gd := gd) ht hx hy (by omega) (by omega)
  simpa using this
theorem run_slice_core {t e : TypeId} {s : Nat} (ht : sliceOf P t = some (e, s)) {A : Option Addr} {n c : Nat} {lo hi mx : Option Value} {l h m : Nat}
    (hb : (Instr.sliceBounds true n c lo hi mx).run P w = .ok (l, h, m) w) : (Instr.sliceAt t (.slice A n c) lo hi mx).run P w = .ok (sliced A l h m s) w := by
  unfold sliceOf at ht
  split at ht
  · rename_i e' he
    cases hq : P.info? e' with
    | none => simp [hq] at ht
    | some j =>
      simp only [hq, Option.map_some, Option.some.injEq, Prod.mk.injEq] at ht
      obtain ⟨rfl, rfl⟩ := ht
      simp [Instr.sliceAt, Instr.slice, run_underlying he, hb, sizeOf, typeInfo, hq, sliced]
  · cases ht
theorem map_add_zero (A : Option Addr) : A.map (·.add 0) = A := by cases A <;> simp [Addr.add]
/-- x[:h] -/
theorem ex_slice_h {t e : TypeId} {s : Nat} {x y : Operand} {A : Option Addr} {n c : Nat} {k : IntKind} {i : Int} {j : Nat} (ht : sliceOf P t = some (e, s)) (hx : ρ x = .slice A n c) (hy : ρ y = .int k i) (hi : i = (j : Nat)) (h1 : j ≤ c) :
    (execOp ρ ⟨d, .slice t x none (some y) none, ty, pos, af, gd⟩).run P w = .ok (.value (.slice A j c)) w := by
  subst hi
  have hb : (Instr.sliceBounds true n c none (some (.int k (j : Int))) none).run P w = .ok (0, j, c) w := by
    simp [Instr.sliceBounds, run_sliceBound, h1]
  simp [execOp, hx, hy, run_slice_core ht hb, sliced, map_add_zero]
/-- x[:h:m] -/
theorem ex_slice_hm {t e : TypeId} {s : Nat} {x y z : Operand} {A : Option Addr} {n c : Nat} {k k' : IntKind} {i i' : Int} {j m : Nat} (ht : sliceOf P t = some (e, s)) (hx : ρ x = .slice A n c) (hy : ρ y = .int k i) (hz : ρ z = .int k' i') (hi : i = (j : Nat)) (hi' : i' = (m : Nat)) (h1 : j ≤ m) (h2 : m ≤ c) :
    (execOp ρ ⟨d, .slice t x none (some y) (some z), ty, pos, af, gd⟩).run P w = .ok (.value (.slice A j m)) w := by
  subst hi hi'
  have hb : (Instr.sliceBounds true n c none (some (.int k (j : Int))) (some (.int k' (m : Int)))).run P w = .ok (0, j, m) w := by
    simp [Instr.sliceBounds, run_sliceBound, h1, h2]
  simp [execOp, hx, hy, hz, run_slice_core ht hb, sliced, map_add_zero]
/-- x[l:] -/
theorem ex_slice_l {t e : TypeId} {x y : Operand} {A : Option Addr} {n c : Nat} {k : IntKind} {i : Int} {j : Nat} (ht : sliceOf P t = some (e, 1)) (hx : ρ x = .slice A n c) (hy : ρ y = .int k i) (hi : i = (j : Nat)) (h1 : j ≤ n) :
    (execOp ρ ⟨d, .slice t x (some y) none none, ty, pos, af, gd⟩).run P w = .ok (.value (.slice (if c = j then A else A.map (·.add j)) (n - j) (c - j))) w := by
  subst hi
  have hb : (Instr.sliceBounds true n c (some (.int k (j : Int))) none none).run P w = .ok (j, n, c) w := by
    simp [Instr.sliceBounds, run_sliceBound, h1]
  simp [execOp, hx, hy, run_slice_core ht hb, sliced]
/-- x[l:h] -/
theorem ex_slice_lh {t e : TypeId} {x y z : Operand} {A : Option Addr} {n c : Nat} {k k' : IntKind} {i i' : Int} {j m : Nat} (ht : sliceOf P t = some (e, 1)) (hx : ρ x = .slice A n c) (hy : ρ y = .int k i) (hz : ρ z = .int k' i') (hi : i = (j : Nat)) (hi' : i' = (m : Nat)) (h1 : j ≤ m) (h2 : m ≤ c) :
    (execOp ρ ⟨d, .slice t x (some y) (some z) none, ty, pos, af, gd⟩).run P w = .ok (.value (.slice (if c = j then A else A.map (·.add j)) (m - j) (c - j))) w := by
  subst hi hi'
  have hb : (Instr.sliceBounds true n c (some (.int k (j : Int))) (some (.int k' (m : Int))) none).run P w = .ok (j, m, c) w := by
    simp [Instr.sliceBounds, run_sliceBound, h1, h2]
  simp [execOp, hx, hy, hz, run_slice_core ht hb, sliced]

/-- A struct of two fields of one cell each. -/
def two1 (P : Program) (t : TypeId) : Bool :=
  match P.underlying t, P.info? t with
  | some (.struct fs), some i => decide (fs.toList.map (·.offset) = [0, 1]) && decide (fs.toList.map (fun f => (P.info? f.type).map (·.size)) = [some 1, some 1]) && decide (i.zero.map (fun z => z.cells.size) = some 2)
  | _, _ => false
theorem ex_build2 {t : TypeId} {x y : Operand} {u v : Value} (ht : two1 P t = true) (hx : ρ x = u) (hy : ρ y = v) (hu : u.cells = #[u]) (hv : v.cells = #[v]) :
    (execOp ρ ⟨d, .build t #[(0, x), (1, y)], ty, pos, af, gd⟩).run P w = .ok (.value (.agg #[u, v])) w := by
  unfold two1 at ht
  split at ht
  · rename_i fs i hs hi
    simp only [Bool.and_eq_true, decide_eq_true_eq] at ht
    obtain ⟨⟨h1, h2⟩, h3⟩ := ht
    obtain ⟨l⟩ := fs
    obtain ⟨f0, f1, rfl⟩ : ∃ f0 f1, l = [f0, f1] := by
      have hl : l.length = 2 := by have := congrArg List.length h1; simpa using this
      match l, hl with
      | [f0, f1], _ => exact ⟨f0, f1, rfl⟩
    simp only [List.map_cons, List.map_nil, List.cons.injEq, and_true] at h1 h2
    cases hz : i.zero with
    | none => simp [hz] at h3
    | some z =>
      simp only [hz, Option.map_some, Option.some.injEq] at h3
      cases q0 : P.info? f0.type with
      | none => simp [q0] at h2
      | some i0 =>
        cases q1 : P.info? f1.type with
        | none => simp [q1] at h2
        | some i1 =>
          simp only [q0, q1, Option.map_some, Option.some.injEq] at h2
          obtain ⟨z0, z1, hzc⟩ : ∃ z0 z1, z.cells = #[z0, z1] := by
            generalize z.cells = zc at h3
            obtain ⟨c⟩ := zc
            have h3' : c.length = 2 := by simpa using h3
            match c, h3' with
            | [z0, z1], _ => exact ⟨z0, z1, rfl⟩
          simp [execOp, hx, hy, Instr.build, zeroValue, typeInfo, hi, hz, hzc, run_underlying hs, sizeOf, q0, q1, h1.1, h1.2, h2.1, h2.2, Instr.fill, hu, hv]
  · exact absurd ht (by simp)
theorem ex_build0 {t : TypeId} {n : Nat} {z : Array Value} (ht : isRow P t n = true) (hst : (match P.underlying t with | some (.struct _) => true | _ => false) = true) (hz : zeroOf P t = some z) (hfs : (match P.underlying t with | some (.struct fs) => fs.all fun f => (P.info? f.type).isSome | _ => false) = true) :
    (execOp ρ ⟨d, .build t #[], ty, pos, af, gd⟩).run P w = .ok (.value (.agg z)) w := by
  unfold zeroOf at hz
  cases hq : P.info? t with
  | none => simp [hq] at hz
  | some i =>
    cases hzz : i.zero with
    | none => simp [hq, hzz] at hz
    | some v =>
      simp [hq, hzz] at hz
      subst hz
      cases hu : P.underlying t with
      | none => simp [hu] at hst
      | some dd =>
        cases dd <;> simp [hu] at hst
        rename_i fs
        have hm : ∀ (l : List Field), (l.all fun f => (P.info? f.type).isSome) = true → ∃ r, (l.mapM (m := Sem) fun f => Prod.mk f.offset <$> sizeOf f.type).run P w = .ok r w := by
          intro l
          induction l with
          | nil => intro _; exact ⟨_, by simp; rfl⟩
          | cons f l ih =>
            intro h
            simp only [List.all_cons, Bool.and_eq_true] at h
            obtain ⟨r, hr⟩ := ih h.2
            cases hf : P.info? f.type with
            | none => simp [hf] at h
            | some j => exact ⟨(f.offset, j.size) :: r, by
              have h1 : (Prod.mk f.offset <$> sizeOf f.type).run P w = .ok (f.offset, j.size) w := by simp [sizeOf, typeInfo, hf]
              rw [List.mapM_cons, Sem.run_bind, h1]
              simp only [Result.andThen_ok, Sem.run_bind, hr, Sem.run_pure]⟩
        obtain ⟨r, hr⟩ := hm fs.toList (by simpa [hu] using hfs)
        have hr' : (fs.mapM (m := Sem) fun f => Prod.mk f.offset <$> sizeOf f.type).run P w = .ok r.toArray w := by
          rw [Array.mapM_eq_mapM_toList]
          simp [hr]
        simp only [execOp, Instr.build, zeroValue, typeInfo, Sem.run_bind]
        simp [hq, hzz, run_underlying hu, hr', Instr.fill]
end
end Go.Sw
