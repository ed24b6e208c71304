/-
  One law for each operation: what its run gives where its operands are known.
  Conditions: none; every law is for any program.
-/
import Derived.Test.YtlaojdpcfenlkaaSwBaseA
namespace Go.Sw
open Go Go.RowKit

/-! ### Closed facts on types -/
def isRow (P : Program) (t : TypeId) (n : Nat) : Bool :=
  (match P.underlying t with | some (.struct _) => true | some (.array _ _) => true | _ => false) && decide ((P.info? t).map (·.size) = some n)
def isOne (P : Program) (t : TypeId) : Bool :=
  (match P.underlying t with | some (.struct _) => false | some (.array _ _) => false | some _ => true | none => false) && decide ((P.info? t).map (·.size) = some 1)
def fieldOff (P : Program) (t : TypeId) (i : Nat) : Option Nat :=
  match P.underlying t with
  | some (.struct fs) => match fs[i]? with
    | some f => if (P.info? f.type).map (·.size) = some 0 then none else if (P.info? f.type).isSome then some f.offset else none
    | none => none
  | _ => none
def sliceOf (P : Program) (t : TypeId) : Option (TypeId × Nat) :=
  match P.underlying t with
  | some (.slice e) => (P.info? e).map fun i => (e, i.size)
  | _ => none
def zeroOf (P : Program) (t : TypeId) : Option (Array Value) := (P.info? t).bind fun i => i.zero.map Value.cells
def intOfT (P : Program) (t : TypeId) : Option IntKind := match P.underlying t with | some (.int k) => some k | _ => none

section
variable {P : Program} {ρ : Operand → Value} {w : World} {d : Option Tmp} {ty : TypeId} {pos : String} {af : Array Edge} {gd : Option (Nat × Bool)}

theorem ex_move {x : Operand} {v : Value} (hx : ρ x = v) : (execOp ρ ⟨d, .move x, ty, pos, af, gd⟩).run P w = .ok (.value v) w := by
  simp [execOp, hx]
theorem ex_assign {x : Operand} {v : Value} (hx : ρ x = v) : (execOp ρ ⟨d, .assign x, ty, pos, af, gd⟩).run P w = .ok (.value v) w := by
  simp [execOp, hx]
theorem ex_pick {c a b : Operand} {p : Bool} {u v r : Value} (hc : ρ c = .bool p) (ha : p = true → ρ a = u) (hb : p = false → ρ b = v) (hr : r = if p then u else v) :
    (execOp ρ ⟨d, .pick c a b, ty, pos, af, gd⟩).run P w = .ok (.value r) w := by
  subst hr
  cases p
  · simp [execOp, hc, asBool, hb rfl]
  · simp [execOp, hc, asBool, ha rfl]
theorem ex_add {t u : TypeId} {x y : Operand} {k : IntKind} {a b c : Int} (hx : ρ x = .int k a) (hy : ρ y = .int k b) (hc : k.wrap (a + b) = c) :
    (execOp ρ ⟨d, .binOp .add t x y u, ty, pos, af, gd⟩).run P w = .ok (.value (.int k c)) w := by
  simp [execOp, hx, hy, go_sem, Op.intArith, hc]
theorem ex_sub {t u : TypeId} {x y : Operand} {k : IntKind} {a b c : Int} (hx : ρ x = .int k a) (hy : ρ y = .int k b) (hc : k.wrap (a - b) = c) :
    (execOp ρ ⟨d, .binOp .sub t x y u, ty, pos, af, gd⟩).run P w = .ok (.value (.int k c)) w := by
  simp [execOp, hx, hy, go_sem, Op.intArith, hc]
theorem ex_mul {t u : TypeId} {x y : Operand} {k : IntKind} {a b c : Int} (hx : ρ x = .int k a) (hy : ρ y = .int k b) (hc : k.wrap (a * b) = c) :
    (execOp ρ ⟨d, .binOp .mul t x y u, ty, pos, af, gd⟩).run P w = .ok (.value (.int k c)) w := by
  simp [execOp, hx, hy, go_sem, Op.intArith, hc]
theorem ex_quo {t u : TypeId} {x y : Operand} {k : IntKind} {a b c : Int} (hx : ρ x = .int k a) (hy : ρ y = .int k b) (hb : b ≠ 0) (hc : k.wrap (a.tdiv b) = c) :
    (execOp ρ ⟨d, .binOp .quo t x y u, ty, pos, af, gd⟩).run P w = .ok (.value (.int k c)) w := by
  simp [execOp, hx, hy, go_sem, Op.intDiv, hb, hc]
theorem ex_rem {t u : TypeId} {x y : Operand} {k : IntKind} {a b c : Int} (hx : ρ x = .int k a) (hy : ρ y = .int k b) (hb : b ≠ 0) (hc : a.tmod b = c) :
    (execOp ρ ⟨d, .binOp .rem t x y u, ty, pos, af, gd⟩).run P w = .ok (.value (.int k c)) w := by
  simp [execOp, hx, hy, go_sem, Op.intDiv, hb, hc]
theorem ex_eql {t u : TypeId} {x y : Operand} {k : IntKind} {a b : Int} (hx : ρ x = .int k a) (hy : ρ y = .int k b) :
    (execOp ρ ⟨d, .binOp .eql t x y u, ty, pos, af, gd⟩).run P w = .ok (.value (.bool (decide (a = b)))) w := by
  simp [execOp, hx, hy, go_sem]; rfl
theorem ex_neq {t u : TypeId} {x y : Operand} {k : IntKind} {a b : Int} (hx : ρ x = .int k a) (hy : ρ y = .int k b) :
    (execOp ρ ⟨d, .binOp .neq t x y u, ty, pos, af, gd⟩).run P w = .ok (.value (.bool (!decide (a = b)))) w := by
  simp [execOp, hx, hy, go_sem, bne]; rfl
theorem ex_lss {t u : TypeId} {x y : Operand} {k : IntKind} {a b : Int} (hx : ρ x = .int k a) (hy : ρ y = .int k b) :
    (execOp ρ ⟨d, .binOp .lss t x y u, ty, pos, af, gd⟩).run P w = .ok (.value (.bool (decide (a < b)))) w := by
  simp [execOp, hx, hy, go_sem]
theorem ex_leq {t u : TypeId} {x y : Operand} {k : IntKind} {a b : Int} (hx : ρ x = .int k a) (hy : ρ y = .int k b) :
    (execOp ρ ⟨d, .binOp .leq t x y u, ty, pos, af, gd⟩).run P w = .ok (.value (.bool (decide (a ≤ b)))) w := by
  simp [execOp, hx, hy, go_sem]
theorem ex_gtr {t u : TypeId} {x y : Operand} {k : IntKind} {a b : Int} (hx : ρ x = .int k a) (hy : ρ y = .int k b) :
    (execOp ρ ⟨d, .binOp .gtr t x y u, ty, pos, af, gd⟩).run P w = .ok (.value (.bool (decide (a > b)))) w := by
  simp [execOp, hx, hy, go_sem]
theorem ex_geq {t u : TypeId} {x y : Operand} {k : IntKind} {a b : Int} (hx : ρ x = .int k a) (hy : ρ y = .int k b) :
    (execOp ρ ⟨d, .binOp .geq t x y u, ty, pos, af, gd⟩).run P w = .ok (.value (.bool (decide (a ≥ b)))) w := by
  simp [execOp, hx, hy, go_sem]
theorem run_equal_bool (t : TypeId) (h : P.underlying t = some .bool) (a b : Bool) : (Op.equal t (.bool a) (.bool b)).run P w = .ok (a == b) w := by
  unfold Op.equal
  show (Op.equalIn (9999 + 1) t _ _).run P w = _
  rw [Op.equalIn]
  simp [run_underlying h]
theorem ex_eqb {t u : TypeId} {x y : Operand} {a b : Bool} (ht : P.underlying t = some .bool) (hx : ρ x = .bool a) (hy : ρ y = .bool b) :
    (execOp ρ ⟨d, .binOp .eql t x y u, ty, pos, af, gd⟩).run P w = .ok (.value (.bool (a == b))) w := by
  simp [execOp, hx, hy, go_sem, binOp, run_equal_bool t ht]
theorem ex_neb {t u : TypeId} {x y : Operand} {a b : Bool} (ht : P.underlying t = some .bool) (hx : ρ x = .bool a) (hy : ρ y = .bool b) :
    (execOp ρ ⟨d, .binOp .neq t x y u, ty, pos, af, gd⟩).run P w = .ok (.value (.bool (a != b))) w := by
  simp [execOp, hx, hy, go_sem, binOp, run_equal_bool t ht, bne]
theorem ex_not {t : TypeId} {x : Operand} {a : Bool} (hx : ρ x = .bool a) : (execOp ρ ⟨d, .unOp .not t x, ty, pos, af, gd⟩).run P w = .ok (.value (.bool (!a))) w := by
  simp [execOp, hx, Op.unary]
theorem ex_neg {t : TypeId} {x : Operand} {k : IntKind} {a c : Int} (hx : ρ x = .int k a) (hc : k.wrap (0 - a) = c) : (execOp ρ ⟨d, .unOp .neg t x, ty, pos, af, gd⟩).run P w = .ok (.value (.int k c)) w := by
  simp only [Int.zero_sub] at hc
  simp [execOp, hx, Op.unary, Op.intArith, hc]
theorem ex_conv {src dst : TypeId} {x : Operand} {k k' : IntKind} {a c : Int} (hs : (P.underlying src).isSome = true) (hd : P.underlying dst = some (.int k')) (hx : ρ x = .int k a) (hc : k'.wrap a = c) :
    (execOp ρ ⟨d, .convert src dst x, ty, pos, af, gd⟩).run P w = .ok (.value (.int k' c)) w := by
  cases hq : P.underlying src with
  | none => simp [hq] at hs
  | some q => simp [execOp, hx, convert, run_underlying hq, run_underlying hd, Conv.intToInt, hc]
theorem ex_len {t : TypeId} {x : Operand} {A : Option Addr} {n c : Nat} (ht : (sliceOf P t).isSome = true) (hx : ρ x = .slice A n c) :
    (execOp ρ ⟨d, .call ⟨.builtin .len, #[x], #[t]⟩, ty, pos, af, gd⟩).run P w = .ok (.value (.int .i64 n)) w := by
  unfold sliceOf at ht
  split at ht
  · rename_i e he
    simp [execOp, hx, resolve, invoke, builtin, Builtin.len_, run_underlying he, goInt]
  · cases ht
theorem ex_lens {t : TypeId} {x : Operand} {s : ByteArray} (ht : P.underlying t = some .string) (hx : ρ x = .string s) :
    (execOp ρ ⟨d, .call ⟨.builtin .len, #[x], #[t]⟩, ty, pos, af, gd⟩).run P w = .ok (.value (.int .i64 s.size)) w := by
  simp [execOp, hx, resolve, invoke, builtin, Builtin.len_, run_underlying ht, goInt]
theorem ex_extract {x : Operand} {vs : Array Value} {i : Nat} {v : Value} (hx : ρ x = .tuple vs) (hv : vs[i]? = some v) :
    (execOp ρ ⟨d, .extract x i, ty, pos, af, gd⟩).run P w = .ok (.value v) w := by
  simp [execOp, hx, Instr.extract, hv]
theorem ex_field_addr {t : TypeId} {x : Operand} {i off g o : Nat} (ht : fieldOff P t i = some off) (hx : ρ x = .pointer (some ⟨g, o, none⟩)) :
    (execOp ρ ⟨d, .fieldAddr t x i, ty, pos, af, gd⟩).run P w = .ok (.value (.pointer (some ⟨g, o + off, none⟩))) w := by
  unfold fieldOff at ht
  split at ht
  · rename_i fs hf
    split at ht
    · rename_i f hi
      split at ht
      · cases ht
      · rename_i h0
        split at ht
        · rename_i hso
          simp only [Option.some.injEq] at ht
          subst ht
          cases hq : P.info? f.type with
          | none => simp [hq] at hso
          | some j =>
            have hj : ¬ j.size = 0 := by simpa [hq] using h0
            simp [execOp, hx, Instr.fieldAt, run_underlying hf, hi, Instr.sureAddr, fieldPlace, sizeOf, typeInfo, hq, hj, Addr.add_lit]
        · cases ht
    · cases ht
  · cases ht

theorem run_isAgg_row {t : TypeId} {n : Nat} (h : isRow P t n = true) : (isAgg t).run P w = .ok true w := by
  simp only [isRow, Bool.and_eq_true] at h
  have h1 := h.1
  unfold isAgg
  cases hu : P.underlying t with
  | none => simp [hu] at h1
  | some dd =>
    rw [Sem.run_bind, run_underlying hu w]
    cases dd <;> simp_all
theorem run_sizeOf_row {t : TypeId} {n : Nat} (h : isRow P t n = true) : (sizeOf t).run P w = .ok n w := by
  simp only [isRow, Bool.and_eq_true, decide_eq_true_eq] at h
  cases hq : P.info? t with
  | none => simp [hq] at h
  | some i => have := h.2; simp [hq] at this; simp [sizeOf, typeInfo, hq, this]
theorem run_isAgg_one {t : TypeId} (h : isOne P t = true) : (isAgg t).run P w = .ok false w := by
  simp only [isOne, Bool.and_eq_true] at h
  have h1 := h.1
  unfold isAgg
  cases hu : P.underlying t with
  | none => simp [hu] at h1
  | some dd =>
    rw [Sem.run_bind, run_underlying hu w]
    cases dd <;> simp_all
theorem run_sizeOf_one {t : TypeId} (h : isOne P t = true) : (sizeOf t).run P w = .ok 1 w := by
  simp only [isOne, Bool.and_eq_true, decide_eq_true_eq] at h
  cases hq : P.info? t with
  | none => simp [hq] at h
  | some i => have := h.2; simp [hq] at this; simp [sizeOf, typeInfo, hq, this]

/-- A load of one cell. -/
theorem ex_load1 {t : TypeId} {x : Operand} {a : Addr} {v : Value} (ht : isOne P t = true) (hx : ρ x = .pointer (some a)) (hc : w.cell? a = some v) :
    (execOp ρ ⟨d, .load t x, ty, pos, af, gd⟩).run P w = .ok (.value v) w := by
  simp [execOp, hx, Instr.loadAt, Instr.sureAddr, loadVar, run_isAgg_one ht, hc]
/-- A load of several cells. -/
theorem ex_loadn {t : TypeId} {x : Operand} {a : Addr} {cs : Array Value} (ht : isRow P t cs.size = true) (hx : ρ x = .pointer (some a)) (hc : ∀ j u, cs[j]? = some u → w.cell? (a.add j) = some u) :
    (execOp ρ ⟨d, .load t x, ty, pos, af, gd⟩).run P w = .ok (.value (.agg cs)) w := by
  have hl := run_loadCells_list (P := P) w a cs.toList (fun j v hv => hc j v (by simpa using hv))
  simp only [Array.length_toList, Array.toArray_toList] at hl
  simp [execOp, hx, Instr.loadAt, Instr.sureAddr, loadVar, run_isAgg_row ht, run_sizeOf_row ht, hl]
/-- Out of an own block: one cell of it. -/
theorem ex_load1b {t T : TypeId} {x : Operand} {g o : Nat} {cs : Array Value} {v : Value} (ht : isOne P t = true) (hx : ρ x = .pointer (some ⟨g, o, none⟩)) (hg : w.heap[g]? = some (.cells cs T (0, 0))) (hv : cs[o]? = some v) :
    (execOp ρ ⟨d, .load t x, ty, pos, af, gd⟩).run P w = .ok (.value v) w :=
  ex_load1 ht hx ((cell_of_row w g o cs T _ hg).trans hv)
/-- Out of an own block: a part of it. -/
theorem ex_loadnb {t T : TypeId} {x : Operand} {g o n : Nat} {cs : Array Value} (ht : isRow P t n = true) (hx : ρ x = .pointer (some ⟨g, o, none⟩)) (hg : w.heap[g]? = some (.cells cs T (0, 0))) (hn : o + n ≤ cs.size) :
    (execOp ρ ⟨d, .load t x, ty, pos, af, gd⟩).run P w = .ok (.value (.agg (cs.extract o (o + n)))) w := by
  have hs : (cs.extract o (o + n)).size = n := by simp; omega
  refine ex_loadn (by rw [hs]; exact ht) hx (fun j u hu => ?_)
  rw [Addr.add_lit, cell_of_row w g _ cs T _ hg]
  rw [Array.getElem?_extract] at hu
  split at hu
  · exact hu
  · cases hu
/-- The whole block. -/
theorem ex_loadb {t T : TypeId} {x : Operand} {g n : Nat} {cs : Array Value} (ht : isRow P t n = true) (hx : ρ x = .pointer (some ⟨g, 0, none⟩)) (hg : w.heap[g]? = some (.cells cs T (0, 0))) (hn : cs.size = n) :
    (execOp ρ ⟨d, .load t x, ty, pos, af, gd⟩).run P w = .ok (.value (.agg cs)) w := by
  subst hn
  refine ex_loadn ht hx (fun j u hu => ?_)
  rw [Addr.add_lit, Nat.zero_add, cell_of_row w g _ cs T _ hg]
  exact hu
theorem ex_index_addr {t e : TypeId} {s : Nat} {x y : Operand} {ad : Addr} {n c : Nat} {k : IntKind} {i : Int} (ht : sliceOf P t = some (e, s)) (hx : ρ x = .slice (some ad) n c) (hy : ρ y = .int k i) (h0 : 0 ≤ i) (h1 : i < n) :
    (execOp ρ ⟨d, .indexAddr t x y, ty, pos, af, gd⟩).run P w = .ok (.value (.pointer (some (ad.add (i.toNat * s))))) w := by
  unfold sliceOf at ht
  split at ht
  · rename_i e' he
    cases hq : P.info? e' with
    | none => simp [hq] at ht
    | some j =>
      simp only [hq, Option.map_some, Option.some.injEq, Prod.mk.injEq] at ht
      obtain ⟨rfl, rfl⟩ := ht
      simp [execOp, hx, hy, Instr.indexAt, asIntOf, run_underlying he, h0, h1, sizeOf, typeInfo, hq]
  · cases ht

/-! ### New blocks -/
theorem ex_alloc {t : TypeId} {z : Array Value} (hz : zeroOf P t = some z) :
    (execOp ρ ⟨d, .alloc t, ty, pos, af, gd⟩).run P w = .ok (.value (.pointer (some ⟨w.heap.size, 0, none⟩))) (w.alloc (.cells z t)) := by
  unfold zeroOf at hz
  cases hq : P.info? t with
  | none => simp [hq] at hz
  | some i =>
    cases hzz : i.zero with
    | none => simp [hq, hzz] at hz
    | some v =>
      simp [hq, hzz] at hz
      subst hz
      simp [execOp, Instr.alloc, zeroValue, typeInfo, hq, hzz, newVar, newRow]
theorem ex_box {t : TypeId} {x : Operand} {v : Value} (hx : ρ x = v) :
    (execOp ρ ⟨d, .box t x, ty, pos, af, gd⟩).run P w = .ok (.value (.pointer (some ⟨w.heap.size, 0, none⟩))) (w.alloc (.cells v.cells t)) := by
  simp [execOp, hx, Instr.box, newVar, newRow]

/-! ### A call of a Go function: the machine enters it -/
def hasBody (P : Program) (f : FuncId) : Bool := match P.funcs[f]? with | some fn => fn.body.isSome && !(fn.name == "runtime.NumGoroutine") | none => false
theorem ex_call {f : FuncId} {xs : Array Operand} {ts : Array TypeId} {vs : Array Value} (hf : hasBody P f = true) (hv : xs.map ρ = vs) (hfn : ρ (.func f) = .func (.func f) #[] #[]) :
    (execOp ρ ⟨d, .call ⟨.value (.func f), xs, ts⟩, ty, pos, af, gd⟩).run P w = .ok (.enter f vs) w := by
  unfold hasBody at hf
  cases hq : P.funcs[f]? with
  | none => simp [hq] at hf
  | some fn =>
    simp only [hq, Bool.and_eq_true, Bool.not_eq_true'] at hf
    obtain ⟨h1, h2⟩ := hf
    have h2' : ¬ fn.name = "runtime.NumGoroutine" := by simpa using h2
    cases hb : fn.body with
    | none => simp [hb] at h1
    | some c => simp [execOp, resolve, hfn, Deferred.ofValue, invoke, callFunc, hq, h2', hb, hv]
end
end Go.Sw
