/-
  The steps: operations one behind the other, the ways of control, calls and returns.
  Conditions: none; every rule is for any program.
-/
import Derived.Test.YtlaojdpcfenlkaaSwBaseB
namespace Go.Sw
open Go Go.RowKit

/-- What a call hands back. -/
def Ret (R : Value → World → Prop) : Ending → World → Prop := fun e w => ∃ v, e = .returned v ∧ R v w

section
variable {P : Program} {Q : Exit → Act → World → Prop} {a : Act} {w : World} {o : Oper} {K : Act → World → Prop} {N : Nat} {L : List (Nat × Value)} {w0 : World} {S : List Bx} {X : List Nat}

/-! ### One operation, its slot written out -/
theorem op_val {d : Nat} {v : Value} {w' : World} (hF : Frm N a L) (hd : o.dst = some d) (hlt : Nat.blt d N = true) (hr : (execOp a.eval o).run P w = .ok (.value v) w')
    (k : Frm N (a.put (some d) v) ((d, v) :: L) → K (a.put (some d) v) w') : o.wp P a w K Q := by
  have h := k (hF.put (by simpa [Nat.blt_eq] using hlt) v)
  unfold Oper.wp
  rw [hr]
  simp only [Oper.upon, hd]
  exact h
theorem op_alloc {d : Nat} {t : TypeId} {z : Array Value} {ty : TypeId} {pos : String} {af : Array Edge} {gd : Option (Nat × Bool)} (hF : Frm N a L) (hS : St w0 w S) (hlt : Nat.blt d N = true) (hz : zeroOf P t = some z)
    (k : ∀ g w', w.heap.size ≤ g → St w0 w' ((g, t, z) :: S) → Ext w X w' (g :: X) → Frm N (a.put (some d) (.pointer (some ⟨g, 0, none⟩))) ((d, .pointer (some ⟨g, 0, none⟩)) :: L) → K (a.put (some d) (.pointer (some ⟨g, 0, none⟩))) w') :
    Oper.wp P ⟨some d, .alloc t, ty, pos, af, gd⟩ a w K Q :=
  op_val hF rfl hlt (ex_alloc hz) fun h => k _ _ (Nat.le_refl _) (hS.alloc _ _) (Ext.alloc _ _ _) h
theorem op_box {d : Nat} {t : TypeId} {x : Operand} {v : Value} {cs : Array Value} {ty : TypeId} {pos : String} {af : Array Edge} {gd : Option (Nat × Bool)} (hF : Frm N a L) (hS : St w0 w S) (hlt : Nat.blt d N = true) (hx : ev L x = some v) (hv : v.cells = cs)
    (k : ∀ g w', w.heap.size ≤ g → St w0 w' ((g, t, cs) :: S) → Ext w X w' (g :: X) → Frm N (a.put (some d) (.pointer (some ⟨g, 0, none⟩))) ((d, .pointer (some ⟨g, 0, none⟩)) :: L) → K (a.put (some d) (.pointer (some ⟨g, 0, none⟩))) w') :
    Oper.wp P ⟨some d, .box t x, ty, pos, af, gd⟩ a w K Q := by
  subst hv
  exact op_val hF rfl hlt (ex_box (hF.ev hx)) fun h => k _ _ (Nat.le_refl _) (hS.alloc _ _) (Ext.alloc _ _ _) h
theorem op_call {d : Nat} {f : FuncId} {xs : Array Operand} {ts : Array TypeId} {vs : Array Value} {R : Value → World → Prop} {ty : TypeId} {pos : String} {af : Array Edge} {gd : Option (Nat × Bool)} (hF : Frm N a L) (hlt : Nat.blt d N = true)
    (hf : hasBody P f = true) (hv : xs.map a.eval = vs) (hc : Calls P f vs w (Ret R)) (k : ∀ v w', R v w' → Frm N (a.put (some d) v) ((d, v) :: L) → K (a.put (some d) v) w') :
    Oper.wp P ⟨some d, .call ⟨.value (.func f), xs, ts⟩, ty, pos, af, gd⟩ a w K Q := by
  unfold Oper.wp
  rw [ex_call hf hv rfl]
  simp only [Oper.upon]
  refine hc.mono ?_
  rintro e w' ⟨v, rfl, hR⟩
  exact k v w' hR (hF.put (by simpa [Nat.blt_eq] using hlt) v)

/-- The cells of a row with some of them written over. -/
def splice (cs : Array Value) (o : Nat) (vs : Array Value) : Array Value := (cs.toList.take o ++ vs.toList ++ cs.toList.drop (o + vs.size)).toArray
theorem size_splice {cs : Array Value} {o : Nat} {vs : Array Value} (h : o + vs.size ≤ cs.size) : (splice cs o vs).size = cs.size := by
  simp [splice]; omega
theorem grownBy_setRow (w : World) (g : Nat) (cs : Array Value) : w.grownBy (w.setRow g cs) (some g) :=
  ⟨rfl, rfl, rfl, by simp, fun k _ hk => setRow_other w g k _ (fun e => hk (by rw [e]))⟩
theorem run_storeAt {t T : TypeId} {g off : Nat} {v : Value} {vs cs : Array Value} (hv : v.cells = vs) (hsz : (P.info? t).map (·.size) = some vs.size) (h1 : vs.toList.all Value.oneCell' = true)
    (hg : w.heap[g]? = some (.cells cs T (0, 0))) (hfit : off + vs.size ≤ cs.size) :
    (Instr.storeAt t (.pointer (some ⟨g, off, none⟩)) v).run P w = .ok () (w.setRow g (splice cs off vs)) := by
  subst hv
  cases hq : P.info? t with
  | none => simp [hq] at hsz
  | some i =>
    have hi : i.size = v.cells.size := by simpa [hq] using hsz
    have hst := run_storeCells_at P g off T v.cells.toList 0 cs w hg (by simpa using hfit) (List.all_eq_true.1 h1)
    simp only [Nat.add_zero, Array.length_toList] at hst
    simp [Instr.storeAt, Instr.sureAddr, storeVar, sizeOf, typeInfo, hq, hi, hst, splice]
theorem op_store {t T : TypeId} {x y : Operand} {g off : Nat} {v : Value} {vs cs : Array Value} {ty : TypeId} {pos : String} {af : Array Edge} {gd : Option (Nat × Bool)} (hF : Frm N a L) (hS : St w0 w S) (j : Nat) (hj : S[j]? = some (g, T, cs)) (hg : g ∈ X)
    (hx : ev L x = some (.pointer (some ⟨g, off, none⟩))) (hy : ev L y = some v) (hv : v.cells = vs) (hsz : (P.info? t).map (·.size) = some vs.size) (h1 : vs.toList.all Value.oneCell' = true) (hfit : off + vs.size ≤ cs.size)
    (k : ∀ w', St w0 w' (S.set j (g, T, splice cs off vs)) → Ext w X w' X → K a w') :
    Oper.wp P ⟨none, .store t x y, ty, pos, af, gd⟩ a w K Q := by
  unfold Oper.wp
  have hr : (execOp a.eval ⟨none, .store t x y, ty, pos, af, gd⟩).run P w = .ok .skip (w.setRow g (splice cs off vs)) := by
    simp [execOp, hF.ev hx, hF.ev hy, run_storeAt hv hsz h1 (hS.get j hj) hfit]
  rw [hr]
  simp only [Oper.upon, Act.put]
  have hgr := grownBy_setRow w g (splice cs off vs)
  exact k _ (hS.write j hj hgr (setRow_heap w g cs _ T _ (hS.get j hj))) (Ext.write hgr hg)

/-! ### Operations one behind the other -/
variable {ops : Array Oper} {rest : List Oper}
theorem st (hg : o.guard = none) (h : o.wp P a w (wpList P ops Q rest) Q) : wpList P ops Q (o :: rest) a w :=
  wpList_plain hg fun _ hK => Oper.wp_mono hK h
theorem st_val {d : Nat} {v : Value} {w' : World} (hF : Frm N a L) (hg : o.guard = none) (hd : o.dst = some d) (hlt : Nat.blt d N = true) (hr : (execOp a.eval o).run P w = .ok (.value v) w')
    (k : ∀ a', Frm N a' ((d, v) :: L) → wpList P ops Q rest a' w') : wpList P ops Q (o :: rest) a w :=
  st hg (op_val hF hd hlt hr fun h => k _ h)
theorem st_alloc {d : Nat} {t : TypeId} {z : Array Value} {ty : TypeId} {pos : String} {af : Array Edge} (hF : Frm N a L) (hS : St w0 w S) (X : List Nat) (hlt : Nat.blt d N = true) (hz : zeroOf P t = some z)
    (k : ∀ g w' a', w.heap.size ≤ g → St w0 w' ((g, t, z) :: S) → Ext w X w' (g :: X) → Frm N a' ((d, .pointer (some ⟨g, 0, none⟩)) :: L) → wpList P ops Q rest a' w') :
    wpList P ops Q (⟨some d, .alloc t, ty, pos, af, none⟩ :: rest) a w :=
  st rfl (op_alloc hF hS hlt hz fun g w' h1 h2 h3 h4 => k g w' _ h1 h2 h3 h4)
theorem st_box {d : Nat} {t : TypeId} {x : Operand} {v : Value} {cs : Array Value} {ty : TypeId} {pos : String} {af : Array Edge} (hF : Frm N a L) (hS : St w0 w S) (X : List Nat) (hlt : Nat.blt d N = true) (hx : ev L x = some v) (hv : v.cells = cs)
    (k : ∀ g w' a', w.heap.size ≤ g → St w0 w' ((g, t, cs) :: S) → Ext w X w' (g :: X) → Frm N a' ((d, .pointer (some ⟨g, 0, none⟩)) :: L) → wpList P ops Q rest a' w') :
    wpList P ops Q (⟨some d, .box t x, ty, pos, af, none⟩ :: rest) a w :=
  st rfl (op_box hF hS hlt hx hv fun g w' h1 h2 h3 h4 => k g w' _ h1 h2 h3 h4)
theorem st_call {d : Nat} {f : FuncId} {xs : Array Operand} {ts : Array TypeId} {vs : Array Value} {R : Value → World → Prop} {ty : TypeId} {pos : String} {af : Array Edge} (hF : Frm N a L) (hlt : Nat.blt d N = true)
    (hf : hasBody P f = true) (hv : xs.map a.eval = vs) (hc : Calls P f vs w (Ret R)) (k : ∀ v w', R v w' → ∀ a', Frm N a' ((d, v) :: L) → wpList P ops Q rest a' w') :
    wpList P ops Q (⟨some d, .call ⟨.value (.func f), xs, ts⟩, ty, pos, af, none⟩ :: rest) a w :=
  st rfl (op_call hF hlt hf hv hc fun v w' hR h => k v w' hR _ h)
theorem st_store {t T : TypeId} {x y : Operand} {g off : Nat} {v : Value} {vs cs : Array Value} {ty : TypeId} {pos : String} {af : Array Edge} (hF : Frm N a L) (hS : St w0 w S) (X : List Nat) (j : Nat) (hj : S[j]? = some (g, T, cs)) (hg : g ∈ X)
    (hx : ev L x = some (.pointer (some ⟨g, off, none⟩))) (hy : ev L y = some v) (hv : v.cells = vs) (hsz : (P.info? t).map (·.size) = some vs.size) (h1 : vs.toList.all Value.oneCell' = true) (hfit : off + vs.size ≤ cs.size)
    (k : ∀ w', St w0 w' (S.set j (g, T, splice cs off vs)) → Ext w X w' X → wpList P ops Q rest a w') :
    wpList P ops Q (⟨none, .store t x y, ty, pos, af, none⟩ :: rest) a w :=
  st rfl (op_store hF hS j hj hg hx hy hv hsz h1 hfit k)

/-- The operation that decides a guard has said b. -/
def said (ops : Array Oper) (L : List (Nat × Value)) (j : Nat) : Option Bool :=
  match ops[j]? with
  | some o => match o.dst with
    | some d => match lk d L with
      | some (.bool b) => some b
      | _ => none
    | none => none
  | none => none
theorem yielded_of {j : Nat} {b : Bool} (hF : Frm N a L) (h : said ops L j = some b) : yielded ops a.tmps j = some b := by
  unfold said at h
  split at h
  · rename_i o ho
    split at h
    · rename_i d hd
      split at h
      · rename_i c hl
        simp only [Option.some.injEq] at h
        subst h
        have hg := hF.get d _ hl
        unfold yielded
        rw [ho]
        simp only [Option.bind_some, hd]
        cases ht : a.tmps[d]? with
        | none => simp [Array.getD_eq_getD_getElem?, ht, undef] at hg
        | some u => simp [Array.getD_eq_getD_getElem?, ht] at hg; simp [hg]
      · cases h
    · cases h
  · cases h
/-- A guard that says no: the operation is passed over. -/
theorem st_skip {d j : Nat} {b c : Bool} (hF : Frm N a L) (hg : o.guard = some (j, b)) (hd : o.dst = some d) (hlt : Nat.blt d N = true) (hs : said ops L j = some c) (hne : (c == b) = false)
    (k : ∀ a', Frm N a' ((d, undef) :: L) → wpList P ops Q rest a' w) : wpList P ops Q (o :: rest) a w := by
  refine wpList_skip ?_ ?_
  · simp only [Region.wanted, hg, yielded_of hF hs]
    cases c <;> cases b <;> first | rfl | cases hne
  · rw [hd]
    exact k _ (hF.put (by simpa [Nat.blt_eq] using hlt) undef)
/-- A guard that says yes. -/
theorem stg {j : Nat} {b : Bool} (hF : Frm N a L) (hg : o.guard = some (j, b)) (hs : said ops L j = some b) (h : o.wp P a w (wpList P ops Q rest) Q) : wpList P ops Q (o :: rest) a w := by
  unfold wpList
  rw [if_pos (by simp [Region.wanted, hg, yielded_of hF hs])]
  exact .inl h
theorem stg_val {d j : Nat} {b : Bool} {v : Value} {w' : World} (hF : Frm N a L) (hg : o.guard = some (j, b)) (hs : said ops L j = some b) (hd : o.dst = some d) (hlt : Nat.blt d N = true) (hr : (execOp a.eval o).run P w = .ok (.value v) w')
    (k : ∀ a', Frm N a' ((d, v) :: L) → wpList P ops Q rest a' w') : wpList P ops Q (o :: rest) a w :=
  stg hF hg hs (op_val hF hd hlt hr fun h => k _ h)
theorem stg_call {d j : Nat} {b : Bool} {f : FuncId} {xs : Array Operand} {ts : Array TypeId} {vs : Array Value} {R : Value → World → Prop} {ty : TypeId} {pos : String} {af : Array Edge} (hF : Frm N a L) (hs : said ops L j = some b) (hlt : Nat.blt d N = true)
    (hf : hasBody P f = true) (hv : xs.map a.eval = vs) (hc : Calls P f vs w (Ret R)) (k : ∀ v w', R v w' → ∀ a', Frm N a' ((d, v) :: L) → wpList P ops Q rest a' w') :
    wpList P ops Q (⟨some d, .call ⟨.value (.func f), xs, ts⟩, ty, pos, af, some (j, b)⟩ :: rest) a w :=
  stg hF rfl hs (op_call hF hlt hf hv hc fun v w' hR h => k v w' hR _ h)

theorem gen_ (h : ∀ a', Frm N a' L → K a' w) : Frm N a L → K a w := h a
/-! ### Control -/
variable {x y c : Code} {K' : Act → World → Prop}
theorem c_seq (h : x.wp P (Exit.then (y.wp P Q) Q) a w) : (Code.seq x y).wp P Q a w := wp_seq h
theorem c_cut (K : Act → World → Prop) (hx : x.wp P (Exit.then K Q) a w) (hy : ∀ a w, K a w → y.wp P Q a w) : (Code.seq x y).wp P Q a w :=
  wp_seq (Code.wp_mono (fun e a w q => by cases e <;> first | exact hy _ _ q | exact q) hx)
theorem c_reg {id : Nat} {l : List Oper} (h : wpList P l.toArray Q l a w) : (Code.region id l.toArray false).wp P Q a w := wp_region_lit h
theorem c_nil_then (h : K' a w) : wpList P ops (Exit.then K' Q) [] a w := h
theorem c_nil (h : Q .normal a w) : wpList P ops Q [] a w := h
theorem c_cond {t : Nat} {b : Bool} (hF : Frm N a L) (hc : lk t L = some (.bool b)) (ht : b = true → x.wp P Q a w) (hf : b = false → y.wp P Q a w) : (Code.cond (.tmp t) x y).wp P Q a w :=
  wp_cond_split (hF.get t _ hc) ht hf
theorem c_skip (h : Q .normal a w) : Code.skip.wp P Q a w := wp_skip h
theorem c_ret (h : Q .ret a w) : Code.ret.wp P Q a w := wp_ret h
theorem c_exit {id : Nat} (h : Q (.exit id) a w) : (Code.exit id).wp P Q a w := wp_exit h
theorem c_block {id : Nat} (h : c.wp P (Exit.inBlock id Q) a w) : (Code.block id c).wp P Q a w := wp_block h
theorem x_tn (h : K' a w) : Exit.then K' Q .normal a w := h
theorem x_tr (h : Q .ret a w) : Exit.then K' Q .ret a w := h
theorem x_te {i : Nat} (h : Q (.exit i) a w) : Exit.then K' Q (.exit i) a w := h
theorem x_bn {id : Nat} (h : Q .normal a w) : Exit.inBlock id Q .normal a w := h
theorem x_br {id : Nat} (h : Q .ret a w) : Exit.inBlock id Q .ret a w := h
theorem x_bh {id : Nat} (h : Q .normal a w) : Exit.inBlock id Q (.exit id) a w := by simpa [Exit.inBlock] using h
theorem x_bm {id i : Nat} (hne : Nat.beq i id = false) (h : Q (.exit i) a w) : Exit.inBlock id Q (.exit i) a w := by
  have : i ≠ id := fun e => by subst e; simp at hne
  simpa [Exit.inBlock, this] using h
/-- A loop: at the head of each round I holds at a number, which each round lowers. -/
theorem c_loop (I : Nat → Act → World → Prop) (h0 : ∃ n, I n a w) (round : ∀ n a w, I n a w → c.wp P (Exit.then (fun a' w' => ∃ m, m < n ∧ I m a' w') Q) a w) : (Code.loop c).wp P Q a w := by
  intro b k cs
  have key : ∀ n a w, I n a w → ∃ e a' w', Q e a' w' ∧ Arrives P (lone (b.at a (.code c :: .inLoop c :: k)) cs w) b k cs e a' w' := by
    intro n
    induction n using Nat.strongRecOn with
    | _ n ih =>
      intro a w hI
      obtain ⟨e, a₁, w₁, hq, harr⟩ := round n a w hI b (.inLoop c :: k) cs
      cases e with
      | normal =>
        obtain ⟨m, hlt, hI₁⟩ := hq
        obtain ⟨e₂, a₂, w₂, hq₂, harr₂⟩ := ih m hlt a₁ w₁ hI₁
        exact ⟨e₂, a₂, w₂, hq₂, .of_steps (Steps.trans harr (.one step_inLoop)) harr₂⟩
      | exit id => exact ⟨_, a₁, w₁, hq, .pass (x := .inLoop c) rfl (fun _ _ => .inl (by simp)) harr⟩
      | goto l => exact ⟨_, a₁, w₁, hq, .pass (x := .inLoop c) rfl (fun _ _ => .inl (by simp)) harr⟩
      | ret => exact ⟨_, a₁, w₁, hq, .pass (x := .inLoop c) rfl (fun _ _ => .inl (by simp)) harr⟩
      | panic ch => exact ⟨_, a₁, w₁, hq, .pass (x := .inLoop c) rfl (fun _ _ => .inl (by simp)) harr⟩
      | outgrown => exact ⟨_, a₁, w₁, hq, .pass (x := .inLoop c) rfl (fun _ _ => .inl (by simp)) harr⟩
  obtain ⟨n0, h0⟩ := h0
  obtain ⟨e, a', w', hq, harr⟩ := key n0 a w h0
  exact ⟨e, a', w', hq, .of_steps (.one step_loop) harr⟩

/-! ### The beginning and the end of a call -/
def argL : Nat → List Value → List (Nat × Value)
  | _, [] => []
  | i, v :: r => (i, v) :: argL (i + 1) r
theorem lk_argL : ∀ (vs : List Value) (i t : Nat) (v : Value), lk t (argL i vs) = some v → i ≤ t ∧ vs[t - i]? = some v
  | [], _, _, _, h => by simp [argL, lk] at h
  | u :: r, i, t, v, h => by
    simp only [argL, lk] at h
    by_cases e : i = t
    · subst e
      simp at h
      simp [h]
    · rw [beq_no e] at h
      obtain ⟨h1, h2⟩ := lk_argL r (i + 1) t v h
      refine ⟨by omega, ?_⟩
      rw [show t - i = (t - (i + 1)) + 1 by omega]
      simpa using h2
theorem enter {f : FuncId} {fn : Func} {vs : List Value} {R : Ending → World → Prop} (hf : P.funcs[f]? = some fn) (hb : fn.body = some c) (hn : fn.ntmps = N) (hle : Nat.ble vs.length N = true)
    (h : ∀ a, Frm N a (argL 0 vs) → c.wp P (bodyPost P fn R) a w) : Calls P f vs.toArray w R := by
  refine calls_of_wp hf hb (h _ ⟨?_, rfl, fun t v hv => ?_⟩)
  · have : vs.length ≤ N := by simpa [Nat.ble_eq] using hle
    simp [hn]; omega
  · obtain ⟨_, h2⟩ := lk_argL vs 0 t v hv
    simp only [Nat.sub_zero] at h2
    have hlt : t < vs.length := (List.getElem?_eq_some_iff.1 h2).1
    have h3 : vs[t] = v := (List.getElem?_eq_some_iff.1 h2).2
    simp [Array.getD_eq_getD_getElem?, Array.getElem?_append, hlt, h3]

/-- The value of one of a function's results. -/
def resRun (tmps : Array Value) : ResultVar → Sem Value
  | .tmp t => pure (tmps.getD t undef)
  | .cell a t => do loadVar t (← asAddr (tmps.getD a undef))
theorem res_tmp {t : Nat} {v : Value} (hF : Frm N a L) (h : lk t L = some v) : (resRun a.tmps (.tmp t)).run P w = .ok v w := by
  simp only [resRun]; rw [hF.get t v h]; rfl
theorem res_cell {t g n : Nat} {T T' : TypeId} {cs : Array Value} (hF : Frm N a L) (h : lk t L = some (.pointer (some ⟨g, 0, none⟩))) (hT : isRow P T n = true) (hg : w.heap[g]? = some (.cells cs T' (0, 0))) (hn : cs.size = n) :
    (resRun a.tmps (.cell t T)).run P w = .ok (.agg cs) w := by
  simp only [resRun]
  rw [hF.get t _ h]
  have := ex_loadb (P := P) (ρ := fun _ => .pointer (some ⟨g, 0, none⟩)) (d := none) (ty := 0) (pos := "") (af := #[]) (gd := none) (x := .tmp 0) hT rfl hg hn
  simp only [execOp, Instr.loadAt, Instr.sureAddr, Sem.run_bind, Sem.run_pure, Result.andThen_ok] at this
  simp only [asAddr, Sem.run_bind, Sem.run_pure, Result.andThen_ok]
  cases hl : (loadVar T ⟨g, 0, none⟩).run P w with
  | ok u w1 => rw [hl] at this; simp at this; simp [this]
  | halt u w1 => rw [hl] at this; simp at this
theorem res_cell1 {t g : Nat} {T T' : TypeId} {v : Value} (hF : Frm N a L) (h : lk t L = some (.pointer (some ⟨g, 0, none⟩))) (hT : isOne P T = true) (hg : w.heap[g]? = some (.cells #[v] T' (0, 0))) :
    (resRun a.tmps (.cell t T)).run P w = .ok v w := by
  simp only [resRun]
  rw [hF.get t _ h]
  have hc : w.cell? ⟨g, 0, none⟩ = some v := (cell_of_row w g 0 _ T' _ hg).trans rfl
  simp [asAddr, loadVar, run_isAgg_one hT, hc]
theorem run_results {fn : Func} (w : World) : (results fn a.tmps).run P w = (fn.results.mapM (resRun a.tmps) >>= fun vs => pure (if h : vs.size = 1 then vs[0] else .tuple vs)).run P w := by
  unfold results
  congr 1
theorem end1 {fn : Func} {r : ResultVar} {v : Value} {R : Ending → World → Prop} (hF : Frm N a L) (hr : fn.results = #[r]) (h1 : (resRun a.tmps r).run P w = .ok v w) (h : R (.returned v) w) : bodyPost P fn R .ret a w :=
  ⟨hF.defers, v, by rw [run_results, hr]; simp [h1], h⟩
theorem end2 {fn : Func} {r s : ResultVar} {v u : Value} {R : Ending → World → Prop} (hF : Frm N a L) (hr : fn.results = #[r, s]) (h1 : (resRun a.tmps r).run P w = .ok v w) (h2 : (resRun a.tmps s).run P w = .ok u w) (h : R (.returned (.tuple #[v, u])) w) : bodyPost P fn R .ret a w :=
  ⟨hF.defers, _, by rw [run_results, hr]; simp [h1, h2], h⟩
theorem end3 {fn : Func} {r s q : ResultVar} {v u z : Value} {R : Ending → World → Prop} (hF : Frm N a L) (hr : fn.results = #[r, s, q]) (h1 : (resRun a.tmps r).run P w = .ok v w) (h2 : (resRun a.tmps s).run P w = .ok u w) (h3 : (resRun a.tmps q).run P w = .ok z w) (h : R (.returned (.tuple #[v, u, z])) w) : bodyPost P fn R .ret a w :=
  ⟨hF.defers, _, by rw [run_results, hr]; simp [h1, h2, h3], h⟩
theorem end0 {fn : Func} {R : Ending → World → Prop} (hF : Frm N a L) (hr : fn.results = #[]) (h : R (.returned (.tuple #[])) w) : bodyPost P fn R .normal a w :=
  ⟨hF.defers, _, by rw [run_results, hr]; simp, h⟩
end
end Go.Sw
