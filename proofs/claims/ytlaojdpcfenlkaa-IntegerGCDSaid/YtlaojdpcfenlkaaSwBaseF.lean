/-
  Arrays of the call's own: make, index, store, append.
  Conditions: none; every rule is for any program.
-/
import Derived.Test.YtlaojdpcfenlkaaSwBaseE
import Derived.Maps.AppendAt
namespace Go.Sw
open Go Go.RowKit

theorem us_arr {L : List Nat} {i : Nat} (h : i < L.length) : ((us L).toArray)[i]? = some (.int .u32 ((L.getD i 0 : Nat) : Int)) := by
  rw [List.getElem?_toArray]; exact us_get h
theorem us_arr2 {L : List Nat} {r : List Value} {i : Nat} (h : i < L.length) : ((us L ++ r).toArray)[i]? = some (.int .u32 ((L.getD i 0 : Nat) : Int)) := by
  rw [List.getElem?_toArray, List.getElem?_append_left (by simpa using h)]; exact us_get h
theorem us_append (a b : List Nat) : us (a ++ b) = us a ++ us b := by simp [us]
theorem us_set (L : List Nat) (i x : Nat) : us (L.set i x) = (us L).set i (u32 x) := by simp [us, List.map_set]
theorem splice_us {L : List Nat} {i x : Nat} (h : i < L.length) : splice (us L).toArray i #[.int .u32 (x : Int)] = (us (L.set i x)).toArray := by
  have hi : i < (us L).length := by simpa using h
  unfold splice
  rw [us_set, List.set_eq_take_append_cons_drop, if_pos hi]
  simp [u32]
theorem splice_us2 {L : List Nat} {r : List Value} {i x : Nat} (h : i < L.length) : splice (us L ++ r).toArray i #[.int .u32 (x : Int)] = (us (L.set i x) ++ r).toArray := by
  have hi : i < (us L).length := by simpa using h
  unfold splice
  rw [us_set, List.set_eq_take_append_cons_drop, if_pos hi]
  simp only [List.size_toArray, List.length_cons, List.length_nil, Nat.zero_add]
  rw [List.take_append_of_le_length (Nat.le_of_lt hi), List.drop_append_of_le_length (by omega)]
  simp [u32]
/-- What is known of an element type: its zero, its cells, its bytes. -/
def elemOf (P : Program) (e : TypeId) : Option (Array Value × Nat × Nat) := (P.info? e).bind fun i => i.zero.map fun z => (z.cells, i.size, i.bytes)
theorem made_us (n : Nat) : madeCells #[.int .u32 0] n = (us (List.replicate n 0)).toArray := by
  apply Array.ext'
  simp [madeCells, us, u32]
  apply List.ext_getElem?
  intro j
  by_cases hj : j < n
  · simp [hj, Nat.mod_one]
  · simp [hj]

section
set_option linter.unusedVariables false
variable {P : Program} {Q : Exit → Act → World → Prop} {a : Act} {w : World} {K : Act → World → Prop} {N : Nat} {L : List (Nat × Value)} {w0 : World} {S : List Bx} {X : List Nat}
variable {ty : TypeId} {pos : String} {af : Array Edge} {gd : Option (Nat × Bool)}
theorem ex_idxo {ρ : Operand → Value} {d : Option Tmp} {t e : TypeId} {x y : Operand} {g n c : Nat} {k : IntKind} {i : Int} {j : Nat} (ht : sliceOf P t = some (e, 1)) (hx : ρ x = .slice (some ⟨g, 0, none⟩) n c) (hy : ρ y = .int k i) (hi : i = (j : Nat)) (h1 : j < n) :
    (execOp ρ ⟨d, .indexAddr t x y, ty, pos, af, gd⟩).run P w = .ok (.value (.pointer (some ⟨g, j, none⟩))) w := by
  have := ex_idx (w := w) (d := d) (ty := ty) (pos := pos) (af := af) (gd := gd) (j := j) ht hx rfl hy hi h1
  rwa [Addr.add_lit, Nat.zero_add] at this
theorem op_make {d : Nat} {t e : TypeId} {z : Array Value} {s b : Nat} {x y : Operand} {kl kc : IntKind} {l c : Int} {nl nc : Nat} {cs : Array Value} (hF : Frm N a L) (hS : St w0 w S) (hlt : Nat.blt d N = true) (ht : sliceOf P t = some (e, s)) (he : Sw.elemOf P e = some (z, s, b))
    (hx : ev L x = some (.int kl l)) (hy : ev L y = some (.int kc c)) (hl : l = (nl : Nat)) (hc : c = (nc : Nat)) (hlc : nl ≤ nc) (hb : b * nc ≤ 281474976710656) (h63 : nc ≤ 9223372036854775807) (hcs : madeCells z (nc * s) = cs)
    (k : ∀ g w', w.heap.size ≤ g → St w0 w' ((g, e, cs) :: S) → Ext w X w' (g :: X) → Frm N (a.put (some d) (.slice (some ⟨g, 0, none⟩) nl nc)) ((d, .slice (some ⟨g, 0, none⟩) nl nc) :: L) → K (a.put (some d) (.slice (some ⟨g, 0, none⟩) nl nc)) w') :
    Oper.wp P ⟨some d, .makeSlice t x y, ty, pos, af, gd⟩ a w K Q := by
  subst hl hc hcs
  unfold sliceOf at ht
  split at ht
  · rename_i e' hu
    cases hq : P.info? e' with
    | none => simp [hq] at ht
    | some i =>
      simp only [hq, Option.map_some, Option.some.injEq, Prod.mk.injEq] at ht
      obtain ⟨rfl, rfl⟩ := ht
      unfold Sw.elemOf at he
      cases hz : i.zero with
      | none => simp [hq, hz] at he
      | some zv =>
        simp only [hq, hz, Option.bind_some, Option.map_some, Option.some.injEq, Prod.mk.injEq] at he
        obtain ⟨rfl, _, rfl⟩ := he
        have hb1 : ((i.bytes * nc : Nat) : Int) ≤ 281474976710656 := by omega
        have hb2 : (i.bytes : Int) * (nc : Int) ≤ 281474976710656 := by rwa [Int.natCast_mul] at hb1
        have hr := run_make (P := P) w t e' i zv hu hq hz kl kc (nl : Int) (nc : Int) (by omega) (by omega) hb2 (by omega)
        simp only [Int.toNat_natCast] at hr
        have hr' : (execOp a.eval ⟨some d, .makeSlice t x y, ty, pos, af, gd⟩).run P w = .ok (.value (.slice (some ⟨w.heap.size, 0, none⟩) nl nc)) (w.alloc (.cells (madeCells zv.cells (nc * i.size)) e')) := by
          simp only [execOp, hF.ev hx, hF.ev hy, Sem.run_bind, hr, Result.andThen_ok, Sem.run_pure]
        exact op_val hF rfl hlt hr' fun h => k _ _ (Nat.le_refl _) (hS.alloc _ _) (Ext.alloc _ _ _) h
  · cases ht

/-- A slice that grows: nil, or a block of the call's own with room behind. -/
def OwV (e : TypeId) (So : List Bx) (v : Value) (l : List Value) : Prop :=
  (So = [] ∧ v = .slice none 0 0 ∧ l = []) ∨ ∃ g c r, So = [(g, e, (l ++ r).toArray)] ∧ v = .slice (some ⟨g, 0, none⟩) l.length c ∧ c = l.length + r.length ∧ c ≤ maxLen
theorem OwV.nil (e : TypeId) : OwV e [] (.slice none 0 0) [] := .inl ⟨rfl, rfl, rfl⟩
theorem OwV.block (e : TypeId) (g c : Nat) (l r : List Value) (hc : c = l.length + r.length) (hm : c ≤ maxLen) : OwV e [(g, e, (l ++ r).toArray)] (.slice (some ⟨g, 0, none⟩) l.length c) l := .inr ⟨g, c, r, rfl, rfl, hc, hm⟩
/-- The cells of a slice that has grown, once its block is forgotten. -/
theorem OwV.cl {e : TypeId} {So : List Bx} {v : Value} {l : List Value} (h : OwV e So v l) {F : List Bx} {X' : List Nat} (hS : St w0 w (F ++ So)) (hX : ∀ m ∈ X', m < w0.heap.size) : ∃ A n c, v = .slice A n c ∧ n = l.length ∧ Cl w X' A l ∧ n ≤ c ∧ c ≤ 9223372036854775807 := by
  rcases h with ⟨rfl, rfl, rfl⟩ | ⟨g, c, r, rfl, rfl, hc, hm⟩
  · exact ⟨none, 0, 0, rfl, rfl, Cl.nil _ _ _, Nat.le_refl _, by omega⟩
  · have hb := hS.box (g, e, (l ++ r).toArray) (by simp)
    have hcl := Cl.of_block (X := X') hb.1 (fun hg => by have := hX g hg; have := hb.2; simp only at this; omega) l.length
    simp only [List.take_left'] at hcl
    exact ⟨_, _, c, rfl, rfl, by simpa using hcl, by omega, by simpa [maxLen] using hm⟩

theorem bl_append (F G : List Bx) : bl (F ++ G) = bl F ++ bl G := by simp [bl]
theorem st_tail {F So So' : List Bx} {w' : World} (hS : St w0 w (F ++ So)) (hg : ∀ k, k < w.heap.size → k ∉ bl So → w'.heap[k]? = w.heap[k]?) (hos : w'.os = w.os) (htp : w'.tape = w.tape) (hout : w'.output = w.output) (hsz : w.heap.size ≤ w'.heap.size)
    (hn : ∀ b ∈ So', w'.heap[b.1]? = some (.cells b.2.2 b.2.1 (0, 0)) ∧ (b.1 ∈ bl So ∨ w.heap.size ≤ b.1)) (hp : So'.Pairwise fun a b => a.1 ≠ b.1) : St w0 w' (F ++ So') := by
  have hsplit := List.pairwise_append.1 hS.nd
  refine ⟨?_, fun b hb => ?_, ?_⟩
  · refine hS.below.trans ⟨hos, htp, hout, hsz, fun k hk => hg k (Nat.lt_of_lt_of_le hk hS.below.size) (fun hm => ?_)⟩
    obtain ⟨b, hb, rfl⟩ := List.mem_map.1 hm
    have := (hS.box b (by simp [hb])).2
    omega
  · rcases List.mem_append.1 hb with hb | hb
    · have hbb := hS.box b (by simp [hb])
      refine ⟨(hg _ (lt_of_heap hbb.1) (fun hm => ?_)).trans hbb.1, hbb.2⟩
      obtain ⟨b', hb', e⟩ := List.mem_map.1 hm
      exact hsplit.2.2 b hb b' hb' e.symm
    · refine ⟨(hn b hb).1, ?_⟩
      rcases (hn b hb).2 with h | h
      · obtain ⟨b', hb', e⟩ := List.mem_map.1 h
        rw [← e]; exact (hS.box b' (by simp [hb'])).2
      · exact Nat.le_trans hS.below.size h
  · refine List.pairwise_append.2 ⟨hsplit.1, hp, fun x hx y hy => ?_⟩
    rcases (hn y hy).2 with h | h
    · obtain ⟨b', hb', e⟩ := List.mem_map.1 h
      rw [← e]; exact hsplit.2.2 x hx b' hb'
    · have := hS.lt (b := x) (by simp [hx])
      omega
theorem op_append {d : Nat} {t e : TypeId} {z : Array Value} {b : Nat} {x y : Operand} {v : Value} {l m : List Value} {A : Option Addr} {n c : Nat} {F So : List Bx} {Y : List Nat} (hF : Frm N a L) (hS : St w0 w (F ++ So)) (hlt : Nat.blt d N = true) (ht : sliceOf P t = some (e, 1)) (he : Sw.elemOf P e = some (z, 1, b)) (hz1 : z.size = 1)
    (hx : ev L x = some v) (hy : ev L y = some (.slice A n c)) (hn : n = m.length) (hO : OwV e So v l) (hm : Cl w Y A m) (h1 : ∀ u ∈ m, u.oneCell' = true) (hlen : (l.length + m.length) * b ≤ 140737488355328) (h63 : l.length + m.length ≤ 9223372036854775807)
    (k : ∀ v' So' w', OwV e So' v' (l ++ m) → St w0 w' (F ++ So') → Ext w (bl F ++ bl So ++ X) w' (bl F ++ bl So' ++ X) → (∀ k, k < w.heap.size → k ∉ bl So → w'.heap[k]? = w.heap[k]?) → Frm N (a.put (some d) v') ((d, v') :: L) → K (a.put (some d) v') w') :
    Oper.wp P ⟨some d, .call ⟨.builtin .append, #[x, y], #[t, t]⟩, ty, pos, af, gd⟩ a w K Q := by
  subst hn
  unfold sliceOf at ht
  split at ht
  · rename_i e' hu
    cases hq : P.info? e' with
    | none => simp [hq] at ht
    | some i =>
      simp only [hq, Option.map_some, Option.some.injEq, Prod.mk.injEq] at ht
      obtain ⟨rfl, hi1⟩ := ht
      unfold Sw.elemOf at he
      cases hz : i.zero with
      | none => simp [hq, hz] at he
      | some zv =>
        simp only [hq, hz, Option.bind_some, Option.map_some, Option.some.injEq, Prod.mk.injEq] at he
        obtain ⟨rfl, _, rfl⟩ := he
        -- the owner's own words
        have hown : w.ownsRow w0.heap.size e' 1 v l.length l := by
          rcases hO with ⟨rfl, rfl, rfl⟩ | ⟨g, c', r, rfl, rfl, hc, hmx⟩
          · exact World.ownsRow_nil _ _ _ _
          · have hb := hS.box (g, e', (l ++ r).toArray) (by simp)
            exact ⟨by simp, .inr ⟨g, c', _, rfl, hb.2, hb.1, by omega, hmx, by simp [hc], by simp⟩⟩
        have hblk : v.ownBlock = none ∧ So = [] ∨ ∃ g, v.ownBlock = some g ∧ bl So = [g] := by
          rcases hO with ⟨rfl, rfl, rfl⟩ | ⟨g, c', r, rfl, rfl, hc, hmx⟩
          · exact .inl ⟨rfl, rfl⟩
          · exact .inr ⟨g, rfl, rfl⟩
        have hfin : ∀ v' w', (Builtin.append_ #[t, t] ty #[v, .slice A m.length c]).run P w = .ok v' w' → w'.ownsRow w0.heap.size e' 1 v' (l.length + m.length) (l ++ m) → w.grownBy w' v.ownBlock → (v'.ownBlock = v.ownBlock ∨ v'.ownBlock = some w.heap.size) →
            Oper.wp P ⟨some d, .call ⟨.builtin .append, #[x, y], #[t, t]⟩, ty, pos, af, gd⟩ a w K Q := by
          intro v' w' hr hown' hgr hat
          have hr' : (execOp a.eval ⟨some d, .call ⟨.builtin .append, #[x, y], #[t, t]⟩, ty, pos, af, gd⟩).run P w = .ok (.value v') w' := by
            simp [execOp, resolve, invoke, builtin, hF.ev hx, hF.ev hy, hr]
          have hunch : ∀ k, k < w.heap.size → k ∉ bl So → w'.heap[k]? = w.heap[k]? := by
            intro k hk hkn
            refine hgr.block k hk (fun e => hkn ?_)
            rcases hblk with ⟨h0, _⟩ | ⟨g, h0, h1⟩
            · rw [h0] at e; cases e
            · rw [h0] at e; cases e; rw [h1]; simp
          have hstate : ∃ So', OwV e' So' v' (l ++ m) ∧ (∀ b ∈ So', w'.heap[b.1]? = some (.cells b.2.2 b.2.1 (0, 0)) ∧ (b.1 ∈ bl So ∨ w.heap.size ≤ b.1)) ∧ So'.Pairwise (fun a b => a.1 ≠ b.1) := by
            rcases hown'.2 with ⟨rfl, h0⟩ | ⟨g, c', cur, rfl, hb, hg, hle, hmx, hcs, htk⟩
            · have : l ++ m = [] := List.eq_nil_of_length_eq_zero (by simp at h0 ⊢; omega)
              exact ⟨[], .inl ⟨rfl, rfl, this⟩, fun _ h => (by cases h), .nil⟩
            · have hsplit : cur.toList = (l ++ m) ++ cur.toList.drop (l.length + m.length) := by
                rw [← htk, Nat.mul_one, List.take_append_drop]
              refine ⟨[(g, e', cur)], .inr ⟨g, c', cur.toList.drop (l.length + m.length), ?_, by simp, ?_, hmx⟩, ?_, by simp⟩
              · rw [← hsplit]
              · simp at hcs ⊢; omega
              · intro b hb
                simp only [List.mem_singleton] at hb
                subst hb
                refine ⟨hg, ?_⟩
                rcases hat with h | h
                · rcases hblk with ⟨h0, _⟩ | ⟨g', h0, h1⟩
                  · rw [h0] at h; cases h
                  · rw [h0] at h; cases h; left; rw [h1]; simp
                · cases h; right; exact Nat.le_refl _
          obtain ⟨So', hO', hb', hp'⟩ := hstate
          have hS' := st_tail (So' := So') hS hunch hgr.os hgr.tape hgr.output hgr.size hb' hp'
          refine op_val hF rfl hlt hr' fun h => k v' So' w' hO' hS' ⟨hgr.size, fun k hk hkn => ?_⟩ hunch h
          simp only [List.mem_append, not_or] at hkn
          refine ⟨hunch k hk hkn.1.2, ?_⟩
          simp only [List.mem_append, not_or]
          refine ⟨⟨hkn.1.1, fun hm => ?_⟩, hkn.2⟩
          obtain ⟨b, hb, rfl⟩ := List.mem_map.1 hm
          rcases (hb' b hb).2 with h | h
          · exact hkn.1.2 h
          · omega
        rcases A with _ | ad
        · have hmn : m = [] := by
            cases m with
            | nil => rfl
            | cons u r => obtain ⟨ad, h, _⟩ := hm (by simp); cases h
          subst hmn
          refine hfin v w ?_ (by simpa using hown) ⟨rfl, rfl, rfl, Nat.le_refl _, fun _ _ _ => rfl⟩ (.inl rfl)
          rcases hown.2 with ⟨rfl, h0⟩ | ⟨g, c', cur, rfl, _, _, hnc, _⟩
          · simp [Builtin.append_, run_underlying hu, sizeOf, typeInfo, hq, Builtin.lenOf, Builtin.firstCells]
          · simp [Builtin.append_, run_underlying hu, sizeOf, typeInfo, hq, Builtin.lenOf, Builtin.firstCells, hnc, storeCells]
        · have hcells : ∀ j u, m[j]? = some u → w.cell? (ad.add j) = some u := by
            intro j u hu'
            obtain ⟨ad', h, _, _, hc⟩ := hm (by intro e; subst e; simp at hu')
            cases h
            exact hc j u hu'
          obtain ⟨v', w', hr, h2, h3, _, h5⟩ := run_append_own_at (P := P) w w0.heap.size t ty e' i zv 1 i.bytes hu hq hz hi1 rfl hz1 (by decide) v l.length l hown ad m.length c m (by simp) hcells h1 (by simpa [maxLen] using h63) hlen hS.below.size
          exact hfin v' w' hr h2 h3 h5
  · cases ht

/-! ### Slices written out -/
theorem Cl.of_new {w : World} {X : List Nat} (hX : ∀ m ∈ X, m < w.heap.size) (cs : Array Value) (t : TypeId) : Cl (w.alloc (.cells cs t)) X (some ⟨w.heap.size, 0, none⟩) cs.toList := by
  have := Cl.of_block (heap_alloc_new w (.cells cs t)) (X := X) (fun h => by have := hX _ h; omega) cs.size
  rwa [List.take_of_length_le (by simp)] at this
theorem run_lit {t e : TypeId} {s n : Nat} {z cs : Array Value} {b : Nat} {parts : Array (Nat × Value)} (ht : sliceOf P t = some (e, s)) (he : Sw.elemOf P e = some (z, s, b)) (hn : n * s ≤ 16777216) (h0 : n * s ≠ 0)
    (hfill : Instr.fill (fun i => some (i * s, s)) (madeCells z (n * s)) parts.toList = some cs) :
    (Instr.buildSlice t n parts).run P w = .ok (.slice (some ⟨w.heap.size, 0, none⟩) n n) (w.alloc (.cells cs e)) := by
  unfold sliceOf at ht
  split at ht
  · rename_i e' hu
    cases hq : P.info? e' with
    | none => simp [hq] at ht
    | some i =>
      simp only [hq, Option.map_some, Option.some.injEq, Prod.mk.injEq] at ht
      obtain ⟨rfl, rfl⟩ := ht
      unfold Sw.elemOf at he
      cases hz : i.zero with
      | none => simp [hq, hz] at he
      | some zv =>
        simp only [hq, hz, Option.bind_some, Option.map_some, Option.some.injEq, Prod.mk.injEq] at he
        obtain ⟨rfl, _, rfl⟩ := he
        have hn' : ¬ (n * i.size > 2 ^ 24) := by omega
        have hfill' : Instr.fill (fun j => some (j * i.size, i.size)) ((Array.range (n * i.size)).map (zv.cells[· % zv.cells.size]!)) parts.toList = some cs := hfill
        simp only [Instr.buildSlice, Sem.run_bind, run_underlying hu, Result.andThen_ok, sizeOf, typeInfo]
        simp [hq, hz, zeroValue, typeInfo, h0, hfill', newRow]
        exact hn
  · cases ht
theorem op_lit {d : Nat} {t e : TypeId} {s n b : Nat} {z cs : Array Value} {parts : Array (Nat × Operand)} {vs : Array (Nat × Value)} (hF : Frm N a L) (hS : St w0 w S) (hX : ∀ m ∈ X, m < w.heap.size) (hlt : Nat.blt d N = true) (ht : sliceOf P t = some (e, s)) (he : Sw.elemOf P e = some (z, s, b)) (hn : Nat.ble (n * s) 16777216 = true) (h0 : Nat.beq (n * s) 0 = false)
    (hv : parts.map (fun p => (p.1, a.eval p.2)) = vs) (hfill : Instr.fill (fun i => some (i * s, s)) (madeCells z (n * s)) vs.toList = some cs)
    (k : ∀ g w', w.heap.size ≤ g → St w0 w' S → Ext w X w' X → Cl w' X (some ⟨g, 0, none⟩) cs.toList → Frm N (a.put (some d) (.slice (some ⟨g, 0, none⟩) n n)) ((d, .slice (some ⟨g, 0, none⟩) n n) :: L) → K (a.put (some d) (.slice (some ⟨g, 0, none⟩) n n)) w') :
    Oper.wp P ⟨some d, .buildSlice t n parts, ty, pos, af, gd⟩ a w K Q := by
  have hr := run_lit (w := w) ht he (by simpa [Nat.ble_eq] using hn) (fun e => by simp [e] at h0) hfill
  have hr' : (execOp a.eval ⟨some d, .buildSlice t n parts, ty, pos, af, gd⟩).run P w = .ok (.value (.slice (some ⟨w.heap.size, 0, none⟩) n n)) (w.alloc (.cells cs e)) := by
    have hv' : (parts.map fun x => match x with | (i, x) => (i, a.eval x)) = vs := by rw [← hv]
    simp only [execOp, hv', Sem.run_bind, hr, Result.andThen_ok, Sem.run_pure]
  exact op_val hF rfl hlt hr' fun h => k _ _ (Nat.le_refl _) (hS.alloc_ _) (Ext.alloc_ _ _ _) (Cl.of_new hX cs e) h
end
theorem lits1 {a : Act} {x : Operand} {u : Value} (h : a.eval x = u) : (#[(0, x)] : Array (Nat × Operand)).map (fun p => (p.1, a.eval p.2)) = #[(0, u)] := by simp [h]
theorem lits2 {a : Act} {x y : Operand} {u v : Value} (h : a.eval x = u) (k : a.eval y = v) : (#[(0, x), (1, y)] : Array (Nat × Operand)).map (fun p => (p.1, a.eval p.2)) = #[(0, u), (1, v)] := by simp [h, k]
theorem lits3 {a : Act} {x y z : Operand} {u v t : Value} (h : a.eval x = u) (k : a.eval y = v) (m : a.eval z = t) : (#[(0, x), (1, y), (2, z)] : Array (Nat × Operand)).map (fun p => (p.1, a.eval p.2)) = #[(0, u), (1, v), (2, t)] := by simp [h, k, m]
theorem fill_u1 {x : Nat} : Instr.fill (fun i => some (i * 1, 1)) (madeCells #[.int .u32 0] (1 * 1)) [(0, .int .u32 (x : Int))] = some (us [x]).toArray := by rw [made_us]; simp [Instr.fill, us, u32, Value.cells]
theorem fill_u2 {x y : Nat} : Instr.fill (fun i => some (i * 1, 1)) (madeCells #[.int .u32 0] (2 * 1)) [(0, .int .u32 (x : Int)), (1, .int .u32 (y : Int))] = some (us [x, y]).toArray := by rw [made_us]; simp [Instr.fill, us, u32, Value.cells, List.replicate]
theorem fill_u3 {x y z : Nat} : Instr.fill (fun i => some (i * 1, 1)) (madeCells #[.int .u32 0] (3 * 1)) [(0, .int .u32 (x : Int)), (1, .int .u32 (y : Int)), (2, .int .u32 (z : Int))] = some (us [x, y, z]).toArray := by rw [made_us]; simp [Instr.fill, us, u32, Value.cells, List.replicate]
/-- An own array whose block is forgotten is a list of limbs. -/
theorem UC.of_box {w : World} {X : List Nat} {g : Nat} {t : TypeId} {L : List Nat} (hg : w.heap[g]? = some (.cells (us L).toArray t (0, 0))) (hx : g ∉ X) (hl : L.length ≤ 9223372036854775807) : UC w X (some ⟨g, 0, none⟩) L.length L :=
  ⟨by have := Cl.of_block hg hx L.length; simpa [List.take_of_length_le] using this, Nat.le_refl _, hl⟩
theorem UC.of_ow {w0 w : World} {e : TypeId} {So F : List Bx} {v : Value} {l : List Nat} {X : List Nat} (h : OwV e So v (us l)) (hS : St w0 w (F ++ So)) (hX : ∀ m ∈ X, m < w0.heap.size) : UL w X v l := by
  obtain ⟨A, n, c, rfl, rfl, hcl, hn, hc⟩ := h.cl hS hX
  exact ⟨A, _, c, rfl, by simp, hcl, by simpa using hn, hc⟩
theorem UC.one {w : World} {X : List Nat} {A : Option Addr} {l : List Nat} (h : Cl w X A (us l)) (hl : l.length ≤ 9223372036854775807) : UC w X A l.length l := ⟨h, Nat.le_refl _, hl⟩
end Go.Sw
