/-
  Empty slices written out, and slices of rows.
  Conditions: none; every rule is for any program.
-/
import Derived.Test.YtlaojdpcfenlkaaSwBaseH
import Derived.Test.YtlaojdpcfenlkaaSwPlainI
namespace Go.Sw
open Go Go.RowKit
theorem IntV.nil_ {w : World} {X : List Nat} {x : Int} (h : x = 0) : IntV w X (.agg #[.bool false, .slice none 0 0]) x := by
  subst h
  exact RawV.fin (L := []) (UL.nil_ w X) rfl (by simp [lim_zero]) (fun _ h => h)
theorem bang_t {b : Bool} (h : (!b) = true) : ¬ b = true := by cases b <;> simp_all
theorem bang_f {b : Bool} (h : (!b) = false) : ¬ ¬ b = true := by cases b <;> simp_all
section
set_option linter.unusedVariables false
variable {P : Program} {Q : Exit → Act → World → Prop} {a : Act} {w : World} {K : Act → World → Prop} {N : Nat} {L : List (Nat × Value)} {w0 : World} {S : List Bx} {X : List Nat}
variable {ty : TypeId} {pos : String} {af : Array Edge} {gd : Option (Nat × Bool)}
theorem op_lit0 {d : Nat} {t e : TypeId} {s b : Nat} {z : Array Value} (hF : Frm N a L) (hS : St w0 w S) (hlt : Nat.blt d N = true) (ht : sliceOf P t = some (e, s)) (he : Sw.elemOf P e = some (z, s, b))
    (k : ∀ g w', w.heap.size ≤ g → St w0 w' (S ++ [(g, e, #[])]) → Ext w (bl S ++ X) w' (bl S ++ (bl [(g, e, #[])] ++ X)) → OwV e [(g, e, #[])] (.slice (some ⟨g, 0, none⟩) 0 0) (us []) → Frm N (a.put (some d) (.slice (some ⟨g, 0, none⟩) 0 0)) ((d, .slice (some ⟨g, 0, none⟩) 0 0) :: L) → K (a.put (some d) (.slice (some ⟨g, 0, none⟩) 0 0)) w') :
    Oper.wp P ⟨some d, .buildSlice t 0 #[], ty, pos, af, gd⟩ a w K Q := by
  unfold sliceOf at ht
  split at ht
  · rename_i e' hu
    cases hq : P.info? e' with
    | none => simp [hq] at ht
    | some i =>
      simp only [hq, Option.map_some, Option.some.injEq, Prod.mk.injEq] at ht
      obtain ⟨rfl, rfl⟩ := ht
      have hr' : (execOp a.eval ⟨some d, .buildSlice t 0 #[], ty, pos, af, gd⟩).run P w = .ok (.value (.slice (some ⟨w.heap.size, 0, none⟩) 0 0)) (w.alloc (.cells #[] e')) := by
        simp [execOp, Instr.buildSlice, run_underlying hu, sizeOf, typeInfo, hq, Instr.fill, newRow, show Array.range 0 = #[] by decide]
      have hSp : St w0 (w.alloc (.cells #[] e')) (S ++ [(w.heap.size, e', #[])]) := (hS.alloc #[] e').perm (List.perm_append_singleton _ _).symm
      refine op_val hF rfl hlt hr' fun h => k _ _ (Nat.le_refl _) hSp ?_ (OwV.block e' w.heap.size 0 [] [] rfl (by unfold maxLen; omega)) h
      refine ⟨by simp, fun m hm hx => ⟨Below.heap_alloc w _ m hm, ?_⟩⟩
      simp only [List.mem_append, not_or] at hx ⊢
      refine ⟨hx.1, fun h' => ?_, hx.2⟩
      simp [bl] at h'
      omega
  · cases ht
end
/-! ### Slices of rows -/
def RL {M : Type} (D : World → List Nat → Value → M → Prop) (k : Nat) (w : World) (X : List Nat) (v : Value) (zs : List M) : Prop :=
  ∃ A c css, v = .slice A zs.length c ∧ Cl w X A (List.flatten css) ∧ zs.length ≤ c ∧ c ≤ 9223372036854775807 ∧ (∀ r ∈ css, r.length = k) ∧ css.length = zs.length ∧ ∀ (i : Nat) (z : M), zs[i]? = some z → D w X (.agg (css.getD i []).toArray) z
theorem flat_at {k : Nat} : ∀ {css : List (List Value)}, (∀ r ∈ css, r.length = k) → ∀ {i j : Nat} {u : Value}, (css.getD i [])[j]? = some u → (List.flatten css)[i * k + j]? = some u
  | [], _, i, j, u, h => by simp at h
  | r :: css, hk, 0, j, u, h => by
    have hr : r[j]? = some u := by simpa using h
    rw [List.flatten_cons, Nat.zero_mul, Nat.zero_add, List.getElem?_append_left (List.getElem?_eq_some_iff.1 hr).1]
    exact hr
  | r :: css, hk, i + 1, j, u, h => by
    have hr : (css.getD i [])[j]? = some u := by simpa using h
    have hl := hk r (by simp)
    rw [List.flatten_cons, List.getElem?_append_right (by rw [hl, Nat.add_mul]; omega), hl, show (i + 1) * k + j - k = i * k + j by rw [Nat.add_mul]; omega]
    exact flat_at (fun r' h' => hk r' (by simp [h'])) hr
/-- One row: where it lies, and what it holds. -/
theorem RL.at_ {M : Type} {D : World → List Nat → Value → M → Prop} {k : Nat} {w : World} {X : List Nat} {A : Option Addr} {n c : Nat} {zs : List M} {z : M} (h : RL D k w X (.slice A n c) zs) (i : Nat) (hz : zs[i]? = some z) (hk : 0 < k) :
    ∃ ad cs, A = some ad ∧ (∀ j u, cs[j]? = some u → w.cell? ((ad.add (i * k)).add j) = some u) ∧ cs.size = k ∧ D w X (.agg cs) z := by
  obtain ⟨A', c', css, hv, hcl, _, _, hk', hl, hD⟩ := h
  cases hv
  have hi : i < css.length := by rw [hl]; exact (List.getElem?_eq_some_iff.1 hz).1
  have hr : (css.getD i []).length = k := by
    rw [List.getD_eq_getElem?_getD, List.getElem?_eq_getElem hi]; exact hk' _ (List.getElem_mem hi)
  have hne : List.flatten css ≠ [] := by
    intro e
    have h0 : (css.getD i [])[0]? = some ((css.getD i [])[0]'(by omega)) := List.getElem?_eq_getElem _
    have := flat_at hk' h0
    rw [e] at this; simp at this
  obtain ⟨ad, rfl, hb, hx, hc⟩ := hcl hne
  refine ⟨ad, (css.getD i []).toArray, rfl, fun j u hu => ?_, by simpa using hr, hD i z hz⟩
  rw [add_add']
  exact hc _ u (flat_at hk' (by simpa using hu))
def RawP (w : World) (X : List Nat) (v : Value) (p : Bool × List Nat) : Prop := RawV w X v p.1 p.2
theorem RL.ext {M : Type} {D : World → List Nat → Value → M → Prop} (hD : ∀ {w w' : World} {X X' : List Nat} {v : Value} {z : M}, D w X v z → Ext w X w' X' → D w' X' v z) {k : Nat} {w w' : World} {X X' : List Nat} {v : Value} {zs : List M} (h : RL D k w X v zs) (e : Ext w X w' X') : RL D k w' X' v zs := by
  obtain ⟨A, c, css, hv, hcl, h1, h2, h3, h4, h5⟩ := h
  exact ⟨A, c, css, hv, hcl.ext e, h1, h2, h3, h4, fun i z hz => hD (h5 i z hz) e⟩
theorem RL.form {M : Type} {D : World → List Nat → Value → M → Prop} {k : Nat} {w : World} {X : List Nat} {v : Value} {zs : List M} (h : RL D k w X v zs) : ∃ A c, v = .slice A zs.length c ∧ zs.length ≤ c ∧ c ≤ 9223372036854775807 := by
  obtain ⟨A, c, css, hv, hcl, h1, h2, h3, h4, h5⟩ := h
  exact ⟨A, c, hv, h1, h2⟩
def RawsV (w : World) (X : List Nat) (v : Value) (zs : List (Bool × List Nat)) : Prop := RL RawP 2 w X v zs
theorem RawsV.ext {w w' : World} {X X' : List Nat} {v : Value} {zs : List (Bool × List Nat)} (h : RawsV w X v zs) (e : Ext w X w' X') : RawsV w' X' v zs := RL.ext (D := RawP) (fun h e => RawV.ext h e) h e
theorem RawsV.at_ {w : World} {X : List Nat} {A : Option Addr} {n c : Nat} {zs : List (Bool × List Nat)} (h : RawsV w X (.slice A n c) zs) (i : Nat) (hi : i < zs.length) :
    ∃ ad A' c', A = some ad ∧ (∀ j u, (#[.bool (zs.getD i (false, [])).1, .slice A' (zs.getD i (false, [])).2.length c'] : Array Value)[j]? = some u → w.cell? ((ad.add (i * 2)).add j) = some u) ∧ UC w X A' c' (zs.getD i (false, [])).2 := by
  have hz : zs[i]? = some (zs.getD i (false, [])) := by simp [List.getElem?_eq_getElem hi]
  obtain ⟨ad, cs, hA, hc, _, _, hv, A', c', rfl, hu⟩ := RL.at_ h i hz (by omega)
  cases hv
  exact ⟨ad, A', c', hA, hc, hu⟩
section
variable {P : Program} {ρ : Operand → Value} {w : World} {d : Option Tmp} {ty : TypeId} {pos : String} {af : Array Edge} {gd : Option (Nat × Bool)}
theorem ex_idxr {t e : TypeId} {s : Nat} {x y : Operand} {A : Option Addr} {ad : Addr} {n c : Nat} {k : IntKind} {i : Int} {j : Nat} (ht : sliceOf P t = some (e, s)) (hx : ρ x = .slice A n c) (hA : A = some ad) (hy : ρ y = .int k i) (hi : i = (j : Nat)) (h1 : j < n) :
    (execOp ρ ⟨d, .indexAddr t x y, ty, pos, af, gd⟩).run P w = .ok (.value (.pointer (some (ad.add (j * s))))) w := by
  subst hA hi
  have := ex_index_addr (w := w) (d := d) (ty := ty) (pos := pos) (af := af) (gd := gd) ht hx hy (by omega) (by omega)
  simpa using this
end
theorem RL.raw1 {w : World} {X : List Nat} {A : Option Addr} {u1 v1 : Value} {p1 : Bool × List Nat} (hc : Cl w X A [u1, v1]) (h1 : RawP w X (.agg #[u1, v1]) p1) : RL RawP 2 w X (.slice A 1 1) [p1] :=
  ⟨A, 1, [[u1, v1]], rfl, hc, by simp, by omega, by simp, rfl, fun i z hz => by
    match i with
    | 0 => simp at hz; subst hz; exact h1
    | i + 1 => simp at hz⟩
theorem RL.raw2 {w : World} {X : List Nat} {A : Option Addr} {u1 v1 u2 v2 : Value} {p1 p2 : Bool × List Nat} (hc : Cl w X A [u1, v1, u2, v2]) (h1 : RawP w X (.agg #[u1, v1]) p1) (h2 : RawP w X (.agg #[u2, v2]) p2) : RL RawP 2 w X (.slice A 2 2) [p1, p2] :=
  ⟨A, 2, [[u1, v1], [u2, v2]], rfl, hc, by simp, by omega, by simp, rfl, fun i z hz => by
    match i with
    | 0 => simp at hz; subst hz; exact h1
    | 1 => simp at hz; subst hz; exact h2
    | i + 2 => simp at hz⟩
theorem RL.raw3 {w : World} {X : List Nat} {A : Option Addr} {u1 v1 u2 v2 u3 v3 : Value} {p1 p2 p3 : Bool × List Nat} (hc : Cl w X A [u1, v1, u2, v2, u3, v3]) (h1 : RawP w X (.agg #[u1, v1]) p1) (h2 : RawP w X (.agg #[u2, v2]) p2) (h3 : RawP w X (.agg #[u3, v3]) p3) : RL RawP 2 w X (.slice A 3 3) [p1, p2, p3] :=
  ⟨A, 3, [[u1, v1], [u2, v2], [u3, v3]], rfl, hc, by simp, by omega, by simp, rfl, fun i z hz => by
    match i with
    | 0 => simp at hz; subst hz; exact h1
    | 1 => simp at hz; subst hz; exact h2
    | 2 => simp at hz; subst hz; exact h3
    | i + 3 => simp at hz⟩
theorem fill_r1 {z0 z1 a b : Value} : Instr.fill (fun i => some (i * 2, 2)) (madeCells #[z0, z1] (1 * 2)) [(0, .agg #[a, b])] = some #[a, b] := by simp [Instr.fill, madeCells, Value.cells, show Array.range 2 = #[0, 1] by decide]
theorem fill_r2 {z0 z1 a b c d : Value} : Instr.fill (fun i => some (i * 2, 2)) (madeCells #[z0, z1] (2 * 2)) [(0, .agg #[a, b]), (1, .agg #[c, d])] = some #[a, b, c, d] := by simp [Instr.fill, madeCells, Value.cells, show Array.range 4 = #[0, 1, 2, 3] by decide]
theorem fill_r3 {z0 z1 a b c d e f : Value} : Instr.fill (fun i => some (i * 2, 2)) (madeCells #[z0, z1] (3 * 2)) [(0, .agg #[a, b]), (1, .agg #[c, d]), (2, .agg #[e, f])] = some #[a, b, c, d, e, f] := by simp [Instr.fill, madeCells, Value.cells, show Array.range 6 = #[0, 1, 2, 3, 4, 5] by decide]
end Go.Sw
