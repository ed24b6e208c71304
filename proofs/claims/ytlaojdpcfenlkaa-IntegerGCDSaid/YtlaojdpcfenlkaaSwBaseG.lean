/-
  Integers in memory, and small words for the walks.
  Conditions: none.
-/
import Derived.Test.YtlaojdpcfenlkaaSwBaseF
import Derived.Test.YtlaojdpcfenlkaaSwPlainF
namespace Go.Sw
open Go Go.RowKit

theorem q_u64 {a b : Int} {x y : Nat} (ha : a = x) (hb : b = y) (hx : x ≤ 18446744073709551615) : IntKind.u64.wrap (a.tdiv b) = ((x / y : Nat) : Int) := by
  subst ha hb
  rw [← Int.ofNat_tdiv]
  have := Nat.div_le_self x y
  generalize x / y = q at this ⊢
  exact wu64 (by omega) (by omega)
theorem q_u32 {a b : Int} {x y : Nat} (ha : a = x) (hb : b = y) (hx : x ≤ 4294967295) : IntKind.u32.wrap (a.tdiv b) = ((x / y : Nat) : Int) := by
  subst ha hb
  rw [← Int.ofNat_tdiv]
  have := Nat.div_le_self x y
  generalize x / y = q at this ⊢
  exact wu32 (by omega) (by omega)
theorem q_i64 {a b : Int} {x y : Nat} (ha : a = x) (hb : b = y) (hx : x ≤ 9223372036854775807) : IntKind.i64.wrap (a.tdiv b) = ((x / y : Nat) : Int) := by
  subst ha hb
  rw [← Int.ofNat_tdiv]
  have := Nat.div_le_self x y
  generalize x / y = q at this ⊢
  exact wi64 (by omega) (by omega)
theorem r_any {a b : Int} {x y : Nat} (ha : a = x) (hb : b = y) : a.tmod b = ((x % y : Nat) : Int) := by
  subst ha hb
  exact (Int.ofNat_tmod x y).symm
theorem ev_int {L : List (Nat × Value)} {x : Operand} {k : IntKind} {a b : Int} (h : ev L x = some (.int k a)) (e : a = b) : ev L x = some (.int k b) := by rw [h, e]
theorem us_fit {L : List Nat} {i : Nat} {v : Value} (h : i < L.length) : i + (#[v] : Array Value).size ≤ ((us L).toArray).size := by simp; omega
theorem UL.own {w : World} {X : List Nat} {g n c : Nat} {t : TypeId} {L l : List Nat} (hg : w.heap[g]? = some (.cells (us L).toArray t (0, 0))) (hx : g ∉ X) (hn : n = L.length) (hc : c = L.length) (hl : L.length ≤ 9223372036854775807) (e : L = l) : UL w X (.slice (some ⟨g, 0, none⟩) n c) l := by
  subst hn hc e
  exact ⟨_, _, _, rfl, rfl, UC.of_box hg hx hl⟩
theorem UL.cap {w : World} {X : List Nat} {A : Option Addr} {n c : Nat} {l : List Nat} (h : UC w X A l.length l) (hn : n = l.length) (hc : c = l.length) : UL w X (.slice A n c) l := by
  subst hn hc
  exact ⟨_, _, _, rfl, rfl, h⟩
/-- A new array of the call's own as its result. -/
def OwnL (t : TypeId) (w w' : World) (v : Value) (l : List Nat) : Prop := ∃ g, v = .slice (some ⟨g, 0, none⟩) l.length l.length ∧ w'.heap[g]? = some (.cells (us l).toArray t (0, 0)) ∧ w.heap.size ≤ g
theorem Own.mk_ {t : TypeId} {w0 w : World} {g n c : Nat} {L l : List Nat} (hg : w.heap[g]? = some (.cells (us L).toArray t (0, 0))) (hb : w0.heap.size ≤ g) (hn : n = L.length) (hc : c = L.length) (e : L = l) : OwnL t w0 w (.slice (some ⟨g, 0, none⟩) n c) l := by
  subst hn hc e
  exact ⟨g, rfl, hg, hb⟩
theorem OwnL.ul {t : TypeId} {w w' : World} {X : List Nat} {v : Value} {l : List Nat} (h : OwnL t w w' v l) (hX : ∀ m ∈ X, m < w.heap.size) (hl : l.length ≤ 9223372036854775807) : UL w' X v l := by
  obtain ⟨g, rfl, hg, hb⟩ := h
  exact UL.own hg (fun hm => by have := hX g hm; omega) rfl rfl hl rfl
theorem St.notX {w0 w : World} {S : List Bx} {X : List Nat} (h : St w0 w S) (hX : ∀ m ∈ X, m < w0.heap.size) (k : Nat) {g : Nat} {t : TypeId} {cs : Array Value} (hk : S[k]? = some (g, t, cs)) : g ∉ X := fun hm => by
  have := hX g hm
  have := h.base k hk
  omega
theorem St.out {w0 w : World} {S : List Bx} {X : List Nat} (h : St w0 w S) (hX : ∀ m ∈ X, m < w0.heap.size) (k : Nat) {g : Nat} {t : TypeId} {cs : Array Value} (hk : S[k]? = some (g, t, cs)) : St w0 w (S.eraseIdx k) ∧ g ∉ bl (S.eraseIdx k) ++ X := by
  refine ⟨h.drop (List.eraseIdx_sublist S k), fun hm => ?_⟩
  rcases List.mem_append.1 hm with hm | hm
  · obtain ⟨b, hb, e⟩ := List.mem_map.1 hm
    obtain ⟨i, hne, hi⟩ := List.mem_eraseIdx_iff_getElem?.1 hb
    have hil : i < S.length := (List.getElem?_eq_some_iff.1 hi).1
    have hkl : k < S.length := (List.getElem?_eq_some_iff.1 hk).1
    have hiv : S[i] = b := (List.getElem?_eq_some_iff.1 hi).2
    have hkv : S[k] = (g, t, cs) := (List.getElem?_eq_some_iff.1 hk).2
    rcases Nat.lt_or_gt_of_ne hne with hlt | hgt
    · have := List.pairwise_iff_getElem.1 h.nd i k hil hkl hlt
      rw [hiv, hkv] at this; exact this e
    · have := List.pairwise_iff_getElem.1 h.nd k i hkl hil hgt
      rw [hiv, hkv] at this; exact this e.symm
  · exact h.notX hX k hk hm
/-- A block that a call has just made becomes one of the call's own. -/
theorem St.push_new {w0 w w' : World} {S : List Bx} (h : St w0 w S) (hb : Below w.heap.size w w') {g : Nat} {t : TypeId} {cs : Array Value} (hg : w'.heap[g]? = some (.cells cs t (0, 0))) (hn : w.heap.size ≤ g) : St w0 w' ((g, t, cs) :: S) :=
  (h.call hb).push hg (Nat.le_trans h.below.size hn) (fun hm => by
    obtain ⟨b, hb', e⟩ := List.mem_map.1 hm
    have := h.lt hb'
    omega)
theorem Ext.push_new {w w' : World} (X : List Nat) (hb : Below w.heap.size w w') {g : Nat} (hn : w.heap.size ≤ g) : Ext w X w' (g :: X) := (Ext.call X hb).add hn

/-! ### Integers -/
def IntV (w : World) (X : List Nat) (v : Value) (x : Int) : Prop := RawV w X v (decide (x < 0)) (lim x.natAbs)
theorem RawV.ext {w w' : World} {X X' : List Nat} {v : Value} {neg : Bool} {l : List Nat} (h : RawV w X v neg l) (e : Ext w X w' X') : RawV w' X' v neg l := by
  obtain ⟨cs, rfl, h⟩ := h
  exact ⟨cs, rfl, h.ext e⟩
theorem IntV.ext {w w' : World} {X X' : List Nat} {v : Value} {x : Int} (h : IntV w X v x) (e : Ext w X w' X') : IntV w' X' v x := RawV.ext h e
theorem lim_empty (n : Nat) : (lim n).isEmpty = decide (n = 0) := by
  by_cases h : n = 0
  · subst h; simp [lim_zero]
  · simp [lim_pos h, h]
theorem lim_len_pos (n : Nat) : decide ((lim n).length > 0) = decide (0 < n) := by
  by_cases h : n = 0
  · subst h; simp [lim_zero]
  · simp [lim_pos h]; omega
theorem trimz_sgnv {neg : Bool} {l : List Nat} (h : Lb l) : trimz l = lim (sgnv neg (val l)).natAbs := by rw [natAbs_sgnv, lim_val l h]
theorem IntV.fin {w : World} {X X' : List Nat} {v : Value} {x y : Int} (h : IntV w X v x) (e : x = y) (hx : ∀ m ∈ X', m ∈ X) : IntV w X' v y := by
  subst e
  exact h.ext (Ext.drop hx)
theorem ex_b {P : Program} {s : Sem Next} {w w' : World} {t b : Bool} (h : t = b) (hr : s.run P w = .ok (.value (.bool t)) w') : s.run P w = .ok (.value (.bool b)) w' := h ▸ hr
section
variable {P : Program} {ρ : Operand → Value} {w : World} {d : Option Tmp} {ty : TypeId} {pos : String} {af : Array Edge} {gd : Option (Nat × Bool)}
/-- The second of two fields alone. -/
theorem ex_build1 {t : TypeId} {x : Operand} {v z0 z1 : Value} (ht : two1 P t = true) (hz : zeroOf P t = some #[z0, z1]) (hx : ρ x = v) (hv : v.cells = #[v]) :
    (execOp ρ ⟨d, .build t #[(1, x)], ty, pos, af, gd⟩).run P w = .ok (.value (.agg #[z0, v])) w := by
  unfold two1 at ht
  split at ht
  · rename_i fs i hs hi
    simp only [Bool.and_eq_true, decide_eq_true_eq] at ht
    obtain ⟨⟨h1, h2⟩, h3⟩ := ht
    obtain ⟨l⟩ := fs
    obtain ⟨f0, f1, rfl⟩ : ∃ f0 f1, l = [f0, f1] := by
      have hl : l.length = 2 := by have := congrArg List.length h1; simpa using this
      match l, hl with
      | [f0, f1], _ => exact ⟨f0, f1, rfl⟩
    simp only [List.map_cons, List.map_nil, List.cons.injEq, and_true] at h1 h2
    unfold zeroOf at hz
    cases hzz : i.zero with
    | none => simp [hi, hzz] at hz
    | some z =>
      simp only [hi, hzz, Option.bind_some, Option.map_some, Option.some.injEq] at hz
      cases q0 : P.info? f0.type with
      | none => simp [q0] at h2
      | some i0 =>
        cases q1 : P.info? f1.type with
        | none => simp [q1] at h2
        | some i1 =>
          simp only [q0, q1, Option.map_some, Option.some.injEq] at h2
          simp [execOp, hx, Instr.build, zeroValue, typeInfo, hi, hzz, hz, run_underlying hs, sizeOf, q0, q1, h1.1, h1.2, h2.2, Instr.fill, hv]
  · exact absurd ht (by simp)
end
theorem wu32n {n : Nat} (h : n ≤ 4294967295) : IntKind.u32.wrap ((n : Nat) : Int) = ((n : Nat) : Int) := wu32 (by omega) (by omega)
theorem wu64n {n : Nat} (h : n ≤ 18446744073709551615) : IntKind.u64.wrap ((n : Nat) : Int) = ((n : Nat) : Int) := wu64 (by omega) (by omega)
theorem wi64n {n : Nat} (h : n ≤ 9223372036854775807) : IntKind.i64.wrap ((n : Nat) : Int) = ((n : Nat) : Int) := wi64 (by omega) (by omega)
theorem IntV.of_ {w : World} {X : List Nat} {A : Option Addr} {n c : Nat} {L : List Nat} {b : Bool} {x : Int} (h : UC w X A c L) (hn : n = L.length) (hb : b = decide (x < 0)) (e : L = lim x.natAbs) : IntV w X (.agg #[.bool b, .slice A n c]) x := by
  subst hn hb e
  exact ⟨_, rfl, _, _, rfl, h⟩
/-- A slice that has grown is read from now on. -/
theorem UC.thaw {w0 w : World} {e : TypeId} {So F : List Bx} {v : Value} {l : List Nat} {X : List Nat} (h : OwV e So v (us l)) (hS : St w0 w (F ++ So)) (hX : ∀ m ∈ X, m < w0.heap.size) : ∃ A c, v = .slice A l.length c ∧ UC w (bl F ++ X) A c l := by
  rcases h with ⟨rfl, rfl, h⟩ | ⟨g, c, r, rfl, rfl, hc, hm⟩
  · have hl : l = [] := by simpa [us] using h
    subst hl
    exact ⟨none, 0, rfl, UC.nil (by omega)⟩
  · have hb := hS.box (g, e, (us l ++ r).toArray) (by simp)
    have hnF : g ∉ bl F := by
      intro hg
      obtain ⟨b, hb1, e1⟩ := List.mem_map.1 hg
      have h1 := List.pairwise_append.1 hS.nd
      exact h1.2.2 b hb1 (g, e, (us l ++ r).toArray) (by simp) e1
    have hcl := Cl.of_block (X := bl F ++ X) hb.1 (fun hg => by
      rcases List.mem_append.1 hg with hg | hg
      · exact hnF hg
      · have := hX g hg; have := hb.2; simp only at this; omega) (us l).length
    simp only [List.take_left'] at hcl
    simp only [us_length] at hc
    refine ⟨_, c, by rw [us_length], by simpa using hcl, by omega, by simpa [maxLen] using hm⟩
/-- The operation that decides a guard was passed over itself. -/
def saidU (ops : Array Oper) (L : List (Nat × Value)) (j : Nat) : Bool :=
  match ops[j]? with
  | some o => match o.dst with
    | some d => match lk d L with
      | some (.bool _) => false
      | some _ => true
      | none => false
    | none => false
  | none => false
theorem yielded_u {ops : Array Oper} {L : List (Nat × Value)} {N : Nat} {a : Act} {j : Nat} (hF : Frm N a L) (h : saidU ops L j = true) : yielded ops a.tmps j = none := by
  unfold saidU at h
  split at h
  · rename_i o ho
    split at h
    · rename_i d hd
      split at h
      · cases h
      · rename_i v hv hl
        have hg := hF.get d _ hl
        unfold yielded
        rw [ho]
        simp only [Option.bind_some, hd]
        cases ht : a.tmps[d]? with
        | none => rfl
        | some u =>
          simp [Array.getD_eq_getD_getElem?, ht] at hg
          subst hg
          cases u with
          | bool b => exact absurd rfl (hv b)
          | _ => rfl
      · cases h
    · cases h
  · cases h
theorem st_skip_u {P : Program} {Q : Exit → Act → World → Prop} {ops : Array Oper} {o : Oper} {rest : List Oper} {a : Act} {w : World} {N : Nat} {L : List (Nat × Value)} {d j : Nat} {b : Bool} (hF : Frm N a L) (hg : o.guard = some (j, b)) (hd : o.dst = some d) (hlt : Nat.blt d N = true) (hs : saidU ops L j = true)
    (k : ∀ a', Frm N a' ((d, undef) :: L) → wpList P ops Q rest a' w) : wpList P ops Q (o :: rest) a w := by
  refine wpList_skip ?_ ?_
  · simp only [Region.wanted, hg, yielded_u hF hs]
    cases b <;> rfl
  · rw [hd]
    exact k _ (hF.put (by simpa [Nat.blt_eq] using hlt) undef)
theorem fl_skip_u {P : Program} {Q : Exit → Act → World → Prop} {l : List Oper} {i j d : Nat} {b : Bool} {o : Oper} {a : Act} {w : World} {K : Act → World → Prop} {N : Nat} {L : List (Nat × Value)} (hF : Frm N a L) (ho : l[i]? = some o) (hg : o.guard = some (j, b)) (hs : saidU l.toArray L j = true) (hd : o.dst = some d) (hK : K (a.put (some d) undef) w) : wpOp P l.toArray Q i K a w := by
  unfold wpOp
  simp only [List.getElem?_toArray, ho]
  have : Region.wanted o (yielded l.toArray a.tmps) = false := by
    simp only [Region.wanted, hg, yielded_u hF hs]
    cases b <;> rfl
  rw [this]
  simp only [Bool.false_eq_true, if_false, hd]
  exact hK
theorem neg_wrap {a : Int} (h1 : -9223372036854775808 ≤ a) (h2 : a < 0) : IntKind.i64.wrap (0 - IntKind.i64.wrap (a.natAbs : Int)) = a := by
  rw [IntKind.wrap_i64 (n := ((a.natAbs : Nat) : Int))]
  have h3 : (a.natAbs : Int) = -a := by omega
  rw [h3, IntKind.wrap_i64]
  omega
theorem pos_wrap {a : Int} (h1 : a ≤ 9223372036854775807) (h2 : ¬ a < 0) : IntKind.i64.wrap (a.natAbs : Int) = a := by
  have h3 : (a.natAbs : Int) = a := by omega
  rw [h3, IntKind.wrap_i64]
  omega
theorem neg_wrap_u {a : Int} (h1 : -9223372036854775808 ≤ a) (h2 : a < 0) : IntKind.i64.wrap (IntKind.u64.wrap (0 - (a.natAbs : Int))) = a := by
  have h3 : (a.natAbs : Int) = -a := by omega
  rw [h3, IntKind.wrap_u64, IntKind.wrap_i64]
  omega
end Go.Sw
