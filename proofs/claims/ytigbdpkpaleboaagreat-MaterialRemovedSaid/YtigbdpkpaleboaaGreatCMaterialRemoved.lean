/-
  Writing to a variable that the caller hands on.
  Leaves of the runs of the order of roots.
  What the functions radical.plain, radical.copied, radical.Sub, radical.apart answer, each out of its text by the abstract run.
  What the functions radical.quick answer, each out of its text by the abstract run.
  What the functions radical.Sign$1, radical.Sign, radical.Cmp, radical.CmpRat answer, each out of its text by the abstract run.
  The cuts that no other one dominates reach as low as all of them.
  A cut that is divided at a point of its way reaches as low as its parts.
  The loops over lists of cuts.
  What the functions material.First, swarfref52.First answer, each out of its text by the abstract run.
  What the functions swarflaw52.of answer, each out of its text by the abstract run.
  Lists of strokes, as they come in.
  What the functions material.Removed, swarflaw52.MaterialRemoved answer, each out of its text by the abstract run.
  Removed and First tell which cut removes the material above a height first: the law returns true for every list of cuts, every height and every point.
  Conditions: none.
-/
import Derived.Test.YtigbdpkpaleboaaGreatM11
set_option linter.all false
namespace Go.Sw
open Go Go.RowKit
set_option linter.unusedVariables false
theorem setRow_sz (w : World) (g : Nat) (cs : Array Value) : (w.setRow g cs).heap.size = w.heap.size := by simp [World.setRow]
/-- A block ahead of the call's own is written over. -/
theorem St.over {w0 w : World} {S : List Bx} (h : St w0 w S) {g : Nat} (cs : Array Value) (hg : g < w0.heap.size) : St (w0.setRow g cs) (w.setRow g cs) S := by
  refine ⟨⟨h.below.os, h.below.tape, h.below.output, by rw [setRow_sz, setRow_sz]; exact h.below.size, fun k hk => ?_⟩, fun b hb => ?_, h.nd⟩
  · rw [setRow_sz] at hk
    have hb := h.below.block k hk
    by_cases e : k = g
    · subst e
      simp [World.setRow, Array.getElem?_modify, hb]
    · rw [setRow_other _ _ _ _ e, setRow_other _ _ _ _ e]; exact hb
  · obtain ⟨h1, h2⟩ := h.box b hb
    rw [setRow_sz, setRow_other _ _ _ _ (by omega)]
    exact ⟨h1, h2⟩
theorem St.grown {w0 w : World} {S : List Bx} {g : Nat} {cs : Array Value} (h : St (w0.setRow g cs) w S) : w0.grownBy w (some g) := by
  refine ⟨h.below.os, h.below.tape, h.below.output, by have := h.below.size; rwa [setRow_sz] at this, fun k hk hn => ?_⟩
  have := h.below.block k (by rw [setRow_sz]; exact hk)
  rw [this, setRow_other _ _ _ _ (fun e => hn (by rw [e]))]
section
variable {P : Program} {Q : Exit → Act → World → Prop} {a : Act} {w : World} {K : Act → World → Prop} {N : Nat} {L : List (Nat × Value)} {ρ : Operand → Value} {d : Option Nat}
variable {ty : TypeId} {pos : String} {af : Array Edge} {gd : Option (Nat × Bool)}
theorem ex_nilc {x : Operand} {ad : Addr} (hx : ρ x = .pointer (some ad)) : (execOp ρ ⟨d, .nilCheck x, ty, pos, af, gd⟩).run P w = .ok (.value (.pointer (some ad))) w := by simp [execOp, hx]
theorem op_storeg {t T : TypeId} {x y : Operand} {g off : Nat} {v : Value} {vs cs : Array Value} (hF : Frm N a L) (hg : w.heap[g]? = some (.cells cs T (0, 0)))
    (hx : ev L x = some (.pointer (some ⟨g, off, none⟩))) (hy : ev L y = some v) (hv : v.cells = vs) (hsz : (P.info? t).map (·.size) = some vs.size) (h1 : vs.toList.all Value.oneCell' = true) (hfit : off + vs.size ≤ cs.size)
    (k : K a (w.setRow g (splice cs off vs))) : Oper.wp P ⟨none, .store t x y, ty, pos, af, gd⟩ a w K Q := by
  unfold Oper.wp
  have hr : (execOp a.eval ⟨none, .store t x y, ty, pos, af, gd⟩).run P w = .ok .skip (w.setRow g (splice cs off vs)) := by
    simp [execOp, hF.ev hx, hF.ev hy, run_storeAt hv hsz h1 hg hfit]
  rw [hr]
  simp only [Oper.upon, Act.put]
  exact k
end
theorem RepC.v_eq {w : World} {X : List Nat} {u v : Value} (h : RepC w X u (.v v)) : u = v := by cases h; rfl
theorem RepL.v1 {w : World} {X : List Nat} {us : List Value} {a : Value} (h : RepL w X us [.v a]) : us = [a] := by
  obtain ⟨r, rfl, h⟩ := h.vcons
  have := h.len
  cases r with
  | nil => rfl
  | cons => simp at this
theorem RepL.v2 {w : World} {X : List Nat} {us : List Value} {a b : Value} (h : RepL w X us [.v a, .v b]) : us = [a, b] := by
  obtain ⟨r, rfl, k⟩ := h.vcons
  exact congrArg (List.cons a) k.v1
theorem RepL.of2 {w : World} {X : List Nat} {a b : Value} (h1 : a.oneCell' = true) (h2 : b.oneCell' = true) : RepL w X [a, b] [.v a, .v b] := .cons (.v _ h1) (.cons (.v _ h2) (.nil _ _))
theorem RepD.agg_v2 {w : World} {X : List Nat} {u a b : Value} (h : RepD w X u (.agg [.v a, .v b])) : u = .agg #[a, b] := by
  cases h with
  | agg h => rw [h.v2]
theorem RepD.v_eq {w : World} {X : List Nat} {u a : Value} (h : RepD w X u (.c (.v a))) : u = a := by
  cases h with
  | c h => exact h.v_eq
end Go.Sw

namespace Go.Sw
open Go
set_option linter.unusedVariables false
section
variable {a b c d e f m n : Rat}
theorem pl_1 (h : sgnR b * sgnR c = 0) : packA [AV.c (Cell.v (.int .i64 (sgnR a)))] = AV.int .i64 (exI a b c) := iE (by unfold exI; rw [if_pos (.inr h)])
theorem pl_2 (h : sgnR a = sgnR b * sgnR c) : packA [AV.c (Cell.v (.int .i64 (sgnR a)))] = AV.int .i64 (exI a b c) := iE (by unfold exI; rw [if_pos (.inl h)])
theorem pl_3 (h1 : ¬sgnR b * sgnR c = 0) (h2 : ¬sgnR a = sgnR b * sgnR c) (h3 : a = 0) : packA [AV.c (Cell.v (.int .i64 (sgnR b * sgnR c)))] = AV.int .i64 (exI a b c) := iE (by
  unfold exI; rw [if_neg (by rintro (h | h); exact h2 h; exact h1 h), if_pos (by rw [h3]; rfl)])
theorem pl_4 (h1 : ¬sgnR b * sgnR c = 0) (h2 : ¬sgnR a = sgnR b * sgnR c) (h3 : ¬a = 0) : packA [AV.c (Cell.v (.int .i64 (sgnR a * cmpR (a * a) (b * b * c))))] = AV.int .i64 (exI a b c) := tw_4 h3 h1 h2
theorem qk_n (h : ¬Qk a b c d m n) : packA [AV.c (Cell.v (.int .i64 0)), AV.c (Cell.v (.bool false))] = AV.tup [AV.int .i64 (quickA a b c d m n).1, AV.bool (quickA a b c d m n).2] := by
  rw [quickA_n h]; rfl
theorem rsg_1 (hm : 0 ≤ m) (hn : 0 ≤ n) (h : (quickA a b c d m n).2 = true) : packA [AV.c (Cell.v (.int .i64 (quickA a b c d m n).1))] = AV.int .i64 (sg4 a b c d m n) := iE (quickA_sg hm hn h)
theorem cp_1 (hc : 0 ≤ c) (hf : 0 ≤ f) (h1 : b = 0) (h2 : e = 0) : packA [AV.c (Cell.v (.int .i64 (cmpR a d)))] = AV.int .i64 (cmp4 a b c d e f) := by
  subst h1 h2; exact iE (cmp4_rat hc hf).symm
theorem cp_2 (hc : 0 ≤ c) (hf : 0 ≤ f) (h : (apartI (rootI a b c) (rootI d e f)).2 = true) : packA [AV.c (Cell.v (.int .i64 (apartI (rootI a b c) (rootI d e f)).1))] = AV.int .i64 (cmp4 a b c d e f) := iE (apartI_cmp hc hf h)
theorem cp_3 (hc : 0 ≤ c) (h : c = f) : packA [AV.c (Cell.v (.int .i64 (exI (a - d) (b - e) c)))] = AV.int .i64 (cmp4 a b c d e f) := by
  subst h; exact iE (cmp4_one hc).symm
theorem cp_4 (h : c = f) : True := trivial
theorem ap_n1 (h : (rootI a b c).isSome = false) : packA [AV.c (Cell.v (.int .i64 0)), AV.c (Cell.v (.bool false))] = AV.tup [AV.int .i64 (apartI (rootI a b c) (rootI d e f)).1, AV.bool (apartI (rootI a b c) (rootI d e f)).2] := by
  cases hq : rootI a b c with
  | none => rfl
  | some x => rw [hq] at h; cases h
theorem ap_n2 (h : (rootI d e f).isSome = false) : packA [AV.c (Cell.v (.int .i64 0)), AV.c (Cell.v (.bool false))] = AV.tup [AV.int .i64 (apartI (rootI a b c) (rootI d e f)).1, AV.bool (apartI (rootI a b c) (rootI d e f)).2] := by
  cases hq : rootI d e f with
  | none => cases hr : rootI a b c <;> rfl
  | some x => rw [hq] at h; cases h
theorem ap_lt (h1 : (rootI a b c).isSome = true) (h2 : (rootI d e f).isSome = true) (h : ((rootI a b c).getD (0, 0)).2 < ((rootI d e f).getD (0, 0)).1) :
    packA [AV.c (Cell.v (.int .i64 (-1))), AV.c (Cell.v (.bool true))] = AV.tup [AV.int .i64 (apartI (rootI a b c) (rootI d e f)).1, AV.bool (apartI (rootI a b c) (rootI d e f)).2] := by
  cases hq : rootI a b c with
  | none => rw [hq] at h1; cases h1
  | some x => cases hr : rootI d e f with
    | none => rw [hr] at h2; cases h2
    | some y => rw [hq, hr] at h; unfold apartI; simp only [Option.getD_some] at *; rw [if_pos h]; rfl
theorem ap_gt (h1 : (rootI a b c).isSome = true) (h2 : (rootI d e f).isSome = true) (h0 : ¬((rootI a b c).getD (0, 0)).2 < ((rootI d e f).getD (0, 0)).1) (h : ((rootI a b c).getD (0, 0)).1 > ((rootI d e f).getD (0, 0)).2) :
    packA [AV.c (Cell.v (.int .i64 1)), AV.c (Cell.v (.bool true))] = AV.tup [AV.int .i64 (apartI (rootI a b c) (rootI d e f)).1, AV.bool (apartI (rootI a b c) (rootI d e f)).2] := by
  cases hq : rootI a b c with
  | none => rw [hq] at h1; cases h1
  | some x => cases hr : rootI d e f with
    | none => rw [hr] at h2; cases h2
    | some y => rw [hq, hr] at h h0; unfold apartI; simp only [Option.getD_some] at *; rw [if_neg h0, if_pos h]; rfl
theorem ap_no (h1 : (rootI a b c).isSome = true) (h2 : (rootI d e f).isSome = true) (h0 : ¬((rootI a b c).getD (0, 0)).2 < ((rootI d e f).getD (0, 0)).1) (h : ¬((rootI a b c).getD (0, 0)).1 > ((rootI d e f).getD (0, 0)).2) :
    packA [AV.c (Cell.v (.int .i64 0)), AV.c (Cell.v (.bool false))] = AV.tup [AV.int .i64 (apartI (rootI a b c) (rootI d e f)).1, AV.bool (apartI (rootI a b c) (rootI d e f)).2] := by
  cases hq : rootI a b c with
  | none => rw [hq] at h1; cases h1
  | some x => cases hr : rootI d e f with
    | none => rw [hr] at h2; cases h2
    | some y => rw [hq, hr] at h h0; unfold apartI; simp only [Option.getD_some] at *; rw [if_neg h0, if_neg h]; rfl
end
end Go.Sw

namespace Go.Proofs.YtigbdpkpaleboaaGreat
open Go Go.RowKit Go.Sw
set_option linter.unusedVariables false
set_option maxRecDepth 100000
set_option maxHeartbeats 8000000
set_option synthInstance.maxSize 4000
set_option synthInstance.maxHeartbeats 400000
theorem off157_0 : fieldOff Tryz.prog 157 0 = some 0 := by kernel_rfl
theorem one4 : isOne Tryz.prog 4 = true := by kernel_rfl
theorem row139 : isRow Tryz.prog 139 2 = true := by kernel_rfl

theorem with_true {w : World} {X : List Nat} {g : Nat} {T : TypeId} {l h : Int} {q : Bool} (hX : ∀ m ∈ X, m < w.heap.size) (hg : w.heap[g]? = some (.cells #[.bool true] T (0, 0))) :
    Calls Tryz.prog 164 #[.pointer (some ⟨g, 0, none⟩), .agg #[.int .i64 l, .int .i64 h], .bool q] w (Ret fun u w' => RepR w' X u (.agg [.v (.int .i64 l), .v (.int .i64 h)]) ∧ w.grownBy w' (some g) ∧ ∃ us' : List Value, w'.heap[g]? = some (.cells us'.toArray T (0, 0)) ∧ RepL w' X us' [.v (.bool q)]) := by
 have hgw : g < w.heap.size := by
  rcases Nat.lt_or_ge g w.heap.size with k | k
  · exact k
  · rw [Array.getElem?_eq_none k] at hg; cases hg
 refine enter (N := 18) (fn := Tryz.f164) (vs := [.pointer (some ⟨g, 0, none⟩), .agg #[.int .i64 l, .int .i64 h], .bool q]) Tryz.func164 rfl rfl rfl ?_
 intro fa hF
 replace hF : Frm 18 fa [(0, .pointer (some ⟨g, 0, none⟩)), (1, .agg #[.int .i64 l, .int .i64 h]), (2, .bool q)] := hF
 have hS := St.refl w
 refine c_seq ?_
 refine c_reg ?_
 refine st rfl (op_box (X := X) hF hS rfl rfl rfl ?_)
 intro g1 w2 hg4 hS E3; refine gen_ ?_; clear hF fa; intro fa hF
 replace hS : St w w2 [(g1, 139, #[.int .i64 l, .int .i64 h])] := hS
 refine st rfl (op_alloc (X := (g1 :: X)) hF hS rfl (show zeroOf Tryz.prog 139 = some #[.int .i64 0, .int .i64 0] by kernel_rfl) ?_)
 intro g5 w6 hg8 hS E7; refine gen_ ?_; clear hF fa; intro fa hF
 replace hS : St w w6 [(g5, 139, #[.int .i64 0, .int .i64 0]), (g1, 139, #[.int .i64 l, .int .i64 h])] := hS
 have hg6 : w6.heap[g]? = some (.cells #[.bool true] T (0, 0)) := by rw [hS.below.block g hgw]; exact hg
 refine c_nil_then ?_
 refine c_seq ?_
 refine c_reg ?_
 refine st_val hF rfl rfl rfl (ex_move (hF.ev rfl)) ?_
 clear hF fa; intro fa hF
 refine st_val hF rfl rfl rfl (ex_move (hF.ev rfl)) ?_
 clear hF fa; intro fa hF
 refine st_val hF rfl rfl rfl (ex_nilc (hF.ev rfl)) ?_
 clear hF fa; intro fa hF
 refine st_val hF rfl rfl rfl (ex_field_addr off157_0 (hF.ev rfl)) ?_
 clear hF fa; intro fa hF
 refine st_val hF rfl rfl rfl (ex_load1b one4 (hF.ev rfl) hg6 rfl) ?_
 clear hF fa; intro fa hF
 refine st_val hF rfl rfl rfl (ex_move (hF.ev rfl)) ?_
 clear hF fa; intro fa hF
 refine stg_val hF rfl rfl rfl rfl (ex_move (hF.ev rfl)) ?_
 clear hF fa; intro fa hF
 refine st_val hF rfl rfl rfl (ex_pick (hF.ev rfl) (fun _ => hF.ev rfl) (v := undef) (fun h => by cases h) rfl) ?_
 clear hF fa; intro fa hF
 refine st_val hF rfl rfl rfl (ex_nilc (hF.ev rfl)) ?_
 clear hF fa; intro fa hF
 refine st_val hF rfl rfl rfl (ex_field_addr off157_0 (hF.ev rfl)) ?_
 clear hF fa; intro fa hF
 refine st rfl (op_storeg (vs := #[.bool q]) hF hg6 rfl rfl rfl (show (Tryz.prog.info? 4).map (fun i => i.size) = some 1 by kernel_rfl) rfl (Nat.le_of_ble_eq_true rfl) ?_)
 replace hS := hS.over (splice #[.bool true] 0 #[.bool q]) hgw
 have hg7 : (w6.setRow g (splice #[.bool true] 0 #[.bool q])).heap[g]? = some (.cells #[.bool q] T (0, 0)) := setRow_heap w6 g _ _ T _ hg6
 generalize w6.setRow g (splice #[.bool true] 0 #[.bool q]) = w7 at *
 refine c_nil_then ?_
 refine c_seq ?_
 refine c_reg ?_
 refine st_val hF rfl rfl rfl (ex_loadb row139 (hF.ev rfl) (hS.get 1 rfl) rfl) ?_
 clear hF fa; intro fa hF
 refine st rfl (op_store (X := (g5 :: (g1 :: X))) hF hS 0 rfl (by simp) rfl rfl rfl (show (Tryz.prog.info? 139).map (fun i => i.size) = some 2 by kernel_rfl) rfl (Nat.le_of_ble_eq_true rfl) ?_)
 intro w8 hS E9
 have hg8' : w8.heap[g]? = some (.cells #[.bool q] T (0, 0)) := by rw [hS.below.block g (by rw [setRow_sz]; exact hgw), setRow_heap w g _ _ T _ hg]; rfl
 replace hS : St (w.setRow g (splice #[.bool true] 0 #[.bool q])) w8 [(g5, 139, #[.int .i64 l, .int .i64 h]), (g1, 139, #[.int .i64 l, .int .i64 h])] := hS
 refine c_nil_then ?_
 refine c_ret ?_
 refine end1 hF rfl (res_cell hF rfl row139 (hS.get 0 rfl) rfl) ?_
 exact ⟨_, rfl, .d (.agg (.of2 rfl rfl)), hS.grown, [.bool q], hg8', .cons (.v _ rfl) (.nil _ _)⟩

theorem with_false {w : World} {X : List Nat} {g : Nat} {T : TypeId} {l h : Int} {q : Bool} (hX : ∀ m ∈ X, m < w.heap.size) (hg : w.heap[g]? = some (.cells #[.bool false] T (0, 0))) :
    Calls Tryz.prog 164 #[.pointer (some ⟨g, 0, none⟩), .agg #[.int .i64 l, .int .i64 h], .bool q] w (Ret fun u w' => RepR w' X u (.agg [.v (.int .i64 l), .v (.int .i64 h)]) ∧ w.grownBy w' (some g) ∧ ∃ us' : List Value, w'.heap[g]? = some (.cells us'.toArray T (0, 0)) ∧ RepL w' X us' [.v (.bool false)]) := by
 have hgw : g < w.heap.size := by
  rcases Nat.lt_or_ge g w.heap.size with k | k
  · exact k
  · rw [Array.getElem?_eq_none k] at hg; cases hg
 refine enter (N := 18) (fn := Tryz.f164) (vs := [.pointer (some ⟨g, 0, none⟩), .agg #[.int .i64 l, .int .i64 h], .bool q]) Tryz.func164 rfl rfl rfl ?_
 intro fa hF
 replace hF : Frm 18 fa [(0, .pointer (some ⟨g, 0, none⟩)), (1, .agg #[.int .i64 l, .int .i64 h]), (2, .bool q)] := hF
 have hS := St.refl w
 refine c_seq ?_
 refine c_reg ?_
 refine st rfl (op_box (X := X) hF hS rfl rfl rfl ?_)
 intro g1 w2 hg4 hS E3; refine gen_ ?_; clear hF fa; intro fa hF
 replace hS : St w w2 [(g1, 139, #[.int .i64 l, .int .i64 h])] := hS
 refine st rfl (op_alloc (X := (g1 :: X)) hF hS rfl (show zeroOf Tryz.prog 139 = some #[.int .i64 0, .int .i64 0] by kernel_rfl) ?_)
 intro g5 w6 hg8 hS E7; refine gen_ ?_; clear hF fa; intro fa hF
 replace hS : St w w6 [(g5, 139, #[.int .i64 0, .int .i64 0]), (g1, 139, #[.int .i64 l, .int .i64 h])] := hS
 have hg6 : w6.heap[g]? = some (.cells #[.bool false] T (0, 0)) := by rw [hS.below.block g hgw]; exact hg
 refine c_nil_then ?_
 refine c_seq ?_
 refine c_reg ?_
 refine st_val hF rfl rfl rfl (ex_move (hF.ev rfl)) ?_
 clear hF fa; intro fa hF
 refine st_val hF rfl rfl rfl (ex_move (hF.ev rfl)) ?_
 clear hF fa; intro fa hF
 refine st_val hF rfl rfl rfl (ex_nilc (hF.ev rfl)) ?_
 clear hF fa; intro fa hF
 refine st_val hF rfl rfl rfl (ex_field_addr off157_0 (hF.ev rfl)) ?_
 clear hF fa; intro fa hF
 refine st_val hF rfl rfl rfl (ex_load1b one4 (hF.ev rfl) hg6 rfl) ?_
 clear hF fa; intro fa hF
 refine st_val hF rfl rfl rfl (ex_move (hF.ev rfl)) ?_
 clear hF fa; intro fa hF
 refine st_skip hF rfl rfl rfl rfl rfl ?_
 clear hF fa; intro fa hF
 refine st_val hF rfl rfl rfl (ex_pick (hF.ev rfl) (u := undef) (fun h => by cases h) (fun _ => hF.ev rfl) rfl) ?_
 clear hF fa; intro fa hF
 refine st_val hF rfl rfl rfl (ex_nilc (hF.ev rfl)) ?_
 clear hF fa; intro fa hF
 refine st_val hF rfl rfl rfl (ex_field_addr off157_0 (hF.ev rfl)) ?_
 clear hF fa; intro fa hF
 refine st rfl (op_storeg (vs := #[.bool false]) hF hg6 rfl rfl rfl (show (Tryz.prog.info? 4).map (fun i => i.size) = some 1 by kernel_rfl) rfl (Nat.le_of_ble_eq_true rfl) ?_)
 replace hS := hS.over (splice #[.bool false] 0 #[.bool false]) hgw
 have hg7 : (w6.setRow g (splice #[.bool false] 0 #[.bool false])).heap[g]? = some (.cells #[.bool false] T (0, 0)) := setRow_heap w6 g _ _ T _ hg6
 generalize w6.setRow g (splice #[.bool false] 0 #[.bool false]) = w7 at *
 refine c_nil_then ?_
 refine c_seq ?_
 refine c_reg ?_
 refine st_val hF rfl rfl rfl (ex_loadb row139 (hF.ev rfl) (hS.get 1 rfl) rfl) ?_
 clear hF fa; intro fa hF
 refine st rfl (op_store (X := (g5 :: (g1 :: X))) hF hS 0 rfl (by simp) rfl rfl rfl (show (Tryz.prog.info? 139).map (fun i => i.size) = some 2 by kernel_rfl) rfl (Nat.le_of_ble_eq_true rfl) ?_)
 intro w8 hS E9
 have hg8' : w8.heap[g]? = some (.cells #[.bool false] T (0, 0)) := by rw [hS.below.block g (by rw [setRow_sz]; exact hgw), setRow_heap w g _ _ T _ hg]; rfl
 replace hS : St (w.setRow g (splice #[.bool false] 0 #[.bool false])) w8 [(g5, 139, #[.int .i64 l, .int .i64 h]), (g1, 139, #[.int .i64 l, .int .i64 h])] := hS
 refine c_nil_then ?_
 refine c_ret ?_
 refine end1 hF rfl (res_cell hF rfl row139 (hS.get 0 rfl) rfl) ?_
 exact ⟨_, rfl, .d (.agg (.of2 rfl rfl)), hS.grown, [.bool false], hg8', .cons (.v _ rfl) (.nil _ _)⟩

instance x_with (p q : Bool) (l h : Int) : DenI Tryz.prog 164 [.tup [.agg [.v (.bool p)]], .agg [.v (.int .i64 l), .v (.int .i64 h)], .bool q] True (.tup [.agg [.v (.bool (p && q))], .agg [.v (.int .i64 l), .v (.int .i64 h)]]) :=
 ⟨fun _ => ⟨by kernel_rfl, fun w X g T us vs hX hg hU hl hv => by
  match vs, hl with
  | [u, v], _ =>
   have e1 := (hv 0 u _ rfl rfl).agg_v2
   have e2 := (hv 1 v _ rfl rfl).v_eq
   have e3 := hU.v1
   subst e1 e2 e3
   cases p with
   | true => exact with_true hX hg
   | false => exact with_false hX hg⟩⟩

instance x_plain (a b c : Rat) : DenI Tryz.prog 103 [R a, R b, R c] (rz a ≤ 3300000 ∧ rz b ≤ 3300000 ∧ rz c ≤ 3300000) (.int .i64 (exI a b c)) := ⟨fun hp => by
 have i_a : RzB a 3300000 := ⟨hp.1⟩
 have i_b : RzB b 3300000 := ⟨hp.2.1⟩
 have i_c : RzB c 3300000 := ⟨hp.2.2⟩
 all_goals refine den_of (τ := tab) tab_ok mixed_ Tryz.func103 rfl (by kernel_rfl) (by kernel_rfl) (by kernel_rfl) ?_
 all_goals (repeat' ((try (conv => whnf)); first
  | refine call_0 ?_
  | refine call_i ?_ ?_
  | refine call_c ?_ (fun _ => ?_) (fun _ => ?_)
  | (with_reducible refine onB_t ?_)
  | (with_reducible refine onB_f ?_)
  | (with_reducible refine onB_d (fun _ => ?_) (fun _ => ?_))
  | (with_reducible refine onB_n (fun _ => ?_) (fun _ => ?_))
  | refine OnB.mk (fun _ => ?_) (fun _ => ?_)
  | refine obl_i ?_ ?_
  | refine Drw.mk (by kernel_rfl) ?_
  | refine mks_i ?_ ?_
  | refine slp_i ?_ ?_
  | (with_reducible refine elem_u ?_ ?_)
  | (with_reducible refine elem_0 ?_)
  | (with_reducible refine elem_1 ?_)
  | refine Ends.mk ?_))
 all_goals (try refine Pr.mk ?_)
 all_goals (try simp only [sgnI_lt0, sgnI_zero, sgnI_le0, sgnI_gt0, sgnI_ge0, sgnI_eq1, cmpI_lt0, cmpI_gt0, cmpI_eq0, cmpI_le0, cmpI_ge0, cmpR_of, sgnR_of, sgnR_lt0, sgnR_eq0, sgnR_gt0, sgnR_le0, sgnR_ge0, sgnR_eq1, cmpR_lt0, cmpR_gt0, cmpR_eq0, cmpR_le0, cmpR_ge0] at *)
 all_goals (try simp only [w_ss, w_sc, w_xs, w_xx] at *)
 all_goals first
  | contradiction
  | with_reducible exact pl_1 (by assumption)
  | with_reducible exact pl_2 (by assumption)
  | with_reducible exact pl_3 (by assumption) (by assumption) (by assumption)
  | with_reducible exact pl_4 (by assumption) (by assumption) (by assumption)
  | ((repeat' apply And.intro) <;> first | assumption | exact rzb (by omega) | exact szb (by omega) | exact Int.mul_ne_zero (den_ne _) (den_ne _))⟩

instance x_copied (a : Rat) : DenI Tryz.prog 140 [R a] (rz a ≤ 4000000) (R a) := ⟨fun hp => by
 have i_a : RzB a 4000000 := ⟨hp⟩
 all_goals refine den_of (τ := tab) tab_ok mixed_ Tryz.func140 rfl (by kernel_rfl) (by kernel_rfl) (by kernel_rfl) ?_
 all_goals (repeat' ((try (conv => whnf)); first
  | refine call_0 ?_
  | refine call_i ?_ ?_
  | refine call_c ?_ (fun _ => ?_) (fun _ => ?_)
  | (with_reducible refine onB_t ?_)
  | (with_reducible refine onB_f ?_)
  | (with_reducible refine onB_d (fun _ => ?_) (fun _ => ?_))
  | (with_reducible refine onB_n (fun _ => ?_) (fun _ => ?_))
  | refine OnB.mk (fun _ => ?_) (fun _ => ?_)
  | refine obl_i ?_ ?_
  | refine Drw.mk (by kernel_rfl) ?_
  | refine mks_i ?_ ?_
  | refine slp_i ?_ ?_
  | (with_reducible refine elem_u ?_ ?_)
  | (with_reducible refine elem_0 ?_)
  | (with_reducible refine elem_1 ?_)
  | refine Ends.mk ?_))
 all_goals (try refine Pr.mk ?_)
 all_goals (try simp only [sgnI_lt0, sgnI_zero, sgnI_le0, sgnI_gt0, sgnI_ge0, sgnI_eq1, cmpI_lt0, cmpI_gt0, cmpI_eq0, cmpI_le0, cmpI_ge0, cmpR_of, sgnR_of, sgnR_lt0, sgnR_eq0, sgnR_gt0, sgnR_le0, sgnR_ge0, sgnR_eq1, cmpR_lt0, cmpR_gt0, cmpR_eq0, cmpR_le0, cmpR_ge0] at *)
 all_goals first
  | exact congrArg R (Rat.neg_neg a)
  | rfl
  | (simp only [redB, redC, mkA, mkB, mkC, cooC, ptC, *, true_or, or_true, if_true, if_false, or_self, and_self, and_true, true_and, and_false, false_and, not_true, not_false_iff, Bool.false_eq_true, decide_true, decide_false, Bool.or_true, Bool.true_or, Bool.or_false, Bool.false_or]; rfl)
  | ((repeat' apply And.intro) <;> first | assumption | exact rzb (by omega) | exact szb (by omega) | exact Int.mul_ne_zero (den_ne _) (den_ne _))
  | (exfalso; simp_all; done)
  | (exfalso; grind)
  | omega
  | ((repeat' apply And.intro) <;> first | assumption | exact rzb (by omega) | exact szb (by omega) | exact Int.mul_ne_zero (den_ne _) (den_ne _))⟩

instance x_rsub (a b c d e f : Rat) : DenI Tryz.prog 105 [Q3 a b c, Q3 d e f] (rz a ≤ 20000 ∧ rz b ≤ 20000 ∧ rz c ≤ 20000 ∧ rz d ≤ 20000 ∧ rz e ≤ 20000 ∧ rz f ≤ 20000) (Q6 (a - d) b (-e) 0 c f) := ⟨fun hp => by
 have i_a : RzB a 20000 := ⟨hp.1⟩
 have i_b : RzB b 20000 := ⟨hp.2.1⟩
 have i_c : RzB c 20000 := ⟨hp.2.2.1⟩
 have i_d : RzB d 20000 := ⟨hp.2.2.2.1⟩
 have i_e : RzB e 20000 := ⟨hp.2.2.2.2.1⟩
 have i_f : RzB f 20000 := ⟨hp.2.2.2.2.2⟩
 all_goals refine den_of (τ := tab) tab_ok mixed_ Tryz.func105 rfl (by kernel_rfl) (by kernel_rfl) (by kernel_rfl) ?_
 all_goals (repeat' ((try (conv => whnf)); first
  | refine call_0 ?_
  | refine call_i ?_ ?_
  | refine call_c ?_ (fun _ => ?_) (fun _ => ?_)
  | (with_reducible refine onB_t ?_)
  | (with_reducible refine onB_f ?_)
  | (with_reducible refine onB_d (fun _ => ?_) (fun _ => ?_))
  | (with_reducible refine onB_n (fun _ => ?_) (fun _ => ?_))
  | refine OnB.mk (fun _ => ?_) (fun _ => ?_)
  | refine obl_i ?_ ?_
  | refine Drw.mk (by kernel_rfl) ?_
  | refine mks_i ?_ ?_
  | refine slp_i ?_ ?_
  | (with_reducible refine elem_u ?_ ?_)
  | (with_reducible refine elem_0 ?_)
  | (with_reducible refine elem_1 ?_)
  | refine Ends.mk ?_))
 all_goals (try refine Pr.mk ?_)
 all_goals (try simp only [sgnI_lt0, sgnI_zero, sgnI_le0, sgnI_gt0, sgnI_ge0, sgnI_eq1, cmpI_lt0, cmpI_gt0, cmpI_eq0, cmpI_le0, cmpI_ge0, cmpR_of, sgnR_of, sgnR_lt0, sgnR_eq0, sgnR_gt0, sgnR_le0, sgnR_ge0, sgnR_eq1, cmpR_lt0, cmpR_gt0, cmpR_eq0, cmpR_le0, cmpR_ge0] at *)
 all_goals first
  | rfl
  | (simp only [redB, redC, mkA, mkB, mkC, cooC, ptC, *, true_or, or_true, if_true, if_false, or_self, and_self, and_true, true_and, and_false, false_and, not_true, not_false_iff, Bool.false_eq_true, decide_true, decide_false, Bool.or_true, Bool.true_or, Bool.or_false, Bool.false_or]; rfl)
  | ((repeat' apply And.intro) <;> first | assumption | exact rzb (by omega) | exact szb (by omega) | exact Int.mul_ne_zero (den_ne _) (den_ne _))
  | (exfalso; simp_all; done)
  | (exfalso; grind)
  | omega
  | ((repeat' apply And.intro) <;> first | assumption | exact rzb (by omega) | exact szb (by omega) | exact Int.mul_ne_zero (den_ne _) (den_ne _))⟩

instance x_apart (a b c d e f : Rat) : DenI Tryz.prog 102 [Q3 a b c, Q3 d e f] (rz a ≤ 20000 ∧ rz b ≤ 20000 ∧ rz c ≤ 20000 ∧ rz d ≤ 20000 ∧ rz e ≤ 20000 ∧ rz f ≤ 20000) (.tup [.int .i64 (apartI (rootI a b c) (rootI d e f)).1, .bool (apartI (rootI a b c) (rootI d e f)).2]) := ⟨fun hp => by
 have i_a : RzB a 20000 := ⟨hp.1⟩
 have i_b : RzB b 20000 := ⟨hp.2.1⟩
 have i_c : RzB c 20000 := ⟨hp.2.2.1⟩
 have i_d : RzB d 20000 := ⟨hp.2.2.2.1⟩
 have i_e : RzB e 20000 := ⟨hp.2.2.2.2.1⟩
 have i_f : RzB f 20000 := ⟨hp.2.2.2.2.2⟩
 all_goals refine den_of (τ := tab) tab_ok mixed_ Tryz.func102 rfl (by kernel_rfl) (by kernel_rfl) (by kernel_rfl) ?_
 all_goals (repeat' ((try (conv => whnf)); first
  | refine call_0 ?_
  | refine call_i ?_ ?_
  | refine call_c ?_ (fun _ => ?_) (fun _ => ?_)
  | (with_reducible refine onB_t ?_)
  | (with_reducible refine onB_f ?_)
  | (with_reducible refine onB_d (fun _ => ?_) (fun _ => ?_))
  | (with_reducible refine onB_n (fun _ => ?_) (fun _ => ?_))
  | refine OnB.mk (fun _ => ?_) (fun _ => ?_)
  | refine obl_i ?_ ?_
  | refine Drw.mk (by kernel_rfl) ?_
  | refine mks_i ?_ ?_
  | refine slp_i ?_ ?_
  | (with_reducible refine elem_u ?_ ?_)
  | (with_reducible refine elem_0 ?_)
  | (with_reducible refine elem_1 ?_)
  | refine Ends.mk ?_))
 all_goals (try refine Pr.mk ?_)
 all_goals (try simp only [sgnI_lt0, sgnI_zero, sgnI_le0, sgnI_gt0, sgnI_ge0, sgnI_eq1, cmpI_lt0, cmpI_gt0, cmpI_eq0, cmpI_le0, cmpI_ge0, cmpR_of, sgnR_of, sgnR_lt0, sgnR_eq0, sgnR_gt0, sgnR_le0, sgnR_ge0, sgnR_eq1, cmpR_lt0, cmpR_gt0, cmpR_eq0, cmpR_le0, cmpR_ge0] at *)
 all_goals first
  | (refine ap_n1 ?_; simp_all; done)
  | (refine ap_n2 ?_; simp_all; done)
  | (refine ap_lt ?_ ?_ ?_ <;> first | assumption | (simp_all; done))
  | (refine ap_gt ?_ ?_ ?_ ?_ <;> first | assumption | (simp_all; done))
  | (refine ap_no ?_ ?_ ?_ ?_ <;> first | assumption | (simp_all; done))
  | ((repeat' apply And.intro) <;> first | assumption | exact rzb (by omega) | exact szb (by omega) | exact Int.mul_ne_zero (den_ne _) (den_ne _))⟩

end Go.Proofs.YtigbdpkpaleboaaGreat

namespace Go.Proofs.YtigbdpkpaleboaaGreat
open Go Go.RowKit Go.Sw
set_option linter.unusedVariables false
set_option maxRecDepth 100000
set_option maxHeartbeats 8000000
set_option synthInstance.maxSize 4000
set_option synthInstance.maxHeartbeats 400000
instance x_quick (a b c d m n : Rat) : DenI Tryz.prog 138 [Q6 a b c d m n] (rz a ≤ 80010 ∧ rz b ≤ 80010 ∧ rz c ≤ 80010 ∧ rz d ≤ 80010 ∧ rz m ≤ 80010 ∧ rz n ≤ 80010) (.tup [.int .i64 (quickA a b c d m n).1, .bool (quickA a b c d m n).2]) := ⟨fun hp => by
 have z_a := ivB_from a
 have z_b := ivB_from b
 have z_c := ivB_from c
 have z_d := ivB_from d
 have z_m := ivB_from m
 have z_n := ivB_from n
 have z1 := ivB_sqrt z_m
 have z2 := ivB_sqrt z_n
 have z3 := ivB_mul (gF b) (gS m)
 have z4 := ivB_mul (gF c) (gS n)
 have z5 := ivB_mul (gS m) (gS n)
 have z6 := ivB_mul (gF d) (gK m n)
 have z7 := ivB_add z_a z3
 have z8 := ivB_add z4 z6
 have z9 := ivB_add z7 z8
 have i_a : RzB a 80010 := ⟨hp.1⟩
 have i_b : RzB b 80010 := ⟨hp.2.1⟩
 have i_c : RzB c 80010 := ⟨hp.2.2.1⟩
 have i_d : RzB d 80010 := ⟨hp.2.2.2.1⟩
 have i_m : RzB m 80010 := ⟨hp.2.2.2.2.1⟩
 have i_n : RzB n 80010 := ⟨hp.2.2.2.2.2⟩
 all_goals refine den_of (τ := tab) tab_ok mixed_ Tryz.func138 rfl (by kernel_rfl) (by kernel_rfl) (by kernel_rfl) ?_
 all_goals (repeat' ((try (conv => whnf)); first
  | refine call_0 ?_
  | refine call_i ?_ ?_
  | refine call_c ?_ (fun _ => ?_) (fun _ => ?_)
  | (with_reducible refine onB_t ?_)
  | (with_reducible refine onB_f ?_)
  | (with_reducible refine onB_d (fun _ => ?_) (fun _ => ?_))
  | (with_reducible refine onB_n (fun _ => ?_) (fun _ => ?_))
  | refine OnB.mk (fun _ => ?_) (fun _ => ?_)
  | refine obl_i ?_ ?_
  | refine Drw.mk (by kernel_rfl) ?_
  | refine mks_i ?_ ?_
  | refine slp_i ?_ ?_
  | (with_reducible refine elem_u ?_ ?_)
  | (with_reducible refine elem_0 ?_)
  | (with_reducible refine elem_1 ?_)
  | refine Ends.mk ?_))
 all_goals (try refine Pr.mk ?_)
 all_goals (try simp only [sgnI_lt0, sgnI_zero, sgnI_le0, sgnI_gt0, sgnI_ge0, sgnI_eq1, cmpI_lt0, cmpI_gt0, cmpI_eq0, cmpI_le0, cmpI_ge0, cmpR_of, sgnR_of, sgnR_lt0, sgnR_eq0, sgnR_gt0, sgnR_le0, sgnR_ge0, sgnR_eq1, cmpR_lt0, cmpR_gt0, cmpR_eq0, cmpR_le0, cmpR_ge0] at *)
 all_goals (try simp only [Prod.eta, Bool.true_and] at *)
 all_goals first
  | exact iv1 z_m
  | exact iv1 z_n
  | exact iv2 z_b z1
  | exact iv2 z_c z2
  | exact iv2 z1 z2
  | exact iv2 z_d z5
  | exact iv2 z_a z3
  | exact iv2 z4 z6
  | exact iv2 z7 z8
  | (refine qk_n (fun k => ?_); obtain ⟨k1, k2, k3, k4, k5, k6, k7, k8, k9, k10, k11, k12, k13, k14, k15⟩ := k; simp_all; done)
  | (rename_i h; simp only [Bool.not_eq_false', Bool.and_eq_true] at h; obtain ⟨⟨⟨⟨⟨⟨⟨⟨⟨⟨⟨⟨⟨⟨h1, h2⟩, h3⟩, h4⟩, h5⟩, h6⟩, h7⟩, h8⟩, h9⟩, h10⟩, h11⟩, h12⟩, h13⟩, h14⟩, h15⟩ := h; rw [quickA_y ⟨h1, h2, h3, h4, h5, h6, h7, h8, h9, h10, h11, h12, h13, h14, h15⟩]; first | done | rfl)
  | ((repeat' apply And.intro) <;> first | assumption | exact rzb (by omega) | exact szb (by omega) | exact Int.mul_ne_zero (den_ne _) (den_ne _))⟩

end Go.Proofs.YtigbdpkpaleboaaGreat

namespace Go.Proofs.YtigbdpkpaleboaaGreat
open Go Go.RowKit Go.Sw
set_option linter.unusedVariables false
set_option maxRecDepth 100000
set_option maxHeartbeats 8000000
set_option synthInstance.maxSize 4000
set_option synthInstance.maxHeartbeats 400000
instance x_sadd (a b : Rat) : DenI Tryz.prog 139 [R a, R b] (rz a ≤ 4000000 ∧ rz b ≤ 4000000) (R (a + b)) := ⟨fun hp => by
 have i_a : RzB a 4000000 := ⟨hp.1⟩
 have i_b : RzB b 4000000 := ⟨hp.2⟩
 all_goals refine den_of (τ := tab) tab_ok mixed_ Tryz.func139 rfl (by kernel_rfl) (by kernel_rfl) (by kernel_rfl) ?_
 all_goals (repeat' ((try (conv => whnf)); first
  | refine call_0 ?_
  | refine call_i ?_ ?_
  | refine call_c ?_ (fun _ => ?_) (fun _ => ?_)
  | (with_reducible refine onB_t ?_)
  | (with_reducible refine onB_f ?_)
  | (with_reducible refine onB_d (fun _ => ?_) (fun _ => ?_))
  | (with_reducible refine onB_n (fun _ => ?_) (fun _ => ?_))
  | refine OnB.mk (fun _ => ?_) (fun _ => ?_)
  | refine obl_i ?_ ?_
  | refine Drw.mk (by kernel_rfl) ?_
  | refine mks_i ?_ ?_
  | refine slp_i ?_ ?_
  | (with_reducible refine elem_u ?_ ?_)
  | (with_reducible refine elem_0 ?_)
  | (with_reducible refine elem_1 ?_)
  | refine Ends.mk ?_))
 all_goals (try refine Pr.mk ?_)
 all_goals (try simp only [sgnI_lt0, sgnI_zero, sgnI_le0, sgnI_gt0, sgnI_ge0, sgnI_eq1, cmpI_lt0, cmpI_gt0, cmpI_eq0, cmpI_le0, cmpI_ge0, cmpR_of, sgnR_of, sgnR_lt0, sgnR_eq0, sgnR_gt0, sgnR_le0, sgnR_ge0, sgnR_eq1, cmpR_lt0, cmpR_gt0, cmpR_eq0, cmpR_le0, cmpR_ge0] at *)
 all_goals first
  | rfl
  | (simp only [redB, redC, mkA, mkB, mkC, cooC, ptC, *, true_or, or_true, if_true, if_false, or_self, and_self, and_true, true_and, and_false, false_and, not_true, not_false_iff, Bool.false_eq_true, decide_true, decide_false, Bool.or_true, Bool.true_or, Bool.or_false, Bool.false_or]; rfl)
  | ((repeat' apply And.intro) <;> first | assumption | exact rzb (by omega) | exact szb (by omega) | exact Int.mul_ne_zero (den_ne _) (den_ne _))
  | (exfalso; simp_all; done)
  | (exfalso; grind)
  | omega
  | ((repeat' apply And.intro) <;> first | assumption | exact rzb (by omega) | exact szb (by omega) | exact Int.mul_ne_zero (den_ne _) (den_ne _))⟩

instance x_rsign (a : Rat) (b c d m n : Rat) : DenI Tryz.prog 104 [Q6 a b c d m n] (rz b ≤ 20010 ∧ rz c ≤ 20010 ∧ rz d ≤ 20010 ∧ rz m ≤ 20010 ∧ rz n ≤ 20010 ∧ rz a ≤ 80010 ∧ 0 ≤ m ∧ 0 ≤ n) (.int .i64 (sg4 a b c d m n)) := ⟨fun hp => by
 have i_b : RzB b 20010 := ⟨hp.1⟩
 have i_c : RzB c 20010 := ⟨hp.2.1⟩
 have i_d : RzB d 20010 := ⟨hp.2.2.1⟩
 have i_m : RzB m 20010 := ⟨hp.2.2.2.1⟩
 have i_n : RzB n 20010 := ⟨hp.2.2.2.2.1⟩
 have hpre := hp.2.2.2.2.2
 have i_a : RzB a 80010 := ⟨hpre.1⟩
 obtain ⟨_, h_m, h_n⟩ := hpre
 all_goals refine den_of (τ := tab) tab_ok mixed_ Tryz.func104 rfl (by kernel_rfl) (by kernel_rfl) (by kernel_rfl) ?_
 all_goals (repeat' ((try (conv => whnf)); first
  | refine call_0 ?_
  | refine call_i ?_ ?_
  | refine call_c ?_ (fun _ => ?_) (fun _ => ?_)
  | (with_reducible refine onB_t ?_)
  | (with_reducible refine onB_f ?_)
  | (with_reducible refine onB_d (fun _ => ?_) (fun _ => ?_))
  | (with_reducible refine onB_n (fun _ => ?_) (fun _ => ?_))
  | refine OnB.mk (fun _ => ?_) (fun _ => ?_)
  | refine obl_i ?_ ?_
  | refine Drw.mk (by kernel_rfl) ?_
  | refine mks_i ?_ ?_
  | refine slp_i ?_ ?_
  | (with_reducible refine elem_u ?_ ?_)
  | (with_reducible refine elem_0 ?_)
  | (with_reducible refine elem_1 ?_)
  | refine Ends.mk ?_))
 all_goals (try refine Pr.mk ?_)
 all_goals (try simp only [sgnI_lt0, sgnI_zero, sgnI_le0, sgnI_gt0, sgnI_ge0, sgnI_eq1, cmpI_lt0, cmpI_gt0, cmpI_eq0, cmpI_le0, cmpI_ge0, cmpR_of, sgnR_of, sgnR_lt0, sgnR_eq0, sgnR_gt0, sgnR_le0, sgnR_ge0, sgnR_eq1, cmpR_lt0, cmpR_gt0, cmpR_eq0, cmpR_le0, cmpR_ge0] at *)
 all_goals (try simp only [w_ss, w_sc, w_xs, w_xx] at *)
 all_goals first
  | contradiction
  | exact rsg_1 h_m h_n (by assumption)
  | with_reducible exact rs_1 (by assumption)
  | with_reducible exact rs_2 (by assumption)
  | with_reducible exact rs_3 (by assumption) (by assumption) (by assumption)
  | with_reducible exact rs_4 (by assumption) (by assumption) (by assumption)
  | (exfalso; grind)
  | ((repeat' apply And.intro) <;> first | assumption | exact rzb (by omega) | exact szb (by omega) | exact Int.mul_ne_zero (den_ne _) (den_ne _))⟩

instance x_rcmp (a b c d e f : Rat) : DenI Tryz.prog 66 [Q3 a b c, Q3 d e f] (rz a ≤ 20000 ∧ rz b ≤ 20000 ∧ rz c ≤ 20000 ∧ rz d ≤ 20000 ∧ rz e ≤ 20000 ∧ rz f ≤ 20000 ∧ 0 ≤ c ∧ 0 ≤ f) (.int .i64 (cmp4 a b c d e f)) := ⟨fun hp => by
 have i_a : RzB a 20000 := ⟨hp.1⟩
 have i_b : RzB b 20000 := ⟨hp.2.1⟩
 have i_c : RzB c 20000 := ⟨hp.2.2.1⟩
 have i_d : RzB d 20000 := ⟨hp.2.2.2.1⟩
 have i_e : RzB e 20000 := ⟨hp.2.2.2.2.1⟩
 have i_f : RzB f 20000 := ⟨hp.2.2.2.2.2.1⟩
 have hpre := hp.2.2.2.2.2.2
 all_goals refine den_of (τ := tab) tab_ok mixed_ Tryz.func66 rfl (by kernel_rfl) (by kernel_rfl) (by kernel_rfl) ?_
 all_goals (repeat' ((try (conv => whnf)); first
  | refine call_0 ?_
  | refine call_i ?_ ?_
  | refine call_c ?_ (fun _ => ?_) (fun _ => ?_)
  | (with_reducible refine onB_t ?_)
  | (with_reducible refine onB_f ?_)
  | (with_reducible refine onB_d (fun _ => ?_) (fun _ => ?_))
  | (with_reducible refine onB_n (fun _ => ?_) (fun _ => ?_))
  | refine OnB.mk (fun _ => ?_) (fun _ => ?_)
  | refine obl_i ?_ ?_
  | refine Drw.mk (by kernel_rfl) ?_
  | refine mks_i ?_ ?_
  | refine slp_i ?_ ?_
  | (with_reducible refine elem_u ?_ ?_)
  | (with_reducible refine elem_0 ?_)
  | (with_reducible refine elem_1 ?_)
  | refine Ends.mk ?_))
 all_goals (try refine Pr.mk ?_)
 all_goals (try simp only [sgnI_lt0, sgnI_zero, sgnI_le0, sgnI_gt0, sgnI_ge0, sgnI_eq1, cmpI_lt0, cmpI_gt0, cmpI_eq0, cmpI_le0, cmpI_ge0, cmpR_of, sgnR_of, sgnR_lt0, sgnR_eq0, sgnR_gt0, sgnR_le0, sgnR_ge0, sgnR_eq1, cmpR_lt0, cmpR_gt0, cmpR_eq0, cmpR_le0, cmpR_ge0] at *)
 all_goals first
  | with_reducible exact cp_1 hpre.1 hpre.2 (by assumption) (by assumption)
  | with_reducible exact cp_2 hpre.1 hpre.2 (by assumption)
  | with_reducible exact cp_3 hpre.1 (by assumption)
  | rfl
  | exact ⟨rzb (by omega), rzb (by omega), rzb (by omega), rzb (by omega), rzb (by omega), rzb (by omega), hpre⟩
  | ((repeat' apply And.intro) <;> first | assumption | exact rzb (by omega) | exact szb (by omega) | exact Int.mul_ne_zero (den_ne _) (den_ne _))⟩

instance x_rcmpr (a b c d : Rat) : DenI Tryz.prog 71 [Q3 a b c, R d] (rz a ≤ 20000 ∧ rz b ≤ 20000 ∧ rz c ≤ 20000 ∧ rz d ≤ 20000 ∧ 0 ≤ c) (.int .i64 (exI (a - d) b c)) := ⟨fun hp => by
 have i_a : RzB a 20000 := ⟨hp.1⟩
 have i_b : RzB b 20000 := ⟨hp.2.1⟩
 have i_c : RzB c 20000 := ⟨hp.2.2.1⟩
 have i_d : RzB d 20000 := ⟨hp.2.2.2.1⟩
 have hpre := hp.2.2.2.2
 all_goals refine den_of (τ := tab) tab_ok mixed_ Tryz.func71 rfl (by kernel_rfl) (by kernel_rfl) (by kernel_rfl) ?_
 all_goals (repeat' ((try (conv => whnf)); first
  | refine call_0 ?_
  | refine call_i ?_ ?_
  | refine call_c ?_ (fun _ => ?_) (fun _ => ?_)
  | (with_reducible refine onB_t ?_)
  | (with_reducible refine onB_f ?_)
  | (with_reducible refine onB_d (fun _ => ?_) (fun _ => ?_))
  | (with_reducible refine onB_n (fun _ => ?_) (fun _ => ?_))
  | refine OnB.mk (fun _ => ?_) (fun _ => ?_)
  | refine obl_i ?_ ?_
  | refine Drw.mk (by kernel_rfl) ?_
  | refine mks_i ?_ ?_
  | refine slp_i ?_ ?_
  | (with_reducible refine elem_u ?_ ?_)
  | (with_reducible refine elem_0 ?_)
  | (with_reducible refine elem_1 ?_)
  | refine Ends.mk ?_))
 all_goals (try refine Pr.mk ?_)
 all_goals (try simp only [sgnI_lt0, sgnI_zero, sgnI_le0, sgnI_gt0, sgnI_ge0, sgnI_eq1, cmpI_lt0, cmpI_gt0, cmpI_eq0, cmpI_le0, cmpI_ge0, cmpR_of, sgnR_of, sgnR_lt0, sgnR_eq0, sgnR_gt0, sgnR_le0, sgnR_ge0, sgnR_eq1, cmpR_lt0, cmpR_gt0, cmpR_eq0, cmpR_le0, cmpR_ge0] at *)
 all_goals first
  | exact iE (cmp4_r hpre)
  | exact ⟨rzb (by omega), rzb (by omega), rzb (by omega), rzb (by omega), Nat.le_trans rz_0 (by omega), Nat.le_trans rz_0 (by omega), hpre, by decide⟩
  | ((repeat' apply And.intro) <;> first | assumption | exact rzb (by omega) | exact szb (by omega) | exact Int.mul_ne_zero (den_ne _) (den_ne _))⟩

end Go.Proofs.YtigbdpkpaleboaaGreat

namespace Go.Sw
open Go
set_option linter.unusedVariables false
theorem dom_half {a b c d p q u v x y : Rat} {er dr cr : Int} (h1 : swOn a b c d (er - dr) p q) (h2 : swOn a b c d (er - dr) u v) (h : swOn p q u v (dr - cr) x y) : swOn a b c d (er - cr) x y := by
  have p1 : (0 : Rat) ≤ ((er - dr : Int) : Rat) := Rat.intCast_le_intCast.2 h1.1
  have p2 : (0 : Rat) ≤ ((dr - cr : Int) : Rat) := Rat.intCast_le_intCast.2 h.1
  have e : ((dr - cr : Int) : Rat) + ((er - dr : Int) : Rat) = ((er - cr : Int) : Rat) := by rw [Rat.intCast_sub, Rat.intCast_sub, Rat.intCast_sub]; grind
  have w := seg_sum p2 p1 h1.2 h2.2 h.2
  rw [e] at w
  exact ⟨by have := h1.1; have := h.1; omega, w⟩
theorem dm_trans {c d e : Cut7} (h : dm c d) (k : dm d e) : dm c e := by
  obtain ⟨h1, h2, h3, h4, h5⟩ := h
  obtain ⟨k1, k2, k3, k4, k5⟩ := k
  exact ⟨h1, k2, by omega, dom_half k4 k5 h4, dom_half k4 k5 h5⟩
/-- The cut i falls by the cut k. -/
def badI (L : List Cut7) (i k : Nat) : Prop := dm (L.getD i cu0) (L.getD k cu0) ∧ (k < i ∨ i < k ∧ ¬dm (L.getD k cu0) (L.getD i cu0))
instance {L : List Cut7} {i k : Nat} : Decidable (badI L i k) := by unfold badI; infer_instance
def keepI (L : List Cut7) (i : Nat) : Bool := decide (∀ k, k < L.length → ¬badI L i k)
def redL (L : List Cut7) : List Cut7 := ((List.range L.length).filter (keepI L)).map fun i => L.getD i cu0
theorem bad_trans {L : List Cut7} {i k m : Nat} (h : badI L i k) (h' : badI L k m) : badI L i m := by
  obtain ⟨h1, h2⟩ := h
  obtain ⟨k1, k2⟩ := h'
  refine ⟨dm_trans h1 k1, ?_⟩
  by_cases e : dm (L.getD m cu0) (L.getD i cu0)
  · left
    have e1 : dm (L.getD m cu0) (L.getD k cu0) := dm_trans e h1
    have e2 : dm (L.getD k cu0) (L.getD i cu0) := dm_trans k1 e
    rcases h2 with h2 | h2
    · rcases k2 with k2 | k2
      · omega
      · exact absurd e1 k2.2
    · exact absurd e2 h2.2
  · by_cases hm : m < i
    · exact .inl hm
    · refine .inr ⟨?_, e⟩
      rcases h2 with h2 | h2
      · rcases k2 with k2 | k2
        · omega
        · by_cases hi : m = i
          · subst hi; exact absurd (dm_trans h1 k1) e
          · omega
      · by_cases hi : m = i
        · subst hi; exact absurd (dm_trans h1 k1) e
        · omega
theorem bad_irr {L : List Cut7} {i : Nat} (h : badI L i i) : False := by
  rcases h.2 with h | h <;> omega
theorem kept {L : List Cut7} : ∀ n i, i < L.length → ((List.range L.length).filter fun k => decide (badI L i k)).length ≤ n → ∃ j, j < L.length ∧ keepI L j = true ∧ (j = i ∨ badI L i j) := by
  intro n
  induction n with
  | zero =>
    intro i hi h
    refine ⟨i, hi, decide_eq_true fun k hk hb => ?_, .inl rfl⟩
    have hm : k ∈ (List.range L.length).filter fun k => decide (badI L i k) := List.mem_filter.2 ⟨List.mem_range.2 hk, decide_eq_true hb⟩
    have := List.length_pos_of_mem hm
    omega
  | succ n ih =>
    intro i hi h
    cases hk : keepI L i with
    | true => exact ⟨i, hi, hk, .inl rfl⟩
    | false =>
      have hk' := of_decide_eq_false hk
      have ⟨k, hkl, hb⟩ : ∃ k, k < L.length ∧ badI L i k := by
        refine Classical.byContradiction fun hn => hk' fun k h1 h2 => hn ⟨k, h1, h2⟩
      have hf : ((List.range L.length).filter fun m => decide (badI L k m)) = ((List.range L.length).filter fun m => decide (badI L i m)).filter fun m => decide (badI L k m) := by
        rw [List.filter_filter]
        refine List.filter_congr fun m _ => ?_
        by_cases e : badI L k m
        · rw [decide_eq_true e, decide_eq_true (bad_trans hb e)]; rfl
        · rw [decide_eq_false e]; rfl
      have hm : k ∈ (List.range L.length).filter fun k => decide (badI L i k) := List.mem_filter.2 ⟨List.mem_range.2 hkl, decide_eq_true hb⟩
      have hl : (((List.range L.length).filter fun m => decide (badI L i m)).filter fun m => decide (badI L k m)).length < ((List.range L.length).filter fun m => decide (badI L i m)).length :=
        List.length_filter_lt_length_iff_exists.2 ⟨k, hm, by simpa using fun e => bad_irr e⟩
      rw [← hf] at hl
      obtain ⟨j, h1, h2, h3⟩ := ih k hkl (by omega)
      refine ⟨j, h1, h2, .inr ?_⟩
      rcases h3 with h3 | h3
      · subst h3; exact hb
      · exact bad_trans hb h3
theorem getDm {α : Type} {L : List α} {i : Nat} {d : α} (h : i < L.length) : L.getD i d ∈ L := by
  rw [List.getD_eq_getElem?_getD, List.getElem?_eq_getElem h]; exact List.getElem_mem h
theorem red_mem {L : List Cut7} {c : Cut7} (h : c ∈ redL L) : c ∈ L := by
  unfold redL at h
  obtain ⟨i, hi, rfl⟩ := List.mem_map.1 h
  exact getDm (List.mem_range.1 (List.mem_filter.1 hi).1)
theorem red_height {x y : Rat} {L : List Cut7} {o : Rt} (ho : 0 ≤ o.c) : cmpQ (hgt x y (redL L) o) (hgt x y L o) = 0 := by
  refine least_eq ho (least ho) (least ho) (fun c hc hs => ?_) (fun c hc hs => ⟨c, red_mem hc, hs, by rw [cmpQ_self (swr_nn hs)]; decide⟩)
  obtain ⟨i, hi, e⟩ := List.getElem_of_mem hc
  have eg : L.getD i cu0 = c := by rw [List.getD_eq_getElem?_getD, List.getElem?_eq_getElem hi, e]; rfl
  obtain ⟨j, h1, h2, h3⟩ := kept _ i hi (Nat.le_refl _)
  refine ⟨L.getD j cu0, List.mem_map.2 ⟨j, List.mem_filter.2 ⟨List.mem_range.2 h1, h2⟩, rfl⟩, ?_⟩
  rcases h3 with h3 | h3
  · subst h3; rw [eg]; exact ⟨hs, by rw [cmpQ_self (swr_nn hs)]; decide⟩
  · have hd : dm c (L.getD j cu0) := by rw [← eg]; exact h3.1
    exact ⟨dom_on hd hs, dom_le hd⟩
/-! ### As the loops find them -/
theorem red_snoc {L : List Cut7} {x : Nat} : ((List.range (x + 1)).filter (keepI L)).map (fun i => L.getD i cu0) = if keepI L x = true then ((List.range x).filter (keepI L)).map (fun i => L.getD i cu0) ++ [L.getD x cu0] else ((List.range x).filter (keepI L)).map (fun i => L.getD i cu0) := by
  rw [List.range_succ, List.filter_append, List.map_append]
  cases h : keepI L x <;> simp [h]
theorem keep_end {L : List Cut7} {i x : Nat} (h : ∀ k, k < x → ¬badI L i k) (hx : ¬x < L.length) : keepI L i = true := decide_eq_true fun k hk => h k (by omega)
theorem keep_bad {L : List Cut7} {i x : Nat} (hx : x < L.length) (h : badI L i x) : keepI L i = false := decide_eq_false fun k => k x hx h
end Go.Sw

namespace Go.Sw
open Go
set_option linter.unusedVariables false
theorem sgn_pos {k : Rat} (h : 0 < k) : sgnR k = 1 := by rcases sgn_cases k with ⟨g, e⟩ | ⟨g, e⟩ | ⟨g, e⟩ <;> grind
theorem sgn_mulp {k q : Rat} (h : 0 < k) : sgnR (k * q) = sgnR q := by
  rcases sgn_cases q with ⟨g, e⟩ | ⟨g, e⟩ | ⟨g, e⟩
  · rcases sgn_cases (k * q) with ⟨g2, e2⟩ | ⟨g2, e2⟩ | ⟨g2, e2⟩
    · rw [e, e2]
    · have := Rat.mul_pos h (show 0 < -q by grind); grind
    · have := Rat.mul_pos h (show 0 < -q by grind); grind
  · rw [g, Rat.mul_zero]
  · have := Rat.mul_pos h g
    rcases sgn_cases (k * q) with ⟨g2, e2⟩ | ⟨g2, e2⟩ | ⟨g2, e2⟩ <;> grind
theorem sgn_neg (q : Rat) : sgnR (-q) = -sgnR q := by
  rcases sgn_cases q with ⟨g, e⟩ | ⟨g, e⟩ | ⟨g, e⟩ <;> rcases sgn_cases (-q) with ⟨g2, e2⟩ | ⟨g2, e2⟩ | ⟨g2, e2⟩ <;> grind
theorem exI_0l (S I : Rat) : exI 0 S I = sgnR S * sgnR I := by
  unfold exI
  have z : sgnR 0 = 0 := rfl
  split
  · rename_i h; rw [z] at h; rcases h with h | h
    · rw [z]; exact h
    · rw [z, h]
  · first | rfl | rw [if_pos z]
/-- The same root in two forms. -/
theorem cmp4_form {A S I T J k : Rat} (hk : 0 < k) (h1 : S = k * T) (h2 : J = k * k * I) : cmp4 A S I A T J = 0 := by
  unfold cmp4 sg4
  have e0 : A - A = 0 := by grind
  rw [e0, exI_0l, exI_zero, sgn_neg]
  have e1 : sgnR S = sgnR T := by rw [h1]; exact sgn_mulp hk
  have e2 : sgnR J = sgnR I := by rw [h2]; exact sgn_mulp (Rat.mul_pos hk hk)
  rw [e1, e2]
  have e3 : 0 * 0 + S * S * I - J * (-T * -T + 0 * 0 * I) = (0 : Rat) := by rw [h1, h2]; grind
  have e4 : 0 * S - J * (-T * 0) + (0 * S - J * (-T * 0)) = (0 : Rat) := by grind
  rw [e3, e4, exI_zero]
  have z : sgnR 0 = 0 := rfl
  rw [z]
  generalize sgnR T = t
  generalize sgnR I = i
  have en : -t * i = -(t * i) := Int.neg_mul t i
  rw [en]
  generalize t * i = w
  split
  · omega
  · split <;> omega
theorem cmpQ_mk2 {a b c d e f : Rat} (hc : 0 ≤ c) (hf : 0 ≤ f) : cmpQ ⟨mkA a b c, mkB b c, mkC b c⟩ ⟨mkA d e f, mkB e f, mkC e f⟩ = cmp4 a b c d e f := by
  rw [cmpQ_mk hc (mkC_nn hf)]
  simp only
  rw [← Int.neg_neg (cmp4 a b c (mkA d e f) (mkB e f) (mkC e f)), ← cmp4_neg hc (mkC_nn hf)]
  have := cmpQ_mk (a := d) (b := e) (c := f) (q := ⟨a, b, c⟩) hf hc
  rw [show cmp4 (mkA d e f) (mkB e f) (mkC e f) a b c = cmp4 d e f a b c from this, cmp4_neg hc hf, Int.neg_neg]
theorem exI_np {A B C : Rat} (hB : B ≤ 0) (hC : 0 ≤ C) (h : A * A ≤ B * B * C) : exI A B C ≤ 0 := by
  unfold exI
  have hl := cmpR_le0.2 h
  rcases sgn_cases A with ⟨g1, e1⟩ | ⟨g1, e1⟩ | ⟨g1, e1⟩ <;> rcases sgn_cases B with ⟨g2, e2⟩ | ⟨g2, e2⟩ | ⟨g2, e2⟩ <;> rcases sgn_cases C with ⟨g3, e3⟩ | ⟨g3, e3⟩ | ⟨g3, e3⟩ <;> (try (exfalso; grind)) <;> rw [e1, e2, e3]
  all_goals first
    | (rw [if_pos (by decide)]; decide)
    | (rw [if_neg (by decide), if_pos (by decide)]; decide)
    | (rw [if_neg (by decide), if_neg (by decide)]; omega)
    | (exfalso; have := Rat.mul_pos g1 g1; grind)
section
variable {hx hy lx ly r x y t : Rat} {hz lz mz : Int}
theorem at_q : segAt hx hy lx ly x y t = t * t * swD hx hy lx ly + 2 * t * swPd hx hy lx ly x y + ((hx - x) * (hx - x) + (hy - y) * (hy - y)) := by unfold segAt swD swPd; grind
theorem swD_nn : 0 ≤ swD hx hy lx ly := by unfold swD; have := sq_nn (lx - hx); have := sq_nn (ly - hy); grind
theorem at_1 : segAt hx hy lx ly x y 1 = (lx - x) * (lx - x) + (ly - y) * (ly - y) := by unfold segAt; grind
/-- A segment lies between its points. -/
theorem at_conv {u v w : Rat} (h1 : u ≤ v) (h2 : v ≤ w) (k1 : segAt hx hy lx ly x y u ≤ r * r) (k2 : segAt hx hy lx ly x y w ≤ r * r) : segAt hx hy lx ly x y v ≤ r * r := by
  rw [at_q] at *
  have hd : 0 ≤ swD hx hy lx ly := swD_nn
  generalize swD hx hy lx ly = D at *
  generalize swPd hx hy lx ly x y = P at *
  generalize (hx - x) * (hx - x) + (hy - y) * (hy - y) = Q at *
  by_cases e : u = w
  · have : v = u := by grind
    rw [this]; exact k1
  · have hw : 0 < w - u := by grind
    refine le_of_mul hw ?_
    have p1 := Rat.mul_nonneg (show 0 ≤ w - v by grind) (show 0 ≤ r * r - (u * u * D + 2 * u * P + Q) by grind)
    have p2 := Rat.mul_nonneg (show 0 ≤ v - u by grind) (show 0 ≤ r * r - (w * w * D + 2 * w * P + Q) by grind)
    have p3 := Rat.mul_nonneg (Rat.mul_nonneg (Rat.mul_nonneg (show 0 ≤ w - v by grind) (show 0 ≤ v - u by grind)) hd) (show 0 ≤ w - u by grind)
    grind
theorem sub_hi {s : Rat} : segAt hx hy (hx + t * (lx - hx)) (hy + t * (ly - hy)) x y s = segAt hx hy lx ly x y (t * s) := by unfold segAt; grind
theorem sub_lo {s : Rat} : segAt (hx + t * (lx - hx)) (hy + t * (ly - hy)) lx ly x y s = segAt hx hy lx ly x y (t + s * (1 - t)) := by unfold segAt; grind
theorem le_of_div {a b : Rat} (hb : 0 < b) (ha : 0 ≤ a) (hab : a ≤ b) : ∃ q, 0 ≤ q ∧ q ≤ 1 ∧ b * q = a := by
  have hn : b ≠ 0 := by grind
  have e : a / b * b = a := by grind
  exact ⟨a / b, le_of_mul hb (by rw [e]; grind), le_of_mul hb (by rw [e]; grind), by grind⟩
/-- The whole is over a point where a part is. -/
theorem over_hi (t0 : 0 ≤ t) (t1 : t ≤ 1) (h : segD hx hy (hx + t * (lx - hx)) (hy + t * (ly - hy)) x y ≤ r * r) : ∃ s, 0 ≤ s ∧ s ≤ t ∧ segAt hx hy lx ly x y s ≤ r * r := by
  obtain ⟨s, s0, s1, e⟩ := seg_at hx hy (hx + t * (lx - hx)) (hy + t * (ly - hy)) x y
  rw [e, sub_hi] at h
  have := Rat.mul_nonneg t0 s0
  have := Rat.mul_nonneg t0 (show 0 ≤ 1 - s by grind)
  exact ⟨t * s, by grind, by grind, h⟩
theorem over_lo (t0 : 0 ≤ t) (t1 : t ≤ 1) (h : segD (hx + t * (lx - hx)) (hy + t * (ly - hy)) lx ly x y ≤ r * r) : ∃ s, t ≤ s ∧ s ≤ 1 ∧ segAt hx hy lx ly x y s ≤ r * r := by
  obtain ⟨s, s0, s1, e⟩ := seg_at (hx + t * (lx - hx)) (hy + t * (ly - hy)) lx ly x y
  rw [e, sub_lo] at h
  have := Rat.mul_nonneg s0 (show 0 ≤ 1 - t by grind)
  have := Rat.mul_nonneg (show 0 ≤ 1 - s by grind) (show 0 ≤ 1 - t by grind)
  exact ⟨t + s * (1 - t), by grind, by grind, h⟩
theorem hi_over {s : Rat} (t0 : 0 ≤ t) (s0 : 0 ≤ s) (s1 : s ≤ t) (h : segAt hx hy lx ly x y s ≤ r * r) : segD hx hy (hx + t * (lx - hx)) (hy + t * (ly - hy)) x y ≤ r * r := by
  by_cases e : t = 0
  · have : s = 0 := by grind
    refine Rat.le_trans (seg_le _ _ _ _ x y (s := 0) (by grind) (by grind)) ?_
    rw [sub_hi, Rat.mul_zero, ← this]; exact h
  · obtain ⟨q, q0, q1, eq⟩ := le_of_div (show 0 < t by grind) s0 s1
    refine Rat.le_trans (seg_le _ _ _ _ x y q0 q1) ?_
    rw [sub_hi, eq]; exact h
theorem lo_over {s : Rat} (t1 : t ≤ 1) (s0 : t ≤ s) (s1 : s ≤ 1) (h : segAt hx hy lx ly x y s ≤ r * r) : segD (hx + t * (lx - hx)) (hy + t * (ly - hy)) lx ly x y ≤ r * r := by
  by_cases e : t = 1
  · have : s = 1 := by grind
    refine Rat.le_trans (seg_le _ _ _ _ x y (s := 0) (by grind) (by grind)) ?_
    rw [sub_lo, show t + 0 * (1 - t) = s by grind]; exact h
  · obtain ⟨q, q0, q1, eq⟩ := le_of_div (a := s - t) (b := 1 - t) (show 0 < 1 - t by grind) (by grind) (by grind)
    refine Rat.le_trans (seg_le _ _ _ _ x y q0 q1) ?_
    rw [sub_lo, show t + q * (1 - t) = s by grind]; exact h
theorem mid_1 : segAt hx hy lx ly x y t = (hx + t * (lx - hx) - x) * (hx + t * (lx - hx) - x) + (hy + t * (ly - hy) - y) * (hy + t * (ly - hy) - y) := rfl
/-- No lower than a point of the way that is in reach. -/
theorem swP_mid (hl : lz ≤ hz) (t0 : 0 ≤ t) (t1 : t ≤ 1) (em : (mz : Rat) = (hz : Rat) + t * ((lz : Rat) - (hz : Rat))) (h : segAt hx hy lx ly x y t ≤ r * r) : cmpQ (swP hx hy hz lx ly lz r x y) ⟨(mz : Rat), 0, 0⟩ ≤ 0 := by
  have hle : (lz : Rat) ≤ (hz : Rat) := Rat.intCast_le_intCast.2 hl
  have ho : segD hx hy lx ly x y ≤ r * r := Rat.le_trans (seg_le _ _ _ _ x y t0 t1) h
  unfold swP
  split
  · show cmp4 _ _ _ _ _ _ ≤ 0
    simp only
    rw [cmp4_rat (by decide) (by decide)]
    have := Rat.mul_nonneg (show 0 ≤ 1 - t by grind) (show 0 ≤ (hz : Rat) - lz by grind)
    exact cmpR_le0.2 (by grind)
  · rename_i hn
    have h1 : ¬hz = lz := fun e => hn (.inl e)
    have h2 : ¬(lx - x) * (lx - x) + (ly - y) * (ly - y) ≤ r * r := fun e => hn (.inr e)
    have hd0 := sw_nd ho h2
    have hI := sw_in ho
    rw [cmpQ_mk hI (show (0 : Rat) ≤ 0 by decide), cmp4_r hI]
    rw [at_q] at h
    have hD : 0 < swD hx hy lx ly := by have : 0 ≤ swD hx hy lx ly := swD_nn; grind
    unfold swS swI at *
    generalize swPd hx hy lx ly x y = P at *
    generalize swD hx hy lx ly = D at *
    generalize (hx - x) * (hx - x) + (hy - y) * (hy - y) = Q at *
    obtain ⟨s, hs⟩ : ∃ s : Rat, ((lz - hz : Int) : Rat) / D = -s := ⟨-(((lz - hz : Int) : Rat) / D), by grind⟩
    have hsD : s * D = (hz : Rat) - (lz : Rat) := by
      have : ((lz - hz : Int) : Rat) / D * D = ((lz - hz : Int) : Rat) := by grind
      rw [hs, Rat.intCast_sub] at this
      grind
    have s0 : 0 ≤ s := by
      rcases Rat.le_total (a := s) (b := 0) with k | k
      · have := Rat.mul_nonneg (show 0 ≤ -s by grind) (show 0 ≤ D by grind)
        have : s * D = 0 := by grind
        rcases Rat.mul_eq_zero.1 this with k | k <;> grind
      · exact k
    rw [hs]
    have ea : (hz : Rat) - -s * P - (mz : Rat) = s * (P + t * D) := by rw [em]; grind
    rw [ea]
    refine exI_np (by grind) hI ?_
    have p1 := Rat.mul_nonneg (show 0 ≤ D by grind) (show 0 ≤ r * r - (t * t * D + 2 * t * P + Q) by grind)
    have p2 := Rat.mul_nonneg (Rat.mul_nonneg s0 s0) p1
    grind
/-- The two parts' formulas are that of the whole. -/
theorem form_hi (t0 : 0 < t) (em : (mz : Rat) = (hz : Rat) + t * ((lz : Rat) - (hz : Rat))) (hD : ¬swD hx hy lx ly = 0) (hI : 0 ≤ swI hx hy lx ly r x y) :
    cmpQ ⟨mkA ((hz : Rat) - swS hx hy hz mz (hx + t * (lx - hx)) (hy + t * (ly - hy)) * swPd hx hy (hx + t * (lx - hx)) (hy + t * (ly - hy)) x y) (swS hx hy hz mz (hx + t * (lx - hx)) (hy + t * (ly - hy))) (swI hx hy (hx + t * (lx - hx)) (hy + t * (ly - hy)) r x y),
      mkB (swS hx hy hz mz (hx + t * (lx - hx)) (hy + t * (ly - hy))) (swI hx hy (hx + t * (lx - hx)) (hy + t * (ly - hy)) r x y), mkC (swS hx hy hz mz (hx + t * (lx - hx)) (hy + t * (ly - hy))) (swI hx hy (hx + t * (lx - hx)) (hy + t * (ly - hy)) r x y)⟩
    ⟨mkA ((hz : Rat) - swS hx hy hz lz lx ly * swPd hx hy lx ly x y) (swS hx hy hz lz lx ly) (swI hx hy lx ly r x y), mkB (swS hx hy hz lz lx ly) (swI hx hy lx ly r x y), mkC (swS hx hy hz lz lx ly) (swI hx hy lx ly r x y)⟩ = 0 := by
  have e1 : swPd hx hy (hx + t * (lx - hx)) (hy + t * (ly - hy)) x y = t * swPd hx hy lx ly x y := by unfold swPd; grind
  have e2 : swD hx hy (hx + t * (lx - hx)) (hy + t * (ly - hy)) = t * t * swD hx hy lx ly := by unfold swD; grind
  have e3 : swI hx hy (hx + t * (lx - hx)) (hy + t * (ly - hy)) r x y = t * t * swI hx hy lx ly r x y := by unfold swI; rw [e1, e2]; grind
  have e4 : swS hx hy hz lz lx ly = t * swS hx hy hz mz (hx + t * (lx - hx)) (hy + t * (ly - hy)) := by
    unfold swS
    rw [e2, Rat.intCast_sub, Rat.intCast_sub, em]
    have : t ≠ 0 := by grind
    generalize swD hx hy lx ly = D at *
    grind
  have hI' : 0 ≤ t * t * swI hx hy lx ly r x y := Rat.mul_nonneg (Rat.mul_nonneg (by grind) (by grind)) hI
  rw [e3, cmpQ_mk2 hI' hI, e1]
  have e5 : swS hx hy hz mz (hx + t * (lx - hx)) (hy + t * (ly - hy)) * (t * swPd hx hy lx ly x y) = swS hx hy hz lz lx ly * swPd hx hy lx ly x y := by rw [e4]; grind
  rw [e5, cmp4_neg hI hI', cmp4_form t0 e4 rfl]; rfl
theorem form_lo (t1 : t < 1) (em : (mz : Rat) = (hz : Rat) + t * ((lz : Rat) - (hz : Rat))) (hD : ¬swD hx hy lx ly = 0) (hI : 0 ≤ swI hx hy lx ly r x y) :
    cmpQ ⟨mkA ((mz : Rat) - swS (hx + t * (lx - hx)) (hy + t * (ly - hy)) mz lz lx ly * swPd (hx + t * (lx - hx)) (hy + t * (ly - hy)) lx ly x y) (swS (hx + t * (lx - hx)) (hy + t * (ly - hy)) mz lz lx ly) (swI (hx + t * (lx - hx)) (hy + t * (ly - hy)) lx ly r x y),
      mkB (swS (hx + t * (lx - hx)) (hy + t * (ly - hy)) mz lz lx ly) (swI (hx + t * (lx - hx)) (hy + t * (ly - hy)) lx ly r x y), mkC (swS (hx + t * (lx - hx)) (hy + t * (ly - hy)) mz lz lx ly) (swI (hx + t * (lx - hx)) (hy + t * (ly - hy)) lx ly r x y)⟩
    ⟨mkA ((hz : Rat) - swS hx hy hz lz lx ly * swPd hx hy lx ly x y) (swS hx hy hz lz lx ly) (swI hx hy lx ly r x y), mkB (swS hx hy hz lz lx ly) (swI hx hy lx ly r x y), mkC (swS hx hy hz lz lx ly) (swI hx hy lx ly r x y)⟩ = 0 := by
  have e1 : swPd (hx + t * (lx - hx)) (hy + t * (ly - hy)) lx ly x y = (1 - t) * (swPd hx hy lx ly x y + t * swD hx hy lx ly) := by unfold swPd swD; grind
  have e2 : swD (hx + t * (lx - hx)) (hy + t * (ly - hy)) lx ly = (1 - t) * (1 - t) * swD hx hy lx ly := by unfold swD; grind
  have e3 : swI (hx + t * (lx - hx)) (hy + t * (ly - hy)) lx ly r x y = (1 - t) * (1 - t) * swI hx hy lx ly r x y := by
    unfold swI; rw [e1, e2]
    have : (hx + t * (lx - hx) - x) * (hx + t * (lx - hx) - x) + (hy + t * (ly - hy) - y) * (hy + t * (ly - hy) - y) = t * t * swD hx hy lx ly + 2 * t * swPd hx hy lx ly x y + ((hx - x) * (hx - x) + (hy - y) * (hy - y)) := by unfold swD swPd; grind
    rw [this]; grind
  have e4 : swS hx hy hz lz lx ly = (1 - t) * swS (hx + t * (lx - hx)) (hy + t * (ly - hy)) mz lz lx ly := by
    unfold swS
    rw [e2, Rat.intCast_sub, Rat.intCast_sub, em]
    have : 1 - t ≠ 0 := by grind
    have e : (lz : Rat) - ((hz : Rat) + t * ((lz : Rat) - (hz : Rat))) = (1 - t) * ((lz : Rat) - (hz : Rat)) := by grind
    rw [e]
    generalize 1 - t = u at *
    generalize swD hx hy lx ly = D at *
    grind
  have hI' : 0 ≤ (1 - t) * (1 - t) * swI hx hy lx ly r x y := Rat.mul_nonneg (Rat.mul_nonneg (by grind) (by grind)) hI
  rw [e3, cmpQ_mk2 hI' hI, e1]
  have e6 : swS hx hy hz lz lx ly * swD hx hy lx ly = (lz : Rat) - hz := by
    unfold swS; rw [Rat.intCast_sub]; generalize swD hx hy lx ly = D at *; grind
  have e5 : (mz : Rat) - swS (hx + t * (lx - hx)) (hy + t * (ly - hy)) mz lz lx ly * ((1 - t) * (swPd hx hy lx ly x y + t * swD hx hy lx ly)) = (hz : Rat) - swS hx hy hz lz lx ly * swPd hx hy lx ly x y := by
    have : swS (hx + t * (lx - hx)) (hy + t * (ly - hy)) mz lz lx ly * ((1 - t) * (swPd hx hy lx ly x y + t * swD hx hy lx ly)) = swS hx hy hz lz lx ly * (swPd hx hy lx ly x y + t * swD hx hy lx ly) := by rw [e4]; grind
    rw [this, em]; grind
  rw [e5, cmp4_neg hI hI', cmp4_form (show 0 < 1 - t by grind) e4 rfl]; rfl
theorem mz_eq (em : (mz : Rat) = (hz : Rat) + t * ((lz : Rat) - (hz : Rat))) (e : hz = lz) : mz = hz := by
  subst e
  exact Rat.intCast_inj.1 (by rw [em]; grind)
theorem swP_lo (k : (lx - x) * (lx - x) + (ly - y) * (ly - y) ≤ r * r) : swP hx hy hz lx ly lz r x y = ⟨(lz : Rat), 0, 0⟩ := by unfold swP; rw [if_pos (.inr k)]
theorem swP_form (e : ¬hz = lz) (k : ¬(lx - x) * (lx - x) + (ly - y) * (ly - y) ≤ r * r) : swP hx hy hz lx ly lz r x y =
    ⟨mkA ((hz : Rat) - swS hx hy hz lz lx ly * swPd hx hy lx ly x y) (swS hx hy hz lz lx ly) (swI hx hy lx ly r x y), mkB (swS hx hy hz lz lx ly) (swI hx hy lx ly r x y), mkC (swS hx hy hz lz lx ly) (swI hx hy lx ly r x y)⟩ := by
  unfold swP; rw [if_neg (by rintro (h | h); exact e h; exact k h)]
theorem cmpQ_z {p : Rat} : cmpQ ⟨p, 0, 0⟩ ⟨p, 0, 0⟩ = 0 := cmpQ_self (show (0 : Rat) ≤ 0 by decide)
theorem div_lo (hl : lz ≤ hz) (t0 : 0 ≤ t) (t1 : t ≤ 1) (em : (mz : Rat) = (hz : Rat) + t * ((lz : Rat) - (hz : Rat))) (h : segD (hx + t * (lx - hx)) (hy + t * (ly - hy)) lx ly x y ≤ r * r) :
    cmpQ (swP (hx + t * (lx - hx)) (hy + t * (ly - hy)) mz lx ly lz r x y) (swP hx hy hz lx ly lz r x y) = 0 := by
  obtain ⟨s, s0, s1, hs⟩ := over_lo t0 t1 h
  have hW := Rat.le_trans (seg_le hx hy lx ly x y (s := s) (by grind) s1) hs
  by_cases e : hz = lz
  · have e2 := mz_eq em e
    subst e; rw [e2, swP_level, swP_level]; exact cmpQ_z
  by_cases k : (lx - x) * (lx - x) + (ly - y) * (ly - y) ≤ r * r
  · rw [swP_lo k, swP_lo k]; exact cmpQ_z
  · have ht : ¬t = 1 := fun e1 => k (by rw [← at_1 (hx := hx) (hy := hy), show (1 : Rat) = s by grind]; exact hs)
    have e2 : ¬mz = lz := fun e2 => by
      rw [e2] at em
      have e4 : (1 - t) * ((lz : Rat) - (hz : Rat)) = 0 := by grind
      rcases Rat.mul_eq_zero.1 e4 with e5 | e5
      · exact ht (by grind)
      · exact e (Rat.intCast_inj.1 (by grind))
    rw [swP_form e k, swP_form e2 k]
    exact form_lo (by grind) em (sw_nd hW k) (sw_in hW)
theorem div_hi (hl : lz ≤ hz) (t0 : 0 ≤ t) (t1 : t ≤ 1) (em : (mz : Rat) = (hz : Rat) + t * ((lz : Rat) - (hz : Rat))) (hA : segD hx hy (hx + t * (lx - hx)) (hy + t * (ly - hy)) x y ≤ r * r)
    (kM : ¬segAt hx hy lx ly x y t ≤ r * r) (kL : ¬(lx - x) * (lx - x) + (ly - y) * (ly - y) ≤ r * r) :
    cmpQ (swP hx hy hz (hx + t * (lx - hx)) (hy + t * (ly - hy)) mz r x y) (swP hx hy hz lx ly lz r x y) = 0 := by
  obtain ⟨s, s0, s1, hs⟩ := over_hi t0 t1 hA
  have hW := Rat.le_trans (seg_le hx hy lx ly x y (s := s) (by grind) (by grind)) hs
  by_cases e : hz = lz
  · have e2 := mz_eq em e
    subst e; rw [e2, swP_level, swP_level]; exact cmpQ_z
  have ht : ¬t = 0 := fun e1 => kM (by rw [show t = s by grind]; exact hs)
  have e2 : ¬hz = mz := fun e2 => by
    rw [← e2] at em
    have e4 : t * ((lz : Rat) - (hz : Rat)) = 0 := by grind
    rcases Rat.mul_eq_zero.1 e4 with e5 | e5
    · exact ht e5
    · exact e (Rat.intCast_inj.1 (by grind))
  rw [swP_form e kL, swP_form e2 kM]
  exact form_hi (by grind) em (sw_nd hW kL) (sw_in hW)
theorem div3 (hl : lz ≤ hz) (t0 : 0 ≤ t) (t1 : t ≤ 1) (em : (mz : Rat) = (hz : Rat) + t * ((lz : Rat) - (hz : Rat))) :
    (segD hx hy lx ly x y ≤ r * r → (segD (hx + t * (lx - hx)) (hy + t * (ly - hy)) lx ly x y ≤ r * r ∧ cmpQ (swP (hx + t * (lx - hx)) (hy + t * (ly - hy)) mz lx ly lz r x y) (swP hx hy hz lx ly lz r x y) ≤ 0) ∨
      (segD hx hy (hx + t * (lx - hx)) (hy + t * (ly - hy)) x y ≤ r * r ∧ cmpQ (swP hx hy hz (hx + t * (lx - hx)) (hy + t * (ly - hy)) mz r x y) (swP hx hy hz lx ly lz r x y) ≤ 0)) ∧
    (segD (hx + t * (lx - hx)) (hy + t * (ly - hy)) lx ly x y ≤ r * r → segD hx hy lx ly x y ≤ r * r ∧ cmpQ (swP hx hy hz lx ly lz r x y) (swP (hx + t * (lx - hx)) (hy + t * (ly - hy)) mz lx ly lz r x y) ≤ 0) ∧
    (segD hx hy (hx + t * (lx - hx)) (hy + t * (ly - hy)) x y ≤ r * r → segD hx hy lx ly x y ≤ r * r ∧ cmpQ (swP hx hy hz lx ly lz r x y) (swP hx hy hz (hx + t * (lx - hx)) (hy + t * (ly - hy)) mz r x y) ≤ 0) := by
  have nn : ∀ {a b c d : Rat} {u v : Int}, segD a b c d x y ≤ r * r → 0 ≤ (swP a b u c d v r x y).c := fun h => okQ_nn (swP_ok h)
  refine ⟨fun h => ?_, fun h => ?_, fun h => ?_⟩
  · by_cases hB : segD (hx + t * (lx - hx)) (hy + t * (ly - hy)) lx ly x y ≤ r * r
    · exact .inl ⟨hB, by rw [div_lo hl t0 t1 em hB]; decide⟩
    · obtain ⟨s, s0, s1, e⟩ := seg_at hx hy lx ly x y
      rw [e] at h
      have hst : s ≤ t := by
        rcases Rat.le_total (a := s) (b := t) with k | k
        · exact k
        · exact absurd (lo_over t1 k s1 h) hB
      have hA := hi_over t0 s0 hst h
      exact .inr ⟨hA, by rw [div_hi hl t0 t1 em hA (fun k => hB (lo_over t1 Rat.le_refl t1 k)) (fun k => hB (lo_over t1 t1 Rat.le_refl (by rw [at_1]; exact k)))]; decide⟩
  · obtain ⟨s, s0, s1, hs⟩ := over_lo t0 t1 h
    have hW := Rat.le_trans (seg_le hx hy lx ly x y (s := s) (by grind) s1) hs
    exact ⟨hW, by rw [cmpQ_neg (nn h) (nn hW), div_lo hl t0 t1 em h]; decide⟩
  · obtain ⟨s, s0, s1, hs⟩ := over_hi t0 t1 h
    have hW := Rat.le_trans (seg_le hx hy lx ly x y (s := s) s0 (by grind)) hs
    refine ⟨hW, ?_⟩
    by_cases kM : segAt hx hy lx ly x y t ≤ r * r
    · rw [swP_lo (hx := hx) (hy := hy) (lx := hx + t * (lx - hx)) (ly := hy + t * (ly - hy)) kM]
      exact swP_mid hl t0 t1 em kM
    · have kL : ¬(lx - x) * (lx - x) + (ly - y) * (ly - y) ≤ r * r := fun k => kM (at_conv s1 t1 hs (by rw [at_1]; exact k))
      rw [cmpQ_neg (nn h) (nn hW), div_hi hl t0 t1 em h kM kL]; decide
end
end Go.Sw

namespace Go.Sw
open Go
set_option linter.unusedVariables false
@[reducible] def q3c (o : Rt) : List Cell := [zs o.a.num, zl o.a.num, zs o.a.den, zl o.a.den, zs o.b.num, zl o.b.num, zs o.b.den, zl o.b.den, zs o.c.num, zl o.c.num, zs o.c.den, zl o.c.den]
theorem medC_get {L : List Cut7} (h : ∀ c ∈ L, medC c) (i : Nat) : medC (L.getD i cu0) := get_all (by unfold medC medI cu0; decide) h i
section
variable {x y : Rat} {L : List Cut7} {o : Rt} {k : Nat}
theorem hgt_at (hk : k < L.length) : hgt x y (L.take (k + 1)) o = hStep x y (hgt x y (L.take k) o) (L.getD k cu0) := by
  rw [take_snoc cu0 hk, hgt_snoc]
theorem hq_y (hk : k < L.length) (h1 : swo (L.getD k cu0) x y) (h2 : cmpQ (swr (L.getD k cu0) x y) (hgt x y (L.take k) o) < 0) : some (Bk.var (q3c (swr (L.getD k cu0) x y))) = some (Bk.var (q3c (hgt x y (L.take (k + 1)) o))) := by
  rw [hgt_at hk, hStep_y h1 h2]
theorem hq_n (hk : k < L.length) (h1 : ¬swo (L.getD k cu0) x y) : some (Bk.var (q3c (hgt x y (L.take k) o))) = some (Bk.var (q3c (hgt x y (L.take (k + 1)) o))) := by
  rw [hgt_at hk, hStep_n h1]
theorem hq_k (hk : k < L.length) (h2 : ¬cmpQ (swr (L.getD k cu0) x y) (hgt x y (L.take k) o) < 0) : some (Bk.var (q3c (hgt x y (L.take k) o))) = some (Bk.var (q3c (hgt x y (L.take (k + 1)) o))) := by
  rw [hgt_at hk, hStep_k h2]
theorem hq_end (h1 : k ≤ L.length) (h2 : ¬k < L.length) : packA [AV.agg (q3c (hgt x y (L.take k) o))] = AV.agg (q3c (hgt x y L o)) := by
  have : k = L.length := by omega
  subst this
  rw [List.take_length]; rfl
theorem okR_take {top : Int} (hx : rz x ≤ 6) (hy : rz y ≤ 6) (h : ∀ c ∈ L, medC c) (ht : medI top) (k : Nat) : OkR (hgt x y (L.take k) ⟨(top : Rat), 0, 0⟩) :=
  okR_hgt hx hy (fun c hc => h c (List.mem_of_mem_take hc)) (okR_int ht)
theorem OkR.r20 {o : Rt} (h : OkR o) : rz o.a ≤ 20000 ∧ rz o.b ≤ 20000 ∧ rz o.c ≤ 20000 := by have := h.a; have := h.b; have := h.c; omega
theorem med_of {s : Stk} (h : okS s) : medC (ofS s) := by
  obtain ⟨h1, h2, h3, h4, h5, h6, h7⟩ := h
  unfold ofS medC medI
  unfold smallI at *
  simp only
  omega
theorem meds_of {L : List Stk} (h : ∀ s ∈ L, okS s) : ∀ c ∈ (L.take 12).map ofS, medC c := fun c hc => by
  obtain ⟨s, hs, rfl⟩ := List.mem_map.1 hc
  exact med_of (h s (List.mem_of_mem_take hs))
theorem len12 {L : List Stk} : ((L.take 12).map ofS).length ≤ 12 := by rw [List.length_map, List.length_take]; omega
theorem growK {T : TypeId} {L : List Cut7} {k : Nat} (h : k < L.length) : some (Bk.grow T 7 ((L.take k).map cuC ++ [cuC (L.getD k cu0)])) = some (Bk.grow T 7 ((L.take (k + 1)).map cuC)) := by
  rw [take_snoc cu0 h, List.map_append]; rfl
theorem ofK_end {L : List Cut7} {k : Nat} (h1 : k ≤ L.length) (h2 : ¬k < L.length) : packA [AV.c (Cell.sl 7 ((L.take k).map cuC))] = AV.c (Cell.sl 7 (L.map cuC)) := by
  have : k = L.length := by omega
  subst this
  rw [List.take_length]; rfl
/-! ### The first cut that reaches a height -/
def hitB (x y : Rat) (z : Int) (c : Cut7) : Bool := decide (swo c x y) && decide (exI ((swr c x y).a - (z : Rat)) (swr c x y).b (swr c x y).c ≤ 0)
def frst (p : Nat → Bool) : Nat → Nat → Int
  | 0, _ => -1
  | n + 1, k => if p k = true then (k : Int) else frst p n (k + 1)
def fst52 (x y : Rat) (z : Int) (L : List Cut7) : Int := frst (fun k => hitB x y z (L.getD k cu0)) L.length 0
theorem frst_no {p : Nat → Bool} {n k : Nat} (hk : k < n) (h : p k = false) : frst p (n - (k + 1)) (k + 1) = frst p (n - k) k := by
  rw [show n - k = n - (k + 1) + 1 by omega]
  show _ = if p k = true then _ else _
  rw [h, if_neg (by decide)]
theorem frst_yes {p : Nat → Bool} {n k : Nat} (hk : k < n) (h : p k = true) : frst p (n - k) k = k := by
  rw [show n - k = n - (k + 1) + 1 by omega]
  show (if p k = true then _ else _) = _
  rw [if_pos h]
theorem frst_end {p : Nat → Bool} {n k : Nat} (hk : ¬k < n) : frst p (n - k) k = -1 := by
  rw [show n - k = 0 by omega]; rfl
theorem hit_n {z : Int} {c : Cut7} (h : ¬swo c x y) : hitB x y z c = false := by unfold hitB; rw [decide_eq_false h]; rfl
theorem hit_k {z : Int} {c : Cut7} (h : ¬exI ((swr c x y).a - (z : Rat)) (swr c x y).b (swr c x y).c ≤ 0) : hitB x y z c = false := by unfold hitB; rw [decide_eq_false h, Bool.and_false]
theorem hit_y {z : Int} {c : Cut7} (h1 : swo c x y) (h : exI ((swr c x y).a - (z : Rat)) (swr c x y).b (swr c x y).c ≤ 0) : hitB x y z c = true := by unfold hitB; rw [decide_eq_true h1, decide_eq_true h]; rfl
theorem mn_gt {a b z : Int} (h : (if b < a then b else a) > z) : z < a ∧ z < b := by split at h <;> omega
theorem hit_z {z : Int} {c : Cut7} (h : (if c.tz < c.fz then c.tz else c.fz) > z) : hitB x y z c = false := by
  by_cases hs : swo c x y
  · refine hit_k ?_
    obtain ⟨h1, h2⟩ := mn_gt h
    have := swR_min h1 h2 hs
    rw [show cmpQ (swR (c.fx : Rat) (c.fy : Rat) c.fz (c.tx : Rat) (c.ty : Rat) c.tz (c.r : Rat) x y) ⟨(z : Rat), 0, 0⟩ = exI ((swr c x y).a - (z : Rat)) (swr c x y).b (swr c x y).c from cmp4_r (swr_nn hs)] at this
    omega
  · exact hit_n hs
theorem fs_ret {z : Int} (h1 : frst (fun k => hitB x y z (L.getD k cu0)) (L.length - k) k = fst52 x y z L) (hk : k < L.length) (h : hitB x y z (L.getD k cu0) = true) : packA [AV.c (Cell.v (.int .i64 (k : Int)))] = AV.int .i64 (fst52 x y z L) := by
  rw [← h1, frst_yes hk h]; rfl
theorem fs_end {z : Int} (h1 : frst (fun k => hitB x y z (L.getD k cu0)) (L.length - k) k = fst52 x y z L) (hk : ¬k < L.length) : packA [AV.c (Cell.v (.int .i64 (-1)))] = AV.int .i64 (fst52 x y z L) := by
  rw [← h1, frst_end hk]; rfl
theorem fs_step {z : Int} (h1 : frst (fun k => hitB x y z (L.getD k cu0)) (L.length - k) k = fst52 x y z L) (hk : k < L.length) (h : hitB x y z (L.getD k cu0) = false) : frst (fun k => hitB x y z (L.getD k cu0)) (L.length - (k + 1)) (k + 1) = fst52 x y z L := by
  rw [← h1]; exact frst_no hk h
theorem frst_ge (p : Nat → Bool) : ∀ n k, (0 ≤ frst p n k ∧ frst p n k ≤ (n : Int) + k) ∨ frst p n k = -1
  | 0, _ => .inr rfl
  | n + 1, k => by
    show (0 ≤ (if p k = true then (k : Int) else frst p n (k + 1)) ∧ (if p k = true then (k : Int) else frst p n (k + 1)) ≤ _) ∨ (if p k = true then (k : Int) else frst p n (k + 1)) = -1
    split
    · left; omega
    · rcases frst_ge p n (k + 1) with h | h
      · left; omega
      · right; exact h
end
end Go.Sw

namespace Go.Proofs.YtigbdpkpaleboaaGreat
open Go Go.RowKit Go.Sw
set_option linter.unusedVariables false
set_option maxRecDepth 100000
set_option maxHeartbeats 8000000
set_option synthInstance.maxSize 4000
set_option synthInstance.maxHeartbeats 400000
instance h_first (L : List Cut7) (x y : Rat) (z : Int) : DenI Tryz.prog 25 [.c (.sl 7 (L.map cuC)), Q2 x y, .int .i64 z] ((∀ c ∈ L, medC c) ∧ medI z ∧ rz x ≤ 6 ∧ rz y ≤ 6 ∧ L.length ≤ 12) (.int .i64 (fst52 x y z L)) := ⟨fun hp => by
 obtain ⟨hL, ht, hx, hy, hl⟩ := hp
 have i_x : RzB x 6 := ⟨hx⟩
 have i_y : RzB y 6 := ⟨hy⟩
 have i_t : RzB (z : Rat) 4 := ⟨rz_med ht⟩
 have h64 : -9223372036854775808 ≤ z ∧ z ≤ 9223372036854775807 := (by unfold medI at ht; omega)
 have i_z : RzB (z : Rat) 4 := ⟨rz_med ht⟩
 all_goals refine den_of (τ := tab) tab_ok mixed_ Tryz.func25 rfl (by kernel_rfl) (by kernel_rfl) (by kernel_rfl) ?_
 all_goals (repeat' ((try (conv => whnf)); first
  | refine call_0 ?_
  | refine call_i ?_ ?_
  | refine call_c ?_ (fun _ => ?_) (fun _ => ?_)
  | (with_reducible refine onB_t ?_)
  | (with_reducible refine onB_f ?_)
  | (with_reducible refine onB_d (fun _ => ?_) (fun _ => ?_))
  | (with_reducible refine onB_n (fun _ => ?_) (fun _ => ?_))
  | refine OnB.mk (fun _ => ?_) (fun _ => ?_)
  | refine obl_i ?_ ?_
  | refine Drw.mk (by kernel_rfl) ?_
  | refine mks_i ?_ ?_
  | refine slp_i ?_ ?_
  | (with_reducible refine elem_u ?_ ?_)
  | (with_reducible refine elem_0 ?_)
  | (with_reducible refine elem_1 ?_)
  | refine Ends.mk ?_))
 all_goals (try refine Pr.mk ?_)
 all_goals first
  | ((conv => whnf); refine Sw.Loop.inv (α := Nat) (fun k => [(4, .ptr 4 0), (2, .int .i64 z), (11, .c (.sl 7 (L.map cuC))), (12, .int .i64 ((L.map cuC).length : Nat)), (13, .int .i64 (k : Nat))]) (fun k => [(4, .var [zs x.num, zl x.num, zs x.den, zl x.den, zs y.num, zl y.num, zs y.den, zl y.den])]) (fun k => k ≤ L.length ∧ frst (fun k => hitB x y z (L.getD k cu0)) (L.length - k) k = fst52 x y z L) (fun k => L.length - k) 0 ?_ ?_ ?_ (fun k hk => ?_))
  | skip
 all_goals (repeat' ((try (conv => whnf)); first
  | refine call_0 ?_
  | refine call_i ?_ ?_
  | refine call_c ?_ (fun _ => ?_) (fun _ => ?_)
  | (with_reducible refine onB_t ?_)
  | (with_reducible refine onB_f ?_)
  | (with_reducible refine onB_d (fun _ => ?_) (fun _ => ?_))
  | (with_reducible refine onB_n (fun _ => ?_) (fun _ => ?_))
  | refine OnB.mk (fun _ => ?_) (fun _ => ?_)
  | refine obl_i ?_ ?_
  | refine Drw.mk (by kernel_rfl) ?_
  | refine mks_i ?_ ?_
  | refine slp_i ?_ ?_
  | (with_reducible refine elem_u ?_ ?_)
  | (with_reducible refine elem_0 ?_)
  | (with_reducible refine elem_1 ?_)
  | refine elem_map cu0 ?_ ?_
  | refine Ends.mk ?_))
 all_goals (try refine Pr.mk ?_)
 all_goals first | (show SubE _ _; repeat' (first | exact trivial | refine And.intro ?_ ?_)) | (show SubB _ _; repeat' (first | exact trivial | refine And.intro ?_ ?_)) | skip
 all_goals (try rfl)
 all_goals (try simp only [List.length_map, Int.toNat_natCast] at *)
 all_goals (try simp only [sgnI_lt0, sgnI_zero, sgnI_le0, sgnI_gt0, sgnI_ge0, sgnI_eq1, cmpI_lt0, cmpI_gt0, cmpI_eq0, cmpI_le0, cmpI_ge0, cmpR_of, sgnR_of, sgnR_lt0, sgnR_eq0, sgnR_gt0, sgnR_le0, sgnR_ge0, sgnR_eq1, cmpR_lt0, cmpR_gt0, cmpR_eq0, cmpR_le0, cmpR_ge0] at *)
 all_goals first
  | ((conv => whnf); exact ⟨k + 1, ⟨⟨rfl, rfl, rfl, rfl, inc64 (by omega), trivial⟩, ⟨rfl, trivial⟩, ⟨by omega, fs_step hk.2 (by omega) (hit_z (by assumption))⟩, by show L.length - (k + 1) < L.length - k; omega⟩⟩)
  | ((conv => whnf); exact ⟨k + 1, ⟨⟨rfl, rfl, rfl, rfl, inc64 (by omega), trivial⟩, ⟨rfl, trivial⟩, ⟨by omega, fs_step hk.2 (by omega) (hit_n (by assumption))⟩, by show L.length - (k + 1) < L.length - k; omega⟩⟩)
  | ((conv => whnf); exact ⟨k + 1, ⟨⟨rfl, rfl, rfl, rfl, inc64 (by omega), trivial⟩, ⟨rfl, trivial⟩, ⟨by omega, fs_step hk.2 (by omega) (hit_k (by assumption))⟩, by show L.length - (k + 1) < L.length - k; omega⟩⟩)
  | exact fs_ret hk.2 (by omega) (hit_y (by assumption) (by assumption))
  | exact fs_end hk.2 (by omega)
  | exact h64
  | exact ⟨medC_get hL k, hx, hy⟩
  | (have z := medC_get hL k; exact ⟨z.1, z.2.1, z.2.2.1, z.2.2.2.1, z.2.2.2.2.1, z.2.2.2.2.2.1, z.2.2.2.2.2.2, hx, hy⟩)
  | (have w := okR_swr (medC_get hL k) hx hy (by assumption); exact ⟨w.r20.1, w.r20.2.1, w.r20.2.2, rzb (by omega), w.nn⟩)
  | (have w := okR_swr (medC_get hL k) hx hy (by assumption); exact ⟨w.r20.1, w.r20.2.1, w.r20.2.2, rzb (by omega)⟩)
  | exact ⟨Nat.zero_le _, rfl⟩
  | rfl
  | omega
  | ((repeat' apply And.intro) <;> first | assumption | exact rzb (by omega) | exact szb (by omega) | exact Int.mul_ne_zero (den_ne _) (den_ne _))⟩

instance h_first2 (L : List Cut7) (x y : Rat) (z : Int) : DenI Tryz.prog 24 [.c (.sl 7 (L.map cuC)), Q2 x y, .int .i64 z] ((∀ c ∈ L, medC c) ∧ medI z ∧ rz x ≤ 6 ∧ rz y ≤ 6 ∧ L.length ≤ 12) (.int .i64 (fst52 x y z L)) := ⟨fun hp => by
 obtain ⟨hL, ht, hx, hy, hl⟩ := hp
 have i_x : RzB x 6 := ⟨hx⟩
 have i_y : RzB y 6 := ⟨hy⟩
 have i_t : RzB (z : Rat) 4 := ⟨rz_med ht⟩
 have h64 : -9223372036854775808 ≤ z ∧ z ≤ 9223372036854775807 := (by unfold medI at ht; omega)
 have i_z : RzB (z : Rat) 4 := ⟨rz_med ht⟩
 all_goals refine den_of (τ := tab) tab_ok mixed_ Tryz.func24 rfl (by kernel_rfl) (by kernel_rfl) (by kernel_rfl) ?_
 all_goals (repeat' ((try (conv => whnf)); first
  | refine call_0 ?_
  | refine call_i ?_ ?_
  | refine call_c ?_ (fun _ => ?_) (fun _ => ?_)
  | (with_reducible refine onB_t ?_)
  | (with_reducible refine onB_f ?_)
  | (with_reducible refine onB_d (fun _ => ?_) (fun _ => ?_))
  | (with_reducible refine onB_n (fun _ => ?_) (fun _ => ?_))
  | refine OnB.mk (fun _ => ?_) (fun _ => ?_)
  | refine obl_i ?_ ?_
  | refine Drw.mk (by kernel_rfl) ?_
  | refine mks_i ?_ ?_
  | refine slp_i ?_ ?_
  | (with_reducible refine elem_u ?_ ?_)
  | (with_reducible refine elem_0 ?_)
  | (with_reducible refine elem_1 ?_)
  | refine Ends.mk ?_))
 all_goals (try refine Pr.mk ?_)
 all_goals first
  | ((conv => whnf); refine Sw.Loop.inv (α := Nat) (fun k => [(4, .ptr 4 0), (2, .int .i64 z), (0, .c (.sl 7 (L.map cuC))), (7, .int .i64 (k : Nat))]) (fun k => [(4, .var [zs x.num, zl x.num, zs x.den, zl x.den, zs y.num, zl y.num, zs y.den, zl y.den])]) (fun k => k ≤ L.length ∧ frst (fun k => hitB x y z (L.getD k cu0)) (L.length - k) k = fst52 x y z L) (fun k => L.length - k) 0 ?_ ?_ ?_ (fun k hk => ?_))
  | skip
 all_goals (repeat' ((try (conv => whnf)); first
  | refine call_0 ?_
  | refine call_i ?_ ?_
  | refine call_c ?_ (fun _ => ?_) (fun _ => ?_)
  | (with_reducible refine onB_t ?_)
  | (with_reducible refine onB_f ?_)
  | (with_reducible refine onB_d (fun _ => ?_) (fun _ => ?_))
  | (with_reducible refine onB_n (fun _ => ?_) (fun _ => ?_))
  | refine OnB.mk (fun _ => ?_) (fun _ => ?_)
  | refine obl_i ?_ ?_
  | refine Drw.mk (by kernel_rfl) ?_
  | refine mks_i ?_ ?_
  | refine slp_i ?_ ?_
  | (with_reducible refine elem_u ?_ ?_)
  | (with_reducible refine elem_0 ?_)
  | (with_reducible refine elem_1 ?_)
  | refine elem_map cu0 ?_ ?_
  | refine Ends.mk ?_))
 all_goals (try refine Pr.mk ?_)
 all_goals first | (show SubE _ _; repeat' (first | exact trivial | refine And.intro ?_ ?_)) | (show SubB _ _; repeat' (first | exact trivial | refine And.intro ?_ ?_)) | skip
 all_goals (try rfl)
 all_goals (try simp only [List.length_map, Int.toNat_natCast] at *)
 all_goals (try simp only [sgnI_lt0, sgnI_zero, sgnI_le0, sgnI_gt0, sgnI_ge0, sgnI_eq1, cmpI_lt0, cmpI_gt0, cmpI_eq0, cmpI_le0, cmpI_ge0, cmpR_of, sgnR_of, sgnR_lt0, sgnR_eq0, sgnR_gt0, sgnR_le0, sgnR_ge0, sgnR_eq1, cmpR_lt0, cmpR_gt0, cmpR_eq0, cmpR_le0, cmpR_ge0] at *)
 all_goals first
  | ((conv => whnf); exact ⟨k + 1, ⟨⟨rfl, rfl, rfl, inc64 (by omega), trivial⟩, ⟨rfl, trivial⟩, ⟨by omega, fs_step hk.2 (by omega) (hit_z (by assumption))⟩, by show L.length - (k + 1) < L.length - k; omega⟩⟩)
  | ((conv => whnf); exact ⟨k + 1, ⟨⟨rfl, rfl, rfl, inc64 (by omega), trivial⟩, ⟨rfl, trivial⟩, ⟨by omega, fs_step hk.2 (by omega) (hit_n (by assumption))⟩, by show L.length - (k + 1) < L.length - k; omega⟩⟩)
  | ((conv => whnf); exact ⟨k + 1, ⟨⟨rfl, rfl, rfl, inc64 (by omega), trivial⟩, ⟨rfl, trivial⟩, ⟨by omega, fs_step hk.2 (by omega) (hit_k (by assumption))⟩, by show L.length - (k + 1) < L.length - k; omega⟩⟩)
  | exact fs_ret hk.2 (by omega) (hit_y (by assumption) (by assumption))
  | exact fs_end hk.2 (by omega)
  | exact h64
  | exact ⟨medC_get hL k, hx, hy⟩
  | (have z := medC_get hL k; exact ⟨z.1, z.2.1, z.2.2.1, z.2.2.2.1, z.2.2.2.2.1, z.2.2.2.2.2.1, z.2.2.2.2.2.2, hx, hy⟩)
  | (have w := okR_swr (medC_get hL k) hx hy (by assumption); exact ⟨w.r20.1, w.r20.2.1, w.r20.2.2, rzb (by omega), w.nn⟩)
  | (have w := okR_swr (medC_get hL k) hx hy (by assumption); exact ⟨w.r20.1, w.r20.2.1, w.r20.2.2, rzb (by omega)⟩)
  | exact ⟨Nat.zero_le _, rfl⟩
  | rfl
  | omega
  | ((repeat' apply And.intro) <;> first | assumption | exact rzb (by omega) | exact szb (by omega) | exact Int.mul_ne_zero (den_ne _) (den_ne _))⟩

end Go.Proofs.YtigbdpkpaleboaaGreat

namespace Go.Proofs.YtigbdpkpaleboaaGreat
open Go Go.RowKit Go.Sw
set_option linter.unusedVariables false
set_option maxRecDepth 100000
set_option maxHeartbeats 8000000
set_option synthInstance.maxSize 4000
set_option synthInstance.maxHeartbeats 400000
instance l_of (L : List Cut7) : DenI Tryz.prog 20 [.c (.sl 7 (L.map cuC))] (L.length ≤ 12) (.c (.sl 7 (L.map cuC))) := ⟨fun hp => by
 refine den_of (τ := tab) tab_ok mixed_ Tryz.func20 rfl (by kernel_rfl) (by kernel_rfl) (by kernel_rfl) ?_
 all_goals first
  | ((conv => whnf); refine Sw.Loop.ghost 3 100 45 7 ?_ rfl rfl rfl (by decide))
  | skip
 all_goals first
  | ((conv => whnf); refine Sw.Loop.inv (α := Nat) (fun k => [(6, .c (.sl 7 (L.map cuC))), (7, .int .i64 ((L.map cuC).length : Nat)), (3, .gs 100 k), (8, .int .i64 (k : Nat))]) (fun k => [(100, .grow 45 7 ((L.take k).map cuC))]) (fun k => k ≤ L.length ∧ True) (fun k => L.length - k) 0 ?_ ?_ ?_ (fun k hk => ?_))
  | skip
 all_goals (repeat' ((try (conv => whnf)); first
  | refine call_0 ?_
  | refine call_i ?_ ?_
  | refine call_c ?_ (fun _ => ?_) (fun _ => ?_)
  | (with_reducible refine onB_t ?_)
  | (with_reducible refine onB_f ?_)
  | (with_reducible refine onB_d (fun _ => ?_) (fun _ => ?_))
  | (with_reducible refine onB_n (fun _ => ?_) (fun _ => ?_))
  | refine OnB.mk (fun _ => ?_) (fun _ => ?_)
  | refine obl_i ?_ ?_
  | refine Drw.mk (by kernel_rfl) ?_
  | refine mks_i ?_ ?_
  | refine slp_i ?_ ?_
  | (with_reducible refine elem_u ?_ ?_)
  | (with_reducible refine elem_0 ?_)
  | (with_reducible refine elem_1 ?_)
  | refine elem_map cu0 ?_ ?_
  | refine Ends.mk ?_))
 all_goals (try refine Pr.mk ?_)
 all_goals first | (show SubE _ _; repeat' (first | exact trivial | refine And.intro ?_ ?_)) | (show SubB _ _; repeat' (first | exact trivial | refine And.intro ?_ ?_)) | skip
 all_goals (try rfl)
 all_goals (try simp only [List.length_map, Int.toNat_natCast] at *)
 all_goals first
  | exact ofK_end hk.1 (by omega)
  | ((conv => whnf); exact ⟨k + 1, ⟨⟨rfl, rfl, gsE (by simp only [List.length_map, List.length_append, List.length_take, List.length_cons, List.length_nil]; omega), inc64 (by omega), trivial⟩, ⟨growK (by omega), trivial⟩, ⟨by omega, trivial⟩, by show L.length - (k + 1) < L.length - k; omega⟩⟩)
  | omega
  | exact ⟨Nat.zero_le _, trivial⟩
  | (simp only [List.length_map, List.length_append, List.length_take, List.length_cons, List.length_nil]; omega)⟩

end Go.Proofs.YtigbdpkpaleboaaGreat

namespace Go.Sw
open Go Go.RowKit
set_option linter.unusedVariables false
theorem all_map {α : Type} {f : α → List Cell} {p : α → Prop} : ∀ {es : List (List Cell)}, (∀ x ∈ es, ∃ a, p a ∧ x = f a) → ∃ L : List α, L.length = es.length ∧ (∀ a ∈ L, p a) ∧ es = L.map f
  | [], _ => ⟨[], rfl, fun a h => by simp at h, rfl⟩
  | e :: r, h => by
    obtain ⟨a, ha, rfl⟩ := h e (by simp)
    obtain ⟨L, l1, l2, l3⟩ := all_map (es := r) fun x hx => h x (by simp [hx])
    exact ⟨a :: L, by simp [l1], fun b hb => by rcases List.mem_cons.1 hb with rfl | hb; exact ha; exact l2 b hb, by simp [l3]⟩
theorem fit_stks {c : Cell} (h : Fit (.slice (.cons (.cons (.int .i16) (.cons (.int .i16) (.cons (.int .i16) .nil))) (.cons (.cons (.int .i16) (.cons (.int .i16) (.cons (.int .i16) .nil))) (.cons (.int .u8) .nil)))) [c]) :
    ∃ L : List Stk, L.length ≤ maxLen ∧ (∀ s ∈ L, okS s) ∧ c = .sl 7 (L.map stC) := by
  obtain ⟨es, h1, h2, rfl⟩ := fit_slice h
  obtain ⟨L, l1, l2, l3⟩ := all_map (f := stC) (p := okS) (es := es) fun x hx => by
    obtain ⟨_, _, ⟨_, _, ⟨a, wa, rfl⟩, ⟨_, _, ⟨b, wb, rfl⟩, ⟨_, _, ⟨c, wc, rfl⟩, rfl, rfl⟩, rfl⟩, rfl⟩, ⟨_, _, ⟨_, _, ⟨d, wd, rfl⟩, ⟨_, _, ⟨e, we, rfl⟩, ⟨_, _, ⟨f, wf, rfl⟩, rfl, rfl⟩, rfl⟩, rfl⟩, ⟨_, _, ⟨r, wr, rfl⟩, rfl, rfl⟩, rfl⟩, rfl⟩ := h2 x hx
    obtain ⟨m, rfl, hm⟩ := wfNat (by simp) wr
    have := wfI16 wa; have := wfI16 wb; have := wfI16 wc; have := wfI16 wd; have := wfI16 we; have := wfI16 wf
    have hm' : m < 256 := hm
    exact ⟨⟨a, b, c, d, e, f, m⟩, by unfold okS smallI; simp only; omega, rfl⟩
  exact ⟨L, by omega, l2, by rw [l3]; rfl⟩
end Go.Sw

namespace Go.Proofs.YtigbdpkpaleboaaGreat
open Go Go.RowKit Go.Sw
set_option linter.unusedVariables false
set_option maxRecDepth 100000
set_option maxHeartbeats 8000000
set_option synthInstance.maxSize 4000
set_option synthInstance.maxHeartbeats 400000
instance h_rem (L : List Cut7) (x y : Rat) (z : Int)  : DenI Tryz.prog 26 [.c (.sl 7 (L.map cuC)), Q2 x y, .int .i64 z] ((∀ c ∈ L, medC c) ∧ medI z ∧ rz x ≤ 6 ∧ rz y ≤ 6 ∧ L.length ≤ 12) (.bool (decide (fst52 x y z L ≥ 0))) := ⟨fun hp => by
 refine den_of (τ := tab) tab_ok mixed_ Tryz.func26 rfl (by kernel_rfl) (by kernel_rfl) (by kernel_rfl) ?_
 all_goals (repeat' ((try (conv => whnf)); first
  | refine call_0 ?_
  | refine call_i ?_ ?_
  | refine call_c ?_ (fun _ => ?_) (fun _ => ?_)
  | (with_reducible refine onB_t ?_)
  | (with_reducible refine onB_f ?_)
  | (with_reducible refine onB_d (fun _ => ?_) (fun _ => ?_))
  | (with_reducible refine onB_n (fun _ => ?_) (fun _ => ?_))
  | refine OnB.mk (fun _ => ?_) (fun _ => ?_)
  | refine obl_i ?_ ?_
  | refine Drw.mk (by kernel_rfl) ?_
  | refine mks_i ?_ ?_
  | refine slp_i ?_ ?_
  | (with_reducible refine elem_u ?_ ?_)
  | (with_reducible refine elem_0 ?_)
  | (with_reducible refine elem_1 ?_)
  | refine Ends.mk ?_))
 all_goals (try refine Pr.mk ?_)
 all_goals (try simp only [sgnI_lt0, sgnI_zero, sgnI_le0, sgnI_gt0, sgnI_ge0, sgnI_eq1, cmpI_lt0, cmpI_gt0, cmpI_eq0, cmpI_le0, cmpI_ge0, cmpR_of, sgnR_of, sgnR_lt0, sgnR_eq0, sgnR_gt0, sgnR_le0, sgnR_ge0, sgnR_eq1, cmpR_lt0, cmpR_gt0, cmpR_eq0, cmpR_le0, cmpR_ge0] at *)
 all_goals first
  | exact hp
  | rfl
  | (simp only [redB, redC, mkA, mkB, mkC, cooC, ptC, *, true_or, or_true, if_true, if_false, or_self, and_self, and_true, true_and, and_false, false_and, not_true, not_false_iff, Bool.false_eq_true, decide_true, decide_false, Bool.or_true, Bool.true_or, Bool.or_false, Bool.false_or]; rfl)
  | ((repeat' apply And.intro) <;> first | assumption | exact rzb (by omega) | exact szb (by omega) | exact Int.mul_ne_zero (den_ne _) (den_ne _))
  | (exfalso; simp_all; done)
  | (exfalso; grind)
  | omega
  | ((repeat' apply And.intro) <;> first | assumption | exact rzb (by omega) | exact szb (by omega) | exact Int.mul_ne_zero (den_ne _) (den_ne _))⟩

instance L_rem (L : List Stk) (t x y : Int) (w : Nat) : DenI Tryz.prog 7 [.c (.sl 7 (L.map stC)), .int .i16 t, .agg [.v (.int .i16 x), .v (.int .i16 y), .v (.int .u8 (w : Nat))]] ((∀ s ∈ L, okS s) ∧ smallI t ∧ smallI x ∧ smallI y ∧ w ≤ 255) (.bool true) := ⟨fun hp => by
 obtain ⟨hs, p1, p2, p3, p4⟩ := hp
 have ht : medI t := (by unfold medI smallI at *; omega)
 have hM := meds_of hs
 have hl := len12 (L := L)
 have i_qx : RzB (((x : Int) : Rat) / (((w : Int) + 1 : Int) : Rat)) 6 := ⟨rz_q' _ _ (by unfold smallI at *; omega) (by omega)⟩
 have i_qy : RzB (((y : Int) : Rat) / (((w : Int) + 1 : Int) : Rat)) 6 := ⟨rz_q' _ _ (by unfold smallI at *; omega) (by omega)⟩
 all_goals refine den_of (τ := tab) tab_ok mixed_ Tryz.func7 rfl (by kernel_rfl) (by kernel_rfl) (by kernel_rfl) ?_
 all_goals (repeat' ((try (conv => whnf)); first
  | refine call_0 ?_
  | refine call_i ?_ ?_
  | refine call_c ?_ (fun _ => ?_) (fun _ => ?_)
  | (with_reducible refine onB_t ?_)
  | (with_reducible refine onB_f ?_)
  | (with_reducible refine onB_d (fun _ => ?_) (fun _ => ?_))
  | (with_reducible refine onB_n (fun _ => ?_) (fun _ => ?_))
  | refine OnB.mk (fun _ => ?_) (fun _ => ?_)
  | refine obl_i ?_ ?_
  | refine Drw.mk (by kernel_rfl) ?_
  | refine mks_i ?_ ?_
  | refine slp_i ?_ ?_
  | (with_reducible refine elem_u ?_ ?_)
  | (with_reducible refine elem_0 ?_)
  | (with_reducible refine elem_1 ?_)
  | refine Ends.mk ?_))
 all_goals (try refine Pr.mk ?_)
 all_goals (try simp (disch := (unfold smallI at *; omega)) only [wi64, dm8] at *)
 all_goals (try simp only [sgnI_lt0, sgnI_zero, sgnI_le0, sgnI_gt0, sgnI_ge0, sgnI_eq1, cmpI_lt0, cmpI_gt0, cmpI_eq0, cmpI_le0, cmpI_ge0, cmpR_of, sgnR_of, sgnR_lt0, sgnR_eq0, sgnR_gt0, sgnR_le0, sgnR_ge0, sgnR_eq1, cmpR_lt0, cmpR_gt0, cmpR_eq0, cmpR_le0, cmpR_ge0] at *)
 all_goals first
  | rfl
  | contradiction
  | (unfold smallI at *; omega)
  | (unfold medI at *; omega)
  | exact hs
  | exact ⟨hM, ht, i_qx.h, i_qy.h, hl⟩
  | exact hl
  | ((repeat' apply And.intro) <;> first | assumption | exact rzb (by omega) | exact szb (by omega) | (unfold medI at *; omega))
  | (refine bE ?_; simp; done)
  | (exfalso; simp at *; done)
  | (exfalso; simp_all; done)⟩

end Go.Proofs.YtigbdpkpaleboaaGreat

namespace Go.Proofs.YtigbdpkpaleboaaGreat
open Go Go.RowKit Go.Sw Go.ChangeShapes Go.WideShapes Go.ChangeAt
set_option maxRecDepth 100000
theorem MaterialRemoved_den : ∀ xs, FitAs [.slice (.cons (.cons (.int .i16) (.cons (.int .i16) (.cons (.int .i16) .nil))) (.cons (.cons (.int .i16) (.cons (.int .i16) (.cons (.int .i16) .nil))) (.cons (.int .u8) .nil))), .int .i16, .cons (.int .i16) (.cons (.int .i16) (.cons (.int .u8) .nil))] xs → Den Tryz.prog 7 xs (.bool true) := by
  rintro xs ⟨_, _, ⟨_, ge1, rfl⟩, ⟨_, _, ⟨_, gn2, rfl⟩, ⟨_, _, ⟨_, ⟨_, _, ⟨n3, wn3, rfl⟩, ⟨_, _, ⟨n4, wn4, rfl⟩, ⟨_, _, ⟨n5, wn5, rfl⟩, rfl, rfl⟩, rfl⟩, rfl⟩, rfl⟩, rfl, rfl⟩, rfl⟩, rfl⟩
  obtain ⟨e1, ze1, ye1, rfl⟩ := fit_stks ge1
  obtain ⟨n2, wn2, rfl⟩ := fit_int gn2
  have wn2 := wfI16 wn2
  have wn3 := wfI16 wn3
  have wn4 := wfI16 wn4
  obtain ⟨mn5, rfl, hmn5⟩ := wfNat (by simp) wn5
  have hmn5 : mn5 < 256 := hmn5
  simp only [List.append_nil, List.nil_append, List.cons_append]
  exact DenI.den (P := Tryz.prog) (f := 7) (by unfold smallI; (repeat' apply And.intro) <;> first | trivial | assumption | omega)
set_option maxHeartbeats 800000 in
theorem MaterialRemoved_lifted (os : Os) (started : os.Started) (H : Type) (enc : TypeId × Value → H) :
    ReturnsInHanded {} Tryz.checked os 7 .any (Rows.materialRemovedSpec.pre6 enc Tryz.prog Tryz.f7 Rows.materialRemovedRow.domain false) (Rows.materialRemovedSpec.post enc Tryz.prog Tryz.f7 false true false false) := by
  refine returnsInHanded_of_change (C := Tryz.checked) Tryz.own started (by kernel_rfl) Tryz.func7
    (ChangeSpec.witness6 (enc := enc) (C := Tryz.checked) false ⟨#[], #[.slice none 0 0, .int .i16 0, .agg #[.int .i16 0, .int .i16 0, .int .u8 0]], []⟩ 12 (by kernel_rfl) (by kernel_rfl) (by kernel_rfl) (by kernel_rfl)) ?_
  intro W base args ds gs before hval0 hW _ _
  have hW' := hW
  obtain ⟨p, q, hA0, hV, rfl, _, _⟩ := hW
  have hA : DataW.TrodAll enc Tryz.prog W 0 (fun _ => true) true Tryz.f7.params.toList args.toList ds p := hA0
  obtain ⟨rfl, rfl⟩ := trodVars_none hV
  obtain ⟨d0, d1, d2, rfl⟩ := len3 (show ds.length = 3 from trodAll_len hA)
  simp only [List.append_nil] at hW'
  have hlt : ∀ x ∈ p, x.block < W.heap.size := fun x hx => by simpa using hW'.lt x hx
  refine (law_run (Ts := [.slice (.cons (.cons (.int .i16) (.cons (.int .i16) (.cons (.int .i16) .nil))) (.cons (.cons (.int .i16) (.cons (.int .i16) (.cons (.int .i16) .nil))) (.cons (.int .u8) .nil))), .int .i16, .cons (.int .i16) (.cons (.int .i16) (.cons (.int .u8) .nil))]) (by kernel_rfl) MaterialRemoved_den (fun j t v hj ha => hval0 j t v (by simpa using hj) (by simpa using ha)) hA).mono fun e W' he => ?_
  obtain ⟨_, rfl, rfl, hb⟩ := he
  refine ⟨_, rfl, _, _, _, [], _, [], hW', ?_, trodAll_below Tryz.laidOut hb (by kernel_rfl) hlt hA, rfl, hb.frame _, fun h => by cases h⟩
  exact trodAll_mk1 (shut_bool Tryz.underlying4 _)
theorem MaterialRemoved_holds : Rows.MaterialRemovedSaid :=
  OpenClaim.holds_of_wide 7 Tryz.f7 rfl rfl rfl rfl rfl rfl rfl ⟨rfl, rfl, rfl, rfl, rfl⟩ rfl rfl rfl rfl rfl (by kernel_rfl) Tryz.func7 (by kernel_rfl)
    (of_decide_eq_true (by kernel_rfl)) (by unfold Func.isWrapper; first | (rw [if_pos (by decide +kernel)]; kernel_rfl) | (rw [if_neg (by decide +kernel)]; exact ⟨rfl, rfl⟩))
    (fun os started H enc _ => MaterialRemoved_lifted os started H enc)
#print axioms MaterialRemoved_holds
end Go.Proofs.YtigbdpkpaleboaaGreat
