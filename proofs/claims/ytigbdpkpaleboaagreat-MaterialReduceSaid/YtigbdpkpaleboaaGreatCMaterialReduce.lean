/-
  Writing to a variable that the caller hands on.
  Leaves of the runs of the order of roots.
  What the functions radical.plain, radical.copied, radical.Sub, radical.apart answer, each out of its text by the abstract run.
  What the functions radical.quick answer, each out of its text by the abstract run.
  What the functions radical.Sign$1, radical.Sign, radical.Cmp, radical.CmpRat answer, each out of its text by the abstract run.
  The cuts that no other one dominates reach as low as all of them.
  The loops over lists of cuts.
  What the functions material.Height, swarfref52.Height answer, each out of its text by the abstract run.
  What the functions swarflaw52.of answer, each out of its text by the abstract run.
  The loops that reduce lists of cuts.
  What the functions material.Reduce, swarfref52.Reduce answer, each out of its text by the abstract run.
  Lists of strokes, as they come in.
  What the functions swarfref52.Same, swarflaw52.MaterialReduce answer, each out of its text by the abstract run.
  Reduce gives the cuts that are not dominated, and changes no height: the law returns true for every list of cuts and every point.
  Conditions: none.
-/
import Derived.Test.YtigbdpkpaleboaaGreatM11
set_option linter.all false
namespace Go.Sw
open Go Go.RowKit
set_option linter.unusedVariables false
theorem setRow_sz (w : World) (g : Nat) (cs : Array Value) : (w.setRow g cs).heap.size = w.heap.size := by simp [World.setRow]
/-- A block ahead of the call's own is written over. -/
theorem St.over {w0 w : World} {S : List Bx} (h : St w0 w S) {g : Nat} (cs : Array Value) (hg : g < w0.heap.size) : St (w0.setRow g cs) (w.setRow g cs) S := by
  refine ⟨⟨h.below.os, h.below.tape, h.below.output, by rw [setRow_sz, setRow_sz]; exact h.below.size, fun k hk => ?_⟩, fun b hb => ?_, h.nd⟩
  · rw [setRow_sz] at hk
    have hb := h.below.block k hk
    by_cases e : k = g
    · subst e
      simp [World.setRow, Array.getElem?_modify, hb]
    · rw [setRow_other _ _ _ _ e, setRow_other _ _ _ _ e]; exact hb
  · obtain ⟨h1, h2⟩ := h.box b hb
    rw [setRow_sz, setRow_other _ _ _ _ (by omega)]
    exact ⟨h1, h2⟩
theorem St.grown {w0 w : World} {S : List Bx} {g : Nat} {cs : Array Value} (h : St (w0.setRow g cs) w S) : w0.grownBy w (some g) := by
  refine ⟨h.below.os, h.below.tape, h.below.output, by have := h.below.size; rwa [setRow_sz] at this, fun k hk hn => ?_⟩
  have := h.below.block k (by rw [setRow_sz]; exact hk)
  rw [this, setRow_other _ _ _ _ (fun e => hn (by rw [e]))]
section
variable {P : Program} {Q : Exit → Act → World → Prop} {a : Act} {w : World} {K : Act → World → Prop} {N : Nat} {L : List (Nat × Value)} {ρ : Operand → Value} {d : Option Nat}
variable {ty : TypeId} {pos : String} {af : Array Edge} {gd : Option (Nat × Bool)}
theorem ex_nilc {x : Operand} {ad : Addr} (hx : ρ x = .pointer (some ad)) : (execOp ρ ⟨d, .nilCheck x, ty, pos, af, gd⟩).run P w = .ok (.value (.pointer (some ad))) w := by simp [execOp, hx]
theorem op_storeg {t T : TypeId} {x y : Operand} {g off : Nat} {v : Value} {vs cs : Array Value} (hF : Frm N a L) (hg : w.heap[g]? = some (.cells cs T (0, 0)))
    (hx : ev L x = some (.pointer (some ⟨g, off, none⟩))) (hy : ev L y = some v) (hv : v.cells = vs) (hsz : (P.info? t).map (·.size) = some vs.size) (h1 : vs.toList.all Value.oneCell' = true) (hfit : off + vs.size ≤ cs.size)
    (k : K a (w.setRow g (splice cs off vs))) : Oper.wp P ⟨none, .store t x y, ty, pos, af, gd⟩ a w K Q := by
  unfold Oper.wp
  have hr : (execOp a.eval ⟨none, .store t x y, ty, pos, af, gd⟩).run P w = .ok .skip (w.setRow g (splice cs off vs)) := by
    simp [execOp, hF.ev hx, hF.ev hy, run_storeAt hv hsz h1 hg hfit]
  rw [hr]
  simp only [Oper.upon, Act.put]
  exact k
end
theorem RepC.v_eq {w : World} {X : List Nat} {u v : Value} (h : RepC w X u (.v v)) : u = v := by cases h; rfl
theorem RepL.v1 {w : World} {X : List Nat} {us : List Value} {a : Value} (h : RepL w X us [.v a]) : us = [a] := by
  obtain ⟨r, rfl, h⟩ := h.vcons
  have := h.len
  cases r with
  | nil => rfl
  | cons => simp at this
theorem RepL.v2 {w : World} {X : List Nat} {us : List Value} {a b : Value} (h : RepL w X us [.v a, .v b]) : us = [a, b] := by
  obtain ⟨r, rfl, k⟩ := h.vcons
  exact congrArg (List.cons a) k.v1
theorem RepL.of2 {w : World} {X : List Nat} {a b : Value} (h1 : a.oneCell' = true) (h2 : b.oneCell' = true) : RepL w X [a, b] [.v a, .v b] := .cons (.v _ h1) (.cons (.v _ h2) (.nil _ _))
theorem RepD.agg_v2 {w : World} {X : List Nat} {u a b : Value} (h : RepD w X u (.agg [.v a, .v b])) : u = .agg #[a, b] := by
  cases h with
  | agg h => rw [h.v2]
theorem RepD.v_eq {w : World} {X : List Nat} {u a : Value} (h : RepD w X u (.c (.v a))) : u = a := by
  cases h with
  | c h => exact h.v_eq
end Go.Sw

namespace Go.Sw
open Go
set_option linter.unusedVariables false
section
variable {a b c d e f m n : Rat}
theorem pl_1 (h : sgnR b * sgnR c = 0) : packA [AV.c (Cell.v (.int .i64 (sgnR a)))] = AV.int .i64 (exI a b c) := iE (by unfold exI; rw [if_pos (.inr h)])
theorem pl_2 (h : sgnR a = sgnR b * sgnR c) : packA [AV.c (Cell.v (.int .i64 (sgnR a)))] = AV.int .i64 (exI a b c) := iE (by unfold exI; rw [if_pos (.inl h)])
theorem pl_3 (h1 : ¬sgnR b * sgnR c = 0) (h2 : ¬sgnR a = sgnR b * sgnR c) (h3 : a = 0) : packA [AV.c (Cell.v (.int .i64 (sgnR b * sgnR c)))] = AV.int .i64 (exI a b c) := iE (by
  unfold exI; rw [if_neg (by rintro (h | h); exact h2 h; exact h1 h), if_pos (by rw [h3]; rfl)])
theorem pl_4 (h1 : ¬sgnR b * sgnR c = 0) (h2 : ¬sgnR a = sgnR b * sgnR c) (h3 : ¬a = 0) : packA [AV.c (Cell.v (.int .i64 (sgnR a * cmpR (a * a) (b * b * c))))] = AV.int .i64 (exI a b c) := tw_4 h3 h1 h2
theorem qk_n (h : ¬Qk a b c d m n) : packA [AV.c (Cell.v (.int .i64 0)), AV.c (Cell.v (.bool false))] = AV.tup [AV.int .i64 (quickA a b c d m n).1, AV.bool (quickA a b c d m n).2] := by
  rw [quickA_n h]; rfl
theorem rsg_1 (hm : 0 ≤ m) (hn : 0 ≤ n) (h : (quickA a b c d m n).2 = true) : packA [AV.c (Cell.v (.int .i64 (quickA a b c d m n).1))] = AV.int .i64 (sg4 a b c d m n) := iE (quickA_sg hm hn h)
theorem cp_1 (hc : 0 ≤ c) (hf : 0 ≤ f) (h1 : b = 0) (h2 : e = 0) : packA [AV.c (Cell.v (.int .i64 (cmpR a d)))] = AV.int .i64 (cmp4 a b c d e f) := by
  subst h1 h2; exact iE (cmp4_rat hc hf).symm
theorem cp_2 (hc : 0 ≤ c) (hf : 0 ≤ f) (h : (apartI (rootI a b c) (rootI d e f)).2 = true) : packA [AV.c (Cell.v (.int .i64 (apartI (rootI a b c) (rootI d e f)).1))] = AV.int .i64 (cmp4 a b c d e f) := iE (apartI_cmp hc hf h)
theorem cp_3 (hc : 0 ≤ c) (h : c = f) : packA [AV.c (Cell.v (.int .i64 (exI (a - d) (b - e) c)))] = AV.int .i64 (cmp4 a b c d e f) := by
  subst h; exact iE (cmp4_one hc).symm
theorem cp_4 (h : c = f) : True := trivial
theorem ap_n1 (h : (rootI a b c).isSome = false) : packA [AV.c (Cell.v (.int .i64 0)), AV.c (Cell.v (.bool false))] = AV.tup [AV.int .i64 (apartI (rootI a b c) (rootI d e f)).1, AV.bool (apartI (rootI a b c) (rootI d e f)).2] := by
  cases hq : rootI a b c with
  | none => rfl
  | some x => rw [hq] at h; cases h
theorem ap_n2 (h : (rootI d e f).isSome = false) : packA [AV.c (Cell.v (.int .i64 0)), AV.c (Cell.v (.bool false))] = AV.tup [AV.int .i64 (apartI (rootI a b c) (rootI d e f)).1, AV.bool (apartI (rootI a b c) (rootI d e f)).2] := by
  cases hq : rootI d e f with
  | none => cases hr : rootI a b c <;> rfl
  | some x => rw [hq] at h; cases h
theorem ap_lt (h1 : (rootI a b c).isSome = true) (h2 : (rootI d e f).isSome = true) (h : ((rootI a b c).getD (0, 0)).2 < ((rootI d e f).getD (0, 0)).1) :
    packA [AV.c (Cell.v (.int .i64 (-1))), AV.c (Cell.v (.bool true))] = AV.tup [AV.int .i64 (apartI (rootI a b c) (rootI d e f)).1, AV.bool (apartI (rootI a b c) (rootI d e f)).2] := by
  cases hq : rootI a b c with
  | none => rw [hq] at h1; cases h1
  | some x => cases hr : rootI d e f with
    | none => rw [hr] at h2; cases h2
    | some y => rw [hq, hr] at h; unfold apartI; simp only [Option.getD_some] at *; rw [if_pos h]; rfl
theorem ap_gt (h1 : (rootI a b c).isSome = true) (h2 : (rootI d e f).isSome = true) (h0 : ¬((rootI a b c).getD (0, 0)).2 < ((rootI d e f).getD (0, 0)).1) (h : ((rootI a b c).getD (0, 0)).1 > ((rootI d e f).getD (0, 0)).2) :
    packA [AV.c (Cell.v (.int .i64 1)), AV.c (Cell.v (.bool true))] = AV.tup [AV.int .i64 (apartI (rootI a b c) (rootI d e f)).1, AV.bool (apartI (rootI a b c) (rootI d e f)).2] := by
  cases hq : rootI a b c with
  | none => rw [hq] at h1; cases h1
  | some x => cases hr : rootI d e f with
    | none => rw [hr] at h2; cases h2
    | some y => rw [hq, hr] at h h0; unfold apartI; simp only [Option.getD_some] at *; rw [if_neg h0, if_pos h]; rfl
theorem ap_no (h1 : (rootI a b c).isSome = true) (h2 : (rootI d e f).isSome = true) (h0 : ¬((rootI a b c).getD (0, 0)).2 < ((rootI d e f).getD (0, 0)).1) (h : ¬((rootI a b c).getD (0, 0)).1 > ((rootI d e f).getD (0, 0)).2) :
    packA [AV.c (Cell.v (.int .i64 0)), AV.c (Cell.v (.bool false))] = AV.tup [AV.int .i64 (apartI (rootI a b c) (rootI d e f)).1, AV.bool (apartI (rootI a b c) (rootI d e f)).2] := by
  cases hq : rootI a b c with
  | none => rw [hq] at h1; cases h1
  | some x => cases hr : rootI d e f with
    | none => rw [hr] at h2; cases h2
    | some y => rw [hq, hr] at h h0; unfold apartI; simp only [Option.getD_some] at *; rw [if_neg h0, if_neg h]; rfl
end
end Go.Sw

namespace Go.Proofs.YtigbdpkpaleboaaGreat
open Go Go.RowKit Go.Sw
set_option linter.unusedVariables false
set_option maxRecDepth 100000
set_option maxHeartbeats 8000000
set_option synthInstance.maxSize 4000
set_option synthInstance.maxHeartbeats 400000
theorem off157_0 : fieldOff Tryz.prog 157 0 = some 0 := by kernel_rfl
theorem one4 : isOne Tryz.prog 4 = true := by kernel_rfl
theorem row139 : isRow Tryz.prog 139 2 = true := by kernel_rfl

theorem with_true {w : World} {X : List Nat} {g : Nat} {T : TypeId} {l h : Int} {q : Bool} (hX : ∀ m ∈ X, m < w.heap.size) (hg : w.heap[g]? = some (.cells #[.bool true] T (0, 0))) :
    Calls Tryz.prog 164 #[.pointer (some ⟨g, 0, none⟩), .agg #[.int .i64 l, .int .i64 h], .bool q] w (Ret fun u w' => RepR w' X u (.agg [.v (.int .i64 l), .v (.int .i64 h)]) ∧ w.grownBy w' (some g) ∧ ∃ us' : List Value, w'.heap[g]? = some (.cells us'.toArray T (0, 0)) ∧ RepL w' X us' [.v (.bool q)]) := by
 have hgw : g < w.heap.size := by
  rcases Nat.lt_or_ge g w.heap.size with k | k
  · exact k
  · rw [Array.getElem?_eq_none k] at hg; cases hg
 refine enter (N := 18) (fn := Tryz.f164) (vs := [.pointer (some ⟨g, 0, none⟩), .agg #[.int .i64 l, .int .i64 h], .bool q]) Tryz.func164 rfl rfl rfl ?_
 intro fa hF
 replace hF : Frm 18 fa [(0, .pointer (some ⟨g, 0, none⟩)), (1, .agg #[.int .i64 l, .int .i64 h]), (2, .bool q)] := hF
 have hS := St.refl w
 refine c_seq ?_
 refine c_reg ?_
 refine st rfl (op_box (X := X) hF hS rfl rfl rfl ?_)
 intro g1 w2 hg4 hS E3; refine gen_ ?_; clear hF fa; intro fa hF
 replace hS : St w w2 [(g1, 139, #[.int .i64 l, .int .i64 h])] := hS
 refine st rfl (op_alloc (X := (g1 :: X)) hF hS rfl (show zeroOf Tryz.prog 139 = some #[.int .i64 0, .int .i64 0] by kernel_rfl) ?_)
 intro g5 w6 hg8 hS E7; refine gen_ ?_; clear hF fa; intro fa hF
 replace hS : St w w6 [(g5, 139, #[.int .i64 0, .int .i64 0]), (g1, 139, #[.int .i64 l, .int .i64 h])] := hS
 have hg6 : w6.heap[g]? = some (.cells #[.bool true] T (0, 0)) := by rw [hS.below.block g hgw]; exact hg
 refine c_nil_then ?_
 refine c_seq ?_
 refine c_reg ?_
 refine st_val hF rfl rfl rfl (ex_move (hF.ev rfl)) ?_
 clear hF fa; intro fa hF
 refine st_val hF rfl rfl rfl (ex_move (hF.ev rfl)) ?_
 clear hF fa; intro fa hF
 refine st_val hF rfl rfl rfl (ex_nilc (hF.ev rfl)) ?_
 clear hF fa; intro fa hF
 refine st_val hF rfl rfl rfl (ex_field_addr off157_0 (hF.ev rfl)) ?_
 clear hF fa; intro fa hF
 refine st_val hF rfl rfl rfl (ex_load1b one4 (hF.ev rfl) hg6 rfl) ?_
 clear hF fa; intro fa hF
 refine st_val hF rfl rfl rfl (ex_move (hF.ev rfl)) ?_
 clear hF fa; intro fa hF
 refine stg_val hF rfl rfl rfl rfl (ex_move (hF.ev rfl)) ?_
 clear hF fa; intro fa hF
 refine st_val hF rfl rfl rfl (ex_pick (hF.ev rfl) (fun _ => hF.ev rfl) (v := undef) (fun h => by cases h) rfl) ?_
 clear hF fa; intro fa hF
 refine st_val hF rfl rfl rfl (ex_nilc (hF.ev rfl)) ?_
 clear hF fa; intro fa hF
 refine st_val hF rfl rfl rfl (ex_field_addr off157_0 (hF.ev rfl)) ?_
 clear hF fa; intro fa hF
 refine st rfl (op_storeg (vs := #[.bool q]) hF hg6 rfl rfl rfl (show (Tryz.prog.info? 4).map (fun i => i.size) = some 1 by kernel_rfl) rfl (Nat.le_of_ble_eq_true rfl) ?_)
 replace hS := hS.over (splice #[.bool true] 0 #[.bool q]) hgw
 have hg7 : (w6.setRow g (splice #[.bool true] 0 #[.bool q])).heap[g]? = some (.cells #[.bool q] T (0, 0)) := setRow_heap w6 g _ _ T _ hg6
 generalize w6.setRow g (splice #[.bool true] 0 #[.bool q]) = w7 at *
 refine c_nil_then ?_
 refine c_seq ?_
 refine c_reg ?_
 refine st_val hF rfl rfl rfl (ex_loadb row139 (hF.ev rfl) (hS.get 1 rfl) rfl) ?_
 clear hF fa; intro fa hF
 refine st rfl (op_store (X := (g5 :: (g1 :: X))) hF hS 0 rfl (by simp) rfl rfl rfl (show (Tryz.prog.info? 139).map (fun i => i.size) = some 2 by kernel_rfl) rfl (Nat.le_of_ble_eq_true rfl) ?_)
 intro w8 hS E9
 have hg8' : w8.heap[g]? = some (.cells #[.bool q] T (0, 0)) := by rw [hS.below.block g (by rw [setRow_sz]; exact hgw), setRow_heap w g _ _ T _ hg]; rfl
 replace hS : St (w.setRow g (splice #[.bool true] 0 #[.bool q])) w8 [(g5, 139, #[.int .i64 l, .int .i64 h]), (g1, 139, #[.int .i64 l, .int .i64 h])] := hS
 refine c_nil_then ?_
 refine c_ret ?_
 refine end1 hF rfl (res_cell hF rfl row139 (hS.get 0 rfl) rfl) ?_
 exact ⟨_, rfl, .d (.agg (.of2 rfl rfl)), hS.grown, [.bool q], hg8', .cons (.v _ rfl) (.nil _ _)⟩

theorem with_false {w : World} {X : List Nat} {g : Nat} {T : TypeId} {l h : Int} {q : Bool} (hX : ∀ m ∈ X, m < w.heap.size) (hg : w.heap[g]? = some (.cells #[.bool false] T (0, 0))) :
    Calls Tryz.prog 164 #[.pointer (some ⟨g, 0, none⟩), .agg #[.int .i64 l, .int .i64 h], .bool q] w (Ret fun u w' => RepR w' X u (.agg [.v (.int .i64 l), .v (.int .i64 h)]) ∧ w.grownBy w' (some g) ∧ ∃ us' : List Value, w'.heap[g]? = some (.cells us'.toArray T (0, 0)) ∧ RepL w' X us' [.v (.bool false)]) := by
 have hgw : g < w.heap.size := by
  rcases Nat.lt_or_ge g w.heap.size with k | k
  · exact k
  · rw [Array.getElem?_eq_none k] at hg; cases hg
 refine enter (N := 18) (fn := Tryz.f164) (vs := [.pointer (some ⟨g, 0, none⟩), .agg #[.int .i64 l, .int .i64 h], .bool q]) Tryz.func164 rfl rfl rfl ?_
 intro fa hF
 replace hF : Frm 18 fa [(0, .pointer (some ⟨g, 0, none⟩)), (1, .agg #[.int .i64 l, .int .i64 h]), (2, .bool q)] := hF
 have hS := St.refl w
 refine c_seq ?_
 refine c_reg ?_
 refine st rfl (op_box (X := X) hF hS rfl rfl rfl ?_)
 intro g1 w2 hg4 hS E3; refine gen_ ?_; clear hF fa; intro fa hF
 replace hS : St w w2 [(g1, 139, #[.int .i64 l, .int .i64 h])] := hS
 refine st rfl (op_alloc (X := (g1 :: X)) hF hS rfl (show zeroOf Tryz.prog 139 = some #[.int .i64 0, .int .i64 0] by kernel_rfl) ?_)
 intro g5 w6 hg8 hS E7; refine gen_ ?_; clear hF fa; intro fa hF
 replace hS : St w w6 [(g5, 139, #[.int .i64 0, .int .i64 0]), (g1, 139, #[.int .i64 l, .int .i64 h])] := hS
 have hg6 : w6.heap[g]? = some (.cells #[.bool false] T (0, 0)) := by rw [hS.below.block g hgw]; exact hg
 refine c_nil_then ?_
 refine c_seq ?_
 refine c_reg ?_
 refine st_val hF rfl rfl rfl (ex_move (hF.ev rfl)) ?_
 clear hF fa; intro fa hF
 refine st_val hF rfl rfl rfl (ex_move (hF.ev rfl)) ?_
 clear hF fa; intro fa hF
 refine st_val hF rfl rfl rfl (ex_nilc (hF.ev rfl)) ?_
 clear hF fa; intro fa hF
 refine st_val hF rfl rfl rfl (ex_field_addr off157_0 (hF.ev rfl)) ?_
 clear hF fa; intro fa hF
 refine st_val hF rfl rfl rfl (ex_load1b one4 (hF.ev rfl) hg6 rfl) ?_
 clear hF fa; intro fa hF
 refine st_val hF rfl rfl rfl (ex_move (hF.ev rfl)) ?_
 clear hF fa; intro fa hF
 refine st_skip hF rfl rfl rfl rfl rfl ?_
 clear hF fa; intro fa hF
 refine st_val hF rfl rfl rfl (ex_pick (hF.ev rfl) (u := undef) (fun h => by cases h) (fun _ => hF.ev rfl) rfl) ?_
 clear hF fa; intro fa hF
 refine st_val hF rfl rfl rfl (ex_nilc (hF.ev rfl)) ?_
 clear hF fa; intro fa hF
 refine st_val hF rfl rfl rfl (ex_field_addr off157_0 (hF.ev rfl)) ?_
 clear hF fa; intro fa hF
 refine st rfl (op_storeg (vs := #[.bool false]) hF hg6 rfl rfl rfl (show (Tryz.prog.info? 4).map (fun i => i.size) = some 1 by kernel_rfl) rfl (Nat.le_of_ble_eq_true rfl) ?_)
 replace hS := hS.over (splice #[.bool false] 0 #[.bool false]) hgw
 have hg7 : (w6.setRow g (splice #[.bool false] 0 #[.bool false])).heap[g]? = some (.cells #[.bool false] T (0, 0)) := setRow_heap w6 g _ _ T _ hg6
 generalize w6.setRow g (splice #[.bool false] 0 #[.bool false]) = w7 at *
 refine c_nil_then ?_
 refine c_seq ?_
 refine c_reg ?_
 refine st_val hF rfl rfl rfl (ex_loadb row139 (hF.ev rfl) (hS.get 1 rfl) rfl) ?_
 clear hF fa; intro fa hF
 refine st rfl (op_store (X := (g5 :: (g1 :: X))) hF hS 0 rfl (by simp) rfl rfl rfl (show (Tryz.prog.info? 139).map (fun i => i.size) = some 2 by kernel_rfl) rfl (Nat.le_of_ble_eq_true rfl) ?_)
 intro w8 hS E9
 have hg8' : w8.heap[g]? = some (.cells #[.bool false] T (0, 0)) := by rw [hS.below.block g (by rw [setRow_sz]; exact hgw), setRow_heap w g _ _ T _ hg]; rfl
 replace hS : St (w.setRow g (splice #[.bool false] 0 #[.bool false])) w8 [(g5, 139, #[.int .i64 l, .int .i64 h]), (g1, 139, #[.int .i64 l, .int .i64 h])] := hS
 refine c_nil_then ?_
 refine c_ret ?_
 refine end1 hF rfl (res_cell hF rfl row139 (hS.get 0 rfl) rfl) ?_
 exact ⟨_, rfl, .d (.agg (.of2 rfl rfl)), hS.grown, [.bool false], hg8', .cons (.v _ rfl) (.nil _ _)⟩

instance x_with (p q : Bool) (l h : Int) : DenI Tryz.prog 164 [.tup [.agg [.v (.bool p)]], .agg [.v (.int .i64 l), .v (.int .i64 h)], .bool q] True (.tup [.agg [.v (.bool (p && q))], .agg [.v (.int .i64 l), .v (.int .i64 h)]]) :=
 ⟨fun _ => ⟨by kernel_rfl, fun w X g T us vs hX hg hU hl hv => by
  match vs, hl with
  | [u, v], _ =>
   have e1 := (hv 0 u _ rfl rfl).agg_v2
   have e2 := (hv 1 v _ rfl rfl).v_eq
   have e3 := hU.v1
   subst e1 e2 e3
   cases p with
   | true => exact with_true hX hg
   | false => exact with_false hX hg⟩⟩

instance x_plain (a b c : Rat) : DenI Tryz.prog 103 [R a, R b, R c] (rz a ≤ 3300000 ∧ rz b ≤ 3300000 ∧ rz c ≤ 3300000) (.int .i64 (exI a b c)) := ⟨fun hp => by
 have i_a : RzB a 3300000 := ⟨hp.1⟩
 have i_b : RzB b 3300000 := ⟨hp.2.1⟩
 have i_c : RzB c 3300000 := ⟨hp.2.2⟩
 all_goals refine den_of (τ := tab) tab_ok mixed_ Tryz.func103 rfl (by kernel_rfl) (by kernel_rfl) (by kernel_rfl) ?_
 all_goals (repeat' ((try (conv => whnf)); first
  | refine call_0 ?_
  | refine call_i ?_ ?_
  | refine call_c ?_ (fun _ => ?_) (fun _ => ?_)
  | (with_reducible refine onB_t ?_)
  | (with_reducible refine onB_f ?_)
  | (with_reducible refine onB_d (fun _ => ?_) (fun _ => ?_))
  | (with_reducible refine onB_n (fun _ => ?_) (fun _ => ?_))
  | refine OnB.mk (fun _ => ?_) (fun _ => ?_)
  | refine obl_i ?_ ?_
  | refine Drw.mk (by kernel_rfl) ?_
  | refine mks_i ?_ ?_
  | refine slp_i ?_ ?_
  | (with_reducible refine elem_u ?_ ?_)
  | (with_reducible refine elem_0 ?_)
  | (with_reducible refine elem_1 ?_)
  | refine Ends.mk ?_))
 all_goals (try refine Pr.mk ?_)
 all_goals (try simp only [sgnI_lt0, sgnI_zero, sgnI_le0, sgnI_gt0, sgnI_ge0, sgnI_eq1, cmpI_lt0, cmpI_gt0, cmpI_eq0, cmpI_le0, cmpI_ge0, cmpR_of, sgnR_of, sgnR_lt0, sgnR_eq0, sgnR_gt0, sgnR_le0, sgnR_ge0, sgnR_eq1, cmpR_lt0, cmpR_gt0, cmpR_eq0, cmpR_le0, cmpR_ge0] at *)
 all_goals (try simp only [w_ss, w_sc, w_xs, w_xx] at *)
 all_goals first
  | contradiction
  | with_reducible exact pl_1 (by assumption)
  | with_reducible exact pl_2 (by assumption)
  | with_reducible exact pl_3 (by assumption) (by assumption) (by assumption)
  | with_reducible exact pl_4 (by assumption) (by assumption) (by assumption)
  | ((repeat' apply And.intro) <;> first | assumption | exact rzb (by omega) | exact szb (by omega) | exact Int.mul_ne_zero (den_ne _) (den_ne _))
  | skip⟩

instance x_copied (a : Rat) : DenI Tryz.prog 140 [R a] (rz a ≤ 4000000) (R a) := ⟨fun hp => by
 have i_a : RzB a 4000000 := ⟨hp⟩
 all_goals refine den_of (τ := tab) tab_ok mixed_ Tryz.func140 rfl (by kernel_rfl) (by kernel_rfl) (by kernel_rfl) ?_
 all_goals (repeat' ((try (conv => whnf)); first
  | refine call_0 ?_
  | refine call_i ?_ ?_
  | refine call_c ?_ (fun _ => ?_) (fun _ => ?_)
  | (with_reducible refine onB_t ?_)
  | (with_reducible refine onB_f ?_)
  | (with_reducible refine onB_d (fun _ => ?_) (fun _ => ?_))
  | (with_reducible refine onB_n (fun _ => ?_) (fun _ => ?_))
  | refine OnB.mk (fun _ => ?_) (fun _ => ?_)
  | refine obl_i ?_ ?_
  | refine Drw.mk (by kernel_rfl) ?_
  | refine mks_i ?_ ?_
  | refine slp_i ?_ ?_
  | (with_reducible refine elem_u ?_ ?_)
  | (with_reducible refine elem_0 ?_)
  | (with_reducible refine elem_1 ?_)
  | refine Ends.mk ?_))
 all_goals (try refine Pr.mk ?_)
 all_goals (try simp only [sgnI_lt0, sgnI_zero, sgnI_le0, sgnI_gt0, sgnI_ge0, sgnI_eq1, cmpI_lt0, cmpI_gt0, cmpI_eq0, cmpI_le0, cmpI_ge0, cmpR_of, sgnR_of, sgnR_lt0, sgnR_eq0, sgnR_gt0, sgnR_le0, sgnR_ge0, sgnR_eq1, cmpR_lt0, cmpR_gt0, cmpR_eq0, cmpR_le0, cmpR_ge0] at *)
 all_goals first
  | exact congrArg R (Rat.neg_neg a)
  | rfl
  | (simp only [redB, redC, mkA, mkB, mkC, cooC, ptC, *, true_or, or_true, if_true, if_false, or_self, and_self, and_true, true_and, and_false, false_and, not_true, not_false_iff, Bool.false_eq_true, decide_true, decide_false, Bool.or_true, Bool.true_or, Bool.or_false, Bool.false_or]; rfl)
  | ((repeat' apply And.intro) <;> first | assumption | exact rzb (by omega) | exact szb (by omega) | exact Int.mul_ne_zero (den_ne _) (den_ne _))
  | (exfalso; simp_all; done)
  | (exfalso; grind)
  | omega
  | ((repeat' apply And.intro) <;> first | assumption | exact rzb (by omega) | exact szb (by omega) | exact Int.mul_ne_zero (den_ne _) (den_ne _))
  | skip⟩

instance x_rsub (a b c d e f : Rat) : DenI Tryz.prog 105 [Q3 a b c, Q3 d e f] (rz a ≤ 20000 ∧ rz b ≤ 20000 ∧ rz c ≤ 20000 ∧ rz d ≤ 20000 ∧ rz e ≤ 20000 ∧ rz f ≤ 20000) (Q6 (a - d) b (-e) 0 c f) := ⟨fun hp => by
 have i_a : RzB a 20000 := ⟨hp.1⟩
 have i_b : RzB b 20000 := ⟨hp.2.1⟩
 have i_c : RzB c 20000 := ⟨hp.2.2.1⟩
 have i_d : RzB d 20000 := ⟨hp.2.2.2.1⟩
 have i_e : RzB e 20000 := ⟨hp.2.2.2.2.1⟩
 have i_f : RzB f 20000 := ⟨hp.2.2.2.2.2⟩
 all_goals refine den_of (τ := tab) tab_ok mixed_ Tryz.func105 rfl (by kernel_rfl) (by kernel_rfl) (by kernel_rfl) ?_
 all_goals (repeat' ((try (conv => whnf)); first
  | refine call_0 ?_
  | refine call_i ?_ ?_
  | refine call_c ?_ (fun _ => ?_) (fun _ => ?_)
  | (with_reducible refine onB_t ?_)
  | (with_reducible refine onB_f ?_)
  | (with_reducible refine onB_d (fun _ => ?_) (fun _ => ?_))
  | (with_reducible refine onB_n (fun _ => ?_) (fun _ => ?_))
  | refine OnB.mk (fun _ => ?_) (fun _ => ?_)
  | refine obl_i ?_ ?_
  | refine Drw.mk (by kernel_rfl) ?_
  | refine mks_i ?_ ?_
  | refine slp_i ?_ ?_
  | (with_reducible refine elem_u ?_ ?_)
  | (with_reducible refine elem_0 ?_)
  | (with_reducible refine elem_1 ?_)
  | refine Ends.mk ?_))
 all_goals (try refine Pr.mk ?_)
 all_goals (try simp only [sgnI_lt0, sgnI_zero, sgnI_le0, sgnI_gt0, sgnI_ge0, sgnI_eq1, cmpI_lt0, cmpI_gt0, cmpI_eq0, cmpI_le0, cmpI_ge0, cmpR_of, sgnR_of, sgnR_lt0, sgnR_eq0, sgnR_gt0, sgnR_le0, sgnR_ge0, sgnR_eq1, cmpR_lt0, cmpR_gt0, cmpR_eq0, cmpR_le0, cmpR_ge0] at *)
 all_goals first
  | rfl
  | (simp only [redB, redC, mkA, mkB, mkC, cooC, ptC, *, true_or, or_true, if_true, if_false, or_self, and_self, and_true, true_and, and_false, false_and, not_true, not_false_iff, Bool.false_eq_true, decide_true, decide_false, Bool.or_true, Bool.true_or, Bool.or_false, Bool.false_or]; rfl)
  | ((repeat' apply And.intro) <;> first | assumption | exact rzb (by omega) | exact szb (by omega) | exact Int.mul_ne_zero (den_ne _) (den_ne _))
  | (exfalso; simp_all; done)
  | (exfalso; grind)
  | omega
  | ((repeat' apply And.intro) <;> first | assumption | exact rzb (by omega) | exact szb (by omega) | exact Int.mul_ne_zero (den_ne _) (den_ne _))
  | skip⟩

instance x_apart (a b c d e f : Rat) : DenI Tryz.prog 102 [Q3 a b c, Q3 d e f] (rz a ≤ 20000 ∧ rz b ≤ 20000 ∧ rz c ≤ 20000 ∧ rz d ≤ 20000 ∧ rz e ≤ 20000 ∧ rz f ≤ 20000) (.tup [.int .i64 (apartI (rootI a b c) (rootI d e f)).1, .bool (apartI (rootI a b c) (rootI d e f)).2]) := ⟨fun hp => by
 have i_a : RzB a 20000 := ⟨hp.1⟩
 have i_b : RzB b 20000 := ⟨hp.2.1⟩
 have i_c : RzB c 20000 := ⟨hp.2.2.1⟩
 have i_d : RzB d 20000 := ⟨hp.2.2.2.1⟩
 have i_e : RzB e 20000 := ⟨hp.2.2.2.2.1⟩
 have i_f : RzB f 20000 := ⟨hp.2.2.2.2.2⟩
 all_goals refine den_of (τ := tab) tab_ok mixed_ Tryz.func102 rfl (by kernel_rfl) (by kernel_rfl) (by kernel_rfl) ?_
 all_goals (repeat' ((try (conv => whnf)); first
  | refine call_0 ?_
  | refine call_i ?_ ?_
  | refine call_c ?_ (fun _ => ?_) (fun _ => ?_)
  | (with_reducible refine onB_t ?_)
  | (with_reducible refine onB_f ?_)
  | (with_reducible refine onB_d (fun _ => ?_) (fun _ => ?_))
  | (with_reducible refine onB_n (fun _ => ?_) (fun _ => ?_))
  | refine OnB.mk (fun _ => ?_) (fun _ => ?_)
  | refine obl_i ?_ ?_
  | refine Drw.mk (by kernel_rfl) ?_
  | refine mks_i ?_ ?_
  | refine slp_i ?_ ?_
  | (with_reducible refine elem_u ?_ ?_)
  | (with_reducible refine elem_0 ?_)
  | (with_reducible refine elem_1 ?_)
  | refine Ends.mk ?_))
 all_goals (try refine Pr.mk ?_)
 all_goals (try simp only [sgnI_lt0, sgnI_zero, sgnI_le0, sgnI_gt0, sgnI_ge0, sgnI_eq1, cmpI_lt0, cmpI_gt0, cmpI_eq0, cmpI_le0, cmpI_ge0, cmpR_of, sgnR_of, sgnR_lt0, sgnR_eq0, sgnR_gt0, sgnR_le0, sgnR_ge0, sgnR_eq1, cmpR_lt0, cmpR_gt0, cmpR_eq0, cmpR_le0, cmpR_ge0] at *)
 all_goals first
  | (refine ap_n1 ?_; simp_all; done)
  | (refine ap_n2 ?_; simp_all; done)
  | (refine ap_lt ?_ ?_ ?_ <;> first | assumption | (simp_all; done))
  | (refine ap_gt ?_ ?_ ?_ ?_ <;> first | assumption | (simp_all; done))
  | (refine ap_no ?_ ?_ ?_ ?_ <;> first | assumption | (simp_all; done))
  | ((repeat' apply And.intro) <;> first | assumption | exact rzb (by omega) | exact szb (by omega) | exact Int.mul_ne_zero (den_ne _) (den_ne _))
  | skip⟩

end Go.Proofs.YtigbdpkpaleboaaGreat

namespace Go.Proofs.YtigbdpkpaleboaaGreat
open Go Go.RowKit Go.Sw
set_option linter.unusedVariables false
set_option maxRecDepth 100000
set_option maxHeartbeats 8000000
set_option synthInstance.maxSize 4000
set_option synthInstance.maxHeartbeats 400000
instance x_quick (a b c d m n : Rat) : DenI Tryz.prog 138 [Q6 a b c d m n] (rz a ≤ 80010 ∧ rz b ≤ 80010 ∧ rz c ≤ 80010 ∧ rz d ≤ 80010 ∧ rz m ≤ 80010 ∧ rz n ≤ 80010) (.tup [.int .i64 (quickA a b c d m n).1, .bool (quickA a b c d m n).2]) := ⟨fun hp => by
 have z_a := ivB_from a
 have z_b := ivB_from b
 have z_c := ivB_from c
 have z_d := ivB_from d
 have z_m := ivB_from m
 have z_n := ivB_from n
 have z1 := ivB_sqrt z_m
 have z2 := ivB_sqrt z_n
 have z3 := ivB_mul (gF b) (gS m)
 have z4 := ivB_mul (gF c) (gS n)
 have z5 := ivB_mul (gS m) (gS n)
 have z6 := ivB_mul (gF d) (gK m n)
 have z7 := ivB_add z_a z3
 have z8 := ivB_add z4 z6
 have z9 := ivB_add z7 z8
 have i_a : RzB a 80010 := ⟨hp.1⟩
 have i_b : RzB b 80010 := ⟨hp.2.1⟩
 have i_c : RzB c 80010 := ⟨hp.2.2.1⟩
 have i_d : RzB d 80010 := ⟨hp.2.2.2.1⟩
 have i_m : RzB m 80010 := ⟨hp.2.2.2.2.1⟩
 have i_n : RzB n 80010 := ⟨hp.2.2.2.2.2⟩
 all_goals refine den_of (τ := tab) tab_ok mixed_ Tryz.func138 rfl (by kernel_rfl) (by kernel_rfl) (by kernel_rfl) ?_
 all_goals (repeat' ((try (conv => whnf)); first
  | refine call_0 ?_
  | refine call_i ?_ ?_
  | refine call_c ?_ (fun _ => ?_) (fun _ => ?_)
  | (with_reducible refine onB_t ?_)
  | (with_reducible refine onB_f ?_)
  | (with_reducible refine onB_d (fun _ => ?_) (fun _ => ?_))
  | (with_reducible refine onB_n (fun _ => ?_) (fun _ => ?_))
  | refine OnB.mk (fun _ => ?_) (fun _ => ?_)
  | refine obl_i ?_ ?_
  | refine Drw.mk (by kernel_rfl) ?_
  | refine mks_i ?_ ?_
  | refine slp_i ?_ ?_
  | (with_reducible refine elem_u ?_ ?_)
  | (with_reducible refine elem_0 ?_)
  | (with_reducible refine elem_1 ?_)
  | refine Ends.mk ?_))
 all_goals (try refine Pr.mk ?_)
 all_goals (try simp only [sgnI_lt0, sgnI_zero, sgnI_le0, sgnI_gt0, sgnI_ge0, sgnI_eq1, cmpI_lt0, cmpI_gt0, cmpI_eq0, cmpI_le0, cmpI_ge0, cmpR_of, sgnR_of, sgnR_lt0, sgnR_eq0, sgnR_gt0, sgnR_le0, sgnR_ge0, sgnR_eq1, cmpR_lt0, cmpR_gt0, cmpR_eq0, cmpR_le0, cmpR_ge0] at *)
 all_goals (try simp only [Prod.eta, Bool.true_and] at *)
 all_goals first
  | exact iv1 z_m
  | exact iv1 z_n
  | exact iv2 z_b z1
  | exact iv2 z_c z2
  | exact iv2 z1 z2
  | exact iv2 z_d z5
  | exact iv2 z_a z3
  | exact iv2 z4 z6
  | exact iv2 z7 z8
  | (refine qk_n (fun k => ?_); obtain ⟨k1, k2, k3, k4, k5, k6, k7, k8, k9, k10, k11, k12, k13, k14, k15⟩ := k; simp_all; done)
  | (rename_i h; simp only [Bool.not_eq_false', Bool.and_eq_true] at h; obtain ⟨⟨⟨⟨⟨⟨⟨⟨⟨⟨⟨⟨⟨⟨h1, h2⟩, h3⟩, h4⟩, h5⟩, h6⟩, h7⟩, h8⟩, h9⟩, h10⟩, h11⟩, h12⟩, h13⟩, h14⟩, h15⟩ := h; rw [quickA_y ⟨h1, h2, h3, h4, h5, h6, h7, h8, h9, h10, h11, h12, h13, h14, h15⟩]; first | done | rfl)
  | ((repeat' apply And.intro) <;> first | assumption | exact rzb (by omega) | exact szb (by omega) | exact Int.mul_ne_zero (den_ne _) (den_ne _))
  | skip⟩

end Go.Proofs.YtigbdpkpaleboaaGreat

namespace Go.Proofs.YtigbdpkpaleboaaGreat
open Go Go.RowKit Go.Sw
set_option linter.unusedVariables false
set_option maxRecDepth 100000
set_option maxHeartbeats 8000000
set_option synthInstance.maxSize 4000
set_option synthInstance.maxHeartbeats 400000
instance x_sadd (a b : Rat) : DenI Tryz.prog 139 [R a, R b] (rz a ≤ 4000000 ∧ rz b ≤ 4000000) (R (a + b)) := ⟨fun hp => by
 have i_a : RzB a 4000000 := ⟨hp.1⟩
 have i_b : RzB b 4000000 := ⟨hp.2⟩
 all_goals refine den_of (τ := tab) tab_ok mixed_ Tryz.func139 rfl (by kernel_rfl) (by kernel_rfl) (by kernel_rfl) ?_
 all_goals (repeat' ((try (conv => whnf)); first
  | refine call_0 ?_
  | refine call_i ?_ ?_
  | refine call_c ?_ (fun _ => ?_) (fun _ => ?_)
  | (with_reducible refine onB_t ?_)
  | (with_reducible refine onB_f ?_)
  | (with_reducible refine onB_d (fun _ => ?_) (fun _ => ?_))
  | (with_reducible refine onB_n (fun _ => ?_) (fun _ => ?_))
  | refine OnB.mk (fun _ => ?_) (fun _ => ?_)
  | refine obl_i ?_ ?_
  | refine Drw.mk (by kernel_rfl) ?_
  | refine mks_i ?_ ?_
  | refine slp_i ?_ ?_
  | (with_reducible refine elem_u ?_ ?_)
  | (with_reducible refine elem_0 ?_)
  | (with_reducible refine elem_1 ?_)
  | refine Ends.mk ?_))
 all_goals (try refine Pr.mk ?_)
 all_goals (try simp only [sgnI_lt0, sgnI_zero, sgnI_le0, sgnI_gt0, sgnI_ge0, sgnI_eq1, cmpI_lt0, cmpI_gt0, cmpI_eq0, cmpI_le0, cmpI_ge0, cmpR_of, sgnR_of, sgnR_lt0, sgnR_eq0, sgnR_gt0, sgnR_le0, sgnR_ge0, sgnR_eq1, cmpR_lt0, cmpR_gt0, cmpR_eq0, cmpR_le0, cmpR_ge0] at *)
 all_goals first
  | rfl
  | (simp only [redB, redC, mkA, mkB, mkC, cooC, ptC, *, true_or, or_true, if_true, if_false, or_self, and_self, and_true, true_and, and_false, false_and, not_true, not_false_iff, Bool.false_eq_true, decide_true, decide_false, Bool.or_true, Bool.true_or, Bool.or_false, Bool.false_or]; rfl)
  | ((repeat' apply And.intro) <;> first | assumption | exact rzb (by omega) | exact szb (by omega) | exact Int.mul_ne_zero (den_ne _) (den_ne _))
  | (exfalso; simp_all; done)
  | (exfalso; grind)
  | omega
  | ((repeat' apply And.intro) <;> first | assumption | exact rzb (by omega) | exact szb (by omega) | exact Int.mul_ne_zero (den_ne _) (den_ne _))
  | skip⟩

instance x_rsign (a : Rat) (b c d m n : Rat) : DenI Tryz.prog 104 [Q6 a b c d m n] (rz b ≤ 20010 ∧ rz c ≤ 20010 ∧ rz d ≤ 20010 ∧ rz m ≤ 20010 ∧ rz n ≤ 20010 ∧ rz a ≤ 80010 ∧ 0 ≤ m ∧ 0 ≤ n) (.int .i64 (sg4 a b c d m n)) := ⟨fun hp => by
 have i_b : RzB b 20010 := ⟨hp.1⟩
 have i_c : RzB c 20010 := ⟨hp.2.1⟩
 have i_d : RzB d 20010 := ⟨hp.2.2.1⟩
 have i_m : RzB m 20010 := ⟨hp.2.2.2.1⟩
 have i_n : RzB n 20010 := ⟨hp.2.2.2.2.1⟩
 have hpre := hp.2.2.2.2.2
 have i_a : RzB a 80010 := ⟨hpre.1⟩
 obtain ⟨_, h_m, h_n⟩ := hpre
 all_goals refine den_of (τ := tab) tab_ok mixed_ Tryz.func104 rfl (by kernel_rfl) (by kernel_rfl) (by kernel_rfl) ?_
 all_goals (repeat' ((try (conv => whnf)); first
  | refine call_0 ?_
  | refine call_i ?_ ?_
  | refine call_c ?_ (fun _ => ?_) (fun _ => ?_)
  | (with_reducible refine onB_t ?_)
  | (with_reducible refine onB_f ?_)
  | (with_reducible refine onB_d (fun _ => ?_) (fun _ => ?_))
  | (with_reducible refine onB_n (fun _ => ?_) (fun _ => ?_))
  | refine OnB.mk (fun _ => ?_) (fun _ => ?_)
  | refine obl_i ?_ ?_
  | refine Drw.mk (by kernel_rfl) ?_
  | refine mks_i ?_ ?_
  | refine slp_i ?_ ?_
  | (with_reducible refine elem_u ?_ ?_)
  | (with_reducible refine elem_0 ?_)
  | (with_reducible refine elem_1 ?_)
  | refine Ends.mk ?_))
 all_goals (try refine Pr.mk ?_)
 all_goals (try simp only [sgnI_lt0, sgnI_zero, sgnI_le0, sgnI_gt0, sgnI_ge0, sgnI_eq1, cmpI_lt0, cmpI_gt0, cmpI_eq0, cmpI_le0, cmpI_ge0, cmpR_of, sgnR_of, sgnR_lt0, sgnR_eq0, sgnR_gt0, sgnR_le0, sgnR_ge0, sgnR_eq1, cmpR_lt0, cmpR_gt0, cmpR_eq0, cmpR_le0, cmpR_ge0] at *)
 all_goals (try simp only [w_ss, w_sc, w_xs, w_xx] at *)
 all_goals first
  | contradiction
  | exact rsg_1 h_m h_n (by assumption)
  | with_reducible exact rs_1 (by assumption)
  | with_reducible exact rs_2 (by assumption)
  | with_reducible exact rs_3 (by assumption) (by assumption) (by assumption)
  | with_reducible exact rs_4 (by assumption) (by assumption) (by assumption)
  | (exfalso; grind)
  | ((repeat' apply And.intro) <;> first | assumption | exact rzb (by omega) | exact szb (by omega) | exact Int.mul_ne_zero (den_ne _) (den_ne _))
  | skip⟩

instance x_rcmp (a b c d e f : Rat) : DenI Tryz.prog 66 [Q3 a b c, Q3 d e f] (rz a ≤ 20000 ∧ rz b ≤ 20000 ∧ rz c ≤ 20000 ∧ rz d ≤ 20000 ∧ rz e ≤ 20000 ∧ rz f ≤ 20000 ∧ 0 ≤ c ∧ 0 ≤ f) (.int .i64 (cmp4 a b c d e f)) := ⟨fun hp => by
 have i_a : RzB a 20000 := ⟨hp.1⟩
 have i_b : RzB b 20000 := ⟨hp.2.1⟩
 have i_c : RzB c 20000 := ⟨hp.2.2.1⟩
 have i_d : RzB d 20000 := ⟨hp.2.2.2.1⟩
 have i_e : RzB e 20000 := ⟨hp.2.2.2.2.1⟩
 have i_f : RzB f 20000 := ⟨hp.2.2.2.2.2.1⟩
 have hpre := hp.2.2.2.2.2.2
 all_goals refine den_of (τ := tab) tab_ok mixed_ Tryz.func66 rfl (by kernel_rfl) (by kernel_rfl) (by kernel_rfl) ?_
 all_goals (repeat' ((try (conv => whnf)); first
  | refine call_0 ?_
  | refine call_i ?_ ?_
  | refine call_c ?_ (fun _ => ?_) (fun _ => ?_)
  | (with_reducible refine onB_t ?_)
  | (with_reducible refine onB_f ?_)
  | (with_reducible refine onB_d (fun _ => ?_) (fun _ => ?_))
  | (with_reducible refine onB_n (fun _ => ?_) (fun _ => ?_))
  | refine OnB.mk (fun _ => ?_) (fun _ => ?_)
  | refine obl_i ?_ ?_
  | refine Drw.mk (by kernel_rfl) ?_
  | refine mks_i ?_ ?_
  | refine slp_i ?_ ?_
  | (with_reducible refine elem_u ?_ ?_)
  | (with_reducible refine elem_0 ?_)
  | (with_reducible refine elem_1 ?_)
  | refine Ends.mk ?_))
 all_goals (try refine Pr.mk ?_)
 all_goals (try simp only [sgnI_lt0, sgnI_zero, sgnI_le0, sgnI_gt0, sgnI_ge0, sgnI_eq1, cmpI_lt0, cmpI_gt0, cmpI_eq0, cmpI_le0, cmpI_ge0, cmpR_of, sgnR_of, sgnR_lt0, sgnR_eq0, sgnR_gt0, sgnR_le0, sgnR_ge0, sgnR_eq1, cmpR_lt0, cmpR_gt0, cmpR_eq0, cmpR_le0, cmpR_ge0] at *)
 all_goals first
  | with_reducible exact cp_1 hpre.1 hpre.2 (by assumption) (by assumption)
  | with_reducible exact cp_2 hpre.1 hpre.2 (by assumption)
  | with_reducible exact cp_3 hpre.1 (by assumption)
  | rfl
  | exact ⟨rzb (by omega), rzb (by omega), rzb (by omega), rzb (by omega), rzb (by omega), rzb (by omega), hpre⟩
  | ((repeat' apply And.intro) <;> first | assumption | exact rzb (by omega) | exact szb (by omega) | exact Int.mul_ne_zero (den_ne _) (den_ne _))
  | skip⟩

instance x_rcmpr (a b c d : Rat) : DenI Tryz.prog 71 [Q3 a b c, R d] (rz a ≤ 20000 ∧ rz b ≤ 20000 ∧ rz c ≤ 20000 ∧ rz d ≤ 20000 ∧ 0 ≤ c) (.int .i64 (exI (a - d) b c)) := ⟨fun hp => by
 have i_a : RzB a 20000 := ⟨hp.1⟩
 have i_b : RzB b 20000 := ⟨hp.2.1⟩
 have i_c : RzB c 20000 := ⟨hp.2.2.1⟩
 have i_d : RzB d 20000 := ⟨hp.2.2.2.1⟩
 have hpre := hp.2.2.2.2
 all_goals refine den_of (τ := tab) tab_ok mixed_ Tryz.func71 rfl (by kernel_rfl) (by kernel_rfl) (by kernel_rfl) ?_
 all_goals (repeat' ((try (conv => whnf)); first
  | refine call_0 ?_
  | refine call_i ?_ ?_
  | refine call_c ?_ (fun _ => ?_) (fun _ => ?_)
  | (with_reducible refine onB_t ?_)
  | (with_reducible refine onB_f ?_)
  | (with_reducible refine onB_d (fun _ => ?_) (fun _ => ?_))
  | (with_reducible refine onB_n (fun _ => ?_) (fun _ => ?_))
  | refine OnB.mk (fun _ => ?_) (fun _ => ?_)
  | refine obl_i ?_ ?_
  | refine Drw.mk (by kernel_rfl) ?_
  | refine mks_i ?_ ?_
  | refine slp_i ?_ ?_
  | (with_reducible refine elem_u ?_ ?_)
  | (with_reducible refine elem_0 ?_)
  | (with_reducible refine elem_1 ?_)
  | refine Ends.mk ?_))
 all_goals (try refine Pr.mk ?_)
 all_goals (try simp only [sgnI_lt0, sgnI_zero, sgnI_le0, sgnI_gt0, sgnI_ge0, sgnI_eq1, cmpI_lt0, cmpI_gt0, cmpI_eq0, cmpI_le0, cmpI_ge0, cmpR_of, sgnR_of, sgnR_lt0, sgnR_eq0, sgnR_gt0, sgnR_le0, sgnR_ge0, sgnR_eq1, cmpR_lt0, cmpR_gt0, cmpR_eq0, cmpR_le0, cmpR_ge0] at *)
 all_goals first
  | exact iE (cmp4_r hpre)
  | exact ⟨rzb (by omega), rzb (by omega), rzb (by omega), rzb (by omega), Nat.le_trans rz_0 (by omega), Nat.le_trans rz_0 (by omega), hpre, by decide⟩
  | ((repeat' apply And.intro) <;> first | assumption | exact rzb (by omega) | exact szb (by omega) | exact Int.mul_ne_zero (den_ne _) (den_ne _))
  | skip⟩

end Go.Proofs.YtigbdpkpaleboaaGreat

namespace Go.Sw
open Go
set_option linter.unusedVariables false
theorem dom_half {a b c d p q u v x y : Rat} {er dr cr : Int} (h1 : swOn a b c d (er - dr) p q) (h2 : swOn a b c d (er - dr) u v) (h : swOn p q u v (dr - cr) x y) : swOn a b c d (er - cr) x y := by
  have p1 : (0 : Rat) ≤ ((er - dr : Int) : Rat) := Rat.intCast_le_intCast.2 h1.1
  have p2 : (0 : Rat) ≤ ((dr - cr : Int) : Rat) := Rat.intCast_le_intCast.2 h.1
  have e : ((dr - cr : Int) : Rat) + ((er - dr : Int) : Rat) = ((er - cr : Int) : Rat) := by rw [Rat.intCast_sub, Rat.intCast_sub, Rat.intCast_sub]; grind
  have w := seg_sum p2 p1 h1.2 h2.2 h.2
  rw [e] at w
  exact ⟨by have := h1.1; have := h.1; omega, w⟩
theorem dm_trans {c d e : Cut7} (h : dm c d) (k : dm d e) : dm c e := by
  obtain ⟨h1, h2, h3, h4, h5⟩ := h
  obtain ⟨k1, k2, k3, k4, k5⟩ := k
  exact ⟨h1, k2, by omega, dom_half k4 k5 h4, dom_half k4 k5 h5⟩
/-- The cut i falls by the cut k. -/
def badI (L : List Cut7) (i k : Nat) : Prop := dm (L.getD i cu0) (L.getD k cu0) ∧ (k < i ∨ i < k ∧ ¬dm (L.getD k cu0) (L.getD i cu0))
instance {L : List Cut7} {i k : Nat} : Decidable (badI L i k) := by unfold badI; infer_instance
def keepI (L : List Cut7) (i : Nat) : Bool := decide (∀ k, k < L.length → ¬badI L i k)
def redL (L : List Cut7) : List Cut7 := ((List.range L.length).filter (keepI L)).map fun i => L.getD i cu0
theorem bad_trans {L : List Cut7} {i k m : Nat} (h : badI L i k) (h' : badI L k m) : badI L i m := by
  obtain ⟨h1, h2⟩ := h
  obtain ⟨k1, k2⟩ := h'
  refine ⟨dm_trans h1 k1, ?_⟩
  by_cases e : dm (L.getD m cu0) (L.getD i cu0)
  · left
    have e1 : dm (L.getD m cu0) (L.getD k cu0) := dm_trans e h1
    have e2 : dm (L.getD k cu0) (L.getD i cu0) := dm_trans k1 e
    rcases h2 with h2 | h2
    · rcases k2 with k2 | k2
      · omega
      · exact absurd e1 k2.2
    · exact absurd e2 h2.2
  · by_cases hm : m < i
    · exact .inl hm
    · refine .inr ⟨?_, e⟩
      rcases h2 with h2 | h2
      · rcases k2 with k2 | k2
        · omega
        · by_cases hi : m = i
          · subst hi; exact absurd (dm_trans h1 k1) e
          · omega
      · by_cases hi : m = i
        · subst hi; exact absurd (dm_trans h1 k1) e
        · omega
theorem bad_irr {L : List Cut7} {i : Nat} (h : badI L i i) : False := by
  rcases h.2 with h | h <;> omega
theorem kept {L : List Cut7} : ∀ n i, i < L.length → ((List.range L.length).filter fun k => decide (badI L i k)).length ≤ n → ∃ j, j < L.length ∧ keepI L j = true ∧ (j = i ∨ badI L i j) := by
  intro n
  induction n with
  | zero =>
    intro i hi h
    refine ⟨i, hi, decide_eq_true fun k hk hb => ?_, .inl rfl⟩
    have hm : k ∈ (List.range L.length).filter fun k => decide (badI L i k) := List.mem_filter.2 ⟨List.mem_range.2 hk, decide_eq_true hb⟩
    have := List.length_pos_of_mem hm
    omega
  | succ n ih =>
    intro i hi h
    cases hk : keepI L i with
    | true => exact ⟨i, hi, hk, .inl rfl⟩
    | false =>
      have hk' := of_decide_eq_false hk
      have ⟨k, hkl, hb⟩ : ∃ k, k < L.length ∧ badI L i k := by
        refine Classical.byContradiction fun hn => hk' fun k h1 h2 => hn ⟨k, h1, h2⟩
      have hf : ((List.range L.length).filter fun m => decide (badI L k m)) = ((List.range L.length).filter fun m => decide (badI L i m)).filter fun m => decide (badI L k m) := by
        rw [List.filter_filter]
        refine List.filter_congr fun m _ => ?_
        by_cases e : badI L k m
        · rw [decide_eq_true e, decide_eq_true (bad_trans hb e)]; rfl
        · rw [decide_eq_false e]; rfl
      have hm : k ∈ (List.range L.length).filter fun k => decide (badI L i k) := List.mem_filter.2 ⟨List.mem_range.2 hkl, decide_eq_true hb⟩
      have hl : (((List.range L.length).filter fun m => decide (badI L i m)).filter fun m => decide (badI L k m)).length < ((List.range L.length).filter fun m => decide (badI L i m)).length :=
        List.length_filter_lt_length_iff_exists.2 ⟨k, hm, by simpa using fun e => bad_irr e⟩
      rw [← hf] at hl
      obtain ⟨j, h1, h2, h3⟩ := ih k hkl (by omega)
      refine ⟨j, h1, h2, .inr ?_⟩
      rcases h3 with h3 | h3
      · subst h3; exact hb
      · exact bad_trans hb h3
theorem getDm {α : Type} {L : List α} {i : Nat} {d : α} (h : i < L.length) : L.getD i d ∈ L := by
  rw [List.getD_eq_getElem?_getD, List.getElem?_eq_getElem h]; exact List.getElem_mem h
theorem red_mem {L : List Cut7} {c : Cut7} (h : c ∈ redL L) : c ∈ L := by
  unfold redL at h
  obtain ⟨i, hi, rfl⟩ := List.mem_map.1 h
  exact getDm (List.mem_range.1 (List.mem_filter.1 hi).1)
theorem red_height {x y : Rat} {L : List Cut7} {o : Rt} (ho : 0 ≤ o.c) : cmpQ (hgt x y (redL L) o) (hgt x y L o) = 0 := by
  refine least_eq ho (least ho) (least ho) (fun c hc hs => ?_) (fun c hc hs => ⟨c, red_mem hc, hs, by rw [cmpQ_self (swr_nn hs)]; decide⟩)
  obtain ⟨i, hi, e⟩ := List.getElem_of_mem hc
  have eg : L.getD i cu0 = c := by rw [List.getD_eq_getElem?_getD, List.getElem?_eq_getElem hi, e]; rfl
  obtain ⟨j, h1, h2, h3⟩ := kept _ i hi (Nat.le_refl _)
  refine ⟨L.getD j cu0, List.mem_map.2 ⟨j, List.mem_filter.2 ⟨List.mem_range.2 h1, h2⟩, rfl⟩, ?_⟩
  rcases h3 with h3 | h3
  · subst h3; rw [eg]; exact ⟨hs, by rw [cmpQ_self (swr_nn hs)]; decide⟩
  · have hd : dm c (L.getD j cu0) := by rw [← eg]; exact h3.1
    exact ⟨dom_on hd hs, dom_le hd⟩
/-! ### As the loops find them -/
theorem red_snoc {L : List Cut7} {x : Nat} : ((List.range (x + 1)).filter (keepI L)).map (fun i => L.getD i cu0) = if keepI L x = true then ((List.range x).filter (keepI L)).map (fun i => L.getD i cu0) ++ [L.getD x cu0] else ((List.range x).filter (keepI L)).map (fun i => L.getD i cu0) := by
  rw [List.range_succ, List.filter_append, List.map_append]
  cases h : keepI L x <;> simp [h]
theorem keep_end {L : List Cut7} {i x : Nat} (h : ∀ k, k < x → ¬badI L i k) (hx : ¬x < L.length) : keepI L i = true := decide_eq_true fun k hk => h k (by omega)
theorem keep_bad {L : List Cut7} {i x : Nat} (hx : x < L.length) (h : badI L i x) : keepI L i = false := decide_eq_false fun k => k x hx h
end Go.Sw

namespace Go.Sw
open Go
set_option linter.unusedVariables false
@[reducible] def q3c (o : Rt) : List Cell := [zs o.a.num, zl o.a.num, zs o.a.den, zl o.a.den, zs o.b.num, zl o.b.num, zs o.b.den, zl o.b.den, zs o.c.num, zl o.c.num, zs o.c.den, zl o.c.den]
theorem medC_get {L : List Cut7} (h : ∀ c ∈ L, medC c) (i : Nat) : medC (L.getD i cu0) := get_all (by unfold medC medI cu0; decide) h i
section
variable {x y : Rat} {L : List Cut7} {o : Rt} {k : Nat}
theorem hgt_at (hk : k < L.length) : hgt x y (L.take (k + 1)) o = hStep x y (hgt x y (L.take k) o) (L.getD k cu0) := by
  rw [take_snoc cu0 hk, hgt_snoc]
theorem hq_y (hk : k < L.length) (h1 : swo (L.getD k cu0) x y) (h2 : cmpQ (swr (L.getD k cu0) x y) (hgt x y (L.take k) o) < 0) : some (Bk.var (q3c (swr (L.getD k cu0) x y))) = some (Bk.var (q3c (hgt x y (L.take (k + 1)) o))) := by
  rw [hgt_at hk, hStep_y h1 h2]
theorem hq_n (hk : k < L.length) (h1 : ¬swo (L.getD k cu0) x y) : some (Bk.var (q3c (hgt x y (L.take k) o))) = some (Bk.var (q3c (hgt x y (L.take (k + 1)) o))) := by
  rw [hgt_at hk, hStep_n h1]
theorem hq_k (hk : k < L.length) (h2 : ¬cmpQ (swr (L.getD k cu0) x y) (hgt x y (L.take k) o) < 0) : some (Bk.var (q3c (hgt x y (L.take k) o))) = some (Bk.var (q3c (hgt x y (L.take (k + 1)) o))) := by
  rw [hgt_at hk, hStep_k h2]
theorem hq_end (h1 : k ≤ L.length) (h2 : ¬k < L.length) : packA [AV.agg (q3c (hgt x y (L.take k) o))] = AV.agg (q3c (hgt x y L o)) := by
  have : k = L.length := by omega
  subst this
  rw [List.take_length]; rfl
theorem okR_take {top : Int} (hx : rz x ≤ 6) (hy : rz y ≤ 6) (h : ∀ c ∈ L, medC c) (ht : medI top) (k : Nat) : OkR (hgt x y (L.take k) ⟨(top : Rat), 0, 0⟩) :=
  okR_hgt hx hy (fun c hc => h c (List.mem_of_mem_take hc)) (okR_int ht)
theorem OkR.r20 {o : Rt} (h : OkR o) : rz o.a ≤ 20000 ∧ rz o.b ≤ 20000 ∧ rz o.c ≤ 20000 := by have := h.a; have := h.b; have := h.c; omega
theorem med_of {s : Stk} (h : okS s) : medC (ofS s) := by
  obtain ⟨h1, h2, h3, h4, h5, h6, h7⟩ := h
  unfold ofS medC medI
  unfold smallI at *
  simp only
  omega
theorem meds_of {L : List Stk} (h : ∀ s ∈ L, okS s) : ∀ c ∈ (L.take 12).map ofS, medC c := fun c hc => by
  obtain ⟨s, hs, rfl⟩ := List.mem_map.1 hc
  exact med_of (h s (List.mem_of_mem_take hs))
theorem len12 {L : List Stk} : ((L.take 12).map ofS).length ≤ 12 := by rw [List.length_map, List.length_take]; omega
theorem growK {T : TypeId} {L : List Cut7} {k : Nat} (h : k < L.length) : some (Bk.grow T 7 ((L.take k).map cuC ++ [cuC (L.getD k cu0)])) = some (Bk.grow T 7 ((L.take (k + 1)).map cuC)) := by
  rw [take_snoc cu0 h, List.map_append]; rfl
theorem ofK_end {L : List Cut7} {k : Nat} (h1 : k ≤ L.length) (h2 : ¬k < L.length) : packA [AV.c (Cell.sl 7 ((L.take k).map cuC))] = AV.c (Cell.sl 7 (L.map cuC)) := by
  have : k = L.length := by omega
  subst this
  rw [List.take_length]; rfl
/-! ### The first cut that reaches a height -/
def hitB (x y : Rat) (z : Int) (c : Cut7) : Bool := decide (swo c x y) && decide (exI ((swr c x y).a - (z : Rat)) (swr c x y).b (swr c x y).c ≤ 0)
def frst (p : Nat → Bool) : Nat → Nat → Int
  | 0, _ => -1
  | n + 1, k => if p k = true then (k : Int) else frst p n (k + 1)
def fst52 (x y : Rat) (z : Int) (L : List Cut7) : Int := frst (fun k => hitB x y z (L.getD k cu0)) L.length 0
theorem frst_no {p : Nat → Bool} {n k : Nat} (hk : k < n) (h : p k = false) : frst p (n - (k + 1)) (k + 1) = frst p (n - k) k := by
  rw [show n - k = n - (k + 1) + 1 by omega]
  show _ = if p k = true then _ else _
  rw [h, if_neg (by decide)]
theorem frst_yes {p : Nat → Bool} {n k : Nat} (hk : k < n) (h : p k = true) : frst p (n - k) k = k := by
  rw [show n - k = n - (k + 1) + 1 by omega]
  show (if p k = true then _ else _) = _
  rw [if_pos h]
theorem frst_end {p : Nat → Bool} {n k : Nat} (hk : ¬k < n) : frst p (n - k) k = -1 := by
  rw [show n - k = 0 by omega]; rfl
theorem hit_n {z : Int} {c : Cut7} (h : ¬swo c x y) : hitB x y z c = false := by unfold hitB; rw [decide_eq_false h]; rfl
theorem hit_k {z : Int} {c : Cut7} (h : ¬exI ((swr c x y).a - (z : Rat)) (swr c x y).b (swr c x y).c ≤ 0) : hitB x y z c = false := by unfold hitB; rw [decide_eq_false h, Bool.and_false]
theorem hit_y {z : Int} {c : Cut7} (h1 : swo c x y) (h : exI ((swr c x y).a - (z : Rat)) (swr c x y).b (swr c x y).c ≤ 0) : hitB x y z c = true := by unfold hitB; rw [decide_eq_true h1, decide_eq_true h]; rfl
theorem mn_gt {a b z : Int} (h : (if b < a then b else a) > z) : z < a ∧ z < b := by split at h <;> omega
theorem hit_z {z : Int} {c : Cut7} (h : (if c.tz < c.fz then c.tz else c.fz) > z) : hitB x y z c = false := by
  by_cases hs : swo c x y
  · refine hit_k ?_
    obtain ⟨h1, h2⟩ := mn_gt h
    have := swR_min h1 h2 hs
    rw [show cmpQ (swR (c.fx : Rat) (c.fy : Rat) c.fz (c.tx : Rat) (c.ty : Rat) c.tz (c.r : Rat) x y) ⟨(z : Rat), 0, 0⟩ = exI ((swr c x y).a - (z : Rat)) (swr c x y).b (swr c x y).c from cmp4_r (swr_nn hs)] at this
    omega
  · exact hit_n hs
theorem fs_ret {z : Int} (h1 : frst (fun k => hitB x y z (L.getD k cu0)) (L.length - k) k = fst52 x y z L) (hk : k < L.length) (h : hitB x y z (L.getD k cu0) = true) : packA [AV.c (Cell.v (.int .i64 (k : Int)))] = AV.int .i64 (fst52 x y z L) := by
  rw [← h1, frst_yes hk h]; rfl
theorem fs_end {z : Int} (h1 : frst (fun k => hitB x y z (L.getD k cu0)) (L.length - k) k = fst52 x y z L) (hk : ¬k < L.length) : packA [AV.c (Cell.v (.int .i64 (-1)))] = AV.int .i64 (fst52 x y z L) := by
  rw [← h1, frst_end hk]; rfl
theorem fs_step {z : Int} (h1 : frst (fun k => hitB x y z (L.getD k cu0)) (L.length - k) k = fst52 x y z L) (hk : k < L.length) (h : hitB x y z (L.getD k cu0) = false) : frst (fun k => hitB x y z (L.getD k cu0)) (L.length - (k + 1)) (k + 1) = fst52 x y z L := by
  rw [← h1]; exact frst_no hk h
theorem frst_ge (p : Nat → Bool) : ∀ n k, (0 ≤ frst p n k ∧ frst p n k ≤ (n : Int) + k) ∨ frst p n k = -1
  | 0, _ => .inr rfl
  | n + 1, k => by
    show (0 ≤ (if p k = true then (k : Int) else frst p n (k + 1)) ∧ (if p k = true then (k : Int) else frst p n (k + 1)) ≤ _) ∨ (if p k = true then (k : Int) else frst p n (k + 1)) = -1
    split
    · left; omega
    · rcases frst_ge p n (k + 1) with h | h
      · left; omega
      · right; exact h
end
end Go.Sw

namespace Go.Proofs.YtigbdpkpaleboaaGreat
open Go Go.RowKit Go.Sw
set_option linter.unusedVariables false
set_option maxRecDepth 100000
set_option maxHeartbeats 8000000
set_option synthInstance.maxSize 4000
set_option synthInstance.maxHeartbeats 400000
instance h_height (L : List Cut7) (top : Int) (x y : Rat) : DenI Tryz.prog 19 [.c (.sl 7 (L.map cuC)), .int .i64 top, Q2 x y] ((∀ c ∈ L, medC c) ∧ medI top ∧ rz x ≤ 6 ∧ rz y ≤ 6 ∧ L.length ≤ 12) (Q3 (hgt x y L ⟨(top : Rat), 0, 0⟩).a (hgt x y L ⟨(top : Rat), 0, 0⟩).b (hgt x y L ⟨(top : Rat), 0, 0⟩).c) := ⟨fun hp => by
 obtain ⟨hL, ht, hx, hy, hl⟩ := hp
 have i_x : RzB x 6 := ⟨hx⟩
 have i_y : RzB y 6 := ⟨hy⟩
 have i_t : RzB (top : Rat) 4 := ⟨rz_med ht⟩
 have h64 : -9223372036854775808 ≤ top ∧ top ≤ 9223372036854775807 := (by unfold medI at ht; omega)
 all_goals refine den_of (τ := tab) tab_ok mixed_ Tryz.func19 rfl (by kernel_rfl) (by kernel_rfl) (by kernel_rfl) ?_
 all_goals (repeat' ((try (conv => whnf)); first
  | refine call_0 ?_
  | refine call_i ?_ ?_
  | refine call_c ?_ (fun _ => ?_) (fun _ => ?_)
  | (with_reducible refine onB_t ?_)
  | (with_reducible refine onB_f ?_)
  | (with_reducible refine onB_d (fun _ => ?_) (fun _ => ?_))
  | (with_reducible refine onB_n (fun _ => ?_) (fun _ => ?_))
  | refine OnB.mk (fun _ => ?_) (fun _ => ?_)
  | refine obl_i ?_ ?_
  | refine Drw.mk (by kernel_rfl) ?_
  | refine mks_i ?_ ?_
  | refine slp_i ?_ ?_
  | (with_reducible refine elem_u ?_ ?_)
  | (with_reducible refine elem_0 ?_)
  | (with_reducible refine elem_1 ?_)
  | refine Ends.mk ?_))
 all_goals (try refine Pr.mk ?_)
 all_goals first
  | ((conv => whnf); refine Sw.Loop.inv (α := Nat) (fun k => [(5, .ptr 5 0), (6, .ptr 6 0), (7, .ptr 7 0), (15, .c (.sl 7 (L.map cuC))), (16, .int .i64 ((L.map cuC).length : Nat)), (17, .int .i64 (k : Nat))]) (fun k => [(5, .var [zs x.num, zl x.num, zs x.den, zl x.den, zs y.num, zl y.num, zs y.den, zl y.den]), (6, .var [.v (.bool false), .sl 1 [], .v (.bool false), .sl 1 [], .v (.bool false), .sl 1 [], .v (.bool false), .sl 1 [], .v (.bool false), .sl 1 [], .v (.bool false), .sl 1 []]), (7, .var [zs (hgt x y (L.take k) ⟨(top : Rat), 0, 0⟩).a.num, zl (hgt x y (L.take k) ⟨(top : Rat), 0, 0⟩).a.num, zs (hgt x y (L.take k) ⟨(top : Rat), 0, 0⟩).a.den, zl (hgt x y (L.take k) ⟨(top : Rat), 0, 0⟩).a.den, zs (hgt x y (L.take k) ⟨(top : Rat), 0, 0⟩).b.num, zl (hgt x y (L.take k) ⟨(top : Rat), 0, 0⟩).b.num, zs (hgt x y (L.take k) ⟨(top : Rat), 0, 0⟩).b.den, zl (hgt x y (L.take k) ⟨(top : Rat), 0, 0⟩).b.den, zs (hgt x y (L.take k) ⟨(top : Rat), 0, 0⟩).c.num, zl (hgt x y (L.take k) ⟨(top : Rat), 0, 0⟩).c.num, zs (hgt x y (L.take k) ⟨(top : Rat), 0, 0⟩).c.den, zl (hgt x y (L.take k) ⟨(top : Rat), 0, 0⟩).c.den])]) (fun k => k ≤ L.length ∧ True) (fun k => L.length - k) 0 ?_ ?_ ?_ (fun k hk => ?_))
  | skip
 all_goals (repeat' ((try (conv => whnf)); first
  | refine call_0 ?_
  | refine call_i ?_ ?_
  | refine call_c ?_ (fun _ => ?_) (fun _ => ?_)
  | (with_reducible refine onB_t ?_)
  | (with_reducible refine onB_f ?_)
  | (with_reducible refine onB_d (fun _ => ?_) (fun _ => ?_))
  | (with_reducible refine onB_n (fun _ => ?_) (fun _ => ?_))
  | refine OnB.mk (fun _ => ?_) (fun _ => ?_)
  | refine obl_i ?_ ?_
  | refine Drw.mk (by kernel_rfl) ?_
  | refine mks_i ?_ ?_
  | refine slp_i ?_ ?_
  | (with_reducible refine elem_u ?_ ?_)
  | (with_reducible refine elem_0 ?_)
  | (with_reducible refine elem_1 ?_)
  | refine elem_map cu0 ?_ ?_
  | refine Ends.mk ?_))
 all_goals (try refine Pr.mk ?_)
 all_goals first | (show SubE _ _; repeat' (first | exact trivial | refine And.intro ?_ ?_)) | (show SubB _ _; repeat' (first | exact trivial | refine And.intro ?_ ?_)) | skip
 all_goals (try rfl)
 all_goals (try simp only [List.length_map, Int.toNat_natCast] at *)
 all_goals (try simp only [sgnI_lt0, sgnI_zero, sgnI_le0, sgnI_gt0, sgnI_ge0, sgnI_eq1, cmpI_lt0, cmpI_gt0, cmpI_eq0, cmpI_le0, cmpI_ge0, cmpR_of, sgnR_of, sgnR_lt0, sgnR_eq0, sgnR_gt0, sgnR_le0, sgnR_ge0, sgnR_eq1, cmpR_lt0, cmpR_gt0, cmpR_eq0, cmpR_le0, cmpR_ge0] at *)
 all_goals first
  | ((conv => whnf); exact ⟨k + 1, ⟨⟨rfl, rfl, rfl, rfl, rfl, inc64 (by omega), trivial⟩, ⟨rfl, rfl, hq_y (by omega) (by assumption) (by assumption), trivial⟩, ⟨by omega, trivial⟩, by show L.length - (k + 1) < L.length - k; omega⟩⟩)
  | ((conv => whnf); exact ⟨k + 1, ⟨⟨rfl, rfl, rfl, rfl, rfl, inc64 (by omega), trivial⟩, ⟨rfl, rfl, hq_n (by omega) (by assumption), trivial⟩, ⟨by omega, trivial⟩, by show L.length - (k + 1) < L.length - k; omega⟩⟩)
  | ((conv => whnf); exact ⟨k + 1, ⟨⟨rfl, rfl, rfl, rfl, rfl, inc64 (by omega), trivial⟩, ⟨rfl, rfl, hq_k (by omega) (by assumption), trivial⟩, ⟨by omega, trivial⟩, by show L.length - (k + 1) < L.length - k; omega⟩⟩)
  | exact hq_end hk.1 (by omega)
  | exact h64
  | exact ⟨medC_get hL k, hx, hy⟩
  | (have z := medC_get hL k; exact ⟨z.1, z.2.1, z.2.2.1, z.2.2.2.1, z.2.2.2.2.1, z.2.2.2.2.2.1, z.2.2.2.2.2.2, hx, hy⟩)
  | exact cmP (okR_swr (medC_get hL k) hx hy (by assumption)) (okR_take hx hy hL ht k)
  | exact ⟨Nat.zero_le _, trivial⟩
  | rfl
  | omega
  | ((repeat' apply And.intro) <;> first | assumption | exact rzb (by omega) | exact szb (by omega) | exact Int.mul_ne_zero (den_ne _) (den_ne _))
  | skip⟩

instance h_height2 (L : List Cut7) (top : Int) (x y : Rat) : DenI Tryz.prog 21 [.c (.sl 7 (L.map cuC)), .int .i64 top, Q2 x y] ((∀ c ∈ L, medC c) ∧ medI top ∧ rz x ≤ 6 ∧ rz y ≤ 6 ∧ L.length ≤ 12) (Q3 (hgt x y L ⟨(top : Rat), 0, 0⟩).a (hgt x y L ⟨(top : Rat), 0, 0⟩).b (hgt x y L ⟨(top : Rat), 0, 0⟩).c) := ⟨fun hp => by
 obtain ⟨hL, ht, hx, hy, hl⟩ := hp
 have i_x : RzB x 6 := ⟨hx⟩
 have i_y : RzB y 6 := ⟨hy⟩
 have i_t : RzB (top : Rat) 4 := ⟨rz_med ht⟩
 have h64 : -9223372036854775808 ≤ top ∧ top ≤ 9223372036854775807 := (by unfold medI at ht; omega)
 all_goals refine den_of (τ := tab) tab_ok mixed_ Tryz.func21 rfl (by kernel_rfl) (by kernel_rfl) (by kernel_rfl) ?_
 all_goals (repeat' ((try (conv => whnf)); first
  | refine call_0 ?_
  | refine call_i ?_ ?_
  | refine call_c ?_ (fun _ => ?_) (fun _ => ?_)
  | (with_reducible refine onB_t ?_)
  | (with_reducible refine onB_f ?_)
  | (with_reducible refine onB_d (fun _ => ?_) (fun _ => ?_))
  | (with_reducible refine onB_n (fun _ => ?_) (fun _ => ?_))
  | refine OnB.mk (fun _ => ?_) (fun _ => ?_)
  | refine obl_i ?_ ?_
  | refine Drw.mk (by kernel_rfl) ?_
  | refine mks_i ?_ ?_
  | refine slp_i ?_ ?_
  | (with_reducible refine elem_u ?_ ?_)
  | (with_reducible refine elem_0 ?_)
  | (with_reducible refine elem_1 ?_)
  | refine Ends.mk ?_))
 all_goals (try refine Pr.mk ?_)
 all_goals first
  | ((conv => whnf); refine Sw.Loop.inv (α := Nat) (fun k => [(5, .ptr 5 0), (6, .ptr 6 0), (7, .ptr 7 0), (0, .c (.sl 7 (L.map cuC))), (8, .int .i64 (k : Nat))]) (fun k => [(5, .var [zs x.num, zl x.num, zs x.den, zl x.den, zs y.num, zl y.num, zs y.den, zl y.den]), (6, .var [.v (.bool false), .sl 1 [], .v (.bool false), .sl 1 [], .v (.bool false), .sl 1 [], .v (.bool false), .sl 1 [], .v (.bool false), .sl 1 [], .v (.bool false), .sl 1 []]), (7, .var [zs (hgt x y (L.take k) ⟨(top : Rat), 0, 0⟩).a.num, zl (hgt x y (L.take k) ⟨(top : Rat), 0, 0⟩).a.num, zs (hgt x y (L.take k) ⟨(top : Rat), 0, 0⟩).a.den, zl (hgt x y (L.take k) ⟨(top : Rat), 0, 0⟩).a.den, zs (hgt x y (L.take k) ⟨(top : Rat), 0, 0⟩).b.num, zl (hgt x y (L.take k) ⟨(top : Rat), 0, 0⟩).b.num, zs (hgt x y (L.take k) ⟨(top : Rat), 0, 0⟩).b.den, zl (hgt x y (L.take k) ⟨(top : Rat), 0, 0⟩).b.den, zs (hgt x y (L.take k) ⟨(top : Rat), 0, 0⟩).c.num, zl (hgt x y (L.take k) ⟨(top : Rat), 0, 0⟩).c.num, zs (hgt x y (L.take k) ⟨(top : Rat), 0, 0⟩).c.den, zl (hgt x y (L.take k) ⟨(top : Rat), 0, 0⟩).c.den])]) (fun k => k ≤ L.length ∧ True) (fun k => L.length - k) 0 ?_ ?_ ?_ (fun k hk => ?_))
  | skip
 all_goals (repeat' ((try (conv => whnf)); first
  | refine call_0 ?_
  | refine call_i ?_ ?_
  | refine call_c ?_ (fun _ => ?_) (fun _ => ?_)
  | (with_reducible refine onB_t ?_)
  | (with_reducible refine onB_f ?_)
  | (with_reducible refine onB_d (fun _ => ?_) (fun _ => ?_))
  | (with_reducible refine onB_n (fun _ => ?_) (fun _ => ?_))
  | refine OnB.mk (fun _ => ?_) (fun _ => ?_)
  | refine obl_i ?_ ?_
  | refine Drw.mk (by kernel_rfl) ?_
  | refine mks_i ?_ ?_
  | refine slp_i ?_ ?_
  | (with_reducible refine elem_u ?_ ?_)
  | (with_reducible refine elem_0 ?_)
  | (with_reducible refine elem_1 ?_)
  | refine elem_map cu0 ?_ ?_
  | refine Ends.mk ?_))
 all_goals (try refine Pr.mk ?_)
 all_goals first | (show SubE _ _; repeat' (first | exact trivial | refine And.intro ?_ ?_)) | (show SubB _ _; repeat' (first | exact trivial | refine And.intro ?_ ?_)) | skip
 all_goals (try rfl)
 all_goals (try simp only [List.length_map, Int.toNat_natCast] at *)
 all_goals (try simp only [sgnI_lt0, sgnI_zero, sgnI_le0, sgnI_gt0, sgnI_ge0, sgnI_eq1, cmpI_lt0, cmpI_gt0, cmpI_eq0, cmpI_le0, cmpI_ge0, cmpR_of, sgnR_of, sgnR_lt0, sgnR_eq0, sgnR_gt0, sgnR_le0, sgnR_ge0, sgnR_eq1, cmpR_lt0, cmpR_gt0, cmpR_eq0, cmpR_le0, cmpR_ge0] at *)
 all_goals first
  | ((conv => whnf); exact ⟨k + 1, ⟨⟨rfl, rfl, rfl, rfl, inc64 (by omega), trivial⟩, ⟨rfl, rfl, hq_y (by omega) (by assumption) (by assumption), trivial⟩, ⟨by omega, trivial⟩, by show L.length - (k + 1) < L.length - k; omega⟩⟩)
  | ((conv => whnf); exact ⟨k + 1, ⟨⟨rfl, rfl, rfl, rfl, inc64 (by omega), trivial⟩, ⟨rfl, rfl, hq_n (by omega) (by assumption), trivial⟩, ⟨by omega, trivial⟩, by show L.length - (k + 1) < L.length - k; omega⟩⟩)
  | ((conv => whnf); exact ⟨k + 1, ⟨⟨rfl, rfl, rfl, rfl, inc64 (by omega), trivial⟩, ⟨rfl, rfl, hq_k (by omega) (by assumption), trivial⟩, ⟨by omega, trivial⟩, by show L.length - (k + 1) < L.length - k; omega⟩⟩)
  | exact hq_end hk.1 (by omega)
  | exact h64
  | exact ⟨medC_get hL k, hx, hy⟩
  | (have z := medC_get hL k; exact ⟨z.1, z.2.1, z.2.2.1, z.2.2.2.1, z.2.2.2.2.1, z.2.2.2.2.2.1, z.2.2.2.2.2.2, hx, hy⟩)
  | exact cmP (okR_swr (medC_get hL k) hx hy (by assumption)) (okR_take hx hy hL ht k)
  | exact ⟨Nat.zero_le _, trivial⟩
  | rfl
  | omega
  | ((repeat' apply And.intro) <;> first | assumption | exact rzb (by omega) | exact szb (by omega) | exact Int.mul_ne_zero (den_ne _) (den_ne _))
  | skip⟩

end Go.Proofs.YtigbdpkpaleboaaGreat

namespace Go.Proofs.YtigbdpkpaleboaaGreat
open Go Go.RowKit Go.Sw
set_option linter.unusedVariables false
set_option maxRecDepth 100000
set_option maxHeartbeats 8000000
set_option synthInstance.maxSize 4000
set_option synthInstance.maxHeartbeats 400000
instance l_of (L : List Cut7) : DenI Tryz.prog 20 [.c (.sl 7 (L.map cuC))] (L.length ≤ 12) (.c (.sl 7 (L.map cuC))) := ⟨fun hp => by
 refine den_of (τ := tab) tab_ok mixed_ Tryz.func20 rfl (by kernel_rfl) (by kernel_rfl) (by kernel_rfl) ?_
 all_goals first
  | ((conv => whnf); refine Sw.Loop.ghost 3 100 45 7 ?_ rfl rfl rfl (by decide))
  | skip
 all_goals first
  | ((conv => whnf); refine Sw.Loop.inv (α := Nat) (fun k => [(6, .c (.sl 7 (L.map cuC))), (7, .int .i64 ((L.map cuC).length : Nat)), (3, .gs 100 k), (8, .int .i64 (k : Nat))]) (fun k => [(100, .grow 45 7 ((L.take k).map cuC))]) (fun k => k ≤ L.length ∧ True) (fun k => L.length - k) 0 ?_ ?_ ?_ (fun k hk => ?_))
  | skip
 all_goals (repeat' ((try (conv => whnf)); first
  | refine call_0 ?_
  | refine call_i ?_ ?_
  | refine call_c ?_ (fun _ => ?_) (fun _ => ?_)
  | (with_reducible refine onB_t ?_)
  | (with_reducible refine onB_f ?_)
  | (with_reducible refine onB_d (fun _ => ?_) (fun _ => ?_))
  | (with_reducible refine onB_n (fun _ => ?_) (fun _ => ?_))
  | refine OnB.mk (fun _ => ?_) (fun _ => ?_)
  | refine obl_i ?_ ?_
  | refine Drw.mk (by kernel_rfl) ?_
  | refine mks_i ?_ ?_
  | refine slp_i ?_ ?_
  | (with_reducible refine elem_u ?_ ?_)
  | (with_reducible refine elem_0 ?_)
  | (with_reducible refine elem_1 ?_)
  | refine elem_map cu0 ?_ ?_
  | refine Ends.mk ?_))
 all_goals (try refine Pr.mk ?_)
 all_goals first | (show SubE _ _; repeat' (first | exact trivial | refine And.intro ?_ ?_)) | (show SubB _ _; repeat' (first | exact trivial | refine And.intro ?_ ?_)) | skip
 all_goals (try rfl)
 all_goals (try simp only [List.length_map, Int.toNat_natCast] at *)
 all_goals first
  | exact ofK_end hk.1 (by omega)
  | ((conv => whnf); exact ⟨k + 1, ⟨⟨rfl, rfl, gsE (by simp only [List.length_map, List.length_append, List.length_take, List.length_cons, List.length_nil]; omega), inc64 (by omega), trivial⟩, ⟨growK (by omega), trivial⟩, ⟨by omega, trivial⟩, by show L.length - (k + 1) < L.length - k; omega⟩⟩)
  | omega
  | exact ⟨Nat.zero_le _, trivial⟩
  | (simp only [List.length_map, List.length_append, List.length_take, List.length_cons, List.length_nil]; omega)
  | skip⟩

end Go.Proofs.YtigbdpkpaleboaaGreat

namespace Go.Sw
open Go
set_option linter.unusedVariables false
def redI (L : List Cut7) (i : Nat) : List Cut7 := ((List.range i).filter (keepI L)).map fun j => L.getD j cu0
def radC (c : Cut7) : Prop := medC c ∧ 0 ≤ c.r ∧ c.r ≤ 1000000
theorem radC_get {L : List Cut7} (h : ∀ c ∈ L, radC c) (i : Nat) : radC (L.getD i cu0) := get_all (by unfold radC medC medI cu0; decide) h i
theorem rad_of {s : Stk} (h : okS s) : radC (ofS s) := by
  have h7 := h.2.2.2.2.2.2
  exact ⟨med_of h, by unfold ofS; simp only; omega, by unfold ofS; simp only; omega⟩
theorem rads_of {L : List Stk} (h : ∀ s ∈ L, okS s) : ∀ c ∈ (L.take 12).map ofS, radC c := fun c hc => by
  obtain ⟨s, hs, rfl⟩ := List.mem_map.1 hc
  exact rad_of (h s (List.mem_of_mem_take hs))
theorem dom_pre {c d : Cut7} (h : radC c) (k : radC d) :
    medI c.fx ∧ medI c.fy ∧ medI c.fz ∧ medI c.tx ∧ medI c.ty ∧ medI c.tz ∧ medI d.fx ∧ medI d.fy ∧ medI d.fz ∧ medI d.tx ∧ medI d.ty ∧ medI d.tz ∧ 0 ≤ c.r ∧ c.r ≤ 1000000 ∧ 0 ≤ d.r ∧ d.r ≤ 1000000 := by
  obtain ⟨⟨h1, h2, h3, h4, h5, h6, _⟩, h7, h8⟩ := h
  obtain ⟨⟨k1, k2, k3, k4, k5, k6, _⟩, k7, k8⟩ := k
  exact ⟨h1, h2, h3, h4, h5, h6, k1, k2, k3, k4, k5, k6, h7, h8, k7, k8⟩
section
variable {L : List Cut7} {i k : Nat}
theorem nb_step (h : ∀ j, j < k → ¬badI L i j) (h2 : ¬badI L i k) : ∀ j, j < k + 1 → ¬badI L i j := fun j hj => by
  rcases Nat.lt_succ_iff_lt_or_eq.1 hj with g | g
  · exact h j g
  · subst g; exact h2
theorem nb_eq (h : (k : Int) = (i : Int)) : ¬badI L i k := fun b => by rcases b.2 with g | g <;> omega
theorem nb_dm (h : ¬dm (L.getD i cu0) (L.getD k cu0)) : ¬badI L i k := fun b => h b.1
theorem nb_2 (h : ¬(k : Int) < (i : Int)) (h2 : dm (L.getD k cu0) (L.getD i cu0)) : ¬badI L i k := fun b => by
  rcases b.2 with g | g
  · omega
  · exact g.2 h2
theorem nb_3 (h1 : ¬(k : Int) < (i : Int)) (h2 : ¬(k : Int) > (i : Int)) : ¬badI L i k := fun b => by rcases b.2 with g | g <;> omega
theorem bad_1 (h : dm (L.getD i cu0) (L.getD k cu0)) (h2 : (k : Int) < (i : Int)) : badI L i k := ⟨h, .inl (by omega)⟩
theorem bad_2 (h : dm (L.getD i cu0) (L.getD k cu0)) (h1 : ¬(k : Int) = (i : Int)) (h2 : ¬(k : Int) < (i : Int)) (h3 : ¬dm (L.getD k cu0) (L.getD i cu0)) : badI L i k := ⟨h, .inr ⟨by omega, h3⟩⟩
theorem bad_3 (h : dm (L.getD i cu0) (L.getD k cu0)) (h1 : (k : Int) > (i : Int)) (h3 : ¬dm (L.getD k cu0) (L.getD i cu0)) : badI L i k := ⟨h, .inr ⟨by omega, h3⟩⟩
def keepK (L : List Cut7) (i k : Nat) : Bool := decide (∀ j, j < k → ¬badI L i j)
theorem keepK_n (h : ¬badI L i k) : keepK L i k = keepK L i (k + 1) := decide_eq_decide.2 ⟨fun g => nb_step g h, fun g j hj => g j (by omega)⟩
theorem keepK_y (h : badI L i k) : false = keepK L i (k + 1) := (decide_eq_false fun g => g k (by omega) h).symm
theorem keepK_0 : true = keepK L i 0 := (decide_eq_true fun j hj => by omega).symm
theorem keepK_end (h1 : k ≤ L.length) (h2 : ¬k < L.length) : keepK L i k = keepI L i := by rw [show k = L.length by omega]; rfl
theorem redI_s : redI L (i + 1) = if keepI L i = true then redI L i ++ [L.getD i cu0] else redI L i := red_snoc
theorem redI_y (h : keepI L i = true) : redI L (i + 1) = redI L i ++ [L.getD i cu0] := by rw [redI_s, if_pos h]
theorem redI_n (h : keepI L i = false) : redI L (i + 1) = redI L i := by rw [redI_s, h, if_neg (by decide)]
theorem redG_y {T : TypeId} (h : keepI L i = true) : some (Bk.grow T 7 ((redI L i).map cuC ++ [cuC (L.getD i cu0)])) = some (Bk.grow T 7 ((redI L (i + 1)).map cuC)) := by
  rw [redI_y h, List.map_append]; rfl
theorem redG_n {T : TypeId} (h : keepI L i = false) : some (Bk.grow T 7 ((redI L i).map cuC)) = some (Bk.grow T 7 ((redI L (i + 1)).map cuC)) := by rw [redI_n h]
theorem redS_y (h : keepI L i = true) : some (AV.gs 100 ((redI L i).map cuC ++ [cuC (L.getD i cu0)]).length) = some (AV.gs 100 (redI L (i + 1)).length) := by
  rw [redI_y h, List.length_append, List.length_append, List.length_map]; rfl
theorem redS_n (h : keepI L i = false) : some (AV.gs 100 (redI L i).length) = some (AV.gs 100 (redI L (i + 1)).length) := by rw [redI_n h]
theorem redI_le : (redI L i).length ≤ i := by
  unfold redI
  rw [List.length_map]
  exact Nat.le_trans (List.length_filter_le _ _) (by rw [List.length_range]; exact Nat.le_refl _)
theorem red_end (h1 : i ≤ L.length) (h2 : ¬i < L.length) : packA [AV.c (Cell.sl 7 ((redI L i).map cuC))] = AV.c (Cell.sl 7 ((redL L).map cuC)) := by
  rw [show i = L.length by omega]; rfl
theorem redL_le : (redL L).length ≤ L.length := redI_le
theorem redL_med {L : List Cut7} (h : ∀ c ∈ L, medC c) : ∀ c ∈ redL L, medC c := fun c hc => h c (red_mem hc)
theorem isP2 {o p : Rt} (k : OkR o) (l : OkR p) : rz o.a ≤ 20000 ∧ rz o.b ≤ 20000 ∧ rz o.c ≤ 20000 ∧ rz p.a ≤ 20000 ∧ rz p.b ≤ 20000 ∧ rz p.c ≤ 20000 ∧ 0 ≤ p.c :=
  ⟨k.r20.1, k.r20.2.1, k.r20.2.2, l.r20.1, l.r20.2.1, l.r20.2.2, l.nn⟩
theorem red_is {x y : Rat} {L : List Cut7} {o : Rt} (h : OkR (hgt x y (redL L) o)) (ho : 0 ≤ o.c) :
    (okQ (hgt x y (redL L) o).b (hgt x y (redL L) o).c && decide (cmp4 (hgt x y (redL L) o).a (hgt x y (redL L) o).b (hgt x y (redL L) o).c (hgt x y L o).a (hgt x y L o).b (hgt x y L o).c = 0)) = true := by
  rw [h.ok, decide_eq_true (show cmp4 _ _ _ _ _ _ = 0 from red_height ho)]; rfl
end
end Go.Sw

namespace Go.Proofs.YtigbdpkpaleboaaGreat
open Go Go.RowKit Go.Sw
set_option linter.unusedVariables false
set_option maxRecDepth 100000
set_option maxHeartbeats 8000000
set_option synthInstance.maxSize 4000
set_option synthInstance.maxHeartbeats 400000
instance h_red (L : List Cut7) : DenI Tryz.prog 27 [.c (.sl 7 (L.map cuC))] ((∀ c ∈ L, radC c) ∧ L.length ≤ 12) (.c (.sl 7 ((redL L).map cuC))) := ⟨fun hp => by
 obtain ⟨hL, hl⟩ := hp
 have hri := @redI_le L
 all_goals refine den_of (τ := tab) tab_ok mixed_ Tryz.func27 rfl (by kernel_rfl) (by kernel_rfl) (by kernel_rfl) ?_
 all_goals first
  | ((conv => whnf); refine Sw.Loop.ghost 3 100 45 7 ?_ rfl rfl rfl (by decide))
  | skip
 all_goals first
  | ((conv => whnf); refine Sw.Loop.inv (α := Nat) (fun i => [(0, .c (.sl 7 (L.map cuC))), (9, .c (.sl 7 (L.map cuC))), (10, .int .i64 ((L.map cuC).length : Nat)), (3, .gs 100 (redI L i).length), (11, .int .i64 (i : Nat))]) (fun i => [(100, .grow 45 7 ((redI L i).map cuC))]) (fun i => i ≤ L.length ∧ True) (fun i => L.length - i) 0 ?_ ?_ ?_ (fun i hi => ?_))
  | skip
 all_goals (repeat' ((try (conv => whnf)); first
  | refine call_0 ?_
  | refine call_i ?_ ?_
  | refine call_c ?_ (fun _ => ?_) (fun _ => ?_)
  | (with_reducible refine onB_t ?_)
  | (with_reducible refine onB_f ?_)
  | (with_reducible refine onB_d (fun _ => ?_) (fun _ => ?_))
  | (with_reducible refine onB_n (fun _ => ?_) (fun _ => ?_))
  | refine OnB.mk (fun _ => ?_) (fun _ => ?_)
  | refine obl_i ?_ ?_
  | refine Drw.mk (by kernel_rfl) ?_
  | refine mks_i ?_ ?_
  | refine slp_i ?_ ?_
  | (with_reducible refine elem_u ?_ ?_)
  | (with_reducible refine elem_0 ?_)
  | (with_reducible refine elem_1 ?_)
  | refine elem_map cu0 ?_ ?_
  | refine Ends.mk ?_))
 all_goals (try refine Pr.mk ?_)
 all_goals first
  | ((conv => whnf); refine Sw.Loop.inv (α := Nat) (fun k => [(0, .c (.sl 7 (L.map cuC))), (9, .c (.sl 7 (L.map cuC))), (10, .int .i64 ((L.map cuC).length : Nat)), (3, .gs 100 (redI L i).length), (11, .int .i64 (i : Nat)), (4, .int .i64 (i : Nat)), (5, .ptr 5 0), (6, .bool true), (16, .c (.sl 7 (L.map cuC))), (17, .int .i64 ((L.map cuC).length : Nat)), (18, .int .i64 (k : Nat))]) (fun k => [(100, .grow 45 7 ((redI L i).map cuC)), (5, .var [.v (.int .i64 (L.getD i cu0).fx), .v (.int .i64 (L.getD i cu0).fy), .v (.int .i64 (L.getD i cu0).fz), .v (.int .i64 (L.getD i cu0).tx), .v (.int .i64 (L.getD i cu0).ty), .v (.int .i64 (L.getD i cu0).tz), .v (.int .i64 (L.getD i cu0).r)])]) (fun k => k ≤ L.length ∧ ∀ j, j < k → ¬badI L i j) (fun k => L.length - k) 0 ?_ ?_ ?_ (fun k hk => ?_))
  | skip
 all_goals (repeat' ((try (conv => whnf)); first
  | refine call_0 ?_
  | refine call_i ?_ ?_
  | refine call_c ?_ (fun _ => ?_) (fun _ => ?_)
  | (with_reducible refine onB_t ?_)
  | (with_reducible refine onB_f ?_)
  | (with_reducible refine onB_d (fun _ => ?_) (fun _ => ?_))
  | (with_reducible refine onB_n (fun _ => ?_) (fun _ => ?_))
  | refine OnB.mk (fun _ => ?_) (fun _ => ?_)
  | refine obl_i ?_ ?_
  | refine Drw.mk (by kernel_rfl) ?_
  | refine mks_i ?_ ?_
  | refine slp_i ?_ ?_
  | (with_reducible refine elem_u ?_ ?_)
  | (with_reducible refine elem_0 ?_)
  | (with_reducible refine elem_1 ?_)
  | refine elem_map cu0 ?_ ?_
  | refine Ends.mk ?_))
 all_goals (try refine Pr.mk ?_)
 all_goals first | (show SubE _ _; repeat' (first | exact trivial | refine And.intro ?_ ?_)) | (show SubB _ _; repeat' (first | exact trivial | refine And.intro ?_ ?_)) | skip
 all_goals (try rfl)
 all_goals (try simp only [List.length_map, Int.toNat_natCast] at *)
 all_goals first
  | ((conv => whnf); exact ⟨k + 1, ⟨⟨rfl, rfl, rfl, rfl, rfl, rfl, rfl, rfl, rfl, rfl, inc64 (by omega), trivial⟩, ⟨rfl, rfl, trivial⟩, ⟨by omega, nb_step hk.2 (nb_eq (by assumption))⟩, by show L.length - (k + 1) < L.length - k; omega⟩⟩)
  | ((conv => whnf); exact ⟨k + 1, ⟨⟨rfl, rfl, rfl, rfl, rfl, rfl, rfl, rfl, rfl, rfl, inc64 (by omega), trivial⟩, ⟨rfl, rfl, trivial⟩, ⟨by omega, nb_step hk.2 (nb_dm (by assumption))⟩, by show L.length - (k + 1) < L.length - k; omega⟩⟩)
  | ((conv => whnf); exact ⟨k + 1, ⟨⟨rfl, rfl, rfl, rfl, rfl, rfl, rfl, rfl, rfl, rfl, inc64 (by omega), trivial⟩, ⟨rfl, rfl, trivial⟩, ⟨by omega, nb_step hk.2 (nb_2 (by assumption) (by assumption))⟩, by show L.length - (k + 1) < L.length - k; omega⟩⟩)
  | ((conv => whnf); exact ⟨i + 1, ⟨⟨rfl, rfl, rfl, redS_y (keep_end hk.2 (by omega)), inc64 (by omega), trivial⟩, ⟨redG_y (keep_end hk.2 (by omega)), trivial⟩, ⟨by omega, trivial⟩, by show L.length - (i + 1) < L.length - i; omega⟩⟩)
  | ((conv => whnf); exact ⟨i + 1, ⟨⟨rfl, rfl, rfl, redS_n (keep_bad (x := k) (by omega) (bad_1 (by assumption) (by assumption))), inc64 (by omega), trivial⟩, ⟨redG_n (keep_bad (x := k) (by omega) (bad_1 (by assumption) (by assumption))), trivial⟩, ⟨by omega, trivial⟩, by show L.length - (i + 1) < L.length - i; omega⟩⟩)
  | ((conv => whnf); exact ⟨i + 1, ⟨⟨rfl, rfl, rfl, redS_n (keep_bad (x := k) (by omega) (bad_2 (by assumption) (by assumption) (by assumption) (by assumption))), inc64 (by omega), trivial⟩, ⟨redG_n (keep_bad (x := k) (by omega) (bad_2 (by assumption) (by assumption) (by assumption) (by assumption))), trivial⟩, ⟨by omega, trivial⟩, by show L.length - (i + 1) < L.length - i; omega⟩⟩)
  | exact red_end hi.1 (by omega)
  | exact dom_pre (radC_get hL _) (radC_get hL _)
  | omega
  | exact ⟨Nat.zero_le _, trivial⟩
  | exact ⟨Nat.zero_le _, fun j hj => by omega⟩
  | rfl
  | (have := hri (i := i); simp only [List.length_map, List.length_append, List.length_take, List.length_cons, List.length_nil]; omega)
  | skip⟩

instance h_red2 (L : List Cut7) : DenI Tryz.prog 29 [.c (.sl 7 (L.map cuC))] ((∀ c ∈ L, radC c) ∧ L.length ≤ 12) (.c (.sl 7 ((redL L).map cuC))) := ⟨fun hp => by
 obtain ⟨hL, hl⟩ := hp
 have hri := @redI_le L
 all_goals refine den_of (τ := tab) tab_ok mixed_ Tryz.func29 rfl (by kernel_rfl) (by kernel_rfl) (by kernel_rfl) ?_
 all_goals first
  | ((conv => whnf); refine Sw.Loop.ghost 3 100 46 7 ?_ rfl rfl rfl (by decide))
  | skip
 all_goals first
  | ((conv => whnf); refine Sw.Loop.inv (α := Nat) (fun i => [(0, .c (.sl 7 (L.map cuC))), (3, .gs 100 (redI L i).length), (4, .int .i64 (i : Nat))]) (fun i => [(100, .grow 46 7 ((redI L i).map cuC))]) (fun i => i ≤ L.length ∧ True) (fun i => L.length - i) 0 ?_ ?_ ?_ (fun i hi => ?_))
  | skip
 all_goals (repeat' ((try (conv => whnf)); first
  | refine call_0 ?_
  | refine call_i ?_ ?_
  | refine call_c ?_ (fun _ => ?_) (fun _ => ?_)
  | (with_reducible refine onB_t ?_)
  | (with_reducible refine onB_f ?_)
  | (with_reducible refine onB_d (fun _ => ?_) (fun _ => ?_))
  | (with_reducible refine onB_n (fun _ => ?_) (fun _ => ?_))
  | refine OnB.mk (fun _ => ?_) (fun _ => ?_)
  | refine obl_i ?_ ?_
  | refine Drw.mk (by kernel_rfl) ?_
  | refine mks_i ?_ ?_
  | refine slp_i ?_ ?_
  | (with_reducible refine elem_u ?_ ?_)
  | (with_reducible refine elem_0 ?_)
  | (with_reducible refine elem_1 ?_)
  | refine elem_map cu0 ?_ ?_
  | refine Ends.mk ?_))
 all_goals (try refine Pr.mk ?_)
 all_goals first
  | ((conv => whnf); refine Sw.Loop.inv (α := Nat) (fun k => [(0, .c (.sl 7 (L.map cuC))), (3, .gs 100 (redI L i).length), (4, .int .i64 (i : Nat)), (5, .bool (keepK L i k)), (6, .int .i64 (k : Nat))]) (fun k => [(100, .grow 46 7 ((redI L i).map cuC))]) (fun k => k ≤ L.length ∧ True) (fun k => L.length - k) 0 ?_ ?_ ?_ (fun k hk => ?_))
  | skip
 all_goals (repeat' ((try (conv => whnf)); first
  | refine call_0 ?_
  | refine call_i ?_ ?_
  | refine call_c ?_ (fun _ => ?_) (fun _ => ?_)
  | (with_reducible refine onB_t ?_)
  | (with_reducible refine onB_f ?_)
  | (with_reducible refine onB_d (fun _ => ?_) (fun _ => ?_))
  | (with_reducible refine onB_n (fun _ => ?_) (fun _ => ?_))
  | refine OnB.mk (fun _ => ?_) (fun _ => ?_)
  | refine obl_i ?_ ?_
  | refine Drw.mk (by kernel_rfl) ?_
  | refine mks_i ?_ ?_
  | refine slp_i ?_ ?_
  | (with_reducible refine elem_u ?_ ?_)
  | (with_reducible refine elem_0 ?_)
  | (with_reducible refine elem_1 ?_)
  | refine elem_map cu0 ?_ ?_
  | refine Ends.mk ?_))
 all_goals (try refine Pr.mk ?_)
 all_goals first | (show SubE _ _; repeat' (first | exact trivial | refine And.intro ?_ ?_)) | (show SubB _ _; repeat' (first | exact trivial | refine And.intro ?_ ?_)) | skip
 all_goals (try rfl)
 all_goals (try simp only [List.length_map, Int.toNat_natCast] at *)
 all_goals first
  | ((conv => whnf); exact ⟨k + 1, ⟨⟨rfl, rfl, rfl, congrArg (fun q => some (AV.bool q)) (keepK_n (nb_dm (by assumption))), inc64 (by omega), trivial⟩, ⟨rfl, trivial⟩, ⟨by omega, trivial⟩, by show L.length - (k + 1) < L.length - k; omega⟩⟩)
  | ((conv => whnf); exact ⟨k + 1, ⟨⟨rfl, rfl, rfl, congrArg (fun q => some (AV.bool q)) (keepK_n (nb_2 (by assumption) (by assumption))), inc64 (by omega), trivial⟩, ⟨rfl, trivial⟩, ⟨by omega, trivial⟩, by show L.length - (k + 1) < L.length - k; omega⟩⟩)
  | ((conv => whnf); exact ⟨k + 1, ⟨⟨rfl, rfl, rfl, congrArg (fun q => some (AV.bool q)) (keepK_n (nb_3 (by assumption) (by assumption))), inc64 (by omega), trivial⟩, ⟨rfl, trivial⟩, ⟨by omega, trivial⟩, by show L.length - (k + 1) < L.length - k; omega⟩⟩)
  | ((conv => whnf); exact ⟨k + 1, ⟨⟨rfl, rfl, rfl, congrArg (fun q => some (AV.bool q)) (keepK_y (bad_1 (by assumption) (by assumption))), inc64 (by omega), trivial⟩, ⟨rfl, trivial⟩, ⟨by omega, trivial⟩, by show L.length - (k + 1) < L.length - k; omega⟩⟩)
  | ((conv => whnf); exact ⟨k + 1, ⟨⟨rfl, rfl, rfl, congrArg (fun q => some (AV.bool q)) (keepK_y (bad_3 (by assumption) (by assumption) (by assumption))), inc64 (by omega), trivial⟩, ⟨rfl, trivial⟩, ⟨by omega, trivial⟩, by show L.length - (k + 1) < L.length - k; omega⟩⟩)
  | exact congrArg (fun q => some (AV.bool q)) keepK_0
  | ((conv => whnf); exact ⟨i + 1, ⟨⟨rfl, redS_y ((keepK_end hk.1 (by omega)).symm.trans (by assumption)), inc64 (by omega), trivial⟩, ⟨redG_y ((keepK_end hk.1 (by omega)).symm.trans (by assumption)), trivial⟩, ⟨by omega, trivial⟩, by show L.length - (i + 1) < L.length - i; omega⟩⟩)
  | ((conv => whnf); exact ⟨i + 1, ⟨⟨rfl, redS_n ((keepK_end hk.1 (by omega)).symm.trans (by assumption)), inc64 (by omega), trivial⟩, ⟨redG_n ((keepK_end hk.1 (by omega)).symm.trans (by assumption)), trivial⟩, ⟨by omega, trivial⟩, by show L.length - (i + 1) < L.length - i; omega⟩⟩)
  | exact red_end hi.1 (by omega)
  | exact dom_pre (radC_get hL _) (radC_get hL _)
  | omega
  | exact ⟨Nat.zero_le _, trivial⟩
  | exact ⟨Nat.zero_le _, fun j hj => by omega⟩
  | rfl
  | (have := hri (i := i); simp only [List.length_map, List.length_append, List.length_take, List.length_cons, List.length_nil]; omega)
  | skip⟩

end Go.Proofs.YtigbdpkpaleboaaGreat

namespace Go.Sw
open Go Go.RowKit
set_option linter.unusedVariables false
theorem all_map {α : Type} {f : α → List Cell} {p : α → Prop} : ∀ {es : List (List Cell)}, (∀ x ∈ es, ∃ a, p a ∧ x = f a) → ∃ L : List α, L.length = es.length ∧ (∀ a ∈ L, p a) ∧ es = L.map f
  | [], _ => ⟨[], rfl, fun a h => by simp at h, rfl⟩
  | e :: r, h => by
    obtain ⟨a, ha, rfl⟩ := h e (by simp)
    obtain ⟨L, l1, l2, l3⟩ := all_map (es := r) fun x hx => h x (by simp [hx])
    exact ⟨a :: L, by simp [l1], fun b hb => by rcases List.mem_cons.1 hb with rfl | hb; exact ha; exact l2 b hb, by simp [l3]⟩
theorem fit_stks {c : Cell} (h : Fit (.slice (.cons (.cons (.int .i16) (.cons (.int .i16) (.cons (.int .i16) .nil))) (.cons (.cons (.int .i16) (.cons (.int .i16) (.cons (.int .i16) .nil))) (.cons (.int .u8) .nil)))) [c]) :
    ∃ L : List Stk, L.length ≤ maxLen ∧ (∀ s ∈ L, okS s) ∧ c = .sl 7 (L.map stC) := by
  obtain ⟨es, h1, h2, rfl⟩ := fit_slice h
  obtain ⟨L, l1, l2, l3⟩ := all_map (f := stC) (p := okS) (es := es) fun x hx => by
    obtain ⟨_, _, ⟨_, _, ⟨a, wa, rfl⟩, ⟨_, _, ⟨b, wb, rfl⟩, ⟨_, _, ⟨c, wc, rfl⟩, rfl, rfl⟩, rfl⟩, rfl⟩, ⟨_, _, ⟨_, _, ⟨d, wd, rfl⟩, ⟨_, _, ⟨e, we, rfl⟩, ⟨_, _, ⟨f, wf, rfl⟩, rfl, rfl⟩, rfl⟩, rfl⟩, ⟨_, _, ⟨r, wr, rfl⟩, rfl, rfl⟩, rfl⟩, rfl⟩ := h2 x hx
    obtain ⟨m, rfl, hm⟩ := wfNat (by simp) wr
    have := wfI16 wa; have := wfI16 wb; have := wfI16 wc; have := wfI16 wd; have := wfI16 we; have := wfI16 wf
    have hm' : m < 256 := hm
    exact ⟨⟨a, b, c, d, e, f, m⟩, by unfold okS smallI; simp only; omega, rfl⟩
  exact ⟨L, by omega, l2, by rw [l3]; rfl⟩
end Go.Sw

namespace Go.Proofs.YtigbdpkpaleboaaGreat
open Go Go.RowKit Go.Sw
set_option linter.unusedVariables false
set_option maxRecDepth 100000
set_option maxHeartbeats 8000000
set_option synthInstance.maxSize 4000
set_option synthInstance.maxHeartbeats 400000
instance h_same (L : List Cut7) : DenI Tryz.prog 28 [.c (.sl 7 (L.map cuC)), .c (.sl 7 (L.map cuC))] (L.length ≤ 12) (.bool true) := ⟨fun hp => by
 refine den_of (τ := tab) tab_ok mixed_ Tryz.func28 rfl (by kernel_rfl) (by kernel_rfl) (by kernel_rfl) ?_
 all_goals (repeat' ((try (conv => whnf)); first
  | refine call_0 ?_
  | refine call_i ?_ ?_
  | refine call_c ?_ (fun _ => ?_) (fun _ => ?_)
  | (with_reducible refine onB_t ?_)
  | (with_reducible refine onB_f ?_)
  | (with_reducible refine onB_d (fun _ => ?_) (fun _ => ?_))
  | (with_reducible refine onB_n (fun _ => ?_) (fun _ => ?_))
  | refine OnB.mk (fun _ => ?_) (fun _ => ?_)
  | refine obl_i ?_ ?_
  | refine Drw.mk (by kernel_rfl) ?_
  | refine mks_i ?_ ?_
  | refine slp_i ?_ ?_
  | (with_reducible refine elem_u ?_ ?_)
  | (with_reducible refine elem_0 ?_)
  | (with_reducible refine elem_1 ?_)
  | refine Ends.mk ?_))
 all_goals (try refine Pr.mk ?_)
 all_goals first
  | ((conv => whnf); refine Sw.Loop.inv (α := Nat) (fun k => [(0, .c (.sl 7 (L.map cuC))), (1, .c (.sl 7 (L.map cuC))), (5, .int .i64 (k : Nat))]) (fun k => []) (fun k => k ≤ L.length ∧ True) (fun k => L.length - k) 0 ?_ ?_ ?_ (fun k hk => ?_))
  | skip
 all_goals (repeat' ((try (conv => whnf)); first
  | refine call_0 ?_
  | refine call_i ?_ ?_
  | refine call_c ?_ (fun _ => ?_) (fun _ => ?_)
  | (with_reducible refine onB_t ?_)
  | (with_reducible refine onB_f ?_)
  | (with_reducible refine onB_d (fun _ => ?_) (fun _ => ?_))
  | (with_reducible refine onB_n (fun _ => ?_) (fun _ => ?_))
  | refine OnB.mk (fun _ => ?_) (fun _ => ?_)
  | refine obl_i ?_ ?_
  | refine Drw.mk (by kernel_rfl) ?_
  | refine mks_i ?_ ?_
  | refine slp_i ?_ ?_
  | (with_reducible refine elem_u ?_ ?_)
  | (with_reducible refine elem_0 ?_)
  | (with_reducible refine elem_1 ?_)
  | refine elem_map cu0 ?_ ?_
  | refine Ends.mk ?_))
 all_goals (try refine Pr.mk ?_)
 all_goals first | (show SubE _ _; repeat' (first | exact trivial | refine And.intro ?_ ?_)) | (show SubB _ _; repeat' (first | exact trivial | refine And.intro ?_ ?_)) | skip
 all_goals (try rfl)
 all_goals (try simp only [List.length_map, Int.toNat_natCast] at *)
 all_goals first
  | rfl
  | ((conv => whnf); exact ⟨k + 1, ⟨⟨rfl, rfl, inc64 (by omega), trivial⟩, ⟨⟩, ⟨by omega, trivial⟩, by show L.length - (k + 1) < L.length - k; omega⟩⟩)
  | omega
  | exact ⟨Nat.zero_le _, trivial⟩
  | (exfalso; simp at *; done)
  | skip⟩

instance h_same2 (L : List Cut7) (k : Nat) : DenI Tryz.prog 28 [.c (.sl 7 ((L.take k).map cuC)), .c (.sl 7 (L.map cuC))] (L.length ≤ 12 ∧ L.length ≤ k) (.bool true) := ⟨fun hp => by rw [List.take_of_length_le hp.2]; exact (inferInstance : DenI Tryz.prog 28 [.c (.sl 7 (L.map cuC)), .c (.sl 7 (L.map cuC))] _ _).den hp.1⟩
instance L_red (L : List Stk) (x y : Int) (w : Nat) : DenI Tryz.prog 8 [.c (.sl 7 (L.map stC)), .agg [.v (.int .i16 x), .v (.int .i16 y), .v (.int .u8 (w : Nat))]] ((∀ s ∈ L, okS s) ∧ smallI x ∧ smallI y ∧ w ≤ 255) (.bool true) := ⟨fun hp => by
 obtain ⟨hs, p2, p3, p4⟩ := hp
 have ht : medI 100 := (by unfold medI; omega)
 have hM := meds_of hs
 have hl := len12 (L := L)
 have i_qx : RzB (((x : Int) : Rat) / (((w : Int) + 1 : Int) : Rat)) 6 := ⟨rz_q' _ _ (by unfold smallI at *; omega) (by omega)⟩
 have i_qy : RzB (((y : Int) : Rat) / (((w : Int) + 1 : Int) : Rat)) 6 := ⟨rz_q' _ _ (by unfold smallI at *; omega) (by omega)⟩
 have hR := rads_of hs
 have hrl : (redL ((L.take 12).map ofS)).length ≤ 12 := Nat.le_trans redL_le hl
 have oR := okR_hgt (L := (redL ((L.take 12).map ofS))) i_qx.h i_qy.h (redL_med hM) (okR_int ht)
 have oL := okR_hgt (L := ((L.take 12).map ofS)) i_qx.h i_qy.h hM (okR_int ht)
 all_goals refine den_of (τ := tab) tab_ok mixed_ Tryz.func8 rfl (by kernel_rfl) (by kernel_rfl) (by kernel_rfl) ?_
 all_goals (repeat' ((try (conv => whnf)); first
  | refine call_0 ?_
  | refine call_i ?_ ?_
  | refine call_c ?_ (fun _ => ?_) (fun _ => ?_)
  | (with_reducible refine onB_t ?_)
  | (with_reducible refine onB_f ?_)
  | (with_reducible refine onB_d (fun _ => ?_) (fun _ => ?_))
  | (with_reducible refine onB_n (fun _ => ?_) (fun _ => ?_))
  | refine OnB.mk (fun _ => ?_) (fun _ => ?_)
  | refine obl_i ?_ ?_
  | refine Drw.mk (by kernel_rfl) ?_
  | refine mks_i ?_ ?_
  | refine slp_i ?_ ?_
  | (with_reducible refine elem_u ?_ ?_)
  | (with_reducible refine elem_0 ?_)
  | (with_reducible refine elem_1 ?_)
  | refine Ends.mk ?_))
 all_goals (try refine Pr.mk ?_)
 all_goals first
  | ((conv => whnf); refine Sw.Loop.ghost 8 100 46 7 ?_ rfl rfl rfl (by decide))
  | skip
 all_goals first
  | ((conv => whnf); refine Sw.Loop.inv (α := Nat) (fun k => [(3, .ptr 3 0), (5, .c (.sl 7 (((L.take 12).map ofS).map cuC))), (7, .c (.sl 7 ((redL ((L.take 12).map ofS)).map cuC))), (23, .c (.sl 7 ((redL ((L.take 12).map ofS)).map cuC))), (24, .int .i64 (((redL ((L.take 12).map ofS)).map cuC).length : Nat)), (25, .int .i64 (k : Nat)), (8, .gs 100 k)]) (fun k => [(3, .var [.v (.int .i16 x), .v (.int .i16 y), .v (.int .u8 (w : Nat))]), (100, .grow 46 7 (((redL ((L.take 12).map ofS)).take k).map cuC))]) (fun k => k ≤ (redL ((L.take 12).map ofS)).length ∧ True) (fun k => (redL ((L.take 12).map ofS)).length - k) 0 ?_ ?_ ?_ (fun k hk => ?_))
  | skip
 all_goals (repeat' ((try (conv => whnf)); first
  | refine call_0 ?_
  | refine call_i ?_ ?_
  | refine call_c ?_ (fun _ => ?_) (fun _ => ?_)
  | (with_reducible refine onB_t ?_)
  | (with_reducible refine onB_f ?_)
  | (with_reducible refine onB_d (fun _ => ?_) (fun _ => ?_))
  | (with_reducible refine onB_n (fun _ => ?_) (fun _ => ?_))
  | refine OnB.mk (fun _ => ?_) (fun _ => ?_)
  | refine obl_i ?_ ?_
  | refine Drw.mk (by kernel_rfl) ?_
  | refine mks_i ?_ ?_
  | refine slp_i ?_ ?_
  | (with_reducible refine elem_u ?_ ?_)
  | (with_reducible refine elem_0 ?_)
  | (with_reducible refine elem_1 ?_)
  | refine elem_map cu0 ?_ ?_
  | refine Ends.mk ?_))
 all_goals (try refine Pr.mk ?_)
 all_goals first | (show SubE _ _; repeat' (first | exact trivial | refine And.intro ?_ ?_)) | (show SubB _ _; repeat' (first | exact trivial | refine And.intro ?_ ?_)) | skip
 all_goals (try rfl)
 all_goals (try simp only [List.length_map, Int.toNat_natCast] at *)
 all_goals (try simp (disch := (unfold smallI at *; omega)) only [wi64, dm8] at *)
 all_goals (try simp only [sgnI_lt0, sgnI_zero, sgnI_le0, sgnI_gt0, sgnI_ge0, sgnI_eq1, cmpI_lt0, cmpI_gt0, cmpI_eq0, cmpI_le0, cmpI_ge0, cmpR_of, sgnR_of, sgnR_lt0, sgnR_eq0, sgnR_gt0, sgnR_le0, sgnR_ge0, sgnR_eq1, cmpR_lt0, cmpR_gt0, cmpR_eq0, cmpR_le0, cmpR_ge0] at *)
 all_goals first
  | ((conv => whnf); exact ⟨k + 1, ⟨⟨rfl, rfl, rfl, rfl, rfl, inc64 (by omega), gsE (by simp only [List.length_map, List.length_append, List.length_take, List.length_cons, List.length_nil]; omega), trivial⟩, ⟨rfl, growK (by omega), trivial⟩, ⟨by omega, trivial⟩, by show (redL ((L.take 12).map ofS)).length - (k + 1) < (redL ((L.take 12).map ofS)).length - k; omega⟩⟩)
  | rfl
  | contradiction
  | exact hs
  | exact hl
  | exact hrl
  | exact ⟨hR, hl⟩
  | exact ⟨redL_med hM, ht, i_qx.h, i_qy.h, hrl⟩
  | exact ⟨hM, ht, i_qx.h, i_qy.h, hl⟩
  | exact isP2 oR oL
  | exact bE (red_is oR (by decide))
  | exact ⟨Nat.zero_le _, trivial⟩
  | exact ⟨hrl, by omega⟩
  | (unfold smallI at *; omega)
  | (unfold medI at *; omega)
  | (simp only [List.length_map, List.length_append, List.length_take, List.length_cons, List.length_nil]; omega)
  | ((repeat' apply And.intro) <;> first | assumption | exact rzb (by omega) | exact szb (by omega) | (unfold medI at *; omega))
  | (refine bE ?_; simp; done)
  | (exfalso; simp at *; done)
  | (exfalso; simp_all; done)
  | skip⟩

end Go.Proofs.YtigbdpkpaleboaaGreat

namespace Go.Proofs.YtigbdpkpaleboaaGreat
open Go Go.RowKit Go.Sw Go.ChangeShapes Go.WideShapes Go.ChangeAt
set_option maxRecDepth 100000
theorem MaterialReduce_den : ∀ xs, FitAs [.slice (.cons (.cons (.int .i16) (.cons (.int .i16) (.cons (.int .i16) .nil))) (.cons (.cons (.int .i16) (.cons (.int .i16) (.cons (.int .i16) .nil))) (.cons (.int .u8) .nil))), .cons (.int .i16) (.cons (.int .i16) (.cons (.int .u8) .nil))] xs → Den Tryz.prog 8 xs (.bool true) := by
  rintro xs ⟨_, _, ⟨_, ge1, rfl⟩, ⟨_, _, ⟨_, ⟨_, _, ⟨n2, wn2, rfl⟩, ⟨_, _, ⟨n3, wn3, rfl⟩, ⟨_, _, ⟨n4, wn4, rfl⟩, rfl, rfl⟩, rfl⟩, rfl⟩, rfl⟩, rfl, rfl⟩, rfl⟩
  obtain ⟨e1, ze1, ye1, rfl⟩ := fit_stks ge1
  have wn2 := wfI16 wn2
  have wn3 := wfI16 wn3
  obtain ⟨mn4, rfl, hmn4⟩ := wfNat (by simp) wn4
  have hmn4 : mn4 < 256 := hmn4
  simp only [List.append_nil, List.nil_append, List.cons_append]
  exact DenI.den (P := Tryz.prog) (f := 8) (by unfold smallI; (repeat' apply And.intro) <;> first | trivial | assumption | omega)
set_option maxHeartbeats 800000 in
theorem MaterialReduce_lifted (os : Os) (started : os.Started) (H : Type) (enc : TypeId × Value → H) :
    ReturnsInHanded {} Tryz.checked os 8 .any (Rows.materialReduceSpec.pre6 enc Tryz.prog Tryz.f8 Rows.materialReduceRow.domain false) (Rows.materialReduceSpec.post enc Tryz.prog Tryz.f8 false true false false) := by
  refine returnsInHanded_of_change (C := Tryz.checked) Tryz.own started (by kernel_rfl) Tryz.func8
    (ChangeSpec.witness6 (enc := enc) (C := Tryz.checked) false ⟨#[], #[.slice none 0 0, .agg #[.int .i16 0, .int .i16 0, .int .u8 0]], []⟩ 12 (by kernel_rfl) (by kernel_rfl) (by kernel_rfl) (by kernel_rfl)) ?_
  intro W base args ds gs before hval0 hW _ _
  have hW' := hW
  obtain ⟨p, q, hA0, hV, rfl, _, _⟩ := hW
  have hA : DataW.TrodAll enc Tryz.prog W 0 (fun _ => true) true Tryz.f8.params.toList args.toList ds p := hA0
  obtain ⟨rfl, rfl⟩ := trodVars_none hV
  obtain ⟨d0, d1, rfl⟩ := len2 (show ds.length = 2 from trodAll_len hA)
  simp only [List.append_nil] at hW'
  have hlt : ∀ x ∈ p, x.block < W.heap.size := fun x hx => by simpa using hW'.lt x hx
  refine (law_run (Ts := [.slice (.cons (.cons (.int .i16) (.cons (.int .i16) (.cons (.int .i16) .nil))) (.cons (.cons (.int .i16) (.cons (.int .i16) (.cons (.int .i16) .nil))) (.cons (.int .u8) .nil))), .cons (.int .i16) (.cons (.int .i16) (.cons (.int .u8) .nil))]) (by kernel_rfl) MaterialReduce_den (fun j t v hj ha => hval0 j t v (by simpa using hj) (by simpa using ha)) hA).mono fun e W' he => ?_
  obtain ⟨_, rfl, rfl, hb⟩ := he
  refine ⟨_, rfl, _, _, _, [], _, [], hW', ?_, trodAll_below Tryz.laidOut hb (by kernel_rfl) hlt hA, rfl, hb.frame _, fun h => by cases h⟩
  exact trodAll_mk1 (shut_bool Tryz.underlying4 _)
theorem MaterialReduce_holds : Rows.MaterialReduceSaid :=
  OpenClaim.holds_of_wide 8 Tryz.f8 rfl rfl rfl rfl rfl rfl rfl ⟨rfl, rfl, rfl, rfl, rfl⟩ rfl rfl rfl rfl rfl (by kernel_rfl) Tryz.func8 (by kernel_rfl)
    (of_decide_eq_true (by kernel_rfl)) (by unfold Func.isWrapper; first | (rw [if_pos (by decide +kernel)]; kernel_rfl) | (rw [if_neg (by decide +kernel)]; exact ⟨rfl, rfl⟩))
    (fun os started H enc _ => MaterialReduce_lifted os started H enc)
#print axioms MaterialReduce_holds
end Go.Proofs.YtigbdpkpaleboaaGreat
