/-
  What the functions radical.plain, radical.copied, radical.Sub, radical.apart answer, each out of its text by the abstract run.
  What the functions radical.quick answer, each out of its text by the abstract run.
  What the functions radical.Sign$1, radical.Sign, radical.Cmp, radical.CmpRat answer, each out of its text by the abstract run.
  The cuts that no other one dominates reach as low as all of them.
  The loops over lists of cuts.
  What the functions material.Height, swarfref52.Height answer, each out of its text by the abstract run.
  What the functions swarflaw52.of answer, each out of its text by the abstract run.
  slices.Reverse over abstract values, at structs.
  slices.Grow over abstract values, at the nil slice.
  What the functions swarfref52.Cut] answer, each out of its text by the abstract run.
  Lists of strokes, as they come in.
  The loops that reduce lists of cuts.
  A cut that is divided at a point of its way reaches as low as its parts.
  A cut that is divided; lists of cuts in another order.
  Cuts in another order.
  Conditions: none.
-/
import Derived.Test.YtigbdpkpaleboaaGreatM12
import Derived.Shelf.SlicesQ.Reverse
import Derived.Lib.Builder
import Derived.Shelf.Spec.SlicesGrow
set_option linter.all false
namespace Go.Proofs.YtigbdpkpaleboaaGreat
open Go Go.RowKit Go.Sw
set_option linter.unusedVariables false
set_option maxRecDepth 100000
set_option maxHeartbeats 8000000
set_option synthInstance.maxSize 4000
set_option synthInstance.maxHeartbeats 400000
theorem off157_0 : fieldOff Tryz.prog 157 0 = some 0 := by kernel_rfl
theorem one4 : isOne Tryz.prog 4 = true := by kernel_rfl
theorem row139 : isRow Tryz.prog 139 2 = true := by kernel_rfl

theorem with_true {w : World} {X : List Nat} {g : Nat} {T : TypeId} {l h : Int} {q : Bool} (hX : ∀ m ∈ X, m < w.heap.size) (hg : w.heap[g]? = some (.cells #[.bool true] T (0, 0))) :
    Calls Tryz.prog 164 #[.pointer (some ⟨g, 0, none⟩), .agg #[.int .i64 l, .int .i64 h], .bool q] w (Ret fun u w' => RepR w' X u (.agg [.v (.int .i64 l), .v (.int .i64 h)]) ∧ w.grownBy w' (some g) ∧ ∃ us' : List Value, w'.heap[g]? = some (.cells us'.toArray T (0, 0)) ∧ RepL w' X us' [.v (.bool q)]) := by
 have hgw : g < w.heap.size := by
  rcases Nat.lt_or_ge g w.heap.size with k | k
  · exact k
  · rw [Array.getElem?_eq_none k] at hg; cases hg
 refine enter (N := 18) (fn := Tryz.f164) (vs := [.pointer (some ⟨g, 0, none⟩), .agg #[.int .i64 l, .int .i64 h], .bool q]) Tryz.func164 rfl rfl rfl ?_
 intro fa hF
 replace hF : Frm 18 fa [(0, .pointer (some ⟨g, 0, none⟩)), (1, .agg #[.int .i64 l, .int .i64 h]), (2, .bool q)] := hF
 have hS := St.refl w
 refine c_seq ?_
 refine c_reg ?_
 refine st rfl (op_box (X := X) hF hS rfl rfl rfl ?_)
 intro g1 w2 hg4 hS E3; refine gen_ ?_; clear hF fa; intro fa hF
 replace hS : St w w2 [(g1, 139, #[.int .i64 l, .int .i64 h])] := hS
 refine st rfl (op_alloc (X := (g1 :: X)) hF hS rfl (show zeroOf Tryz.prog 139 = some #[.int .i64 0, .int .i64 0] by kernel_rfl) ?_)
 intro g5 w6 hg8 hS E7; refine gen_ ?_; clear hF fa; intro fa hF
 replace hS : St w w6 [(g5, 139, #[.int .i64 0, .int .i64 0]), (g1, 139, #[.int .i64 l, .int .i64 h])] := hS
 have hg6 : w6.heap[g]? = some (.cells #[.bool true] T (0, 0)) := by rw [hS.below.block g hgw]; exact hg
 refine c_nil_then ?_
 refine c_seq ?_
 refine c_reg ?_
 refine st_val hF rfl rfl rfl (ex_move (hF.ev rfl)) ?_
 clear hF fa; intro fa hF
 refine st_val hF rfl rfl rfl (ex_move (hF.ev rfl)) ?_
 clear hF fa; intro fa hF
 refine st_val hF rfl rfl rfl (ex_nilc (hF.ev rfl)) ?_
 clear hF fa; intro fa hF
 refine st_val hF rfl rfl rfl (ex_field_addr off157_0 (hF.ev rfl)) ?_
 clear hF fa; intro fa hF
 refine st_val hF rfl rfl rfl (ex_load1b one4 (hF.ev rfl) hg6 rfl) ?_
 clear hF fa; intro fa hF
 refine st_val hF rfl rfl rfl (ex_move (hF.ev rfl)) ?_
 clear hF fa; intro fa hF
 refine stg_val hF rfl rfl rfl rfl (ex_move (hF.ev rfl)) ?_
 clear hF fa; intro fa hF
 refine st_val hF rfl rfl rfl (ex_pick (hF.ev rfl) (fun _ => hF.ev rfl) (v := undef) (fun h => by cases h) rfl) ?_
 clear hF fa; intro fa hF
 refine st_val hF rfl rfl rfl (ex_nilc (hF.ev rfl)) ?_
 clear hF fa; intro fa hF
 refine st_val hF rfl rfl rfl (ex_field_addr off157_0 (hF.ev rfl)) ?_
 clear hF fa; intro fa hF
 refine st rfl (op_storeg (vs := #[.bool q]) hF hg6 rfl rfl rfl (show (Tryz.prog.info? 4).map (fun i => i.size) = some 1 by kernel_rfl) rfl (Nat.le_of_ble_eq_true rfl) ?_)
 replace hS := hS.over (splice #[.bool true] 0 #[.bool q]) hgw
 have hg7 : (w6.setRow g (splice #[.bool true] 0 #[.bool q])).heap[g]? = some (.cells #[.bool q] T (0, 0)) := setRow_heap w6 g _ _ T _ hg6
 generalize w6.setRow g (splice #[.bool true] 0 #[.bool q]) = w7 at *
 refine c_nil_then ?_
 refine c_seq ?_
 refine c_reg ?_
 refine st_val hF rfl rfl rfl (ex_loadb row139 (hF.ev rfl) (hS.get 1 rfl) rfl) ?_
 clear hF fa; intro fa hF
 refine st rfl (op_store (X := (g5 :: (g1 :: X))) hF hS 0 rfl (by simp) rfl rfl rfl (show (Tryz.prog.info? 139).map (fun i => i.size) = some 2 by kernel_rfl) rfl (Nat.le_of_ble_eq_true rfl) ?_)
 intro w8 hS E9
 have hg8' : w8.heap[g]? = some (.cells #[.bool q] T (0, 0)) := by rw [hS.below.block g (by rw [setRow_sz]; exact hgw), setRow_heap w g _ _ T _ hg]; rfl
 replace hS : St (w.setRow g (splice #[.bool true] 0 #[.bool q])) w8 [(g5, 139, #[.int .i64 l, .int .i64 h]), (g1, 139, #[.int .i64 l, .int .i64 h])] := hS
 refine c_nil_then ?_
 refine c_ret ?_
 refine end1 hF rfl (res_cell hF rfl row139 (hS.get 0 rfl) rfl) ?_
 exact ⟨_, rfl, .d (.agg (.of2 rfl rfl)), hS.grown, [.bool q], hg8', .cons (.v _ rfl) (.nil _ _)⟩

theorem with_false {w : World} {X : List Nat} {g : Nat} {T : TypeId} {l h : Int} {q : Bool} (hX : ∀ m ∈ X, m < w.heap.size) (hg : w.heap[g]? = some (.cells #[.bool false] T (0, 0))) :
    Calls Tryz.prog 164 #[.pointer (some ⟨g, 0, none⟩), .agg #[.int .i64 l, .int .i64 h], .bool q] w (Ret fun u w' => RepR w' X u (.agg [.v (.int .i64 l), .v (.int .i64 h)]) ∧ w.grownBy w' (some g) ∧ ∃ us' : List Value, w'.heap[g]? = some (.cells us'.toArray T (0, 0)) ∧ RepL w' X us' [.v (.bool false)]) := by
 have hgw : g < w.heap.size := by
  rcases Nat.lt_or_ge g w.heap.size with k | k
  · exact k
  · rw [Array.getElem?_eq_none k] at hg; cases hg
 refine enter (N := 18) (fn := Tryz.f164) (vs := [.pointer (some ⟨g, 0, none⟩), .agg #[.int .i64 l, .int .i64 h], .bool q]) Tryz.func164 rfl rfl rfl ?_
 intro fa hF
 replace hF : Frm 18 fa [(0, .pointer (some ⟨g, 0, none⟩)), (1, .agg #[.int .i64 l, .int .i64 h]), (2, .bool q)] := hF
 have hS := St.refl w
 refine c_seq ?_
 refine c_reg ?_
 refine st rfl (op_box (X := X) hF hS rfl rfl rfl ?_)
 intro g1 w2 hg4 hS E3; refine gen_ ?_; clear hF fa; intro fa hF
 replace hS : St w w2 [(g1, 139, #[.int .i64 l, .int .i64 h])] := hS
 refine st rfl (op_alloc (X := (g1 :: X)) hF hS rfl (show zeroOf Tryz.prog 139 = some #[.int .i64 0, .int .i64 0] by kernel_rfl) ?_)
 intro g5 w6 hg8 hS E7; refine gen_ ?_; clear hF fa; intro fa hF
 replace hS : St w w6 [(g5, 139, #[.int .i64 0, .int .i64 0]), (g1, 139, #[.int .i64 l, .int .i64 h])] := hS
 have hg6 : w6.heap[g]? = some (.cells #[.bool false] T (0, 0)) := by rw [hS.below.block g hgw]; exact hg
 refine c_nil_then ?_
 refine c_seq ?_
 refine c_reg ?_
 refine st_val hF rfl rfl rfl (ex_move (hF.ev rfl)) ?_
 clear hF fa; intro fa hF
 refine st_val hF rfl rfl rfl (ex_move (hF.ev rfl)) ?_
 clear hF fa; intro fa hF
 refine st_val hF rfl rfl rfl (ex_nilc (hF.ev rfl)) ?_
 clear hF fa; intro fa hF
 refine st_val hF rfl rfl rfl (ex_field_addr off157_0 (hF.ev rfl)) ?_
 clear hF fa; intro fa hF
 refine st_val hF rfl rfl rfl (ex_load1b one4 (hF.ev rfl) hg6 rfl) ?_
 clear hF fa; intro fa hF
 refine st_val hF rfl rfl rfl (ex_move (hF.ev rfl)) ?_
 clear hF fa; intro fa hF
 refine st_skip hF rfl rfl rfl rfl rfl ?_
 clear hF fa; intro fa hF
 refine st_val hF rfl rfl rfl (ex_pick (hF.ev rfl) (u := undef) (fun h => by cases h) (fun _ => hF.ev rfl) rfl) ?_
 clear hF fa; intro fa hF
 refine st_val hF rfl rfl rfl (ex_nilc (hF.ev rfl)) ?_
 clear hF fa; intro fa hF
 refine st_val hF rfl rfl rfl (ex_field_addr off157_0 (hF.ev rfl)) ?_
 clear hF fa; intro fa hF
 refine st rfl (op_storeg (vs := #[.bool false]) hF hg6 rfl rfl rfl (show (Tryz.prog.info? 4).map (fun i => i.size) = some 1 by kernel_rfl) rfl (Nat.le_of_ble_eq_true rfl) ?_)
 replace hS := hS.over (splice #[.bool false] 0 #[.bool false]) hgw
 have hg7 : (w6.setRow g (splice #[.bool false] 0 #[.bool false])).heap[g]? = some (.cells #[.bool false] T (0, 0)) := setRow_heap w6 g _ _ T _ hg6
 generalize w6.setRow g (splice #[.bool false] 0 #[.bool false]) = w7 at *
 refine c_nil_then ?_
 refine c_seq ?_
 refine c_reg ?_
 refine st_val hF rfl rfl rfl (ex_loadb row139 (hF.ev rfl) (hS.get 1 rfl) rfl) ?_
 clear hF fa; intro fa hF
 refine st rfl (op_store (X := (g5 :: (g1 :: X))) hF hS 0 rfl (by simp) rfl rfl rfl (show (Tryz.prog.info? 139).map (fun i => i.size) = some 2 by kernel_rfl) rfl (Nat.le_of_ble_eq_true rfl) ?_)
 intro w8 hS E9
 have hg8' : w8.heap[g]? = some (.cells #[.bool false] T (0, 0)) := by rw [hS.below.block g (by rw [setRow_sz]; exact hgw), setRow_heap w g _ _ T _ hg]; rfl
 replace hS : St (w.setRow g (splice #[.bool false] 0 #[.bool false])) w8 [(g5, 139, #[.int .i64 l, .int .i64 h]), (g1, 139, #[.int .i64 l, .int .i64 h])] := hS
 refine c_nil_then ?_
 refine c_ret ?_
 refine end1 hF rfl (res_cell hF rfl row139 (hS.get 0 rfl) rfl) ?_
 exact ⟨_, rfl, .d (.agg (.of2 rfl rfl)), hS.grown, [.bool false], hg8', .cons (.v _ rfl) (.nil _ _)⟩

instance x_with (p q : Bool) (l h : Int) : DenI Tryz.prog 164 [.tup [.agg [.v (.bool p)]], .agg [.v (.int .i64 l), .v (.int .i64 h)], .bool q] True (.tup [.agg [.v (.bool (p && q))], .agg [.v (.int .i64 l), .v (.int .i64 h)]]) :=
 ⟨fun _ => ⟨by kernel_rfl, fun w X g T us vs hX hg hU hl hv => by
  match vs, hl with
  | [u, v], _ =>
   have e1 := (hv 0 u _ rfl rfl).agg_v2
   have e2 := (hv 1 v _ rfl rfl).v_eq
   have e3 := hU.v1
   subst e1 e2 e3
   cases p with
   | true => exact with_true hX hg
   | false => exact with_false hX hg⟩⟩

instance x_plain (a b c : Rat) : DenI Tryz.prog 103 [R a, R b, R c] (rz a ≤ 3300000 ∧ rz b ≤ 3300000 ∧ rz c ≤ 3300000) (.int .i64 (exI a b c)) := ⟨fun hp => by
 have i_a : RzB a 3300000 := ⟨hp.1⟩
 have i_b : RzB b 3300000 := ⟨hp.2.1⟩
 have i_c : RzB c 3300000 := ⟨hp.2.2⟩
 all_goals refine den_of (τ := tab) tab_ok mixed_ Tryz.func103 rfl (by kernel_rfl) (by kernel_rfl) (by kernel_rfl) ?_
 all_goals (repeat' ((try (conv => whnf)); first
  | refine call_0 ?_
  | refine call_i ?_ ?_
  | refine call_c ?_ (fun _ => ?_) (fun _ => ?_)
  | (with_reducible refine onB_t ?_)
  | (with_reducible refine onB_f ?_)
  | (with_reducible refine onB_d (fun _ => ?_) (fun _ => ?_))
  | (with_reducible refine onB_n (fun _ => ?_) (fun _ => ?_))
  | refine OnB.mk (fun _ => ?_) (fun _ => ?_)
  | refine obl_i ?_ ?_
  | refine Drw.mk (by kernel_rfl) ?_
  | refine mks_i ?_ ?_
  | refine slp_i ?_ ?_
  | (with_reducible refine elem_u ?_ ?_)
  | (with_reducible refine elem_0 ?_)
  | (with_reducible refine elem_1 ?_)
  | refine Ends.mk ?_))
 all_goals (try refine Pr.mk ?_)
 all_goals (try simp only [sgnI_lt0, sgnI_zero, sgnI_le0, sgnI_gt0, sgnI_ge0, sgnI_eq1, cmpI_lt0, cmpI_gt0, cmpI_eq0, cmpI_le0, cmpI_ge0, cmpR_of, sgnR_of, sgnR_lt0, sgnR_eq0, sgnR_gt0, sgnR_le0, sgnR_ge0, sgnR_eq1, cmpR_lt0, cmpR_gt0, cmpR_eq0, cmpR_le0, cmpR_ge0] at *)
 all_goals (try simp only [w_ss, w_sc, w_xs, w_xx] at *)
 all_goals first
  | contradiction
  | with_reducible exact pl_1 (by assumption)
  | with_reducible exact pl_2 (by assumption)
  | with_reducible exact pl_3 (by assumption) (by assumption) (by assumption)
  | with_reducible exact pl_4 (by assumption) (by assumption) (by assumption)
  | ((repeat' apply And.intro) <;> first | assumption | exact rzb (by omega) | exact szb (by omega) | exact Int.mul_ne_zero (den_ne _) (den_ne _))
  | skip⟩

instance x_copied (a : Rat) : DenI Tryz.prog 140 [R a] (rz a ≤ 4000000) (R a) := ⟨fun hp => by
 have i_a : RzB a 4000000 := ⟨hp⟩
 all_goals refine den_of (τ := tab) tab_ok mixed_ Tryz.func140 rfl (by kernel_rfl) (by kernel_rfl) (by kernel_rfl) ?_
 all_goals (repeat' ((try (conv => whnf)); first
  | refine call_0 ?_
  | refine call_i ?_ ?_
  | refine call_c ?_ (fun _ => ?_) (fun _ => ?_)
  | (with_reducible refine onB_t ?_)
  | (with_reducible refine onB_f ?_)
  | (with_reducible refine onB_d (fun _ => ?_) (fun _ => ?_))
  | (with_reducible refine onB_n (fun _ => ?_) (fun _ => ?_))
  | refine OnB.mk (fun _ => ?_) (fun _ => ?_)
  | refine obl_i ?_ ?_
  | refine Drw.mk (by kernel_rfl) ?_
  | refine mks_i ?_ ?_
  | refine slp_i ?_ ?_
  | (with_reducible refine elem_u ?_ ?_)
  | (with_reducible refine elem_0 ?_)
  | (with_reducible refine elem_1 ?_)
  | refine Ends.mk ?_))
 all_goals (try refine Pr.mk ?_)
 all_goals (try simp only [sgnI_lt0, sgnI_zero, sgnI_le0, sgnI_gt0, sgnI_ge0, sgnI_eq1, cmpI_lt0, cmpI_gt0, cmpI_eq0, cmpI_le0, cmpI_ge0, cmpR_of, sgnR_of, sgnR_lt0, sgnR_eq0, sgnR_gt0, sgnR_le0, sgnR_ge0, sgnR_eq1, cmpR_lt0, cmpR_gt0, cmpR_eq0, cmpR_le0, cmpR_ge0] at *)
 all_goals first
  | exact congrArg R (Rat.neg_neg a)
  | rfl
  | (simp only [redB, redC, mkA, mkB, mkC, cooC, ptC, *, true_or, or_true, if_true, if_false, or_self, and_self, and_true, true_and, and_false, false_and, not_true, not_false_iff, Bool.false_eq_true, decide_true, decide_false, Bool.or_true, Bool.true_or, Bool.or_false, Bool.false_or]; rfl)
  | ((repeat' apply And.intro) <;> first | assumption | exact rzb (by omega) | exact szb (by omega) | exact Int.mul_ne_zero (den_ne _) (den_ne _))
  | (exfalso; simp_all; done)
  | (exfalso; grind)
  | omega
  | ((repeat' apply And.intro) <;> first | assumption | exact rzb (by omega) | exact szb (by omega) | exact Int.mul_ne_zero (den_ne _) (den_ne _))
  | skip⟩

instance x_rsub (a b c d e f : Rat) : DenI Tryz.prog 105 [Q3 a b c, Q3 d e f] (rz a ≤ 20000 ∧ rz b ≤ 20000 ∧ rz c ≤ 20000 ∧ rz d ≤ 20000 ∧ rz e ≤ 20000 ∧ rz f ≤ 20000) (Q6 (a - d) b (-e) 0 c f) := ⟨fun hp => by
 have i_a : RzB a 20000 := ⟨hp.1⟩
 have i_b : RzB b 20000 := ⟨hp.2.1⟩
 have i_c : RzB c 20000 := ⟨hp.2.2.1⟩
 have i_d : RzB d 20000 := ⟨hp.2.2.2.1⟩
 have i_e : RzB e 20000 := ⟨hp.2.2.2.2.1⟩
 have i_f : RzB f 20000 := ⟨hp.2.2.2.2.2⟩
 all_goals refine den_of (τ := tab) tab_ok mixed_ Tryz.func105 rfl (by kernel_rfl) (by kernel_rfl) (by kernel_rfl) ?_
 all_goals (repeat' ((try (conv => whnf)); first
  | refine call_0 ?_
  | refine call_i ?_ ?_
  | refine call_c ?_ (fun _ => ?_) (fun _ => ?_)
  | (with_reducible refine onB_t ?_)
  | (with_reducible refine onB_f ?_)
  | (with_reducible refine onB_d (fun _ => ?_) (fun _ => ?_))
  | (with_reducible refine onB_n (fun _ => ?_) (fun _ => ?_))
  | refine OnB.mk (fun _ => ?_) (fun _ => ?_)
  | refine obl_i ?_ ?_
  | refine Drw.mk (by kernel_rfl) ?_
  | refine mks_i ?_ ?_
  | refine slp_i ?_ ?_
  | (with_reducible refine elem_u ?_ ?_)
  | (with_reducible refine elem_0 ?_)
  | (with_reducible refine elem_1 ?_)
  | refine Ends.mk ?_))
 all_goals (try refine Pr.mk ?_)
 all_goals (try simp only [sgnI_lt0, sgnI_zero, sgnI_le0, sgnI_gt0, sgnI_ge0, sgnI_eq1, cmpI_lt0, cmpI_gt0, cmpI_eq0, cmpI_le0, cmpI_ge0, cmpR_of, sgnR_of, sgnR_lt0, sgnR_eq0, sgnR_gt0, sgnR_le0, sgnR_ge0, sgnR_eq1, cmpR_lt0, cmpR_gt0, cmpR_eq0, cmpR_le0, cmpR_ge0] at *)
 all_goals first
  | rfl
  | (simp only [redB, redC, mkA, mkB, mkC, cooC, ptC, *, true_or, or_true, if_true, if_false, or_self, and_self, and_true, true_and, and_false, false_and, not_true, not_false_iff, Bool.false_eq_true, decide_true, decide_false, Bool.or_true, Bool.true_or, Bool.or_false, Bool.false_or]; rfl)
  | ((repeat' apply And.intro) <;> first | assumption | exact rzb (by omega) | exact szb (by omega) | exact Int.mul_ne_zero (den_ne _) (den_ne _))
  | (exfalso; simp_all; done)
  | (exfalso; grind)
  | omega
  | ((repeat' apply And.intro) <;> first | assumption | exact rzb (by omega) | exact szb (by omega) | exact Int.mul_ne_zero (den_ne _) (den_ne _))
  | skip⟩

instance x_apart (a b c d e f : Rat) : DenI Tryz.prog 102 [Q3 a b c, Q3 d e f] (rz a ≤ 20000 ∧ rz b ≤ 20000 ∧ rz c ≤ 20000 ∧ rz d ≤ 20000 ∧ rz e ≤ 20000 ∧ rz f ≤ 20000) (.tup [.int .i64 (apartI (rootI a b c) (rootI d e f)).1, .bool (apartI (rootI a b c) (rootI d e f)).2]) := ⟨fun hp => by
 have i_a : RzB a 20000 := ⟨hp.1⟩
 have i_b : RzB b 20000 := ⟨hp.2.1⟩
 have i_c : RzB c 20000 := ⟨hp.2.2.1⟩
 have i_d : RzB d 20000 := ⟨hp.2.2.2.1⟩
 have i_e : RzB e 20000 := ⟨hp.2.2.2.2.1⟩
 have i_f : RzB f 20000 := ⟨hp.2.2.2.2.2⟩
 all_goals refine den_of (τ := tab) tab_ok mixed_ Tryz.func102 rfl (by kernel_rfl) (by kernel_rfl) (by kernel_rfl) ?_
 all_goals (repeat' ((try (conv => whnf)); first
  | refine call_0 ?_
  | refine call_i ?_ ?_
  | refine call_c ?_ (fun _ => ?_) (fun _ => ?_)
  | (with_reducible refine onB_t ?_)
  | (with_reducible refine onB_f ?_)
  | (with_reducible refine onB_d (fun _ => ?_) (fun _ => ?_))
  | (with_reducible refine onB_n (fun _ => ?_) (fun _ => ?_))
  | refine OnB.mk (fun _ => ?_) (fun _ => ?_)
  | refine obl_i ?_ ?_
  | refine Drw.mk (by kernel_rfl) ?_
  | refine mks_i ?_ ?_
  | refine slp_i ?_ ?_
  | (with_reducible refine elem_u ?_ ?_)
  | (with_reducible refine elem_0 ?_)
  | (with_reducible refine elem_1 ?_)
  | refine Ends.mk ?_))
 all_goals (try refine Pr.mk ?_)
 all_goals (try simp only [sgnI_lt0, sgnI_zero, sgnI_le0, sgnI_gt0, sgnI_ge0, sgnI_eq1, cmpI_lt0, cmpI_gt0, cmpI_eq0, cmpI_le0, cmpI_ge0, cmpR_of, sgnR_of, sgnR_lt0, sgnR_eq0, sgnR_gt0, sgnR_le0, sgnR_ge0, sgnR_eq1, cmpR_lt0, cmpR_gt0, cmpR_eq0, cmpR_le0, cmpR_ge0] at *)
 all_goals first
  | (refine ap_n1 ?_; simp_all; done)
  | (refine ap_n2 ?_; simp_all; done)
  | (refine ap_lt ?_ ?_ ?_ <;> first | assumption | (simp_all; done))
  | (refine ap_gt ?_ ?_ ?_ ?_ <;> first | assumption | (simp_all; done))
  | (refine ap_no ?_ ?_ ?_ ?_ <;> first | assumption | (simp_all; done))
  | ((repeat' apply And.intro) <;> first | assumption | exact rzb (by omega) | exact szb (by omega) | exact Int.mul_ne_zero (den_ne _) (den_ne _))
  | skip⟩

end Go.Proofs.YtigbdpkpaleboaaGreat

namespace Go.Proofs.YtigbdpkpaleboaaGreat
open Go Go.RowKit Go.Sw
set_option linter.unusedVariables false
set_option maxRecDepth 100000
set_option maxHeartbeats 8000000
set_option synthInstance.maxSize 4000
set_option synthInstance.maxHeartbeats 400000
instance x_quick (a b c d m n : Rat) : DenI Tryz.prog 138 [Q6 a b c d m n] (rz a ≤ 80010 ∧ rz b ≤ 80010 ∧ rz c ≤ 80010 ∧ rz d ≤ 80010 ∧ rz m ≤ 80010 ∧ rz n ≤ 80010) (.tup [.int .i64 (quickA a b c d m n).1, .bool (quickA a b c d m n).2]) := ⟨fun hp => by
 have z_a := ivB_from a
 have z_b := ivB_from b
 have z_c := ivB_from c
 have z_d := ivB_from d
 have z_m := ivB_from m
 have z_n := ivB_from n
 have z1 := ivB_sqrt z_m
 have z2 := ivB_sqrt z_n
 have z3 := ivB_mul (gF b) (gS m)
 have z4 := ivB_mul (gF c) (gS n)
 have z5 := ivB_mul (gS m) (gS n)
 have z6 := ivB_mul (gF d) (gK m n)
 have z7 := ivB_add z_a z3
 have z8 := ivB_add z4 z6
 have z9 := ivB_add z7 z8
 have i_a : RzB a 80010 := ⟨hp.1⟩
 have i_b : RzB b 80010 := ⟨hp.2.1⟩
 have i_c : RzB c 80010 := ⟨hp.2.2.1⟩
 have i_d : RzB d 80010 := ⟨hp.2.2.2.1⟩
 have i_m : RzB m 80010 := ⟨hp.2.2.2.2.1⟩
 have i_n : RzB n 80010 := ⟨hp.2.2.2.2.2⟩
 all_goals refine den_of (τ := tab) tab_ok mixed_ Tryz.func138 rfl (by kernel_rfl) (by kernel_rfl) (by kernel_rfl) ?_
 all_goals (repeat' ((try (conv => whnf)); first
  | refine call_0 ?_
  | refine call_i ?_ ?_
  | refine call_c ?_ (fun _ => ?_) (fun _ => ?_)
  | (with_reducible refine onB_t ?_)
  | (with_reducible refine onB_f ?_)
  | (with_reducible refine onB_d (fun _ => ?_) (fun _ => ?_))
  | (with_reducible refine onB_n (fun _ => ?_) (fun _ => ?_))
  | refine OnB.mk (fun _ => ?_) (fun _ => ?_)
  | refine obl_i ?_ ?_
  | refine Drw.mk (by kernel_rfl) ?_
  | refine mks_i ?_ ?_
  | refine slp_i ?_ ?_
  | (with_reducible refine elem_u ?_ ?_)
  | (with_reducible refine elem_0 ?_)
  | (with_reducible refine elem_1 ?_)
  | refine Ends.mk ?_))
 all_goals (try refine Pr.mk ?_)
 all_goals (try simp only [sgnI_lt0, sgnI_zero, sgnI_le0, sgnI_gt0, sgnI_ge0, sgnI_eq1, cmpI_lt0, cmpI_gt0, cmpI_eq0, cmpI_le0, cmpI_ge0, cmpR_of, sgnR_of, sgnR_lt0, sgnR_eq0, sgnR_gt0, sgnR_le0, sgnR_ge0, sgnR_eq1, cmpR_lt0, cmpR_gt0, cmpR_eq0, cmpR_le0, cmpR_ge0] at *)
 all_goals (try simp only [Prod.eta, Bool.true_and] at *)
 all_goals first
  | exact iv1 z_m
  | exact iv1 z_n
  | exact iv2 z_b z1
  | exact iv2 z_c z2
  | exact iv2 z1 z2
  | exact iv2 z_d z5
  | exact iv2 z_a z3
  | exact iv2 z4 z6
  | exact iv2 z7 z8
  | (refine qk_n (fun k => ?_); obtain ⟨k1, k2, k3, k4, k5, k6, k7, k8, k9, k10, k11, k12, k13, k14, k15⟩ := k; simp_all; done)
  | (rename_i h; simp only [Bool.not_eq_false', Bool.and_eq_true] at h; obtain ⟨⟨⟨⟨⟨⟨⟨⟨⟨⟨⟨⟨⟨⟨h1, h2⟩, h3⟩, h4⟩, h5⟩, h6⟩, h7⟩, h8⟩, h9⟩, h10⟩, h11⟩, h12⟩, h13⟩, h14⟩, h15⟩ := h; rw [quickA_y ⟨h1, h2, h3, h4, h5, h6, h7, h8, h9, h10, h11, h12, h13, h14, h15⟩]; first | done | rfl)
  | ((repeat' apply And.intro) <;> first | assumption | exact rzb (by omega) | exact szb (by omega) | exact Int.mul_ne_zero (den_ne _) (den_ne _))
  | skip⟩

end Go.Proofs.YtigbdpkpaleboaaGreat

namespace Go.Proofs.YtigbdpkpaleboaaGreat
open Go Go.RowKit Go.Sw
set_option linter.unusedVariables false
set_option maxRecDepth 100000
set_option maxHeartbeats 8000000
set_option synthInstance.maxSize 4000
set_option synthInstance.maxHeartbeats 400000
instance x_sadd (a b : Rat) : DenI Tryz.prog 139 [R a, R b] (rz a ≤ 4000000 ∧ rz b ≤ 4000000) (R (a + b)) := ⟨fun hp => by
 have i_a : RzB a 4000000 := ⟨hp.1⟩
 have i_b : RzB b 4000000 := ⟨hp.2⟩
 all_goals refine den_of (τ := tab) tab_ok mixed_ Tryz.func139 rfl (by kernel_rfl) (by kernel_rfl) (by kernel_rfl) ?_
 all_goals (repeat' ((try (conv => whnf)); first
  | refine call_0 ?_
  | refine call_i ?_ ?_
  | refine call_c ?_ (fun _ => ?_) (fun _ => ?_)
  | (with_reducible refine onB_t ?_)
  | (with_reducible refine onB_f ?_)
  | (with_reducible refine onB_d (fun _ => ?_) (fun _ => ?_))
  | (with_reducible refine onB_n (fun _ => ?_) (fun _ => ?_))
  | refine OnB.mk (fun _ => ?_) (fun _ => ?_)
  | refine obl_i ?_ ?_
  | refine Drw.mk (by kernel_rfl) ?_
  | refine mks_i ?_ ?_
  | refine slp_i ?_ ?_
  | (with_reducible refine elem_u ?_ ?_)
  | (with_reducible refine elem_0 ?_)
  | (with_reducible refine elem_1 ?_)
  | refine Ends.mk ?_))
 all_goals (try refine Pr.mk ?_)
 all_goals (try simp only [sgnI_lt0, sgnI_zero, sgnI_le0, sgnI_gt0, sgnI_ge0, sgnI_eq1, cmpI_lt0, cmpI_gt0, cmpI_eq0, cmpI_le0, cmpI_ge0, cmpR_of, sgnR_of, sgnR_lt0, sgnR_eq0, sgnR_gt0, sgnR_le0, sgnR_ge0, sgnR_eq1, cmpR_lt0, cmpR_gt0, cmpR_eq0, cmpR_le0, cmpR_ge0] at *)
 all_goals first
  | rfl
  | (simp only [redB, redC, mkA, mkB, mkC, cooC, ptC, *, true_or, or_true, if_true, if_false, or_self, and_self, and_true, true_and, and_false, false_and, not_true, not_false_iff, Bool.false_eq_true, decide_true, decide_false, Bool.or_true, Bool.true_or, Bool.or_false, Bool.false_or]; rfl)
  | ((repeat' apply And.intro) <;> first | assumption | exact rzb (by omega) | exact szb (by omega) | exact Int.mul_ne_zero (den_ne _) (den_ne _))
  | (exfalso; simp_all; done)
  | (exfalso; grind)
  | omega
  | ((repeat' apply And.intro) <;> first | assumption | exact rzb (by omega) | exact szb (by omega) | exact Int.mul_ne_zero (den_ne _) (den_ne _))
  | skip⟩

instance x_rsign (a : Rat) (b c d m n : Rat) : DenI Tryz.prog 104 [Q6 a b c d m n] (rz b ≤ 20010 ∧ rz c ≤ 20010 ∧ rz d ≤ 20010 ∧ rz m ≤ 20010 ∧ rz n ≤ 20010 ∧ rz a ≤ 80010 ∧ 0 ≤ m ∧ 0 ≤ n) (.int .i64 (sg4 a b c d m n)) := ⟨fun hp => by
 have i_b : RzB b 20010 := ⟨hp.1⟩
 have i_c : RzB c 20010 := ⟨hp.2.1⟩
 have i_d : RzB d 20010 := ⟨hp.2.2.1⟩
 have i_m : RzB m 20010 := ⟨hp.2.2.2.1⟩
 have i_n : RzB n 20010 := ⟨hp.2.2.2.2.1⟩
 have hpre := hp.2.2.2.2.2
 have i_a : RzB a 80010 := ⟨hpre.1⟩
 obtain ⟨_, h_m, h_n⟩ := hpre
 all_goals refine den_of (τ := tab) tab_ok mixed_ Tryz.func104 rfl (by kernel_rfl) (by kernel_rfl) (by kernel_rfl) ?_
 all_goals (repeat' ((try (conv => whnf)); first
  | refine call_0 ?_
  | refine call_i ?_ ?_
  | refine call_c ?_ (fun _ => ?_) (fun _ => ?_)
  | (with_reducible refine onB_t ?_)
  | (with_reducible refine onB_f ?_)
  | (with_reducible refine onB_d (fun _ => ?_) (fun _ => ?_))
  | (with_reducible refine onB_n (fun _ => ?_) (fun _ => ?_))
  | refine OnB.mk (fun _ => ?_) (fun _ => ?_)
  | refine obl_i ?_ ?_
  | refine Drw.mk (by kernel_rfl) ?_
  | refine mks_i ?_ ?_
  | refine slp_i ?_ ?_
  | (with_reducible refine elem_u ?_ ?_)
  | (with_reducible refine elem_0 ?_)
  | (with_reducible refine elem_1 ?_)
  | refine Ends.mk ?_))
 all_goals (try refine Pr.mk ?_)
 all_goals (try simp only [sgnI_lt0, sgnI_zero, sgnI_le0, sgnI_gt0, sgnI_ge0, sgnI_eq1, cmpI_lt0, cmpI_gt0, cmpI_eq0, cmpI_le0, cmpI_ge0, cmpR_of, sgnR_of, sgnR_lt0, sgnR_eq0, sgnR_gt0, sgnR_le0, sgnR_ge0, sgnR_eq1, cmpR_lt0, cmpR_gt0, cmpR_eq0, cmpR_le0, cmpR_ge0] at *)
 all_goals (try simp only [w_ss, w_sc, w_xs, w_xx] at *)
 all_goals first
  | contradiction
  | exact rsg_1 h_m h_n (by assumption)
  | with_reducible exact rs_1 (by assumption)
  | with_reducible exact rs_2 (by assumption)
  | with_reducible exact rs_3 (by assumption) (by assumption) (by assumption)
  | with_reducible exact rs_4 (by assumption) (by assumption) (by assumption)
  | (exfalso; grind)
  | ((repeat' apply And.intro) <;> first | assumption | exact rzb (by omega) | exact szb (by omega) | exact Int.mul_ne_zero (den_ne _) (den_ne _))
  | skip⟩

instance x_rcmp (a b c d e f : Rat) : DenI Tryz.prog 66 [Q3 a b c, Q3 d e f] (rz a ≤ 20000 ∧ rz b ≤ 20000 ∧ rz c ≤ 20000 ∧ rz d ≤ 20000 ∧ rz e ≤ 20000 ∧ rz f ≤ 20000 ∧ 0 ≤ c ∧ 0 ≤ f) (.int .i64 (cmp4 a b c d e f)) := ⟨fun hp => by
 have i_a : RzB a 20000 := ⟨hp.1⟩
 have i_b : RzB b 20000 := ⟨hp.2.1⟩
 have i_c : RzB c 20000 := ⟨hp.2.2.1⟩
 have i_d : RzB d 20000 := ⟨hp.2.2.2.1⟩
 have i_e : RzB e 20000 := ⟨hp.2.2.2.2.1⟩
 have i_f : RzB f 20000 := ⟨hp.2.2.2.2.2.1⟩
 have hpre := hp.2.2.2.2.2.2
 all_goals refine den_of (τ := tab) tab_ok mixed_ Tryz.func66 rfl (by kernel_rfl) (by kernel_rfl) (by kernel_rfl) ?_
 all_goals (repeat' ((try (conv => whnf)); first
  | refine call_0 ?_
  | refine call_i ?_ ?_
  | refine call_c ?_ (fun _ => ?_) (fun _ => ?_)
  | (with_reducible refine onB_t ?_)
  | (with_reducible refine onB_f ?_)
  | (with_reducible refine onB_d (fun _ => ?_) (fun _ => ?_))
  | (with_reducible refine onB_n (fun _ => ?_) (fun _ => ?_))
  | refine OnB.mk (fun _ => ?_) (fun _ => ?_)
  | refine obl_i ?_ ?_
  | refine Drw.mk (by kernel_rfl) ?_
  | refine mks_i ?_ ?_
  | refine slp_i ?_ ?_
  | (with_reducible refine elem_u ?_ ?_)
  | (with_reducible refine elem_0 ?_)
  | (with_reducible refine elem_1 ?_)
  | refine Ends.mk ?_))
 all_goals (try refine Pr.mk ?_)
 all_goals (try simp only [sgnI_lt0, sgnI_zero, sgnI_le0, sgnI_gt0, sgnI_ge0, sgnI_eq1, cmpI_lt0, cmpI_gt0, cmpI_eq0, cmpI_le0, cmpI_ge0, cmpR_of, sgnR_of, sgnR_lt0, sgnR_eq0, sgnR_gt0, sgnR_le0, sgnR_ge0, sgnR_eq1, cmpR_lt0, cmpR_gt0, cmpR_eq0, cmpR_le0, cmpR_ge0] at *)
 all_goals first
  | with_reducible exact cp_1 hpre.1 hpre.2 (by assumption) (by assumption)
  | with_reducible exact cp_2 hpre.1 hpre.2 (by assumption)
  | with_reducible exact cp_3 hpre.1 (by assumption)
  | rfl
  | exact ⟨rzb (by omega), rzb (by omega), rzb (by omega), rzb (by omega), rzb (by omega), rzb (by omega), hpre⟩
  | ((repeat' apply And.intro) <;> first | assumption | exact rzb (by omega) | exact szb (by omega) | exact Int.mul_ne_zero (den_ne _) (den_ne _))
  | skip⟩

instance x_rcmpr (a b c d : Rat) : DenI Tryz.prog 71 [Q3 a b c, R d] (rz a ≤ 20000 ∧ rz b ≤ 20000 ∧ rz c ≤ 20000 ∧ rz d ≤ 20000 ∧ 0 ≤ c) (.int .i64 (exI (a - d) b c)) := ⟨fun hp => by
 have i_a : RzB a 20000 := ⟨hp.1⟩
 have i_b : RzB b 20000 := ⟨hp.2.1⟩
 have i_c : RzB c 20000 := ⟨hp.2.2.1⟩
 have i_d : RzB d 20000 := ⟨hp.2.2.2.1⟩
 have hpre := hp.2.2.2.2
 all_goals refine den_of (τ := tab) tab_ok mixed_ Tryz.func71 rfl (by kernel_rfl) (by kernel_rfl) (by kernel_rfl) ?_
 all_goals (repeat' ((try (conv => whnf)); first
  | refine call_0 ?_
  | refine call_i ?_ ?_
  | refine call_c ?_ (fun _ => ?_) (fun _ => ?_)
  | (with_reducible refine onB_t ?_)
  | (with_reducible refine onB_f ?_)
  | (with_reducible refine onB_d (fun _ => ?_) (fun _ => ?_))
  | (with_reducible refine onB_n (fun _ => ?_) (fun _ => ?_))
  | refine OnB.mk (fun _ => ?_) (fun _ => ?_)
  | refine obl_i ?_ ?_
  | refine Drw.mk (by kernel_rfl) ?_
  | refine mks_i ?_ ?_
  | refine slp_i ?_ ?_
  | (with_reducible refine elem_u ?_ ?_)
  | (with_reducible refine elem_0 ?_)
  | (with_reducible refine elem_1 ?_)
  | refine Ends.mk ?_))
 all_goals (try refine Pr.mk ?_)
 all_goals (try simp only [sgnI_lt0, sgnI_zero, sgnI_le0, sgnI_gt0, sgnI_ge0, sgnI_eq1, cmpI_lt0, cmpI_gt0, cmpI_eq0, cmpI_le0, cmpI_ge0, cmpR_of, sgnR_of, sgnR_lt0, sgnR_eq0, sgnR_gt0, sgnR_le0, sgnR_ge0, sgnR_eq1, cmpR_lt0, cmpR_gt0, cmpR_eq0, cmpR_le0, cmpR_ge0] at *)
 all_goals first
  | exact iE (cmp4_r hpre)
  | exact ⟨rzb (by omega), rzb (by omega), rzb (by omega), rzb (by omega), Nat.le_trans rz_0 (by omega), Nat.le_trans rz_0 (by omega), hpre, by decide⟩
  | ((repeat' apply And.intro) <;> first | assumption | exact rzb (by omega) | exact szb (by omega) | exact Int.mul_ne_zero (den_ne _) (den_ne _))
  | skip⟩

end Go.Proofs.YtigbdpkpaleboaaGreat

namespace Go.Sw
open Go
set_option linter.unusedVariables false
/-- The cut i falls by the cut k. -/
def badI (L : List Cut7) (i k : Nat) : Prop := dm (L.getD i cu0) (L.getD k cu0) ∧ (k < i ∨ i < k ∧ ¬dm (L.getD k cu0) (L.getD i cu0))
instance {L : List Cut7} {i k : Nat} : Decidable (badI L i k) := by unfold badI; infer_instance
end Go.Sw

namespace Go.Sw
open Go
set_option linter.unusedVariables false
@[reducible] def q3c (o : Rt) : List Cell := [zs o.a.num, zl o.a.num, zs o.a.den, zl o.a.den, zs o.b.num, zl o.b.num, zs o.b.den, zl o.b.den, zs o.c.num, zl o.c.num, zs o.c.den, zl o.c.den]
theorem medC_get {L : List Cut7} (h : ∀ c ∈ L, medC c) (i : Nat) : medC (L.getD i cu0) := get_all (by unfold medC medI cu0; decide) h i
section
variable {x y : Rat} {L : List Cut7} {o : Rt} {k : Nat}
theorem hgt_at (hk : k < L.length) : hgt x y (L.take (k + 1)) o = hStep x y (hgt x y (L.take k) o) (L.getD k cu0) := by
  rw [take_snoc cu0 hk, hgt_snoc]
theorem hq_y (hk : k < L.length) (h1 : swo (L.getD k cu0) x y) (h2 : cmpQ (swr (L.getD k cu0) x y) (hgt x y (L.take k) o) < 0) : some (Bk.var (q3c (swr (L.getD k cu0) x y))) = some (Bk.var (q3c (hgt x y (L.take (k + 1)) o))) := by
  rw [hgt_at hk, hStep_y h1 h2]
theorem hq_n (hk : k < L.length) (h1 : ¬swo (L.getD k cu0) x y) : some (Bk.var (q3c (hgt x y (L.take k) o))) = some (Bk.var (q3c (hgt x y (L.take (k + 1)) o))) := by
  rw [hgt_at hk, hStep_n h1]
theorem hq_k (hk : k < L.length) (h2 : ¬cmpQ (swr (L.getD k cu0) x y) (hgt x y (L.take k) o) < 0) : some (Bk.var (q3c (hgt x y (L.take k) o))) = some (Bk.var (q3c (hgt x y (L.take (k + 1)) o))) := by
  rw [hgt_at hk, hStep_k h2]
theorem hq_end (h1 : k ≤ L.length) (h2 : ¬k < L.length) : packA [AV.agg (q3c (hgt x y (L.take k) o))] = AV.agg (q3c (hgt x y L o)) := by
  have : k = L.length := by omega
  subst this
  rw [List.take_length]; rfl
theorem okR_take {top : Int} (hx : rz x ≤ 6) (hy : rz y ≤ 6) (h : ∀ c ∈ L, medC c) (ht : medI top) (k : Nat) : OkR (hgt x y (L.take k) ⟨(top : Rat), 0, 0⟩) :=
  okR_hgt hx hy (fun c hc => h c (List.mem_of_mem_take hc)) (okR_int ht)
theorem OkR.r20 {o : Rt} (h : OkR o) : rz o.a ≤ 20000 ∧ rz o.b ≤ 20000 ∧ rz o.c ≤ 20000 := by have := h.a; have := h.b; have := h.c; omega
theorem med_of {s : Stk} (h : okS s) : medC (ofS s) := by
  obtain ⟨h1, h2, h3, h4, h5, h6, h7⟩ := h
  unfold ofS medC medI
  unfold smallI at *
  simp only
  omega
theorem meds_of {L : List Stk} (h : ∀ s ∈ L, okS s) : ∀ c ∈ (L.take 12).map ofS, medC c := fun c hc => by
  obtain ⟨s, hs, rfl⟩ := List.mem_map.1 hc
  exact med_of (h s (List.mem_of_mem_take hs))
theorem len12 {L : List Stk} : ((L.take 12).map ofS).length ≤ 12 := by rw [List.length_map, List.length_take]; omega
theorem growK {T : TypeId} {L : List Cut7} {k : Nat} (h : k < L.length) : some (Bk.grow T 7 ((L.take k).map cuC ++ [cuC (L.getD k cu0)])) = some (Bk.grow T 7 ((L.take (k + 1)).map cuC)) := by
  rw [take_snoc cu0 h, List.map_append]; rfl
theorem ofK_end {L : List Cut7} {k : Nat} (h1 : k ≤ L.length) (h2 : ¬k < L.length) : packA [AV.c (Cell.sl 7 ((L.take k).map cuC))] = AV.c (Cell.sl 7 (L.map cuC)) := by
  have : k = L.length := by omega
  subst this
  rw [List.take_length]; rfl
end
end Go.Sw

namespace Go.Proofs.YtigbdpkpaleboaaGreat
open Go Go.RowKit Go.Sw
set_option linter.unusedVariables false
set_option maxRecDepth 100000
set_option maxHeartbeats 8000000
set_option synthInstance.maxSize 4000
set_option synthInstance.maxHeartbeats 400000
instance h_height (L : List Cut7) (top : Int) (x y : Rat) : DenI Tryz.prog 19 [.c (.sl 7 (L.map cuC)), .int .i64 top, Q2 x y] ((∀ c ∈ L, medC c) ∧ medI top ∧ rz x ≤ 6 ∧ rz y ≤ 6 ∧ L.length ≤ 12) (Q3 (hgt x y L ⟨(top : Rat), 0, 0⟩).a (hgt x y L ⟨(top : Rat), 0, 0⟩).b (hgt x y L ⟨(top : Rat), 0, 0⟩).c) := ⟨fun hp => by
 obtain ⟨hL, ht, hx, hy, hl⟩ := hp
 have i_x : RzB x 6 := ⟨hx⟩
 have i_y : RzB y 6 := ⟨hy⟩
 have i_t : RzB (top : Rat) 4 := ⟨rz_med ht⟩
 have h64 : -9223372036854775808 ≤ top ∧ top ≤ 9223372036854775807 := (by unfold medI at ht; omega)
 all_goals refine den_of (τ := tab) tab_ok mixed_ Tryz.func19 rfl (by kernel_rfl) (by kernel_rfl) (by kernel_rfl) ?_
 all_goals (repeat' ((try (conv => whnf)); first
  | refine call_0 ?_
  | refine call_i ?_ ?_
  | refine call_c ?_ (fun _ => ?_) (fun _ => ?_)
  | (with_reducible refine onB_t ?_)
  | (with_reducible refine onB_f ?_)
  | (with_reducible refine onB_d (fun _ => ?_) (fun _ => ?_))
  | (with_reducible refine onB_n (fun _ => ?_) (fun _ => ?_))
  | refine OnB.mk (fun _ => ?_) (fun _ => ?_)
  | refine obl_i ?_ ?_
  | refine Drw.mk (by kernel_rfl) ?_
  | refine mks_i ?_ ?_
  | refine slp_i ?_ ?_
  | (with_reducible refine elem_u ?_ ?_)
  | (with_reducible refine elem_0 ?_)
  | (with_reducible refine elem_1 ?_)
  | refine Ends.mk ?_))
 all_goals (try refine Pr.mk ?_)
 all_goals first
  | ((conv => whnf); refine Sw.Loop.inv (α := Nat) (fun k => [(5, .ptr 5 0), (6, .ptr 6 0), (7, .ptr 7 0), (15, .c (.sl 7 (L.map cuC))), (16, .int .i64 ((L.map cuC).length : Nat)), (17, .int .i64 (k : Nat))]) (fun k => [(5, .var [zs x.num, zl x.num, zs x.den, zl x.den, zs y.num, zl y.num, zs y.den, zl y.den]), (6, .var [.v (.bool false), .sl 1 [], .v (.bool false), .sl 1 [], .v (.bool false), .sl 1 [], .v (.bool false), .sl 1 [], .v (.bool false), .sl 1 [], .v (.bool false), .sl 1 []]), (7, .var [zs (hgt x y (L.take k) ⟨(top : Rat), 0, 0⟩).a.num, zl (hgt x y (L.take k) ⟨(top : Rat), 0, 0⟩).a.num, zs (hgt x y (L.take k) ⟨(top : Rat), 0, 0⟩).a.den, zl (hgt x y (L.take k) ⟨(top : Rat), 0, 0⟩).a.den, zs (hgt x y (L.take k) ⟨(top : Rat), 0, 0⟩).b.num, zl (hgt x y (L.take k) ⟨(top : Rat), 0, 0⟩).b.num, zs (hgt x y (L.take k) ⟨(top : Rat), 0, 0⟩).b.den, zl (hgt x y (L.take k) ⟨(top : Rat), 0, 0⟩).b.den, zs (hgt x y (L.take k) ⟨(top : Rat), 0, 0⟩).c.num, zl (hgt x y (L.take k) ⟨(top : Rat), 0, 0⟩).c.num, zs (hgt x y (L.take k) ⟨(top : Rat), 0, 0⟩).c.den, zl (hgt x y (L.take k) ⟨(top : Rat), 0, 0⟩).c.den])]) (fun k => k ≤ L.length ∧ True) (fun k => L.length - k) 0 ?_ ?_ ?_ (fun k hk => ?_))
  | skip
 all_goals (repeat' ((try (conv => whnf)); first
  | refine call_0 ?_
  | refine call_i ?_ ?_
  | refine call_c ?_ (fun _ => ?_) (fun _ => ?_)
  | (with_reducible refine onB_t ?_)
  | (with_reducible refine onB_f ?_)
  | (with_reducible refine onB_d (fun _ => ?_) (fun _ => ?_))
  | (with_reducible refine onB_n (fun _ => ?_) (fun _ => ?_))
  | refine OnB.mk (fun _ => ?_) (fun _ => ?_)
  | refine obl_i ?_ ?_
  | refine Drw.mk (by kernel_rfl) ?_
  | refine mks_i ?_ ?_
  | refine slp_i ?_ ?_
  | (with_reducible refine elem_u ?_ ?_)
  | (with_reducible refine elem_0 ?_)
  | (with_reducible refine elem_1 ?_)
  | refine elem_map cu0 ?_ ?_
  | refine Ends.mk ?_))
 all_goals (try refine Pr.mk ?_)
 all_goals first | (show SubE _ _; repeat' (first | exact trivial | refine And.intro ?_ ?_)) | (show SubB _ _; repeat' (first | exact trivial | refine And.intro ?_ ?_)) | skip
 all_goals (try rfl)
 all_goals (try simp only [List.length_map, Int.toNat_natCast] at *)
 all_goals (try simp only [sgnI_lt0, sgnI_zero, sgnI_le0, sgnI_gt0, sgnI_ge0, sgnI_eq1, cmpI_lt0, cmpI_gt0, cmpI_eq0, cmpI_le0, cmpI_ge0, cmpR_of, sgnR_of, sgnR_lt0, sgnR_eq0, sgnR_gt0, sgnR_le0, sgnR_ge0, sgnR_eq1, cmpR_lt0, cmpR_gt0, cmpR_eq0, cmpR_le0, cmpR_ge0] at *)
 all_goals first
  | ((conv => whnf); exact ⟨k + 1, ⟨⟨rfl, rfl, rfl, rfl, rfl, inc64 (by omega), trivial⟩, ⟨rfl, rfl, hq_y (by omega) (by assumption) (by assumption), trivial⟩, ⟨by omega, trivial⟩, by show L.length - (k + 1) < L.length - k; omega⟩⟩)
  | ((conv => whnf); exact ⟨k + 1, ⟨⟨rfl, rfl, rfl, rfl, rfl, inc64 (by omega), trivial⟩, ⟨rfl, rfl, hq_n (by omega) (by assumption), trivial⟩, ⟨by omega, trivial⟩, by show L.length - (k + 1) < L.length - k; omega⟩⟩)
  | ((conv => whnf); exact ⟨k + 1, ⟨⟨rfl, rfl, rfl, rfl, rfl, inc64 (by omega), trivial⟩, ⟨rfl, rfl, hq_k (by omega) (by assumption), trivial⟩, ⟨by omega, trivial⟩, by show L.length - (k + 1) < L.length - k; omega⟩⟩)
  | exact hq_end hk.1 (by omega)
  | exact h64
  | exact ⟨medC_get hL k, hx, hy⟩
  | (have z := medC_get hL k; exact ⟨z.1, z.2.1, z.2.2.1, z.2.2.2.1, z.2.2.2.2.1, z.2.2.2.2.2.1, z.2.2.2.2.2.2, hx, hy⟩)
  | exact cmP (okR_swr (medC_get hL k) hx hy (by assumption)) (okR_take hx hy hL ht k)
  | exact ⟨Nat.zero_le _, trivial⟩
  | rfl
  | omega
  | ((repeat' apply And.intro) <;> first | assumption | exact rzb (by omega) | exact szb (by omega) | exact Int.mul_ne_zero (den_ne _) (den_ne _))
  | skip⟩

instance h_height2 (L : List Cut7) (top : Int) (x y : Rat) : DenI Tryz.prog 21 [.c (.sl 7 (L.map cuC)), .int .i64 top, Q2 x y] ((∀ c ∈ L, medC c) ∧ medI top ∧ rz x ≤ 6 ∧ rz y ≤ 6 ∧ L.length ≤ 12) (Q3 (hgt x y L ⟨(top : Rat), 0, 0⟩).a (hgt x y L ⟨(top : Rat), 0, 0⟩).b (hgt x y L ⟨(top : Rat), 0, 0⟩).c) := ⟨fun hp => by
 obtain ⟨hL, ht, hx, hy, hl⟩ := hp
 have i_x : RzB x 6 := ⟨hx⟩
 have i_y : RzB y 6 := ⟨hy⟩
 have i_t : RzB (top : Rat) 4 := ⟨rz_med ht⟩
 have h64 : -9223372036854775808 ≤ top ∧ top ≤ 9223372036854775807 := (by unfold medI at ht; omega)
 all_goals refine den_of (τ := tab) tab_ok mixed_ Tryz.func21 rfl (by kernel_rfl) (by kernel_rfl) (by kernel_rfl) ?_
 all_goals (repeat' ((try (conv => whnf)); first
  | refine call_0 ?_
  | refine call_i ?_ ?_
  | refine call_c ?_ (fun _ => ?_) (fun _ => ?_)
  | (with_reducible refine onB_t ?_)
  | (with_reducible refine onB_f ?_)
  | (with_reducible refine onB_d (fun _ => ?_) (fun _ => ?_))
  | (with_reducible refine onB_n (fun _ => ?_) (fun _ => ?_))
  | refine OnB.mk (fun _ => ?_) (fun _ => ?_)
  | refine obl_i ?_ ?_
  | refine Drw.mk (by kernel_rfl) ?_
  | refine mks_i ?_ ?_
  | refine slp_i ?_ ?_
  | (with_reducible refine elem_u ?_ ?_)
  | (with_reducible refine elem_0 ?_)
  | (with_reducible refine elem_1 ?_)
  | refine Ends.mk ?_))
 all_goals (try refine Pr.mk ?_)
 all_goals first
  | ((conv => whnf); refine Sw.Loop.inv (α := Nat) (fun k => [(5, .ptr 5 0), (6, .ptr 6 0), (7, .ptr 7 0), (0, .c (.sl 7 (L.map cuC))), (8, .int .i64 (k : Nat))]) (fun k => [(5, .var [zs x.num, zl x.num, zs x.den, zl x.den, zs y.num, zl y.num, zs y.den, zl y.den]), (6, .var [.v (.bool false), .sl 1 [], .v (.bool false), .sl 1 [], .v (.bool false), .sl 1 [], .v (.bool false), .sl 1 [], .v (.bool false), .sl 1 [], .v (.bool false), .sl 1 []]), (7, .var [zs (hgt x y (L.take k) ⟨(top : Rat), 0, 0⟩).a.num, zl (hgt x y (L.take k) ⟨(top : Rat), 0, 0⟩).a.num, zs (hgt x y (L.take k) ⟨(top : Rat), 0, 0⟩).a.den, zl (hgt x y (L.take k) ⟨(top : Rat), 0, 0⟩).a.den, zs (hgt x y (L.take k) ⟨(top : Rat), 0, 0⟩).b.num, zl (hgt x y (L.take k) ⟨(top : Rat), 0, 0⟩).b.num, zs (hgt x y (L.take k) ⟨(top : Rat), 0, 0⟩).b.den, zl (hgt x y (L.take k) ⟨(top : Rat), 0, 0⟩).b.den, zs (hgt x y (L.take k) ⟨(top : Rat), 0, 0⟩).c.num, zl (hgt x y (L.take k) ⟨(top : Rat), 0, 0⟩).c.num, zs (hgt x y (L.take k) ⟨(top : Rat), 0, 0⟩).c.den, zl (hgt x y (L.take k) ⟨(top : Rat), 0, 0⟩).c.den])]) (fun k => k ≤ L.length ∧ True) (fun k => L.length - k) 0 ?_ ?_ ?_ (fun k hk => ?_))
  | skip
 all_goals (repeat' ((try (conv => whnf)); first
  | refine call_0 ?_
  | refine call_i ?_ ?_
  | refine call_c ?_ (fun _ => ?_) (fun _ => ?_)
  | (with_reducible refine onB_t ?_)
  | (with_reducible refine onB_f ?_)
  | (with_reducible refine onB_d (fun _ => ?_) (fun _ => ?_))
  | (with_reducible refine onB_n (fun _ => ?_) (fun _ => ?_))
  | refine OnB.mk (fun _ => ?_) (fun _ => ?_)
  | refine obl_i ?_ ?_
  | refine Drw.mk (by kernel_rfl) ?_
  | refine mks_i ?_ ?_
  | refine slp_i ?_ ?_
  | (with_reducible refine elem_u ?_ ?_)
  | (with_reducible refine elem_0 ?_)
  | (with_reducible refine elem_1 ?_)
  | refine elem_map cu0 ?_ ?_
  | refine Ends.mk ?_))
 all_goals (try refine Pr.mk ?_)
 all_goals first | (show SubE _ _; repeat' (first | exact trivial | refine And.intro ?_ ?_)) | (show SubB _ _; repeat' (first | exact trivial | refine And.intro ?_ ?_)) | skip
 all_goals (try rfl)
 all_goals (try simp only [List.length_map, Int.toNat_natCast] at *)
 all_goals (try simp only [sgnI_lt0, sgnI_zero, sgnI_le0, sgnI_gt0, sgnI_ge0, sgnI_eq1, cmpI_lt0, cmpI_gt0, cmpI_eq0, cmpI_le0, cmpI_ge0, cmpR_of, sgnR_of, sgnR_lt0, sgnR_eq0, sgnR_gt0, sgnR_le0, sgnR_ge0, sgnR_eq1, cmpR_lt0, cmpR_gt0, cmpR_eq0, cmpR_le0, cmpR_ge0] at *)
 all_goals first
  | ((conv => whnf); exact ⟨k + 1, ⟨⟨rfl, rfl, rfl, rfl, inc64 (by omega), trivial⟩, ⟨rfl, rfl, hq_y (by omega) (by assumption) (by assumption), trivial⟩, ⟨by omega, trivial⟩, by show L.length - (k + 1) < L.length - k; omega⟩⟩)
  | ((conv => whnf); exact ⟨k + 1, ⟨⟨rfl, rfl, rfl, rfl, inc64 (by omega), trivial⟩, ⟨rfl, rfl, hq_n (by omega) (by assumption), trivial⟩, ⟨by omega, trivial⟩, by show L.length - (k + 1) < L.length - k; omega⟩⟩)
  | ((conv => whnf); exact ⟨k + 1, ⟨⟨rfl, rfl, rfl, rfl, inc64 (by omega), trivial⟩, ⟨rfl, rfl, hq_k (by omega) (by assumption), trivial⟩, ⟨by omega, trivial⟩, by show L.length - (k + 1) < L.length - k; omega⟩⟩)
  | exact hq_end hk.1 (by omega)
  | exact h64
  | exact ⟨medC_get hL k, hx, hy⟩
  | (have z := medC_get hL k; exact ⟨z.1, z.2.1, z.2.2.1, z.2.2.2.1, z.2.2.2.2.1, z.2.2.2.2.2.1, z.2.2.2.2.2.2, hx, hy⟩)
  | exact cmP (okR_swr (medC_get hL k) hx hy (by assumption)) (okR_take hx hy hL ht k)
  | exact ⟨Nat.zero_le _, trivial⟩
  | rfl
  | omega
  | ((repeat' apply And.intro) <;> first | assumption | exact rzb (by omega) | exact szb (by omega) | exact Int.mul_ne_zero (den_ne _) (den_ne _))
  | skip⟩

end Go.Proofs.YtigbdpkpaleboaaGreat

namespace Go.Proofs.YtigbdpkpaleboaaGreat
open Go Go.RowKit Go.Sw
set_option linter.unusedVariables false
set_option maxRecDepth 100000
set_option maxHeartbeats 8000000
set_option synthInstance.maxSize 4000
set_option synthInstance.maxHeartbeats 400000
instance l_of (L : List Cut7) : DenI Tryz.prog 20 [.c (.sl 7 (L.map cuC))] (L.length ≤ 12) (.c (.sl 7 (L.map cuC))) := ⟨fun hp => by
 refine den_of (τ := tab) tab_ok mixed_ Tryz.func20 rfl (by kernel_rfl) (by kernel_rfl) (by kernel_rfl) ?_
 all_goals first
  | ((conv => whnf); refine Sw.Loop.ghost 3 100 45 7 ?_ rfl rfl rfl (by decide))
  | skip
 all_goals first
  | ((conv => whnf); refine Sw.Loop.inv (α := Nat) (fun k => [(6, .c (.sl 7 (L.map cuC))), (7, .int .i64 ((L.map cuC).length : Nat)), (3, .gs 100 k), (8, .int .i64 (k : Nat))]) (fun k => [(100, .grow 45 7 ((L.take k).map cuC))]) (fun k => k ≤ L.length ∧ True) (fun k => L.length - k) 0 ?_ ?_ ?_ (fun k hk => ?_))
  | skip
 all_goals (repeat' ((try (conv => whnf)); first
  | refine call_0 ?_
  | refine call_i ?_ ?_
  | refine call_c ?_ (fun _ => ?_) (fun _ => ?_)
  | (with_reducible refine onB_t ?_)
  | (with_reducible refine onB_f ?_)
  | (with_reducible refine onB_d (fun _ => ?_) (fun _ => ?_))
  | (with_reducible refine onB_n (fun _ => ?_) (fun _ => ?_))
  | refine OnB.mk (fun _ => ?_) (fun _ => ?_)
  | refine obl_i ?_ ?_
  | refine Drw.mk (by kernel_rfl) ?_
  | refine mks_i ?_ ?_
  | refine slp_i ?_ ?_
  | (with_reducible refine elem_u ?_ ?_)
  | (with_reducible refine elem_0 ?_)
  | (with_reducible refine elem_1 ?_)
  | refine elem_map cu0 ?_ ?_
  | refine Ends.mk ?_))
 all_goals (try refine Pr.mk ?_)
 all_goals first | (show SubE _ _; repeat' (first | exact trivial | refine And.intro ?_ ?_)) | (show SubB _ _; repeat' (first | exact trivial | refine And.intro ?_ ?_)) | skip
 all_goals (try rfl)
 all_goals (try simp only [List.length_map, Int.toNat_natCast] at *)
 all_goals first
  | exact ofK_end hk.1 (by omega)
  | ((conv => whnf); exact ⟨k + 1, ⟨⟨rfl, rfl, gsE (by simp only [List.length_map, List.length_append, List.length_take, List.length_cons, List.length_nil]; omega), inc64 (by omega), trivial⟩, ⟨growK (by omega), trivial⟩, ⟨by omega, trivial⟩, by show L.length - (k + 1) < L.length - k; omega⟩⟩)
  | omega
  | exact ⟨Nat.zero_le _, trivial⟩
  | (simp only [List.length_map, List.length_append, List.length_take, List.length_cons, List.length_nil]; omega)
  | skip⟩

end Go.Proofs.YtigbdpkpaleboaaGreat

namespace Go.Sw
open Go Go.RowKit Go.Proofs Go.Shelf
set_option linter.unusedVariables false
/-- A list of values as k values of one cell each. -/
def encL (k : Nat) (x : List Value) : List Value := if x.length = k ∧ x.all Value.oneCell' = true then x else List.replicate k (.bool false)
theorem encL_len (k : Nat) (x : List Value) : (encL k x).length = k := by
  unfold encL
  split
  · rename_i h; exact h.1
  · simp
theorem encL_one (k : Nat) (x : List Value) : ∀ v ∈ encL k x, v.oneCell' = true := by
  unfold encL
  split
  · rename_i h; exact fun v hv => List.all_eq_true.1 h.2 v hv
  · intro v hv; rw [List.eq_of_mem_replicate hv]; rfl
theorem flatK_enc {k : Nat} (hk : 0 < k) : ∀ {uss : List (List Value)}, (∀ us ∈ uss, us.length = k ∧ ∀ u ∈ us, u.oneCell' = true) → Sort.flatK (encL k) k uss.toArray = uss.flatten.toArray := by
  intro uss h
  have hfl : uss.flatten.length = uss.length * k := flatten_len fun us hu => (h us hu).1
  apply Array.ext_getElem?
  intro i
  by_cases hi : i < uss.length * k
  · have hq : i / k < uss.length := by rw [Nat.div_lt_iff_lt_mul hk]; exact hi
    have hr : i % k < k := Nat.mod_lt _ hk
    have hu := h _ (List.getElem_mem hq)
    have h1 := flatten_at (s := k) (uss := uss) (fun us hu => (h us hu).1) (i := i / k) (us := uss[i / k]) (List.getElem?_eq_getElem hq) (i % k) hr
    have hdm : i / k * k + i % k = i := by rw [Nat.mul_comm]; exact Nat.div_add_mod i k
    rw [hdm] at h1
    have h2 : (Sort.flatK (encL k) k uss.toArray)[i]? = some (Sort.flatK (encL k) k uss.toArray)[i]! := by
      rw [getElem!_pos _ i (by simpa using hi), Array.getElem?_eq_getElem]
    rw [h2, Sort.get_flatK _ _ _ _ (by simpa using hi), List.getElem?_toArray, h1]
    have h3 : (uss.toArray[i / k]! : List Value) = uss[i / k] := by rw [getElem!_pos _ _ (by simpa using hq)]; simp
    have h4 : encL k uss[i / k] = uss[i / k] := by unfold encL; rw [if_pos ⟨hu.1, List.all_eq_true.2 hu.2⟩]
    rw [h3, h4, getElem!_pos _ _ (by rw [hu.1]; exact hr), List.getElem?_eq_getElem]
  · rw [Array.getElem?_eq_none (by simpa using Nat.le_of_not_lt hi), List.getElem?_toArray, List.getElem?_eq_none (by omega)]
theorem putCells_flat (a b rest : List Value) (h : a.length = b.length) : Sort.putCells id 0 a.toArray (b ++ rest).toArray = (a ++ rest).toArray := by
  apply Array.ext_getElem?
  intro i
  unfold Sort.putCells
  simp only [Array.getElem?_mapIdx, List.getElem?_toArray, Nat.zero_le, true_and, Nat.zero_add, List.size_toArray, Nat.sub_zero, id]
  by_cases hi : i < a.length
  · rw [List.getElem?_append_left (by omega), List.getElem?_append_left hi, List.getElem?_eq_getElem (by omega), Option.map_some, if_pos hi, getElem!_pos _ _ (by simpa using hi), List.getElem?_eq_getElem hi]
    simp
  · rw [List.getElem?_append_right (by omega), List.getElem?_append_right (by omega), h]
    cases rest[i - b.length]? with
    | none => rfl
    | some x => rw [h] at hi; simp [hi]
theorem den_rev {P : Program} {ρ : Ren} (L : SlLaysE0.n35 P ρ) (hb : hasBody P (ρ.f 35) = true) {k : Nat} {T : TypeId} (aE : ∀ w, (isAgg (ρ.t 23)).run P w = .ok true w) (zE : ∀ w, (Go.sizeOf (ρ.t 23)).run P w = .ok k w) {es : List (List Cell)} :
    DenS P (ρ.f 35) T k es [] es.reverse (.tup []) := by
  refine ⟨hb, fun w X g cap uss rest vs hX hgX hg hS hc hm hn hk hl hr => ?_⟩
  have : vs = [] := List.eq_nil_of_length_eq_zero (by simpa using hl)
  subst this
  have hone : ∀ us ∈ uss, us.length = k ∧ ∀ u ∈ us, u.oneCell' = true := fun us hu => ⟨hS.sz us hu, by
    obtain ⟨j, hj, rfl⟩ := List.getElem_of_mem hu
    exact (hS.get j _ _ (List.getElem?_eq_getElem hj) (List.getElem?_eq_getElem (by rw [← hS.len]; exact hj))).one⟩
  have hfl := flatK_enc hk hone
  have hlen : uss.flatten.length = uss.length * k := flatten_len hS.sz
  have hH : Sort.HoldsK (encL k) k w g 0 uss.toArray := by
    unfold Sort.HoldsK
    rw [hfl]
    intro j hj
    have hj' : j < uss.flatten.length := by simpa using hj
    refine ⟨?_, Lib.frozen_of_heap hg _⟩
    rw [Nat.zero_add, cell_of_row w g j _ T _ hg, List.getElem?_toArray, List.getElem?_append_left hj', List.getElem?_eq_getElem hj', getElem!_pos uss.flatten.toArray j hj]
    simp
  have hcall := AnyQ.slices_Reverse L k aE zE (encL k) (encL_len k) (encL_one k) g 0 cap uss.toArray w hH (by
    have := hS.len
    unfold maxLen at hm
    simp only [List.size_toArray]; omega)
  simp only [List.size_toArray] at hcall
  have hsz : uss.length = es.length := hS.len
  rw [hsz] at hcall
  refine Calls.mono hcall ?_
  rintro e w' ⟨rfl, n, rfl⟩
  have hrev : (uss.toArray.reverse) = uss.reverse.toArray := by simp
  have hfl2 : Sort.flatK (encL k) k uss.toArray.reverse = uss.reverse.flatten.toArray := by
    rw [hrev]
    exact flatK_enc hk fun us hu => hone us (List.mem_reverse.1 hu)
  have hl2 : uss.reverse.flatten.length = uss.flatten.length := by rw [hlen, flatten_len (s := k) (fun us hu => hS.sz us (List.mem_reverse.1 hu))]; simp
  have hheap : ∀ i, (Sort.putRowK (encL k) k (Sort.ahead w n) g 0 uss.toArray.reverse).heap[i]? = if g = i then some (.cells (uss.reverse.flatten ++ rest).toArray T (0, 0)) else w.heap[i]? := by
    intro i
    unfold Sort.putRowK Sort.putRow Sort.mapBlock
    simp only [Sort.heap_ahead, Array.getElem?_modify]
    by_cases hi : g = i
    · subst hi
      rw [if_pos rfl, if_pos rfl, hg]
      simp only [Option.map_some, Sort.onCells]
      rw [hfl2, putCells_flat _ _ _ hl2]
    · rw [if_neg hi, if_neg hi]
  have hsize : (Sort.putRowK (encL k) k (Sort.ahead w n) g 0 uss.toArray.reverse).heap.size = w.heap.size := by
    unfold Sort.putRowK; simp
  refine ⟨.tuple #[], rfl, .tup (us := []) rfl (fun i u v h => by simp at h), ⟨rfl, rfl, rfl, by rw [hsize]; exact Nat.le_refl _, fun i hi hne => ?_⟩, by simp, uss.reverse, ?_, ?_⟩
  · rw [hheap, if_neg (fun e => hne (by rw [e]))]
  · rw [hheap, if_pos rfl]
  · have hext : Ext w X (Sort.putRowK (encL k) k (Sort.ahead w n) g 0 uss.toArray.reverse) X := by
      refine ⟨by rw [hsize]; exact Nat.le_refl _, fun i hi hx => ⟨?_, hx⟩⟩
      rw [hheap, if_neg (fun e => hx (by rw [← e]; exact hgX))]
    have := hS.ext hext
    refine ⟨by simp [this.len], fun us hu => this.sz us (List.mem_reverse.1 hu), fun i us e h1 h2 => ?_⟩
    have hl1 := this.len
    have hi : i < uss.length := by simpa using (List.getElem?_eq_some_iff.1 h1).1
    rw [List.getElem?_reverse hi] at h1
    rw [List.getElem?_reverse (by rw [← hl1]; exact hi), ← hl1] at h2
    exact this.get _ us e h1 h2
end Go.Sw

namespace Go.Sw
open Go Go.RowKit Go.Proofs Go.Shelf
set_option linter.unusedVariables false
theorem zeroCells_len (z : Array Value) (n : Nat) : (Builtin.zeroCells z n).size = n * z.size := by
  simp [Builtin.zeroCells]
theorem den_grow {P : Program} [Wld P] {ρ : Ren} (L : Lays8.n4 P ρ) (hb : hasBody P (ρ.f 4) = true) (i0 : TypeInfo) (z : Value) (hi0 : P.info? (ρ.t 25) = some i0) (hz0 : i0.zero = some z) (hs0 : 0 < i0.size) (hzs : z.cells.size = i0.size) (hby : i0.bytes ≤ 1000000) {n : Nat} (hn : n ≤ 1000000) :
    Den P (ρ.f 4) [.c (.v (.slice none 0 0)), .c (.v (.int .i64 (n : Nat)))] (.own (ρ.t 25) i0.size []) := by
  refine Den.of ⟨hb, fun w X vs hW hX hl hr => ?_⟩ rfl
  match vs, hl with
  | [u, v], _ =>
  have hu : u = .slice none 0 0 := by
    have := hr 0 u _ rfl rfl
    cases this with
    | c h => cases h; rfl
  have hv : v = .int .i64 (n : Nat) := by
    have := hr 1 v _ rfl rfl
    cases this with
    | c h => cases h; rfl
  subst hu hv
  have h48 : n * i0.bytes ≤ 140737488355328 := Nat.le_trans (Nat.mul_le_mul hn hby) (by omega)
  by_cases h0 : n = 0
  · subst h0
    refine Calls.mono (Any8.slices_Grow_room L none 0 0 0 w (by omega) (by omega) (by omega) (by omega)) ?_
    rintro e w' ⟨rfl, rfl⟩
    exact ⟨_, rfl, ⟨⟨[_], [_], [], .inr ⟨rfl, rfl, rfl⟩, by simp, List.nodup_nil, .own0 hs0 .nil⟩⟩, Below.refl _ _⟩
  · have hgc := grownCap_ge w (0 + n) 0 (ρ.t 25)
    have hgm := grownCap_le_maxLen w (0 + n) 0 (ρ.t 25) (by unfold maxLen; omega)
    refine Calls.mono (Any8.slices_Grow_grow L i0 z hi0 hz0 hs0 none 0 0 n [] w (by omega) (by omega) (by rw [Nat.zero_add]; exact h48) (by omega) (by simp) (fun _ => rfl) (fun a h => by cases h)) ?_
    rintro e w' ⟨rfl, rfl⟩
    refine ⟨_, rfl, ⟨⟨[_], [_], [w.heap.size], .inr ⟨rfl, rfl, rfl⟩, by simp, by simp, ?_⟩⟩, ((Below.refl _ w).drew).alloc (Nat.le_refl _) _⟩
    refine RepFs.own (es := []) (uss := []) (rest := (([] : List Value).toArray ++ Builtin.zeroCells z.cells (0 + n - 0) ++ Builtin.zeroCells z.cells (grownCap w (0 + n) 0 (ρ.t 25) - (0 + n))).toList) hs0 ?_ (RepS.nil _ _ _) ?_ hgm (Nat.zero_le _) .nil
    · have key : ∀ (o : Obj), (w.drew.alloc o).heap[w.heap.size]? = some o := fun o => by
        show (w.heap.push o)[w.heap.size]? = some o
        exact Array.getElem?_push_size
      rw [key]
      simp only [List.flatten_nil, List.nil_append, Array.toArray_toList]
    · simp only [List.flatten_nil, List.nil_append, Array.length_toList, Array.size_append, zeroCells_len, hzs, List.size_toArray, List.length_nil]
      rw [Nat.zero_add, Nat.zero_add, ← Nat.add_mul]
      rw [Nat.zero_add] at hgc
      rw [show n - 0 + (grownCap w n 0 (ρ.t 25) - n) = grownCap w n 0 (ρ.t 25) by omega]
end Go.Sw

namespace Go.Proofs.YtigbdpkpaleboaaGreat
open Go Go.RowKit Go.Sw
set_option linter.unusedVariables false
set_option maxRecDepth 100000
set_option maxHeartbeats 8000000
set_option synthInstance.maxSize 4000
set_option synthInstance.maxHeartbeats 400000
def revRen : Go.Shelf.Ren := ⟨fun n => if n = 35 then 31 else n, fun n => if n = 22 then 29 else if n = 23 then 46 else  n, id⟩
theorem revLay : Go.Proofs.SlLaysE0.n35 Tryz.prog revRen where
  mixed := mixed_
  f35 := ⟨"slices.Reverse[[]swarf/swarfref52.Cut,swarf/swarfref52.Cut]", by decide, Eq.trans Tryz.func31 (congrArg some (Eq.refl _))⟩
  t0 := Tryz.underlying0
  a0 := Tryz.isAgg0
  z0 := Tryz.sizeOf0
  v0 := Tryz.zeroValue0
  t3 := Tryz.underlying3
  a3 := Tryz.isAgg3
  z3 := Tryz.sizeOf3
  v3 := Tryz.zeroValue3
  t4 := Tryz.underlying4
  a4 := Tryz.isAgg4
  z4 := Tryz.sizeOf4
  v4 := Tryz.zeroValue4
  t22 := Tryz.underlying29
  a22 := Tryz.isAgg29
  z22 := Tryz.sizeOf29
  v22 := Tryz.zeroValue29
def groRen : Go.Shelf.Ren := ⟨fun n => if n = 4 then 72 else n, fun n => if n = 22 then 29 else if n = 25 then 46 else  n, id⟩
theorem groLay : Go.Proofs.Lays8.n4 Tryz.prog groRen where
  mixed := mixed_
  f4 := ⟨"slices.Grow[[]swarf/swarfref52.Cut,swarf/swarfref52.Cut]", by decide, Eq.trans Tryz.func72 (congrArg some (Eq.refl _))⟩
  t0 := Tryz.underlying0
  a0 := Tryz.isAgg0
  z0 := Tryz.sizeOf0
  v0 := Tryz.zeroValue0
  t3 := Tryz.underlying3
  a3 := Tryz.isAgg3
  z3 := Tryz.sizeOf3
  v3 := Tryz.zeroValue3
  t4 := Tryz.underlying4
  a4 := Tryz.isAgg4
  z4 := Tryz.sizeOf4
  v4 := Tryz.zeroValue4
  t9 := Tryz.underlying9
  a9 := Tryz.isAgg9
  z9 := Tryz.sizeOf9
  v9 := Tryz.zeroValue9
  t20 := Tryz.underlying20
  a20 := Tryz.isAgg20
  z20 := Tryz.sizeOf20
  v20 := Tryz.zeroValue20
  t22 := Tryz.underlying29
  a22 := Tryz.isAgg29
  z22 := Tryz.sizeOf29
  v22 := Tryz.zeroValue29
theorem infoCu : ∃ i0, Tryz.prog.info? 46 = some i0 ∧ i0.zero = some (.agg #[.int .i64 0, .int .i64 0, .int .i64 0, .int .i64 0, .int .i64 0, .int .i64 0, .int .i64 0]) ∧ i0.size = 7 ∧ i0.bytes = 56 := info_parts (by kernel_rfl)
instance u_rev (es : List (List Cell)) : DenI Tryz.prog 31 [.own 46 7 es] True (.tup [.own 46 7 es.reverse, .tup []]) := ⟨fun _ => den_rev revLay (by kernel_rfl) Tryz.isAgg46 Tryz.sizeOf46⟩
instance u_gro (x : Int) : DenI Tryz.prog 72 [.c (.v (.slice none 0 0)), .c (.v (.int .i64 x))] (0 ≤ x ∧ x ≤ 1000000) (.own 46 7 []) := ⟨fun hp => by
  obtain ⟨n, rfl⟩ := Int.eq_ofNat_of_zero_le hp.1
  obtain ⟨i0, h1, h2, h3, h4⟩ := infoCu
  have h := den_grow groLay (by kernel_rfl) i0 _ h1 h2 (by omega) (by rw [h3]; rfl) (by omega) (n := n) (by omega)
  rw [h3] at h
  exact h⟩
instance u_con (A B : List (List Cell)) : DenI Tryz.prog 30 [.c (.sl 1 [[.sl 7 A], [.sl 7 B]])] (A.length ≤ 12 ∧ B.length ≤ 12) (.own 46 7 (A ++ B)) := ⟨fun hp => by
 refine den_own (τ := tab) [some (46, 7)] tab_ok mixed_ Tryz.func30 rfl (by kernel_rfl) (by kernel_rfl) (by kernel_rfl) ?_
 all_goals (repeat' ((try (conv => whnf)); first
  | refine call_0 ?_
  | refine call_i ?_ ?_
  | refine call_c ?_ (fun _ => ?_) (fun _ => ?_)
  | (with_reducible refine onB_t ?_)
  | (with_reducible refine onB_f ?_)
  | (with_reducible refine onB_d (fun _ => ?_) (fun _ => ?_))
  | (with_reducible refine onB_n (fun _ => ?_) (fun _ => ?_))
  | refine OnB.mk (fun _ => ?_) (fun _ => ?_)
  | refine obl_i ?_ ?_
  | refine Drw.mk (by kernel_rfl) ?_
  | refine mks_i ?_ ?_
  | refine slp_i ?_ ?_
  | (with_reducible refine elem_u ?_ ?_)
  | (with_reducible refine elem_0 ?_)
  | (with_reducible refine elem_1 ?_)
  | refine Ends.mk ?_))
 all_goals (try refine Pr.mk ?_)
 all_goals first
  | ((conv => whnf); refine Sw.Loop.unroll ?_)
  | skip
 all_goals (repeat' ((try rw [w01]); (try rw [w11]); (try rw [w21]); (try rw [w31]); (try rw [w41]); (try rw [w51]); (try (conv => whnf)); first
  | refine call_0 ?_
  | refine call_i ?_ ?_
  | refine call_c ?_ (fun _ => ?_) (fun _ => ?_)
  | (with_reducible refine onB_t ?_)
  | (with_reducible refine onB_f ?_)
  | refine onB_dy (by first | decide | (simp only [List.length_cons, List.length_nil]; done) | (simp only [List.length_cons, List.length_nil]; decide)) ?_
  | refine onB_dn (by first | decide | (simp only [List.length_cons, List.length_nil]; done) | (simp only [List.length_cons, List.length_nil]; decide)) ?_
  | (with_reducible refine onB_d (fun _ => ?_) (fun _ => ?_))
  | (with_reducible refine onB_n (fun _ => ?_) (fun _ => ?_))
  | refine OnB.mk (fun _ => ?_) (fun _ => ?_)
  | refine obl_i ?_ ?_
  | refine Drw.mk (by kernel_rfl) ?_
  | refine mks_i ?_ ?_
  | refine slp_i ?_ ?_
  | (with_reducible refine elem_u ?_ ?_)
  | (with_reducible refine elem_0 ?_)
  | (with_reducible refine elem_1 ?_)
  | (with_reducible refine elem_2 ?_)
  | (with_reducible refine elem_3 ?_)
  | (with_reducible refine elem_4 ?_)
  | (with_reducible refine elem_5 ?_)
  | refine Ends.mk ?_))
 all_goals (try refine Pr.mk ?_)
 all_goals (try simp (disch := omega) only [wi64, Int.zero_add] at *)
 all_goals first
  | ((conv => whnf); refine Sw.Loop.unroll ?_)
  | skip
 all_goals (repeat' ((try rw [w01]); (try rw [w11]); (try rw [w21]); (try rw [w31]); (try rw [w41]); (try rw [w51]); (try (conv => whnf)); first
  | refine call_0 ?_
  | refine call_i ?_ ?_
  | refine call_c ?_ (fun _ => ?_) (fun _ => ?_)
  | (with_reducible refine onB_t ?_)
  | (with_reducible refine onB_f ?_)
  | refine onB_dy (by first | decide | (simp only [List.length_cons, List.length_nil]; done) | (simp only [List.length_cons, List.length_nil]; decide)) ?_
  | refine onB_dn (by first | decide | (simp only [List.length_cons, List.length_nil]; done) | (simp only [List.length_cons, List.length_nil]; decide)) ?_
  | (with_reducible refine onB_d (fun _ => ?_) (fun _ => ?_))
  | (with_reducible refine onB_n (fun _ => ?_) (fun _ => ?_))
  | refine OnB.mk (fun _ => ?_) (fun _ => ?_)
  | refine obl_i ?_ ?_
  | refine Drw.mk (by kernel_rfl) ?_
  | refine mks_i ?_ ?_
  | refine slp_i ?_ ?_
  | (with_reducible refine elem_u ?_ ?_)
  | (with_reducible refine elem_0 ?_)
  | (with_reducible refine elem_1 ?_)
  | (with_reducible refine elem_2 ?_)
  | (with_reducible refine elem_3 ?_)
  | (with_reducible refine elem_4 ?_)
  | (with_reducible refine elem_5 ?_)
  | refine Ends.mk ?_))
 all_goals (try refine Pr.mk ?_)
 all_goals (try simp (disch := omega) only [wi64, Int.zero_add] at *)
 all_goals first
  | ((conv => whnf); refine Sw.Loop.unroll ?_)
  | skip
 all_goals (repeat' ((try rw [w01]); (try rw [w11]); (try rw [w21]); (try rw [w31]); (try rw [w41]); (try rw [w51]); (try (conv => whnf)); first
  | refine call_0 ?_
  | refine call_i ?_ ?_
  | refine call_c ?_ (fun _ => ?_) (fun _ => ?_)
  | (with_reducible refine onB_t ?_)
  | (with_reducible refine onB_f ?_)
  | refine onB_dy (by first | decide | (simp only [List.length_cons, List.length_nil]; done) | (simp only [List.length_cons, List.length_nil]; decide)) ?_
  | refine onB_dn (by first | decide | (simp only [List.length_cons, List.length_nil]; done) | (simp only [List.length_cons, List.length_nil]; decide)) ?_
  | (with_reducible refine onB_d (fun _ => ?_) (fun _ => ?_))
  | (with_reducible refine onB_n (fun _ => ?_) (fun _ => ?_))
  | refine OnB.mk (fun _ => ?_) (fun _ => ?_)
  | refine obl_i ?_ ?_
  | refine Drw.mk (by kernel_rfl) ?_
  | refine mks_i ?_ ?_
  | refine slp_i ?_ ?_
  | (with_reducible refine elem_u ?_ ?_)
  | (with_reducible refine elem_0 ?_)
  | (with_reducible refine elem_1 ?_)
  | (with_reducible refine elem_2 ?_)
  | (with_reducible refine elem_3 ?_)
  | (with_reducible refine elem_4 ?_)
  | (with_reducible refine elem_5 ?_)
  | refine Ends.mk ?_))
 all_goals (try refine Pr.mk ?_)
 all_goals (try simp (disch := omega) only [wi64, Int.zero_add] at *)
 all_goals first
  | ((conv => whnf); refine Sw.Loop.unroll ?_)
  | skip
 all_goals (repeat' ((try rw [w01]); (try rw [w11]); (try rw [w21]); (try rw [w31]); (try rw [w41]); (try rw [w51]); (try (conv => whnf)); first
  | refine call_0 ?_
  | refine call_i ?_ ?_
  | refine call_c ?_ (fun _ => ?_) (fun _ => ?_)
  | (with_reducible refine onB_t ?_)
  | (with_reducible refine onB_f ?_)
  | refine onB_dy (by first | decide | (simp only [List.length_cons, List.length_nil]; done) | (simp only [List.length_cons, List.length_nil]; decide)) ?_
  | refine onB_dn (by first | decide | (simp only [List.length_cons, List.length_nil]; done) | (simp only [List.length_cons, List.length_nil]; decide)) ?_
  | (with_reducible refine onB_d (fun _ => ?_) (fun _ => ?_))
  | (with_reducible refine onB_n (fun _ => ?_) (fun _ => ?_))
  | refine OnB.mk (fun _ => ?_) (fun _ => ?_)
  | refine obl_i ?_ ?_
  | refine Drw.mk (by kernel_rfl) ?_
  | refine mks_i ?_ ?_
  | refine slp_i ?_ ?_
  | (with_reducible refine elem_u ?_ ?_)
  | (with_reducible refine elem_0 ?_)
  | (with_reducible refine elem_1 ?_)
  | (with_reducible refine elem_2 ?_)
  | (with_reducible refine elem_3 ?_)
  | (with_reducible refine elem_4 ?_)
  | (with_reducible refine elem_5 ?_)
  | refine Ends.mk ?_))
 all_goals (try refine Pr.mk ?_)
 all_goals (try simp (disch := omega) only [wi64, Int.zero_add] at *)
 all_goals first
  | ((conv => whnf); refine Sw.Loop.unroll ?_)
  | skip
 all_goals (repeat' ((try rw [w01]); (try rw [w11]); (try rw [w21]); (try rw [w31]); (try rw [w41]); (try rw [w51]); (try (conv => whnf)); first
  | refine call_0 ?_
  | refine call_i ?_ ?_
  | refine call_c ?_ (fun _ => ?_) (fun _ => ?_)
  | (with_reducible refine onB_t ?_)
  | (with_reducible refine onB_f ?_)
  | refine onB_dy (by first | decide | (simp only [List.length_cons, List.length_nil]; done) | (simp only [List.length_cons, List.length_nil]; decide)) ?_
  | refine onB_dn (by first | decide | (simp only [List.length_cons, List.length_nil]; done) | (simp only [List.length_cons, List.length_nil]; decide)) ?_
  | (with_reducible refine onB_d (fun _ => ?_) (fun _ => ?_))
  | (with_reducible refine onB_n (fun _ => ?_) (fun _ => ?_))
  | refine OnB.mk (fun _ => ?_) (fun _ => ?_)
  | refine obl_i ?_ ?_
  | refine Drw.mk (by kernel_rfl) ?_
  | refine mks_i ?_ ?_
  | refine slp_i ?_ ?_
  | (with_reducible refine elem_u ?_ ?_)
  | (with_reducible refine elem_0 ?_)
  | (with_reducible refine elem_1 ?_)
  | (with_reducible refine elem_2 ?_)
  | (with_reducible refine elem_3 ?_)
  | (with_reducible refine elem_4 ?_)
  | (with_reducible refine elem_5 ?_)
  | refine Ends.mk ?_))
 all_goals (try refine Pr.mk ?_)
 all_goals (try simp (disch := omega) only [wi64, Int.zero_add] at *)
 all_goals first
  | ((conv => whnf); refine Sw.Loop.unroll ?_)
  | skip
 all_goals (repeat' ((try rw [w01]); (try rw [w11]); (try rw [w21]); (try rw [w31]); (try rw [w41]); (try rw [w51]); (try (conv => whnf)); first
  | refine call_0 ?_
  | refine call_i ?_ ?_
  | refine call_c ?_ (fun _ => ?_) (fun _ => ?_)
  | (with_reducible refine onB_t ?_)
  | (with_reducible refine onB_f ?_)
  | refine onB_dy (by first | decide | (simp only [List.length_cons, List.length_nil]; done) | (simp only [List.length_cons, List.length_nil]; decide)) ?_
  | refine onB_dn (by first | decide | (simp only [List.length_cons, List.length_nil]; done) | (simp only [List.length_cons, List.length_nil]; decide)) ?_
  | (with_reducible refine onB_d (fun _ => ?_) (fun _ => ?_))
  | (with_reducible refine onB_n (fun _ => ?_) (fun _ => ?_))
  | refine OnB.mk (fun _ => ?_) (fun _ => ?_)
  | refine obl_i ?_ ?_
  | refine Drw.mk (by kernel_rfl) ?_
  | refine mks_i ?_ ?_
  | refine slp_i ?_ ?_
  | (with_reducible refine elem_u ?_ ?_)
  | (with_reducible refine elem_0 ?_)
  | (with_reducible refine elem_1 ?_)
  | (with_reducible refine elem_2 ?_)
  | (with_reducible refine elem_3 ?_)
  | (with_reducible refine elem_4 ?_)
  | (with_reducible refine elem_5 ?_)
  | refine Ends.mk ?_))
 all_goals (try refine Pr.mk ?_)
 all_goals (try simp (disch := omega) only [wi64, Int.zero_add] at *)
 all_goals first
  | ((conv => whnf); refine Sw.Loop.unroll ?_)
  | skip
 all_goals (repeat' ((try rw [w01]); (try rw [w11]); (try rw [w21]); (try rw [w31]); (try rw [w41]); (try rw [w51]); (try (conv => whnf)); first
  | refine call_0 ?_
  | refine call_i ?_ ?_
  | refine call_c ?_ (fun _ => ?_) (fun _ => ?_)
  | (with_reducible refine onB_t ?_)
  | (with_reducible refine onB_f ?_)
  | refine onB_dy (by first | decide | (simp only [List.length_cons, List.length_nil]; done) | (simp only [List.length_cons, List.length_nil]; decide)) ?_
  | refine onB_dn (by first | decide | (simp only [List.length_cons, List.length_nil]; done) | (simp only [List.length_cons, List.length_nil]; decide)) ?_
  | (with_reducible refine onB_d (fun _ => ?_) (fun _ => ?_))
  | (with_reducible refine onB_n (fun _ => ?_) (fun _ => ?_))
  | refine OnB.mk (fun _ => ?_) (fun _ => ?_)
  | refine obl_i ?_ ?_
  | refine Drw.mk (by kernel_rfl) ?_
  | refine mks_i ?_ ?_
  | refine slp_i ?_ ?_
  | (with_reducible refine elem_u ?_ ?_)
  | (with_reducible refine elem_0 ?_)
  | (with_reducible refine elem_1 ?_)
  | (with_reducible refine elem_2 ?_)
  | (with_reducible refine elem_3 ?_)
  | (with_reducible refine elem_4 ?_)
  | (with_reducible refine elem_5 ?_)
  | refine Ends.mk ?_))
 all_goals (try refine Pr.mk ?_)
 all_goals (try simp (disch := omega) only [wi64, Int.zero_add] at *)
 all_goals first
  | ((conv => whnf); refine Sw.Loop.unroll ?_)
  | skip
 all_goals (repeat' ((try rw [w01]); (try rw [w11]); (try rw [w21]); (try rw [w31]); (try rw [w41]); (try rw [w51]); (try (conv => whnf)); first
  | refine call_0 ?_
  | refine call_i ?_ ?_
  | refine call_c ?_ (fun _ => ?_) (fun _ => ?_)
  | (with_reducible refine onB_t ?_)
  | (with_reducible refine onB_f ?_)
  | refine onB_dy (by first | decide | (simp only [List.length_cons, List.length_nil]; done) | (simp only [List.length_cons, List.length_nil]; decide)) ?_
  | refine onB_dn (by first | decide | (simp only [List.length_cons, List.length_nil]; done) | (simp only [List.length_cons, List.length_nil]; decide)) ?_
  | (with_reducible refine onB_d (fun _ => ?_) (fun _ => ?_))
  | (with_reducible refine onB_n (fun _ => ?_) (fun _ => ?_))
  | refine OnB.mk (fun _ => ?_) (fun _ => ?_)
  | refine obl_i ?_ ?_
  | refine Drw.mk (by kernel_rfl) ?_
  | refine mks_i ?_ ?_
  | refine slp_i ?_ ?_
  | (with_reducible refine elem_u ?_ ?_)
  | (with_reducible refine elem_0 ?_)
  | (with_reducible refine elem_1 ?_)
  | (with_reducible refine elem_2 ?_)
  | (with_reducible refine elem_3 ?_)
  | (with_reducible refine elem_4 ?_)
  | (with_reducible refine elem_5 ?_)
  | refine Ends.mk ?_))
 all_goals (try refine Pr.mk ?_)
 all_goals (try simp (disch := omega) only [wi64, Int.zero_add] at *)
 all_goals first
  | rfl
  | omega
  | (exfalso; simp only [List.length_cons, List.length_nil] at *; omega)
  | (simp only [List.length_append, List.length_nil]; omega)
  | skip⟩

end Go.Proofs.YtigbdpkpaleboaaGreat

namespace Go.Sw
open Go Go.RowKit
set_option linter.unusedVariables false
theorem all_map {α : Type} {f : α → List Cell} {p : α → Prop} : ∀ {es : List (List Cell)}, (∀ x ∈ es, ∃ a, p a ∧ x = f a) → ∃ L : List α, L.length = es.length ∧ (∀ a ∈ L, p a) ∧ es = L.map f
  | [], _ => ⟨[], rfl, fun a h => by simp at h, rfl⟩
  | e :: r, h => by
    obtain ⟨a, ha, rfl⟩ := h e (by simp)
    obtain ⟨L, l1, l2, l3⟩ := all_map (es := r) fun x hx => h x (by simp [hx])
    exact ⟨a :: L, by simp [l1], fun b hb => by rcases List.mem_cons.1 hb with rfl | hb; exact ha; exact l2 b hb, by simp [l3]⟩
theorem fit_stks {c : Cell} (h : Fit (.slice (.cons (.cons (.int .i16) (.cons (.int .i16) (.cons (.int .i16) .nil))) (.cons (.cons (.int .i16) (.cons (.int .i16) (.cons (.int .i16) .nil))) (.cons (.int .u8) .nil)))) [c]) :
    ∃ L : List Stk, L.length ≤ maxLen ∧ (∀ s ∈ L, okS s) ∧ c = .sl 7 (L.map stC) := by
  obtain ⟨es, h1, h2, rfl⟩ := fit_slice h
  obtain ⟨L, l1, l2, l3⟩ := all_map (f := stC) (p := okS) (es := es) fun x hx => by
    obtain ⟨_, _, ⟨_, _, ⟨a, wa, rfl⟩, ⟨_, _, ⟨b, wb, rfl⟩, ⟨_, _, ⟨c, wc, rfl⟩, rfl, rfl⟩, rfl⟩, rfl⟩, ⟨_, _, ⟨_, _, ⟨d, wd, rfl⟩, ⟨_, _, ⟨e, we, rfl⟩, ⟨_, _, ⟨f, wf, rfl⟩, rfl, rfl⟩, rfl⟩, rfl⟩, ⟨_, _, ⟨r, wr, rfl⟩, rfl, rfl⟩, rfl⟩, rfl⟩ := h2 x hx
    obtain ⟨m, rfl, hm⟩ := wfNat (by simp) wr
    have := wfI16 wa; have := wfI16 wb; have := wfI16 wc; have := wfI16 wd; have := wfI16 we; have := wfI16 wf
    have hm' : m < 256 := hm
    exact ⟨⟨a, b, c, d, e, f, m⟩, by unfold okS smallI; simp only; omega, rfl⟩
  exact ⟨L, by omega, l2, by rw [l3]; rfl⟩
end Go.Sw

namespace Go.Sw
open Go
set_option linter.unusedVariables false
section
variable {L : List Cut7} {i k : Nat}
theorem isP2 {o p : Rt} (k : OkR o) (l : OkR p) : rz o.a ≤ 20000 ∧ rz o.b ≤ 20000 ∧ rz o.c ≤ 20000 ∧ rz p.a ≤ 20000 ∧ rz p.b ≤ 20000 ∧ rz p.c ≤ 20000 ∧ 0 ≤ p.c :=
  ⟨k.r20.1, k.r20.2.1, k.r20.2.2, l.r20.1, l.r20.2.1, l.r20.2.2, l.nn⟩
end
end Go.Sw

namespace Go.Sw
open Go
set_option linter.unusedVariables false
section
variable {hx hy lx ly r x y t : Rat} {hz lz mz : Int}
end
end Go.Sw

namespace Go.Sw
open Go
set_option linter.unusedVariables false
/-- The same cuts in another order. -/
theorem perm_height {x y : Rat} {L K : List Cut7} {o : Rt} (ho : 0 ≤ o.c) (h : ∀ c, c ∈ L ↔ c ∈ K) : cmpQ (hgt x y L o) (hgt x y K o) = 0 :=
  least_eq ho (least ho) (least ho) (fun c hc hs => ⟨c, (h c).2 hc, hs, by rw [cmpQ_self (swr_nn hs)]; decide⟩) (fun c hc hs => ⟨c, (h c).1 hc, hs, by rw [cmpQ_self (swr_nn hs)]; decide⟩)
theorem sub_height {x y : Rat} {L K : List Cut7} {o : Rt} (ho : 0 ≤ o.c) (h : ∀ c, c ∈ K → c ∈ L) : cmpQ (hgt x y L o) (hgt x y K o) ≤ 0 :=
  least_le ho (least ho) (least ho) (fun c hc hs => ⟨c, h c hc, hs, by rw [cmpQ_self (swr_nn hs)]; decide⟩)
end Go.Sw

namespace Go.Sw
open Go Go.RowKit
set_option linter.unusedVariables false
def turnL (L : List Cut7) (n : Nat) : List Cut7 := (L.drop n ++ L.take n).reverse
theorem turn_mem {L : List Cut7} {n : Nat} (c : Cut7) : c ∈ L ↔ c ∈ turnL L n := by
  unfold turnL
  rw [List.mem_reverse, List.mem_append]
  have h : c ∈ L ↔ c ∈ L.take n ++ L.drop n := by rw [List.take_append_drop]
  rw [h, List.mem_append]
  exact Or.comm
theorem turn_len {L : List Cut7} {n : Nat} : (turnL L n).length = L.length := by
  unfold turnL; simp; omega
theorem turn_med {L : List Cut7} {n : Nat} (h : ∀ c ∈ L, medC c) : ∀ c ∈ turnL L n, medC c := fun c hc => h c ((turn_mem c).2 hc)
theorem take_med {L : List Cut7} {n : Nat} (h : ∀ c ∈ L, medC c) : ∀ c ∈ L.take n, medC c := fun c hc => h c (List.mem_of_mem_take hc)
theorem take_len {L : List Cut7} {n : Nat} (h : L.length ≤ 12) : (L.take n).length ≤ 12 := by rw [List.length_take]; omega
theorem ord_is {x y : Rat} {L : List Cut7} {n : Nat} {o : Rt} (ho : 0 ≤ o.c) (h : OkR (hgt x y L o)) :
    (okQ (hgt x y L o).b (hgt x y L o).c && decide (cmp4 (hgt x y L o).a (hgt x y L o).b (hgt x y L o).c (hgt x y (turnL L n) o).a (hgt x y (turnL L n) o).b (hgt x y (turnL L n) o).c = 0)) = true := by
  rw [h.ok, decide_eq_true (show cmp4 _ _ _ _ _ _ = 0 from perm_height ho turn_mem)]; rfl
theorem ord_sub {x y : Rat} {L : List Cut7} {n : Nat} {o : Rt} (ho : 0 ≤ o.c) :
    cmp4 (hgt x y L o).a (hgt x y L o).b (hgt x y L o).c (hgt x y (L.take n) o).a (hgt x y (L.take n) o).b (hgt x y (L.take n) o).c ≤ 0 := sub_height ho fun c hc => List.mem_of_mem_take hc
/-- Two parts of the cuts, one behind the other, turned. -/
def cutM (L : List Cut7) (a b c d : Nat) : List Cut7 := (((L.take a).drop b) ++ ((L.take c).drop d)).reverse
theorem cutM_map {α : Type} {f : Cut7 → α} {L : List Cut7} {a b c d : Nat} : ((((L.map f).take a).drop b) ++ (((L.map f).take c).drop d)).reverse = (cutM L a b c d).map f := by
  unfold cutM; rw [List.map_reverse, List.map_append, List.map_drop, List.map_take, List.map_drop, List.map_take]
theorem part_map {α : Type} {f : Cut7 → α} {L : List Cut7} {a b : Nat} : (((L.map f).take a).drop b) = ((L.take a).drop b).map f := by
  rw [List.map_drop, List.map_take]
theorem cutM_turn {L : List Cut7} {n : Nat} : cutM L L.length n n 0 = turnL L n := by
  unfold cutM turnL; rw [List.take_length, List.drop_zero]
theorem tmodNN {k l : Nat} : (k : Int).tmod (l : Int) = ((k % l : Nat) : Int) := rfl
theorem tn0 : (0 : Int).toNat = 0 := rfl
end Go.Sw
