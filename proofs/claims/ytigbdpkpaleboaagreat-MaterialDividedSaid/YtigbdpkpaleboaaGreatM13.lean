/-
  What the functions radical.plain, radical.copied, radical.Sub, radical.apart answer, each out of its text by the abstract run.
  What the functions radical.quick answer, each out of its text by the abstract run.
  What the functions radical.Sign$1, radical.Sign, radical.Cmp, radical.CmpRat answer, each out of its text by the abstract run.
  The cuts that no other one dominates reach as low as all of them.
  The loops over lists of cuts.
  What the functions material.Height, swarfref52.Height answer, each out of its text by the abstract run.
  The loops that reduce lists of cuts.
  A cut that is divided at a point of its way reaches as low as its parts.
  A cut that is divided; lists of cuts in another order.
  Numbers of divided cuts; lists that are turned.
  Conditions: none.
-/
import Derived.Test.YtigbdpkpaleboaaGreatM12
set_option linter.all false
namespace Go.Proofs.YtigbdpkpaleboaaGreat
open Go Go.RowKit Go.Sw
set_option linter.unusedVariables false
set_option maxRecDepth 100000
set_option maxHeartbeats 8000000
set_option synthInstance.maxSize 4000
set_option synthInstance.maxHeartbeats 400000
theorem off157_0 : fieldOff Tryz.prog 157 0 = some 0 := by kernel_rfl
theorem one4 : isOne Tryz.prog 4 = true := by kernel_rfl
theorem row139 : isRow Tryz.prog 139 2 = true := by kernel_rfl

theorem with_true {w : World} {X : List Nat} {g : Nat} {T : TypeId} {l h : Int} {q : Bool} (hX : ∀ m ∈ X, m < w.heap.size) (hg : w.heap[g]? = some (.cells #[.bool true] T (0, 0))) :
    Calls Tryz.prog 164 #[.pointer (some ⟨g, 0, none⟩), .agg #[.int .i64 l, .int .i64 h], .bool q] w (Ret fun u w' => RepR w' X u (.agg [.v (.int .i64 l), .v (.int .i64 h)]) ∧ w.grownBy w' (some g) ∧ ∃ us' : List Value, w'.heap[g]? = some (.cells us'.toArray T (0, 0)) ∧ RepL w' X us' [.v (.bool q)]) := by
 have hgw : g < w.heap.size := by
  rcases Nat.lt_or_ge g w.heap.size with k | k
  · exact k
  · rw [Array.getElem?_eq_none k] at hg; cases hg
 refine enter (N := 18) (fn := Tryz.f164) (vs := [.pointer (some ⟨g, 0, none⟩), .agg #[.int .i64 l, .int .i64 h], .bool q]) Tryz.func164 rfl rfl rfl ?_
 intro fa hF
 replace hF : Frm 18 fa [(0, .pointer (some ⟨g, 0, none⟩)), (1, .agg #[.int .i64 l, .int .i64 h]), (2, .bool q)] := hF
 have hS := St.refl w
 refine c_seq ?_
 refine c_reg ?_
 refine st rfl (op_box (X := X) hF hS rfl rfl rfl ?_)
 intro g1 w2 hg4 hS E3; refine gen_ ?_; clear hF fa; intro fa hF
 replace hS : St w w2 [(g1, 139, #[.int .i64 l, .int .i64 h])] := hS
 refine st rfl (op_alloc (X := (g1 :: X)) hF hS rfl (show zeroOf Tryz.prog 139 = some #[.int .i64 0, .int .i64 0] by kernel_rfl) ?_)
 intro g5 w6 hg8 hS E7; refine gen_ ?_; clear hF fa; intro fa hF
 replace hS : St w w6 [(g5, 139, #[.int .i64 0, .int .i64 0]), (g1, 139, #[.int .i64 l, .int .i64 h])] := hS
 have hg6 : w6.heap[g]? = some (.cells #[.bool true] T (0, 0)) := by rw [hS.below.block g hgw]; exact hg
 refine c_nil_then ?_
 refine c_seq ?_
 refine c_reg ?_
 refine st_val hF rfl rfl rfl (ex_move (hF.ev rfl)) ?_
 clear hF fa; intro fa hF
 refine st_val hF rfl rfl rfl (ex_move (hF.ev rfl)) ?_
 clear hF fa; intro fa hF
 refine st_val hF rfl rfl rfl (ex_nilc (hF.ev rfl)) ?_
 clear hF fa; intro fa hF
 refine st_val hF rfl rfl rfl (ex_field_addr off157_0 (hF.ev rfl)) ?_
 clear hF fa; intro fa hF
 refine st_val hF rfl rfl rfl (ex_load1b one4 (hF.ev rfl) hg6 rfl) ?_
 clear hF fa; intro fa hF
 refine st_val hF rfl rfl rfl (ex_move (hF.ev rfl)) ?_
 clear hF fa; intro fa hF
 refine stg_val hF rfl rfl rfl rfl (ex_move (hF.ev rfl)) ?_
 clear hF fa; intro fa hF
 refine st_val hF rfl rfl rfl (ex_pick (hF.ev rfl) (fun _ => hF.ev rfl) (v := undef) (fun h => by cases h) rfl) ?_
 clear hF fa; intro fa hF
 refine st_val hF rfl rfl rfl (ex_nilc (hF.ev rfl)) ?_
 clear hF fa; intro fa hF
 refine st_val hF rfl rfl rfl (ex_field_addr off157_0 (hF.ev rfl)) ?_
 clear hF fa; intro fa hF
 refine st rfl (op_storeg (vs := #[.bool q]) hF hg6 rfl rfl rfl (show (Tryz.prog.info? 4).map (fun i => i.size) = some 1 by kernel_rfl) rfl (Nat.le_of_ble_eq_true rfl) ?_)
 replace hS := hS.over (splice #[.bool true] 0 #[.bool q]) hgw
 have hg7 : (w6.setRow g (splice #[.bool true] 0 #[.bool q])).heap[g]? = some (.cells #[.bool q] T (0, 0)) := setRow_heap w6 g _ _ T _ hg6
 generalize w6.setRow g (splice #[.bool true] 0 #[.bool q]) = w7 at *
 refine c_nil_then ?_
 refine c_seq ?_
 refine c_reg ?_
 refine st_val hF rfl rfl rfl (ex_loadb row139 (hF.ev rfl) (hS.get 1 rfl) rfl) ?_
 clear hF fa; intro fa hF
 refine st rfl (op_store (X := (g5 :: (g1 :: X))) hF hS 0 rfl (by simp) rfl rfl rfl (show (Tryz.prog.info? 139).map (fun i => i.size) = some 2 by kernel_rfl) rfl (Nat.le_of_ble_eq_true rfl) ?_)
 intro w8 hS E9
 have hg8' : w8.heap[g]? = some (.cells #[.bool q] T (0, 0)) := by rw [hS.below.block g (by rw [setRow_sz]; exact hgw), setRow_heap w g _ _ T _ hg]; rfl
 replace hS : St (w.setRow g (splice #[.bool true] 0 #[.bool q])) w8 [(g5, 139, #[.int .i64 l, .int .i64 h]), (g1, 139, #[.int .i64 l, .int .i64 h])] := hS
 refine c_nil_then ?_
 refine c_ret ?_
 refine end1 hF rfl (res_cell hF rfl row139 (hS.get 0 rfl) rfl) ?_
 exact ⟨_, rfl, .d (.agg (.of2 rfl rfl)), hS.grown, [.bool q], hg8', .cons (.v _ rfl) (.nil _ _)⟩

theorem with_false {w : World} {X : List Nat} {g : Nat} {T : TypeId} {l h : Int} {q : Bool} (hX : ∀ m ∈ X, m < w.heap.size) (hg : w.heap[g]? = some (.cells #[.bool false] T (0, 0))) :
    Calls Tryz.prog 164 #[.pointer (some ⟨g, 0, none⟩), .agg #[.int .i64 l, .int .i64 h], .bool q] w (Ret fun u w' => RepR w' X u (.agg [.v (.int .i64 l), .v (.int .i64 h)]) ∧ w.grownBy w' (some g) ∧ ∃ us' : List Value, w'.heap[g]? = some (.cells us'.toArray T (0, 0)) ∧ RepL w' X us' [.v (.bool false)]) := by
 have hgw : g < w.heap.size := by
  rcases Nat.lt_or_ge g w.heap.size with k | k
  · exact k
  · rw [Array.getElem?_eq_none k] at hg; cases hg
 refine enter (N := 18) (fn := Tryz.f164) (vs := [.pointer (some ⟨g, 0, none⟩), .agg #[.int .i64 l, .int .i64 h], .bool q]) Tryz.func164 rfl rfl rfl ?_
 intro fa hF
 replace hF : Frm 18 fa [(0, .pointer (some ⟨g, 0, none⟩)), (1, .agg #[.int .i64 l, .int .i64 h]), (2, .bool q)] := hF
 have hS := St.refl w
 refine c_seq ?_
 refine c_reg ?_
 refine st rfl (op_box (X := X) hF hS rfl rfl rfl ?_)
 intro g1 w2 hg4 hS E3; refine gen_ ?_; clear hF fa; intro fa hF
 replace hS : St w w2 [(g1, 139, #[.int .i64 l, .int .i64 h])] := hS
 refine st rfl (op_alloc (X := (g1 :: X)) hF hS rfl (show zeroOf Tryz.prog 139 = some #[.int .i64 0, .int .i64 0] by kernel_rfl) ?_)
 intro g5 w6 hg8 hS E7; refine gen_ ?_; clear hF fa; intro fa hF
 replace hS : St w w6 [(g5, 139, #[.int .i64 0, .int .i64 0]), (g1, 139, #[.int .i64 l, .int .i64 h])] := hS
 have hg6 : w6.heap[g]? = some (.cells #[.bool false] T (0, 0)) := by rw [hS.below.block g hgw]; exact hg
 refine c_nil_then ?_
 refine c_seq ?_
 refine c_reg ?_
 refine st_val hF rfl rfl rfl (ex_move (hF.ev rfl)) ?_
 clear hF fa; intro fa hF
 refine st_val hF rfl rfl rfl (ex_move (hF.ev rfl)) ?_
 clear hF fa; intro fa hF
 refine st_val hF rfl rfl rfl (ex_nilc (hF.ev rfl)) ?_
 clear hF fa; intro fa hF
 refine st_val hF rfl rfl rfl (ex_field_addr off157_0 (hF.ev rfl)) ?_
 clear hF fa; intro fa hF
 refine st_val hF rfl rfl rfl (ex_load1b one4 (hF.ev rfl) hg6 rfl) ?_
 clear hF fa; intro fa hF
 refine st_val hF rfl rfl rfl (ex_move (hF.ev rfl)) ?_
 clear hF fa; intro fa hF
 refine st_skip hF rfl rfl rfl rfl rfl ?_
 clear hF fa; intro fa hF
 refine st_val hF rfl rfl rfl (ex_pick (hF.ev rfl) (u := undef) (fun h => by cases h) (fun _ => hF.ev rfl) rfl) ?_
 clear hF fa; intro fa hF
 refine st_val hF rfl rfl rfl (ex_nilc (hF.ev rfl)) ?_
 clear hF fa; intro fa hF
 refine st_val hF rfl rfl rfl (ex_field_addr off157_0 (hF.ev rfl)) ?_
 clear hF fa; intro fa hF
 refine st rfl (op_storeg (vs := #[.bool false]) hF hg6 rfl rfl rfl (show (Tryz.prog.info? 4).map (fun i => i.size) = some 1 by kernel_rfl) rfl (Nat.le_of_ble_eq_true rfl) ?_)
 replace hS := hS.over (splice #[.bool false] 0 #[.bool false]) hgw
 have hg7 : (w6.setRow g (splice #[.bool false] 0 #[.bool false])).heap[g]? = some (.cells #[.bool false] T (0, 0)) := setRow_heap w6 g _ _ T _ hg6
 generalize w6.setRow g (splice #[.bool false] 0 #[.bool false]) = w7 at *
 refine c_nil_then ?_
 refine c_seq ?_
 refine c_reg ?_
 refine st_val hF rfl rfl rfl (ex_loadb row139 (hF.ev rfl) (hS.get 1 rfl) rfl) ?_
 clear hF fa; intro fa hF
 refine st rfl (op_store (X := (g5 :: (g1 :: X))) hF hS 0 rfl (by simp) rfl rfl rfl (show (Tryz.prog.info? 139).map (fun i => i.size) = some 2 by kernel_rfl) rfl (Nat.le_of_ble_eq_true rfl) ?_)
 intro w8 hS E9
 have hg8' : w8.heap[g]? = some (.cells #[.bool false] T (0, 0)) := by rw [hS.below.block g (by rw [setRow_sz]; exact hgw), setRow_heap w g _ _ T _ hg]; rfl
 replace hS : St (w.setRow g (splice #[.bool false] 0 #[.bool false])) w8 [(g5, 139, #[.int .i64 l, .int .i64 h]), (g1, 139, #[.int .i64 l, .int .i64 h])] := hS
 refine c_nil_then ?_
 refine c_ret ?_
 refine end1 hF rfl (res_cell hF rfl row139 (hS.get 0 rfl) rfl) ?_
 exact ⟨_, rfl, .d (.agg (.of2 rfl rfl)), hS.grown, [.bool false], hg8', .cons (.v _ rfl) (.nil _ _)⟩

instance x_with (p q : Bool) (l h : Int) : DenI Tryz.prog 164 [.tup [.agg [.v (.bool p)]], .agg [.v (.int .i64 l), .v (.int .i64 h)], .bool q] True (.tup [.agg [.v (.bool (p && q))], .agg [.v (.int .i64 l), .v (.int .i64 h)]]) :=
 ⟨fun _ => ⟨by kernel_rfl, fun w X g T us vs hX hg hU hl hv => by
  match vs, hl with
  | [u, v], _ =>
   have e1 := (hv 0 u _ rfl rfl).agg_v2
   have e2 := (hv 1 v _ rfl rfl).v_eq
   have e3 := hU.v1
   subst e1 e2 e3
   cases p with
   | true => exact with_true hX hg
   | false => exact with_false hX hg⟩⟩

instance x_plain (a b c : Rat) : DenI Tryz.prog 103 [R a, R b, R c] (rz a ≤ 3300000 ∧ rz b ≤ 3300000 ∧ rz c ≤ 3300000) (.int .i64 (exI a b c)) := ⟨fun hp => by
 have i_a : RzB a 3300000 := ⟨hp.1⟩
 have i_b : RzB b 3300000 := ⟨hp.2.1⟩
 have i_c : RzB c 3300000 := ⟨hp.2.2⟩
 all_goals refine den_of (τ := tab) tab_ok mixed_ Tryz.func103 rfl (by kernel_rfl) (by kernel_rfl) (by kernel_rfl) ?_
 all_goals (repeat' ((try (conv => whnf)); first
  | refine call_0 ?_
  | refine call_i ?_ ?_
  | refine call_c ?_ (fun _ => ?_) (fun _ => ?_)
  | (with_reducible refine onB_t ?_)
  | (with_reducible refine onB_f ?_)
  | (with_reducible refine onB_d (fun _ => ?_) (fun _ => ?_))
  | (with_reducible refine onB_n (fun _ => ?_) (fun _ => ?_))
  | refine OnB.mk (fun _ => ?_) (fun _ => ?_)
  | refine obl_i ?_ ?_
  | refine Drw.mk (by kernel_rfl) ?_
  | refine mks_i ?_ ?_
  | refine slp_i ?_ ?_
  | (with_reducible refine elem_u ?_ ?_)
  | (with_reducible refine elem_0 ?_)
  | (with_reducible refine elem_1 ?_)
  | refine Ends.mk ?_))
 all_goals (try refine Pr.mk ?_)
 all_goals (try simp only [sgnI_lt0, sgnI_zero, sgnI_le0, sgnI_gt0, sgnI_ge0, sgnI_eq1, cmpI_lt0, cmpI_gt0, cmpI_eq0, cmpI_le0, cmpI_ge0, cmpR_of, sgnR_of, sgnR_lt0, sgnR_eq0, sgnR_gt0, sgnR_le0, sgnR_ge0, sgnR_eq1, cmpR_lt0, cmpR_gt0, cmpR_eq0, cmpR_le0, cmpR_ge0] at *)
 all_goals (try simp only [w_ss, w_sc, w_xs, w_xx] at *)
 all_goals first
  | contradiction
  | with_reducible exact pl_1 (by assumption)
  | with_reducible exact pl_2 (by assumption)
  | with_reducible exact pl_3 (by assumption) (by assumption) (by assumption)
  | with_reducible exact pl_4 (by assumption) (by assumption) (by assumption)
  | ((repeat' apply And.intro) <;> first | assumption | exact rzb (by omega) | exact szb (by omega) | exact Int.mul_ne_zero (den_ne _) (den_ne _))
  | skip⟩

instance x_copied (a : Rat) : DenI Tryz.prog 140 [R a] (rz a ≤ 4000000) (R a) := ⟨fun hp => by
 have i_a : RzB a 4000000 := ⟨hp⟩
 all_goals refine den_of (τ := tab) tab_ok mixed_ Tryz.func140 rfl (by kernel_rfl) (by kernel_rfl) (by kernel_rfl) ?_
 all_goals (repeat' ((try (conv => whnf)); first
  | refine call_0 ?_
  | refine call_i ?_ ?_
  | refine call_c ?_ (fun _ => ?_) (fun _ => ?_)
  | (with_reducible refine onB_t ?_)
  | (with_reducible refine onB_f ?_)
  | (with_reducible refine onB_d (fun _ => ?_) (fun _ => ?_))
  | (with_reducible refine onB_n (fun _ => ?_) (fun _ => ?_))
  | refine OnB.mk (fun _ => ?_) (fun _ => ?_)
  | refine obl_i ?_ ?_
  | refine Drw.mk (by kernel_rfl) ?_
  | refine mks_i ?_ ?_
  | refine slp_i ?_ ?_
  | (with_reducible refine elem_u ?_ ?_)
  | (with_reducible refine elem_0 ?_)
  | (with_reducible refine elem_1 ?_)
  | refine Ends.mk ?_))
 all_goals (try refine Pr.mk ?_)
 all_goals (try simp only [sgnI_lt0, sgnI_zero, sgnI_le0, sgnI_gt0, sgnI_ge0, sgnI_eq1, cmpI_lt0, cmpI_gt0, cmpI_eq0, cmpI_le0, cmpI_ge0, cmpR_of, sgnR_of, sgnR_lt0, sgnR_eq0, sgnR_gt0, sgnR_le0, sgnR_ge0, sgnR_eq1, cmpR_lt0, cmpR_gt0, cmpR_eq0, cmpR_le0, cmpR_ge0] at *)
 all_goals first
  | exact congrArg R (Rat.neg_neg a)
  | rfl
  | (simp only [redB, redC, mkA, mkB, mkC, cooC, ptC, *, true_or, or_true, if_true, if_false, or_self, and_self, and_true, true_and, and_false, false_and, not_true, not_false_iff, Bool.false_eq_true, decide_true, decide_false, Bool.or_true, Bool.true_or, Bool.or_false, Bool.false_or]; rfl)
  | ((repeat' apply And.intro) <;> first | assumption | exact rzb (by omega) | exact szb (by omega) | exact Int.mul_ne_zero (den_ne _) (den_ne _))
  | (exfalso; simp_all; done)
  | (exfalso; grind)
  | omega
  | ((repeat' apply And.intro) <;> first | assumption | exact rzb (by omega) | exact szb (by omega) | exact Int.mul_ne_zero (den_ne _) (den_ne _))
  | skip⟩

instance x_rsub (a b c d e f : Rat) : DenI Tryz.prog 105 [Q3 a b c, Q3 d e f] (rz a ≤ 20000 ∧ rz b ≤ 20000 ∧ rz c ≤ 20000 ∧ rz d ≤ 20000 ∧ rz e ≤ 20000 ∧ rz f ≤ 20000) (Q6 (a - d) b (-e) 0 c f) := ⟨fun hp => by
 have i_a : RzB a 20000 := ⟨hp.1⟩
 have i_b : RzB b 20000 := ⟨hp.2.1⟩
 have i_c : RzB c 20000 := ⟨hp.2.2.1⟩
 have i_d : RzB d 20000 := ⟨hp.2.2.2.1⟩
 have i_e : RzB e 20000 := ⟨hp.2.2.2.2.1⟩
 have i_f : RzB f 20000 := ⟨hp.2.2.2.2.2⟩
 all_goals refine den_of (τ := tab) tab_ok mixed_ Tryz.func105 rfl (by kernel_rfl) (by kernel_rfl) (by kernel_rfl) ?_
 all_goals (repeat' ((try (conv => whnf)); first
  | refine call_0 ?_
  | refine call_i ?_ ?_
  | refine call_c ?_ (fun _ => ?_) (fun _ => ?_)
  | (with_reducible refine onB_t ?_)
  | (with_reducible refine onB_f ?_)
  | (with_reducible refine onB_d (fun _ => ?_) (fun _ => ?_))
  | (with_reducible refine onB_n (fun _ => ?_) (fun _ => ?_))
  | refine OnB.mk (fun _ => ?_) (fun _ => ?_)
  | refine obl_i ?_ ?_
  | refine Drw.mk (by kernel_rfl) ?_
  | refine mks_i ?_ ?_
  | refine slp_i ?_ ?_
  | (with_reducible refine elem_u ?_ ?_)
  | (with_reducible refine elem_0 ?_)
  | (with_reducible refine elem_1 ?_)
  | refine Ends.mk ?_))
 all_goals (try refine Pr.mk ?_)
 all_goals (try simp only [sgnI_lt0, sgnI_zero, sgnI_le0, sgnI_gt0, sgnI_ge0, sgnI_eq1, cmpI_lt0, cmpI_gt0, cmpI_eq0, cmpI_le0, cmpI_ge0, cmpR_of, sgnR_of, sgnR_lt0, sgnR_eq0, sgnR_gt0, sgnR_le0, sgnR_ge0, sgnR_eq1, cmpR_lt0, cmpR_gt0, cmpR_eq0, cmpR_le0, cmpR_ge0] at *)
 all_goals first
  | rfl
  | (simp only [redB, redC, mkA, mkB, mkC, cooC, ptC, *, true_or, or_true, if_true, if_false, or_self, and_self, and_true, true_and, and_false, false_and, not_true, not_false_iff, Bool.false_eq_true, decide_true, decide_false, Bool.or_true, Bool.true_or, Bool.or_false, Bool.false_or]; rfl)
  | ((repeat' apply And.intro) <;> first | assumption | exact rzb (by omega) | exact szb (by omega) | exact Int.mul_ne_zero (den_ne _) (den_ne _))
  | (exfalso; simp_all; done)
  | (exfalso; grind)
  | omega
  | ((repeat' apply And.intro) <;> first | assumption | exact rzb (by omega) | exact szb (by omega) | exact Int.mul_ne_zero (den_ne _) (den_ne _))
  | skip⟩

instance x_apart (a b c d e f : Rat) : DenI Tryz.prog 102 [Q3 a b c, Q3 d e f] (rz a ≤ 20000 ∧ rz b ≤ 20000 ∧ rz c ≤ 20000 ∧ rz d ≤ 20000 ∧ rz e ≤ 20000 ∧ rz f ≤ 20000) (.tup [.int .i64 (apartI (rootI a b c) (rootI d e f)).1, .bool (apartI (rootI a b c) (rootI d e f)).2]) := ⟨fun hp => by
 have i_a : RzB a 20000 := ⟨hp.1⟩
 have i_b : RzB b 20000 := ⟨hp.2.1⟩
 have i_c : RzB c 20000 := ⟨hp.2.2.1⟩
 have i_d : RzB d 20000 := ⟨hp.2.2.2.1⟩
 have i_e : RzB e 20000 := ⟨hp.2.2.2.2.1⟩
 have i_f : RzB f 20000 := ⟨hp.2.2.2.2.2⟩
 all_goals refine den_of (τ := tab) tab_ok mixed_ Tryz.func102 rfl (by kernel_rfl) (by kernel_rfl) (by kernel_rfl) ?_
 all_goals (repeat' ((try (conv => whnf)); first
  | refine call_0 ?_
  | refine call_i ?_ ?_
  | refine call_c ?_ (fun _ => ?_) (fun _ => ?_)
  | (with_reducible refine onB_t ?_)
  | (with_reducible refine onB_f ?_)
  | (with_reducible refine onB_d (fun _ => ?_) (fun _ => ?_))
  | (with_reducible refine onB_n (fun _ => ?_) (fun _ => ?_))
  | refine OnB.mk (fun _ => ?_) (fun _ => ?_)
  | refine obl_i ?_ ?_
  | refine Drw.mk (by kernel_rfl) ?_
  | refine mks_i ?_ ?_
  | refine slp_i ?_ ?_
  | (with_reducible refine elem_u ?_ ?_)
  | (with_reducible refine elem_0 ?_)
  | (with_reducible refine elem_1 ?_)
  | refine Ends.mk ?_))
 all_goals (try refine Pr.mk ?_)
 all_goals (try simp only [sgnI_lt0, sgnI_zero, sgnI_le0, sgnI_gt0, sgnI_ge0, sgnI_eq1, cmpI_lt0, cmpI_gt0, cmpI_eq0, cmpI_le0, cmpI_ge0, cmpR_of, sgnR_of, sgnR_lt0, sgnR_eq0, sgnR_gt0, sgnR_le0, sgnR_ge0, sgnR_eq1, cmpR_lt0, cmpR_gt0, cmpR_eq0, cmpR_le0, cmpR_ge0] at *)
 all_goals first
  | (refine ap_n1 ?_; simp_all; done)
  | (refine ap_n2 ?_; simp_all; done)
  | (refine ap_lt ?_ ?_ ?_ <;> first | assumption | (simp_all; done))
  | (refine ap_gt ?_ ?_ ?_ ?_ <;> first | assumption | (simp_all; done))
  | (refine ap_no ?_ ?_ ?_ ?_ <;> first | assumption | (simp_all; done))
  | ((repeat' apply And.intro) <;> first | assumption | exact rzb (by omega) | exact szb (by omega) | exact Int.mul_ne_zero (den_ne _) (den_ne _))
  | skip⟩

end Go.Proofs.YtigbdpkpaleboaaGreat

namespace Go.Proofs.YtigbdpkpaleboaaGreat
open Go Go.RowKit Go.Sw
set_option linter.unusedVariables false
set_option maxRecDepth 100000
set_option maxHeartbeats 8000000
set_option synthInstance.maxSize 4000
set_option synthInstance.maxHeartbeats 400000
instance x_quick (a b c d m n : Rat) : DenI Tryz.prog 138 [Q6 a b c d m n] (rz a ≤ 80010 ∧ rz b ≤ 80010 ∧ rz c ≤ 80010 ∧ rz d ≤ 80010 ∧ rz m ≤ 80010 ∧ rz n ≤ 80010) (.tup [.int .i64 (quickA a b c d m n).1, .bool (quickA a b c d m n).2]) := ⟨fun hp => by
 have z_a := ivB_from a
 have z_b := ivB_from b
 have z_c := ivB_from c
 have z_d := ivB_from d
 have z_m := ivB_from m
 have z_n := ivB_from n
 have z1 := ivB_sqrt z_m
 have z2 := ivB_sqrt z_n
 have z3 := ivB_mul (gF b) (gS m)
 have z4 := ivB_mul (gF c) (gS n)
 have z5 := ivB_mul (gS m) (gS n)
 have z6 := ivB_mul (gF d) (gK m n)
 have z7 := ivB_add z_a z3
 have z8 := ivB_add z4 z6
 have z9 := ivB_add z7 z8
 have i_a : RzB a 80010 := ⟨hp.1⟩
 have i_b : RzB b 80010 := ⟨hp.2.1⟩
 have i_c : RzB c 80010 := ⟨hp.2.2.1⟩
 have i_d : RzB d 80010 := ⟨hp.2.2.2.1⟩
 have i_m : RzB m 80010 := ⟨hp.2.2.2.2.1⟩
 have i_n : RzB n 80010 := ⟨hp.2.2.2.2.2⟩
 all_goals refine den_of (τ := tab) tab_ok mixed_ Tryz.func138 rfl (by kernel_rfl) (by kernel_rfl) (by kernel_rfl) ?_
 all_goals (repeat' ((try (conv => whnf)); first
  | refine call_0 ?_
  | refine call_i ?_ ?_
  | refine call_c ?_ (fun _ => ?_) (fun _ => ?_)
  | (with_reducible refine onB_t ?_)
  | (with_reducible refine onB_f ?_)
  | (with_reducible refine onB_d (fun _ => ?_) (fun _ => ?_))
  | (with_reducible refine onB_n (fun _ => ?_) (fun _ => ?_))
  | refine OnB.mk (fun _ => ?_) (fun _ => ?_)
  | refine obl_i ?_ ?_
  | refine Drw.mk (by kernel_rfl) ?_
  | refine mks_i ?_ ?_
  | refine slp_i ?_ ?_
  | (with_reducible refine elem_u ?_ ?_)
  | (with_reducible refine elem_0 ?_)
  | (with_reducible refine elem_1 ?_)
  | refine Ends.mk ?_))
 all_goals (try refine Pr.mk ?_)
 all_goals (try simp only [sgnI_lt0, sgnI_zero, sgnI_le0, sgnI_gt0, sgnI_ge0, sgnI_eq1, cmpI_lt0, cmpI_gt0, cmpI_eq0, cmpI_le0, cmpI_ge0, cmpR_of, sgnR_of, sgnR_lt0, sgnR_eq0, sgnR_gt0, sgnR_le0, sgnR_ge0, sgnR_eq1, cmpR_lt0, cmpR_gt0, cmpR_eq0, cmpR_le0, cmpR_ge0] at *)
 all_goals (try simp only [Prod.eta, Bool.true_and] at *)
 all_goals first
  | exact iv1 z_m
  | exact iv1 z_n
  | exact iv2 z_b z1
  | exact iv2 z_c z2
  | exact iv2 z1 z2
  | exact iv2 z_d z5
  | exact iv2 z_a z3
  | exact iv2 z4 z6
  | exact iv2 z7 z8
  | (refine qk_n (fun k => ?_); obtain ⟨k1, k2, k3, k4, k5, k6, k7, k8, k9, k10, k11, k12, k13, k14, k15⟩ := k; simp_all; done)
  | (rename_i h; simp only [Bool.not_eq_false', Bool.and_eq_true] at h; obtain ⟨⟨⟨⟨⟨⟨⟨⟨⟨⟨⟨⟨⟨⟨h1, h2⟩, h3⟩, h4⟩, h5⟩, h6⟩, h7⟩, h8⟩, h9⟩, h10⟩, h11⟩, h12⟩, h13⟩, h14⟩, h15⟩ := h; rw [quickA_y ⟨h1, h2, h3, h4, h5, h6, h7, h8, h9, h10, h11, h12, h13, h14, h15⟩]; first | done | rfl)
  | ((repeat' apply And.intro) <;> first | assumption | exact rzb (by omega) | exact szb (by omega) | exact Int.mul_ne_zero (den_ne _) (den_ne _))
  | skip⟩

end Go.Proofs.YtigbdpkpaleboaaGreat

namespace Go.Proofs.YtigbdpkpaleboaaGreat
open Go Go.RowKit Go.Sw
set_option linter.unusedVariables false
set_option maxRecDepth 100000
set_option maxHeartbeats 8000000
set_option synthInstance.maxSize 4000
set_option synthInstance.maxHeartbeats 400000
instance x_sadd (a b : Rat) : DenI Tryz.prog 139 [R a, R b] (rz a ≤ 4000000 ∧ rz b ≤ 4000000) (R (a + b)) := ⟨fun hp => by
 have i_a : RzB a 4000000 := ⟨hp.1⟩
 have i_b : RzB b 4000000 := ⟨hp.2⟩
 all_goals refine den_of (τ := tab) tab_ok mixed_ Tryz.func139 rfl (by kernel_rfl) (by kernel_rfl) (by kernel_rfl) ?_
 all_goals (repeat' ((try (conv => whnf)); first
  | refine call_0 ?_
  | refine call_i ?_ ?_
  | refine call_c ?_ (fun _ => ?_) (fun _ => ?_)
  | (with_reducible refine onB_t ?_)
  | (with_reducible refine onB_f ?_)
  | (with_reducible refine onB_d (fun _ => ?_) (fun _ => ?_))
  | (with_reducible refine onB_n (fun _ => ?_) (fun _ => ?_))
  | refine OnB.mk (fun _ => ?_) (fun _ => ?_)
  | refine obl_i ?_ ?_
  | refine Drw.mk (by kernel_rfl) ?_
  | refine mks_i ?_ ?_
  | refine slp_i ?_ ?_
  | (with_reducible refine elem_u ?_ ?_)
  | (with_reducible refine elem_0 ?_)
  | (with_reducible refine elem_1 ?_)
  | refine Ends.mk ?_))
 all_goals (try refine Pr.mk ?_)
 all_goals (try simp only [sgnI_lt0, sgnI_zero, sgnI_le0, sgnI_gt0, sgnI_ge0, sgnI_eq1, cmpI_lt0, cmpI_gt0, cmpI_eq0, cmpI_le0, cmpI_ge0, cmpR_of, sgnR_of, sgnR_lt0, sgnR_eq0, sgnR_gt0, sgnR_le0, sgnR_ge0, sgnR_eq1, cmpR_lt0, cmpR_gt0, cmpR_eq0, cmpR_le0, cmpR_ge0] at *)
 all_goals first
  | rfl
  | (simp only [redB, redC, mkA, mkB, mkC, cooC, ptC, *, true_or, or_true, if_true, if_false, or_self, and_self, and_true, true_and, and_false, false_and, not_true, not_false_iff, Bool.false_eq_true, decide_true, decide_false, Bool.or_true, Bool.true_or, Bool.or_false, Bool.false_or]; rfl)
  | ((repeat' apply And.intro) <;> first | assumption | exact rzb (by omega) | exact szb (by omega) | exact Int.mul_ne_zero (den_ne _) (den_ne _))
  | (exfalso; simp_all; done)
  | (exfalso; grind)
  | omega
  | ((repeat' apply And.intro) <;> first | assumption | exact rzb (by omega) | exact szb (by omega) | exact Int.mul_ne_zero (den_ne _) (den_ne _))
  | skip⟩

instance x_rsign (a : Rat) (b c d m n : Rat) : DenI Tryz.prog 104 [Q6 a b c d m n] (rz b ≤ 20010 ∧ rz c ≤ 20010 ∧ rz d ≤ 20010 ∧ rz m ≤ 20010 ∧ rz n ≤ 20010 ∧ rz a ≤ 80010 ∧ 0 ≤ m ∧ 0 ≤ n) (.int .i64 (sg4 a b c d m n)) := ⟨fun hp => by
 have i_b : RzB b 20010 := ⟨hp.1⟩
 have i_c : RzB c 20010 := ⟨hp.2.1⟩
 have i_d : RzB d 20010 := ⟨hp.2.2.1⟩
 have i_m : RzB m 20010 := ⟨hp.2.2.2.1⟩
 have i_n : RzB n 20010 := ⟨hp.2.2.2.2.1⟩
 have hpre := hp.2.2.2.2.2
 have i_a : RzB a 80010 := ⟨hpre.1⟩
 obtain ⟨_, h_m, h_n⟩ := hpre
 all_goals refine den_of (τ := tab) tab_ok mixed_ Tryz.func104 rfl (by kernel_rfl) (by kernel_rfl) (by kernel_rfl) ?_
 all_goals (repeat' ((try (conv => whnf)); first
  | refine call_0 ?_
  | refine call_i ?_ ?_
  | refine call_c ?_ (fun _ => ?_) (fun _ => ?_)
  | (with_reducible refine onB_t ?_)
  | (with_reducible refine onB_f ?_)
  | (with_reducible refine onB_d (fun _ => ?_) (fun _ => ?_))
  | (with_reducible refine onB_n (fun _ => ?_) (fun _ => ?_))
  | refine OnB.mk (fun _ => ?_) (fun _ => ?_)
  | refine obl_i ?_ ?_
  | refine Drw.mk (by kernel_rfl) ?_
  | refine mks_i ?_ ?_
  | refine slp_i ?_ ?_
  | (with_reducible refine elem_u ?_ ?_)
  | (with_reducible refine elem_0 ?_)
  | (with_reducible refine elem_1 ?_)
  | refine Ends.mk ?_))
 all_goals (try refine Pr.mk ?_)
 all_goals (try simp only [sgnI_lt0, sgnI_zero, sgnI_le0, sgnI_gt0, sgnI_ge0, sgnI_eq1, cmpI_lt0, cmpI_gt0, cmpI_eq0, cmpI_le0, cmpI_ge0, cmpR_of, sgnR_of, sgnR_lt0, sgnR_eq0, sgnR_gt0, sgnR_le0, sgnR_ge0, sgnR_eq1, cmpR_lt0, cmpR_gt0, cmpR_eq0, cmpR_le0, cmpR_ge0] at *)
 all_goals (try simp only [w_ss, w_sc, w_xs, w_xx] at *)
 all_goals first
  | contradiction
  | exact rsg_1 h_m h_n (by assumption)
  | with_reducible exact rs_1 (by assumption)
  | with_reducible exact rs_2 (by assumption)
  | with_reducible exact rs_3 (by assumption) (by assumption) (by assumption)
  | with_reducible exact rs_4 (by assumption) (by assumption) (by assumption)
  | (exfalso; grind)
  | ((repeat' apply And.intro) <;> first | assumption | exact rzb (by omega) | exact szb (by omega) | exact Int.mul_ne_zero (den_ne _) (den_ne _))
  | skip⟩

instance x_rcmp (a b c d e f : Rat) : DenI Tryz.prog 66 [Q3 a b c, Q3 d e f] (rz a ≤ 20000 ∧ rz b ≤ 20000 ∧ rz c ≤ 20000 ∧ rz d ≤ 20000 ∧ rz e ≤ 20000 ∧ rz f ≤ 20000 ∧ 0 ≤ c ∧ 0 ≤ f) (.int .i64 (cmp4 a b c d e f)) := ⟨fun hp => by
 have i_a : RzB a 20000 := ⟨hp.1⟩
 have i_b : RzB b 20000 := ⟨hp.2.1⟩
 have i_c : RzB c 20000 := ⟨hp.2.2.1⟩
 have i_d : RzB d 20000 := ⟨hp.2.2.2.1⟩
 have i_e : RzB e 20000 := ⟨hp.2.2.2.2.1⟩
 have i_f : RzB f 20000 := ⟨hp.2.2.2.2.2.1⟩
 have hpre := hp.2.2.2.2.2.2
 all_goals refine den_of (τ := tab) tab_ok mixed_ Tryz.func66 rfl (by kernel_rfl) (by kernel_rfl) (by kernel_rfl) ?_
 all_goals (repeat' ((try (conv => whnf)); first
  | refine call_0 ?_
  | refine call_i ?_ ?_
  | refine call_c ?_ (fun _ => ?_) (fun _ => ?_)
  | (with_reducible refine onB_t ?_)
  | (with_reducible refine onB_f ?_)
  | (with_reducible refine onB_d (fun _ => ?_) (fun _ => ?_))
  | (with_reducible refine onB_n (fun _ => ?_) (fun _ => ?_))
  | refine OnB.mk (fun _ => ?_) (fun _ => ?_)
  | refine obl_i ?_ ?_
  | refine Drw.mk (by kernel_rfl) ?_
  | refine mks_i ?_ ?_
  | refine slp_i ?_ ?_
  | (with_reducible refine elem_u ?_ ?_)
  | (with_reducible refine elem_0 ?_)
  | (with_reducible refine elem_1 ?_)
  | refine Ends.mk ?_))
 all_goals (try refine Pr.mk ?_)
 all_goals (try simp only [sgnI_lt0, sgnI_zero, sgnI_le0, sgnI_gt0, sgnI_ge0, sgnI_eq1, cmpI_lt0, cmpI_gt0, cmpI_eq0, cmpI_le0, cmpI_ge0, cmpR_of, sgnR_of, sgnR_lt0, sgnR_eq0, sgnR_gt0, sgnR_le0, sgnR_ge0, sgnR_eq1, cmpR_lt0, cmpR_gt0, cmpR_eq0, cmpR_le0, cmpR_ge0] at *)
 all_goals first
  | with_reducible exact cp_1 hpre.1 hpre.2 (by assumption) (by assumption)
  | with_reducible exact cp_2 hpre.1 hpre.2 (by assumption)
  | with_reducible exact cp_3 hpre.1 (by assumption)
  | rfl
  | exact ⟨rzb (by omega), rzb (by omega), rzb (by omega), rzb (by omega), rzb (by omega), rzb (by omega), hpre⟩
  | ((repeat' apply And.intro) <;> first | assumption | exact rzb (by omega) | exact szb (by omega) | exact Int.mul_ne_zero (den_ne _) (den_ne _))
  | skip⟩

instance x_rcmpr (a b c d : Rat) : DenI Tryz.prog 71 [Q3 a b c, R d] (rz a ≤ 20000 ∧ rz b ≤ 20000 ∧ rz c ≤ 20000 ∧ rz d ≤ 20000 ∧ 0 ≤ c) (.int .i64 (exI (a - d) b c)) := ⟨fun hp => by
 have i_a : RzB a 20000 := ⟨hp.1⟩
 have i_b : RzB b 20000 := ⟨hp.2.1⟩
 have i_c : RzB c 20000 := ⟨hp.2.2.1⟩
 have i_d : RzB d 20000 := ⟨hp.2.2.2.1⟩
 have hpre := hp.2.2.2.2
 all_goals refine den_of (τ := tab) tab_ok mixed_ Tryz.func71 rfl (by kernel_rfl) (by kernel_rfl) (by kernel_rfl) ?_
 all_goals (repeat' ((try (conv => whnf)); first
  | refine call_0 ?_
  | refine call_i ?_ ?_
  | refine call_c ?_ (fun _ => ?_) (fun _ => ?_)
  | (with_reducible refine onB_t ?_)
  | (with_reducible refine onB_f ?_)
  | (with_reducible refine onB_d (fun _ => ?_) (fun _ => ?_))
  | (with_reducible refine onB_n (fun _ => ?_) (fun _ => ?_))
  | refine OnB.mk (fun _ => ?_) (fun _ => ?_)
  | refine obl_i ?_ ?_
  | refine Drw.mk (by kernel_rfl) ?_
  | refine mks_i ?_ ?_
  | refine slp_i ?_ ?_
  | (with_reducible refine elem_u ?_ ?_)
  | (with_reducible refine elem_0 ?_)
  | (with_reducible refine elem_1 ?_)
  | refine Ends.mk ?_))
 all_goals (try refine Pr.mk ?_)
 all_goals (try simp only [sgnI_lt0, sgnI_zero, sgnI_le0, sgnI_gt0, sgnI_ge0, sgnI_eq1, cmpI_lt0, cmpI_gt0, cmpI_eq0, cmpI_le0, cmpI_ge0, cmpR_of, sgnR_of, sgnR_lt0, sgnR_eq0, sgnR_gt0, sgnR_le0, sgnR_ge0, sgnR_eq1, cmpR_lt0, cmpR_gt0, cmpR_eq0, cmpR_le0, cmpR_ge0] at *)
 all_goals first
  | exact iE (cmp4_r hpre)
  | exact ⟨rzb (by omega), rzb (by omega), rzb (by omega), rzb (by omega), Nat.le_trans rz_0 (by omega), Nat.le_trans rz_0 (by omega), hpre, by decide⟩
  | ((repeat' apply And.intro) <;> first | assumption | exact rzb (by omega) | exact szb (by omega) | exact Int.mul_ne_zero (den_ne _) (den_ne _))
  | skip⟩

end Go.Proofs.YtigbdpkpaleboaaGreat

namespace Go.Sw
open Go
set_option linter.unusedVariables false
/-- The cut i falls by the cut k. -/
def badI (L : List Cut7) (i k : Nat) : Prop := dm (L.getD i cu0) (L.getD k cu0) ∧ (k < i ∨ i < k ∧ ¬dm (L.getD k cu0) (L.getD i cu0))
instance {L : List Cut7} {i k : Nat} : Decidable (badI L i k) := by unfold badI; infer_instance
end Go.Sw

namespace Go.Sw
open Go
set_option linter.unusedVariables false
@[reducible] def q3c (o : Rt) : List Cell := [zs o.a.num, zl o.a.num, zs o.a.den, zl o.a.den, zs o.b.num, zl o.b.num, zs o.b.den, zl o.b.den, zs o.c.num, zl o.c.num, zs o.c.den, zl o.c.den]
theorem medC_get {L : List Cut7} (h : ∀ c ∈ L, medC c) (i : Nat) : medC (L.getD i cu0) := get_all (by unfold medC medI cu0; decide) h i
section
variable {x y : Rat} {L : List Cut7} {o : Rt} {k : Nat}
theorem hgt_at (hk : k < L.length) : hgt x y (L.take (k + 1)) o = hStep x y (hgt x y (L.take k) o) (L.getD k cu0) := by
  rw [take_snoc cu0 hk, hgt_snoc]
theorem hq_y (hk : k < L.length) (h1 : swo (L.getD k cu0) x y) (h2 : cmpQ (swr (L.getD k cu0) x y) (hgt x y (L.take k) o) < 0) : some (Bk.var (q3c (swr (L.getD k cu0) x y))) = some (Bk.var (q3c (hgt x y (L.take (k + 1)) o))) := by
  rw [hgt_at hk, hStep_y h1 h2]
theorem hq_n (hk : k < L.length) (h1 : ¬swo (L.getD k cu0) x y) : some (Bk.var (q3c (hgt x y (L.take k) o))) = some (Bk.var (q3c (hgt x y (L.take (k + 1)) o))) := by
  rw [hgt_at hk, hStep_n h1]
theorem hq_k (hk : k < L.length) (h2 : ¬cmpQ (swr (L.getD k cu0) x y) (hgt x y (L.take k) o) < 0) : some (Bk.var (q3c (hgt x y (L.take k) o))) = some (Bk.var (q3c (hgt x y (L.take (k + 1)) o))) := by
  rw [hgt_at hk, hStep_k h2]
theorem hq_end (h1 : k ≤ L.length) (h2 : ¬k < L.length) : packA [AV.agg (q3c (hgt x y (L.take k) o))] = AV.agg (q3c (hgt x y L o)) := by
  have : k = L.length := by omega
  subst this
  rw [List.take_length]; rfl
theorem okR_take {top : Int} (hx : rz x ≤ 6) (hy : rz y ≤ 6) (h : ∀ c ∈ L, medC c) (ht : medI top) (k : Nat) : OkR (hgt x y (L.take k) ⟨(top : Rat), 0, 0⟩) :=
  okR_hgt hx hy (fun c hc => h c (List.mem_of_mem_take hc)) (okR_int ht)
theorem OkR.r20 {o : Rt} (h : OkR o) : rz o.a ≤ 20000 ∧ rz o.b ≤ 20000 ∧ rz o.c ≤ 20000 := by have := h.a; have := h.b; have := h.c; omega
end
end Go.Sw

namespace Go.Proofs.YtigbdpkpaleboaaGreat
open Go Go.RowKit Go.Sw
set_option linter.unusedVariables false
set_option maxRecDepth 100000
set_option maxHeartbeats 8000000
set_option synthInstance.maxSize 4000
set_option synthInstance.maxHeartbeats 400000
instance h_height (L : List Cut7) (top : Int) (x y : Rat) : DenI Tryz.prog 19 [.c (.sl 7 (L.map cuC)), .int .i64 top, Q2 x y] ((∀ c ∈ L, medC c) ∧ medI top ∧ rz x ≤ 6 ∧ rz y ≤ 6 ∧ L.length ≤ 12) (Q3 (hgt x y L ⟨(top : Rat), 0, 0⟩).a (hgt x y L ⟨(top : Rat), 0, 0⟩).b (hgt x y L ⟨(top : Rat), 0, 0⟩).c) := ⟨fun hp => by
 obtain ⟨hL, ht, hx, hy, hl⟩ := hp
 have i_x : RzB x 6 := ⟨hx⟩
 have i_y : RzB y 6 := ⟨hy⟩
 have i_t : RzB (top : Rat) 4 := ⟨rz_med ht⟩
 have h64 : -9223372036854775808 ≤ top ∧ top ≤ 9223372036854775807 := (by unfold medI at ht; omega)
 all_goals refine den_of (τ := tab) tab_ok mixed_ Tryz.func19 rfl (by kernel_rfl) (by kernel_rfl) (by kernel_rfl) ?_
 all_goals (repeat' ((try (conv => whnf)); first
  | refine call_0 ?_
  | refine call_i ?_ ?_
  | refine call_c ?_ (fun _ => ?_) (fun _ => ?_)
  | (with_reducible refine onB_t ?_)
  | (with_reducible refine onB_f ?_)
  | (with_reducible refine onB_d (fun _ => ?_) (fun _ => ?_))
  | (with_reducible refine onB_n (fun _ => ?_) (fun _ => ?_))
  | refine OnB.mk (fun _ => ?_) (fun _ => ?_)
  | refine obl_i ?_ ?_
  | refine Drw.mk (by kernel_rfl) ?_
  | refine mks_i ?_ ?_
  | refine slp_i ?_ ?_
  | (with_reducible refine elem_u ?_ ?_)
  | (with_reducible refine elem_0 ?_)
  | (with_reducible refine elem_1 ?_)
  | refine Ends.mk ?_))
 all_goals (try refine Pr.mk ?_)
 all_goals first
  | ((conv => whnf); refine Sw.Loop.inv (α := Nat) (fun k => [(5, .ptr 5 0), (6, .ptr 6 0), (7, .ptr 7 0), (15, .c (.sl 7 (L.map cuC))), (16, .int .i64 ((L.map cuC).length : Nat)), (17, .int .i64 (k : Nat))]) (fun k => [(5, .var [zs x.num, zl x.num, zs x.den, zl x.den, zs y.num, zl y.num, zs y.den, zl y.den]), (6, .var [.v (.bool false), .sl 1 [], .v (.bool false), .sl 1 [], .v (.bool false), .sl 1 [], .v (.bool false), .sl 1 [], .v (.bool false), .sl 1 [], .v (.bool false), .sl 1 []]), (7, .var [zs (hgt x y (L.take k) ⟨(top : Rat), 0, 0⟩).a.num, zl (hgt x y (L.take k) ⟨(top : Rat), 0, 0⟩).a.num, zs (hgt x y (L.take k) ⟨(top : Rat), 0, 0⟩).a.den, zl (hgt x y (L.take k) ⟨(top : Rat), 0, 0⟩).a.den, zs (hgt x y (L.take k) ⟨(top : Rat), 0, 0⟩).b.num, zl (hgt x y (L.take k) ⟨(top : Rat), 0, 0⟩).b.num, zs (hgt x y (L.take k) ⟨(top : Rat), 0, 0⟩).b.den, zl (hgt x y (L.take k) ⟨(top : Rat), 0, 0⟩).b.den, zs (hgt x y (L.take k) ⟨(top : Rat), 0, 0⟩).c.num, zl (hgt x y (L.take k) ⟨(top : Rat), 0, 0⟩).c.num, zs (hgt x y (L.take k) ⟨(top : Rat), 0, 0⟩).c.den, zl (hgt x y (L.take k) ⟨(top : Rat), 0, 0⟩).c.den])]) (fun k => k ≤ L.length ∧ True) (fun k => L.length - k) 0 ?_ ?_ ?_ (fun k hk => ?_))
  | skip
 all_goals (repeat' ((try (conv => whnf)); first
  | refine call_0 ?_
  | refine call_i ?_ ?_
  | refine call_c ?_ (fun _ => ?_) (fun _ => ?_)
  | (with_reducible refine onB_t ?_)
  | (with_reducible refine onB_f ?_)
  | (with_reducible refine onB_d (fun _ => ?_) (fun _ => ?_))
  | (with_reducible refine onB_n (fun _ => ?_) (fun _ => ?_))
  | refine OnB.mk (fun _ => ?_) (fun _ => ?_)
  | refine obl_i ?_ ?_
  | refine Drw.mk (by kernel_rfl) ?_
  | refine mks_i ?_ ?_
  | refine slp_i ?_ ?_
  | (with_reducible refine elem_u ?_ ?_)
  | (with_reducible refine elem_0 ?_)
  | (with_reducible refine elem_1 ?_)
  | refine elem_map cu0 ?_ ?_
  | refine Ends.mk ?_))
 all_goals (try refine Pr.mk ?_)
 all_goals first | (show SubE _ _; repeat' (first | exact trivial | refine And.intro ?_ ?_)) | (show SubB _ _; repeat' (first | exact trivial | refine And.intro ?_ ?_)) | skip
 all_goals (try rfl)
 all_goals (try simp only [List.length_map, Int.toNat_natCast] at *)
 all_goals (try simp only [sgnI_lt0, sgnI_zero, sgnI_le0, sgnI_gt0, sgnI_ge0, sgnI_eq1, cmpI_lt0, cmpI_gt0, cmpI_eq0, cmpI_le0, cmpI_ge0, cmpR_of, sgnR_of, sgnR_lt0, sgnR_eq0, sgnR_gt0, sgnR_le0, sgnR_ge0, sgnR_eq1, cmpR_lt0, cmpR_gt0, cmpR_eq0, cmpR_le0, cmpR_ge0] at *)
 all_goals first
  | ((conv => whnf); exact ⟨k + 1, ⟨⟨rfl, rfl, rfl, rfl, rfl, inc64 (by omega), trivial⟩, ⟨rfl, rfl, hq_y (by omega) (by assumption) (by assumption), trivial⟩, ⟨by omega, trivial⟩, by show L.length - (k + 1) < L.length - k; omega⟩⟩)
  | ((conv => whnf); exact ⟨k + 1, ⟨⟨rfl, rfl, rfl, rfl, rfl, inc64 (by omega), trivial⟩, ⟨rfl, rfl, hq_n (by omega) (by assumption), trivial⟩, ⟨by omega, trivial⟩, by show L.length - (k + 1) < L.length - k; omega⟩⟩)
  | ((conv => whnf); exact ⟨k + 1, ⟨⟨rfl, rfl, rfl, rfl, rfl, inc64 (by omega), trivial⟩, ⟨rfl, rfl, hq_k (by omega) (by assumption), trivial⟩, ⟨by omega, trivial⟩, by show L.length - (k + 1) < L.length - k; omega⟩⟩)
  | exact hq_end hk.1 (by omega)
  | exact h64
  | exact ⟨medC_get hL k, hx, hy⟩
  | (have z := medC_get hL k; exact ⟨z.1, z.2.1, z.2.2.1, z.2.2.2.1, z.2.2.2.2.1, z.2.2.2.2.2.1, z.2.2.2.2.2.2, hx, hy⟩)
  | exact cmP (okR_swr (medC_get hL k) hx hy (by assumption)) (okR_take hx hy hL ht k)
  | exact ⟨Nat.zero_le _, trivial⟩
  | rfl
  | omega
  | ((repeat' apply And.intro) <;> first | assumption | exact rzb (by omega) | exact szb (by omega) | exact Int.mul_ne_zero (den_ne _) (den_ne _))
  | skip⟩

instance h_height2 (L : List Cut7) (top : Int) (x y : Rat) : DenI Tryz.prog 21 [.c (.sl 7 (L.map cuC)), .int .i64 top, Q2 x y] ((∀ c ∈ L, medC c) ∧ medI top ∧ rz x ≤ 6 ∧ rz y ≤ 6 ∧ L.length ≤ 12) (Q3 (hgt x y L ⟨(top : Rat), 0, 0⟩).a (hgt x y L ⟨(top : Rat), 0, 0⟩).b (hgt x y L ⟨(top : Rat), 0, 0⟩).c) := ⟨fun hp => by
 obtain ⟨hL, ht, hx, hy, hl⟩ := hp
 have i_x : RzB x 6 := ⟨hx⟩
 have i_y : RzB y 6 := ⟨hy⟩
 have i_t : RzB (top : Rat) 4 := ⟨rz_med ht⟩
 have h64 : -9223372036854775808 ≤ top ∧ top ≤ 9223372036854775807 := (by unfold medI at ht; omega)
 all_goals refine den_of (τ := tab) tab_ok mixed_ Tryz.func21 rfl (by kernel_rfl) (by kernel_rfl) (by kernel_rfl) ?_
 all_goals (repeat' ((try (conv => whnf)); first
  | refine call_0 ?_
  | refine call_i ?_ ?_
  | refine call_c ?_ (fun _ => ?_) (fun _ => ?_)
  | (with_reducible refine onB_t ?_)
  | (with_reducible refine onB_f ?_)
  | (with_reducible refine onB_d (fun _ => ?_) (fun _ => ?_))
  | (with_reducible refine onB_n (fun _ => ?_) (fun _ => ?_))
  | refine OnB.mk (fun _ => ?_) (fun _ => ?_)
  | refine obl_i ?_ ?_
  | refine Drw.mk (by kernel_rfl) ?_
  | refine mks_i ?_ ?_
  | refine slp_i ?_ ?_
  | (with_reducible refine elem_u ?_ ?_)
  | (with_reducible refine elem_0 ?_)
  | (with_reducible refine elem_1 ?_)
  | refine Ends.mk ?_))
 all_goals (try refine Pr.mk ?_)
 all_goals first
  | ((conv => whnf); refine Sw.Loop.inv (α := Nat) (fun k => [(5, .ptr 5 0), (6, .ptr 6 0), (7, .ptr 7 0), (0, .c (.sl 7 (L.map cuC))), (8, .int .i64 (k : Nat))]) (fun k => [(5, .var [zs x.num, zl x.num, zs x.den, zl x.den, zs y.num, zl y.num, zs y.den, zl y.den]), (6, .var [.v (.bool false), .sl 1 [], .v (.bool false), .sl 1 [], .v (.bool false), .sl 1 [], .v (.bool false), .sl 1 [], .v (.bool false), .sl 1 [], .v (.bool false), .sl 1 []]), (7, .var [zs (hgt x y (L.take k) ⟨(top : Rat), 0, 0⟩).a.num, zl (hgt x y (L.take k) ⟨(top : Rat), 0, 0⟩).a.num, zs (hgt x y (L.take k) ⟨(top : Rat), 0, 0⟩).a.den, zl (hgt x y (L.take k) ⟨(top : Rat), 0, 0⟩).a.den, zs (hgt x y (L.take k) ⟨(top : Rat), 0, 0⟩).b.num, zl (hgt x y (L.take k) ⟨(top : Rat), 0, 0⟩).b.num, zs (hgt x y (L.take k) ⟨(top : Rat), 0, 0⟩).b.den, zl (hgt x y (L.take k) ⟨(top : Rat), 0, 0⟩).b.den, zs (hgt x y (L.take k) ⟨(top : Rat), 0, 0⟩).c.num, zl (hgt x y (L.take k) ⟨(top : Rat), 0, 0⟩).c.num, zs (hgt x y (L.take k) ⟨(top : Rat), 0, 0⟩).c.den, zl (hgt x y (L.take k) ⟨(top : Rat), 0, 0⟩).c.den])]) (fun k => k ≤ L.length ∧ True) (fun k => L.length - k) 0 ?_ ?_ ?_ (fun k hk => ?_))
  | skip
 all_goals (repeat' ((try (conv => whnf)); first
  | refine call_0 ?_
  | refine call_i ?_ ?_
  | refine call_c ?_ (fun _ => ?_) (fun _ => ?_)
  | (with_reducible refine onB_t ?_)
  | (with_reducible refine onB_f ?_)
  | (with_reducible refine onB_d (fun _ => ?_) (fun _ => ?_))
  | (with_reducible refine onB_n (fun _ => ?_) (fun _ => ?_))
  | refine OnB.mk (fun _ => ?_) (fun _ => ?_)
  | refine obl_i ?_ ?_
  | refine Drw.mk (by kernel_rfl) ?_
  | refine mks_i ?_ ?_
  | refine slp_i ?_ ?_
  | (with_reducible refine elem_u ?_ ?_)
  | (with_reducible refine elem_0 ?_)
  | (with_reducible refine elem_1 ?_)
  | refine elem_map cu0 ?_ ?_
  | refine Ends.mk ?_))
 all_goals (try refine Pr.mk ?_)
 all_goals first | (show SubE _ _; repeat' (first | exact trivial | refine And.intro ?_ ?_)) | (show SubB _ _; repeat' (first | exact trivial | refine And.intro ?_ ?_)) | skip
 all_goals (try rfl)
 all_goals (try simp only [List.length_map, Int.toNat_natCast] at *)
 all_goals (try simp only [sgnI_lt0, sgnI_zero, sgnI_le0, sgnI_gt0, sgnI_ge0, sgnI_eq1, cmpI_lt0, cmpI_gt0, cmpI_eq0, cmpI_le0, cmpI_ge0, cmpR_of, sgnR_of, sgnR_lt0, sgnR_eq0, sgnR_gt0, sgnR_le0, sgnR_ge0, sgnR_eq1, cmpR_lt0, cmpR_gt0, cmpR_eq0, cmpR_le0, cmpR_ge0] at *)
 all_goals first
  | ((conv => whnf); exact ⟨k + 1, ⟨⟨rfl, rfl, rfl, rfl, inc64 (by omega), trivial⟩, ⟨rfl, rfl, hq_y (by omega) (by assumption) (by assumption), trivial⟩, ⟨by omega, trivial⟩, by show L.length - (k + 1) < L.length - k; omega⟩⟩)
  | ((conv => whnf); exact ⟨k + 1, ⟨⟨rfl, rfl, rfl, rfl, inc64 (by omega), trivial⟩, ⟨rfl, rfl, hq_n (by omega) (by assumption), trivial⟩, ⟨by omega, trivial⟩, by show L.length - (k + 1) < L.length - k; omega⟩⟩)
  | ((conv => whnf); exact ⟨k + 1, ⟨⟨rfl, rfl, rfl, rfl, inc64 (by omega), trivial⟩, ⟨rfl, rfl, hq_k (by omega) (by assumption), trivial⟩, ⟨by omega, trivial⟩, by show L.length - (k + 1) < L.length - k; omega⟩⟩)
  | exact hq_end hk.1 (by omega)
  | exact h64
  | exact ⟨medC_get hL k, hx, hy⟩
  | (have z := medC_get hL k; exact ⟨z.1, z.2.1, z.2.2.1, z.2.2.2.1, z.2.2.2.2.1, z.2.2.2.2.2.1, z.2.2.2.2.2.2, hx, hy⟩)
  | exact cmP (okR_swr (medC_get hL k) hx hy (by assumption)) (okR_take hx hy hL ht k)
  | exact ⟨Nat.zero_le _, trivial⟩
  | rfl
  | omega
  | ((repeat' apply And.intro) <;> first | assumption | exact rzb (by omega) | exact szb (by omega) | exact Int.mul_ne_zero (den_ne _) (den_ne _))
  | skip⟩

end Go.Proofs.YtigbdpkpaleboaaGreat

namespace Go.Sw
open Go
set_option linter.unusedVariables false
section
variable {L : List Cut7} {i k : Nat}
theorem isP2 {o p : Rt} (k : OkR o) (l : OkR p) : rz o.a ≤ 20000 ∧ rz o.b ≤ 20000 ∧ rz o.c ≤ 20000 ∧ rz p.a ≤ 20000 ∧ rz p.b ≤ 20000 ∧ rz p.c ≤ 20000 ∧ 0 ≤ p.c :=
  ⟨k.r20.1, k.r20.2.1, k.r20.2.2, l.r20.1, l.r20.2.1, l.r20.2.2, l.nn⟩
end
end Go.Sw

namespace Go.Sw
open Go
set_option linter.unusedVariables false
theorem sgn_mulp {k q : Rat} (h : 0 < k) : sgnR (k * q) = sgnR q := by
  rcases sgn_cases q with ⟨g, e⟩ | ⟨g, e⟩ | ⟨g, e⟩
  · rcases sgn_cases (k * q) with ⟨g2, e2⟩ | ⟨g2, e2⟩ | ⟨g2, e2⟩
    · rw [e, e2]
    · have := Rat.mul_pos h (show 0 < -q by grind); grind
    · have := Rat.mul_pos h (show 0 < -q by grind); grind
  · rw [g, Rat.mul_zero]
  · have := Rat.mul_pos h g
    rcases sgn_cases (k * q) with ⟨g2, e2⟩ | ⟨g2, e2⟩ | ⟨g2, e2⟩ <;> grind
theorem sgn_neg (q : Rat) : sgnR (-q) = -sgnR q := by
  rcases sgn_cases q with ⟨g, e⟩ | ⟨g, e⟩ | ⟨g, e⟩ <;> rcases sgn_cases (-q) with ⟨g2, e2⟩ | ⟨g2, e2⟩ | ⟨g2, e2⟩ <;> grind
theorem exI_0l (S I : Rat) : exI 0 S I = sgnR S * sgnR I := by
  unfold exI
  have z : sgnR 0 = 0 := rfl
  split
  · rename_i h; rw [z] at h; rcases h with h | h
    · rw [z]; exact h
    · rw [z, h]
  · first | rfl | rw [if_pos z]
/-- The same root in two forms. -/
theorem cmp4_form {A S I T J k : Rat} (hk : 0 < k) (h1 : S = k * T) (h2 : J = k * k * I) : cmp4 A S I A T J = 0 := by
  unfold cmp4 sg4
  have e0 : A - A = 0 := by grind
  rw [e0, exI_0l, exI_zero, sgn_neg]
  have e1 : sgnR S = sgnR T := by rw [h1]; exact sgn_mulp hk
  have e2 : sgnR J = sgnR I := by rw [h2]; exact sgn_mulp (Rat.mul_pos hk hk)
  rw [e1, e2]
  have e3 : 0 * 0 + S * S * I - J * (-T * -T + 0 * 0 * I) = (0 : Rat) := by rw [h1, h2]; grind
  have e4 : 0 * S - J * (-T * 0) + (0 * S - J * (-T * 0)) = (0 : Rat) := by grind
  rw [e3, e4, exI_zero]
  have z : sgnR 0 = 0 := rfl
  rw [z]
  generalize sgnR T = t
  generalize sgnR I = i
  have en : -t * i = -(t * i) := Int.neg_mul t i
  rw [en]
  generalize t * i = w
  split
  · omega
  · split <;> omega
theorem cmpQ_mk2 {a b c d e f : Rat} (hc : 0 ≤ c) (hf : 0 ≤ f) : cmpQ ⟨mkA a b c, mkB b c, mkC b c⟩ ⟨mkA d e f, mkB e f, mkC e f⟩ = cmp4 a b c d e f := by
  rw [cmpQ_mk hc (mkC_nn hf)]
  simp only
  rw [← Int.neg_neg (cmp4 a b c (mkA d e f) (mkB e f) (mkC e f)), ← cmp4_neg hc (mkC_nn hf)]
  have := cmpQ_mk (a := d) (b := e) (c := f) (q := ⟨a, b, c⟩) hf hc
  rw [show cmp4 (mkA d e f) (mkB e f) (mkC e f) a b c = cmp4 d e f a b c from this, cmp4_neg hc hf, Int.neg_neg]
theorem exI_np {A B C : Rat} (hB : B ≤ 0) (hC : 0 ≤ C) (h : A * A ≤ B * B * C) : exI A B C ≤ 0 := by
  unfold exI
  have hl := cmpR_le0.2 h
  rcases sgn_cases A with ⟨g1, e1⟩ | ⟨g1, e1⟩ | ⟨g1, e1⟩ <;> rcases sgn_cases B with ⟨g2, e2⟩ | ⟨g2, e2⟩ | ⟨g2, e2⟩ <;> rcases sgn_cases C with ⟨g3, e3⟩ | ⟨g3, e3⟩ | ⟨g3, e3⟩ <;> (try (exfalso; grind)) <;> rw [e1, e2, e3]
  all_goals first
    | (rw [if_pos (by decide)]; decide)
    | (rw [if_neg (by decide), if_pos (by decide)]; decide)
    | (rw [if_neg (by decide), if_neg (by decide)]; omega)
    | (exfalso; have := Rat.mul_pos g1 g1; grind)
section
variable {hx hy lx ly r x y t : Rat} {hz lz mz : Int}
theorem at_q : segAt hx hy lx ly x y t = t * t * swD hx hy lx ly + 2 * t * swPd hx hy lx ly x y + ((hx - x) * (hx - x) + (hy - y) * (hy - y)) := by unfold segAt swD swPd; grind
theorem swD_nn : 0 ≤ swD hx hy lx ly := by unfold swD; have := sq_nn (lx - hx); have := sq_nn (ly - hy); grind
theorem at_1 : segAt hx hy lx ly x y 1 = (lx - x) * (lx - x) + (ly - y) * (ly - y) := by unfold segAt; grind
/-- A segment lies between its points. -/
theorem at_conv {u v w : Rat} (h1 : u ≤ v) (h2 : v ≤ w) (k1 : segAt hx hy lx ly x y u ≤ r * r) (k2 : segAt hx hy lx ly x y w ≤ r * r) : segAt hx hy lx ly x y v ≤ r * r := by
  rw [at_q] at *
  have hd : 0 ≤ swD hx hy lx ly := swD_nn
  generalize swD hx hy lx ly = D at *
  generalize swPd hx hy lx ly x y = P at *
  generalize (hx - x) * (hx - x) + (hy - y) * (hy - y) = Q at *
  by_cases e : u = w
  · have : v = u := by grind
    rw [this]; exact k1
  · have hw : 0 < w - u := by grind
    refine le_of_mul hw ?_
    have p1 := Rat.mul_nonneg (show 0 ≤ w - v by grind) (show 0 ≤ r * r - (u * u * D + 2 * u * P + Q) by grind)
    have p2 := Rat.mul_nonneg (show 0 ≤ v - u by grind) (show 0 ≤ r * r - (w * w * D + 2 * w * P + Q) by grind)
    have p3 := Rat.mul_nonneg (Rat.mul_nonneg (Rat.mul_nonneg (show 0 ≤ w - v by grind) (show 0 ≤ v - u by grind)) hd) (show 0 ≤ w - u by grind)
    grind
theorem sub_hi {s : Rat} : segAt hx hy (hx + t * (lx - hx)) (hy + t * (ly - hy)) x y s = segAt hx hy lx ly x y (t * s) := by unfold segAt; grind
theorem sub_lo {s : Rat} : segAt (hx + t * (lx - hx)) (hy + t * (ly - hy)) lx ly x y s = segAt hx hy lx ly x y (t + s * (1 - t)) := by unfold segAt; grind
theorem le_of_div {a b : Rat} (hb : 0 < b) (ha : 0 ≤ a) (hab : a ≤ b) : ∃ q, 0 ≤ q ∧ q ≤ 1 ∧ b * q = a := by
  have hn : b ≠ 0 := by grind
  have e : a / b * b = a := by grind
  exact ⟨a / b, le_of_mul hb (by rw [e]; grind), le_of_mul hb (by rw [e]; grind), by grind⟩
/-- The whole is over a point where a part is. -/
theorem over_hi (t0 : 0 ≤ t) (t1 : t ≤ 1) (h : segD hx hy (hx + t * (lx - hx)) (hy + t * (ly - hy)) x y ≤ r * r) : ∃ s, 0 ≤ s ∧ s ≤ t ∧ segAt hx hy lx ly x y s ≤ r * r := by
  obtain ⟨s, s0, s1, e⟩ := seg_at hx hy (hx + t * (lx - hx)) (hy + t * (ly - hy)) x y
  rw [e, sub_hi] at h
  have := Rat.mul_nonneg t0 s0
  have := Rat.mul_nonneg t0 (show 0 ≤ 1 - s by grind)
  exact ⟨t * s, by grind, by grind, h⟩
theorem over_lo (t0 : 0 ≤ t) (t1 : t ≤ 1) (h : segD (hx + t * (lx - hx)) (hy + t * (ly - hy)) lx ly x y ≤ r * r) : ∃ s, t ≤ s ∧ s ≤ 1 ∧ segAt hx hy lx ly x y s ≤ r * r := by
  obtain ⟨s, s0, s1, e⟩ := seg_at (hx + t * (lx - hx)) (hy + t * (ly - hy)) lx ly x y
  rw [e, sub_lo] at h
  have := Rat.mul_nonneg s0 (show 0 ≤ 1 - t by grind)
  have := Rat.mul_nonneg (show 0 ≤ 1 - s by grind) (show 0 ≤ 1 - t by grind)
  exact ⟨t + s * (1 - t), by grind, by grind, h⟩
theorem hi_over {s : Rat} (t0 : 0 ≤ t) (s0 : 0 ≤ s) (s1 : s ≤ t) (h : segAt hx hy lx ly x y s ≤ r * r) : segD hx hy (hx + t * (lx - hx)) (hy + t * (ly - hy)) x y ≤ r * r := by
  by_cases e : t = 0
  · have : s = 0 := by grind
    refine Rat.le_trans (seg_le _ _ _ _ x y (s := 0) (by grind) (by grind)) ?_
    rw [sub_hi, Rat.mul_zero, ← this]; exact h
  · obtain ⟨q, q0, q1, eq⟩ := le_of_div (show 0 < t by grind) s0 s1
    refine Rat.le_trans (seg_le _ _ _ _ x y q0 q1) ?_
    rw [sub_hi, eq]; exact h
theorem lo_over {s : Rat} (t1 : t ≤ 1) (s0 : t ≤ s) (s1 : s ≤ 1) (h : segAt hx hy lx ly x y s ≤ r * r) : segD (hx + t * (lx - hx)) (hy + t * (ly - hy)) lx ly x y ≤ r * r := by
  by_cases e : t = 1
  · have : s = 1 := by grind
    refine Rat.le_trans (seg_le _ _ _ _ x y (s := 0) (by grind) (by grind)) ?_
    rw [sub_lo, show t + 0 * (1 - t) = s by grind]; exact h
  · obtain ⟨q, q0, q1, eq⟩ := le_of_div (a := s - t) (b := 1 - t) (show 0 < 1 - t by grind) (by grind) (by grind)
    refine Rat.le_trans (seg_le _ _ _ _ x y q0 q1) ?_
    rw [sub_lo, show t + q * (1 - t) = s by grind]; exact h
/-- No lower than a point of the way that is in reach. -/
theorem swP_mid (hl : lz ≤ hz) (t0 : 0 ≤ t) (t1 : t ≤ 1) (em : (mz : Rat) = (hz : Rat) + t * ((lz : Rat) - (hz : Rat))) (h : segAt hx hy lx ly x y t ≤ r * r) : cmpQ (swP hx hy hz lx ly lz r x y) ⟨(mz : Rat), 0, 0⟩ ≤ 0 := by
  have hle : (lz : Rat) ≤ (hz : Rat) := Rat.intCast_le_intCast.2 hl
  have ho : segD hx hy lx ly x y ≤ r * r := Rat.le_trans (seg_le _ _ _ _ x y t0 t1) h
  unfold swP
  split
  · show cmp4 _ _ _ _ _ _ ≤ 0
    simp only
    rw [cmp4_rat (by decide) (by decide)]
    have := Rat.mul_nonneg (show 0 ≤ 1 - t by grind) (show 0 ≤ (hz : Rat) - lz by grind)
    exact cmpR_le0.2 (by grind)
  · rename_i hn
    have h1 : ¬hz = lz := fun e => hn (.inl e)
    have h2 : ¬(lx - x) * (lx - x) + (ly - y) * (ly - y) ≤ r * r := fun e => hn (.inr e)
    have hd0 := sw_nd ho h2
    have hI := sw_in ho
    rw [cmpQ_mk hI (show (0 : Rat) ≤ 0 by decide), cmp4_r hI]
    rw [at_q] at h
    have hD : 0 < swD hx hy lx ly := by have : 0 ≤ swD hx hy lx ly := swD_nn; grind
    unfold swS swI at *
    generalize swPd hx hy lx ly x y = P at *
    generalize swD hx hy lx ly = D at *
    generalize (hx - x) * (hx - x) + (hy - y) * (hy - y) = Q at *
    obtain ⟨s, hs⟩ : ∃ s : Rat, ((lz - hz : Int) : Rat) / D = -s := ⟨-(((lz - hz : Int) : Rat) / D), by grind⟩
    have hsD : s * D = (hz : Rat) - (lz : Rat) := by
      have : ((lz - hz : Int) : Rat) / D * D = ((lz - hz : Int) : Rat) := by grind
      rw [hs, Rat.intCast_sub] at this
      grind
    have s0 : 0 ≤ s := by
      rcases Rat.le_total (a := s) (b := 0) with k | k
      · have := Rat.mul_nonneg (show 0 ≤ -s by grind) (show 0 ≤ D by grind)
        have : s * D = 0 := by grind
        rcases Rat.mul_eq_zero.1 this with k | k <;> grind
      · exact k
    rw [hs]
    have ea : (hz : Rat) - -s * P - (mz : Rat) = s * (P + t * D) := by rw [em]; grind
    rw [ea]
    refine exI_np (by grind) hI ?_
    have p1 := Rat.mul_nonneg (show 0 ≤ D by grind) (show 0 ≤ r * r - (t * t * D + 2 * t * P + Q) by grind)
    have p2 := Rat.mul_nonneg (Rat.mul_nonneg s0 s0) p1
    grind
/-- The two parts' formulas are that of the whole. -/
theorem form_hi (t0 : 0 < t) (em : (mz : Rat) = (hz : Rat) + t * ((lz : Rat) - (hz : Rat))) (hD : ¬swD hx hy lx ly = 0) (hI : 0 ≤ swI hx hy lx ly r x y) :
    cmpQ ⟨mkA ((hz : Rat) - swS hx hy hz mz (hx + t * (lx - hx)) (hy + t * (ly - hy)) * swPd hx hy (hx + t * (lx - hx)) (hy + t * (ly - hy)) x y) (swS hx hy hz mz (hx + t * (lx - hx)) (hy + t * (ly - hy))) (swI hx hy (hx + t * (lx - hx)) (hy + t * (ly - hy)) r x y),
      mkB (swS hx hy hz mz (hx + t * (lx - hx)) (hy + t * (ly - hy))) (swI hx hy (hx + t * (lx - hx)) (hy + t * (ly - hy)) r x y), mkC (swS hx hy hz mz (hx + t * (lx - hx)) (hy + t * (ly - hy))) (swI hx hy (hx + t * (lx - hx)) (hy + t * (ly - hy)) r x y)⟩
    ⟨mkA ((hz : Rat) - swS hx hy hz lz lx ly * swPd hx hy lx ly x y) (swS hx hy hz lz lx ly) (swI hx hy lx ly r x y), mkB (swS hx hy hz lz lx ly) (swI hx hy lx ly r x y), mkC (swS hx hy hz lz lx ly) (swI hx hy lx ly r x y)⟩ = 0 := by
  have e1 : swPd hx hy (hx + t * (lx - hx)) (hy + t * (ly - hy)) x y = t * swPd hx hy lx ly x y := by unfold swPd; grind
  have e2 : swD hx hy (hx + t * (lx - hx)) (hy + t * (ly - hy)) = t * t * swD hx hy lx ly := by unfold swD; grind
  have e3 : swI hx hy (hx + t * (lx - hx)) (hy + t * (ly - hy)) r x y = t * t * swI hx hy lx ly r x y := by unfold swI; rw [e1, e2]; grind
  have e4 : swS hx hy hz lz lx ly = t * swS hx hy hz mz (hx + t * (lx - hx)) (hy + t * (ly - hy)) := by
    unfold swS
    rw [e2, Rat.intCast_sub, Rat.intCast_sub, em]
    have : t ≠ 0 := by grind
    generalize swD hx hy lx ly = D at *
    grind
  have hI' : 0 ≤ t * t * swI hx hy lx ly r x y := Rat.mul_nonneg (Rat.mul_nonneg (by grind) (by grind)) hI
  rw [e3, cmpQ_mk2 hI' hI, e1]
  have e5 : swS hx hy hz mz (hx + t * (lx - hx)) (hy + t * (ly - hy)) * (t * swPd hx hy lx ly x y) = swS hx hy hz lz lx ly * swPd hx hy lx ly x y := by rw [e4]; grind
  rw [e5, cmp4_neg hI hI', cmp4_form t0 e4 rfl]; rfl
theorem form_lo (t1 : t < 1) (em : (mz : Rat) = (hz : Rat) + t * ((lz : Rat) - (hz : Rat))) (hD : ¬swD hx hy lx ly = 0) (hI : 0 ≤ swI hx hy lx ly r x y) :
    cmpQ ⟨mkA ((mz : Rat) - swS (hx + t * (lx - hx)) (hy + t * (ly - hy)) mz lz lx ly * swPd (hx + t * (lx - hx)) (hy + t * (ly - hy)) lx ly x y) (swS (hx + t * (lx - hx)) (hy + t * (ly - hy)) mz lz lx ly) (swI (hx + t * (lx - hx)) (hy + t * (ly - hy)) lx ly r x y),
      mkB (swS (hx + t * (lx - hx)) (hy + t * (ly - hy)) mz lz lx ly) (swI (hx + t * (lx - hx)) (hy + t * (ly - hy)) lx ly r x y), mkC (swS (hx + t * (lx - hx)) (hy + t * (ly - hy)) mz lz lx ly) (swI (hx + t * (lx - hx)) (hy + t * (ly - hy)) lx ly r x y)⟩
    ⟨mkA ((hz : Rat) - swS hx hy hz lz lx ly * swPd hx hy lx ly x y) (swS hx hy hz lz lx ly) (swI hx hy lx ly r x y), mkB (swS hx hy hz lz lx ly) (swI hx hy lx ly r x y), mkC (swS hx hy hz lz lx ly) (swI hx hy lx ly r x y)⟩ = 0 := by
  have e1 : swPd (hx + t * (lx - hx)) (hy + t * (ly - hy)) lx ly x y = (1 - t) * (swPd hx hy lx ly x y + t * swD hx hy lx ly) := by unfold swPd swD; grind
  have e2 : swD (hx + t * (lx - hx)) (hy + t * (ly - hy)) lx ly = (1 - t) * (1 - t) * swD hx hy lx ly := by unfold swD; grind
  have e3 : swI (hx + t * (lx - hx)) (hy + t * (ly - hy)) lx ly r x y = (1 - t) * (1 - t) * swI hx hy lx ly r x y := by
    unfold swI; rw [e1, e2]
    have : (hx + t * (lx - hx) - x) * (hx + t * (lx - hx) - x) + (hy + t * (ly - hy) - y) * (hy + t * (ly - hy) - y) = t * t * swD hx hy lx ly + 2 * t * swPd hx hy lx ly x y + ((hx - x) * (hx - x) + (hy - y) * (hy - y)) := by unfold swD swPd; grind
    rw [this]; grind
  have e4 : swS hx hy hz lz lx ly = (1 - t) * swS (hx + t * (lx - hx)) (hy + t * (ly - hy)) mz lz lx ly := by
    unfold swS
    rw [e2, Rat.intCast_sub, Rat.intCast_sub, em]
    have : 1 - t ≠ 0 := by grind
    have e : (lz : Rat) - ((hz : Rat) + t * ((lz : Rat) - (hz : Rat))) = (1 - t) * ((lz : Rat) - (hz : Rat)) := by grind
    rw [e]
    generalize 1 - t = u at *
    generalize swD hx hy lx ly = D at *
    grind
  have hI' : 0 ≤ (1 - t) * (1 - t) * swI hx hy lx ly r x y := Rat.mul_nonneg (Rat.mul_nonneg (by grind) (by grind)) hI
  rw [e3, cmpQ_mk2 hI' hI, e1]
  have e6 : swS hx hy hz lz lx ly * swD hx hy lx ly = (lz : Rat) - hz := by
    unfold swS; rw [Rat.intCast_sub]; generalize swD hx hy lx ly = D at *; grind
  have e5 : (mz : Rat) - swS (hx + t * (lx - hx)) (hy + t * (ly - hy)) mz lz lx ly * ((1 - t) * (swPd hx hy lx ly x y + t * swD hx hy lx ly)) = (hz : Rat) - swS hx hy hz lz lx ly * swPd hx hy lx ly x y := by
    have : swS (hx + t * (lx - hx)) (hy + t * (ly - hy)) mz lz lx ly * ((1 - t) * (swPd hx hy lx ly x y + t * swD hx hy lx ly)) = swS hx hy hz lz lx ly * (swPd hx hy lx ly x y + t * swD hx hy lx ly) := by rw [e4]; grind
    rw [this, em]; grind
  rw [e5, cmp4_neg hI hI', cmp4_form (show 0 < 1 - t by grind) e4 rfl]; rfl
theorem mz_eq (em : (mz : Rat) = (hz : Rat) + t * ((lz : Rat) - (hz : Rat))) (e : hz = lz) : mz = hz := by
  subst e
  exact Rat.intCast_inj.1 (by rw [em]; grind)
theorem swP_lo (k : (lx - x) * (lx - x) + (ly - y) * (ly - y) ≤ r * r) : swP hx hy hz lx ly lz r x y = ⟨(lz : Rat), 0, 0⟩ := by unfold swP; rw [if_pos (.inr k)]
theorem swP_form (e : ¬hz = lz) (k : ¬(lx - x) * (lx - x) + (ly - y) * (ly - y) ≤ r * r) : swP hx hy hz lx ly lz r x y =
    ⟨mkA ((hz : Rat) - swS hx hy hz lz lx ly * swPd hx hy lx ly x y) (swS hx hy hz lz lx ly) (swI hx hy lx ly r x y), mkB (swS hx hy hz lz lx ly) (swI hx hy lx ly r x y), mkC (swS hx hy hz lz lx ly) (swI hx hy lx ly r x y)⟩ := by
  unfold swP; rw [if_neg (by rintro (h | h); exact e h; exact k h)]
theorem cmpQ_z {p : Rat} : cmpQ ⟨p, 0, 0⟩ ⟨p, 0, 0⟩ = 0 := cmpQ_self (show (0 : Rat) ≤ 0 by decide)
theorem div_lo (hl : lz ≤ hz) (t0 : 0 ≤ t) (t1 : t ≤ 1) (em : (mz : Rat) = (hz : Rat) + t * ((lz : Rat) - (hz : Rat))) (h : segD (hx + t * (lx - hx)) (hy + t * (ly - hy)) lx ly x y ≤ r * r) :
    cmpQ (swP (hx + t * (lx - hx)) (hy + t * (ly - hy)) mz lx ly lz r x y) (swP hx hy hz lx ly lz r x y) = 0 := by
  obtain ⟨s, s0, s1, hs⟩ := over_lo t0 t1 h
  have hW := Rat.le_trans (seg_le hx hy lx ly x y (s := s) (by grind) s1) hs
  by_cases e : hz = lz
  · have e2 := mz_eq em e
    subst e; rw [e2, swP_level, swP_level]; exact cmpQ_z
  by_cases k : (lx - x) * (lx - x) + (ly - y) * (ly - y) ≤ r * r
  · rw [swP_lo k, swP_lo k]; exact cmpQ_z
  · have ht : ¬t = 1 := fun e1 => k (by rw [← at_1 (hx := hx) (hy := hy), show (1 : Rat) = s by grind]; exact hs)
    have e2 : ¬mz = lz := fun e2 => by
      rw [e2] at em
      have e4 : (1 - t) * ((lz : Rat) - (hz : Rat)) = 0 := by grind
      rcases Rat.mul_eq_zero.1 e4 with e5 | e5
      · exact ht (by grind)
      · exact e (Rat.intCast_inj.1 (by grind))
    rw [swP_form e k, swP_form e2 k]
    exact form_lo (by grind) em (sw_nd hW k) (sw_in hW)
theorem div_hi (hl : lz ≤ hz) (t0 : 0 ≤ t) (t1 : t ≤ 1) (em : (mz : Rat) = (hz : Rat) + t * ((lz : Rat) - (hz : Rat))) (hA : segD hx hy (hx + t * (lx - hx)) (hy + t * (ly - hy)) x y ≤ r * r)
    (kM : ¬segAt hx hy lx ly x y t ≤ r * r) (kL : ¬(lx - x) * (lx - x) + (ly - y) * (ly - y) ≤ r * r) :
    cmpQ (swP hx hy hz (hx + t * (lx - hx)) (hy + t * (ly - hy)) mz r x y) (swP hx hy hz lx ly lz r x y) = 0 := by
  obtain ⟨s, s0, s1, hs⟩ := over_hi t0 t1 hA
  have hW := Rat.le_trans (seg_le hx hy lx ly x y (s := s) (by grind) (by grind)) hs
  by_cases e : hz = lz
  · have e2 := mz_eq em e
    subst e; rw [e2, swP_level, swP_level]; exact cmpQ_z
  have ht : ¬t = 0 := fun e1 => kM (by rw [show t = s by grind]; exact hs)
  have e2 : ¬hz = mz := fun e2 => by
    rw [← e2] at em
    have e4 : t * ((lz : Rat) - (hz : Rat)) = 0 := by grind
    rcases Rat.mul_eq_zero.1 e4 with e5 | e5
    · exact ht e5
    · exact e (Rat.intCast_inj.1 (by grind))
  rw [swP_form e kL, swP_form e2 kM]
  exact form_hi (by grind) em (sw_nd hW kL) (sw_in hW)
theorem div3 (hl : lz ≤ hz) (t0 : 0 ≤ t) (t1 : t ≤ 1) (em : (mz : Rat) = (hz : Rat) + t * ((lz : Rat) - (hz : Rat))) :
    (segD hx hy lx ly x y ≤ r * r → (segD (hx + t * (lx - hx)) (hy + t * (ly - hy)) lx ly x y ≤ r * r ∧ cmpQ (swP (hx + t * (lx - hx)) (hy + t * (ly - hy)) mz lx ly lz r x y) (swP hx hy hz lx ly lz r x y) ≤ 0) ∨
      (segD hx hy (hx + t * (lx - hx)) (hy + t * (ly - hy)) x y ≤ r * r ∧ cmpQ (swP hx hy hz (hx + t * (lx - hx)) (hy + t * (ly - hy)) mz r x y) (swP hx hy hz lx ly lz r x y) ≤ 0)) ∧
    (segD (hx + t * (lx - hx)) (hy + t * (ly - hy)) lx ly x y ≤ r * r → segD hx hy lx ly x y ≤ r * r ∧ cmpQ (swP hx hy hz lx ly lz r x y) (swP (hx + t * (lx - hx)) (hy + t * (ly - hy)) mz lx ly lz r x y) ≤ 0) ∧
    (segD hx hy (hx + t * (lx - hx)) (hy + t * (ly - hy)) x y ≤ r * r → segD hx hy lx ly x y ≤ r * r ∧ cmpQ (swP hx hy hz lx ly lz r x y) (swP hx hy hz (hx + t * (lx - hx)) (hy + t * (ly - hy)) mz r x y) ≤ 0) := by
  have nn : ∀ {a b c d : Rat} {u v : Int}, segD a b c d x y ≤ r * r → 0 ≤ (swP a b u c d v r x y).c := fun h => okQ_nn (swP_ok h)
  refine ⟨fun h => ?_, fun h => ?_, fun h => ?_⟩
  · by_cases hB : segD (hx + t * (lx - hx)) (hy + t * (ly - hy)) lx ly x y ≤ r * r
    · exact .inl ⟨hB, by rw [div_lo hl t0 t1 em hB]; decide⟩
    · obtain ⟨s, s0, s1, e⟩ := seg_at hx hy lx ly x y
      rw [e] at h
      have hst : s ≤ t := by
        rcases Rat.le_total (a := s) (b := t) with k | k
        · exact k
        · exact absurd (lo_over t1 k s1 h) hB
      have hA := hi_over t0 s0 hst h
      exact .inr ⟨hA, by rw [div_hi hl t0 t1 em hA (fun k => hB (lo_over t1 Rat.le_refl t1 k)) (fun k => hB (lo_over t1 t1 Rat.le_refl (by rw [at_1]; exact k)))]; decide⟩
  · obtain ⟨s, s0, s1, hs⟩ := over_lo t0 t1 h
    have hW := Rat.le_trans (seg_le hx hy lx ly x y (s := s) (by grind) s1) hs
    exact ⟨hW, by rw [cmpQ_neg (nn h) (nn hW), div_lo hl t0 t1 em h]; decide⟩
  · obtain ⟨s, s0, s1, hs⟩ := over_hi t0 t1 h
    have hW := Rat.le_trans (seg_le hx hy lx ly x y (s := s) s0 (by grind)) hs
    refine ⟨hW, ?_⟩
    by_cases kM : segAt hx hy lx ly x y t ≤ r * r
    · rw [swP_lo (hx := hx) (hy := hy) (lx := hx + t * (lx - hx)) (ly := hy + t * (ly - hy)) kM]
      exact swP_mid hl t0 t1 em kM
    · have kL : ¬(lx - x) * (lx - x) + (ly - y) * (ly - y) ≤ r * r := fun k => kM (at_conv s1 t1 hs (by rw [at_1]; exact k))
      rw [cmpQ_neg (nn h) (nn hW), div_hi hl t0 t1 em h kM kL]; decide
end
end Go.Sw

namespace Go.Sw
open Go
set_option linter.unusedVariables false
theorem swR_up {fx fy tx ty r x y : Rat} {fz tz : Int} (h : tz ≤ fz) : swR fx fy fz tx ty tz r x y = swP fx fy fz tx ty tz r x y := by
  unfold swR; rw [if_neg (by omega)]
theorem swR_dn {fx fy tx ty r x y : Rat} {fz tz : Int} (h : fz ≤ tz) : swR fx fy fz tx ty tz r x y = swP tx ty tz fx fy fz r x y := by
  unfold swR
  by_cases k : fz < tz
  · rw [if_pos k]
  · have : fz = tz := by omega
    subst this
    rw [if_neg k]
    unfold swP
    rw [if_pos (.inl rfl), if_pos (.inl rfl)]
def dvW (A B C D E F n r : Int) : Cut7 := ⟨A, B, C, A + n * D, B + n * E, C + n * F, r⟩
def dvL (A B C D E F k n r : Int) : Cut7 := ⟨A + k * D, B + k * E, C + k * F, A + n * D, B + n * E, C + n * F, r⟩
theorem dv_mid {A D n k : Int} (hn : 0 < n) : ((A : Int) : Rat) + (k : Rat) / (n : Rat) * (((A + n * D : Int) : Rat) - ((A : Int) : Rat)) = ((A + k * D : Int) : Rat) := by
  have h0 : ¬(n : Rat) = 0 := fun e => by have := Rat.intCast_inj.1 (e.trans (show (0 : Rat) = ((0 : Int) : Rat) from rfl)); omega
  simp only [Rat.intCast_add, Rat.intCast_mul]
  grind
theorem dv_mid' {A D n k : Int} (hn : 0 < n) : ((A + n * D : Int) : Rat) + ((n - k : Int) : Rat) / (n : Rat) * (((A : Int) : Rat) - ((A + n * D : Int) : Rat)) = ((A + k * D : Int) : Rat) := by
  have h0 : ¬(n : Rat) = 0 := fun e => by have := Rat.intCast_inj.1 (e.trans (show (0 : Rat) = ((0 : Int) : Rat) from rfl)); omega
  simp only [Rat.intCast_add, Rat.intCast_mul, Rat.intCast_sub]
  grind
theorem dv_t {k n : Int} (hn : 0 < n) (k0 : 0 ≤ k) (k1 : k ≤ n) : 0 ≤ (k : Rat) / (n : Rat) ∧ (k : Rat) / (n : Rat) ≤ 1 := by
  have hp : (0 : Rat) < (n : Rat) := Rat.intCast_lt_intCast.2 hn
  have h1 : (k : Rat) / (n : Rat) * (n : Rat) = (k : Rat) := by have : ¬(n : Rat) = 0 := by grind
                                                                grind
  have h2 : (0 : Rat) ≤ (k : Rat) := Rat.intCast_le_intCast.2 k0
  have h3 : (k : Rat) ≤ (n : Rat) := Rat.intCast_le_intCast.2 k1
  constructor
  · exact le_of_mul hp (by rw [h1, Rat.zero_mul]; exact h2)
  · exact le_of_mul hp (by rw [h1, Rat.one_mul]; exact h3)
theorem dv_cut {A B C D E F n k r : Int} {x y : Rat} (hn : 0 < n) (k0 : 0 ≤ k) (k1 : k ≤ n) :
    (swo (dvW A B C D E F n r) x y → (swo (dvL A B C D E F k n r) x y ∧ cmpQ (swr (dvL A B C D E F k n r) x y) (swr (dvW A B C D E F n r) x y) ≤ 0) ∨ (swo (dvW A B C D E F k r) x y ∧ cmpQ (swr (dvW A B C D E F k r) x y) (swr (dvW A B C D E F n r) x y) ≤ 0)) ∧
    (swo (dvL A B C D E F k n r) x y → swo (dvW A B C D E F n r) x y ∧ cmpQ (swr (dvW A B C D E F n r) x y) (swr (dvL A B C D E F k n r) x y) ≤ 0) ∧
    (swo (dvW A B C D E F k r) x y → swo (dvW A B C D E F n r) x y ∧ cmpQ (swr (dvW A B C D E F n r) x y) (swr (dvW A B C D E F k r) x y) ≤ 0) := by
  unfold swo swr dvW dvL swOn
  simp only
  rcases Int.le_total F 0 with hF | hF
  · have z1 : C + n * F ≤ C := by have := Int.mul_nonneg (show 0 ≤ n by omega) (show 0 ≤ -F by omega); rw [Int.mul_neg] at this; omega
    have z2 : C + k * F ≤ C := by have := Int.mul_nonneg k0 (show 0 ≤ -F by omega); rw [Int.mul_neg] at this; omega
    have z3 : C + n * F ≤ C + k * F := by have := Int.mul_nonneg (show 0 ≤ n - k by omega) (show 0 ≤ -F by omega); rw [Int.mul_neg, Int.sub_mul] at this; omega
    rw [swR_up z1, swR_up z2, swR_up z3]
    have h := div3 (hx := (A : Rat)) (hy := (B : Rat)) (hz := C) (lx := ((A + n * D : Int) : Rat)) (ly := ((B + n * E : Int) : Rat)) (lz := C + n * F) (mz := C + k * F) (r := (r : Rat)) (x := x) (y := y) (t := (k : Rat) / (n : Rat)) z1 (dv_t hn k0 k1).1 (dv_t hn k0 k1).2 (dv_mid hn).symm
    rw [dv_mid hn, dv_mid hn] at h
    refine ⟨fun q => ?_, fun q => ?_, fun q => ?_⟩
    · rcases h.1 q.2 with h1 | h1
      · exact .inl ⟨⟨q.1, h1.1⟩, h1.2⟩
      · exact .inr ⟨⟨q.1, h1.1⟩, h1.2⟩
    · exact ⟨⟨q.1, (h.2.1 q.2).1⟩, (h.2.1 q.2).2⟩
    · exact ⟨⟨q.1, (h.2.2 q.2).1⟩, (h.2.2 q.2).2⟩
  · have z1 : C ≤ C + n * F := by have := Int.mul_nonneg (show 0 ≤ n by omega) hF; omega
    have z2 : C ≤ C + k * F := by have := Int.mul_nonneg k0 hF; omega
    have z3 : C + k * F ≤ C + n * F := by have := Int.mul_nonneg (show 0 ≤ n - k by omega) hF; rw [Int.sub_mul] at this; omega
    rw [swR_dn z1, swR_dn z2, swR_dn z3]
    have h := div3 (hx := ((A + n * D : Int) : Rat)) (hy := ((B + n * E : Int) : Rat)) (hz := C + n * F) (lx := (A : Rat)) (ly := (B : Rat)) (lz := C) (mz := C + k * F) (r := (r : Rat)) (x := x) (y := y) (t := ((n - k : Int) : Rat) / (n : Rat)) z1 (dv_t hn (by omega) (by omega)).1 (dv_t hn (by omega) (by omega)).2 (dv_mid' hn).symm
    rw [dv_mid' hn, dv_mid' hn] at h
    rw [seg_swap (A : Rat) (B : Rat) ((A + n * D : Int) : Rat), seg_swap (A : Rat) (B : Rat) ((A + k * D : Int) : Rat), seg_swap ((A + k * D : Int) : Rat) ((B + k * E : Int) : Rat) ((A + n * D : Int) : Rat)] at h
    refine ⟨fun q => ?_, fun q => ?_, fun q => ?_⟩
    · rcases h.1 q.2 with h1 | h1
      · exact .inr ⟨⟨q.1, h1.1⟩, h1.2⟩
      · exact .inl ⟨⟨q.1, h1.1⟩, h1.2⟩
    · exact ⟨⟨q.1, (h.2.2 q.2).1⟩, (h.2.2 q.2).2⟩
    · exact ⟨⟨q.1, (h.2.1 q.2).1⟩, (h.2.1 q.2).2⟩
theorem dv_height {A B C D E F n k r : Int} {x y : Rat} {o : Rt} (ho : 0 ≤ o.c) (hn : 0 < n) (k0 : 0 ≤ k) (k1 : k ≤ n) :
    cmpQ (hgt x y [dvW A B C D E F k r, dvL A B C D E F k n r] o) (hgt x y [dvW A B C D E F n r] o) = 0 := by
  obtain ⟨h1, h2, h3⟩ := dv_cut (A := A) (B := B) (C := C) (D := D) (E := E) (F := F) (r := r) (x := x) (y := y) hn k0 k1
  refine least_eq ho (least ho) (least ho) (fun c hc hs => ?_) (fun c hc hs => ?_)
  · rw [List.mem_singleton] at hc
    subst hc
    rcases h1 hs with h | h
    · exact ⟨_, by simp, h⟩
    · exact ⟨_, by simp, h⟩
  · refine ⟨dvW A B C D E F n r, by simp, ?_⟩
    rcases List.mem_cons.1 hc with hc | hc
    · subst hc; exact h3 hs
    · rw [List.mem_singleton] at hc; subst hc; exact h2 hs
end Go.Sw

namespace Go.Sw
open Go
set_option linter.unusedVariables false
theorem sm_mul {a m : Int} (h : smallI a) (m0 : 0 ≤ m) (m1 : m ≤ 10) : -700000 ≤ m * a ∧ m * a ≤ 700000 := by
  unfold smallI at h
  have h1 := Int.mul_le_mul_of_nonneg_left h.2 m0
  have h2 := Int.mul_le_mul_of_nonneg_left h.1 m0
  constructor <;> omega
theorem dvN {q : Nat} : IntKind.i64.wrap (IntKind.i64.wrap ((q : Int).tmod 7) + 2) = ((q % 7 + 2 : Nat) : Int) := by
  have h : (q : Int).tmod 7 = ((q % 7 : Nat) : Int) := rfl
  have h2 : q % 7 < 7 := Nat.mod_lt _ (by decide)
  rw [h, wi64 (a := ((q % 7 : Nat) : Int)) (by omega) (by omega), wi64 (by omega) (by omega)]; omega
theorem dvN1 {q : Nat} : IntKind.i64.wrap (((q % 7 + 2 : Nat) : Int) + 1) = ((q % 7 + 3 : Nat) : Int) := by
  rw [wi64 (by omega) (by omega)]; omega
theorem dvK {p q : Nat} : (p : Int).tmod ((q % 7 + 3 : Nat) : Int) = ((p % (q % 7 + 3) : Nat) : Int) := rfl
theorem dvK_le {p q : Nat} : p % (q % 7 + 3) ≤ q % 7 + 2 := by have := Nat.mod_lt p (show 0 < q % 7 + 3 by omega); omega
section
variable {a b c d e f : Int} {r p q : Nat} {x y : Rat} (h1 : smallI a) (h2 : smallI b) (h3 : smallI c) (h4 : smallI d) (h5 : smallI e) (h6 : smallI f) (h7 : r ≤ 255)
include h1 h2 h3 h4 h5 h6 h7
theorem dv_medL {k n : Nat} (hk : k ≤ 10) (hn : n ≤ 10) : medC ⟨a + (k : Int) * d, b + (k : Int) * e, c + (k : Int) * f, a + (n : Int) * d, b + (n : Int) * e, c + (n : Int) * f, (r : Int)⟩ := by
  have q1 := sm_mul h4 (show 0 ≤ (k : Int) by omega) (by omega)
  have q2 := sm_mul h5 (show 0 ≤ (k : Int) by omega) (by omega)
  have q3 := sm_mul h6 (show 0 ≤ (k : Int) by omega) (by omega)
  have q4 := sm_mul h4 (show 0 ≤ (n : Int) by omega) (by omega)
  have q5 := sm_mul h5 (show 0 ≤ (n : Int) by omega) (by omega)
  have q6 := sm_mul h6 (show 0 ≤ (n : Int) by omega) (by omega)
  unfold smallI at *
  unfold medC medI
  simp only
  omega
theorem dv_medW {n : Nat} (hn : n ≤ 10) : medC ⟨a, b, c, a + (n : Int) * d, b + (n : Int) * e, c + (n : Int) * f, (r : Int)⟩ := by
  have := dv_medL h1 h2 h3 h4 h5 h6 h7 (k := 0) (by omega) hn
  simpa using this
end
theorem dv_is {A B C D E F r : Int} {k n : Nat} {x y : Rat} {o : Rt} (ho : 0 ≤ o.c) (hn : 0 < n) (k1 : k ≤ n) (h : OkR (hgt x y [⟨A, B, C, A + (k : Int) * D, B + (k : Int) * E, C + (k : Int) * F, r⟩, ⟨A + (k : Int) * D, B + (k : Int) * E, C + (k : Int) * F, A + (n : Int) * D, B + (n : Int) * E, C + (n : Int) * F, r⟩] o)) :
    (okQ (hgt x y [⟨A, B, C, A + (k : Int) * D, B + (k : Int) * E, C + (k : Int) * F, r⟩, ⟨A + (k : Int) * D, B + (k : Int) * E, C + (k : Int) * F, A + (n : Int) * D, B + (n : Int) * E, C + (n : Int) * F, r⟩] o).b
      (hgt x y [⟨A, B, C, A + (k : Int) * D, B + (k : Int) * E, C + (k : Int) * F, r⟩, ⟨A + (k : Int) * D, B + (k : Int) * E, C + (k : Int) * F, A + (n : Int) * D, B + (n : Int) * E, C + (n : Int) * F, r⟩] o).c &&
      decide (cmpQ (hgt x y [⟨A, B, C, A + (k : Int) * D, B + (k : Int) * E, C + (k : Int) * F, r⟩, ⟨A + (k : Int) * D, B + (k : Int) * E, C + (k : Int) * F, A + (n : Int) * D, B + (n : Int) * E, C + (n : Int) * F, r⟩] o)
        (hgt x y [⟨A, B, C, A + (n : Int) * D, B + (n : Int) * E, C + (n : Int) * F, r⟩] o) = 0)) = true := by
  have h2 := dv_height (A := A) (B := B) (C := C) (D := D) (E := E) (F := F) (r := r) (x := x) (y := y) ho (show 0 < (n : Int) by omega) (show 0 ≤ (k : Int) by omega) (show (k : Int) ≤ n by omega)
  unfold dvW dvL at h2
  rw [h.ok, decide_eq_true h2]; rfl
end Go.Sw
