/-
  What the functions IntegerDivMod#bad, IntegerDivMod do, each call by call.
  Conditions: none.
-/
import Derived.Test.YtlaojdpcfenlkaaChecked
import Derived.Test.YtlaojdpcfenlkaaSwBaseK
import Derived.Test.YtlaojdpcfenlkaaWH
import Derived.Test.YtlaojdpcfenlkaaWI
import Derived.Test.YtlaojdpcfenlkaaWK
import Derived.Test.YtlaojdpcfenlkaaWN
import Derived.Test.YtlaojdpcfenlkaaWP
import Derived.Test.YtlaojdpcfenlkaaWS
import Derived.Test.YtlaojdpcfenlkaaWT
import Derived.Test.YtlaojdpcfenlkaaWY
namespace Go.Proofs.Ytlaojdpcfenlkaa
open Go Go.RowKit Go.Sw
set_option linter.unusedVariables false
namespace TfLD
theorem body11 : hasBody Try.prog 11 = true := by kernel_rfl
theorem body12 : hasBody Try.prog 12 = true := by kernel_rfl
theorem body13 : hasBody Try.prog 13 = true := by kernel_rfl
theorem body14 : hasBody Try.prog 14 = true := by kernel_rfl
theorem body15 : hasBody Try.prog 15 = true := by kernel_rfl
theorem body16 : hasBody Try.prog 16 = true := by kernel_rfl
theorem body17 : hasBody Try.prog 17 = true := by kernel_rfl
theorem body18 : hasBody Try.prog 18 = true := by kernel_rfl
theorem body19 : hasBody Try.prog 19 = true := by kernel_rfl
theorem body20 : hasBody Try.prog 20 = true := by kernel_rfl
theorem body21 : hasBody Try.prog 21 = true := by kernel_rfl
theorem el24 : Sw.elemOf Try.prog 24 = some (#[.bool false, .slice none 0 0], 2, 32) := by kernel_rfl
theorem mixed : Try.prog.follows .mixedOrders = true := by kernel_rfl
theorem row24 : isRow Try.prog 24 2 = true := by kernel_rfl
theorem size24 : (Try.prog.info? 24).map (fun i => i.size) = some 2 := by kernel_rfl
theorem sl47 : sliceOf Try.prog 47 = some (24, 2) := by kernel_rfl
theorem zero24 : zeroOf Try.prog 24 = some #[.bool false, .slice none 0 0] := by kernel_rfl
end TfLD
set_option maxHeartbeats 4000000 in
theorem swarflaw01_IntegerDivMod_bad_ok {w : World} {X : List Nat} (hX : ∀ m ∈ X, m < w.heap.size) {v_na : Value} {na : Bool} {la : List Nat} (h_na : RawV w X v_na (na) (la)) {v_nb : Value} {nb : Bool} {lb : List Nat} (h_nb : RawV w X v_nb (nb) (lb)) (hbad : ([(na, la), (nb, lb)].all fun p => decide ((p.2.length : Int) ≤ 16) && validL p.1 p.2) = false) :
    Calls Try.prog 3 #[v_na, v_nb] w (Ret fun r w' => (r = .bool (true)) ∧ Below w.heap.size w w') := by
 refine enter (N := 82) (fn := Try.f3) (vs := [v_na, v_nb]) Try.func3 rfl rfl rfl ?_
 intro fa hF
 obtain ⟨_, rfl, A_la, c_la, rfl, hu_la⟩ := h_na
 have hl_la := hu_la.len; have hc_la := hu_la.cap
 obtain ⟨_, rfl, A_lb, c_lb, rfl, hu_lb⟩ := h_nb
 have hl_lb := hu_lb.len; have hc_lb := hu_lb.cap
 replace hF : Frm 82 fa [(0, (.agg #[(.bool (na)), (.slice (A_la) (la.length) (c_la))])), (1, (.agg #[(.bool (nb)), (.slice (A_lb) (lb.length) (c_lb))]))] := hF
 have hS := St.refl w
 refine c_seq ?_
 refine c_reg ?_
 refine st rfl (op_box (X := X) hF hS rfl rfl rfl ?_)
 intro g1 w2 hg4 hS E3; refine gen_ ?_; clear hF fa; intro fa hF
 replace hS : St w w2 [(g1, 24, #[(.bool (na)), (.slice (A_la) (la.length) (c_la))])] := hS
 refine st rfl (op_box (X := (g1 :: X)) hF hS rfl rfl rfl ?_)
 intro g5 w6 hg8 hS E7; refine gen_ ?_; clear hF fa; intro fa hF
 replace hS : St w w6 [(g5, 24, #[(.bool (nb)), (.slice (A_lb) (lb.length) (c_lb))]), (g1, 24, #[(.bool (na)), (.slice (A_la) (la.length) (c_la))])] := hS
 refine st_val hF rfl rfl rfl (ex_assign (hF.ev rfl)) ?_
 clear hF fa; intro fa hF
 refine c_nil_then ?_
 refine c_seq ?_
 refine c_seq ?_
 refine c_reg ?_
 have hC := law01_awake_ok (w := w6) (X := (g5 :: (g1 :: X))) (hS.bnd hX) 
 refine st rfl (op_call hF rfl TfLD.body11 (args0) hC ?_)
 clear hC
 rintro _ w9 ⟨rfl, hb10⟩
 refine gen_ ?_; clear hF fa; intro fa hF
 replace hS := hS.call hb10; have E11 := Ext.call (g5 :: (g1 :: X)) hb10
 refine st_val hF rfl rfl rfl (ex_not (hF.ev rfl)) ?_
 clear hF fa; intro fa hF
 refine st_val hF rfl rfl rfl (ex_move (hF.ev rfl)) ?_
 clear hF fa; intro fa hF
 refine stg_val hF rfl rfl rfl rfl (ex_loadb TfLD.row24 (hF.ev rfl) (hS.get 1 rfl) rfl) ?_
 clear hF fa; intro fa hF
 refine stg_val hF rfl rfl rfl rfl (ex_loadb TfLD.row24 (hF.ev rfl) (hS.get 0 rfl) rfl) ?_
 clear hF fa; intro fa hF
 refine stg hF rfl rfl (op_lit (X := (g5 :: (g1 :: X))) hF hS (hS.bnd hX) rfl TfLD.sl47 TfLD.el24 rfl rfl (lits2 (hF.ev rfl) (hF.ev rfl)) fill_r2 ?_)
 intro g12 w13 hg15 hS E14 hc16; refine gen_ ?_; clear hF fa; intro fa hF
 have hC := law01_small_ok (w := w13) (X := (g5 :: (g1 :: X))) (zs := ([(na, la), (nb, lb)])) (hS.bnd hX) (RL.raw2 hc16 ⟨_, rfl, _, _, rfl, (hu_la.ext (((E3.trans E7).trans E11).trans E14))⟩ ⟨_, rfl, _, _, rfl, (hu_lb.ext (((E3.trans E7).trans E11).trans E14))⟩)
 rw [show ((([(na, la), (nb, lb)]).all fun p => decide ((p.2.length : Int) ≤ 16) && validL p.1 p.2)) = false from hbad] at hC
 refine stg hF rfl rfl (op_call hF rfl TfLD.body12 (args1 (hF.ev rfl)) hC ?_)
 clear hC
 rintro _ w17 ⟨rfl, hb18⟩
 refine gen_ ?_; clear hF fa; intro fa hF
 replace hS := hS.call hb18; have E19 := Ext.call (g5 :: (g1 :: X)) hb18
 refine stg_val hF rfl rfl rfl rfl (ex_not (hF.ev rfl)) ?_
 clear hF fa; intro fa hF
 refine st_val hF rfl rfl rfl (ex_pick (hF.ev rfl) (u := undef) (fun h => by cases h) (fun _ => hF.ev rfl) rfl) ?_
 clear hF fa; intro fa hF
 refine c_nil_then ?_
 refine c_cond hF rfl (fun hc => ?_) (fun hc => ?_)
 rotate_left
 ·
  cases hc
 refine c_seq ?_
 refine c_reg ?_
 have hC := law01_awake_ok (w := w17) (X := (g5 :: (g1 :: X))) (hS.bnd hX) 
 refine st rfl (op_call hF rfl TfLD.body11 (args0) hC ?_)
 clear hC
 rintro _ w20 ⟨rfl, hb21⟩
 refine gen_ ?_; clear hF fa; intro fa hF
 replace hS := hS.call hb21; have E22 := Ext.call (g5 :: (g1 :: X)) hb21
 refine st_val hF rfl rfl rfl (ex_assign (hF.ev rfl)) ?_
 clear hF fa; intro fa hF
 refine c_nil_then ?_
 refine c_ret ?_
 refine x_tr ?_
 refine end1 hF rfl (res_tmp hF rfl) ?_
 exact ⟨_, rfl, (congrArg Value.bool (by simp_all)), hS.below⟩

set_option maxHeartbeats 4000000 in
theorem law01_IntegerDivMod_ok {w : World} {X : List Nat} (hX : ∀ m ∈ X, m < w.heap.size) {v_a : Value} {a : Int} (h_a : IntV w X v_a (a)) {v_b : Value} {b : Int} (h_b : IntV w X v_b (b)) (hs_a : sz a ≤ 16) (hs_b : sz b ≤ 16) :
    Calls Try.prog 3 #[v_a, v_b] w (Ret fun r w' => (r = .bool (true)) ∧ Below w.heap.size w w') := by
 refine enter (N := 82) (fn := Try.f3) (vs := [v_a, v_b]) Try.func3 rfl rfl rfl ?_
 intro fa hF
 obtain ⟨_, rfl, A_a, c_a, rfl, hu_a⟩ := h_a
 have hl_a := hu_a.len; have hc_a := hu_a.cap
 obtain ⟨_, rfl, A_b, c_b, rfl, hu_b⟩ := h_b
 have hl_b := hu_b.len; have hc_b := hu_b.cap
 replace hF : Frm 82 fa [(0, (.agg (ic (A_a) (c_a) (a)))), (1, (.agg (ic (A_b) (c_b) (b))))] := hF
 have hS := St.refl w
 have hs_a0 := hs_a; have hs_b0 := hs_b; unfold sz at hs_a0 hs_b0
 refine c_seq ?_
 refine c_reg ?_
 refine st rfl (op_box (X := X) hF hS rfl rfl rfl ?_)
 intro g1 w2 hg4 hS E3; refine gen_ ?_; clear hF fa; intro fa hF
 replace hS : St w w2 [(g1, 24, (ic (A_a) (c_a) (a)))] := hS
 refine st rfl (op_box (X := (g1 :: X)) hF hS rfl rfl rfl ?_)
 intro g5 w6 hg8 hS E7; refine gen_ ?_; clear hF fa; intro fa hF
 replace hS : St w w6 [(g5, 24, (ic (A_b) (c_b) (b))), (g1, 24, (ic (A_a) (c_a) (a)))] := hS
 refine st_val hF rfl rfl rfl (ex_assign (hF.ev rfl)) ?_
 clear hF fa; intro fa hF
 refine c_nil_then ?_
 refine c_seq ?_
 refine c_seq ?_
 refine c_reg ?_
 have hC := law01_awake_ok (w := w6) (X := (g5 :: (g1 :: X))) (hS.bnd hX) 
 refine st rfl (op_call hF rfl TfLD.body11 (args0) hC ?_)
 clear hC
 rintro _ w9 ⟨rfl, hb10⟩
 refine gen_ ?_; clear hF fa; intro fa hF
 replace hS := hS.call hb10; have E11 := Ext.call (g5 :: (g1 :: X)) hb10
 refine st_val hF rfl rfl rfl (ex_not (hF.ev rfl)) ?_
 clear hF fa; intro fa hF
 refine st_val hF rfl rfl rfl (ex_move (hF.ev rfl)) ?_
 clear hF fa; intro fa hF
 refine stg_val hF rfl rfl rfl rfl (ex_loadb TfLD.row24 (hF.ev rfl) (hS.get 1 rfl) rfl) ?_
 clear hF fa; intro fa hF
 refine stg_val hF rfl rfl rfl rfl (ex_loadb TfLD.row24 (hF.ev rfl) (hS.get 0 rfl) rfl) ?_
 clear hF fa; intro fa hF
 refine stg hF rfl rfl (op_lit (X := (g5 :: (g1 :: X))) hF hS (hS.bnd hX) rfl TfLD.sl47 TfLD.el24 rfl rfl (lits2 (hF.ev rfl) (hF.ev rfl)) fill_r2 ?_)
 intro g12 w13 hg15 hS E14 hc16; refine gen_ ?_; clear hF fa; intro fa hF
 have hC := law01_small_ok (w := w13) (X := (g5 :: (g1 :: X))) (zs := ([(decide (a < 0), (lim a.natAbs)), (decide (b < 0), (lim b.natAbs))])) (hS.bnd hX) (RL.raw2 hc16 ⟨_, rfl, _, _, rfl, (hu_a.ext (((E3.trans E7).trans E11).trans E14))⟩ ⟨_, rfl, _, _, rfl, (hu_b.ext (((E3.trans E7).trans E11).trans E14))⟩)
 rw [show ((([(decide (a < 0), (lim a.natAbs)), (decide (b < 0), (lim b.natAbs))]).all fun p => decide ((p.2.length : Int) ≤ 16) && validL p.1 p.2)) = true from small2 hs_a hs_b] at hC
 refine stg hF rfl rfl (op_call hF rfl TfLD.body12 (args1 (hF.ev rfl)) hC ?_)
 clear hC
 rintro _ w17 ⟨rfl, hb18⟩
 refine gen_ ?_; clear hF fa; intro fa hF
 replace hS := hS.call hb18; have E19 := Ext.call (g5 :: (g1 :: X)) hb18
 refine stg_val hF rfl rfl rfl rfl (ex_not (hF.ev rfl)) ?_
 clear hF fa; intro fa hF
 refine st_val hF rfl rfl rfl (ex_pick (hF.ev rfl) (u := undef) (fun h => by cases h) (fun _ => hF.ev rfl) rfl) ?_
 clear hF fa; intro fa hF
 refine c_nil_then ?_
 refine c_cond hF rfl (fun hc => ?_) (fun hc => ?_)
 ·
  cases hc
 refine c_skip ?_
 refine x_tn ?_
 refine c_seq ?_
 refine drawn2 (N := 82) (L0 := [(0, (.agg (ic (A_a) (c_a) (a)))), (1, (.agg (ic (A_b) (c_b) (b)))), (2, (.pointer (some ⟨g1, 0, none⟩))), (3, (.pointer (some ⟨g5, 0, none⟩))), (4, (.bool (false))), (17, (.bool (false)))]) [some (.agg (ic (A_a) (c_a) (a))), none, some (.agg (ic (A_b) (c_b) (b))), none, none, none, none, none, some (.int .i64 ((if b = 0 then 6 else 0))), none, none, none, none, some (.int .i64 ((if b = 0 then 6 else 0)))] [1, 3, 4, 5, 6, 7, 9, 10, 11, 12] [[], [1], [9], [10], [1, 3], [1, 9], [1, 10], [9, 10], [1, 3, 4], [1, 3, 9], [1, 3, 10], [1, 9, 10], [1, 3, 4, 5], [1, 3, 4, 9], [1, 3, 4, 10], [1, 3, 9, 10], [1, 3, 4, 5, 6], [1, 3, 4, 5, 7], [1, 3, 4, 5, 9], [1, 3, 4, 5, 10], [1, 3, 4, 9, 10], [1, 3, 4, 5, 6, 7], [1, 3, 4, 5, 6, 9], [1, 3, 4, 5, 6, 10], [1, 3, 4, 5, 7, 9], [1, 3, 4, 5, 7, 10], [1, 3, 4, 5, 9, 10], [1, 3, 4, 5, 6, 7, 9], [1, 3, 4, 5, 6, 7, 10], [1, 3, 4, 5, 6, 9, 10], [1, 3, 4, 5, 7, 9, 10], [1, 3, 4, 5, 6, 7, 9, 10], [1, 3, 4, 5, 6, 9, 10, 11], [1, 3, 4, 5, 6, 7, 9, 10, 11], [1, 3, 4, 5, 6, 7, 9, 10, 11, 12]] [[0, 2, 3, 7], [0, 2, 3, 7], [0, 1, 2, 3, 5, 6, 7, 11], [1, 5, 6, 11], [4, 9, 10, 15], [8, 13, 14, 20], [12, 17, 18, 19, 24, 25, 26, 30], [12, 16, 18, 19, 22, 23, 26, 29, 32], [12, 16, 17, 18, 19, 21, 22, 23, 24, 25, 26, 27, 28, 29, 30, 31, 32, 33, 34], [0, 1, 3, 4, 6, 8, 10, 12, 14, 16, 17, 19, 21, 23, 25, 28], [0, 1, 2, 4, 5, 8, 9, 12, 13, 16, 17, 18, 21, 22, 24, 27], [29, 31], [33], [34]] 34 [
       fun fa w' => Frm 82 fa [] ∧ St w w' [(g5, 24, (ic (A_b) (c_b) (b))), (g1, 24, (ic (A_a) (c_a) (a)))] ∧ Ext w17 (g5 :: (g1 :: X)) w' (g5 :: (g1 :: X))
       , fun fa w' => ∃ Ao3_1_4 : Option Addr, ∃ co3_1_5 : Nat, Frm 82 fa [(21, (.agg #[(.bool ((decide (a < 0)))), (.slice (Ao3_1_4) ((((lim a.natAbs))).length) (co3_1_5))]))] ∧ St w w' [(g5, 24, (ic (A_b) (c_b) (b))), (g1, 24, (ic (A_a) (c_a) (a)))] ∧ Ext w17 (g5 :: (g1 :: X)) w' (g5 :: (g1 :: X)) ∧ UC w' (g5 :: (g1 :: X)) Ao3_1_4 co3_1_5 (((lim a.natAbs)))
       , fun fa w' => ∃ go3_9_1 : Nat, Frm 82 fa [(5, (.pointer (some ⟨go3_9_1, 0, none⟩)))] ∧ St w w' [(go3_9_1, 24, #[(.bool (false)), (.slice (none) (0) (0))]), (g5, 24, (ic (A_b) (c_b) (b))), (g1, 24, (ic (A_a) (c_a) (a)))] ∧ Ext w17 (g5 :: (g1 :: X)) w' (go3_9_1 :: (g5 :: (g1 :: X)))
       , fun fa w' => ∃ go3_10_1 : Nat, Frm 82 fa [(6, (.pointer (some ⟨go3_10_1, 0, none⟩)))] ∧ St w w' [(go3_10_1, 24, #[(.bool (false)), (.slice (none) (0) (0))]), (g5, 24, (ic (A_b) (c_b) (b))), (g1, 24, (ic (A_a) (c_a) (a)))] ∧ Ext w17 (g5 :: (g1 :: X)) w' (go3_10_1 :: (g5 :: (g1 :: X)))
       , fun fa w' => ∃ Ao3_1_4 : Option Addr, ∃ co3_1_5 : Nat, ∃ Ao3_3_4 : Option Addr, ∃ co3_3_5 : Nat, Frm 82 fa [(21, (.agg #[(.bool ((decide (a < 0)))), (.slice (Ao3_1_4) ((((lim a.natAbs))).length) (co3_1_5))])), (23, (.agg #[(.bool ((decide (b < 0)))), (.slice (Ao3_3_4) ((((lim b.natAbs))).length) (co3_3_5))]))] ∧ St w w' [(g5, 24, (ic (A_b) (c_b) (b))), (g1, 24, (ic (A_a) (c_a) (a)))] ∧ Ext w17 (g5 :: (g1 :: X)) w' (g5 :: (g1 :: X)) ∧ UC w' (g5 :: (g1 :: X)) Ao3_1_4 co3_1_5 (((lim a.natAbs))) ∧ UC w' (g5 :: (g1 :: X)) Ao3_3_4 co3_3_5 (((lim b.natAbs)))
       , fun fa w' => ∃ Ao3_1_4 : Option Addr, ∃ co3_1_5 : Nat, ∃ go3_9_1 : Nat, Frm 82 fa [(21, (.agg #[(.bool ((decide (a < 0)))), (.slice (Ao3_1_4) ((((lim a.natAbs))).length) (co3_1_5))])), (5, (.pointer (some ⟨go3_9_1, 0, none⟩)))] ∧ St w w' [(go3_9_1, 24, #[(.bool (false)), (.slice (none) (0) (0))]), (g5, 24, (ic (A_b) (c_b) (b))), (g1, 24, (ic (A_a) (c_a) (a)))] ∧ Ext w17 (g5 :: (g1 :: X)) w' (go3_9_1 :: (g5 :: (g1 :: X))) ∧ UC w' (go3_9_1 :: (g5 :: (g1 :: X))) Ao3_1_4 co3_1_5 (((lim a.natAbs)))
       , fun fa w' => ∃ Ao3_1_4 : Option Addr, ∃ co3_1_5 : Nat, ∃ go3_10_1 : Nat, Frm 82 fa [(21, (.agg #[(.bool ((decide (a < 0)))), (.slice (Ao3_1_4) ((((lim a.natAbs))).length) (co3_1_5))])), (6, (.pointer (some ⟨go3_10_1, 0, none⟩)))] ∧ St w w' [(go3_10_1, 24, #[(.bool (false)), (.slice (none) (0) (0))]), (g5, 24, (ic (A_b) (c_b) (b))), (g1, 24, (ic (A_a) (c_a) (a)))] ∧ Ext w17 (g5 :: (g1 :: X)) w' (go3_10_1 :: (g5 :: (g1 :: X))) ∧ UC w' (go3_10_1 :: (g5 :: (g1 :: X))) Ao3_1_4 co3_1_5 (((lim a.natAbs)))
       , fun fa w' => ∃ go3_9_1 : Nat, ∃ go3_10_1 : Nat, Frm 82 fa [(5, (.pointer (some ⟨go3_9_1, 0, none⟩))), (6, (.pointer (some ⟨go3_10_1, 0, none⟩)))] ∧ St w w' [(go3_10_1, 24, #[(.bool (false)), (.slice (none) (0) (0))]), (go3_9_1, 24, #[(.bool (false)), (.slice (none) (0) (0))]), (g5, 24, (ic (A_b) (c_b) (b))), (g1, 24, (ic (A_a) (c_a) (a)))] ∧ Ext w17 (g5 :: (g1 :: X)) w' (go3_10_1 :: (go3_9_1 :: (g5 :: (g1 :: X))))
       , fun fa w' => ∃ Ao3_1_4 : Option Addr, ∃ co3_1_5 : Nat, ∃ Ao3_3_4 : Option Addr, ∃ co3_3_5 : Nat, ∃ Ao3_4_4 : Option Addr, ∃ co3_4_5 : Nat, ∃ Ao3_4_7 : Option Addr, ∃ co3_4_8 : Nat, Frm 82 fa [(21, (.agg #[(.bool ((decide (a < 0)))), (.slice (Ao3_1_4) ((((lim a.natAbs))).length) (co3_1_5))])), (23, (.agg #[(.bool ((decide (b < 0)))), (.slice (Ao3_3_4) ((((lim b.natAbs))).length) (co3_3_5))])), (24, (.tuple #[(.agg (ic (Ao3_4_4) (co3_4_5) ((a.fdiv b)))), (.agg (ic (Ao3_4_7) (co3_4_8) ((if b = 0 then 0 else a.fmod b)))), (.int .i64 ((if b = 0 then 6 else 0)))]))] ∧ St w w' [(g5, 24, (ic (A_b) (c_b) (b))), (g1, 24, (ic (A_a) (c_a) (a)))] ∧ Ext w17 (g5 :: (g1 :: X)) w' (g5 :: (g1 :: X)) ∧ UC w' (g5 :: (g1 :: X)) Ao3_1_4 co3_1_5 (((lim a.natAbs))) ∧ UC w' (g5 :: (g1 :: X)) Ao3_3_4 co3_3_5 (((lim b.natAbs))) ∧ UC w' (g5 :: (g1 :: X)) Ao3_4_4 co3_4_5 (lim (a.fdiv b).natAbs) ∧ UC w' (g5 :: (g1 :: X)) Ao3_4_7 co3_4_8 (lim ((if b = 0 then 0 else a.fmod b)).natAbs)
       , fun fa w' => ∃ Ao3_1_4 : Option Addr, ∃ co3_1_5 : Nat, ∃ Ao3_3_4 : Option Addr, ∃ co3_3_5 : Nat, ∃ go3_9_1 : Nat, Frm 82 fa [(21, (.agg #[(.bool ((decide (a < 0)))), (.slice (Ao3_1_4) ((((lim a.natAbs))).length) (co3_1_5))])), (23, (.agg #[(.bool ((decide (b < 0)))), (.slice (Ao3_3_4) ((((lim b.natAbs))).length) (co3_3_5))])), (5, (.pointer (some ⟨go3_9_1, 0, none⟩)))] ∧ St w w' [(go3_9_1, 24, #[(.bool (false)), (.slice (none) (0) (0))]), (g5, 24, (ic (A_b) (c_b) (b))), (g1, 24, (ic (A_a) (c_a) (a)))] ∧ Ext w17 (g5 :: (g1 :: X)) w' (go3_9_1 :: (g5 :: (g1 :: X))) ∧ UC w' (go3_9_1 :: (g5 :: (g1 :: X))) Ao3_1_4 co3_1_5 (((lim a.natAbs))) ∧ UC w' (go3_9_1 :: (g5 :: (g1 :: X))) Ao3_3_4 co3_3_5 (((lim b.natAbs)))
       , fun fa w' => ∃ Ao3_1_4 : Option Addr, ∃ co3_1_5 : Nat, ∃ Ao3_3_4 : Option Addr, ∃ co3_3_5 : Nat, ∃ go3_10_1 : Nat, Frm 82 fa [(21, (.agg #[(.bool ((decide (a < 0)))), (.slice (Ao3_1_4) ((((lim a.natAbs))).length) (co3_1_5))])), (23, (.agg #[(.bool ((decide (b < 0)))), (.slice (Ao3_3_4) ((((lim b.natAbs))).length) (co3_3_5))])), (6, (.pointer (some ⟨go3_10_1, 0, none⟩)))] ∧ St w w' [(go3_10_1, 24, #[(.bool (false)), (.slice (none) (0) (0))]), (g5, 24, (ic (A_b) (c_b) (b))), (g1, 24, (ic (A_a) (c_a) (a)))] ∧ Ext w17 (g5 :: (g1 :: X)) w' (go3_10_1 :: (g5 :: (g1 :: X))) ∧ UC w' (go3_10_1 :: (g5 :: (g1 :: X))) Ao3_1_4 co3_1_5 (((lim a.natAbs))) ∧ UC w' (go3_10_1 :: (g5 :: (g1 :: X))) Ao3_3_4 co3_3_5 (((lim b.natAbs)))
       , fun fa w' => ∃ Ao3_1_4 : Option Addr, ∃ co3_1_5 : Nat, ∃ go3_9_1 : Nat, ∃ go3_10_1 : Nat, Frm 82 fa [(21, (.agg #[(.bool ((decide (a < 0)))), (.slice (Ao3_1_4) ((((lim a.natAbs))).length) (co3_1_5))])), (5, (.pointer (some ⟨go3_9_1, 0, none⟩))), (6, (.pointer (some ⟨go3_10_1, 0, none⟩)))] ∧ St w w' [(go3_10_1, 24, #[(.bool (false)), (.slice (none) (0) (0))]), (go3_9_1, 24, #[(.bool (false)), (.slice (none) (0) (0))]), (g5, 24, (ic (A_b) (c_b) (b))), (g1, 24, (ic (A_a) (c_a) (a)))] ∧ Ext w17 (g5 :: (g1 :: X)) w' (go3_10_1 :: (go3_9_1 :: (g5 :: (g1 :: X)))) ∧ UC w' (go3_10_1 :: (go3_9_1 :: (g5 :: (g1 :: X)))) Ao3_1_4 co3_1_5 (((lim a.natAbs)))
       , fun fa w' => ∃ Ao3_1_4 : Option Addr, ∃ co3_1_5 : Nat, ∃ Ao3_3_4 : Option Addr, ∃ co3_3_5 : Nat, ∃ Ao3_4_4 : Option Addr, ∃ co3_4_5 : Nat, ∃ Ao3_4_7 : Option Addr, ∃ co3_4_8 : Nat, Frm 82 fa [(21, (.agg #[(.bool ((decide (a < 0)))), (.slice (Ao3_1_4) ((((lim a.natAbs))).length) (co3_1_5))])), (23, (.agg #[(.bool ((decide (b < 0)))), (.slice (Ao3_3_4) ((((lim b.natAbs))).length) (co3_3_5))])), (24, (.tuple #[(.agg (ic (Ao3_4_4) (co3_4_5) ((a.fdiv b)))), (.agg (ic (Ao3_4_7) (co3_4_8) ((if b = 0 then 0 else a.fmod b)))), (.int .i64 ((if b = 0 then 6 else 0)))])), (19, (.tuple #[(.agg (ic (Ao3_4_4) (co3_4_5) ((a.fdiv b)))), (.agg (ic (Ao3_4_7) (co3_4_8) ((if b = 0 then 0 else a.fmod b)))), (.int .i64 ((if b = 0 then 6 else 0)))]))] ∧ St w w' [(g5, 24, (ic (A_b) (c_b) (b))), (g1, 24, (ic (A_a) (c_a) (a)))] ∧ Ext w17 (g5 :: (g1 :: X)) w' (g5 :: (g1 :: X)) ∧ UC w' (g5 :: (g1 :: X)) Ao3_1_4 co3_1_5 (((lim a.natAbs))) ∧ UC w' (g5 :: (g1 :: X)) Ao3_3_4 co3_3_5 (((lim b.natAbs))) ∧ UC w' (g5 :: (g1 :: X)) Ao3_4_4 co3_4_5 (lim (a.fdiv b).natAbs) ∧ UC w' (g5 :: (g1 :: X)) Ao3_4_7 co3_4_8 (lim ((if b = 0 then 0 else a.fmod b)).natAbs)
       , fun fa w' => ∃ Ao3_1_4 : Option Addr, ∃ co3_1_5 : Nat, ∃ Ao3_3_4 : Option Addr, ∃ co3_3_5 : Nat, ∃ Ao3_4_4 : Option Addr, ∃ co3_4_5 : Nat, ∃ Ao3_4_7 : Option Addr, ∃ co3_4_8 : Nat, ∃ go3_9_1 : Nat, Frm 82 fa [(21, (.agg #[(.bool ((decide (a < 0)))), (.slice (Ao3_1_4) ((((lim a.natAbs))).length) (co3_1_5))])), (23, (.agg #[(.bool ((decide (b < 0)))), (.slice (Ao3_3_4) ((((lim b.natAbs))).length) (co3_3_5))])), (24, (.tuple #[(.agg (ic (Ao3_4_4) (co3_4_5) ((a.fdiv b)))), (.agg (ic (Ao3_4_7) (co3_4_8) ((if b = 0 then 0 else a.fmod b)))), (.int .i64 ((if b = 0 then 6 else 0)))])), (5, (.pointer (some ⟨go3_9_1, 0, none⟩)))] ∧ St w w' [(go3_9_1, 24, #[(.bool (false)), (.slice (none) (0) (0))]), (g5, 24, (ic (A_b) (c_b) (b))), (g1, 24, (ic (A_a) (c_a) (a)))] ∧ Ext w17 (g5 :: (g1 :: X)) w' (go3_9_1 :: (g5 :: (g1 :: X))) ∧ UC w' (go3_9_1 :: (g5 :: (g1 :: X))) Ao3_1_4 co3_1_5 (((lim a.natAbs))) ∧ UC w' (go3_9_1 :: (g5 :: (g1 :: X))) Ao3_3_4 co3_3_5 (((lim b.natAbs))) ∧ UC w' (go3_9_1 :: (g5 :: (g1 :: X))) Ao3_4_4 co3_4_5 (lim (a.fdiv b).natAbs) ∧ UC w' (go3_9_1 :: (g5 :: (g1 :: X))) Ao3_4_7 co3_4_8 (lim ((if b = 0 then 0 else a.fmod b)).natAbs)
       , fun fa w' => ∃ Ao3_1_4 : Option Addr, ∃ co3_1_5 : Nat, ∃ Ao3_3_4 : Option Addr, ∃ co3_3_5 : Nat, ∃ Ao3_4_4 : Option Addr, ∃ co3_4_5 : Nat, ∃ Ao3_4_7 : Option Addr, ∃ co3_4_8 : Nat, ∃ go3_10_1 : Nat, Frm 82 fa [(21, (.agg #[(.bool ((decide (a < 0)))), (.slice (Ao3_1_4) ((((lim a.natAbs))).length) (co3_1_5))])), (23, (.agg #[(.bool ((decide (b < 0)))), (.slice (Ao3_3_4) ((((lim b.natAbs))).length) (co3_3_5))])), (24, (.tuple #[(.agg (ic (Ao3_4_4) (co3_4_5) ((a.fdiv b)))), (.agg (ic (Ao3_4_7) (co3_4_8) ((if b = 0 then 0 else a.fmod b)))), (.int .i64 ((if b = 0 then 6 else 0)))])), (6, (.pointer (some ⟨go3_10_1, 0, none⟩)))] ∧ St w w' [(go3_10_1, 24, #[(.bool (false)), (.slice (none) (0) (0))]), (g5, 24, (ic (A_b) (c_b) (b))), (g1, 24, (ic (A_a) (c_a) (a)))] ∧ Ext w17 (g5 :: (g1 :: X)) w' (go3_10_1 :: (g5 :: (g1 :: X))) ∧ UC w' (go3_10_1 :: (g5 :: (g1 :: X))) Ao3_1_4 co3_1_5 (((lim a.natAbs))) ∧ UC w' (go3_10_1 :: (g5 :: (g1 :: X))) Ao3_3_4 co3_3_5 (((lim b.natAbs))) ∧ UC w' (go3_10_1 :: (g5 :: (g1 :: X))) Ao3_4_4 co3_4_5 (lim (a.fdiv b).natAbs) ∧ UC w' (go3_10_1 :: (g5 :: (g1 :: X))) Ao3_4_7 co3_4_8 (lim ((if b = 0 then 0 else a.fmod b)).natAbs)
       , fun fa w' => ∃ Ao3_1_4 : Option Addr, ∃ co3_1_5 : Nat, ∃ Ao3_3_4 : Option Addr, ∃ co3_3_5 : Nat, ∃ go3_9_1 : Nat, ∃ go3_10_1 : Nat, Frm 82 fa [(21, (.agg #[(.bool ((decide (a < 0)))), (.slice (Ao3_1_4) ((((lim a.natAbs))).length) (co3_1_5))])), (23, (.agg #[(.bool ((decide (b < 0)))), (.slice (Ao3_3_4) ((((lim b.natAbs))).length) (co3_3_5))])), (5, (.pointer (some ⟨go3_9_1, 0, none⟩))), (6, (.pointer (some ⟨go3_10_1, 0, none⟩)))] ∧ St w w' [(go3_10_1, 24, #[(.bool (false)), (.slice (none) (0) (0))]), (go3_9_1, 24, #[(.bool (false)), (.slice (none) (0) (0))]), (g5, 24, (ic (A_b) (c_b) (b))), (g1, 24, (ic (A_a) (c_a) (a)))] ∧ Ext w17 (g5 :: (g1 :: X)) w' (go3_10_1 :: (go3_9_1 :: (g5 :: (g1 :: X)))) ∧ UC w' (go3_10_1 :: (go3_9_1 :: (g5 :: (g1 :: X)))) Ao3_1_4 co3_1_5 (((lim a.natAbs))) ∧ UC w' (go3_10_1 :: (go3_9_1 :: (g5 :: (g1 :: X)))) Ao3_3_4 co3_3_5 (((lim b.natAbs)))
       , fun fa w' => ∃ Ao3_1_4 : Option Addr, ∃ co3_1_5 : Nat, ∃ Ao3_3_4 : Option Addr, ∃ co3_3_5 : Nat, ∃ Ao3_4_4 : Option Addr, ∃ co3_4_5 : Nat, ∃ Ao3_4_7 : Option Addr, ∃ co3_4_8 : Nat, Frm 82 fa [(21, (.agg #[(.bool ((decide (a < 0)))), (.slice (Ao3_1_4) ((((lim a.natAbs))).length) (co3_1_5))])), (23, (.agg #[(.bool ((decide (b < 0)))), (.slice (Ao3_3_4) ((((lim b.natAbs))).length) (co3_3_5))])), (24, (.tuple #[(.agg (ic (Ao3_4_4) (co3_4_5) ((a.fdiv b)))), (.agg (ic (Ao3_4_7) (co3_4_8) ((if b = 0 then 0 else a.fmod b)))), (.int .i64 ((if b = 0 then 6 else 0)))])), (19, (.tuple #[(.agg (ic (Ao3_4_4) (co3_4_5) ((a.fdiv b)))), (.agg (ic (Ao3_4_7) (co3_4_8) ((if b = 0 then 0 else a.fmod b)))), (.int .i64 ((if b = 0 then 6 else 0)))])), (25, (.agg (ic (Ao3_4_4) (co3_4_5) ((a.fdiv b)))))] ∧ St w w' [(g5, 24, (ic (A_b) (c_b) (b))), (g1, 24, (ic (A_a) (c_a) (a)))] ∧ Ext w17 (g5 :: (g1 :: X)) w' (g5 :: (g1 :: X)) ∧ UC w' (g5 :: (g1 :: X)) Ao3_1_4 co3_1_5 (((lim a.natAbs))) ∧ UC w' (g5 :: (g1 :: X)) Ao3_3_4 co3_3_5 (((lim b.natAbs))) ∧ UC w' (g5 :: (g1 :: X)) Ao3_4_4 co3_4_5 (lim (a.fdiv b).natAbs) ∧ UC w' (g5 :: (g1 :: X)) Ao3_4_7 co3_4_8 (lim ((if b = 0 then 0 else a.fmod b)).natAbs)
       , fun fa w' => ∃ Ao3_1_4 : Option Addr, ∃ co3_1_5 : Nat, ∃ Ao3_3_4 : Option Addr, ∃ co3_3_5 : Nat, ∃ Ao3_4_4 : Option Addr, ∃ co3_4_5 : Nat, ∃ Ao3_4_7 : Option Addr, ∃ co3_4_8 : Nat, Frm 82 fa [(21, (.agg #[(.bool ((decide (a < 0)))), (.slice (Ao3_1_4) ((((lim a.natAbs))).length) (co3_1_5))])), (23, (.agg #[(.bool ((decide (b < 0)))), (.slice (Ao3_3_4) ((((lim b.natAbs))).length) (co3_3_5))])), (24, (.tuple #[(.agg (ic (Ao3_4_4) (co3_4_5) ((a.fdiv b)))), (.agg (ic (Ao3_4_7) (co3_4_8) ((if b = 0 then 0 else a.fmod b)))), (.int .i64 ((if b = 0 then 6 else 0)))])), (19, (.tuple #[(.agg (ic (Ao3_4_4) (co3_4_5) ((a.fdiv b)))), (.agg (ic (Ao3_4_7) (co3_4_8) ((if b = 0 then 0 else a.fmod b)))), (.int .i64 ((if b = 0 then 6 else 0)))])), (26, (.agg (ic (Ao3_4_7) (co3_4_8) ((if b = 0 then 0 else a.fmod b)))))] ∧ St w w' [(g5, 24, (ic (A_b) (c_b) (b))), (g1, 24, (ic (A_a) (c_a) (a)))] ∧ Ext w17 (g5 :: (g1 :: X)) w' (g5 :: (g1 :: X)) ∧ UC w' (g5 :: (g1 :: X)) Ao3_1_4 co3_1_5 (((lim a.natAbs))) ∧ UC w' (g5 :: (g1 :: X)) Ao3_3_4 co3_3_5 (((lim b.natAbs))) ∧ UC w' (g5 :: (g1 :: X)) Ao3_4_4 co3_4_5 (lim (a.fdiv b).natAbs) ∧ UC w' (g5 :: (g1 :: X)) Ao3_4_7 co3_4_8 (lim ((if b = 0 then 0 else a.fmod b)).natAbs)
       , fun fa w' => ∃ Ao3_1_4 : Option Addr, ∃ co3_1_5 : Nat, ∃ Ao3_3_4 : Option Addr, ∃ co3_3_5 : Nat, ∃ Ao3_4_4 : Option Addr, ∃ co3_4_5 : Nat, ∃ Ao3_4_7 : Option Addr, ∃ co3_4_8 : Nat, ∃ go3_9_1 : Nat, Frm 82 fa [(21, (.agg #[(.bool ((decide (a < 0)))), (.slice (Ao3_1_4) ((((lim a.natAbs))).length) (co3_1_5))])), (23, (.agg #[(.bool ((decide (b < 0)))), (.slice (Ao3_3_4) ((((lim b.natAbs))).length) (co3_3_5))])), (24, (.tuple #[(.agg (ic (Ao3_4_4) (co3_4_5) ((a.fdiv b)))), (.agg (ic (Ao3_4_7) (co3_4_8) ((if b = 0 then 0 else a.fmod b)))), (.int .i64 ((if b = 0 then 6 else 0)))])), (19, (.tuple #[(.agg (ic (Ao3_4_4) (co3_4_5) ((a.fdiv b)))), (.agg (ic (Ao3_4_7) (co3_4_8) ((if b = 0 then 0 else a.fmod b)))), (.int .i64 ((if b = 0 then 6 else 0)))])), (5, (.pointer (some ⟨go3_9_1, 0, none⟩)))] ∧ St w w' [(go3_9_1, 24, #[(.bool (false)), (.slice (none) (0) (0))]), (g5, 24, (ic (A_b) (c_b) (b))), (g1, 24, (ic (A_a) (c_a) (a)))] ∧ Ext w17 (g5 :: (g1 :: X)) w' (go3_9_1 :: (g5 :: (g1 :: X))) ∧ UC w' (go3_9_1 :: (g5 :: (g1 :: X))) Ao3_1_4 co3_1_5 (((lim a.natAbs))) ∧ UC w' (go3_9_1 :: (g5 :: (g1 :: X))) Ao3_3_4 co3_3_5 (((lim b.natAbs))) ∧ UC w' (go3_9_1 :: (g5 :: (g1 :: X))) Ao3_4_4 co3_4_5 (lim (a.fdiv b).natAbs) ∧ UC w' (go3_9_1 :: (g5 :: (g1 :: X))) Ao3_4_7 co3_4_8 (lim ((if b = 0 then 0 else a.fmod b)).natAbs)
       , fun fa w' => ∃ Ao3_1_4 : Option Addr, ∃ co3_1_5 : Nat, ∃ Ao3_3_4 : Option Addr, ∃ co3_3_5 : Nat, ∃ Ao3_4_4 : Option Addr, ∃ co3_4_5 : Nat, ∃ Ao3_4_7 : Option Addr, ∃ co3_4_8 : Nat, ∃ go3_10_1 : Nat, Frm 82 fa [(21, (.agg #[(.bool ((decide (a < 0)))), (.slice (Ao3_1_4) ((((lim a.natAbs))).length) (co3_1_5))])), (23, (.agg #[(.bool ((decide (b < 0)))), (.slice (Ao3_3_4) ((((lim b.natAbs))).length) (co3_3_5))])), (24, (.tuple #[(.agg (ic (Ao3_4_4) (co3_4_5) ((a.fdiv b)))), (.agg (ic (Ao3_4_7) (co3_4_8) ((if b = 0 then 0 else a.fmod b)))), (.int .i64 ((if b = 0 then 6 else 0)))])), (19, (.tuple #[(.agg (ic (Ao3_4_4) (co3_4_5) ((a.fdiv b)))), (.agg (ic (Ao3_4_7) (co3_4_8) ((if b = 0 then 0 else a.fmod b)))), (.int .i64 ((if b = 0 then 6 else 0)))])), (6, (.pointer (some ⟨go3_10_1, 0, none⟩)))] ∧ St w w' [(go3_10_1, 24, #[(.bool (false)), (.slice (none) (0) (0))]), (g5, 24, (ic (A_b) (c_b) (b))), (g1, 24, (ic (A_a) (c_a) (a)))] ∧ Ext w17 (g5 :: (g1 :: X)) w' (go3_10_1 :: (g5 :: (g1 :: X))) ∧ UC w' (go3_10_1 :: (g5 :: (g1 :: X))) Ao3_1_4 co3_1_5 (((lim a.natAbs))) ∧ UC w' (go3_10_1 :: (g5 :: (g1 :: X))) Ao3_3_4 co3_3_5 (((lim b.natAbs))) ∧ UC w' (go3_10_1 :: (g5 :: (g1 :: X))) Ao3_4_4 co3_4_5 (lim (a.fdiv b).natAbs) ∧ UC w' (go3_10_1 :: (g5 :: (g1 :: X))) Ao3_4_7 co3_4_8 (lim ((if b = 0 then 0 else a.fmod b)).natAbs)
       , fun fa w' => ∃ Ao3_1_4 : Option Addr, ∃ co3_1_5 : Nat, ∃ Ao3_3_4 : Option Addr, ∃ co3_3_5 : Nat, ∃ Ao3_4_4 : Option Addr, ∃ co3_4_5 : Nat, ∃ Ao3_4_7 : Option Addr, ∃ co3_4_8 : Nat, ∃ go3_9_1 : Nat, ∃ go3_10_1 : Nat, Frm 82 fa [(21, (.agg #[(.bool ((decide (a < 0)))), (.slice (Ao3_1_4) ((((lim a.natAbs))).length) (co3_1_5))])), (23, (.agg #[(.bool ((decide (b < 0)))), (.slice (Ao3_3_4) ((((lim b.natAbs))).length) (co3_3_5))])), (24, (.tuple #[(.agg (ic (Ao3_4_4) (co3_4_5) ((a.fdiv b)))), (.agg (ic (Ao3_4_7) (co3_4_8) ((if b = 0 then 0 else a.fmod b)))), (.int .i64 ((if b = 0 then 6 else 0)))])), (5, (.pointer (some ⟨go3_9_1, 0, none⟩))), (6, (.pointer (some ⟨go3_10_1, 0, none⟩)))] ∧ St w w' [(go3_10_1, 24, #[(.bool (false)), (.slice (none) (0) (0))]), (go3_9_1, 24, #[(.bool (false)), (.slice (none) (0) (0))]), (g5, 24, (ic (A_b) (c_b) (b))), (g1, 24, (ic (A_a) (c_a) (a)))] ∧ Ext w17 (g5 :: (g1 :: X)) w' (go3_10_1 :: (go3_9_1 :: (g5 :: (g1 :: X)))) ∧ UC w' (go3_10_1 :: (go3_9_1 :: (g5 :: (g1 :: X)))) Ao3_1_4 co3_1_5 (((lim a.natAbs))) ∧ UC w' (go3_10_1 :: (go3_9_1 :: (g5 :: (g1 :: X)))) Ao3_3_4 co3_3_5 (((lim b.natAbs))) ∧ UC w' (go3_10_1 :: (go3_9_1 :: (g5 :: (g1 :: X)))) Ao3_4_4 co3_4_5 (lim (a.fdiv b).natAbs) ∧ UC w' (go3_10_1 :: (go3_9_1 :: (g5 :: (g1 :: X)))) Ao3_4_7 co3_4_8 (lim ((if b = 0 then 0 else a.fmod b)).natAbs)
       , fun fa w' => ∃ Ao3_1_4 : Option Addr, ∃ co3_1_5 : Nat, ∃ Ao3_3_4 : Option Addr, ∃ co3_3_5 : Nat, ∃ Ao3_4_4 : Option Addr, ∃ co3_4_5 : Nat, ∃ Ao3_4_7 : Option Addr, ∃ co3_4_8 : Nat, Frm 82 fa [(21, (.agg #[(.bool ((decide (a < 0)))), (.slice (Ao3_1_4) ((((lim a.natAbs))).length) (co3_1_5))])), (23, (.agg #[(.bool ((decide (b < 0)))), (.slice (Ao3_3_4) ((((lim b.natAbs))).length) (co3_3_5))])), (24, (.tuple #[(.agg (ic (Ao3_4_4) (co3_4_5) ((a.fdiv b)))), (.agg (ic (Ao3_4_7) (co3_4_8) ((if b = 0 then 0 else a.fmod b)))), (.int .i64 ((if b = 0 then 6 else 0)))])), (19, (.tuple #[(.agg (ic (Ao3_4_4) (co3_4_5) ((a.fdiv b)))), (.agg (ic (Ao3_4_7) (co3_4_8) ((if b = 0 then 0 else a.fmod b)))), (.int .i64 ((if b = 0 then 6 else 0)))])), (25, (.agg (ic (Ao3_4_4) (co3_4_5) ((a.fdiv b))))), (26, (.agg (ic (Ao3_4_7) (co3_4_8) ((if b = 0 then 0 else a.fmod b)))))] ∧ St w w' [(g5, 24, (ic (A_b) (c_b) (b))), (g1, 24, (ic (A_a) (c_a) (a)))] ∧ Ext w17 (g5 :: (g1 :: X)) w' (g5 :: (g1 :: X)) ∧ UC w' (g5 :: (g1 :: X)) Ao3_1_4 co3_1_5 (((lim a.natAbs))) ∧ UC w' (g5 :: (g1 :: X)) Ao3_3_4 co3_3_5 (((lim b.natAbs))) ∧ UC w' (g5 :: (g1 :: X)) Ao3_4_4 co3_4_5 (lim (a.fdiv b).natAbs) ∧ UC w' (g5 :: (g1 :: X)) Ao3_4_7 co3_4_8 (lim ((if b = 0 then 0 else a.fmod b)).natAbs)
       , fun fa w' => ∃ Ao3_1_4 : Option Addr, ∃ co3_1_5 : Nat, ∃ Ao3_3_4 : Option Addr, ∃ co3_3_5 : Nat, ∃ Ao3_4_4 : Option Addr, ∃ co3_4_5 : Nat, ∃ Ao3_4_7 : Option Addr, ∃ co3_4_8 : Nat, ∃ go3_9_1 : Nat, Frm 82 fa [(21, (.agg #[(.bool ((decide (a < 0)))), (.slice (Ao3_1_4) ((((lim a.natAbs))).length) (co3_1_5))])), (23, (.agg #[(.bool ((decide (b < 0)))), (.slice (Ao3_3_4) ((((lim b.natAbs))).length) (co3_3_5))])), (24, (.tuple #[(.agg (ic (Ao3_4_4) (co3_4_5) ((a.fdiv b)))), (.agg (ic (Ao3_4_7) (co3_4_8) ((if b = 0 then 0 else a.fmod b)))), (.int .i64 ((if b = 0 then 6 else 0)))])), (19, (.tuple #[(.agg (ic (Ao3_4_4) (co3_4_5) ((a.fdiv b)))), (.agg (ic (Ao3_4_7) (co3_4_8) ((if b = 0 then 0 else a.fmod b)))), (.int .i64 ((if b = 0 then 6 else 0)))])), (25, (.agg (ic (Ao3_4_4) (co3_4_5) ((a.fdiv b))))), (5, (.pointer (some ⟨go3_9_1, 0, none⟩)))] ∧ St w w' [(go3_9_1, 24, #[(.bool (false)), (.slice (none) (0) (0))]), (g5, 24, (ic (A_b) (c_b) (b))), (g1, 24, (ic (A_a) (c_a) (a)))] ∧ Ext w17 (g5 :: (g1 :: X)) w' (go3_9_1 :: (g5 :: (g1 :: X))) ∧ UC w' (go3_9_1 :: (g5 :: (g1 :: X))) Ao3_1_4 co3_1_5 (((lim a.natAbs))) ∧ UC w' (go3_9_1 :: (g5 :: (g1 :: X))) Ao3_3_4 co3_3_5 (((lim b.natAbs))) ∧ UC w' (go3_9_1 :: (g5 :: (g1 :: X))) Ao3_4_4 co3_4_5 (lim (a.fdiv b).natAbs) ∧ UC w' (go3_9_1 :: (g5 :: (g1 :: X))) Ao3_4_7 co3_4_8 (lim ((if b = 0 then 0 else a.fmod b)).natAbs)
       , fun fa w' => ∃ Ao3_1_4 : Option Addr, ∃ co3_1_5 : Nat, ∃ Ao3_3_4 : Option Addr, ∃ co3_3_5 : Nat, ∃ Ao3_4_4 : Option Addr, ∃ co3_4_5 : Nat, ∃ Ao3_4_7 : Option Addr, ∃ co3_4_8 : Nat, ∃ go3_10_1 : Nat, Frm 82 fa [(21, (.agg #[(.bool ((decide (a < 0)))), (.slice (Ao3_1_4) ((((lim a.natAbs))).length) (co3_1_5))])), (23, (.agg #[(.bool ((decide (b < 0)))), (.slice (Ao3_3_4) ((((lim b.natAbs))).length) (co3_3_5))])), (24, (.tuple #[(.agg (ic (Ao3_4_4) (co3_4_5) ((a.fdiv b)))), (.agg (ic (Ao3_4_7) (co3_4_8) ((if b = 0 then 0 else a.fmod b)))), (.int .i64 ((if b = 0 then 6 else 0)))])), (19, (.tuple #[(.agg (ic (Ao3_4_4) (co3_4_5) ((a.fdiv b)))), (.agg (ic (Ao3_4_7) (co3_4_8) ((if b = 0 then 0 else a.fmod b)))), (.int .i64 ((if b = 0 then 6 else 0)))])), (25, (.agg (ic (Ao3_4_4) (co3_4_5) ((a.fdiv b))))), (6, (.pointer (some ⟨go3_10_1, 0, none⟩)))] ∧ St w w' [(go3_10_1, 24, #[(.bool (false)), (.slice (none) (0) (0))]), (g5, 24, (ic (A_b) (c_b) (b))), (g1, 24, (ic (A_a) (c_a) (a)))] ∧ Ext w17 (g5 :: (g1 :: X)) w' (go3_10_1 :: (g5 :: (g1 :: X))) ∧ UC w' (go3_10_1 :: (g5 :: (g1 :: X))) Ao3_1_4 co3_1_5 (((lim a.natAbs))) ∧ UC w' (go3_10_1 :: (g5 :: (g1 :: X))) Ao3_3_4 co3_3_5 (((lim b.natAbs))) ∧ UC w' (go3_10_1 :: (g5 :: (g1 :: X))) Ao3_4_4 co3_4_5 (lim (a.fdiv b).natAbs) ∧ UC w' (go3_10_1 :: (g5 :: (g1 :: X))) Ao3_4_7 co3_4_8 (lim ((if b = 0 then 0 else a.fmod b)).natAbs)
       , fun fa w' => ∃ Ao3_1_4 : Option Addr, ∃ co3_1_5 : Nat, ∃ Ao3_3_4 : Option Addr, ∃ co3_3_5 : Nat, ∃ Ao3_4_4 : Option Addr, ∃ co3_4_5 : Nat, ∃ Ao3_4_7 : Option Addr, ∃ co3_4_8 : Nat, ∃ go3_9_1 : Nat, Frm 82 fa [(21, (.agg #[(.bool ((decide (a < 0)))), (.slice (Ao3_1_4) ((((lim a.natAbs))).length) (co3_1_5))])), (23, (.agg #[(.bool ((decide (b < 0)))), (.slice (Ao3_3_4) ((((lim b.natAbs))).length) (co3_3_5))])), (24, (.tuple #[(.agg (ic (Ao3_4_4) (co3_4_5) ((a.fdiv b)))), (.agg (ic (Ao3_4_7) (co3_4_8) ((if b = 0 then 0 else a.fmod b)))), (.int .i64 ((if b = 0 then 6 else 0)))])), (19, (.tuple #[(.agg (ic (Ao3_4_4) (co3_4_5) ((a.fdiv b)))), (.agg (ic (Ao3_4_7) (co3_4_8) ((if b = 0 then 0 else a.fmod b)))), (.int .i64 ((if b = 0 then 6 else 0)))])), (26, (.agg (ic (Ao3_4_7) (co3_4_8) ((if b = 0 then 0 else a.fmod b))))), (5, (.pointer (some ⟨go3_9_1, 0, none⟩)))] ∧ St w w' [(go3_9_1, 24, #[(.bool (false)), (.slice (none) (0) (0))]), (g5, 24, (ic (A_b) (c_b) (b))), (g1, 24, (ic (A_a) (c_a) (a)))] ∧ Ext w17 (g5 :: (g1 :: X)) w' (go3_9_1 :: (g5 :: (g1 :: X))) ∧ UC w' (go3_9_1 :: (g5 :: (g1 :: X))) Ao3_1_4 co3_1_5 (((lim a.natAbs))) ∧ UC w' (go3_9_1 :: (g5 :: (g1 :: X))) Ao3_3_4 co3_3_5 (((lim b.natAbs))) ∧ UC w' (go3_9_1 :: (g5 :: (g1 :: X))) Ao3_4_4 co3_4_5 (lim (a.fdiv b).natAbs) ∧ UC w' (go3_9_1 :: (g5 :: (g1 :: X))) Ao3_4_7 co3_4_8 (lim ((if b = 0 then 0 else a.fmod b)).natAbs)
       , fun fa w' => ∃ Ao3_1_4 : Option Addr, ∃ co3_1_5 : Nat, ∃ Ao3_3_4 : Option Addr, ∃ co3_3_5 : Nat, ∃ Ao3_4_4 : Option Addr, ∃ co3_4_5 : Nat, ∃ Ao3_4_7 : Option Addr, ∃ co3_4_8 : Nat, ∃ go3_10_1 : Nat, Frm 82 fa [(21, (.agg #[(.bool ((decide (a < 0)))), (.slice (Ao3_1_4) ((((lim a.natAbs))).length) (co3_1_5))])), (23, (.agg #[(.bool ((decide (b < 0)))), (.slice (Ao3_3_4) ((((lim b.natAbs))).length) (co3_3_5))])), (24, (.tuple #[(.agg (ic (Ao3_4_4) (co3_4_5) ((a.fdiv b)))), (.agg (ic (Ao3_4_7) (co3_4_8) ((if b = 0 then 0 else a.fmod b)))), (.int .i64 ((if b = 0 then 6 else 0)))])), (19, (.tuple #[(.agg (ic (Ao3_4_4) (co3_4_5) ((a.fdiv b)))), (.agg (ic (Ao3_4_7) (co3_4_8) ((if b = 0 then 0 else a.fmod b)))), (.int .i64 ((if b = 0 then 6 else 0)))])), (26, (.agg (ic (Ao3_4_7) (co3_4_8) ((if b = 0 then 0 else a.fmod b))))), (6, (.pointer (some ⟨go3_10_1, 0, none⟩)))] ∧ St w w' [(go3_10_1, 24, #[(.bool (false)), (.slice (none) (0) (0))]), (g5, 24, (ic (A_b) (c_b) (b))), (g1, 24, (ic (A_a) (c_a) (a)))] ∧ Ext w17 (g5 :: (g1 :: X)) w' (go3_10_1 :: (g5 :: (g1 :: X))) ∧ UC w' (go3_10_1 :: (g5 :: (g1 :: X))) Ao3_1_4 co3_1_5 (((lim a.natAbs))) ∧ UC w' (go3_10_1 :: (g5 :: (g1 :: X))) Ao3_3_4 co3_3_5 (((lim b.natAbs))) ∧ UC w' (go3_10_1 :: (g5 :: (g1 :: X))) Ao3_4_4 co3_4_5 (lim (a.fdiv b).natAbs) ∧ UC w' (go3_10_1 :: (g5 :: (g1 :: X))) Ao3_4_7 co3_4_8 (lim ((if b = 0 then 0 else a.fmod b)).natAbs)
       , fun fa w' => ∃ Ao3_1_4 : Option Addr, ∃ co3_1_5 : Nat, ∃ Ao3_3_4 : Option Addr, ∃ co3_3_5 : Nat, ∃ Ao3_4_4 : Option Addr, ∃ co3_4_5 : Nat, ∃ Ao3_4_7 : Option Addr, ∃ co3_4_8 : Nat, ∃ go3_9_1 : Nat, ∃ go3_10_1 : Nat, Frm 82 fa [(21, (.agg #[(.bool ((decide (a < 0)))), (.slice (Ao3_1_4) ((((lim a.natAbs))).length) (co3_1_5))])), (23, (.agg #[(.bool ((decide (b < 0)))), (.slice (Ao3_3_4) ((((lim b.natAbs))).length) (co3_3_5))])), (24, (.tuple #[(.agg (ic (Ao3_4_4) (co3_4_5) ((a.fdiv b)))), (.agg (ic (Ao3_4_7) (co3_4_8) ((if b = 0 then 0 else a.fmod b)))), (.int .i64 ((if b = 0 then 6 else 0)))])), (19, (.tuple #[(.agg (ic (Ao3_4_4) (co3_4_5) ((a.fdiv b)))), (.agg (ic (Ao3_4_7) (co3_4_8) ((if b = 0 then 0 else a.fmod b)))), (.int .i64 ((if b = 0 then 6 else 0)))])), (5, (.pointer (some ⟨go3_9_1, 0, none⟩))), (6, (.pointer (some ⟨go3_10_1, 0, none⟩)))] ∧ St w w' [(go3_10_1, 24, #[(.bool (false)), (.slice (none) (0) (0))]), (go3_9_1, 24, #[(.bool (false)), (.slice (none) (0) (0))]), (g5, 24, (ic (A_b) (c_b) (b))), (g1, 24, (ic (A_a) (c_a) (a)))] ∧ Ext w17 (g5 :: (g1 :: X)) w' (go3_10_1 :: (go3_9_1 :: (g5 :: (g1 :: X)))) ∧ UC w' (go3_10_1 :: (go3_9_1 :: (g5 :: (g1 :: X)))) Ao3_1_4 co3_1_5 (((lim a.natAbs))) ∧ UC w' (go3_10_1 :: (go3_9_1 :: (g5 :: (g1 :: X)))) Ao3_3_4 co3_3_5 (((lim b.natAbs))) ∧ UC w' (go3_10_1 :: (go3_9_1 :: (g5 :: (g1 :: X)))) Ao3_4_4 co3_4_5 (lim (a.fdiv b).natAbs) ∧ UC w' (go3_10_1 :: (go3_9_1 :: (g5 :: (g1 :: X)))) Ao3_4_7 co3_4_8 (lim ((if b = 0 then 0 else a.fmod b)).natAbs)
       , fun fa w' => ∃ Ao3_1_4 : Option Addr, ∃ co3_1_5 : Nat, ∃ Ao3_3_4 : Option Addr, ∃ co3_3_5 : Nat, ∃ Ao3_4_4 : Option Addr, ∃ co3_4_5 : Nat, ∃ Ao3_4_7 : Option Addr, ∃ co3_4_8 : Nat, ∃ go3_9_1 : Nat, Frm 82 fa [(21, (.agg #[(.bool ((decide (a < 0)))), (.slice (Ao3_1_4) ((((lim a.natAbs))).length) (co3_1_5))])), (23, (.agg #[(.bool ((decide (b < 0)))), (.slice (Ao3_3_4) ((((lim b.natAbs))).length) (co3_3_5))])), (24, (.tuple #[(.agg (ic (Ao3_4_4) (co3_4_5) ((a.fdiv b)))), (.agg (ic (Ao3_4_7) (co3_4_8) ((if b = 0 then 0 else a.fmod b)))), (.int .i64 ((if b = 0 then 6 else 0)))])), (19, (.tuple #[(.agg (ic (Ao3_4_4) (co3_4_5) ((a.fdiv b)))), (.agg (ic (Ao3_4_7) (co3_4_8) ((if b = 0 then 0 else a.fmod b)))), (.int .i64 ((if b = 0 then 6 else 0)))])), (25, (.agg (ic (Ao3_4_4) (co3_4_5) ((a.fdiv b))))), (26, (.agg (ic (Ao3_4_7) (co3_4_8) ((if b = 0 then 0 else a.fmod b))))), (5, (.pointer (some ⟨go3_9_1, 0, none⟩)))] ∧ St w w' [(go3_9_1, 24, #[(.bool (false)), (.slice (none) (0) (0))]), (g5, 24, (ic (A_b) (c_b) (b))), (g1, 24, (ic (A_a) (c_a) (a)))] ∧ Ext w17 (g5 :: (g1 :: X)) w' (go3_9_1 :: (g5 :: (g1 :: X))) ∧ UC w' (go3_9_1 :: (g5 :: (g1 :: X))) Ao3_1_4 co3_1_5 (((lim a.natAbs))) ∧ UC w' (go3_9_1 :: (g5 :: (g1 :: X))) Ao3_3_4 co3_3_5 (((lim b.natAbs))) ∧ UC w' (go3_9_1 :: (g5 :: (g1 :: X))) Ao3_4_4 co3_4_5 (lim (a.fdiv b).natAbs) ∧ UC w' (go3_9_1 :: (g5 :: (g1 :: X))) Ao3_4_7 co3_4_8 (lim ((if b = 0 then 0 else a.fmod b)).natAbs)
       , fun fa w' => ∃ Ao3_1_4 : Option Addr, ∃ co3_1_5 : Nat, ∃ Ao3_3_4 : Option Addr, ∃ co3_3_5 : Nat, ∃ Ao3_4_4 : Option Addr, ∃ co3_4_5 : Nat, ∃ Ao3_4_7 : Option Addr, ∃ co3_4_8 : Nat, ∃ go3_10_1 : Nat, Frm 82 fa [(21, (.agg #[(.bool ((decide (a < 0)))), (.slice (Ao3_1_4) ((((lim a.natAbs))).length) (co3_1_5))])), (23, (.agg #[(.bool ((decide (b < 0)))), (.slice (Ao3_3_4) ((((lim b.natAbs))).length) (co3_3_5))])), (24, (.tuple #[(.agg (ic (Ao3_4_4) (co3_4_5) ((a.fdiv b)))), (.agg (ic (Ao3_4_7) (co3_4_8) ((if b = 0 then 0 else a.fmod b)))), (.int .i64 ((if b = 0 then 6 else 0)))])), (19, (.tuple #[(.agg (ic (Ao3_4_4) (co3_4_5) ((a.fdiv b)))), (.agg (ic (Ao3_4_7) (co3_4_8) ((if b = 0 then 0 else a.fmod b)))), (.int .i64 ((if b = 0 then 6 else 0)))])), (25, (.agg (ic (Ao3_4_4) (co3_4_5) ((a.fdiv b))))), (26, (.agg (ic (Ao3_4_7) (co3_4_8) ((if b = 0 then 0 else a.fmod b))))), (6, (.pointer (some ⟨go3_10_1, 0, none⟩)))] ∧ St w w' [(go3_10_1, 24, #[(.bool (false)), (.slice (none) (0) (0))]), (g5, 24, (ic (A_b) (c_b) (b))), (g1, 24, (ic (A_a) (c_a) (a)))] ∧ Ext w17 (g5 :: (g1 :: X)) w' (go3_10_1 :: (g5 :: (g1 :: X))) ∧ UC w' (go3_10_1 :: (g5 :: (g1 :: X))) Ao3_1_4 co3_1_5 (((lim a.natAbs))) ∧ UC w' (go3_10_1 :: (g5 :: (g1 :: X))) Ao3_3_4 co3_3_5 (((lim b.natAbs))) ∧ UC w' (go3_10_1 :: (g5 :: (g1 :: X))) Ao3_4_4 co3_4_5 (lim (a.fdiv b).natAbs) ∧ UC w' (go3_10_1 :: (g5 :: (g1 :: X))) Ao3_4_7 co3_4_8 (lim ((if b = 0 then 0 else a.fmod b)).natAbs)
       , fun fa w' => ∃ Ao3_1_4 : Option Addr, ∃ co3_1_5 : Nat, ∃ Ao3_3_4 : Option Addr, ∃ co3_3_5 : Nat, ∃ Ao3_4_4 : Option Addr, ∃ co3_4_5 : Nat, ∃ Ao3_4_7 : Option Addr, ∃ co3_4_8 : Nat, ∃ go3_9_1 : Nat, ∃ go3_10_1 : Nat, Frm 82 fa [(21, (.agg #[(.bool ((decide (a < 0)))), (.slice (Ao3_1_4) ((((lim a.natAbs))).length) (co3_1_5))])), (23, (.agg #[(.bool ((decide (b < 0)))), (.slice (Ao3_3_4) ((((lim b.natAbs))).length) (co3_3_5))])), (24, (.tuple #[(.agg (ic (Ao3_4_4) (co3_4_5) ((a.fdiv b)))), (.agg (ic (Ao3_4_7) (co3_4_8) ((if b = 0 then 0 else a.fmod b)))), (.int .i64 ((if b = 0 then 6 else 0)))])), (19, (.tuple #[(.agg (ic (Ao3_4_4) (co3_4_5) ((a.fdiv b)))), (.agg (ic (Ao3_4_7) (co3_4_8) ((if b = 0 then 0 else a.fmod b)))), (.int .i64 ((if b = 0 then 6 else 0)))])), (25, (.agg (ic (Ao3_4_4) (co3_4_5) ((a.fdiv b))))), (5, (.pointer (some ⟨go3_9_1, 0, none⟩))), (6, (.pointer (some ⟨go3_10_1, 0, none⟩)))] ∧ St w w' [(go3_10_1, 24, #[(.bool (false)), (.slice (none) (0) (0))]), (go3_9_1, 24, #[(.bool (false)), (.slice (none) (0) (0))]), (g5, 24, (ic (A_b) (c_b) (b))), (g1, 24, (ic (A_a) (c_a) (a)))] ∧ Ext w17 (g5 :: (g1 :: X)) w' (go3_10_1 :: (go3_9_1 :: (g5 :: (g1 :: X)))) ∧ UC w' (go3_10_1 :: (go3_9_1 :: (g5 :: (g1 :: X)))) Ao3_1_4 co3_1_5 (((lim a.natAbs))) ∧ UC w' (go3_10_1 :: (go3_9_1 :: (g5 :: (g1 :: X)))) Ao3_3_4 co3_3_5 (((lim b.natAbs))) ∧ UC w' (go3_10_1 :: (go3_9_1 :: (g5 :: (g1 :: X)))) Ao3_4_4 co3_4_5 (lim (a.fdiv b).natAbs) ∧ UC w' (go3_10_1 :: (go3_9_1 :: (g5 :: (g1 :: X)))) Ao3_4_7 co3_4_8 (lim ((if b = 0 then 0 else a.fmod b)).natAbs)
       , fun fa w' => ∃ Ao3_1_4 : Option Addr, ∃ co3_1_5 : Nat, ∃ Ao3_3_4 : Option Addr, ∃ co3_3_5 : Nat, ∃ Ao3_4_4 : Option Addr, ∃ co3_4_5 : Nat, ∃ Ao3_4_7 : Option Addr, ∃ co3_4_8 : Nat, ∃ go3_9_1 : Nat, ∃ go3_10_1 : Nat, Frm 82 fa [(21, (.agg #[(.bool ((decide (a < 0)))), (.slice (Ao3_1_4) ((((lim a.natAbs))).length) (co3_1_5))])), (23, (.agg #[(.bool ((decide (b < 0)))), (.slice (Ao3_3_4) ((((lim b.natAbs))).length) (co3_3_5))])), (24, (.tuple #[(.agg (ic (Ao3_4_4) (co3_4_5) ((a.fdiv b)))), (.agg (ic (Ao3_4_7) (co3_4_8) ((if b = 0 then 0 else a.fmod b)))), (.int .i64 ((if b = 0 then 6 else 0)))])), (19, (.tuple #[(.agg (ic (Ao3_4_4) (co3_4_5) ((a.fdiv b)))), (.agg (ic (Ao3_4_7) (co3_4_8) ((if b = 0 then 0 else a.fmod b)))), (.int .i64 ((if b = 0 then 6 else 0)))])), (26, (.agg (ic (Ao3_4_7) (co3_4_8) ((if b = 0 then 0 else a.fmod b))))), (5, (.pointer (some ⟨go3_9_1, 0, none⟩))), (6, (.pointer (some ⟨go3_10_1, 0, none⟩)))] ∧ St w w' [(go3_10_1, 24, #[(.bool (false)), (.slice (none) (0) (0))]), (go3_9_1, 24, #[(.bool (false)), (.slice (none) (0) (0))]), (g5, 24, (ic (A_b) (c_b) (b))), (g1, 24, (ic (A_a) (c_a) (a)))] ∧ Ext w17 (g5 :: (g1 :: X)) w' (go3_10_1 :: (go3_9_1 :: (g5 :: (g1 :: X)))) ∧ UC w' (go3_10_1 :: (go3_9_1 :: (g5 :: (g1 :: X)))) Ao3_1_4 co3_1_5 (((lim a.natAbs))) ∧ UC w' (go3_10_1 :: (go3_9_1 :: (g5 :: (g1 :: X)))) Ao3_3_4 co3_3_5 (((lim b.natAbs))) ∧ UC w' (go3_10_1 :: (go3_9_1 :: (g5 :: (g1 :: X)))) Ao3_4_4 co3_4_5 (lim (a.fdiv b).natAbs) ∧ UC w' (go3_10_1 :: (go3_9_1 :: (g5 :: (g1 :: X)))) Ao3_4_7 co3_4_8 (lim ((if b = 0 then 0 else a.fmod b)).natAbs)
       , fun fa w' => ∃ Ao3_1_4 : Option Addr, ∃ co3_1_5 : Nat, ∃ Ao3_3_4 : Option Addr, ∃ co3_3_5 : Nat, ∃ Ao3_4_4 : Option Addr, ∃ co3_4_5 : Nat, ∃ Ao3_4_7 : Option Addr, ∃ co3_4_8 : Nat, ∃ go3_9_1 : Nat, ∃ go3_10_1 : Nat, Frm 82 fa [(21, (.agg #[(.bool ((decide (a < 0)))), (.slice (Ao3_1_4) ((((lim a.natAbs))).length) (co3_1_5))])), (23, (.agg #[(.bool ((decide (b < 0)))), (.slice (Ao3_3_4) ((((lim b.natAbs))).length) (co3_3_5))])), (24, (.tuple #[(.agg (ic (Ao3_4_4) (co3_4_5) ((a.fdiv b)))), (.agg (ic (Ao3_4_7) (co3_4_8) ((if b = 0 then 0 else a.fmod b)))), (.int .i64 ((if b = 0 then 6 else 0)))])), (19, (.tuple #[(.agg (ic (Ao3_4_4) (co3_4_5) ((a.fdiv b)))), (.agg (ic (Ao3_4_7) (co3_4_8) ((if b = 0 then 0 else a.fmod b)))), (.int .i64 ((if b = 0 then 6 else 0)))])), (25, (.agg (ic (Ao3_4_4) (co3_4_5) ((a.fdiv b))))), (26, (.agg (ic (Ao3_4_7) (co3_4_8) ((if b = 0 then 0 else a.fmod b))))), (5, (.pointer (some ⟨go3_9_1, 0, none⟩))), (6, (.pointer (some ⟨go3_10_1, 0, none⟩)))] ∧ St w w' [(go3_10_1, 24, #[(.bool (false)), (.slice (none) (0) (0))]), (go3_9_1, 24, #[(.bool (false)), (.slice (none) (0) (0))]), (g5, 24, (ic (A_b) (c_b) (b))), (g1, 24, (ic (A_a) (c_a) (a)))] ∧ Ext w17 (g5 :: (g1 :: X)) w' (go3_10_1 :: (go3_9_1 :: (g5 :: (g1 :: X)))) ∧ UC w' (go3_10_1 :: (go3_9_1 :: (g5 :: (g1 :: X)))) Ao3_1_4 co3_1_5 (((lim a.natAbs))) ∧ UC w' (go3_10_1 :: (go3_9_1 :: (g5 :: (g1 :: X)))) Ao3_3_4 co3_3_5 (((lim b.natAbs))) ∧ UC w' (go3_10_1 :: (go3_9_1 :: (g5 :: (g1 :: X)))) Ao3_4_4 co3_4_5 (lim (a.fdiv b).natAbs) ∧ UC w' (go3_10_1 :: (go3_9_1 :: (g5 :: (g1 :: X)))) Ao3_4_7 co3_4_8 (lim ((if b = 0 then 0 else a.fmod b)).natAbs)
       , fun fa w' => ∃ Ao3_1_4 : Option Addr, ∃ co3_1_5 : Nat, ∃ Ao3_3_4 : Option Addr, ∃ co3_3_5 : Nat, ∃ Ao3_4_4 : Option Addr, ∃ co3_4_5 : Nat, ∃ Ao3_4_7 : Option Addr, ∃ co3_4_8 : Nat, ∃ go3_9_1 : Nat, ∃ go3_10_1 : Nat, Frm 82 fa [(21, (.agg #[(.bool ((decide (a < 0)))), (.slice (Ao3_1_4) ((((lim a.natAbs))).length) (co3_1_5))])), (23, (.agg #[(.bool ((decide (b < 0)))), (.slice (Ao3_3_4) ((((lim b.natAbs))).length) (co3_3_5))])), (24, (.tuple #[(.agg (ic (Ao3_4_4) (co3_4_5) ((a.fdiv b)))), (.agg (ic (Ao3_4_7) (co3_4_8) ((if b = 0 then 0 else a.fmod b)))), (.int .i64 ((if b = 0 then 6 else 0)))])), (19, (.tuple #[(.agg (ic (Ao3_4_4) (co3_4_5) ((a.fdiv b)))), (.agg (ic (Ao3_4_7) (co3_4_8) ((if b = 0 then 0 else a.fmod b)))), (.int .i64 ((if b = 0 then 6 else 0)))])), (25, (.agg (ic (Ao3_4_4) (co3_4_5) ((a.fdiv b))))), (5, (.pointer (some ⟨go3_9_1, 0, none⟩))), (6, (.pointer (some ⟨go3_10_1, 0, none⟩)))] ∧ St w w' [(go3_10_1, 24, #[(.bool (false)), (.slice (none) (0) (0))]), (go3_9_1, 24, (ic (Ao3_4_4) (co3_4_5) ((a.fdiv b)))), (g5, 24, (ic (A_b) (c_b) (b))), (g1, 24, (ic (A_a) (c_a) (a)))] ∧ Ext w17 (g5 :: (g1 :: X)) w' (go3_10_1 :: (go3_9_1 :: (g5 :: (g1 :: X)))) ∧ UC w' (go3_10_1 :: (go3_9_1 :: (g5 :: (g1 :: X)))) Ao3_1_4 co3_1_5 (((lim a.natAbs))) ∧ UC w' (go3_10_1 :: (go3_9_1 :: (g5 :: (g1 :: X)))) Ao3_3_4 co3_3_5 (((lim b.natAbs))) ∧ UC w' (go3_10_1 :: (go3_9_1 :: (g5 :: (g1 :: X)))) Ao3_4_4 co3_4_5 (lim (a.fdiv b).natAbs) ∧ UC w' (go3_10_1 :: (go3_9_1 :: (g5 :: (g1 :: X)))) Ao3_4_7 co3_4_8 (lim ((if b = 0 then 0 else a.fmod b)).natAbs)
       , fun fa w' => ∃ Ao3_1_4 : Option Addr, ∃ co3_1_5 : Nat, ∃ Ao3_3_4 : Option Addr, ∃ co3_3_5 : Nat, ∃ Ao3_4_4 : Option Addr, ∃ co3_4_5 : Nat, ∃ Ao3_4_7 : Option Addr, ∃ co3_4_8 : Nat, ∃ go3_9_1 : Nat, ∃ go3_10_1 : Nat, Frm 82 fa [(21, (.agg #[(.bool ((decide (a < 0)))), (.slice (Ao3_1_4) ((((lim a.natAbs))).length) (co3_1_5))])), (23, (.agg #[(.bool ((decide (b < 0)))), (.slice (Ao3_3_4) ((((lim b.natAbs))).length) (co3_3_5))])), (24, (.tuple #[(.agg (ic (Ao3_4_4) (co3_4_5) ((a.fdiv b)))), (.agg (ic (Ao3_4_7) (co3_4_8) ((if b = 0 then 0 else a.fmod b)))), (.int .i64 ((if b = 0 then 6 else 0)))])), (19, (.tuple #[(.agg (ic (Ao3_4_4) (co3_4_5) ((a.fdiv b)))), (.agg (ic (Ao3_4_7) (co3_4_8) ((if b = 0 then 0 else a.fmod b)))), (.int .i64 ((if b = 0 then 6 else 0)))])), (25, (.agg (ic (Ao3_4_4) (co3_4_5) ((a.fdiv b))))), (26, (.agg (ic (Ao3_4_7) (co3_4_8) ((if b = 0 then 0 else a.fmod b))))), (5, (.pointer (some ⟨go3_9_1, 0, none⟩))), (6, (.pointer (some ⟨go3_10_1, 0, none⟩)))] ∧ St w w' [(go3_10_1, 24, #[(.bool (false)), (.slice (none) (0) (0))]), (go3_9_1, 24, (ic (Ao3_4_4) (co3_4_5) ((a.fdiv b)))), (g5, 24, (ic (A_b) (c_b) (b))), (g1, 24, (ic (A_a) (c_a) (a)))] ∧ Ext w17 (g5 :: (g1 :: X)) w' (go3_10_1 :: (go3_9_1 :: (g5 :: (g1 :: X)))) ∧ UC w' (go3_10_1 :: (go3_9_1 :: (g5 :: (g1 :: X)))) Ao3_1_4 co3_1_5 (((lim a.natAbs))) ∧ UC w' (go3_10_1 :: (go3_9_1 :: (g5 :: (g1 :: X)))) Ao3_3_4 co3_3_5 (((lim b.natAbs))) ∧ UC w' (go3_10_1 :: (go3_9_1 :: (g5 :: (g1 :: X)))) Ao3_4_4 co3_4_5 (lim (a.fdiv b).natAbs) ∧ UC w' (go3_10_1 :: (go3_9_1 :: (g5 :: (g1 :: X)))) Ao3_4_7 co3_4_8 (lim ((if b = 0 then 0 else a.fmod b)).natAbs)
       , fun fa w' => ∃ Ao3_1_4 : Option Addr, ∃ co3_1_5 : Nat, ∃ Ao3_3_4 : Option Addr, ∃ co3_3_5 : Nat, ∃ Ao3_4_4 : Option Addr, ∃ co3_4_5 : Nat, ∃ Ao3_4_7 : Option Addr, ∃ co3_4_8 : Nat, ∃ go3_9_1 : Nat, ∃ go3_10_1 : Nat, Frm 82 fa [(21, (.agg #[(.bool ((decide (a < 0)))), (.slice (Ao3_1_4) ((((lim a.natAbs))).length) (co3_1_5))])), (23, (.agg #[(.bool ((decide (b < 0)))), (.slice (Ao3_3_4) ((((lim b.natAbs))).length) (co3_3_5))])), (24, (.tuple #[(.agg (ic (Ao3_4_4) (co3_4_5) ((a.fdiv b)))), (.agg (ic (Ao3_4_7) (co3_4_8) ((if b = 0 then 0 else a.fmod b)))), (.int .i64 ((if b = 0 then 6 else 0)))])), (19, (.tuple #[(.agg (ic (Ao3_4_4) (co3_4_5) ((a.fdiv b)))), (.agg (ic (Ao3_4_7) (co3_4_8) ((if b = 0 then 0 else a.fmod b)))), (.int .i64 ((if b = 0 then 6 else 0)))])), (25, (.agg (ic (Ao3_4_4) (co3_4_5) ((a.fdiv b))))), (26, (.agg (ic (Ao3_4_7) (co3_4_8) ((if b = 0 then 0 else a.fmod b))))), (5, (.pointer (some ⟨go3_9_1, 0, none⟩))), (6, (.pointer (some ⟨go3_10_1, 0, none⟩)))] ∧ St w w' [(go3_10_1, 24, (ic (Ao3_4_7) (co3_4_8) ((if b = 0 then 0 else a.fmod b)))), (go3_9_1, 24, (ic (Ao3_4_4) (co3_4_5) ((a.fdiv b)))), (g5, 24, (ic (A_b) (c_b) (b))), (g1, 24, (ic (A_a) (c_a) (a)))] ∧ Ext w17 (g5 :: (g1 :: X)) w' (go3_10_1 :: (go3_9_1 :: (g5 :: (g1 :: X)))) ∧ UC w' (go3_10_1 :: (go3_9_1 :: (g5 :: (g1 :: X)))) Ao3_1_4 co3_1_5 (((lim a.natAbs))) ∧ UC w' (go3_10_1 :: (go3_9_1 :: (g5 :: (g1 :: X)))) Ao3_3_4 co3_3_5 (((lim b.natAbs))) ∧ UC w' (go3_10_1 :: (go3_9_1 :: (g5 :: (g1 :: X)))) Ao3_4_4 co3_4_5 (lim (a.fdiv b).natAbs) ∧ UC w' (go3_10_1 :: (go3_9_1 :: (g5 :: (g1 :: X)))) Ao3_4_7 co3_4_8 (lim ((if b = 0 then 0 else a.fmod b)).natAbs)
     ] TfLD.mixed rfl rfl rfl rfl rfl rfl (hF.take (hF.take (hF.take (hF.take (hF.take (hF.take hF.nil rfl) rfl) rfl) rfl) rfl) rfl) rfl ⟨hF.nil, hS.drew, Ext.drew _ _⟩ ?_ ?_ ?_
 all_goals clear hF fa
 ·
  refine ⟨?_, ?_, ?_, ?_, ?_, ?_, ?_, ?_, ?_, ?_, ?_, ?_, ?_, ?_, ?_, ?_, ?_, ?_, ?_, ?_, ?_, ?_, ?_, ?_, ?_, ?_, ?_, ?_, ?_, ?_, ?_, ?_, ?_, ?_, ?_, trivial⟩
  ·
   rintro fa w' i o d v ho hd hna ⟨hA, hR⟩; exact ⟨hA.put_other v (freeOf_at (acts := [1, 3, 4, 5, 6, 7, 9, 10, 11, 12]) rfl ho hd hna), hR⟩
  ·
   rintro fa w' i o d v ho hd hna ⟨Ao3_1_4, co3_1_5, hA, hR⟩; exact ⟨Ao3_1_4, co3_1_5, hA.put_other v (freeOf_at (acts := [1, 3, 4, 5, 6, 7, 9, 10, 11, 12]) rfl ho hd hna), hR⟩
  ·
   rintro fa w' i o d v ho hd hna ⟨go3_9_1, hA, hR⟩; exact ⟨go3_9_1, hA.put_other v (freeOf_at (acts := [1, 3, 4, 5, 6, 7, 9, 10, 11, 12]) rfl ho hd hna), hR⟩
  ·
   rintro fa w' i o d v ho hd hna ⟨go3_10_1, hA, hR⟩; exact ⟨go3_10_1, hA.put_other v (freeOf_at (acts := [1, 3, 4, 5, 6, 7, 9, 10, 11, 12]) rfl ho hd hna), hR⟩
  ·
   rintro fa w' i o d v ho hd hna ⟨Ao3_1_4, co3_1_5, Ao3_3_4, co3_3_5, hA, hR⟩; exact ⟨Ao3_1_4, co3_1_5, Ao3_3_4, co3_3_5, hA.put_other v (freeOf_at (acts := [1, 3, 4, 5, 6, 7, 9, 10, 11, 12]) rfl ho hd hna), hR⟩
  ·
   rintro fa w' i o d v ho hd hna ⟨Ao3_1_4, co3_1_5, go3_9_1, hA, hR⟩; exact ⟨Ao3_1_4, co3_1_5, go3_9_1, hA.put_other v (freeOf_at (acts := [1, 3, 4, 5, 6, 7, 9, 10, 11, 12]) rfl ho hd hna), hR⟩
  ·
   rintro fa w' i o d v ho hd hna ⟨Ao3_1_4, co3_1_5, go3_10_1, hA, hR⟩; exact ⟨Ao3_1_4, co3_1_5, go3_10_1, hA.put_other v (freeOf_at (acts := [1, 3, 4, 5, 6, 7, 9, 10, 11, 12]) rfl ho hd hna), hR⟩
  ·
   rintro fa w' i o d v ho hd hna ⟨go3_9_1, go3_10_1, hA, hR⟩; exact ⟨go3_9_1, go3_10_1, hA.put_other v (freeOf_at (acts := [1, 3, 4, 5, 6, 7, 9, 10, 11, 12]) rfl ho hd hna), hR⟩
  ·
   rintro fa w' i o d v ho hd hna ⟨Ao3_1_4, co3_1_5, Ao3_3_4, co3_3_5, Ao3_4_4, co3_4_5, Ao3_4_7, co3_4_8, hA, hR⟩; exact ⟨Ao3_1_4, co3_1_5, Ao3_3_4, co3_3_5, Ao3_4_4, co3_4_5, Ao3_4_7, co3_4_8, hA.put_other v (freeOf_at (acts := [1, 3, 4, 5, 6, 7, 9, 10, 11, 12]) rfl ho hd hna), hR⟩
  ·
   rintro fa w' i o d v ho hd hna ⟨Ao3_1_4, co3_1_5, Ao3_3_4, co3_3_5, go3_9_1, hA, hR⟩; exact ⟨Ao3_1_4, co3_1_5, Ao3_3_4, co3_3_5, go3_9_1, hA.put_other v (freeOf_at (acts := [1, 3, 4, 5, 6, 7, 9, 10, 11, 12]) rfl ho hd hna), hR⟩
  ·
   rintro fa w' i o d v ho hd hna ⟨Ao3_1_4, co3_1_5, Ao3_3_4, co3_3_5, go3_10_1, hA, hR⟩; exact ⟨Ao3_1_4, co3_1_5, Ao3_3_4, co3_3_5, go3_10_1, hA.put_other v (freeOf_at (acts := [1, 3, 4, 5, 6, 7, 9, 10, 11, 12]) rfl ho hd hna), hR⟩
  ·
   rintro fa w' i o d v ho hd hna ⟨Ao3_1_4, co3_1_5, go3_9_1, go3_10_1, hA, hR⟩; exact ⟨Ao3_1_4, co3_1_5, go3_9_1, go3_10_1, hA.put_other v (freeOf_at (acts := [1, 3, 4, 5, 6, 7, 9, 10, 11, 12]) rfl ho hd hna), hR⟩
  ·
   rintro fa w' i o d v ho hd hna ⟨Ao3_1_4, co3_1_5, Ao3_3_4, co3_3_5, Ao3_4_4, co3_4_5, Ao3_4_7, co3_4_8, hA, hR⟩; exact ⟨Ao3_1_4, co3_1_5, Ao3_3_4, co3_3_5, Ao3_4_4, co3_4_5, Ao3_4_7, co3_4_8, hA.put_other v (freeOf_at (acts := [1, 3, 4, 5, 6, 7, 9, 10, 11, 12]) rfl ho hd hna), hR⟩
  ·
   rintro fa w' i o d v ho hd hna ⟨Ao3_1_4, co3_1_5, Ao3_3_4, co3_3_5, Ao3_4_4, co3_4_5, Ao3_4_7, co3_4_8, go3_9_1, hA, hR⟩; exact ⟨Ao3_1_4, co3_1_5, Ao3_3_4, co3_3_5, Ao3_4_4, co3_4_5, Ao3_4_7, co3_4_8, go3_9_1, hA.put_other v (freeOf_at (acts := [1, 3, 4, 5, 6, 7, 9, 10, 11, 12]) rfl ho hd hna), hR⟩
  ·
   rintro fa w' i o d v ho hd hna ⟨Ao3_1_4, co3_1_5, Ao3_3_4, co3_3_5, Ao3_4_4, co3_4_5, Ao3_4_7, co3_4_8, go3_10_1, hA, hR⟩; exact ⟨Ao3_1_4, co3_1_5, Ao3_3_4, co3_3_5, Ao3_4_4, co3_4_5, Ao3_4_7, co3_4_8, go3_10_1, hA.put_other v (freeOf_at (acts := [1, 3, 4, 5, 6, 7, 9, 10, 11, 12]) rfl ho hd hna), hR⟩
  ·
   rintro fa w' i o d v ho hd hna ⟨Ao3_1_4, co3_1_5, Ao3_3_4, co3_3_5, go3_9_1, go3_10_1, hA, hR⟩; exact ⟨Ao3_1_4, co3_1_5, Ao3_3_4, co3_3_5, go3_9_1, go3_10_1, hA.put_other v (freeOf_at (acts := [1, 3, 4, 5, 6, 7, 9, 10, 11, 12]) rfl ho hd hna), hR⟩
  ·
   rintro fa w' i o d v ho hd hna ⟨Ao3_1_4, co3_1_5, Ao3_3_4, co3_3_5, Ao3_4_4, co3_4_5, Ao3_4_7, co3_4_8, hA, hR⟩; exact ⟨Ao3_1_4, co3_1_5, Ao3_3_4, co3_3_5, Ao3_4_4, co3_4_5, Ao3_4_7, co3_4_8, hA.put_other v (freeOf_at (acts := [1, 3, 4, 5, 6, 7, 9, 10, 11, 12]) rfl ho hd hna), hR⟩
  ·
   rintro fa w' i o d v ho hd hna ⟨Ao3_1_4, co3_1_5, Ao3_3_4, co3_3_5, Ao3_4_4, co3_4_5, Ao3_4_7, co3_4_8, hA, hR⟩; exact ⟨Ao3_1_4, co3_1_5, Ao3_3_4, co3_3_5, Ao3_4_4, co3_4_5, Ao3_4_7, co3_4_8, hA.put_other v (freeOf_at (acts := [1, 3, 4, 5, 6, 7, 9, 10, 11, 12]) rfl ho hd hna), hR⟩
  ·
   rintro fa w' i o d v ho hd hna ⟨Ao3_1_4, co3_1_5, Ao3_3_4, co3_3_5, Ao3_4_4, co3_4_5, Ao3_4_7, co3_4_8, go3_9_1, hA, hR⟩; exact ⟨Ao3_1_4, co3_1_5, Ao3_3_4, co3_3_5, Ao3_4_4, co3_4_5, Ao3_4_7, co3_4_8, go3_9_1, hA.put_other v (freeOf_at (acts := [1, 3, 4, 5, 6, 7, 9, 10, 11, 12]) rfl ho hd hna), hR⟩
  ·
   rintro fa w' i o d v ho hd hna ⟨Ao3_1_4, co3_1_5, Ao3_3_4, co3_3_5, Ao3_4_4, co3_4_5, Ao3_4_7, co3_4_8, go3_10_1, hA, hR⟩; exact ⟨Ao3_1_4, co3_1_5, Ao3_3_4, co3_3_5, Ao3_4_4, co3_4_5, Ao3_4_7, co3_4_8, go3_10_1, hA.put_other v (freeOf_at (acts := [1, 3, 4, 5, 6, 7, 9, 10, 11, 12]) rfl ho hd hna), hR⟩
  ·
   rintro fa w' i o d v ho hd hna ⟨Ao3_1_4, co3_1_5, Ao3_3_4, co3_3_5, Ao3_4_4, co3_4_5, Ao3_4_7, co3_4_8, go3_9_1, go3_10_1, hA, hR⟩; exact ⟨Ao3_1_4, co3_1_5, Ao3_3_4, co3_3_5, Ao3_4_4, co3_4_5, Ao3_4_7, co3_4_8, go3_9_1, go3_10_1, hA.put_other v (freeOf_at (acts := [1, 3, 4, 5, 6, 7, 9, 10, 11, 12]) rfl ho hd hna), hR⟩
  ·
   rintro fa w' i o d v ho hd hna ⟨Ao3_1_4, co3_1_5, Ao3_3_4, co3_3_5, Ao3_4_4, co3_4_5, Ao3_4_7, co3_4_8, hA, hR⟩; exact ⟨Ao3_1_4, co3_1_5, Ao3_3_4, co3_3_5, Ao3_4_4, co3_4_5, Ao3_4_7, co3_4_8, hA.put_other v (freeOf_at (acts := [1, 3, 4, 5, 6, 7, 9, 10, 11, 12]) rfl ho hd hna), hR⟩
  ·
   rintro fa w' i o d v ho hd hna ⟨Ao3_1_4, co3_1_5, Ao3_3_4, co3_3_5, Ao3_4_4, co3_4_5, Ao3_4_7, co3_4_8, go3_9_1, hA, hR⟩; exact ⟨Ao3_1_4, co3_1_5, Ao3_3_4, co3_3_5, Ao3_4_4, co3_4_5, Ao3_4_7, co3_4_8, go3_9_1, hA.put_other v (freeOf_at (acts := [1, 3, 4, 5, 6, 7, 9, 10, 11, 12]) rfl ho hd hna), hR⟩
  ·
   rintro fa w' i o d v ho hd hna ⟨Ao3_1_4, co3_1_5, Ao3_3_4, co3_3_5, Ao3_4_4, co3_4_5, Ao3_4_7, co3_4_8, go3_10_1, hA, hR⟩; exact ⟨Ao3_1_4, co3_1_5, Ao3_3_4, co3_3_5, Ao3_4_4, co3_4_5, Ao3_4_7, co3_4_8, go3_10_1, hA.put_other v (freeOf_at (acts := [1, 3, 4, 5, 6, 7, 9, 10, 11, 12]) rfl ho hd hna), hR⟩
  ·
   rintro fa w' i o d v ho hd hna ⟨Ao3_1_4, co3_1_5, Ao3_3_4, co3_3_5, Ao3_4_4, co3_4_5, Ao3_4_7, co3_4_8, go3_9_1, hA, hR⟩; exact ⟨Ao3_1_4, co3_1_5, Ao3_3_4, co3_3_5, Ao3_4_4, co3_4_5, Ao3_4_7, co3_4_8, go3_9_1, hA.put_other v (freeOf_at (acts := [1, 3, 4, 5, 6, 7, 9, 10, 11, 12]) rfl ho hd hna), hR⟩
  ·
   rintro fa w' i o d v ho hd hna ⟨Ao3_1_4, co3_1_5, Ao3_3_4, co3_3_5, Ao3_4_4, co3_4_5, Ao3_4_7, co3_4_8, go3_10_1, hA, hR⟩; exact ⟨Ao3_1_4, co3_1_5, Ao3_3_4, co3_3_5, Ao3_4_4, co3_4_5, Ao3_4_7, co3_4_8, go3_10_1, hA.put_other v (freeOf_at (acts := [1, 3, 4, 5, 6, 7, 9, 10, 11, 12]) rfl ho hd hna), hR⟩
  ·
   rintro fa w' i o d v ho hd hna ⟨Ao3_1_4, co3_1_5, Ao3_3_4, co3_3_5, Ao3_4_4, co3_4_5, Ao3_4_7, co3_4_8, go3_9_1, go3_10_1, hA, hR⟩; exact ⟨Ao3_1_4, co3_1_5, Ao3_3_4, co3_3_5, Ao3_4_4, co3_4_5, Ao3_4_7, co3_4_8, go3_9_1, go3_10_1, hA.put_other v (freeOf_at (acts := [1, 3, 4, 5, 6, 7, 9, 10, 11, 12]) rfl ho hd hna), hR⟩
  ·
   rintro fa w' i o d v ho hd hna ⟨Ao3_1_4, co3_1_5, Ao3_3_4, co3_3_5, Ao3_4_4, co3_4_5, Ao3_4_7, co3_4_8, go3_9_1, hA, hR⟩; exact ⟨Ao3_1_4, co3_1_5, Ao3_3_4, co3_3_5, Ao3_4_4, co3_4_5, Ao3_4_7, co3_4_8, go3_9_1, hA.put_other v (freeOf_at (acts := [1, 3, 4, 5, 6, 7, 9, 10, 11, 12]) rfl ho hd hna), hR⟩
  ·
   rintro fa w' i o d v ho hd hna ⟨Ao3_1_4, co3_1_5, Ao3_3_4, co3_3_5, Ao3_4_4, co3_4_5, Ao3_4_7, co3_4_8, go3_10_1, hA, hR⟩; exact ⟨Ao3_1_4, co3_1_5, Ao3_3_4, co3_3_5, Ao3_4_4, co3_4_5, Ao3_4_7, co3_4_8, go3_10_1, hA.put_other v (freeOf_at (acts := [1, 3, 4, 5, 6, 7, 9, 10, 11, 12]) rfl ho hd hna), hR⟩
  ·
   rintro fa w' i o d v ho hd hna ⟨Ao3_1_4, co3_1_5, Ao3_3_4, co3_3_5, Ao3_4_4, co3_4_5, Ao3_4_7, co3_4_8, go3_9_1, go3_10_1, hA, hR⟩; exact ⟨Ao3_1_4, co3_1_5, Ao3_3_4, co3_3_5, Ao3_4_4, co3_4_5, Ao3_4_7, co3_4_8, go3_9_1, go3_10_1, hA.put_other v (freeOf_at (acts := [1, 3, 4, 5, 6, 7, 9, 10, 11, 12]) rfl ho hd hna), hR⟩
  ·
   rintro fa w' i o d v ho hd hna ⟨Ao3_1_4, co3_1_5, Ao3_3_4, co3_3_5, Ao3_4_4, co3_4_5, Ao3_4_7, co3_4_8, go3_9_1, go3_10_1, hA, hR⟩; exact ⟨Ao3_1_4, co3_1_5, Ao3_3_4, co3_3_5, Ao3_4_4, co3_4_5, Ao3_4_7, co3_4_8, go3_9_1, go3_10_1, hA.put_other v (freeOf_at (acts := [1, 3, 4, 5, 6, 7, 9, 10, 11, 12]) rfl ho hd hna), hR⟩
  ·
   rintro fa w' i o d v ho hd hna ⟨Ao3_1_4, co3_1_5, Ao3_3_4, co3_3_5, Ao3_4_4, co3_4_5, Ao3_4_7, co3_4_8, go3_9_1, go3_10_1, hA, hR⟩; exact ⟨Ao3_1_4, co3_1_5, Ao3_3_4, co3_3_5, Ao3_4_4, co3_4_5, Ao3_4_7, co3_4_8, go3_9_1, go3_10_1, hA.put_other v (freeOf_at (acts := [1, 3, 4, 5, 6, 7, 9, 10, 11, 12]) rfl ho hd hna), hR⟩
  ·
   rintro fa w' i o d v ho hd hna ⟨Ao3_1_4, co3_1_5, Ao3_3_4, co3_3_5, Ao3_4_4, co3_4_5, Ao3_4_7, co3_4_8, go3_9_1, go3_10_1, hA, hR⟩; exact ⟨Ao3_1_4, co3_1_5, Ao3_3_4, co3_3_5, Ao3_4_4, co3_4_5, Ao3_4_7, co3_4_8, go3_9_1, go3_10_1, hA.put_other v (freeOf_at (acts := [1, 3, 4, 5, 6, 7, 9, 10, 11, 12]) rfl ho hd hna), hR⟩
  ·
   rintro fa w' i o d v ho hd hna ⟨Ao3_1_4, co3_1_5, Ao3_3_4, co3_3_5, Ao3_4_4, co3_4_5, Ao3_4_7, co3_4_8, go3_9_1, go3_10_1, hA, hR⟩; exact ⟨Ao3_1_4, co3_1_5, Ao3_3_4, co3_3_5, Ao3_4_4, co3_4_5, Ao3_4_7, co3_4_8, go3_9_1, go3_10_1, hA.put_other v (freeOf_at (acts := [1, 3, 4, 5, 6, 7, 9, 10, 11, 12]) rfl ho hd hna), hR⟩
  ·
   rintro fa w' i o d v ho hd hna ⟨Ao3_1_4, co3_1_5, Ao3_3_4, co3_3_5, Ao3_4_4, co3_4_5, Ao3_4_7, co3_4_8, go3_9_1, go3_10_1, hA, hR⟩; exact ⟨Ao3_1_4, co3_1_5, Ao3_3_4, co3_3_5, Ao3_4_4, co3_4_5, Ao3_4_7, co3_4_8, go3_9_1, go3_10_1, hA.put_other v (freeOf_at (acts := [1, 3, 4, 5, 6, 7, 9, 10, 11, 12]) rfl ho hd hna), hR⟩
 ·
  refine ⟨?_, ?_, ?_, ?_, ?_, ?_, ?_, ?_, ?_, ?_, ?_, ?_, ?_, ?_, trivial⟩
  ·
   refine .inr (.inl ⟨rfl, _, _, rfl, rfl, ?_, ?_, ?_, ?_, trivial⟩)
   ·
    intro fa w' hΦ hF hB K hK
    obtain ⟨hA, hS, E_w'⟩ := hΦ
    exact fl_val rfl rfl rfl (ex_loadb TfLD.row24 (hF.ev rfl) (hS.get 1 rfl) rfl) hK
   ·
    intro fa w' hΦ hF hB K hK
    obtain ⟨go3_9_1, hA, hS, E_w'⟩ := hΦ
    exact fl_val rfl rfl rfl (ex_loadb TfLD.row24 (hF.ev rfl) (hS.get 2 rfl) rfl) hK
   ·
    intro fa w' hΦ hF hB K hK
    obtain ⟨go3_10_1, hA, hS, E_w'⟩ := hΦ
    exact fl_val rfl rfl rfl (ex_loadb TfLD.row24 (hF.ev rfl) (hS.get 2 rfl) rfl) hK
   ·
    intro fa w' hΦ hF hB K hK
    obtain ⟨go3_9_1, go3_10_1, hA, hS, E_w'⟩ := hΦ
    exact fl_val rfl rfl rfl (ex_loadb TfLD.row24 (hF.ev rfl) (hS.get 3 rfl) rfl) hK
  ·
   refine .inr (.inr ⟨rfl, ?_, ?_, ?_, ?_, trivial⟩)
   ·
    intro fa w' hΦ hF hB
    obtain ⟨hA, hS, E_w'⟩ := hΦ
    replace hF := hF.cons (hB.val 0 _ 20 _ rfl rfl rfl rfl)
    refine wop rfl rfl ?_
    have hC := law01_cp_ok (w := w') (X := (g5 :: (g1 :: X))) (ng := (decide (a < 0))) (l := (lim a.natAbs)) (hS.bnd hX) ⟨_, rfl, _, _, rfl, (hu_a.ext (((((E3.trans E7).trans E11).trans E14).trans E19).trans E_w'))⟩ (by omega)
    refine op_call hF rfl TfLD.body14 (args1 (hF.ev rfl)) hC ?_
    clear hC
    rintro _ wo3_1_1 ⟨⟨_, rfl, Ao3_1_4, co3_1_5, rfl, huo3_1_6⟩, hbo3_1_2⟩
    clear hF; intro hF
    replace hS := hS.call hbo3_1_2; have Eo3_1_3 := Ext.call (g5 :: (g1 :: X)) hbo3_1_2
    have hA1 := ((hA.put_other _ rfl).cons (hF.get 21 _ rfl))
    exact ⟨1, rfl, ⟨Ao3_1_4, co3_1_5, (hA1.take hA1.nil rfl), hS, (E_w'.trans Eo3_1_3), huo3_1_6⟩, _, rfl, fun u hu => by cases hu <;> rfl⟩
   ·
    intro fa w' hΦ hF hB
    obtain ⟨go3_9_1, hA, hS, E_w'⟩ := hΦ
    replace hF := hF.cons (hB.val 0 _ 20 _ rfl rfl rfl rfl)
    refine wop rfl rfl ?_
    have hC := law01_cp_ok (w := w') (X := (go3_9_1 :: (g5 :: (g1 :: X)))) (ng := (decide (a < 0))) (l := (lim a.natAbs)) (hS.bnd hX) ⟨_, rfl, _, _, rfl, (hu_a.ext (((((E3.trans E7).trans E11).trans E14).trans E19).trans E_w'))⟩ (by omega)
    refine op_call hF rfl TfLD.body14 (args1 (hF.ev rfl)) hC ?_
    clear hC
    rintro _ wo3_1_1 ⟨⟨_, rfl, Ao3_1_4, co3_1_5, rfl, huo3_1_6⟩, hbo3_1_2⟩
    clear hF; intro hF
    replace hS := hS.call hbo3_1_2; have Eo3_1_3 := Ext.call (go3_9_1 :: (g5 :: (g1 :: X))) hbo3_1_2
    have hA1 := ((hA.put_other _ rfl).cons (hF.get 21 _ rfl))
    exact ⟨5, rfl, ⟨Ao3_1_4, co3_1_5, go3_9_1, (hA1.take (hA1.take hA1.nil rfl) rfl), hS, (E_w'.trans Eo3_1_3), huo3_1_6⟩, _, rfl, fun u hu => by cases hu <;> rfl⟩
   ·
    intro fa w' hΦ hF hB
    obtain ⟨go3_10_1, hA, hS, E_w'⟩ := hΦ
    replace hF := hF.cons (hB.val 0 _ 20 _ rfl rfl rfl rfl)
    refine wop rfl rfl ?_
    have hC := law01_cp_ok (w := w') (X := (go3_10_1 :: (g5 :: (g1 :: X)))) (ng := (decide (a < 0))) (l := (lim a.natAbs)) (hS.bnd hX) ⟨_, rfl, _, _, rfl, (hu_a.ext (((((E3.trans E7).trans E11).trans E14).trans E19).trans E_w'))⟩ (by omega)
    refine op_call hF rfl TfLD.body14 (args1 (hF.ev rfl)) hC ?_
    clear hC
    rintro _ wo3_1_1 ⟨⟨_, rfl, Ao3_1_4, co3_1_5, rfl, huo3_1_6⟩, hbo3_1_2⟩
    clear hF; intro hF
    replace hS := hS.call hbo3_1_2; have Eo3_1_3 := Ext.call (go3_10_1 :: (g5 :: (g1 :: X))) hbo3_1_2
    have hA1 := ((hA.put_other _ rfl).cons (hF.get 21 _ rfl))
    exact ⟨6, rfl, ⟨Ao3_1_4, co3_1_5, go3_10_1, (hA1.take (hA1.take hA1.nil rfl) rfl), hS, (E_w'.trans Eo3_1_3), huo3_1_6⟩, _, rfl, fun u hu => by cases hu <;> rfl⟩
   ·
    intro fa w' hΦ hF hB
    obtain ⟨go3_9_1, go3_10_1, hA, hS, E_w'⟩ := hΦ
    replace hF := hF.cons (hB.val 0 _ 20 _ rfl rfl rfl rfl)
    refine wop rfl rfl ?_
    have hC := law01_cp_ok (w := w') (X := (go3_10_1 :: (go3_9_1 :: (g5 :: (g1 :: X))))) (ng := (decide (a < 0))) (l := (lim a.natAbs)) (hS.bnd hX) ⟨_, rfl, _, _, rfl, (hu_a.ext (((((E3.trans E7).trans E11).trans E14).trans E19).trans E_w'))⟩ (by omega)
    refine op_call hF rfl TfLD.body14 (args1 (hF.ev rfl)) hC ?_
    clear hC
    rintro _ wo3_1_1 ⟨⟨_, rfl, Ao3_1_4, co3_1_5, rfl, huo3_1_6⟩, hbo3_1_2⟩
    clear hF; intro hF
    replace hS := hS.call hbo3_1_2; have Eo3_1_3 := Ext.call (go3_10_1 :: (go3_9_1 :: (g5 :: (g1 :: X)))) hbo3_1_2
    have hA1 := ((hA.put_other _ rfl).cons (hF.get 21 _ rfl))
    exact ⟨11, rfl, ⟨Ao3_1_4, co3_1_5, go3_9_1, go3_10_1, (hA1.take (hA1.take (hA1.take hA1.nil rfl) rfl) rfl), hS, (E_w'.trans Eo3_1_3), huo3_1_6⟩, _, rfl, fun u hu => by cases hu <;> rfl⟩
  ·
   refine .inr (.inl ⟨rfl, _, _, rfl, rfl, ?_, ?_, ?_, ?_, ?_, ?_, ?_, ?_, trivial⟩)
   ·
    intro fa w' hΦ hF hB K hK
    obtain ⟨hA, hS, E_w'⟩ := hΦ
    exact fl_val rfl rfl rfl (ex_loadb TfLD.row24 (hF.ev rfl) (hS.get 0 rfl) rfl) hK
   ·
    intro fa w' hΦ hF hB K hK
    obtain ⟨Ao3_1_4, co3_1_5, hA, hS, E_w', huo3_1_6⟩ := hΦ
    exact fl_val rfl rfl rfl (ex_loadb TfLD.row24 (hF.ev rfl) (hS.get 0 rfl) rfl) hK
   ·
    intro fa w' hΦ hF hB K hK
    obtain ⟨go3_9_1, hA, hS, E_w'⟩ := hΦ
    exact fl_val rfl rfl rfl (ex_loadb TfLD.row24 (hF.ev rfl) (hS.get 1 rfl) rfl) hK
   ·
    intro fa w' hΦ hF hB K hK
    obtain ⟨go3_10_1, hA, hS, E_w'⟩ := hΦ
    exact fl_val rfl rfl rfl (ex_loadb TfLD.row24 (hF.ev rfl) (hS.get 1 rfl) rfl) hK
   ·
    intro fa w' hΦ hF hB K hK
    obtain ⟨Ao3_1_4, co3_1_5, go3_9_1, hA, hS, E_w', huo3_1_6⟩ := hΦ
    exact fl_val rfl rfl rfl (ex_loadb TfLD.row24 (hF.ev rfl) (hS.get 1 rfl) rfl) hK
   ·
    intro fa w' hΦ hF hB K hK
    obtain ⟨Ao3_1_4, co3_1_5, go3_10_1, hA, hS, E_w', huo3_1_6⟩ := hΦ
    exact fl_val rfl rfl rfl (ex_loadb TfLD.row24 (hF.ev rfl) (hS.get 1 rfl) rfl) hK
   ·
    intro fa w' hΦ hF hB K hK
    obtain ⟨go3_9_1, go3_10_1, hA, hS, E_w'⟩ := hΦ
    exact fl_val rfl rfl rfl (ex_loadb TfLD.row24 (hF.ev rfl) (hS.get 2 rfl) rfl) hK
   ·
    intro fa w' hΦ hF hB K hK
    obtain ⟨Ao3_1_4, co3_1_5, go3_9_1, go3_10_1, hA, hS, E_w', huo3_1_6⟩ := hΦ
    exact fl_val rfl rfl rfl (ex_loadb TfLD.row24 (hF.ev rfl) (hS.get 2 rfl) rfl) hK
  ·
   refine .inr (.inr ⟨rfl, ?_, ?_, ?_, ?_, trivial⟩)
   ·
    intro fa w' hΦ hF hB
    obtain ⟨Ao3_1_4, co3_1_5, hA, hS, E_w', huo3_1_6⟩ := hΦ
    replace hF := hF.cons (hB.val 2 _ 22 _ rfl rfl rfl rfl)
    refine wop rfl rfl ?_
    have hC := law01_cp_ok (w := w') (X := (g5 :: (g1 :: X))) (ng := (decide (b < 0))) (l := (lim b.natAbs)) (hS.bnd hX) ⟨_, rfl, _, _, rfl, (hu_b.ext (((((E3.trans E7).trans E11).trans E14).trans E19).trans E_w'))⟩ (by omega)
    refine op_call hF rfl TfLD.body14 (args1 (hF.ev rfl)) hC ?_
    clear hC
    rintro _ wo3_3_1 ⟨⟨_, rfl, Ao3_3_4, co3_3_5, rfl, huo3_3_6⟩, hbo3_3_2⟩
    clear hF; intro hF
    replace hS := hS.call hbo3_3_2; have Eo3_3_3 := Ext.call (g5 :: (g1 :: X)) hbo3_3_2
    have hA1 := ((hA.put_other _ rfl).cons (hF.get 23 _ rfl))
    exact ⟨4, rfl, ⟨Ao3_1_4, co3_1_5, Ao3_3_4, co3_3_5, (hA1.take (hA1.take hA1.nil rfl) rfl), hS, (E_w'.trans Eo3_3_3), (huo3_1_6.ext Eo3_3_3), huo3_3_6⟩, _, rfl, fun u hu => by cases hu <;> rfl⟩
   ·
    intro fa w' hΦ hF hB
    obtain ⟨Ao3_1_4, co3_1_5, go3_9_1, hA, hS, E_w', huo3_1_6⟩ := hΦ
    replace hF := hF.cons (hB.val 2 _ 22 _ rfl rfl rfl rfl)
    refine wop rfl rfl ?_
    have hC := law01_cp_ok (w := w') (X := (go3_9_1 :: (g5 :: (g1 :: X)))) (ng := (decide (b < 0))) (l := (lim b.natAbs)) (hS.bnd hX) ⟨_, rfl, _, _, rfl, (hu_b.ext (((((E3.trans E7).trans E11).trans E14).trans E19).trans E_w'))⟩ (by omega)
    refine op_call hF rfl TfLD.body14 (args1 (hF.ev rfl)) hC ?_
    clear hC
    rintro _ wo3_3_1 ⟨⟨_, rfl, Ao3_3_4, co3_3_5, rfl, huo3_3_6⟩, hbo3_3_2⟩
    clear hF; intro hF
    replace hS := hS.call hbo3_3_2; have Eo3_3_3 := Ext.call (go3_9_1 :: (g5 :: (g1 :: X))) hbo3_3_2
    have hA1 := ((hA.put_other _ rfl).cons (hF.get 23 _ rfl))
    exact ⟨9, rfl, ⟨Ao3_1_4, co3_1_5, Ao3_3_4, co3_3_5, go3_9_1, (hA1.take (hA1.take (hA1.take hA1.nil rfl) rfl) rfl), hS, (E_w'.trans Eo3_3_3), (huo3_1_6.ext Eo3_3_3), huo3_3_6⟩, _, rfl, fun u hu => by cases hu <;> rfl⟩
   ·
    intro fa w' hΦ hF hB
    obtain ⟨Ao3_1_4, co3_1_5, go3_10_1, hA, hS, E_w', huo3_1_6⟩ := hΦ
    replace hF := hF.cons (hB.val 2 _ 22 _ rfl rfl rfl rfl)
    refine wop rfl rfl ?_
    have hC := law01_cp_ok (w := w') (X := (go3_10_1 :: (g5 :: (g1 :: X)))) (ng := (decide (b < 0))) (l := (lim b.natAbs)) (hS.bnd hX) ⟨_, rfl, _, _, rfl, (hu_b.ext (((((E3.trans E7).trans E11).trans E14).trans E19).trans E_w'))⟩ (by omega)
    refine op_call hF rfl TfLD.body14 (args1 (hF.ev rfl)) hC ?_
    clear hC
    rintro _ wo3_3_1 ⟨⟨_, rfl, Ao3_3_4, co3_3_5, rfl, huo3_3_6⟩, hbo3_3_2⟩
    clear hF; intro hF
    replace hS := hS.call hbo3_3_2; have Eo3_3_3 := Ext.call (go3_10_1 :: (g5 :: (g1 :: X))) hbo3_3_2
    have hA1 := ((hA.put_other _ rfl).cons (hF.get 23 _ rfl))
    exact ⟨10, rfl, ⟨Ao3_1_4, co3_1_5, Ao3_3_4, co3_3_5, go3_10_1, (hA1.take (hA1.take (hA1.take hA1.nil rfl) rfl) rfl), hS, (E_w'.trans Eo3_3_3), (huo3_1_6.ext Eo3_3_3), huo3_3_6⟩, _, rfl, fun u hu => by cases hu <;> rfl⟩
   ·
    intro fa w' hΦ hF hB
    obtain ⟨Ao3_1_4, co3_1_5, go3_9_1, go3_10_1, hA, hS, E_w', huo3_1_6⟩ := hΦ
    replace hF := hF.cons (hB.val 2 _ 22 _ rfl rfl rfl rfl)
    refine wop rfl rfl ?_
    have hC := law01_cp_ok (w := w') (X := (go3_10_1 :: (go3_9_1 :: (g5 :: (g1 :: X))))) (ng := (decide (b < 0))) (l := (lim b.natAbs)) (hS.bnd hX) ⟨_, rfl, _, _, rfl, (hu_b.ext (((((E3.trans E7).trans E11).trans E14).trans E19).trans E_w'))⟩ (by omega)
    refine op_call hF rfl TfLD.body14 (args1 (hF.ev rfl)) hC ?_
    clear hC
    rintro _ wo3_3_1 ⟨⟨_, rfl, Ao3_3_4, co3_3_5, rfl, huo3_3_6⟩, hbo3_3_2⟩
    clear hF; intro hF
    replace hS := hS.call hbo3_3_2; have Eo3_3_3 := Ext.call (go3_10_1 :: (go3_9_1 :: (g5 :: (g1 :: X)))) hbo3_3_2
    have hA1 := ((hA.put_other _ rfl).cons (hF.get 23 _ rfl))
    exact ⟨15, rfl, ⟨Ao3_1_4, co3_1_5, Ao3_3_4, co3_3_5, go3_9_1, go3_10_1, (hA1.take (hA1.take (hA1.take (hA1.take hA1.nil rfl) rfl) rfl) rfl), hS, (E_w'.trans Eo3_3_3), (huo3_1_6.ext Eo3_3_3), huo3_3_6⟩, _, rfl, fun u hu => by cases hu <;> rfl⟩
  ·
   refine .inr (.inr ⟨rfl, ?_, ?_, ?_, ?_, trivial⟩)
   ·
    intro fa w' hΦ hF hB
    obtain ⟨Ao3_1_4, co3_1_5, Ao3_3_4, co3_3_5, hA, hS, E_w', huo3_1_6, huo3_3_6⟩ := hΦ
    replace hF := hF.cons (hA.get 21 _ rfl)
    replace hF := hF.cons (hA.get 23 _ rfl)
    refine wop rfl rfl ?_
    have hC := integer_DivMod_ok (w := w') (X := (g5 :: (g1 :: X))) (a := a) (b := b) (hS.bnd hX) (IntV.of_ (n := (((lim a.natAbs))).length) (b := (decide (a < 0))) (x := a) (huo3_1_6) (rfl) (rfl) (rfl)) (IntV.of_ (n := (((lim b.natAbs))).length) (b := (decide (b < 0))) (x := b) (huo3_3_6) (rfl) (rfl) (rfl)) (by omega) (by omega)
    refine op_call hF rfl TfLD.body13 (args2 (hF.ev rfl) (hF.ev rfl)) hC ?_
    clear hC
    rintro _ wo3_4_1 ⟨⟨_, _, _, rfl, ⟨_, rfl, Ao3_4_4, co3_4_5, rfl, huo3_4_6⟩, ⟨_, rfl, Ao3_4_7, co3_4_8, rfl, huo3_4_9⟩, rfl⟩, hbo3_4_2⟩
    clear hF; intro hF
    replace hS := hS.call hbo3_4_2; have Eo3_4_3 := Ext.call (g5 :: (g1 :: X)) hbo3_4_2
    have hA1 := ((hA.put_other _ rfl).cons (hF.get 24 _ rfl))
    exact ⟨8, rfl, ⟨Ao3_1_4, co3_1_5, Ao3_3_4, co3_3_5, Ao3_4_4, co3_4_5, Ao3_4_7, co3_4_8, (hA1.take (hA1.take (hA1.take hA1.nil rfl) rfl) rfl), hS, (E_w'.trans Eo3_4_3), (huo3_1_6.ext Eo3_4_3), (huo3_3_6.ext Eo3_4_3), huo3_4_6, huo3_4_9⟩, _, rfl, fun u hu => by cases hu <;> rfl⟩
   ·
    intro fa w' hΦ hF hB
    obtain ⟨Ao3_1_4, co3_1_5, Ao3_3_4, co3_3_5, go3_9_1, hA, hS, E_w', huo3_1_6, huo3_3_6⟩ := hΦ
    replace hF := hF.cons (hA.get 21 _ rfl)
    replace hF := hF.cons (hA.get 23 _ rfl)
    refine wop rfl rfl ?_
    have hC := integer_DivMod_ok (w := w') (X := (go3_9_1 :: (g5 :: (g1 :: X)))) (a := a) (b := b) (hS.bnd hX) (IntV.of_ (n := (((lim a.natAbs))).length) (b := (decide (a < 0))) (x := a) (huo3_1_6) (rfl) (rfl) (rfl)) (IntV.of_ (n := (((lim b.natAbs))).length) (b := (decide (b < 0))) (x := b) (huo3_3_6) (rfl) (rfl) (rfl)) (by omega) (by omega)
    refine op_call hF rfl TfLD.body13 (args2 (hF.ev rfl) (hF.ev rfl)) hC ?_
    clear hC
    rintro _ wo3_4_1 ⟨⟨_, _, _, rfl, ⟨_, rfl, Ao3_4_4, co3_4_5, rfl, huo3_4_6⟩, ⟨_, rfl, Ao3_4_7, co3_4_8, rfl, huo3_4_9⟩, rfl⟩, hbo3_4_2⟩
    clear hF; intro hF
    replace hS := hS.call hbo3_4_2; have Eo3_4_3 := Ext.call (go3_9_1 :: (g5 :: (g1 :: X))) hbo3_4_2
    have hA1 := ((hA.put_other _ rfl).cons (hF.get 24 _ rfl))
    exact ⟨13, rfl, ⟨Ao3_1_4, co3_1_5, Ao3_3_4, co3_3_5, Ao3_4_4, co3_4_5, Ao3_4_7, co3_4_8, go3_9_1, (hA1.take (hA1.take (hA1.take (hA1.take hA1.nil rfl) rfl) rfl) rfl), hS, (E_w'.trans Eo3_4_3), (huo3_1_6.ext Eo3_4_3), (huo3_3_6.ext Eo3_4_3), huo3_4_6, huo3_4_9⟩, _, rfl, fun u hu => by cases hu <;> rfl⟩
   ·
    intro fa w' hΦ hF hB
    obtain ⟨Ao3_1_4, co3_1_5, Ao3_3_4, co3_3_5, go3_10_1, hA, hS, E_w', huo3_1_6, huo3_3_6⟩ := hΦ
    replace hF := hF.cons (hA.get 21 _ rfl)
    replace hF := hF.cons (hA.get 23 _ rfl)
    refine wop rfl rfl ?_
    have hC := integer_DivMod_ok (w := w') (X := (go3_10_1 :: (g5 :: (g1 :: X)))) (a := a) (b := b) (hS.bnd hX) (IntV.of_ (n := (((lim a.natAbs))).length) (b := (decide (a < 0))) (x := a) (huo3_1_6) (rfl) (rfl) (rfl)) (IntV.of_ (n := (((lim b.natAbs))).length) (b := (decide (b < 0))) (x := b) (huo3_3_6) (rfl) (rfl) (rfl)) (by omega) (by omega)
    refine op_call hF rfl TfLD.body13 (args2 (hF.ev rfl) (hF.ev rfl)) hC ?_
    clear hC
    rintro _ wo3_4_1 ⟨⟨_, _, _, rfl, ⟨_, rfl, Ao3_4_4, co3_4_5, rfl, huo3_4_6⟩, ⟨_, rfl, Ao3_4_7, co3_4_8, rfl, huo3_4_9⟩, rfl⟩, hbo3_4_2⟩
    clear hF; intro hF
    replace hS := hS.call hbo3_4_2; have Eo3_4_3 := Ext.call (go3_10_1 :: (g5 :: (g1 :: X))) hbo3_4_2
    have hA1 := ((hA.put_other _ rfl).cons (hF.get 24 _ rfl))
    exact ⟨14, rfl, ⟨Ao3_1_4, co3_1_5, Ao3_3_4, co3_3_5, Ao3_4_4, co3_4_5, Ao3_4_7, co3_4_8, go3_10_1, (hA1.take (hA1.take (hA1.take (hA1.take hA1.nil rfl) rfl) rfl) rfl), hS, (E_w'.trans Eo3_4_3), (huo3_1_6.ext Eo3_4_3), (huo3_3_6.ext Eo3_4_3), huo3_4_6, huo3_4_9⟩, _, rfl, fun u hu => by cases hu <;> rfl⟩
   ·
    intro fa w' hΦ hF hB
    obtain ⟨Ao3_1_4, co3_1_5, Ao3_3_4, co3_3_5, go3_9_1, go3_10_1, hA, hS, E_w', huo3_1_6, huo3_3_6⟩ := hΦ
    replace hF := hF.cons (hA.get 21 _ rfl)
    replace hF := hF.cons (hA.get 23 _ rfl)
    refine wop rfl rfl ?_
    have hC := integer_DivMod_ok (w := w') (X := (go3_10_1 :: (go3_9_1 :: (g5 :: (g1 :: X))))) (a := a) (b := b) (hS.bnd hX) (IntV.of_ (n := (((lim a.natAbs))).length) (b := (decide (a < 0))) (x := a) (huo3_1_6) (rfl) (rfl) (rfl)) (IntV.of_ (n := (((lim b.natAbs))).length) (b := (decide (b < 0))) (x := b) (huo3_3_6) (rfl) (rfl) (rfl)) (by omega) (by omega)
    refine op_call hF rfl TfLD.body13 (args2 (hF.ev rfl) (hF.ev rfl)) hC ?_
    clear hC
    rintro _ wo3_4_1 ⟨⟨_, _, _, rfl, ⟨_, rfl, Ao3_4_4, co3_4_5, rfl, huo3_4_6⟩, ⟨_, rfl, Ao3_4_7, co3_4_8, rfl, huo3_4_9⟩, rfl⟩, hbo3_4_2⟩
    clear hF; intro hF
    replace hS := hS.call hbo3_4_2; have Eo3_4_3 := Ext.call (go3_10_1 :: (go3_9_1 :: (g5 :: (g1 :: X)))) hbo3_4_2
    have hA1 := ((hA.put_other _ rfl).cons (hF.get 24 _ rfl))
    exact ⟨20, rfl, ⟨Ao3_1_4, co3_1_5, Ao3_3_4, co3_3_5, Ao3_4_4, co3_4_5, Ao3_4_7, co3_4_8, go3_9_1, go3_10_1, (hA1.take (hA1.take (hA1.take (hA1.take (hA1.take hA1.nil rfl) rfl) rfl) rfl) rfl), hS, (E_w'.trans Eo3_4_3), (huo3_1_6.ext Eo3_4_3), (huo3_3_6.ext Eo3_4_3), huo3_4_6, huo3_4_9⟩, _, rfl, fun u hu => by cases hu <;> rfl⟩
  ·
   refine .inr (.inr ⟨rfl, ?_, ?_, ?_, ?_, trivial⟩)
   ·
    intro fa w' hΦ hF hB
    obtain ⟨Ao3_1_4, co3_1_5, Ao3_3_4, co3_3_5, Ao3_4_4, co3_4_5, Ao3_4_7, co3_4_8, hA, hS, E_w', huo3_1_6, huo3_3_6, huo3_4_6, huo3_4_9⟩ := hΦ
    replace hF := hF.cons (hA.get 24 _ rfl)
    refine wop rfl rfl ?_
    refine op_val hF rfl rfl (ex_move (hF.ev rfl)) ?_; clear hF; intro hF
    have hA1 := ((hA.put_other _ rfl).cons (hF.get 19 _ rfl))
    exact ⟨12, rfl, ⟨Ao3_1_4, co3_1_5, Ao3_3_4, co3_3_5, Ao3_4_4, co3_4_5, Ao3_4_7, co3_4_8, (hA1.take (hA1.take (hA1.take (hA1.take hA1.nil rfl) rfl) rfl) rfl), hS, E_w', huo3_1_6, huo3_3_6, huo3_4_6, huo3_4_9⟩, _, rfl, fun u hu => by cases hu <;> rfl⟩
   ·
    intro fa w' hΦ hF hB
    obtain ⟨Ao3_1_4, co3_1_5, Ao3_3_4, co3_3_5, Ao3_4_4, co3_4_5, Ao3_4_7, co3_4_8, go3_9_1, hA, hS, E_w', huo3_1_6, huo3_3_6, huo3_4_6, huo3_4_9⟩ := hΦ
    replace hF := hF.cons (hA.get 24 _ rfl)
    refine wop rfl rfl ?_
    refine op_val hF rfl rfl (ex_move (hF.ev rfl)) ?_; clear hF; intro hF
    have hA1 := ((hA.put_other _ rfl).cons (hF.get 19 _ rfl))
    exact ⟨18, rfl, ⟨Ao3_1_4, co3_1_5, Ao3_3_4, co3_3_5, Ao3_4_4, co3_4_5, Ao3_4_7, co3_4_8, go3_9_1, (hA1.take (hA1.take (hA1.take (hA1.take (hA1.take hA1.nil rfl) rfl) rfl) rfl) rfl), hS, E_w', huo3_1_6, huo3_3_6, huo3_4_6, huo3_4_9⟩, _, rfl, fun u hu => by cases hu <;> rfl⟩
   ·
    intro fa w' hΦ hF hB
    obtain ⟨Ao3_1_4, co3_1_5, Ao3_3_4, co3_3_5, Ao3_4_4, co3_4_5, Ao3_4_7, co3_4_8, go3_10_1, hA, hS, E_w', huo3_1_6, huo3_3_6, huo3_4_6, huo3_4_9⟩ := hΦ
    replace hF := hF.cons (hA.get 24 _ rfl)
    refine wop rfl rfl ?_
    refine op_val hF rfl rfl (ex_move (hF.ev rfl)) ?_; clear hF; intro hF
    have hA1 := ((hA.put_other _ rfl).cons (hF.get 19 _ rfl))
    exact ⟨19, rfl, ⟨Ao3_1_4, co3_1_5, Ao3_3_4, co3_3_5, Ao3_4_4, co3_4_5, Ao3_4_7, co3_4_8, go3_10_1, (hA1.take (hA1.take (hA1.take (hA1.take (hA1.take hA1.nil rfl) rfl) rfl) rfl) rfl), hS, E_w', huo3_1_6, huo3_3_6, huo3_4_6, huo3_4_9⟩, _, rfl, fun u hu => by cases hu <;> rfl⟩
   ·
    intro fa w' hΦ hF hB
    obtain ⟨Ao3_1_4, co3_1_5, Ao3_3_4, co3_3_5, Ao3_4_4, co3_4_5, Ao3_4_7, co3_4_8, go3_9_1, go3_10_1, hA, hS, E_w', huo3_1_6, huo3_3_6, huo3_4_6, huo3_4_9⟩ := hΦ
    replace hF := hF.cons (hA.get 24 _ rfl)
    refine wop rfl rfl ?_
    refine op_val hF rfl rfl (ex_move (hF.ev rfl)) ?_; clear hF; intro hF
    have hA1 := ((hA.put_other _ rfl).cons (hF.get 19 _ rfl))
    exact ⟨26, rfl, ⟨Ao3_1_4, co3_1_5, Ao3_3_4, co3_3_5, Ao3_4_4, co3_4_5, Ao3_4_7, co3_4_8, go3_9_1, go3_10_1, (hA1.take (hA1.take (hA1.take (hA1.take (hA1.take (hA1.take hA1.nil rfl) rfl) rfl) rfl) rfl) rfl), hS, E_w', huo3_1_6, huo3_3_6, huo3_4_6, huo3_4_9⟩, _, rfl, fun u hu => by cases hu <;> rfl⟩
  ·
   refine .inr (.inr ⟨rfl, ?_, ?_, ?_, ?_, ?_, ?_, ?_, ?_, trivial⟩)
   ·
    intro fa w' hΦ hF hB
    obtain ⟨Ao3_1_4, co3_1_5, Ao3_3_4, co3_3_5, Ao3_4_4, co3_4_5, Ao3_4_7, co3_4_8, hA, hS, E_w', huo3_1_6, huo3_3_6, huo3_4_6, huo3_4_9⟩ := hΦ
    replace hF := hF.cons (hA.get 19 _ rfl)
    refine wop rfl rfl ?_
    refine op_val hF rfl rfl (ex_extract (hF.ev rfl) rfl) ?_; clear hF; intro hF
    have hA1 := ((hA.put_other _ rfl).cons (hF.get 25 _ rfl))
    exact ⟨16, rfl, ⟨Ao3_1_4, co3_1_5, Ao3_3_4, co3_3_5, Ao3_4_4, co3_4_5, Ao3_4_7, co3_4_8, (hA1.take (hA1.take (hA1.take (hA1.take (hA1.take hA1.nil rfl) rfl) rfl) rfl) rfl), hS, E_w', huo3_1_6, huo3_3_6, huo3_4_6, huo3_4_9⟩, _, rfl, fun u hu => by cases hu <;> rfl⟩
   ·
    intro fa w' hΦ hF hB
    obtain ⟨Ao3_1_4, co3_1_5, Ao3_3_4, co3_3_5, Ao3_4_4, co3_4_5, Ao3_4_7, co3_4_8, hA, hS, E_w', huo3_1_6, huo3_3_6, huo3_4_6, huo3_4_9⟩ := hΦ
    replace hF := hF.cons (hA.get 19 _ rfl)
    refine wop rfl rfl ?_
    refine op_val hF rfl rfl (ex_extract (hF.ev rfl) rfl) ?_; clear hF; intro hF
    have hA1 := ((hA.put_other _ rfl).cons (hF.get 25 _ rfl))
    exact ⟨21, rfl, ⟨Ao3_1_4, co3_1_5, Ao3_3_4, co3_3_5, Ao3_4_4, co3_4_5, Ao3_4_7, co3_4_8, (hA1.take (hA1.take (hA1.take (hA1.take (hA1.take (hA1.take hA1.nil rfl) rfl) rfl) rfl) rfl) rfl), hS, E_w', huo3_1_6, huo3_3_6, huo3_4_6, huo3_4_9⟩, _, rfl, fun u hu => by cases hu <;> rfl⟩
   ·
    intro fa w' hΦ hF hB
    obtain ⟨Ao3_1_4, co3_1_5, Ao3_3_4, co3_3_5, Ao3_4_4, co3_4_5, Ao3_4_7, co3_4_8, go3_9_1, hA, hS, E_w', huo3_1_6, huo3_3_6, huo3_4_6, huo3_4_9⟩ := hΦ
    replace hF := hF.cons (hA.get 19 _ rfl)
    refine wop rfl rfl ?_
    refine op_val hF rfl rfl (ex_extract (hF.ev rfl) rfl) ?_; clear hF; intro hF
    have hA1 := ((hA.put_other _ rfl).cons (hF.get 25 _ rfl))
    exact ⟨22, rfl, ⟨Ao3_1_4, co3_1_5, Ao3_3_4, co3_3_5, Ao3_4_4, co3_4_5, Ao3_4_7, co3_4_8, go3_9_1, (hA1.take (hA1.take (hA1.take (hA1.take (hA1.take (hA1.take hA1.nil rfl) rfl) rfl) rfl) rfl) rfl), hS, E_w', huo3_1_6, huo3_3_6, huo3_4_6, huo3_4_9⟩, _, rfl, fun u hu => by cases hu <;> rfl⟩
   ·
    intro fa w' hΦ hF hB
    obtain ⟨Ao3_1_4, co3_1_5, Ao3_3_4, co3_3_5, Ao3_4_4, co3_4_5, Ao3_4_7, co3_4_8, go3_10_1, hA, hS, E_w', huo3_1_6, huo3_3_6, huo3_4_6, huo3_4_9⟩ := hΦ
    replace hF := hF.cons (hA.get 19 _ rfl)
    refine wop rfl rfl ?_
    refine op_val hF rfl rfl (ex_extract (hF.ev rfl) rfl) ?_; clear hF; intro hF
    have hA1 := ((hA.put_other _ rfl).cons (hF.get 25 _ rfl))
    exact ⟨23, rfl, ⟨Ao3_1_4, co3_1_5, Ao3_3_4, co3_3_5, Ao3_4_4, co3_4_5, Ao3_4_7, co3_4_8, go3_10_1, (hA1.take (hA1.take (hA1.take (hA1.take (hA1.take (hA1.take hA1.nil rfl) rfl) rfl) rfl) rfl) rfl), hS, E_w', huo3_1_6, huo3_3_6, huo3_4_6, huo3_4_9⟩, _, rfl, fun u hu => by cases hu <;> rfl⟩
   ·
    intro fa w' hΦ hF hB
    obtain ⟨Ao3_1_4, co3_1_5, Ao3_3_4, co3_3_5, Ao3_4_4, co3_4_5, Ao3_4_7, co3_4_8, go3_9_1, hA, hS, E_w', huo3_1_6, huo3_3_6, huo3_4_6, huo3_4_9⟩ := hΦ
    replace hF := hF.cons (hA.get 19 _ rfl)
    refine wop rfl rfl ?_
    refine op_val hF rfl rfl (ex_extract (hF.ev rfl) rfl) ?_; clear hF; intro hF
    have hA1 := ((hA.put_other _ rfl).cons (hF.get 25 _ rfl))
    exact ⟨27, rfl, ⟨Ao3_1_4, co3_1_5, Ao3_3_4, co3_3_5, Ao3_4_4, co3_4_5, Ao3_4_7, co3_4_8, go3_9_1, (hA1.take (hA1.take (hA1.take (hA1.take (hA1.take (hA1.take (hA1.take hA1.nil rfl) rfl) rfl) rfl) rfl) rfl) rfl), hS, E_w', huo3_1_6, huo3_3_6, huo3_4_6, huo3_4_9⟩, _, rfl, fun u hu => by cases hu <;> rfl⟩
   ·
    intro fa w' hΦ hF hB
    obtain ⟨Ao3_1_4, co3_1_5, Ao3_3_4, co3_3_5, Ao3_4_4, co3_4_5, Ao3_4_7, co3_4_8, go3_10_1, hA, hS, E_w', huo3_1_6, huo3_3_6, huo3_4_6, huo3_4_9⟩ := hΦ
    replace hF := hF.cons (hA.get 19 _ rfl)
    refine wop rfl rfl ?_
    refine op_val hF rfl rfl (ex_extract (hF.ev rfl) rfl) ?_; clear hF; intro hF
    have hA1 := ((hA.put_other _ rfl).cons (hF.get 25 _ rfl))
    exact ⟨28, rfl, ⟨Ao3_1_4, co3_1_5, Ao3_3_4, co3_3_5, Ao3_4_4, co3_4_5, Ao3_4_7, co3_4_8, go3_10_1, (hA1.take (hA1.take (hA1.take (hA1.take (hA1.take (hA1.take (hA1.take hA1.nil rfl) rfl) rfl) rfl) rfl) rfl) rfl), hS, E_w', huo3_1_6, huo3_3_6, huo3_4_6, huo3_4_9⟩, _, rfl, fun u hu => by cases hu <;> rfl⟩
   ·
    intro fa w' hΦ hF hB
    obtain ⟨Ao3_1_4, co3_1_5, Ao3_3_4, co3_3_5, Ao3_4_4, co3_4_5, Ao3_4_7, co3_4_8, go3_9_1, go3_10_1, hA, hS, E_w', huo3_1_6, huo3_3_6, huo3_4_6, huo3_4_9⟩ := hΦ
    replace hF := hF.cons (hA.get 19 _ rfl)
    refine wop rfl rfl ?_
    refine op_val hF rfl rfl (ex_extract (hF.ev rfl) rfl) ?_; clear hF; intro hF
    have hA1 := ((hA.put_other _ rfl).cons (hF.get 25 _ rfl))
    exact ⟨29, rfl, ⟨Ao3_1_4, co3_1_5, Ao3_3_4, co3_3_5, Ao3_4_4, co3_4_5, Ao3_4_7, co3_4_8, go3_9_1, go3_10_1, (hA1.take (hA1.take (hA1.take (hA1.take (hA1.take (hA1.take (hA1.take hA1.nil rfl) rfl) rfl) rfl) rfl) rfl) rfl), hS, E_w', huo3_1_6, huo3_3_6, huo3_4_6, huo3_4_9⟩, _, rfl, fun u hu => by cases hu <;> rfl⟩
   ·
    intro fa w' hΦ hF hB
    obtain ⟨Ao3_1_4, co3_1_5, Ao3_3_4, co3_3_5, Ao3_4_4, co3_4_5, Ao3_4_7, co3_4_8, go3_9_1, go3_10_1, hA, hS, E_w', huo3_1_6, huo3_3_6, huo3_4_6, huo3_4_9⟩ := hΦ
    replace hF := hF.cons (hA.get 19 _ rfl)
    refine wop rfl rfl ?_
    refine op_val hF rfl rfl (ex_extract (hF.ev rfl) rfl) ?_; clear hF; intro hF
    have hA1 := ((hA.put_other _ rfl).cons (hF.get 25 _ rfl))
    exact ⟨31, rfl, ⟨Ao3_1_4, co3_1_5, Ao3_3_4, co3_3_5, Ao3_4_4, co3_4_5, Ao3_4_7, co3_4_8, go3_9_1, go3_10_1, (hA1.take (hA1.take (hA1.take (hA1.take (hA1.take (hA1.take (hA1.take (hA1.take hA1.nil rfl) rfl) rfl) rfl) rfl) rfl) rfl) rfl), hS, E_w', huo3_1_6, huo3_3_6, huo3_4_6, huo3_4_9⟩, _, rfl, fun u hu => by cases hu <;> rfl⟩
  ·
   refine .inr (.inr ⟨rfl, ?_, ?_, ?_, ?_, ?_, ?_, ?_, ?_, ?_, trivial⟩)
   ·
    intro fa w' hΦ hF hB
    obtain ⟨Ao3_1_4, co3_1_5, Ao3_3_4, co3_3_5, Ao3_4_4, co3_4_5, Ao3_4_7, co3_4_8, hA, hS, E_w', huo3_1_6, huo3_3_6, huo3_4_6, huo3_4_9⟩ := hΦ
    replace hF := hF.cons (hA.get 19 _ rfl)
    refine wop rfl rfl ?_
    refine op_val hF rfl rfl (ex_extract (hF.ev rfl) rfl) ?_; clear hF; intro hF
    have hA1 := ((hA.put_other _ rfl).cons (hF.get 26 _ rfl))
    exact ⟨17, rfl, ⟨Ao3_1_4, co3_1_5, Ao3_3_4, co3_3_5, Ao3_4_4, co3_4_5, Ao3_4_7, co3_4_8, (hA1.take (hA1.take (hA1.take (hA1.take (hA1.take hA1.nil rfl) rfl) rfl) rfl) rfl), hS, E_w', huo3_1_6, huo3_3_6, huo3_4_6, huo3_4_9⟩, _, rfl, fun u hu => by cases hu <;> rfl⟩
   ·
    intro fa w' hΦ hF hB
    obtain ⟨Ao3_1_4, co3_1_5, Ao3_3_4, co3_3_5, Ao3_4_4, co3_4_5, Ao3_4_7, co3_4_8, hA, hS, E_w', huo3_1_6, huo3_3_6, huo3_4_6, huo3_4_9⟩ := hΦ
    replace hF := hF.cons (hA.get 19 _ rfl)
    refine wop rfl rfl ?_
    refine op_val hF rfl rfl (ex_extract (hF.ev rfl) rfl) ?_; clear hF; intro hF
    have hA1 := ((hA.put_other _ rfl).cons (hF.get 26 _ rfl))
    exact ⟨21, rfl, ⟨Ao3_1_4, co3_1_5, Ao3_3_4, co3_3_5, Ao3_4_4, co3_4_5, Ao3_4_7, co3_4_8, (hA1.take (hA1.take (hA1.take (hA1.take (hA1.take (hA1.take hA1.nil rfl) rfl) rfl) rfl) rfl) rfl), hS, E_w', huo3_1_6, huo3_3_6, huo3_4_6, huo3_4_9⟩, _, rfl, fun u hu => by cases hu <;> rfl⟩
   ·
    intro fa w' hΦ hF hB
    obtain ⟨Ao3_1_4, co3_1_5, Ao3_3_4, co3_3_5, Ao3_4_4, co3_4_5, Ao3_4_7, co3_4_8, go3_9_1, hA, hS, E_w', huo3_1_6, huo3_3_6, huo3_4_6, huo3_4_9⟩ := hΦ
    replace hF := hF.cons (hA.get 19 _ rfl)
    refine wop rfl rfl ?_
    refine op_val hF rfl rfl (ex_extract (hF.ev rfl) rfl) ?_; clear hF; intro hF
    have hA1 := ((hA.put_other _ rfl).cons (hF.get 26 _ rfl))
    exact ⟨24, rfl, ⟨Ao3_1_4, co3_1_5, Ao3_3_4, co3_3_5, Ao3_4_4, co3_4_5, Ao3_4_7, co3_4_8, go3_9_1, (hA1.take (hA1.take (hA1.take (hA1.take (hA1.take (hA1.take hA1.nil rfl) rfl) rfl) rfl) rfl) rfl), hS, E_w', huo3_1_6, huo3_3_6, huo3_4_6, huo3_4_9⟩, _, rfl, fun u hu => by cases hu <;> rfl⟩
   ·
    intro fa w' hΦ hF hB
    obtain ⟨Ao3_1_4, co3_1_5, Ao3_3_4, co3_3_5, Ao3_4_4, co3_4_5, Ao3_4_7, co3_4_8, go3_10_1, hA, hS, E_w', huo3_1_6, huo3_3_6, huo3_4_6, huo3_4_9⟩ := hΦ
    replace hF := hF.cons (hA.get 19 _ rfl)
    refine wop rfl rfl ?_
    refine op_val hF rfl rfl (ex_extract (hF.ev rfl) rfl) ?_; clear hF; intro hF
    have hA1 := ((hA.put_other _ rfl).cons (hF.get 26 _ rfl))
    exact ⟨25, rfl, ⟨Ao3_1_4, co3_1_5, Ao3_3_4, co3_3_5, Ao3_4_4, co3_4_5, Ao3_4_7, co3_4_8, go3_10_1, (hA1.take (hA1.take (hA1.take (hA1.take (hA1.take (hA1.take hA1.nil rfl) rfl) rfl) rfl) rfl) rfl), hS, E_w', huo3_1_6, huo3_3_6, huo3_4_6, huo3_4_9⟩, _, rfl, fun u hu => by cases hu <;> rfl⟩
   ·
    intro fa w' hΦ hF hB
    obtain ⟨Ao3_1_4, co3_1_5, Ao3_3_4, co3_3_5, Ao3_4_4, co3_4_5, Ao3_4_7, co3_4_8, go3_9_1, hA, hS, E_w', huo3_1_6, huo3_3_6, huo3_4_6, huo3_4_9⟩ := hΦ
    replace hF := hF.cons (hA.get 19 _ rfl)
    refine wop rfl rfl ?_
    refine op_val hF rfl rfl (ex_extract (hF.ev rfl) rfl) ?_; clear hF; intro hF
    have hA1 := ((hA.put_other _ rfl).cons (hF.get 26 _ rfl))
    exact ⟨27, rfl, ⟨Ao3_1_4, co3_1_5, Ao3_3_4, co3_3_5, Ao3_4_4, co3_4_5, Ao3_4_7, co3_4_8, go3_9_1, (hA1.take (hA1.take (hA1.take (hA1.take (hA1.take (hA1.take (hA1.take hA1.nil rfl) rfl) rfl) rfl) rfl) rfl) rfl), hS, E_w', huo3_1_6, huo3_3_6, huo3_4_6, huo3_4_9⟩, _, rfl, fun u hu => by cases hu <;> rfl⟩
   ·
    intro fa w' hΦ hF hB
    obtain ⟨Ao3_1_4, co3_1_5, Ao3_3_4, co3_3_5, Ao3_4_4, co3_4_5, Ao3_4_7, co3_4_8, go3_10_1, hA, hS, E_w', huo3_1_6, huo3_3_6, huo3_4_6, huo3_4_9⟩ := hΦ
    replace hF := hF.cons (hA.get 19 _ rfl)
    refine wop rfl rfl ?_
    refine op_val hF rfl rfl (ex_extract (hF.ev rfl) rfl) ?_; clear hF; intro hF
    have hA1 := ((hA.put_other _ rfl).cons (hF.get 26 _ rfl))
    exact ⟨28, rfl, ⟨Ao3_1_4, co3_1_5, Ao3_3_4, co3_3_5, Ao3_4_4, co3_4_5, Ao3_4_7, co3_4_8, go3_10_1, (hA1.take (hA1.take (hA1.take (hA1.take (hA1.take (hA1.take (hA1.take hA1.nil rfl) rfl) rfl) rfl) rfl) rfl) rfl), hS, E_w', huo3_1_6, huo3_3_6, huo3_4_6, huo3_4_9⟩, _, rfl, fun u hu => by cases hu <;> rfl⟩
   ·
    intro fa w' hΦ hF hB
    obtain ⟨Ao3_1_4, co3_1_5, Ao3_3_4, co3_3_5, Ao3_4_4, co3_4_5, Ao3_4_7, co3_4_8, go3_9_1, go3_10_1, hA, hS, E_w', huo3_1_6, huo3_3_6, huo3_4_6, huo3_4_9⟩ := hΦ
    replace hF := hF.cons (hA.get 19 _ rfl)
    refine wop rfl rfl ?_
    refine op_val hF rfl rfl (ex_extract (hF.ev rfl) rfl) ?_; clear hF; intro hF
    have hA1 := ((hA.put_other _ rfl).cons (hF.get 26 _ rfl))
    exact ⟨30, rfl, ⟨Ao3_1_4, co3_1_5, Ao3_3_4, co3_3_5, Ao3_4_4, co3_4_5, Ao3_4_7, co3_4_8, go3_9_1, go3_10_1, (hA1.take (hA1.take (hA1.take (hA1.take (hA1.take (hA1.take (hA1.take hA1.nil rfl) rfl) rfl) rfl) rfl) rfl) rfl), hS, E_w', huo3_1_6, huo3_3_6, huo3_4_6, huo3_4_9⟩, _, rfl, fun u hu => by cases hu <;> rfl⟩
   ·
    intro fa w' hΦ hF hB
    obtain ⟨Ao3_1_4, co3_1_5, Ao3_3_4, co3_3_5, Ao3_4_4, co3_4_5, Ao3_4_7, co3_4_8, go3_9_1, go3_10_1, hA, hS, E_w', huo3_1_6, huo3_3_6, huo3_4_6, huo3_4_9⟩ := hΦ
    replace hF := hF.cons (hA.get 19 _ rfl)
    refine wop rfl rfl ?_
    refine op_val hF rfl rfl (ex_extract (hF.ev rfl) rfl) ?_; clear hF; intro hF
    have hA1 := ((hA.put_other _ rfl).cons (hF.get 26 _ rfl))
    exact ⟨31, rfl, ⟨Ao3_1_4, co3_1_5, Ao3_3_4, co3_3_5, Ao3_4_4, co3_4_5, Ao3_4_7, co3_4_8, go3_9_1, go3_10_1, (hA1.take (hA1.take (hA1.take (hA1.take (hA1.take (hA1.take (hA1.take (hA1.take hA1.nil rfl) rfl) rfl) rfl) rfl) rfl) rfl) rfl), hS, E_w', huo3_1_6, huo3_3_6, huo3_4_6, huo3_4_9⟩, _, rfl, fun u hu => by cases hu <;> rfl⟩
   ·
    intro fa w' hΦ hF hB
    obtain ⟨Ao3_1_4, co3_1_5, Ao3_3_4, co3_3_5, Ao3_4_4, co3_4_5, Ao3_4_7, co3_4_8, go3_9_1, go3_10_1, hA, hS, E_w', huo3_1_6, huo3_3_6, huo3_4_6, huo3_4_9⟩ := hΦ
    replace hF := hF.cons (hA.get 19 _ rfl)
    refine wop rfl rfl ?_
    refine op_val hF rfl rfl (ex_extract (hF.ev rfl) rfl) ?_; clear hF; intro hF
    have hA1 := ((hA.put_other _ rfl).cons (hF.get 26 _ rfl))
    exact ⟨33, rfl, ⟨Ao3_1_4, co3_1_5, Ao3_3_4, co3_3_5, Ao3_4_4, co3_4_5, Ao3_4_7, co3_4_8, go3_9_1, go3_10_1, (hA1.take (hA1.take (hA1.take (hA1.take (hA1.take (hA1.take (hA1.take (hA1.take hA1.nil rfl) rfl) rfl) rfl) rfl) rfl) rfl) rfl), hS, E_w', huo3_1_6, huo3_3_6, huo3_4_6, huo3_4_9⟩, _, rfl, fun u hu => by cases hu <;> rfl⟩
  ·
   refine .inr (.inl ⟨rfl, _, _, rfl, rfl, ?_, ?_, ?_, ?_, ?_, ?_, ?_, ?_, ?_, ?_, ?_, ?_, ?_, ?_, ?_, ?_, ?_, ?_, ?_, trivial⟩)
   ·
    intro fa w' hΦ hF hB K hK
    obtain ⟨Ao3_1_4, co3_1_5, Ao3_3_4, co3_3_5, Ao3_4_4, co3_4_5, Ao3_4_7, co3_4_8, hA, hS, E_w', huo3_1_6, huo3_3_6, huo3_4_6, huo3_4_9⟩ := hΦ
    replace hF := hF.cons (hA.get 19 _ rfl)
    exact fl_val rfl rfl rfl (ex_extract (hF.ev rfl) rfl) hK
   ·
    intro fa w' hΦ hF hB K hK
    obtain ⟨Ao3_1_4, co3_1_5, Ao3_3_4, co3_3_5, Ao3_4_4, co3_4_5, Ao3_4_7, co3_4_8, hA, hS, E_w', huo3_1_6, huo3_3_6, huo3_4_6, huo3_4_9⟩ := hΦ
    replace hF := hF.cons (hA.get 19 _ rfl)
    exact fl_val rfl rfl rfl (ex_extract (hF.ev rfl) rfl) hK
   ·
    intro fa w' hΦ hF hB K hK
    obtain ⟨Ao3_1_4, co3_1_5, Ao3_3_4, co3_3_5, Ao3_4_4, co3_4_5, Ao3_4_7, co3_4_8, hA, hS, E_w', huo3_1_6, huo3_3_6, huo3_4_6, huo3_4_9⟩ := hΦ
    replace hF := hF.cons (hA.get 19 _ rfl)
    exact fl_val rfl rfl rfl (ex_extract (hF.ev rfl) rfl) hK
   ·
    intro fa w' hΦ hF hB K hK
    obtain ⟨Ao3_1_4, co3_1_5, Ao3_3_4, co3_3_5, Ao3_4_4, co3_4_5, Ao3_4_7, co3_4_8, go3_9_1, hA, hS, E_w', huo3_1_6, huo3_3_6, huo3_4_6, huo3_4_9⟩ := hΦ
    replace hF := hF.cons (hA.get 19 _ rfl)
    exact fl_val rfl rfl rfl (ex_extract (hF.ev rfl) rfl) hK
   ·
    intro fa w' hΦ hF hB K hK
    obtain ⟨Ao3_1_4, co3_1_5, Ao3_3_4, co3_3_5, Ao3_4_4, co3_4_5, Ao3_4_7, co3_4_8, go3_10_1, hA, hS, E_w', huo3_1_6, huo3_3_6, huo3_4_6, huo3_4_9⟩ := hΦ
    replace hF := hF.cons (hA.get 19 _ rfl)
    exact fl_val rfl rfl rfl (ex_extract (hF.ev rfl) rfl) hK
   ·
    intro fa w' hΦ hF hB K hK
    obtain ⟨Ao3_1_4, co3_1_5, Ao3_3_4, co3_3_5, Ao3_4_4, co3_4_5, Ao3_4_7, co3_4_8, hA, hS, E_w', huo3_1_6, huo3_3_6, huo3_4_6, huo3_4_9⟩ := hΦ
    replace hF := hF.cons (hA.get 19 _ rfl)
    exact fl_val rfl rfl rfl (ex_extract (hF.ev rfl) rfl) hK
   ·
    intro fa w' hΦ hF hB K hK
    obtain ⟨Ao3_1_4, co3_1_5, Ao3_3_4, co3_3_5, Ao3_4_4, co3_4_5, Ao3_4_7, co3_4_8, go3_9_1, hA, hS, E_w', huo3_1_6, huo3_3_6, huo3_4_6, huo3_4_9⟩ := hΦ
    replace hF := hF.cons (hA.get 19 _ rfl)
    exact fl_val rfl rfl rfl (ex_extract (hF.ev rfl) rfl) hK
   ·
    intro fa w' hΦ hF hB K hK
    obtain ⟨Ao3_1_4, co3_1_5, Ao3_3_4, co3_3_5, Ao3_4_4, co3_4_5, Ao3_4_7, co3_4_8, go3_10_1, hA, hS, E_w', huo3_1_6, huo3_3_6, huo3_4_6, huo3_4_9⟩ := hΦ
    replace hF := hF.cons (hA.get 19 _ rfl)
    exact fl_val rfl rfl rfl (ex_extract (hF.ev rfl) rfl) hK
   ·
    intro fa w' hΦ hF hB K hK
    obtain ⟨Ao3_1_4, co3_1_5, Ao3_3_4, co3_3_5, Ao3_4_4, co3_4_5, Ao3_4_7, co3_4_8, go3_9_1, hA, hS, E_w', huo3_1_6, huo3_3_6, huo3_4_6, huo3_4_9⟩ := hΦ
    replace hF := hF.cons (hA.get 19 _ rfl)
    exact fl_val rfl rfl rfl (ex_extract (hF.ev rfl) rfl) hK
   ·
    intro fa w' hΦ hF hB K hK
    obtain ⟨Ao3_1_4, co3_1_5, Ao3_3_4, co3_3_5, Ao3_4_4, co3_4_5, Ao3_4_7, co3_4_8, go3_10_1, hA, hS, E_w', huo3_1_6, huo3_3_6, huo3_4_6, huo3_4_9⟩ := hΦ
    replace hF := hF.cons (hA.get 19 _ rfl)
    exact fl_val rfl rfl rfl (ex_extract (hF.ev rfl) rfl) hK
   ·
    intro fa w' hΦ hF hB K hK
    obtain ⟨Ao3_1_4, co3_1_5, Ao3_3_4, co3_3_5, Ao3_4_4, co3_4_5, Ao3_4_7, co3_4_8, go3_9_1, go3_10_1, hA, hS, E_w', huo3_1_6, huo3_3_6, huo3_4_6, huo3_4_9⟩ := hΦ
    replace hF := hF.cons (hA.get 19 _ rfl)
    exact fl_val rfl rfl rfl (ex_extract (hF.ev rfl) rfl) hK
   ·
    intro fa w' hΦ hF hB K hK
    obtain ⟨Ao3_1_4, co3_1_5, Ao3_3_4, co3_3_5, Ao3_4_4, co3_4_5, Ao3_4_7, co3_4_8, go3_9_1, hA, hS, E_w', huo3_1_6, huo3_3_6, huo3_4_6, huo3_4_9⟩ := hΦ
    replace hF := hF.cons (hA.get 19 _ rfl)
    exact fl_val rfl rfl rfl (ex_extract (hF.ev rfl) rfl) hK
   ·
    intro fa w' hΦ hF hB K hK
    obtain ⟨Ao3_1_4, co3_1_5, Ao3_3_4, co3_3_5, Ao3_4_4, co3_4_5, Ao3_4_7, co3_4_8, go3_10_1, hA, hS, E_w', huo3_1_6, huo3_3_6, huo3_4_6, huo3_4_9⟩ := hΦ
    replace hF := hF.cons (hA.get 19 _ rfl)
    exact fl_val rfl rfl rfl (ex_extract (hF.ev rfl) rfl) hK
   ·
    intro fa w' hΦ hF hB K hK
    obtain ⟨Ao3_1_4, co3_1_5, Ao3_3_4, co3_3_5, Ao3_4_4, co3_4_5, Ao3_4_7, co3_4_8, go3_9_1, go3_10_1, hA, hS, E_w', huo3_1_6, huo3_3_6, huo3_4_6, huo3_4_9⟩ := hΦ
    replace hF := hF.cons (hA.get 19 _ rfl)
    exact fl_val rfl rfl rfl (ex_extract (hF.ev rfl) rfl) hK
   ·
    intro fa w' hΦ hF hB K hK
    obtain ⟨Ao3_1_4, co3_1_5, Ao3_3_4, co3_3_5, Ao3_4_4, co3_4_5, Ao3_4_7, co3_4_8, go3_9_1, go3_10_1, hA, hS, E_w', huo3_1_6, huo3_3_6, huo3_4_6, huo3_4_9⟩ := hΦ
    replace hF := hF.cons (hA.get 19 _ rfl)
    exact fl_val rfl rfl rfl (ex_extract (hF.ev rfl) rfl) hK
   ·
    intro fa w' hΦ hF hB K hK
    obtain ⟨Ao3_1_4, co3_1_5, Ao3_3_4, co3_3_5, Ao3_4_4, co3_4_5, Ao3_4_7, co3_4_8, go3_9_1, go3_10_1, hA, hS, E_w', huo3_1_6, huo3_3_6, huo3_4_6, huo3_4_9⟩ := hΦ
    replace hF := hF.cons (hA.get 19 _ rfl)
    exact fl_val rfl rfl rfl (ex_extract (hF.ev rfl) rfl) hK
   ·
    intro fa w' hΦ hF hB K hK
    obtain ⟨Ao3_1_4, co3_1_5, Ao3_3_4, co3_3_5, Ao3_4_4, co3_4_5, Ao3_4_7, co3_4_8, go3_9_1, go3_10_1, hA, hS, E_w', huo3_1_6, huo3_3_6, huo3_4_6, huo3_4_9⟩ := hΦ
    replace hF := hF.cons (hA.get 19 _ rfl)
    exact fl_val rfl rfl rfl (ex_extract (hF.ev rfl) rfl) hK
   ·
    intro fa w' hΦ hF hB K hK
    obtain ⟨Ao3_1_4, co3_1_5, Ao3_3_4, co3_3_5, Ao3_4_4, co3_4_5, Ao3_4_7, co3_4_8, go3_9_1, go3_10_1, hA, hS, E_w', huo3_1_6, huo3_3_6, huo3_4_6, huo3_4_9⟩ := hΦ
    replace hF := hF.cons (hA.get 19 _ rfl)
    exact fl_val rfl rfl rfl (ex_extract (hF.ev rfl) rfl) hK
   ·
    intro fa w' hΦ hF hB K hK
    obtain ⟨Ao3_1_4, co3_1_5, Ao3_3_4, co3_3_5, Ao3_4_4, co3_4_5, Ao3_4_7, co3_4_8, go3_9_1, go3_10_1, hA, hS, E_w', huo3_1_6, huo3_3_6, huo3_4_6, huo3_4_9⟩ := hΦ
    replace hF := hF.cons (hA.get 19 _ rfl)
    exact fl_val rfl rfl rfl (ex_extract (hF.ev rfl) rfl) hK
  ·
   refine .inr (.inr ⟨rfl, ?_, ?_, ?_, ?_, ?_, ?_, ?_, ?_, ?_, ?_, ?_, ?_, ?_, ?_, ?_, ?_, trivial⟩)
   ·
    intro fa w' hΦ hF hB
    obtain ⟨hA, hS, E_w'⟩ := hΦ
    refine wop rfl rfl ?_
    refine op_alloc (X := (g5 :: (g1 :: X))) hF hS rfl TfLD.zero24 ?_
    intro go3_9_1 wo3_9_2 hgo3_9_4 hS Eo3_9_3 hF
    replace hS : St w wo3_9_2 [(go3_9_1, 24, #[(.bool (false)), (.slice (none) (0) (0))]), (g5, 24, (ic (A_b) (c_b) (b))), (g1, 24, (ic (A_a) (c_a) (a)))] := hS
    have hA1 := ((hA.put_other _ rfl).cons (hF.get 5 _ rfl))
    exact ⟨2, rfl, ⟨go3_9_1, (hA1.take hA1.nil rfl), hS, (E_w'.trans Eo3_9_3)⟩, _, rfl, fun u hu => by cases hu <;> rfl⟩
   ·
    intro fa w' hΦ hF hB
    obtain ⟨Ao3_1_4, co3_1_5, hA, hS, E_w', huo3_1_6⟩ := hΦ
    refine wop rfl rfl ?_
    refine op_alloc (X := (g5 :: (g1 :: X))) hF hS rfl TfLD.zero24 ?_
    intro go3_9_1 wo3_9_2 hgo3_9_4 hS Eo3_9_3 hF
    replace hS : St w wo3_9_2 [(go3_9_1, 24, #[(.bool (false)), (.slice (none) (0) (0))]), (g5, 24, (ic (A_b) (c_b) (b))), (g1, 24, (ic (A_a) (c_a) (a)))] := hS
    have hA1 := ((hA.put_other _ rfl).cons (hF.get 5 _ rfl))
    exact ⟨5, rfl, ⟨Ao3_1_4, co3_1_5, go3_9_1, (hA1.take (hA1.take hA1.nil rfl) rfl), hS, (E_w'.trans Eo3_9_3), (huo3_1_6.ext Eo3_9_3)⟩, _, rfl, fun u hu => by cases hu <;> rfl⟩
   ·
    intro fa w' hΦ hF hB
    obtain ⟨go3_10_1, hA, hS, E_w'⟩ := hΦ
    refine wop rfl rfl ?_
    refine op_alloc (X := (go3_10_1 :: (g5 :: (g1 :: X)))) hF hS rfl TfLD.zero24 ?_
    intro go3_9_1 wo3_9_2 hgo3_9_4 hS Eo3_9_3 hF
    replace hS : St w wo3_9_2 [(go3_9_1, 24, #[(.bool (false)), (.slice (none) (0) (0))]), (go3_10_1, 24, #[(.bool (false)), (.slice (none) (0) (0))]), (g5, 24, (ic (A_b) (c_b) (b))), (g1, 24, (ic (A_a) (c_a) (a)))] := hS
    replace hS : St w wo3_9_2 [(go3_10_1, 24, #[(.bool (false)), (.slice (none) (0) (0))]), (go3_9_1, 24, #[(.bool (false)), (.slice (none) (0) (0))]), (g5, 24, (ic (A_b) (c_b) (b))), (g1, 24, (ic (A_a) (c_a) (a)))] := hS.perm (List.Perm.swap _ _ _)
    have E20 : Ext wo3_9_2 (go3_9_1 :: (go3_10_1 :: (g5 :: (g1 :: X)))) wo3_9_2 (go3_10_1 :: (go3_9_1 :: (g5 :: (g1 :: X)))) := Ext.drop (by simp +contextual)
    have hA1 := ((hA.put_other _ rfl).cons (hF.get 5 _ rfl))
    exact ⟨7, rfl, ⟨go3_9_1, go3_10_1, (hA1.take (hA1.take hA1.nil rfl) rfl), hS, ((E_w'.trans Eo3_9_3).trans E20)⟩, _, rfl, fun u hu => by cases hu <;> rfl⟩
   ·
    intro fa w' hΦ hF hB
    obtain ⟨Ao3_1_4, co3_1_5, Ao3_3_4, co3_3_5, hA, hS, E_w', huo3_1_6, huo3_3_6⟩ := hΦ
    refine wop rfl rfl ?_
    refine op_alloc (X := (g5 :: (g1 :: X))) hF hS rfl TfLD.zero24 ?_
    intro go3_9_1 wo3_9_2 hgo3_9_4 hS Eo3_9_3 hF
    replace hS : St w wo3_9_2 [(go3_9_1, 24, #[(.bool (false)), (.slice (none) (0) (0))]), (g5, 24, (ic (A_b) (c_b) (b))), (g1, 24, (ic (A_a) (c_a) (a)))] := hS
    have hA1 := ((hA.put_other _ rfl).cons (hF.get 5 _ rfl))
    exact ⟨9, rfl, ⟨Ao3_1_4, co3_1_5, Ao3_3_4, co3_3_5, go3_9_1, (hA1.take (hA1.take (hA1.take hA1.nil rfl) rfl) rfl), hS, (E_w'.trans Eo3_9_3), (huo3_1_6.ext Eo3_9_3), (huo3_3_6.ext Eo3_9_3)⟩, _, rfl, fun u hu => by cases hu <;> rfl⟩
   ·
    intro fa w' hΦ hF hB
    obtain ⟨Ao3_1_4, co3_1_5, go3_10_1, hA, hS, E_w', huo3_1_6⟩ := hΦ
    refine wop rfl rfl ?_
    refine op_alloc (X := (go3_10_1 :: (g5 :: (g1 :: X)))) hF hS rfl TfLD.zero24 ?_
    intro go3_9_1 wo3_9_2 hgo3_9_4 hS Eo3_9_3 hF
    replace hS : St w wo3_9_2 [(go3_9_1, 24, #[(.bool (false)), (.slice (none) (0) (0))]), (go3_10_1, 24, #[(.bool (false)), (.slice (none) (0) (0))]), (g5, 24, (ic (A_b) (c_b) (b))), (g1, 24, (ic (A_a) (c_a) (a)))] := hS
    replace hS : St w wo3_9_2 [(go3_10_1, 24, #[(.bool (false)), (.slice (none) (0) (0))]), (go3_9_1, 24, #[(.bool (false)), (.slice (none) (0) (0))]), (g5, 24, (ic (A_b) (c_b) (b))), (g1, 24, (ic (A_a) (c_a) (a)))] := hS.perm (List.Perm.swap _ _ _)
    have E21 : Ext wo3_9_2 (go3_9_1 :: (go3_10_1 :: (g5 :: (g1 :: X)))) wo3_9_2 (go3_10_1 :: (go3_9_1 :: (g5 :: (g1 :: X)))) := Ext.drop (by simp +contextual)
    have hA1 := ((hA.put_other _ rfl).cons (hF.get 5 _ rfl))
    exact ⟨11, rfl, ⟨Ao3_1_4, co3_1_5, go3_9_1, go3_10_1, (hA1.take (hA1.take (hA1.take hA1.nil rfl) rfl) rfl), hS, ((E_w'.trans Eo3_9_3).trans E21), (huo3_1_6.ext (Eo3_9_3.trans E21))⟩, _, rfl, fun u hu => by cases hu <;> rfl⟩
   ·
    intro fa w' hΦ hF hB
    obtain ⟨Ao3_1_4, co3_1_5, Ao3_3_4, co3_3_5, Ao3_4_4, co3_4_5, Ao3_4_7, co3_4_8, hA, hS, E_w', huo3_1_6, huo3_3_6, huo3_4_6, huo3_4_9⟩ := hΦ
    refine wop rfl rfl ?_
    refine op_alloc (X := (g5 :: (g1 :: X))) hF hS rfl TfLD.zero24 ?_
    intro go3_9_1 wo3_9_2 hgo3_9_4 hS Eo3_9_3 hF
    replace hS : St w wo3_9_2 [(go3_9_1, 24, #[(.bool (false)), (.slice (none) (0) (0))]), (g5, 24, (ic (A_b) (c_b) (b))), (g1, 24, (ic (A_a) (c_a) (a)))] := hS
    have hA1 := ((hA.put_other _ rfl).cons (hF.get 5 _ rfl))
    exact ⟨13, rfl, ⟨Ao3_1_4, co3_1_5, Ao3_3_4, co3_3_5, Ao3_4_4, co3_4_5, Ao3_4_7, co3_4_8, go3_9_1, (hA1.take (hA1.take (hA1.take (hA1.take hA1.nil rfl) rfl) rfl) rfl), hS, (E_w'.trans Eo3_9_3), (huo3_1_6.ext Eo3_9_3), (huo3_3_6.ext Eo3_9_3), (huo3_4_6.ext Eo3_9_3), (huo3_4_9.ext Eo3_9_3)⟩, _, rfl, fun u hu => by cases hu <;> rfl⟩
   ·
    intro fa w' hΦ hF hB
    obtain ⟨Ao3_1_4, co3_1_5, Ao3_3_4, co3_3_5, go3_10_1, hA, hS, E_w', huo3_1_6, huo3_3_6⟩ := hΦ
    refine wop rfl rfl ?_
    refine op_alloc (X := (go3_10_1 :: (g5 :: (g1 :: X)))) hF hS rfl TfLD.zero24 ?_
    intro go3_9_1 wo3_9_2 hgo3_9_4 hS Eo3_9_3 hF
    replace hS : St w wo3_9_2 [(go3_9_1, 24, #[(.bool (false)), (.slice (none) (0) (0))]), (go3_10_1, 24, #[(.bool (false)), (.slice (none) (0) (0))]), (g5, 24, (ic (A_b) (c_b) (b))), (g1, 24, (ic (A_a) (c_a) (a)))] := hS
    replace hS : St w wo3_9_2 [(go3_10_1, 24, #[(.bool (false)), (.slice (none) (0) (0))]), (go3_9_1, 24, #[(.bool (false)), (.slice (none) (0) (0))]), (g5, 24, (ic (A_b) (c_b) (b))), (g1, 24, (ic (A_a) (c_a) (a)))] := hS.perm (List.Perm.swap _ _ _)
    have E22 : Ext wo3_9_2 (go3_9_1 :: (go3_10_1 :: (g5 :: (g1 :: X)))) wo3_9_2 (go3_10_1 :: (go3_9_1 :: (g5 :: (g1 :: X)))) := Ext.drop (by simp +contextual)
    have hA1 := ((hA.put_other _ rfl).cons (hF.get 5 _ rfl))
    exact ⟨15, rfl, ⟨Ao3_1_4, co3_1_5, Ao3_3_4, co3_3_5, go3_9_1, go3_10_1, (hA1.take (hA1.take (hA1.take (hA1.take hA1.nil rfl) rfl) rfl) rfl), hS, ((E_w'.trans Eo3_9_3).trans E22), (huo3_1_6.ext (Eo3_9_3.trans E22)), (huo3_3_6.ext (Eo3_9_3.trans E22))⟩, _, rfl, fun u hu => by cases hu <;> rfl⟩
   ·
    intro fa w' hΦ hF hB
    obtain ⟨Ao3_1_4, co3_1_5, Ao3_3_4, co3_3_5, Ao3_4_4, co3_4_5, Ao3_4_7, co3_4_8, hA, hS, E_w', huo3_1_6, huo3_3_6, huo3_4_6, huo3_4_9⟩ := hΦ
    refine wop rfl rfl ?_
    refine op_alloc (X := (g5 :: (g1 :: X))) hF hS rfl TfLD.zero24 ?_
    intro go3_9_1 wo3_9_2 hgo3_9_4 hS Eo3_9_3 hF
    replace hS : St w wo3_9_2 [(go3_9_1, 24, #[(.bool (false)), (.slice (none) (0) (0))]), (g5, 24, (ic (A_b) (c_b) (b))), (g1, 24, (ic (A_a) (c_a) (a)))] := hS
    have hA1 := ((hA.put_other _ rfl).cons (hF.get 5 _ rfl))
    exact ⟨18, rfl, ⟨Ao3_1_4, co3_1_5, Ao3_3_4, co3_3_5, Ao3_4_4, co3_4_5, Ao3_4_7, co3_4_8, go3_9_1, (hA1.take (hA1.take (hA1.take (hA1.take (hA1.take hA1.nil rfl) rfl) rfl) rfl) rfl), hS, (E_w'.trans Eo3_9_3), (huo3_1_6.ext Eo3_9_3), (huo3_3_6.ext Eo3_9_3), (huo3_4_6.ext Eo3_9_3), (huo3_4_9.ext Eo3_9_3)⟩, _, rfl, fun u hu => by cases hu <;> rfl⟩
   ·
    intro fa w' hΦ hF hB
    obtain ⟨Ao3_1_4, co3_1_5, Ao3_3_4, co3_3_5, Ao3_4_4, co3_4_5, Ao3_4_7, co3_4_8, go3_10_1, hA, hS, E_w', huo3_1_6, huo3_3_6, huo3_4_6, huo3_4_9⟩ := hΦ
    refine wop rfl rfl ?_
    refine op_alloc (X := (go3_10_1 :: (g5 :: (g1 :: X)))) hF hS rfl TfLD.zero24 ?_
    intro go3_9_1 wo3_9_2 hgo3_9_4 hS Eo3_9_3 hF
    replace hS : St w wo3_9_2 [(go3_9_1, 24, #[(.bool (false)), (.slice (none) (0) (0))]), (go3_10_1, 24, #[(.bool (false)), (.slice (none) (0) (0))]), (g5, 24, (ic (A_b) (c_b) (b))), (g1, 24, (ic (A_a) (c_a) (a)))] := hS
    replace hS : St w wo3_9_2 [(go3_10_1, 24, #[(.bool (false)), (.slice (none) (0) (0))]), (go3_9_1, 24, #[(.bool (false)), (.slice (none) (0) (0))]), (g5, 24, (ic (A_b) (c_b) (b))), (g1, 24, (ic (A_a) (c_a) (a)))] := hS.perm (List.Perm.swap _ _ _)
    have E23 : Ext wo3_9_2 (go3_9_1 :: (go3_10_1 :: (g5 :: (g1 :: X)))) wo3_9_2 (go3_10_1 :: (go3_9_1 :: (g5 :: (g1 :: X)))) := Ext.drop (by simp +contextual)
    have hA1 := ((hA.put_other _ rfl).cons (hF.get 5 _ rfl))
    exact ⟨20, rfl, ⟨Ao3_1_4, co3_1_5, Ao3_3_4, co3_3_5, Ao3_4_4, co3_4_5, Ao3_4_7, co3_4_8, go3_9_1, go3_10_1, (hA1.take (hA1.take (hA1.take (hA1.take (hA1.take hA1.nil rfl) rfl) rfl) rfl) rfl), hS, ((E_w'.trans Eo3_9_3).trans E23), (huo3_1_6.ext (Eo3_9_3.trans E23)), (huo3_3_6.ext (Eo3_9_3.trans E23)), (huo3_4_6.ext (Eo3_9_3.trans E23)), (huo3_4_9.ext (Eo3_9_3.trans E23))⟩, _, rfl, fun u hu => by cases hu <;> rfl⟩
   ·
    intro fa w' hΦ hF hB
    obtain ⟨Ao3_1_4, co3_1_5, Ao3_3_4, co3_3_5, Ao3_4_4, co3_4_5, Ao3_4_7, co3_4_8, hA, hS, E_w', huo3_1_6, huo3_3_6, huo3_4_6, huo3_4_9⟩ := hΦ
    refine wop rfl rfl ?_
    refine op_alloc (X := (g5 :: (g1 :: X))) hF hS rfl TfLD.zero24 ?_
    intro go3_9_1 wo3_9_2 hgo3_9_4 hS Eo3_9_3 hF
    replace hS : St w wo3_9_2 [(go3_9_1, 24, #[(.bool (false)), (.slice (none) (0) (0))]), (g5, 24, (ic (A_b) (c_b) (b))), (g1, 24, (ic (A_a) (c_a) (a)))] := hS
    have hA1 := ((hA.put_other _ rfl).cons (hF.get 5 _ rfl))
    exact ⟨22, rfl, ⟨Ao3_1_4, co3_1_5, Ao3_3_4, co3_3_5, Ao3_4_4, co3_4_5, Ao3_4_7, co3_4_8, go3_9_1, (hA1.take (hA1.take (hA1.take (hA1.take (hA1.take (hA1.take hA1.nil rfl) rfl) rfl) rfl) rfl) rfl), hS, (E_w'.trans Eo3_9_3), (huo3_1_6.ext Eo3_9_3), (huo3_3_6.ext Eo3_9_3), (huo3_4_6.ext Eo3_9_3), (huo3_4_9.ext Eo3_9_3)⟩, _, rfl, fun u hu => by cases hu <;> rfl⟩
   ·
    intro fa w' hΦ hF hB
    obtain ⟨Ao3_1_4, co3_1_5, Ao3_3_4, co3_3_5, Ao3_4_4, co3_4_5, Ao3_4_7, co3_4_8, hA, hS, E_w', huo3_1_6, huo3_3_6, huo3_4_6, huo3_4_9⟩ := hΦ
    refine wop rfl rfl ?_
    refine op_alloc (X := (g5 :: (g1 :: X))) hF hS rfl TfLD.zero24 ?_
    intro go3_9_1 wo3_9_2 hgo3_9_4 hS Eo3_9_3 hF
    replace hS : St w wo3_9_2 [(go3_9_1, 24, #[(.bool (false)), (.slice (none) (0) (0))]), (g5, 24, (ic (A_b) (c_b) (b))), (g1, 24, (ic (A_a) (c_a) (a)))] := hS
    have hA1 := ((hA.put_other _ rfl).cons (hF.get 5 _ rfl))
    exact ⟨24, rfl, ⟨Ao3_1_4, co3_1_5, Ao3_3_4, co3_3_5, Ao3_4_4, co3_4_5, Ao3_4_7, co3_4_8, go3_9_1, (hA1.take (hA1.take (hA1.take (hA1.take (hA1.take (hA1.take hA1.nil rfl) rfl) rfl) rfl) rfl) rfl), hS, (E_w'.trans Eo3_9_3), (huo3_1_6.ext Eo3_9_3), (huo3_3_6.ext Eo3_9_3), (huo3_4_6.ext Eo3_9_3), (huo3_4_9.ext Eo3_9_3)⟩, _, rfl, fun u hu => by cases hu <;> rfl⟩
   ·
    intro fa w' hΦ hF hB
    obtain ⟨Ao3_1_4, co3_1_5, Ao3_3_4, co3_3_5, Ao3_4_4, co3_4_5, Ao3_4_7, co3_4_8, go3_10_1, hA, hS, E_w', huo3_1_6, huo3_3_6, huo3_4_6, huo3_4_9⟩ := hΦ
    refine wop rfl rfl ?_
    refine op_alloc (X := (go3_10_1 :: (g5 :: (g1 :: X)))) hF hS rfl TfLD.zero24 ?_
    intro go3_9_1 wo3_9_2 hgo3_9_4 hS Eo3_9_3 hF
    replace hS : St w wo3_9_2 [(go3_9_1, 24, #[(.bool (false)), (.slice (none) (0) (0))]), (go3_10_1, 24, #[(.bool (false)), (.slice (none) (0) (0))]), (g5, 24, (ic (A_b) (c_b) (b))), (g1, 24, (ic (A_a) (c_a) (a)))] := hS
    replace hS : St w wo3_9_2 [(go3_10_1, 24, #[(.bool (false)), (.slice (none) (0) (0))]), (go3_9_1, 24, #[(.bool (false)), (.slice (none) (0) (0))]), (g5, 24, (ic (A_b) (c_b) (b))), (g1, 24, (ic (A_a) (c_a) (a)))] := hS.perm (List.Perm.swap _ _ _)
    have E24 : Ext wo3_9_2 (go3_9_1 :: (go3_10_1 :: (g5 :: (g1 :: X)))) wo3_9_2 (go3_10_1 :: (go3_9_1 :: (g5 :: (g1 :: X)))) := Ext.drop (by simp +contextual)
    have hA1 := ((hA.put_other _ rfl).cons (hF.get 5 _ rfl))
    exact ⟨26, rfl, ⟨Ao3_1_4, co3_1_5, Ao3_3_4, co3_3_5, Ao3_4_4, co3_4_5, Ao3_4_7, co3_4_8, go3_9_1, go3_10_1, (hA1.take (hA1.take (hA1.take (hA1.take (hA1.take (hA1.take hA1.nil rfl) rfl) rfl) rfl) rfl) rfl), hS, ((E_w'.trans Eo3_9_3).trans E24), (huo3_1_6.ext (Eo3_9_3.trans E24)), (huo3_3_6.ext (Eo3_9_3.trans E24)), (huo3_4_6.ext (Eo3_9_3.trans E24)), (huo3_4_9.ext (Eo3_9_3.trans E24))⟩, _, rfl, fun u hu => by cases hu <;> rfl⟩
   ·
    intro fa w' hΦ hF hB
    obtain ⟨Ao3_1_4, co3_1_5, Ao3_3_4, co3_3_5, Ao3_4_4, co3_4_5, Ao3_4_7, co3_4_8, hA, hS, E_w', huo3_1_6, huo3_3_6, huo3_4_6, huo3_4_9⟩ := hΦ
    refine wop rfl rfl ?_
    refine op_alloc (X := (g5 :: (g1 :: X))) hF hS rfl TfLD.zero24 ?_
    intro go3_9_1 wo3_9_2 hgo3_9_4 hS Eo3_9_3 hF
    replace hS : St w wo3_9_2 [(go3_9_1, 24, #[(.bool (false)), (.slice (none) (0) (0))]), (g5, 24, (ic (A_b) (c_b) (b))), (g1, 24, (ic (A_a) (c_a) (a)))] := hS
    have hA1 := ((hA.put_other _ rfl).cons (hF.get 5 _ rfl))
    exact ⟨27, rfl, ⟨Ao3_1_4, co3_1_5, Ao3_3_4, co3_3_5, Ao3_4_4, co3_4_5, Ao3_4_7, co3_4_8, go3_9_1, (hA1.take (hA1.take (hA1.take (hA1.take (hA1.take (hA1.take (hA1.take hA1.nil rfl) rfl) rfl) rfl) rfl) rfl) rfl), hS, (E_w'.trans Eo3_9_3), (huo3_1_6.ext Eo3_9_3), (huo3_3_6.ext Eo3_9_3), (huo3_4_6.ext Eo3_9_3), (huo3_4_9.ext Eo3_9_3)⟩, _, rfl, fun u hu => by cases hu <;> rfl⟩
   ·
    intro fa w' hΦ hF hB
    obtain ⟨Ao3_1_4, co3_1_5, Ao3_3_4, co3_3_5, Ao3_4_4, co3_4_5, Ao3_4_7, co3_4_8, go3_10_1, hA, hS, E_w', huo3_1_6, huo3_3_6, huo3_4_6, huo3_4_9⟩ := hΦ
    refine wop rfl rfl ?_
    refine op_alloc (X := (go3_10_1 :: (g5 :: (g1 :: X)))) hF hS rfl TfLD.zero24 ?_
    intro go3_9_1 wo3_9_2 hgo3_9_4 hS Eo3_9_3 hF
    replace hS : St w wo3_9_2 [(go3_9_1, 24, #[(.bool (false)), (.slice (none) (0) (0))]), (go3_10_1, 24, #[(.bool (false)), (.slice (none) (0) (0))]), (g5, 24, (ic (A_b) (c_b) (b))), (g1, 24, (ic (A_a) (c_a) (a)))] := hS
    replace hS : St w wo3_9_2 [(go3_10_1, 24, #[(.bool (false)), (.slice (none) (0) (0))]), (go3_9_1, 24, #[(.bool (false)), (.slice (none) (0) (0))]), (g5, 24, (ic (A_b) (c_b) (b))), (g1, 24, (ic (A_a) (c_a) (a)))] := hS.perm (List.Perm.swap _ _ _)
    have E25 : Ext wo3_9_2 (go3_9_1 :: (go3_10_1 :: (g5 :: (g1 :: X)))) wo3_9_2 (go3_10_1 :: (go3_9_1 :: (g5 :: (g1 :: X)))) := Ext.drop (by simp +contextual)
    have hA1 := ((hA.put_other _ rfl).cons (hF.get 5 _ rfl))
    exact ⟨29, rfl, ⟨Ao3_1_4, co3_1_5, Ao3_3_4, co3_3_5, Ao3_4_4, co3_4_5, Ao3_4_7, co3_4_8, go3_9_1, go3_10_1, (hA1.take (hA1.take (hA1.take (hA1.take (hA1.take (hA1.take (hA1.take hA1.nil rfl) rfl) rfl) rfl) rfl) rfl) rfl), hS, ((E_w'.trans Eo3_9_3).trans E25), (huo3_1_6.ext (Eo3_9_3.trans E25)), (huo3_3_6.ext (Eo3_9_3.trans E25)), (huo3_4_6.ext (Eo3_9_3.trans E25)), (huo3_4_9.ext (Eo3_9_3.trans E25))⟩, _, rfl, fun u hu => by cases hu <;> rfl⟩
   ·
    intro fa w' hΦ hF hB
    obtain ⟨Ao3_1_4, co3_1_5, Ao3_3_4, co3_3_5, Ao3_4_4, co3_4_5, Ao3_4_7, co3_4_8, go3_10_1, hA, hS, E_w', huo3_1_6, huo3_3_6, huo3_4_6, huo3_4_9⟩ := hΦ
    refine wop rfl rfl ?_
    refine op_alloc (X := (go3_10_1 :: (g5 :: (g1 :: X)))) hF hS rfl TfLD.zero24 ?_
    intro go3_9_1 wo3_9_2 hgo3_9_4 hS Eo3_9_3 hF
    replace hS : St w wo3_9_2 [(go3_9_1, 24, #[(.bool (false)), (.slice (none) (0) (0))]), (go3_10_1, 24, #[(.bool (false)), (.slice (none) (0) (0))]), (g5, 24, (ic (A_b) (c_b) (b))), (g1, 24, (ic (A_a) (c_a) (a)))] := hS
    replace hS : St w wo3_9_2 [(go3_10_1, 24, #[(.bool (false)), (.slice (none) (0) (0))]), (go3_9_1, 24, #[(.bool (false)), (.slice (none) (0) (0))]), (g5, 24, (ic (A_b) (c_b) (b))), (g1, 24, (ic (A_a) (c_a) (a)))] := hS.perm (List.Perm.swap _ _ _)
    have E26 : Ext wo3_9_2 (go3_9_1 :: (go3_10_1 :: (g5 :: (g1 :: X)))) wo3_9_2 (go3_10_1 :: (go3_9_1 :: (g5 :: (g1 :: X)))) := Ext.drop (by simp +contextual)
    have hA1 := ((hA.put_other _ rfl).cons (hF.get 5 _ rfl))
    exact ⟨30, rfl, ⟨Ao3_1_4, co3_1_5, Ao3_3_4, co3_3_5, Ao3_4_4, co3_4_5, Ao3_4_7, co3_4_8, go3_9_1, go3_10_1, (hA1.take (hA1.take (hA1.take (hA1.take (hA1.take (hA1.take (hA1.take hA1.nil rfl) rfl) rfl) rfl) rfl) rfl) rfl), hS, ((E_w'.trans Eo3_9_3).trans E26), (huo3_1_6.ext (Eo3_9_3.trans E26)), (huo3_3_6.ext (Eo3_9_3.trans E26)), (huo3_4_6.ext (Eo3_9_3.trans E26)), (huo3_4_9.ext (Eo3_9_3.trans E26))⟩, _, rfl, fun u hu => by cases hu <;> rfl⟩
   ·
    intro fa w' hΦ hF hB
    obtain ⟨Ao3_1_4, co3_1_5, Ao3_3_4, co3_3_5, Ao3_4_4, co3_4_5, Ao3_4_7, co3_4_8, go3_10_1, hA, hS, E_w', huo3_1_6, huo3_3_6, huo3_4_6, huo3_4_9⟩ := hΦ
    refine wop rfl rfl ?_
    refine op_alloc (X := (go3_10_1 :: (g5 :: (g1 :: X)))) hF hS rfl TfLD.zero24 ?_
    intro go3_9_1 wo3_9_2 hgo3_9_4 hS Eo3_9_3 hF
    replace hS : St w wo3_9_2 [(go3_9_1, 24, #[(.bool (false)), (.slice (none) (0) (0))]), (go3_10_1, 24, #[(.bool (false)), (.slice (none) (0) (0))]), (g5, 24, (ic (A_b) (c_b) (b))), (g1, 24, (ic (A_a) (c_a) (a)))] := hS
    replace hS : St w wo3_9_2 [(go3_10_1, 24, #[(.bool (false)), (.slice (none) (0) (0))]), (go3_9_1, 24, #[(.bool (false)), (.slice (none) (0) (0))]), (g5, 24, (ic (A_b) (c_b) (b))), (g1, 24, (ic (A_a) (c_a) (a)))] := hS.perm (List.Perm.swap _ _ _)
    have E27 : Ext wo3_9_2 (go3_9_1 :: (go3_10_1 :: (g5 :: (g1 :: X)))) wo3_9_2 (go3_10_1 :: (go3_9_1 :: (g5 :: (g1 :: X)))) := Ext.drop (by simp +contextual)
    have hA1 := ((hA.put_other _ rfl).cons (hF.get 5 _ rfl))
    exact ⟨31, rfl, ⟨Ao3_1_4, co3_1_5, Ao3_3_4, co3_3_5, Ao3_4_4, co3_4_5, Ao3_4_7, co3_4_8, go3_9_1, go3_10_1, (hA1.take (hA1.take (hA1.take (hA1.take (hA1.take (hA1.take (hA1.take (hA1.take hA1.nil rfl) rfl) rfl) rfl) rfl) rfl) rfl) rfl), hS, ((E_w'.trans Eo3_9_3).trans E27), (huo3_1_6.ext (Eo3_9_3.trans E27)), (huo3_3_6.ext (Eo3_9_3.trans E27)), (huo3_4_6.ext (Eo3_9_3.trans E27)), (huo3_4_9.ext (Eo3_9_3.trans E27))⟩, _, rfl, fun u hu => by cases hu <;> rfl⟩
  ·
   refine .inr (.inr ⟨rfl, ?_, ?_, ?_, ?_, ?_, ?_, ?_, ?_, ?_, ?_, ?_, ?_, ?_, ?_, ?_, ?_, trivial⟩)
   ·
    intro fa w' hΦ hF hB
    obtain ⟨hA, hS, E_w'⟩ := hΦ
    refine wop rfl rfl ?_
    refine op_alloc (X := (g5 :: (g1 :: X))) hF hS rfl TfLD.zero24 ?_
    intro go3_10_1 wo3_10_2 hgo3_10_4 hS Eo3_10_3 hF
    replace hS : St w wo3_10_2 [(go3_10_1, 24, #[(.bool (false)), (.slice (none) (0) (0))]), (g5, 24, (ic (A_b) (c_b) (b))), (g1, 24, (ic (A_a) (c_a) (a)))] := hS
    have hA1 := ((hA.put_other _ rfl).cons (hF.get 6 _ rfl))
    exact ⟨3, rfl, ⟨go3_10_1, (hA1.take hA1.nil rfl), hS, (E_w'.trans Eo3_10_3)⟩, _, rfl, fun u hu => by cases hu <;> rfl⟩
   ·
    intro fa w' hΦ hF hB
    obtain ⟨Ao3_1_4, co3_1_5, hA, hS, E_w', huo3_1_6⟩ := hΦ
    refine wop rfl rfl ?_
    refine op_alloc (X := (g5 :: (g1 :: X))) hF hS rfl TfLD.zero24 ?_
    intro go3_10_1 wo3_10_2 hgo3_10_4 hS Eo3_10_3 hF
    replace hS : St w wo3_10_2 [(go3_10_1, 24, #[(.bool (false)), (.slice (none) (0) (0))]), (g5, 24, (ic (A_b) (c_b) (b))), (g1, 24, (ic (A_a) (c_a) (a)))] := hS
    have hA1 := ((hA.put_other _ rfl).cons (hF.get 6 _ rfl))
    exact ⟨6, rfl, ⟨Ao3_1_4, co3_1_5, go3_10_1, (hA1.take (hA1.take hA1.nil rfl) rfl), hS, (E_w'.trans Eo3_10_3), (huo3_1_6.ext Eo3_10_3)⟩, _, rfl, fun u hu => by cases hu <;> rfl⟩
   ·
    intro fa w' hΦ hF hB
    obtain ⟨go3_9_1, hA, hS, E_w'⟩ := hΦ
    refine wop rfl rfl ?_
    refine op_alloc (X := (go3_9_1 :: (g5 :: (g1 :: X)))) hF hS rfl TfLD.zero24 ?_
    intro go3_10_1 wo3_10_2 hgo3_10_4 hS Eo3_10_3 hF
    replace hS : St w wo3_10_2 [(go3_10_1, 24, #[(.bool (false)), (.slice (none) (0) (0))]), (go3_9_1, 24, #[(.bool (false)), (.slice (none) (0) (0))]), (g5, 24, (ic (A_b) (c_b) (b))), (g1, 24, (ic (A_a) (c_a) (a)))] := hS
    have hA1 := ((hA.put_other _ rfl).cons (hF.get 6 _ rfl))
    exact ⟨7, rfl, ⟨go3_9_1, go3_10_1, (hA1.take (hA1.take hA1.nil rfl) rfl), hS, (E_w'.trans Eo3_10_3)⟩, _, rfl, fun u hu => by cases hu <;> rfl⟩
   ·
    intro fa w' hΦ hF hB
    obtain ⟨Ao3_1_4, co3_1_5, Ao3_3_4, co3_3_5, hA, hS, E_w', huo3_1_6, huo3_3_6⟩ := hΦ
    refine wop rfl rfl ?_
    refine op_alloc (X := (g5 :: (g1 :: X))) hF hS rfl TfLD.zero24 ?_
    intro go3_10_1 wo3_10_2 hgo3_10_4 hS Eo3_10_3 hF
    replace hS : St w wo3_10_2 [(go3_10_1, 24, #[(.bool (false)), (.slice (none) (0) (0))]), (g5, 24, (ic (A_b) (c_b) (b))), (g1, 24, (ic (A_a) (c_a) (a)))] := hS
    have hA1 := ((hA.put_other _ rfl).cons (hF.get 6 _ rfl))
    exact ⟨10, rfl, ⟨Ao3_1_4, co3_1_5, Ao3_3_4, co3_3_5, go3_10_1, (hA1.take (hA1.take (hA1.take hA1.nil rfl) rfl) rfl), hS, (E_w'.trans Eo3_10_3), (huo3_1_6.ext Eo3_10_3), (huo3_3_6.ext Eo3_10_3)⟩, _, rfl, fun u hu => by cases hu <;> rfl⟩
   ·
    intro fa w' hΦ hF hB
    obtain ⟨Ao3_1_4, co3_1_5, go3_9_1, hA, hS, E_w', huo3_1_6⟩ := hΦ
    refine wop rfl rfl ?_
    refine op_alloc (X := (go3_9_1 :: (g5 :: (g1 :: X)))) hF hS rfl TfLD.zero24 ?_
    intro go3_10_1 wo3_10_2 hgo3_10_4 hS Eo3_10_3 hF
    replace hS : St w wo3_10_2 [(go3_10_1, 24, #[(.bool (false)), (.slice (none) (0) (0))]), (go3_9_1, 24, #[(.bool (false)), (.slice (none) (0) (0))]), (g5, 24, (ic (A_b) (c_b) (b))), (g1, 24, (ic (A_a) (c_a) (a)))] := hS
    have hA1 := ((hA.put_other _ rfl).cons (hF.get 6 _ rfl))
    exact ⟨11, rfl, ⟨Ao3_1_4, co3_1_5, go3_9_1, go3_10_1, (hA1.take (hA1.take (hA1.take hA1.nil rfl) rfl) rfl), hS, (E_w'.trans Eo3_10_3), (huo3_1_6.ext Eo3_10_3)⟩, _, rfl, fun u hu => by cases hu <;> rfl⟩
   ·
    intro fa w' hΦ hF hB
    obtain ⟨Ao3_1_4, co3_1_5, Ao3_3_4, co3_3_5, Ao3_4_4, co3_4_5, Ao3_4_7, co3_4_8, hA, hS, E_w', huo3_1_6, huo3_3_6, huo3_4_6, huo3_4_9⟩ := hΦ
    refine wop rfl rfl ?_
    refine op_alloc (X := (g5 :: (g1 :: X))) hF hS rfl TfLD.zero24 ?_
    intro go3_10_1 wo3_10_2 hgo3_10_4 hS Eo3_10_3 hF
    replace hS : St w wo3_10_2 [(go3_10_1, 24, #[(.bool (false)), (.slice (none) (0) (0))]), (g5, 24, (ic (A_b) (c_b) (b))), (g1, 24, (ic (A_a) (c_a) (a)))] := hS
    have hA1 := ((hA.put_other _ rfl).cons (hF.get 6 _ rfl))
    exact ⟨14, rfl, ⟨Ao3_1_4, co3_1_5, Ao3_3_4, co3_3_5, Ao3_4_4, co3_4_5, Ao3_4_7, co3_4_8, go3_10_1, (hA1.take (hA1.take (hA1.take (hA1.take hA1.nil rfl) rfl) rfl) rfl), hS, (E_w'.trans Eo3_10_3), (huo3_1_6.ext Eo3_10_3), (huo3_3_6.ext Eo3_10_3), (huo3_4_6.ext Eo3_10_3), (huo3_4_9.ext Eo3_10_3)⟩, _, rfl, fun u hu => by cases hu <;> rfl⟩
   ·
    intro fa w' hΦ hF hB
    obtain ⟨Ao3_1_4, co3_1_5, Ao3_3_4, co3_3_5, go3_9_1, hA, hS, E_w', huo3_1_6, huo3_3_6⟩ := hΦ
    refine wop rfl rfl ?_
    refine op_alloc (X := (go3_9_1 :: (g5 :: (g1 :: X)))) hF hS rfl TfLD.zero24 ?_
    intro go3_10_1 wo3_10_2 hgo3_10_4 hS Eo3_10_3 hF
    replace hS : St w wo3_10_2 [(go3_10_1, 24, #[(.bool (false)), (.slice (none) (0) (0))]), (go3_9_1, 24, #[(.bool (false)), (.slice (none) (0) (0))]), (g5, 24, (ic (A_b) (c_b) (b))), (g1, 24, (ic (A_a) (c_a) (a)))] := hS
    have hA1 := ((hA.put_other _ rfl).cons (hF.get 6 _ rfl))
    exact ⟨15, rfl, ⟨Ao3_1_4, co3_1_5, Ao3_3_4, co3_3_5, go3_9_1, go3_10_1, (hA1.take (hA1.take (hA1.take (hA1.take hA1.nil rfl) rfl) rfl) rfl), hS, (E_w'.trans Eo3_10_3), (huo3_1_6.ext Eo3_10_3), (huo3_3_6.ext Eo3_10_3)⟩, _, rfl, fun u hu => by cases hu <;> rfl⟩
   ·
    intro fa w' hΦ hF hB
    obtain ⟨Ao3_1_4, co3_1_5, Ao3_3_4, co3_3_5, Ao3_4_4, co3_4_5, Ao3_4_7, co3_4_8, hA, hS, E_w', huo3_1_6, huo3_3_6, huo3_4_6, huo3_4_9⟩ := hΦ
    refine wop rfl rfl ?_
    refine op_alloc (X := (g5 :: (g1 :: X))) hF hS rfl TfLD.zero24 ?_
    intro go3_10_1 wo3_10_2 hgo3_10_4 hS Eo3_10_3 hF
    replace hS : St w wo3_10_2 [(go3_10_1, 24, #[(.bool (false)), (.slice (none) (0) (0))]), (g5, 24, (ic (A_b) (c_b) (b))), (g1, 24, (ic (A_a) (c_a) (a)))] := hS
    have hA1 := ((hA.put_other _ rfl).cons (hF.get 6 _ rfl))
    exact ⟨19, rfl, ⟨Ao3_1_4, co3_1_5, Ao3_3_4, co3_3_5, Ao3_4_4, co3_4_5, Ao3_4_7, co3_4_8, go3_10_1, (hA1.take (hA1.take (hA1.take (hA1.take (hA1.take hA1.nil rfl) rfl) rfl) rfl) rfl), hS, (E_w'.trans Eo3_10_3), (huo3_1_6.ext Eo3_10_3), (huo3_3_6.ext Eo3_10_3), (huo3_4_6.ext Eo3_10_3), (huo3_4_9.ext Eo3_10_3)⟩, _, rfl, fun u hu => by cases hu <;> rfl⟩
   ·
    intro fa w' hΦ hF hB
    obtain ⟨Ao3_1_4, co3_1_5, Ao3_3_4, co3_3_5, Ao3_4_4, co3_4_5, Ao3_4_7, co3_4_8, go3_9_1, hA, hS, E_w', huo3_1_6, huo3_3_6, huo3_4_6, huo3_4_9⟩ := hΦ
    refine wop rfl rfl ?_
    refine op_alloc (X := (go3_9_1 :: (g5 :: (g1 :: X)))) hF hS rfl TfLD.zero24 ?_
    intro go3_10_1 wo3_10_2 hgo3_10_4 hS Eo3_10_3 hF
    replace hS : St w wo3_10_2 [(go3_10_1, 24, #[(.bool (false)), (.slice (none) (0) (0))]), (go3_9_1, 24, #[(.bool (false)), (.slice (none) (0) (0))]), (g5, 24, (ic (A_b) (c_b) (b))), (g1, 24, (ic (A_a) (c_a) (a)))] := hS
    have hA1 := ((hA.put_other _ rfl).cons (hF.get 6 _ rfl))
    exact ⟨20, rfl, ⟨Ao3_1_4, co3_1_5, Ao3_3_4, co3_3_5, Ao3_4_4, co3_4_5, Ao3_4_7, co3_4_8, go3_9_1, go3_10_1, (hA1.take (hA1.take (hA1.take (hA1.take (hA1.take hA1.nil rfl) rfl) rfl) rfl) rfl), hS, (E_w'.trans Eo3_10_3), (huo3_1_6.ext Eo3_10_3), (huo3_3_6.ext Eo3_10_3), (huo3_4_6.ext Eo3_10_3), (huo3_4_9.ext Eo3_10_3)⟩, _, rfl, fun u hu => by cases hu <;> rfl⟩
   ·
    intro fa w' hΦ hF hB
    obtain ⟨Ao3_1_4, co3_1_5, Ao3_3_4, co3_3_5, Ao3_4_4, co3_4_5, Ao3_4_7, co3_4_8, hA, hS, E_w', huo3_1_6, huo3_3_6, huo3_4_6, huo3_4_9⟩ := hΦ
    refine wop rfl rfl ?_
    refine op_alloc (X := (g5 :: (g1 :: X))) hF hS rfl TfLD.zero24 ?_
    intro go3_10_1 wo3_10_2 hgo3_10_4 hS Eo3_10_3 hF
    replace hS : St w wo3_10_2 [(go3_10_1, 24, #[(.bool (false)), (.slice (none) (0) (0))]), (g5, 24, (ic (A_b) (c_b) (b))), (g1, 24, (ic (A_a) (c_a) (a)))] := hS
    have hA1 := ((hA.put_other _ rfl).cons (hF.get 6 _ rfl))
    exact ⟨23, rfl, ⟨Ao3_1_4, co3_1_5, Ao3_3_4, co3_3_5, Ao3_4_4, co3_4_5, Ao3_4_7, co3_4_8, go3_10_1, (hA1.take (hA1.take (hA1.take (hA1.take (hA1.take (hA1.take hA1.nil rfl) rfl) rfl) rfl) rfl) rfl), hS, (E_w'.trans Eo3_10_3), (huo3_1_6.ext Eo3_10_3), (huo3_3_6.ext Eo3_10_3), (huo3_4_6.ext Eo3_10_3), (huo3_4_9.ext Eo3_10_3)⟩, _, rfl, fun u hu => by cases hu <;> rfl⟩
   ·
    intro fa w' hΦ hF hB
    obtain ⟨Ao3_1_4, co3_1_5, Ao3_3_4, co3_3_5, Ao3_4_4, co3_4_5, Ao3_4_7, co3_4_8, hA, hS, E_w', huo3_1_6, huo3_3_6, huo3_4_6, huo3_4_9⟩ := hΦ
    refine wop rfl rfl ?_
    refine op_alloc (X := (g5 :: (g1 :: X))) hF hS rfl TfLD.zero24 ?_
    intro go3_10_1 wo3_10_2 hgo3_10_4 hS Eo3_10_3 hF
    replace hS : St w wo3_10_2 [(go3_10_1, 24, #[(.bool (false)), (.slice (none) (0) (0))]), (g5, 24, (ic (A_b) (c_b) (b))), (g1, 24, (ic (A_a) (c_a) (a)))] := hS
    have hA1 := ((hA.put_other _ rfl).cons (hF.get 6 _ rfl))
    exact ⟨25, rfl, ⟨Ao3_1_4, co3_1_5, Ao3_3_4, co3_3_5, Ao3_4_4, co3_4_5, Ao3_4_7, co3_4_8, go3_10_1, (hA1.take (hA1.take (hA1.take (hA1.take (hA1.take (hA1.take hA1.nil rfl) rfl) rfl) rfl) rfl) rfl), hS, (E_w'.trans Eo3_10_3), (huo3_1_6.ext Eo3_10_3), (huo3_3_6.ext Eo3_10_3), (huo3_4_6.ext Eo3_10_3), (huo3_4_9.ext Eo3_10_3)⟩, _, rfl, fun u hu => by cases hu <;> rfl⟩
   ·
    intro fa w' hΦ hF hB
    obtain ⟨Ao3_1_4, co3_1_5, Ao3_3_4, co3_3_5, Ao3_4_4, co3_4_5, Ao3_4_7, co3_4_8, go3_9_1, hA, hS, E_w', huo3_1_6, huo3_3_6, huo3_4_6, huo3_4_9⟩ := hΦ
    refine wop rfl rfl ?_
    refine op_alloc (X := (go3_9_1 :: (g5 :: (g1 :: X)))) hF hS rfl TfLD.zero24 ?_
    intro go3_10_1 wo3_10_2 hgo3_10_4 hS Eo3_10_3 hF
    replace hS : St w wo3_10_2 [(go3_10_1, 24, #[(.bool (false)), (.slice (none) (0) (0))]), (go3_9_1, 24, #[(.bool (false)), (.slice (none) (0) (0))]), (g5, 24, (ic (A_b) (c_b) (b))), (g1, 24, (ic (A_a) (c_a) (a)))] := hS
    have hA1 := ((hA.put_other _ rfl).cons (hF.get 6 _ rfl))
    exact ⟨26, rfl, ⟨Ao3_1_4, co3_1_5, Ao3_3_4, co3_3_5, Ao3_4_4, co3_4_5, Ao3_4_7, co3_4_8, go3_9_1, go3_10_1, (hA1.take (hA1.take (hA1.take (hA1.take (hA1.take (hA1.take hA1.nil rfl) rfl) rfl) rfl) rfl) rfl), hS, (E_w'.trans Eo3_10_3), (huo3_1_6.ext Eo3_10_3), (huo3_3_6.ext Eo3_10_3), (huo3_4_6.ext Eo3_10_3), (huo3_4_9.ext Eo3_10_3)⟩, _, rfl, fun u hu => by cases hu <;> rfl⟩
   ·
    intro fa w' hΦ hF hB
    obtain ⟨Ao3_1_4, co3_1_5, Ao3_3_4, co3_3_5, Ao3_4_4, co3_4_5, Ao3_4_7, co3_4_8, hA, hS, E_w', huo3_1_6, huo3_3_6, huo3_4_6, huo3_4_9⟩ := hΦ
    refine wop rfl rfl ?_
    refine op_alloc (X := (g5 :: (g1 :: X))) hF hS rfl TfLD.zero24 ?_
    intro go3_10_1 wo3_10_2 hgo3_10_4 hS Eo3_10_3 hF
    replace hS : St w wo3_10_2 [(go3_10_1, 24, #[(.bool (false)), (.slice (none) (0) (0))]), (g5, 24, (ic (A_b) (c_b) (b))), (g1, 24, (ic (A_a) (c_a) (a)))] := hS
    have hA1 := ((hA.put_other _ rfl).cons (hF.get 6 _ rfl))
    exact ⟨28, rfl, ⟨Ao3_1_4, co3_1_5, Ao3_3_4, co3_3_5, Ao3_4_4, co3_4_5, Ao3_4_7, co3_4_8, go3_10_1, (hA1.take (hA1.take (hA1.take (hA1.take (hA1.take (hA1.take (hA1.take hA1.nil rfl) rfl) rfl) rfl) rfl) rfl) rfl), hS, (E_w'.trans Eo3_10_3), (huo3_1_6.ext Eo3_10_3), (huo3_3_6.ext Eo3_10_3), (huo3_4_6.ext Eo3_10_3), (huo3_4_9.ext Eo3_10_3)⟩, _, rfl, fun u hu => by cases hu <;> rfl⟩
   ·
    intro fa w' hΦ hF hB
    obtain ⟨Ao3_1_4, co3_1_5, Ao3_3_4, co3_3_5, Ao3_4_4, co3_4_5, Ao3_4_7, co3_4_8, go3_9_1, hA, hS, E_w', huo3_1_6, huo3_3_6, huo3_4_6, huo3_4_9⟩ := hΦ
    refine wop rfl rfl ?_
    refine op_alloc (X := (go3_9_1 :: (g5 :: (g1 :: X)))) hF hS rfl TfLD.zero24 ?_
    intro go3_10_1 wo3_10_2 hgo3_10_4 hS Eo3_10_3 hF
    replace hS : St w wo3_10_2 [(go3_10_1, 24, #[(.bool (false)), (.slice (none) (0) (0))]), (go3_9_1, 24, #[(.bool (false)), (.slice (none) (0) (0))]), (g5, 24, (ic (A_b) (c_b) (b))), (g1, 24, (ic (A_a) (c_a) (a)))] := hS
    have hA1 := ((hA.put_other _ rfl).cons (hF.get 6 _ rfl))
    exact ⟨29, rfl, ⟨Ao3_1_4, co3_1_5, Ao3_3_4, co3_3_5, Ao3_4_4, co3_4_5, Ao3_4_7, co3_4_8, go3_9_1, go3_10_1, (hA1.take (hA1.take (hA1.take (hA1.take (hA1.take (hA1.take (hA1.take hA1.nil rfl) rfl) rfl) rfl) rfl) rfl) rfl), hS, (E_w'.trans Eo3_10_3), (huo3_1_6.ext Eo3_10_3), (huo3_3_6.ext Eo3_10_3), (huo3_4_6.ext Eo3_10_3), (huo3_4_9.ext Eo3_10_3)⟩, _, rfl, fun u hu => by cases hu <;> rfl⟩
   ·
    intro fa w' hΦ hF hB
    obtain ⟨Ao3_1_4, co3_1_5, Ao3_3_4, co3_3_5, Ao3_4_4, co3_4_5, Ao3_4_7, co3_4_8, go3_9_1, hA, hS, E_w', huo3_1_6, huo3_3_6, huo3_4_6, huo3_4_9⟩ := hΦ
    refine wop rfl rfl ?_
    refine op_alloc (X := (go3_9_1 :: (g5 :: (g1 :: X)))) hF hS rfl TfLD.zero24 ?_
    intro go3_10_1 wo3_10_2 hgo3_10_4 hS Eo3_10_3 hF
    replace hS : St w wo3_10_2 [(go3_10_1, 24, #[(.bool (false)), (.slice (none) (0) (0))]), (go3_9_1, 24, #[(.bool (false)), (.slice (none) (0) (0))]), (g5, 24, (ic (A_b) (c_b) (b))), (g1, 24, (ic (A_a) (c_a) (a)))] := hS
    have hA1 := ((hA.put_other _ rfl).cons (hF.get 6 _ rfl))
    exact ⟨30, rfl, ⟨Ao3_1_4, co3_1_5, Ao3_3_4, co3_3_5, Ao3_4_4, co3_4_5, Ao3_4_7, co3_4_8, go3_9_1, go3_10_1, (hA1.take (hA1.take (hA1.take (hA1.take (hA1.take (hA1.take (hA1.take hA1.nil rfl) rfl) rfl) rfl) rfl) rfl) rfl), hS, (E_w'.trans Eo3_10_3), (huo3_1_6.ext Eo3_10_3), (huo3_3_6.ext Eo3_10_3), (huo3_4_6.ext Eo3_10_3), (huo3_4_9.ext Eo3_10_3)⟩, _, rfl, fun u hu => by cases hu <;> rfl⟩
   ·
    intro fa w' hΦ hF hB
    obtain ⟨Ao3_1_4, co3_1_5, Ao3_3_4, co3_3_5, Ao3_4_4, co3_4_5, Ao3_4_7, co3_4_8, go3_9_1, hA, hS, E_w', huo3_1_6, huo3_3_6, huo3_4_6, huo3_4_9⟩ := hΦ
    refine wop rfl rfl ?_
    refine op_alloc (X := (go3_9_1 :: (g5 :: (g1 :: X)))) hF hS rfl TfLD.zero24 ?_
    intro go3_10_1 wo3_10_2 hgo3_10_4 hS Eo3_10_3 hF
    replace hS : St w wo3_10_2 [(go3_10_1, 24, #[(.bool (false)), (.slice (none) (0) (0))]), (go3_9_1, 24, #[(.bool (false)), (.slice (none) (0) (0))]), (g5, 24, (ic (A_b) (c_b) (b))), (g1, 24, (ic (A_a) (c_a) (a)))] := hS
    have hA1 := ((hA.put_other _ rfl).cons (hF.get 6 _ rfl))
    exact ⟨31, rfl, ⟨Ao3_1_4, co3_1_5, Ao3_3_4, co3_3_5, Ao3_4_4, co3_4_5, Ao3_4_7, co3_4_8, go3_9_1, go3_10_1, (hA1.take (hA1.take (hA1.take (hA1.take (hA1.take (hA1.take (hA1.take (hA1.take hA1.nil rfl) rfl) rfl) rfl) rfl) rfl) rfl) rfl), hS, (E_w'.trans Eo3_10_3), (huo3_1_6.ext Eo3_10_3), (huo3_3_6.ext Eo3_10_3), (huo3_4_6.ext Eo3_10_3), (huo3_4_9.ext Eo3_10_3)⟩, _, rfl, fun u hu => by cases hu <;> rfl⟩
  ·
   refine .inr (.inr ⟨rfl, ?_, ?_, trivial⟩)
   ·
    intro fa w' hΦ hF hB
    obtain ⟨Ao3_1_4, co3_1_5, Ao3_3_4, co3_3_5, Ao3_4_4, co3_4_5, Ao3_4_7, co3_4_8, go3_9_1, go3_10_1, hA, hS, E_w', huo3_1_6, huo3_3_6, huo3_4_6, huo3_4_9⟩ := hΦ
    replace hF := hF.cons (hA.get 5 _ rfl)
    replace hF := hF.cons (hA.get 25 _ rfl)
    refine wop rfl rfl ?_
    refine op_store (X := (go3_10_1 :: (go3_9_1 :: (g5 :: (g1 :: X))))) hF hS 1 rfl (by simp) rfl rfl rfl TfLD.size24 rfl (Nat.le_of_ble_eq_true rfl) ?_
    intro wo3_11_1 hS Eo3_11_2
    replace hS : St w wo3_11_1 [(go3_10_1, 24, #[(.bool (false)), (.slice (none) (0) (0))]), (go3_9_1, 24, (ic (Ao3_4_4) (co3_4_5) ((a.fdiv b)))), (g5, 24, (ic (A_b) (c_b) (b))), (g1, 24, (ic (A_a) (c_a) (a)))] := hS
    exact ⟨32, rfl, ⟨Ao3_1_4, co3_1_5, Ao3_3_4, co3_3_5, Ao3_4_4, co3_4_5, Ao3_4_7, co3_4_8, go3_9_1, go3_10_1, hA, hS, (E_w'.trans Eo3_11_2), (huo3_1_6.ext Eo3_11_2), (huo3_3_6.ext Eo3_11_2), (huo3_4_6.ext Eo3_11_2), (huo3_4_9.ext Eo3_11_2)⟩, undef, rfl, fun u hu => by cases hu <;> rfl⟩
   ·
    intro fa w' hΦ hF hB
    obtain ⟨Ao3_1_4, co3_1_5, Ao3_3_4, co3_3_5, Ao3_4_4, co3_4_5, Ao3_4_7, co3_4_8, go3_9_1, go3_10_1, hA, hS, E_w', huo3_1_6, huo3_3_6, huo3_4_6, huo3_4_9⟩ := hΦ
    replace hF := hF.cons (hA.get 5 _ rfl)
    replace hF := hF.cons (hA.get 25 _ rfl)
    refine wop rfl rfl ?_
    refine op_store (X := (go3_10_1 :: (go3_9_1 :: (g5 :: (g1 :: X))))) hF hS 1 rfl (by simp) rfl rfl rfl TfLD.size24 rfl (Nat.le_of_ble_eq_true rfl) ?_
    intro wo3_11_1 hS Eo3_11_2
    replace hS : St w wo3_11_1 [(go3_10_1, 24, #[(.bool (false)), (.slice (none) (0) (0))]), (go3_9_1, 24, (ic (Ao3_4_4) (co3_4_5) ((a.fdiv b)))), (g5, 24, (ic (A_b) (c_b) (b))), (g1, 24, (ic (A_a) (c_a) (a)))] := hS
    exact ⟨33, rfl, ⟨Ao3_1_4, co3_1_5, Ao3_3_4, co3_3_5, Ao3_4_4, co3_4_5, Ao3_4_7, co3_4_8, go3_9_1, go3_10_1, hA, hS, (E_w'.trans Eo3_11_2), (huo3_1_6.ext Eo3_11_2), (huo3_3_6.ext Eo3_11_2), (huo3_4_6.ext Eo3_11_2), (huo3_4_9.ext Eo3_11_2)⟩, undef, rfl, fun u hu => by cases hu <;> rfl⟩
  ·
   refine .inr (.inr ⟨rfl, ?_, trivial⟩)
   ·
    intro fa w' hΦ hF hB
    obtain ⟨Ao3_1_4, co3_1_5, Ao3_3_4, co3_3_5, Ao3_4_4, co3_4_5, Ao3_4_7, co3_4_8, go3_9_1, go3_10_1, hA, hS, E_w', huo3_1_6, huo3_3_6, huo3_4_6, huo3_4_9⟩ := hΦ
    replace hF := hF.cons (hA.get 6 _ rfl)
    replace hF := hF.cons (hA.get 26 _ rfl)
    refine wop rfl rfl ?_
    refine op_store (X := (go3_10_1 :: (go3_9_1 :: (g5 :: (g1 :: X))))) hF hS 0 rfl (by simp) rfl rfl rfl TfLD.size24 rfl (Nat.le_of_ble_eq_true rfl) ?_
    intro wo3_12_1 hS Eo3_12_2
    replace hS : St w wo3_12_1 [(go3_10_1, 24, (ic (Ao3_4_7) (co3_4_8) ((if b = 0 then 0 else a.fmod b)))), (go3_9_1, 24, (ic (Ao3_4_4) (co3_4_5) ((a.fdiv b)))), (g5, 24, (ic (A_b) (c_b) (b))), (g1, 24, (ic (A_a) (c_a) (a)))] := hS
    exact ⟨34, rfl, ⟨Ao3_1_4, co3_1_5, Ao3_3_4, co3_3_5, Ao3_4_4, co3_4_5, Ao3_4_7, co3_4_8, go3_9_1, go3_10_1, hA, hS, (E_w'.trans Eo3_12_2), (huo3_1_6.ext Eo3_12_2), (huo3_3_6.ext Eo3_12_2), (huo3_4_6.ext Eo3_12_2), (huo3_4_9.ext Eo3_12_2)⟩, undef, rfl, fun u hu => by cases hu <;> rfl⟩
  ·
   refine .inl ⟨rfl, _, _, rfl, rfl, fun s fa w' hΦ hF hB K hK => ?_⟩
   replace hF := hF.cons (hB.val 8 _ 27 _ rfl rfl rfl rfl)
   exact fl_val rfl rfl rfl (ex_assign (hF.ev rfl)) hK
 intro fa w28 hΦ hF hC
 obtain ⟨Ao3_1_4, co3_1_5, Ao3_3_4, co3_3_5, Ao3_4_4, co3_4_5, Ao3_4_7, co3_4_8, go3_9_1, go3_10_1, hA, hS, E_w28, huo3_1_6, huo3_3_6, huo3_4_6, huo3_4_9⟩ := hΦ
 replace hF := hF.cons (hC 13 _ 7 _ rfl rfl rfl)
 replace hF := hF.cons (hA.get 5 _ rfl)
 replace hF := hF.cons (hA.get 6 _ rfl)
 clear hA hC
 refine x_tn ?_
 refine c_seq ?_
 refine c_seq ?_
 refine c_reg ?_
 refine st_val hF rfl rfl rfl (ex_loadb TfLD.row24 (hF.ev rfl) (hS.get 2 rfl) rfl) ?_
 clear hF fa; intro fa hF
 have hC := ref01_Sign_ok (w := w28) (X := (go3_10_1 :: (go3_9_1 :: (g5 :: (g1 :: X))))) (a := b) (hS.bnd hX) (IntV.of_ (n := (lim b.natAbs).length) (b := decide (b < 0)) (x := b) ((hu_b.ext (((((E3.trans E7).trans E11).trans E14).trans E19).trans E_w28))) (rfl) (rfl) (rfl))
 refine st rfl (op_call hF rfl TfLD.body15 (args1 (hF.ev rfl)) hC ?_)
 clear hC
 rintro _ w29 ⟨rfl, hb30⟩
 refine gen_ ?_; clear hF fa; intro fa hF
 replace hS := hS.call hb30; have E31 := Ext.call (go3_10_1 :: (go3_9_1 :: (g5 :: (g1 :: X)))) hb30
 refine st_val hF rfl rfl rfl (ex_eql (hF.ev rfl) (hF.ev rfl)) ?_
 clear hF fa; intro fa hF
 refine c_nil_then ?_
 refine c_cond hF rfl (fun hc32 => ?_) (fun hc32 => ?_)
 ·
  have hc32p : (sgnI b) = 0 := by first | simpa using hc32 | exact bang_t hc32 | exact bang_f hc32
  have hb0 : b = 0 := sgnI_zero.1 hc32p
  refine c_seq ?_
  refine c_reg ?_
  refine st_val hF rfl rfl rfl (ex_move (hF.ev rfl)) ?_
  clear hF fa; intro fa hF
  refine st_val hF rfl rfl rfl (ex_b (t := decide ((if b = 0 then 6 else 0) = 6)) (b := true) (by rw [decide_eq_true_eq, if_pos hb0]) (ex_eql (hF.ev rfl) (hF.ev rfl))) ?_
  clear hF fa; intro fa hF
  refine st_val hF rfl rfl rfl (ex_move (hF.ev rfl)) ?_
  clear hF fa; intro fa hF
  refine stg_val hF rfl rfl rfl rfl (ex_loadb TfLD.row24 (hF.ev rfl) (hS.get 1 rfl) rfl) ?_
  clear hF fa; intro fa hF
  have hC := law01_is_ok (w := w29) (X := (go3_10_1 :: (go3_9_1 :: (g5 :: (g1 :: X))))) (a := (a.fdiv b)) (hS.bnd hX) (IntV.of_ (n := (lim (a.fdiv b).natAbs).length) (b := decide ((a.fdiv b) < 0)) (x := a.fdiv b) ((huo3_4_6.ext E31)) (rfl) (rfl) (rfl)) 0 (by omega) (by omega)
  rw [show (decide ((a.fdiv b) = ((0 : Int)))) = true from by rw [decide_eq_true_eq, hb0]; simp] at hC
  refine stg hF rfl rfl (op_call hF rfl TfLD.body16 (args2 (hF.ev rfl) (hF.ev rfl)) hC ?_)
  clear hC
  rintro _ w33 ⟨rfl, hb34⟩
  refine gen_ ?_; clear hF fa; intro fa hF
  replace hS := hS.call hb34; have E35 := Ext.call (go3_10_1 :: (go3_9_1 :: (g5 :: (g1 :: X)))) hb34
  refine st_val hF rfl rfl rfl (ex_pick (hF.ev rfl) (fun _ => hF.ev rfl) (v := undef) (fun h => by cases h) rfl) ?_
  clear hF fa; intro fa hF
  refine st_val hF rfl rfl rfl (ex_move (hF.ev rfl)) ?_
  clear hF fa; intro fa hF
  refine stg_val hF rfl rfl rfl rfl (ex_loadb TfLD.row24 (hF.ev rfl) (hS.get 0 rfl) rfl) ?_
  clear hF fa; intro fa hF
  have hC := law01_is_ok (w := w33) (X := (go3_10_1 :: (go3_9_1 :: (g5 :: (g1 :: X))))) (a := (if b = 0 then 0 else a.fmod b)) (hS.bnd hX) (IntV.of_ (n := (lim ((if b = 0 then 0 else a.fmod b)).natAbs).length) (b := decide ((if b = 0 then 0 else a.fmod b) < 0)) (x := (if b = 0 then 0 else a.fmod b)) ((huo3_4_9.ext (E31.trans E35))) (rfl) (rfl) (rfl)) 0 (by omega) (by omega)
  rw [show (decide (((if b = 0 then 0 else a.fmod b)) = ((0 : Int)))) = true from by rw [decide_eq_true_eq, if_pos hb0]] at hC
  refine stg hF rfl rfl (op_call hF rfl TfLD.body16 (args2 (hF.ev rfl) (hF.ev rfl)) hC ?_)
  clear hC
  rintro _ w36 ⟨rfl, hb37⟩
  refine gen_ ?_; clear hF fa; intro fa hF
  replace hS := hS.call hb37; have E38 := Ext.call (go3_10_1 :: (go3_9_1 :: (g5 :: (g1 :: X)))) hb37
  refine st_val hF rfl rfl rfl (ex_pick (hF.ev rfl) (fun _ => hF.ev rfl) (v := undef) (fun h => by cases h) rfl) ?_
  clear hF fa; intro fa hF
  refine st_val hF rfl rfl rfl (ex_assign (hF.ev rfl)) ?_
  clear hF fa; intro fa hF
  replace hF : Frm 82 fa [(0, (.agg (ic (A_a) (c_a) (a)))), (1, (.agg (ic (A_b) (c_b) (b)))), (2, (.pointer (some ⟨g1, 0, none⟩))), (3, (.pointer (some ⟨g5, 0, none⟩))), (4, (.bool (true))), (17, (.bool (false))), (7, (.int .i64 ((if b = 0 then 6 else 0)))), (5, (.pointer (some ⟨go3_9_1, 0, none⟩))), (6, (.pointer (some ⟨go3_10_1, 0, none⟩))), (30, (.bool (decide ((sgnI b) = 0))))] := (hF.take (hF.take (hF.take (hF.take (hF.take (hF.take (hF.take (hF.take (hF.take (hF.take hF.nil rfl) rfl) rfl) rfl) rfl) rfl) rfl) rfl) rfl) rfl)
  refine c_nil_then ?_
  refine c_ret ?_
  refine x_tr ?_
  refine end1 hF rfl (res_tmp hF rfl) ?_
  exact ⟨_, rfl, (congrArg Value.bool (by simp_all)), hS.below⟩
 have hc32p : ¬ ((sgnI b) = 0) := by first | simpa using hc32 | exact bang_t hc32 | exact bang_f hc32
 have hb0 : ¬ b = 0 := fun e => hc32p (sgnI_zero.2 e)
 refine c_skip ?_
 refine x_tn ?_
 refine c_seq ?_
 rcases Bool.eq_false_or_eq_true (decide ((sgnI ((if b = 0 then 0 else a.fmod b))) = 0)) with hk39 | hk39
 ·
  have hk39p := hk39; simp at hk39p
  refine drawn2 (N := 82) (L0 := [(0, (.agg (ic (A_a) (c_a) (a)))), (1, (.agg (ic (A_b) (c_b) (b)))), (2, (.pointer (some ⟨g1, 0, none⟩))), (3, (.pointer (some ⟨g5, 0, none⟩))), (4, (.bool (false))), (17, (.bool (false))), (7, (.int .i64 ((if b = 0 then 6 else 0)))), (5, (.pointer (some ⟨go3_9_1, 0, none⟩))), (6, (.pointer (some ⟨go3_10_1, 0, none⟩))), (30, (.bool (decide ((sgnI b) = 0))))]) [some (.agg (ic (Ao3_4_7) (co3_4_8) ((if b = 0 then 0 else a.fmod b)))), some (.int .i64 (sgnI ((if b = 0 then 0 else a.fmod b)))), some (.bool (true)), some (.bool (true)), some undef, some undef, some undef, some undef, some undef, some undef, some undef, some undef, some undef, some undef, some undef, some undef, some undef, some undef, some (.bool (true)), some (.bool (true))] [1] [[], [1]] [[0], [0], [1], [1], [0, 1], [0, 1], [0, 1], [0, 1], [0, 1], [0, 1], [0, 1], [0, 1], [0, 1], [0, 1], [0, 1], [0, 1], [0, 1], [0, 1], [0, 1], [1]] 1 [
        fun fa w' => Frm 82 fa [] ∧ St w w' [(go3_10_1, 24, (ic (Ao3_4_7) (co3_4_8) ((if b = 0 then 0 else a.fmod b)))), (go3_9_1, 24, (ic (Ao3_4_4) (co3_4_5) ((a.fdiv b)))), (g5, 24, (ic (A_b) (c_b) (b))), (g1, 24, (ic (A_a) (c_a) (a)))] ∧ Ext w29 (go3_10_1 :: (go3_9_1 :: (g5 :: (g1 :: X)))) w' (go3_10_1 :: (go3_9_1 :: (g5 :: (g1 :: X))))
        , fun fa w' => Frm 82 fa [(42, (.int .i64 (sgnI ((if b = 0 then 0 else a.fmod b)))))] ∧ St w w' [(go3_10_1, 24, (ic (Ao3_4_7) (co3_4_8) ((if b = 0 then 0 else a.fmod b)))), (go3_9_1, 24, (ic (Ao3_4_4) (co3_4_5) ((a.fdiv b)))), (g5, 24, (ic (A_b) (c_b) (b))), (g1, 24, (ic (A_a) (c_a) (a)))] ∧ Ext w29 (go3_10_1 :: (go3_9_1 :: (g5 :: (g1 :: X)))) w' (go3_10_1 :: (go3_9_1 :: (g5 :: (g1 :: X))))
      ] TfLD.mixed rfl rfl rfl rfl rfl rfl (hF.take (hF.take (hF.take (hF.take (hF.take (hF.take (hF.take (hF.take (hF.take (hF.take hF.nil rfl) rfl) rfl) rfl) rfl) rfl) rfl) rfl) rfl) rfl) rfl ⟨hF.nil, hS.drew, Ext.drew _ _⟩ ?_ ?_ ?_
  all_goals clear hF fa
  ·
   refine ⟨?_, ?_, trivial⟩
   ·
    rintro fa w' i o d v ho hd hna ⟨hA, hR⟩; exact ⟨hA.put_other v (freeOf_at (acts := [1]) rfl ho hd hna), hR⟩
   ·
    rintro fa w' i o d v ho hd hna ⟨hA, hR⟩; exact ⟨hA.put_other v (freeOf_at (acts := [1]) rfl ho hd hna), hR⟩
  ·
   refine ⟨?_, ?_, ?_, ?_, ?_, ?_, ?_, ?_, ?_, ?_, ?_, ?_, ?_, ?_, ?_, ?_, ?_, ?_, ?_, ?_, trivial⟩
   ·
    refine .inr (.inl ⟨rfl, _, _, rfl, rfl, ?_, trivial⟩)
    ·
     intro fa w' hΦ hF hB K hK
     obtain ⟨hA, hS, E_w'⟩ := hΦ
     exact fl_val rfl rfl rfl (ex_loadb TfLD.row24 (hF.ev rfl) (hS.get 0 rfl) rfl) hK
   ·
    refine .inr (.inr ⟨rfl, ?_, trivial⟩)
    ·
     intro fa w' hΦ hF hB
     obtain ⟨hA, hS, E_w'⟩ := hΦ
     replace hF := hF.cons (hB.val 0 _ 41 _ rfl rfl rfl rfl)
     refine wop rfl rfl ?_
     have hC := ref01_Sign_ok (w := w') (X := (go3_10_1 :: (go3_9_1 :: (g5 :: (g1 :: X))))) (a := (if b = 0 then 0 else a.fmod b)) (hS.bnd hX) (IntV.of_ (n := (lim ((if b = 0 then 0 else a.fmod b)).natAbs).length) (b := decide ((if b = 0 then 0 else a.fmod b) < 0)) (x := (if b = 0 then 0 else a.fmod b)) ((huo3_4_9.ext (E31.trans E_w'))) (rfl) (rfl) (rfl))
     refine op_call hF rfl TfLD.body15 (args1 (hF.ev rfl)) hC ?_
     clear hC
     rintro _ wo6_1_1 ⟨rfl, hbo6_1_2⟩
     clear hF; intro hF
     replace hS := hS.call hbo6_1_2; have Eo6_1_3 := Ext.call (go3_10_1 :: (go3_9_1 :: (g5 :: (g1 :: X)))) hbo6_1_2
     have hA1 := ((hA.put_other _ rfl).cons (hF.get 42 _ rfl))
     exact ⟨1, rfl, ⟨(hA1.take hA1.nil rfl), hS, (E_w'.trans Eo6_1_3)⟩, _, rfl, fun u hu => by cases hu <;> rfl⟩
   ·
    refine .inl ⟨rfl, _, _, rfl, rfl, fun s fa w' hΦ hF hB K hK => ?_⟩
    replace hF := hF.cons (hB.val 1 _ 42 _ rfl rfl rfl rfl)
    exact fl_val rfl rfl rfl (ex_b hk39 (ex_eql (hF.ev rfl) (hF.ev rfl))) hK
   ·
    refine .inl ⟨rfl, _, _, rfl, rfl, fun s fa w' hΦ hF hB K hK => ?_⟩
    replace hF := hF.cons (hB.val 2 _ 43 _ rfl rfl rfl rfl)
    exact fl_val rfl rfl rfl (ex_move (hF.ev rfl)) hK
   ·
    refine .inl ⟨rfl, _, _, rfl, rfl, fun s fa w' hΦ hF hB K hK => ?_⟩
    replace hF := hF.cons (hB.val 3 _ 44 _ rfl rfl rfl rfl)
    exact fl_skip hF rfl rfl rfl rfl rfl hK
   ·
    refine .inl ⟨rfl, _, _, rfl, rfl, fun s fa w' hΦ hF hB K hK => ?_⟩
    replace hF := hF.cons (hB.val 4 _ 45 _ rfl rfl rfl rfl)
    replace hF := hF.cons (hB.val 3 _ 44 _ rfl rfl rfl rfl)
    exact fl_skip hF rfl rfl rfl rfl rfl hK
   ·
    refine .inl ⟨rfl, _, _, rfl, rfl, fun s fa w' hΦ hF hB K hK => ?_⟩
    replace hF := hF.cons (hB.val 3 _ 44 _ rfl rfl rfl rfl)
    exact fl_skip hF rfl rfl rfl rfl rfl hK
   ·
    refine .inl ⟨rfl, _, _, rfl, rfl, fun s fa w' hΦ hF hB K hK => ?_⟩
    replace hF := hF.cons (hB.val 6 _ 47 _ rfl rfl rfl rfl)
    replace hF := hF.cons (hB.val 3 _ 44 _ rfl rfl rfl rfl)
    exact fl_skip hF rfl rfl rfl rfl rfl hK
   ·
    refine .inl ⟨rfl, _, _, rfl, rfl, fun s fa w' hΦ hF hB K hK => ?_⟩
    replace hF := hF.cons (hB.val 5 _ 46 _ rfl rfl rfl rfl)
    replace hF := hF.cons (hB.val 7 _ 48 _ rfl rfl rfl rfl)
    replace hF := hF.cons (hB.val 3 _ 44 _ rfl rfl rfl rfl)
    exact fl_skip hF rfl rfl rfl rfl rfl hK
   ·
    refine .inl ⟨rfl, _, _, rfl, rfl, fun s fa w' hΦ hF hB K hK => ?_⟩
    replace hF := hF.cons (hB.val 8 _ 49 _ rfl rfl rfl rfl)
    replace hF := hF.cons (hB.val 3 _ 44 _ rfl rfl rfl rfl)
    exact fl_skip hF rfl rfl rfl rfl rfl hK
   ·
    refine .inl ⟨rfl, _, _, rfl, rfl, fun s fa w' hΦ hF hB K hK => ?_⟩
    replace hF := hF.cons (hB.val 9 _ 50 _ rfl rfl rfl rfl)
    exact fl_skip_u hF rfl rfl rfl rfl hK
   ·
    refine .inl ⟨rfl, _, _, rfl, rfl, fun s fa w' hΦ hF hB K hK => ?_⟩
    replace hF := hF.cons (hB.val 9 _ 50 _ rfl rfl rfl rfl)
    exact fl_skip_u hF rfl rfl rfl rfl hK
   ·
    refine .inl ⟨rfl, _, _, rfl, rfl, fun s fa w' hΦ hF hB K hK => ?_⟩
    replace hF := hF.cons (hB.val 10 _ 51 _ rfl rfl rfl rfl)
    replace hF := hF.cons (hB.val 11 _ 52 _ rfl rfl rfl rfl)
    replace hF := hF.cons (hB.val 9 _ 50 _ rfl rfl rfl rfl)
    exact fl_skip_u hF rfl rfl rfl rfl hK
   ·
    refine .inl ⟨rfl, _, _, rfl, rfl, fun s fa w' hΦ hF hB K hK => ?_⟩
    replace hF := hF.cons (hB.val 9 _ 50 _ rfl rfl rfl rfl)
    exact fl_skip_u hF rfl rfl rfl rfl hK
   ·
    refine .inl ⟨rfl, _, _, rfl, rfl, fun s fa w' hΦ hF hB K hK => ?_⟩
    replace hF := hF.cons (hB.val 13 _ 54 _ rfl rfl rfl rfl)
    replace hF := hF.cons (hB.val 9 _ 50 _ rfl rfl rfl rfl)
    exact fl_skip_u hF rfl rfl rfl rfl hK
   ·
    refine .inl ⟨rfl, _, _, rfl, rfl, fun s fa w' hΦ hF hB K hK => ?_⟩
    replace hF := hF.cons (hB.val 14 _ 55 _ rfl rfl rfl rfl)
    replace hF := hF.cons (hB.val 9 _ 50 _ rfl rfl rfl rfl)
    exact fl_skip_u hF rfl rfl rfl rfl hK
   ·
    refine .inl ⟨rfl, _, _, rfl, rfl, fun s fa w' hΦ hF hB K hK => ?_⟩
    replace hF := hF.cons (hB.val 12 _ 53 _ rfl rfl rfl rfl)
    replace hF := hF.cons (hB.val 15 _ 56 _ rfl rfl rfl rfl)
    replace hF := hF.cons (hB.val 9 _ 50 _ rfl rfl rfl rfl)
    exact fl_skip_u hF rfl rfl rfl rfl hK
   ·
    refine .inl ⟨rfl, _, _, rfl, rfl, fun s fa w' hΦ hF hB K hK => ?_⟩
    replace hF := hF.cons (hB.val 9 _ 50 _ rfl rfl rfl rfl)
    replace hF := hF.cons (hB.val 16 _ 57 _ rfl rfl rfl rfl)
    replace hF := hF.cons (hB.val 3 _ 44 _ rfl rfl rfl rfl)
    exact fl_skip hF rfl rfl rfl rfl rfl hK
   ·
    refine .inl ⟨rfl, _, _, rfl, rfl, fun s fa w' hΦ hF hB K hK => ?_⟩
    replace hF := hF.cons (hB.val 3 _ 44 _ rfl rfl rfl rfl)
    replace hF := hF.cons (hB.val 17 _ 58 _ rfl rfl rfl rfl)
    exact fl_val rfl rfl rfl (ex_pick (hF.ev rfl) (fun _ => hF.ev rfl) (v := undef) (fun h => by cases h) rfl) hK
   ·
    refine .inl ⟨rfl, _, _, rfl, rfl, fun s fa w' hΦ hF hB K hK => ?_⟩
    replace hF := hF.cons (hB.val 18 _ 59 _ rfl rfl rfl rfl)
    exact fl_val rfl rfl rfl (ex_assign (hF.ev rfl)) hK
  intro fa w40 hΦ hF hC
  obtain ⟨hA, hS, E_w40⟩ := hΦ
  replace hF := hF.cons (hC 19 _ 8 _ rfl rfl rfl)
  clear hA hC
  refine x_tn ?_
  refine c_seq ?_
  refine drawn2 (N := 82) (L0 := [(0, (.agg (ic (A_a) (c_a) (a)))), (1, (.agg (ic (A_b) (c_b) (b)))), (2, (.pointer (some ⟨g1, 0, none⟩))), (3, (.pointer (some ⟨g5, 0, none⟩))), (17, (.bool (false))), (7, (.int .i64 ((if b = 0 then 6 else 0)))), (5, (.pointer (some ⟨go3_9_1, 0, none⟩))), (6, (.pointer (some ⟨go3_10_1, 0, none⟩))), (30, (.bool (decide ((sgnI b) = 0)))), (8, (.bool (true)))]) [some (.int .i64 ((if b = 0 then 6 else 0))), some (.bool (true)), some (.bool (true)), some (.agg (ic (Ao3_4_4) (co3_4_5) ((a.fdiv b)))), some (.bool (true)), some (.bool (true)), some (.bool (true)), some (.agg (ic (Ao3_4_7) (co3_4_8) ((if b = 0 then 0 else a.fmod b)))), some (.bool (true)), some (.bool (true)), some (.bool (true)), some (.bool (true)), some (.bool (true)), some (.bool (true)), some (.agg (ic (Ao3_4_4) (co3_4_5) ((a.fdiv b)))), some (.agg (ic (A_b) (c_b) (b))), none, some (.agg (ic (Ao3_4_7) (co3_4_8) ((if b = 0 then 0 else a.fmod b)))), none, some (.agg (ic (A_a) (c_a) (a))), some (.bool (true)), some (.bool (true)), some (.bool (true))] [4, 6, 8, 10, 13, 16, 18, 20] [[], [4], [4, 6], [4, 6, 8], [4, 6, 8, 10], [4, 6, 8, 10, 13], [4, 6, 8, 10, 13, 16], [4, 6, 8, 10, 13, 16, 18], [4, 6, 8, 10, 13, 16, 18, 20]] [[0, 1, 2, 3, 4, 5, 6, 7, 8], [0, 1, 2, 3, 4, 5, 6, 7, 8], [0], [0], [0], [1], [1], [2], [2], [3], [3], [4, 5, 6, 7, 8], [4], [4], [5], [5], [5], [5, 6], [6], [5, 6, 7], [7], [8], [8]] 8 [
        fun fa w' => Frm 82 fa [] ∧ St w w' [(go3_10_1, 24, (ic (Ao3_4_7) (co3_4_8) ((if b = 0 then 0 else a.fmod b)))), (go3_9_1, 24, (ic (Ao3_4_4) (co3_4_5) ((a.fdiv b)))), (g5, 24, (ic (A_b) (c_b) (b))), (g1, 24, (ic (A_a) (c_a) (a)))] ∧ Ext w40 (go3_10_1 :: (go3_9_1 :: (g5 :: (g1 :: X)))) w' (go3_10_1 :: (go3_9_1 :: (g5 :: (g1 :: X))))
        , fun fa w' => Frm 82 fa [(64, (.bool (true)))] ∧ St w w' [(go3_10_1, 24, (ic (Ao3_4_7) (co3_4_8) ((if b = 0 then 0 else a.fmod b)))), (go3_9_1, 24, (ic (Ao3_4_4) (co3_4_5) ((a.fdiv b)))), (g5, 24, (ic (A_b) (c_b) (b))), (g1, 24, (ic (A_a) (c_a) (a)))] ∧ Ext w40 (go3_10_1 :: (go3_9_1 :: (g5 :: (g1 :: X)))) w' (go3_10_1 :: (go3_9_1 :: (g5 :: (g1 :: X))))
        , fun fa w' => Frm 82 fa [(64, (.bool (true))), (66, (.bool (true)))] ∧ St w w' [(go3_10_1, 24, (ic (Ao3_4_7) (co3_4_8) ((if b = 0 then 0 else a.fmod b)))), (go3_9_1, 24, (ic (Ao3_4_4) (co3_4_5) ((a.fdiv b)))), (g5, 24, (ic (A_b) (c_b) (b))), (g1, 24, (ic (A_a) (c_a) (a)))] ∧ Ext w40 (go3_10_1 :: (go3_9_1 :: (g5 :: (g1 :: X)))) w' (go3_10_1 :: (go3_9_1 :: (g5 :: (g1 :: X))))
        , fun fa w' => Frm 82 fa [(64, (.bool (true))), (66, (.bool (true))), (68, (.bool (true)))] ∧ St w w' [(go3_10_1, 24, (ic (Ao3_4_7) (co3_4_8) ((if b = 0 then 0 else a.fmod b)))), (go3_9_1, 24, (ic (Ao3_4_4) (co3_4_5) ((a.fdiv b)))), (g5, 24, (ic (A_b) (c_b) (b))), (g1, 24, (ic (A_a) (c_a) (a)))] ∧ Ext w40 (go3_10_1 :: (go3_9_1 :: (g5 :: (g1 :: X)))) w' (go3_10_1 :: (go3_9_1 :: (g5 :: (g1 :: X))))
        , fun fa w' => Frm 82 fa [(64, (.bool (true))), (66, (.bool (true))), (68, (.bool (true))), (70, (.bool (true)))] ∧ St w w' [(go3_10_1, 24, (ic (Ao3_4_7) (co3_4_8) ((if b = 0 then 0 else a.fmod b)))), (go3_9_1, 24, (ic (Ao3_4_4) (co3_4_5) ((a.fdiv b)))), (g5, 24, (ic (A_b) (c_b) (b))), (g1, 24, (ic (A_a) (c_a) (a)))] ∧ Ext w40 (go3_10_1 :: (go3_9_1 :: (g5 :: (g1 :: X)))) w' (go3_10_1 :: (go3_9_1 :: (g5 :: (g1 :: X))))
        , fun fa w' => Frm 82 fa [(64, (.bool (true))), (66, (.bool (true))), (68, (.bool (true))), (70, (.bool (true))), (73, (.bool (true)))] ∧ St w w' [(go3_10_1, 24, (ic (Ao3_4_7) (co3_4_8) ((if b = 0 then 0 else a.fmod b)))), (go3_9_1, 24, (ic (Ao3_4_4) (co3_4_5) ((a.fdiv b)))), (g5, 24, (ic (A_b) (c_b) (b))), (g1, 24, (ic (A_a) (c_a) (a)))] ∧ Ext w40 (go3_10_1 :: (go3_9_1 :: (g5 :: (g1 :: X)))) w' (go3_10_1 :: (go3_9_1 :: (g5 :: (g1 :: X))))
        , fun fa w' => ∃ Ao7_16_4 : Option Addr, ∃ co7_16_5 : Nat, Frm 82 fa [(64, (.bool (true))), (66, (.bool (true))), (68, (.bool (true))), (70, (.bool (true))), (73, (.bool (true))), (76, (.agg (ic (Ao7_16_4) (co7_16_5) (((a.fdiv b) * b)))))] ∧ St w w' [(go3_10_1, 24, (ic (Ao3_4_7) (co3_4_8) ((if b = 0 then 0 else a.fmod b)))), (go3_9_1, 24, (ic (Ao3_4_4) (co3_4_5) ((a.fdiv b)))), (g5, 24, (ic (A_b) (c_b) (b))), (g1, 24, (ic (A_a) (c_a) (a)))] ∧ Ext w40 (go3_10_1 :: (go3_9_1 :: (g5 :: (g1 :: X)))) w' (go3_10_1 :: (go3_9_1 :: (g5 :: (g1 :: X)))) ∧ UC w' (go3_10_1 :: (go3_9_1 :: (g5 :: (g1 :: X)))) Ao7_16_4 co7_16_5 (lim ((a.fdiv b) * b).natAbs)
        , fun fa w' => ∃ Ao7_16_4 : Option Addr, ∃ co7_16_5 : Nat, ∃ Ao7_18_4 : Option Addr, ∃ co7_18_5 : Nat, Frm 82 fa [(64, (.bool (true))), (66, (.bool (true))), (68, (.bool (true))), (70, (.bool (true))), (73, (.bool (true))), (76, (.agg (ic (Ao7_16_4) (co7_16_5) (((a.fdiv b) * b))))), (78, (.agg (ic (Ao7_18_4) (co7_18_5) ((((a.fdiv b) * b) + ((if b = 0 then 0 else a.fmod b)))))))] ∧ St w w' [(go3_10_1, 24, (ic (Ao3_4_7) (co3_4_8) ((if b = 0 then 0 else a.fmod b)))), (go3_9_1, 24, (ic (Ao3_4_4) (co3_4_5) ((a.fdiv b)))), (g5, 24, (ic (A_b) (c_b) (b))), (g1, 24, (ic (A_a) (c_a) (a)))] ∧ Ext w40 (go3_10_1 :: (go3_9_1 :: (g5 :: (g1 :: X)))) w' (go3_10_1 :: (go3_9_1 :: (g5 :: (g1 :: X)))) ∧ UC w' (go3_10_1 :: (go3_9_1 :: (g5 :: (g1 :: X)))) Ao7_16_4 co7_16_5 (lim ((a.fdiv b) * b).natAbs) ∧ UC w' (go3_10_1 :: (go3_9_1 :: (g5 :: (g1 :: X)))) Ao7_18_4 co7_18_5 (lim (((a.fdiv b) * b) + ((if b = 0 then 0 else a.fmod b))).natAbs)
        , fun fa w' => ∃ Ao7_16_4 : Option Addr, ∃ co7_16_5 : Nat, ∃ Ao7_18_4 : Option Addr, ∃ co7_18_5 : Nat, Frm 82 fa [(64, (.bool (true))), (66, (.bool (true))), (68, (.bool (true))), (70, (.bool (true))), (73, (.bool (true))), (76, (.agg (ic (Ao7_16_4) (co7_16_5) (((a.fdiv b) * b))))), (78, (.agg (ic (Ao7_18_4) (co7_18_5) ((((a.fdiv b) * b) + ((if b = 0 then 0 else a.fmod b))))))), (80, (.bool (true)))] ∧ St w w' [(go3_10_1, 24, (ic (Ao3_4_7) (co3_4_8) ((if b = 0 then 0 else a.fmod b)))), (go3_9_1, 24, (ic (Ao3_4_4) (co3_4_5) ((a.fdiv b)))), (g5, 24, (ic (A_b) (c_b) (b))), (g1, 24, (ic (A_a) (c_a) (a)))] ∧ Ext w40 (go3_10_1 :: (go3_9_1 :: (g5 :: (g1 :: X)))) w' (go3_10_1 :: (go3_9_1 :: (g5 :: (g1 :: X)))) ∧ UC w' (go3_10_1 :: (go3_9_1 :: (g5 :: (g1 :: X)))) Ao7_16_4 co7_16_5 (lim ((a.fdiv b) * b).natAbs) ∧ UC w' (go3_10_1 :: (go3_9_1 :: (g5 :: (g1 :: X)))) Ao7_18_4 co7_18_5 (lim (((a.fdiv b) * b) + ((if b = 0 then 0 else a.fmod b))).natAbs)
      ] TfLD.mixed rfl rfl rfl rfl rfl rfl (hF.take (hF.take (hF.take (hF.take (hF.take (hF.take (hF.take (hF.take (hF.take (hF.take hF.nil rfl) rfl) rfl) rfl) rfl) rfl) rfl) rfl) rfl) rfl) rfl ⟨hF.nil, hS.drew, Ext.drew _ _⟩ ?_ ?_ ?_
  all_goals clear hF fa
  ·
   refine ⟨?_, ?_, ?_, ?_, ?_, ?_, ?_, ?_, ?_, trivial⟩
   ·
    rintro fa w' i o d v ho hd hna ⟨hA, hR⟩; exact ⟨hA.put_other v (freeOf_at (acts := [4, 6, 8, 10, 13, 16, 18, 20]) rfl ho hd hna), hR⟩
   ·
    rintro fa w' i o d v ho hd hna ⟨hA, hR⟩; exact ⟨hA.put_other v (freeOf_at (acts := [4, 6, 8, 10, 13, 16, 18, 20]) rfl ho hd hna), hR⟩
   ·
    rintro fa w' i o d v ho hd hna ⟨hA, hR⟩; exact ⟨hA.put_other v (freeOf_at (acts := [4, 6, 8, 10, 13, 16, 18, 20]) rfl ho hd hna), hR⟩
   ·
    rintro fa w' i o d v ho hd hna ⟨hA, hR⟩; exact ⟨hA.put_other v (freeOf_at (acts := [4, 6, 8, 10, 13, 16, 18, 20]) rfl ho hd hna), hR⟩
   ·
    rintro fa w' i o d v ho hd hna ⟨hA, hR⟩; exact ⟨hA.put_other v (freeOf_at (acts := [4, 6, 8, 10, 13, 16, 18, 20]) rfl ho hd hna), hR⟩
   ·
    rintro fa w' i o d v ho hd hna ⟨hA, hR⟩; exact ⟨hA.put_other v (freeOf_at (acts := [4, 6, 8, 10, 13, 16, 18, 20]) rfl ho hd hna), hR⟩
   ·
    rintro fa w' i o d v ho hd hna ⟨Ao7_16_4, co7_16_5, hA, hR⟩; exact ⟨Ao7_16_4, co7_16_5, hA.put_other v (freeOf_at (acts := [4, 6, 8, 10, 13, 16, 18, 20]) rfl ho hd hna), hR⟩
   ·
    rintro fa w' i o d v ho hd hna ⟨Ao7_16_4, co7_16_5, Ao7_18_4, co7_18_5, hA, hR⟩; exact ⟨Ao7_16_4, co7_16_5, Ao7_18_4, co7_18_5, hA.put_other v (freeOf_at (acts := [4, 6, 8, 10, 13, 16, 18, 20]) rfl ho hd hna), hR⟩
   ·
    rintro fa w' i o d v ho hd hna ⟨Ao7_16_4, co7_16_5, Ao7_18_4, co7_18_5, hA, hR⟩; exact ⟨Ao7_16_4, co7_16_5, Ao7_18_4, co7_18_5, hA.put_other v (freeOf_at (acts := [4, 6, 8, 10, 13, 16, 18, 20]) rfl ho hd hna), hR⟩
  ·
   refine ⟨?_, ?_, ?_, ?_, ?_, ?_, ?_, ?_, ?_, ?_, ?_, ?_, ?_, ?_, ?_, ?_, ?_, ?_, ?_, ?_, ?_, ?_, ?_, trivial⟩
   ·
    refine .inl ⟨rfl, _, _, rfl, rfl, fun s fa w' hΦ hF hB K hK => ?_⟩
    exact fl_val rfl rfl rfl (ex_move (hF.ev rfl)) hK
   ·
    refine .inl ⟨rfl, _, _, rfl, rfl, fun s fa w' hΦ hF hB K hK => ?_⟩
    replace hF := hF.cons (hB.val 0 _ 60 _ rfl rfl rfl rfl)
    exact fl_val rfl rfl rfl (ex_b (t := decide ((if b = 0 then 6 else 0) = 0)) (b := true) (by rw [decide_eq_true_eq, if_neg hb0]) (ex_eql (hF.ev rfl) (hF.ev rfl))) hK
   ·
    refine .inl ⟨rfl, _, _, rfl, rfl, fun s fa w' hΦ hF hB K hK => ?_⟩
    replace hF := hF.cons (hB.val 1 _ 61 _ rfl rfl rfl rfl)
    exact fl_val rfl rfl rfl (ex_move (hF.ev rfl)) hK
   ·
    refine .inr (.inl ⟨rfl, _, _, rfl, rfl, ?_, trivial⟩)
    ·
     intro fa w' hΦ hF hB K hK
     obtain ⟨hA, hS, E_w'⟩ := hΦ
     replace hF := hF.cons (hB.val 2 _ 62 _ rfl rfl rfl rfl)
     exact fl_valg hF rfl rfl rfl rfl (ex_loadb TfLD.row24 (hF.ev rfl) (hS.get 1 rfl) rfl) hK
   ·
    refine .inr (.inr ⟨rfl, ?_, trivial⟩)
    ·
     intro fa w' hΦ hF hB
     obtain ⟨hA, hS, E_w'⟩ := hΦ
     replace hF := hF.cons (hB.val 3 _ 63 _ rfl rfl rfl rfl)
     replace hF := hF.cons (hB.val 2 _ 62 _ rfl rfl rfl rfl)
     refine wopg hF rfl rfl rfl ?_
     have hC := ref01_Valid_ok (w := w') (X := (go3_10_1 :: (go3_9_1 :: (g5 :: (g1 :: X))))) (ng := (decide ((a.fdiv b) < 0))) (l := (lim (a.fdiv b).natAbs)) (hS.bnd hX) ⟨_, rfl, _, _, rfl, (huo3_4_6.ext ((E31.trans E_w40).trans E_w'))⟩
     rw [show (validL (decide ((a.fdiv b) < 0)) ((lim (a.fdiv b).natAbs))) = true from validL_lim _] at hC
     refine op_call hF rfl TfLD.body18 (args1 (hF.ev rfl)) hC ?_
     clear hC
     rintro _ wo7_4_1 ⟨rfl, hbo7_4_2⟩
     clear hF; intro hF
     replace hS := hS.call hbo7_4_2; have Eo7_4_3 := Ext.call (go3_10_1 :: (go3_9_1 :: (g5 :: (g1 :: X)))) hbo7_4_2
     have hA1 := ((hA.put_other _ rfl).cons (hF.get 64 _ rfl))
     exact ⟨1, rfl, ⟨(hA1.take hA1.nil rfl), hS, (E_w'.trans Eo7_4_3)⟩, _, rfl, fun u hu => by cases hu <;> rfl⟩
   ·
    refine .inl ⟨rfl, _, _, rfl, rfl, fun s fa w' hΦ hF hB K hK => ?_⟩
    replace hF := hF.cons (hB.val 2 _ 62 _ rfl rfl rfl rfl)
    replace hF := hF.cons (hB.val 4 _ 64 _ rfl rfl rfl rfl)
    exact fl_val rfl rfl rfl (ex_pick (hF.ev rfl) (fun _ => hF.ev rfl) (v := undef) (fun h => by cases h) rfl) hK
   ·
    refine .inr (.inr ⟨rfl, ?_, trivial⟩)
    ·
     intro fa w' hΦ hF hB
     obtain ⟨hA, hS, E_w'⟩ := hΦ
     replace hF := hF.cons (hB.val 5 _ 65 _ rfl rfl rfl rfl)
     refine wop rfl rfl ?_
     refine op_val hF rfl rfl (ex_move (hF.ev rfl)) ?_; clear hF; intro hF
     have hA1 := ((hA.put_other _ rfl).cons (hF.get 66 _ rfl))
     exact ⟨2, rfl, ⟨(hA1.take (hA1.take hA1.nil rfl) rfl), hS, E_w'⟩, _, rfl, fun u hu => by cases hu <;> rfl⟩
   ·
    refine .inr (.inl ⟨rfl, _, _, rfl, rfl, ?_, trivial⟩)
    ·
     intro fa w' hΦ hF hB K hK
     obtain ⟨hA, hS, E_w'⟩ := hΦ
     replace hF := hF.cons (hB.val 6 _ 66 _ rfl rfl rfl rfl)
     exact fl_valg hF rfl rfl rfl rfl (ex_loadb TfLD.row24 (hF.ev rfl) (hS.get 0 rfl) rfl) hK
   ·
    refine .inr (.inr ⟨rfl, ?_, trivial⟩)
    ·
     intro fa w' hΦ hF hB
     obtain ⟨hA, hS, E_w'⟩ := hΦ
     replace hF := hF.cons (hB.val 7 _ 67 _ rfl rfl rfl rfl)
     replace hF := hF.cons (hB.val 6 _ 66 _ rfl rfl rfl rfl)
     refine wopg hF rfl rfl rfl ?_
     have hC := ref01_Valid_ok (w := w') (X := (go3_10_1 :: (go3_9_1 :: (g5 :: (g1 :: X))))) (ng := (decide ((if b = 0 then 0 else a.fmod b) < 0))) (l := (lim ((if b = 0 then 0 else a.fmod b)).natAbs)) (hS.bnd hX) ⟨_, rfl, _, _, rfl, (huo3_4_9.ext ((E31.trans E_w40).trans E_w'))⟩
     rw [show (validL (decide ((if b = 0 then 0 else a.fmod b) < 0)) ((lim ((if b = 0 then 0 else a.fmod b)).natAbs))) = true from validL_lim _] at hC
     refine op_call hF rfl TfLD.body18 (args1 (hF.ev rfl)) hC ?_
     clear hC
     rintro _ wo7_8_1 ⟨rfl, hbo7_8_2⟩
     clear hF; intro hF
     replace hS := hS.call hbo7_8_2; have Eo7_8_3 := Ext.call (go3_10_1 :: (go3_9_1 :: (g5 :: (g1 :: X)))) hbo7_8_2
     have hA1 := ((hA.put_other _ rfl).cons (hF.get 68 _ rfl))
     exact ⟨3, rfl, ⟨(hA1.take (hA1.take (hA1.take hA1.nil rfl) rfl) rfl), hS, (E_w'.trans Eo7_8_3)⟩, _, rfl, fun u hu => by cases hu <;> rfl⟩
   ·
    refine .inl ⟨rfl, _, _, rfl, rfl, fun s fa w' hΦ hF hB K hK => ?_⟩
    replace hF := hF.cons (hB.val 6 _ 66 _ rfl rfl rfl rfl)
    replace hF := hF.cons (hB.val 8 _ 68 _ rfl rfl rfl rfl)
    exact fl_val rfl rfl rfl (ex_pick (hF.ev rfl) (fun _ => hF.ev rfl) (v := undef) (fun h => by cases h) rfl) hK
   ·
    refine .inr (.inr ⟨rfl, ?_, trivial⟩)
    ·
     intro fa w' hΦ hF hB
     obtain ⟨hA, hS, E_w'⟩ := hΦ
     replace hF := hF.cons (hB.val 9 _ 69 _ rfl rfl rfl rfl)
     refine wop rfl rfl ?_
     refine op_val hF rfl rfl (ex_move (hF.ev rfl)) ?_; clear hF; intro hF
     have hA1 := ((hA.put_other _ rfl).cons (hF.get 70 _ rfl))
     exact ⟨4, rfl, ⟨(hA1.take (hA1.take (hA1.take (hA1.take hA1.nil rfl) rfl) rfl) rfl), hS, E_w'⟩, _, rfl, fun u hu => by cases hu <;> rfl⟩
   ·
    refine .inl ⟨rfl, _, _, rfl, rfl, fun s fa w' hΦ hF hB K hK => ?_⟩
    replace hF := hF.cons (hB.val 10 _ 70 _ rfl rfl rfl rfl)
    exact fl_valg hF rfl rfl rfl rfl (ex_move (hF.ev rfl)) hK
   ·
    refine .inl ⟨rfl, _, _, rfl, rfl, fun s fa w' hΦ hF hB K hK => ?_⟩
    replace hF := hF.cons (hB.val 10 _ 70 _ rfl rfl rfl rfl)
    replace hF := hF.cons (hB.val 11 _ 71 _ rfl rfl rfl rfl)
    exact fl_val rfl rfl rfl (ex_pick (hF.ev rfl) (fun _ => hF.ev rfl) (v := undef) (fun h => by cases h) rfl) hK
   ·
    refine .inr (.inr ⟨rfl, ?_, trivial⟩)
    ·
     intro fa w' hΦ hF hB
     obtain ⟨hA, hS, E_w'⟩ := hΦ
     replace hF := hF.cons (hB.val 12 _ 72 _ rfl rfl rfl rfl)
     refine wop rfl rfl ?_
     refine op_val hF rfl rfl (ex_move (hF.ev rfl)) ?_; clear hF; intro hF
     have hA1 := ((hA.put_other _ rfl).cons (hF.get 73 _ rfl))
     exact ⟨5, rfl, ⟨(hA1.take (hA1.take (hA1.take (hA1.take (hA1.take hA1.nil rfl) rfl) rfl) rfl) rfl), hS, E_w'⟩, _, rfl, fun u hu => by cases hu <;> rfl⟩
   ·
    refine .inr (.inl ⟨rfl, _, _, rfl, rfl, ?_, trivial⟩)
    ·
     intro fa w' hΦ hF hB K hK
     obtain ⟨hA, hS, E_w'⟩ := hΦ
     replace hF := hF.cons (hB.val 13 _ 73 _ rfl rfl rfl rfl)
     exact fl_valg hF rfl rfl rfl rfl (ex_loadb TfLD.row24 (hF.ev rfl) (hS.get 1 rfl) rfl) hK
   ·
    refine .inr (.inl ⟨rfl, _, _, rfl, rfl, ?_, trivial⟩)
    ·
     intro fa w' hΦ hF hB K hK
     obtain ⟨hA, hS, E_w'⟩ := hΦ
     replace hF := hF.cons (hB.val 13 _ 73 _ rfl rfl rfl rfl)
     exact fl_valg hF rfl rfl rfl rfl (ex_loadb TfLD.row24 (hF.ev rfl) (hS.get 2 rfl) rfl) hK
   ·
    refine .inr (.inr ⟨rfl, ?_, trivial⟩)
    ·
     intro fa w' hΦ hF hB
     obtain ⟨hA, hS, E_w'⟩ := hΦ
     replace hF := hF.cons (hB.val 14 _ 74 _ rfl rfl rfl rfl)
     replace hF := hF.cons (hB.val 15 _ 75 _ rfl rfl rfl rfl)
     replace hF := hF.cons (hB.val 13 _ 73 _ rfl rfl rfl rfl)
     refine wopg hF rfl rfl rfl ?_
     have hC := ref01_Mul_ok (w := w') (X := (go3_10_1 :: (go3_9_1 :: (g5 :: (g1 :: X))))) (a := (a.fdiv b)) (b := b) (hS.bnd hX) (IntV.of_ (n := (lim (a.fdiv b).natAbs).length) (b := decide ((a.fdiv b) < 0)) (x := a.fdiv b) ((huo3_4_6.ext ((E31.trans E_w40).trans E_w'))) (rfl) (rfl) (rfl)) (IntV.of_ (n := (lim b.natAbs).length) (b := decide (b < 0)) (x := b) ((hu_b.ext ((((((((E3.trans E7).trans E11).trans E14).trans E19).trans E_w28).trans E31).trans E_w40).trans E_w'))) (rfl) (rfl) (rfl)) (by have h1 := sz_fdiv (a := a) hb0; have h2 := sz_fmod (a := a) hb0; have h3 := sz_mul (a.fdiv b) b; (try simp only [if_neg hb0]); omega) (by have h1 := sz_fdiv (a := a) hb0; have h2 := sz_fmod (a := a) hb0; have h3 := sz_mul (a.fdiv b) b; (try simp only [if_neg hb0]); omega)
     refine op_call hF rfl TfLD.body21 (args2 (hF.ev rfl) (hF.ev rfl)) hC ?_
     clear hC
     rintro _ wo7_16_1 ⟨⟨_, rfl, Ao7_16_4, co7_16_5, rfl, huo7_16_6⟩, hbo7_16_2⟩
     clear hF; intro hF
     replace hS := hS.call hbo7_16_2; have Eo7_16_3 := Ext.call (go3_10_1 :: (go3_9_1 :: (g5 :: (g1 :: X)))) hbo7_16_2
     have hA1 := ((hA.put_other _ rfl).cons (hF.get 76 _ rfl))
     exact ⟨6, rfl, ⟨Ao7_16_4, co7_16_5, (hA1.take (hA1.take (hA1.take (hA1.take (hA1.take (hA1.take hA1.nil rfl) rfl) rfl) rfl) rfl) rfl), hS, (E_w'.trans Eo7_16_3), huo7_16_6⟩, _, rfl, fun u hu => by cases hu <;> rfl⟩
   ·
    refine .inr (.inl ⟨rfl, _, _, rfl, rfl, ?_, ?_, trivial⟩)
    ·
     intro fa w' hΦ hF hB K hK
     obtain ⟨hA, hS, E_w'⟩ := hΦ
     replace hF := hF.cons (hB.val 13 _ 73 _ rfl rfl rfl rfl)
     exact fl_valg hF rfl rfl rfl rfl (ex_loadb TfLD.row24 (hF.ev rfl) (hS.get 0 rfl) rfl) hK
    ·
     intro fa w' hΦ hF hB K hK
     obtain ⟨Ao7_16_4, co7_16_5, hA, hS, E_w', huo7_16_6⟩ := hΦ
     replace hF := hF.cons (hB.val 13 _ 73 _ rfl rfl rfl rfl)
     exact fl_valg hF rfl rfl rfl rfl (ex_loadb TfLD.row24 (hF.ev rfl) (hS.get 0 rfl) rfl) hK
   ·
    refine .inr (.inr ⟨rfl, ?_, trivial⟩)
    ·
     intro fa w' hΦ hF hB
     obtain ⟨Ao7_16_4, co7_16_5, hA, hS, E_w', huo7_16_6⟩ := hΦ
     replace hF := hF.cons (hA.get 76 _ rfl)
     replace hF := hF.cons (hB.val 17 _ 77 _ rfl rfl rfl rfl)
     replace hF := hF.cons (hB.val 13 _ 73 _ rfl rfl rfl rfl)
     refine wopg hF rfl rfl rfl ?_
     have hC := ref01_Add_ok (w := w') (X := (go3_10_1 :: (go3_9_1 :: (g5 :: (g1 :: X))))) (a := ((a.fdiv b) * b)) (b := (if b = 0 then 0 else a.fmod b)) (hS.bnd hX) (IntV.of_ (n := (lim ((a.fdiv b) * b).natAbs).length) (b := decide (((a.fdiv b) * b) < 0)) (x := (a.fdiv b) * b) (huo7_16_6) (rfl) (rfl) (rfl)) (IntV.of_ (n := (lim ((if b = 0 then 0 else a.fmod b)).natAbs).length) (b := decide ((if b = 0 then 0 else a.fmod b) < 0)) (x := (if b = 0 then 0 else a.fmod b)) ((huo3_4_9.ext ((E31.trans E_w40).trans E_w'))) (rfl) (rfl) (rfl)) (by have h1 := sz_fdiv (a := a) hb0; have h2 := sz_fmod (a := a) hb0; have h3 := sz_mul (a.fdiv b) b; (try simp only [if_neg hb0]); omega) (by have h1 := sz_fdiv (a := a) hb0; have h2 := sz_fmod (a := a) hb0; have h3 := sz_mul (a.fdiv b) b; (try simp only [if_neg hb0]); omega)
     refine op_call hF rfl TfLD.body20 (args2 (hF.ev rfl) (hF.ev rfl)) hC ?_
     clear hC
     rintro _ wo7_18_1 ⟨⟨_, rfl, Ao7_18_4, co7_18_5, rfl, huo7_18_6⟩, hbo7_18_2⟩
     clear hF; intro hF
     replace hS := hS.call hbo7_18_2; have Eo7_18_3 := Ext.call (go3_10_1 :: (go3_9_1 :: (g5 :: (g1 :: X)))) hbo7_18_2
     have hA1 := ((hA.put_other _ rfl).cons (hF.get 78 _ rfl))
     exact ⟨7, rfl, ⟨Ao7_16_4, co7_16_5, Ao7_18_4, co7_18_5, (hA1.take (hA1.take (hA1.take (hA1.take (hA1.take (hA1.take (hA1.take hA1.nil rfl) rfl) rfl) rfl) rfl) rfl) rfl), hS, (E_w'.trans Eo7_18_3), (huo7_16_6.ext Eo7_18_3), huo7_18_6⟩, _, rfl, fun u hu => by cases hu <;> rfl⟩
   ·
    refine .inr (.inl ⟨rfl, _, _, rfl, rfl, ?_, ?_, ?_, trivial⟩)
    ·
     intro fa w' hΦ hF hB K hK
     obtain ⟨hA, hS, E_w'⟩ := hΦ
     replace hF := hF.cons (hB.val 13 _ 73 _ rfl rfl rfl rfl)
     exact fl_valg hF rfl rfl rfl rfl (ex_loadb TfLD.row24 (hF.ev rfl) (hS.get 3 rfl) rfl) hK
    ·
     intro fa w' hΦ hF hB K hK
     obtain ⟨Ao7_16_4, co7_16_5, hA, hS, E_w', huo7_16_6⟩ := hΦ
     replace hF := hF.cons (hB.val 13 _ 73 _ rfl rfl rfl rfl)
     exact fl_valg hF rfl rfl rfl rfl (ex_loadb TfLD.row24 (hF.ev rfl) (hS.get 3 rfl) rfl) hK
    ·
     intro fa w' hΦ hF hB K hK
     obtain ⟨Ao7_16_4, co7_16_5, Ao7_18_4, co7_18_5, hA, hS, E_w', huo7_16_6, huo7_18_6⟩ := hΦ
     replace hF := hF.cons (hB.val 13 _ 73 _ rfl rfl rfl rfl)
     exact fl_valg hF rfl rfl rfl rfl (ex_loadb TfLD.row24 (hF.ev rfl) (hS.get 3 rfl) rfl) hK
   ·
    refine .inr (.inr ⟨rfl, ?_, trivial⟩)
    ·
     intro fa w' hΦ hF hB
     obtain ⟨Ao7_16_4, co7_16_5, Ao7_18_4, co7_18_5, hA, hS, E_w', huo7_16_6, huo7_18_6⟩ := hΦ
     replace hF := hF.cons (hA.get 78 _ rfl)
     replace hF := hF.cons (hB.val 19 _ 79 _ rfl rfl rfl rfl)
     replace hF := hF.cons (hB.val 13 _ 73 _ rfl rfl rfl rfl)
     refine wopg hF rfl rfl rfl ?_
     have hC := law01_same_ok (w := w') (X := (go3_10_1 :: (go3_9_1 :: (g5 :: (g1 :: X))))) (a := (((a.fdiv b) * b) + ((if b = 0 then 0 else a.fmod b)))) (b := a) (hS.bnd hX) (IntV.of_ (n := (lim (((a.fdiv b) * b) + ((if b = 0 then 0 else a.fmod b))).natAbs).length) (b := decide ((((a.fdiv b) * b) + ((if b = 0 then 0 else a.fmod b))) < 0)) (x := ((a.fdiv b) * b) + ((if b = 0 then 0 else a.fmod b))) (huo7_18_6) (rfl) (rfl) (rfl)) (IntV.of_ (n := (lim a.natAbs).length) (b := decide (a < 0)) (x := a) ((hu_a.ext ((((((((E3.trans E7).trans E11).trans E14).trans E19).trans E_w28).trans E31).trans E_w40).trans E_w'))) (rfl) (rfl) (rfl))
     rw [show (decide ((((a.fdiv b) * b) + ((if b = 0 then 0 else a.fmod b))) = a)) = true from by rw [decide_eq_true_eq, if_neg hb0]; exact fdm_add hb0] at hC
     refine op_call hF rfl TfLD.body19 (args2 (hF.ev rfl) (hF.ev rfl)) hC ?_
     clear hC
     rintro _ wo7_20_1 ⟨rfl, hbo7_20_2⟩
     clear hF; intro hF
     replace hS := hS.call hbo7_20_2; have Eo7_20_3 := Ext.call (go3_10_1 :: (go3_9_1 :: (g5 :: (g1 :: X)))) hbo7_20_2
     have hA1 := ((hA.put_other _ rfl).cons (hF.get 80 _ rfl))
     exact ⟨8, rfl, ⟨Ao7_16_4, co7_16_5, Ao7_18_4, co7_18_5, (hA1.take (hA1.take (hA1.take (hA1.take (hA1.take (hA1.take (hA1.take (hA1.take hA1.nil rfl) rfl) rfl) rfl) rfl) rfl) rfl) rfl), hS, (E_w'.trans Eo7_20_3), (huo7_16_6.ext Eo7_20_3), (huo7_18_6.ext Eo7_20_3)⟩, _, rfl, fun u hu => by cases hu <;> rfl⟩
   ·
    refine .inl ⟨rfl, _, _, rfl, rfl, fun s fa w' hΦ hF hB K hK => ?_⟩
    replace hF := hF.cons (hB.val 13 _ 73 _ rfl rfl rfl rfl)
    replace hF := hF.cons (hB.val 20 _ 80 _ rfl rfl rfl rfl)
    exact fl_val rfl rfl rfl (ex_pick (hF.ev rfl) (fun _ => hF.ev rfl) (v := undef) (fun h => by cases h) rfl) hK
   ·
    refine .inl ⟨rfl, _, _, rfl, rfl, fun s fa w' hΦ hF hB K hK => ?_⟩
    replace hF := hF.cons (hB.val 21 _ 81 _ rfl rfl rfl rfl)
    exact fl_val rfl rfl rfl (ex_assign (hF.ev rfl)) hK
  intro fa w41 hΦ hF hC
  obtain ⟨Ao7_16_4, co7_16_5, Ao7_18_4, co7_18_5, hA, hS, E_w41, huo7_16_6, huo7_18_6⟩ := hΦ
  replace hF := hF.cons (hC 22 _ 4 _ rfl rfl rfl)
  clear hA hC
  refine x_tn ?_
  refine c_ret ?_
  refine end1 hF rfl (res_tmp hF rfl) ?_
  exact ⟨_, rfl, (congrArg Value.bool (by simp_all)), hS.below⟩
 have hk39p := hk39; simp at hk39p
 have hr0 := of_decide_eq_false hk39
 rw [if_neg hb0] at hr0
 have hfs := fmod_sign hb0 hr0
 refine drawn2 (N := 82) (L0 := [(0, (.agg (ic (A_a) (c_a) (a)))), (1, (.agg (ic (A_b) (c_b) (b)))), (2, (.pointer (some ⟨g1, 0, none⟩))), (3, (.pointer (some ⟨g5, 0, none⟩))), (4, (.bool (false))), (17, (.bool (false))), (7, (.int .i64 ((if b = 0 then 6 else 0)))), (5, (.pointer (some ⟨go3_9_1, 0, none⟩))), (6, (.pointer (some ⟨go3_10_1, 0, none⟩))), (30, (.bool (decide ((sgnI b) = 0))))]) [some (.agg (ic (Ao3_4_7) (co3_4_8) ((if b = 0 then 0 else a.fmod b)))), some (.int .i64 (sgnI ((if b = 0 then 0 else a.fmod b)))), some (.bool (false)), some (.bool (false)), some (.agg (ic (Ao3_4_7) (co3_4_8) ((if b = 0 then 0 else a.fmod b)))), some (.int .i64 (sgnI ((if b = 0 then 0 else a.fmod b)))), some (.agg (ic (A_b) (c_b) (b))), some (.int .i64 (sgnI b)), some (.bool (true)), some (.bool (true)), some (.agg (ic (Ao3_4_7) (co3_4_8) ((if b = 0 then 0 else a.fmod b)))), some (.agg (ic (A_b) (c_b) (b))), some (.int .i64 (cmpI ((if b = 0 then 0 else a.fmod b)) b)), some (.agg (ic (A_b) (c_b) (b))), some (.int .i64 (sgnI b)), some (.int .i64 (0 - (sgnI b))), some (.bool (true)), some (.bool (true)), some (.bool (true)), some (.bool (true))] [1, 3, 5, 7, 9, 12, 14] [[], [1], [1, 3], [1, 3, 5], [1, 3, 5, 7], [1, 3, 5, 7, 9], [1, 3, 5, 7, 9, 12], [1, 3, 5, 7, 9, 12, 14]] [[0], [0], [1], [1], [2], [2], [2, 3], [3], [4], [4], [5], [5], [5], [5, 6], [6], [7], [6, 7], [5, 6, 7], [2, 3, 4, 5, 6, 7], [7]] 7 [
       fun fa w' => Frm 82 fa [] ∧ St w w' [(go3_10_1, 24, (ic (Ao3_4_7) (co3_4_8) ((if b = 0 then 0 else a.fmod b)))), (go3_9_1, 24, (ic (Ao3_4_4) (co3_4_5) ((a.fdiv b)))), (g5, 24, (ic (A_b) (c_b) (b))), (g1, 24, (ic (A_a) (c_a) (a)))] ∧ Ext w29 (go3_10_1 :: (go3_9_1 :: (g5 :: (g1 :: X)))) w' (go3_10_1 :: (go3_9_1 :: (g5 :: (g1 :: X))))
       , fun fa w' => Frm 82 fa [(42, (.int .i64 (sgnI ((if b = 0 then 0 else a.fmod b)))))] ∧ St w w' [(go3_10_1, 24, (ic (Ao3_4_7) (co3_4_8) ((if b = 0 then 0 else a.fmod b)))), (go3_9_1, 24, (ic (Ao3_4_4) (co3_4_5) ((a.fdiv b)))), (g5, 24, (ic (A_b) (c_b) (b))), (g1, 24, (ic (A_a) (c_a) (a)))] ∧ Ext w29 (go3_10_1 :: (go3_9_1 :: (g5 :: (g1 :: X)))) w' (go3_10_1 :: (go3_9_1 :: (g5 :: (g1 :: X))))
       , fun fa w' => Frm 82 fa [(42, (.int .i64 (sgnI ((if b = 0 then 0 else a.fmod b))))), (44, (.bool (false)))] ∧ St w w' [(go3_10_1, 24, (ic (Ao3_4_7) (co3_4_8) ((if b = 0 then 0 else a.fmod b)))), (go3_9_1, 24, (ic (Ao3_4_4) (co3_4_5) ((a.fdiv b)))), (g5, 24, (ic (A_b) (c_b) (b))), (g1, 24, (ic (A_a) (c_a) (a)))] ∧ Ext w29 (go3_10_1 :: (go3_9_1 :: (g5 :: (g1 :: X)))) w' (go3_10_1 :: (go3_9_1 :: (g5 :: (g1 :: X))))
       , fun fa w' => Frm 82 fa [(42, (.int .i64 (sgnI ((if b = 0 then 0 else a.fmod b))))), (44, (.bool (false))), (46, (.int .i64 (sgnI ((if b = 0 then 0 else a.fmod b)))))] ∧ St w w' [(go3_10_1, 24, (ic (Ao3_4_7) (co3_4_8) ((if b = 0 then 0 else a.fmod b)))), (go3_9_1, 24, (ic (Ao3_4_4) (co3_4_5) ((a.fdiv b)))), (g5, 24, (ic (A_b) (c_b) (b))), (g1, 24, (ic (A_a) (c_a) (a)))] ∧ Ext w29 (go3_10_1 :: (go3_9_1 :: (g5 :: (g1 :: X)))) w' (go3_10_1 :: (go3_9_1 :: (g5 :: (g1 :: X))))
       , fun fa w' => Frm 82 fa [(42, (.int .i64 (sgnI ((if b = 0 then 0 else a.fmod b))))), (44, (.bool (false))), (46, (.int .i64 (sgnI ((if b = 0 then 0 else a.fmod b))))), (48, (.int .i64 (sgnI b)))] ∧ St w w' [(go3_10_1, 24, (ic (Ao3_4_7) (co3_4_8) ((if b = 0 then 0 else a.fmod b)))), (go3_9_1, 24, (ic (Ao3_4_4) (co3_4_5) ((a.fdiv b)))), (g5, 24, (ic (A_b) (c_b) (b))), (g1, 24, (ic (A_a) (c_a) (a)))] ∧ Ext w29 (go3_10_1 :: (go3_9_1 :: (g5 :: (g1 :: X)))) w' (go3_10_1 :: (go3_9_1 :: (g5 :: (g1 :: X))))
       , fun fa w' => Frm 82 fa [(42, (.int .i64 (sgnI ((if b = 0 then 0 else a.fmod b))))), (44, (.bool (false))), (46, (.int .i64 (sgnI ((if b = 0 then 0 else a.fmod b))))), (48, (.int .i64 (sgnI b))), (50, (.bool (true)))] ∧ St w w' [(go3_10_1, 24, (ic (Ao3_4_7) (co3_4_8) ((if b = 0 then 0 else a.fmod b)))), (go3_9_1, 24, (ic (Ao3_4_4) (co3_4_5) ((a.fdiv b)))), (g5, 24, (ic (A_b) (c_b) (b))), (g1, 24, (ic (A_a) (c_a) (a)))] ∧ Ext w29 (go3_10_1 :: (go3_9_1 :: (g5 :: (g1 :: X)))) w' (go3_10_1 :: (go3_9_1 :: (g5 :: (g1 :: X))))
       , fun fa w' => Frm 82 fa [(42, (.int .i64 (sgnI ((if b = 0 then 0 else a.fmod b))))), (44, (.bool (false))), (46, (.int .i64 (sgnI ((if b = 0 then 0 else a.fmod b))))), (48, (.int .i64 (sgnI b))), (50, (.bool (true))), (53, (.int .i64 (cmpI ((if b = 0 then 0 else a.fmod b)) b)))] ∧ St w w' [(go3_10_1, 24, (ic (Ao3_4_7) (co3_4_8) ((if b = 0 then 0 else a.fmod b)))), (go3_9_1, 24, (ic (Ao3_4_4) (co3_4_5) ((a.fdiv b)))), (g5, 24, (ic (A_b) (c_b) (b))), (g1, 24, (ic (A_a) (c_a) (a)))] ∧ Ext w29 (go3_10_1 :: (go3_9_1 :: (g5 :: (g1 :: X)))) w' (go3_10_1 :: (go3_9_1 :: (g5 :: (g1 :: X))))
       , fun fa w' => Frm 82 fa [(42, (.int .i64 (sgnI ((if b = 0 then 0 else a.fmod b))))), (44, (.bool (false))), (46, (.int .i64 (sgnI ((if b = 0 then 0 else a.fmod b))))), (48, (.int .i64 (sgnI b))), (50, (.bool (true))), (53, (.int .i64 (cmpI ((if b = 0 then 0 else a.fmod b)) b))), (55, (.int .i64 (sgnI b)))] ∧ St w w' [(go3_10_1, 24, (ic (Ao3_4_7) (co3_4_8) ((if b = 0 then 0 else a.fmod b)))), (go3_9_1, 24, (ic (Ao3_4_4) (co3_4_5) ((a.fdiv b)))), (g5, 24, (ic (A_b) (c_b) (b))), (g1, 24, (ic (A_a) (c_a) (a)))] ∧ Ext w29 (go3_10_1 :: (go3_9_1 :: (g5 :: (g1 :: X)))) w' (go3_10_1 :: (go3_9_1 :: (g5 :: (g1 :: X))))
     ] TfLD.mixed rfl rfl rfl rfl rfl rfl (hF.take (hF.take (hF.take (hF.take (hF.take (hF.take (hF.take (hF.take (hF.take (hF.take hF.nil rfl) rfl) rfl) rfl) rfl) rfl) rfl) rfl) rfl) rfl) rfl ⟨hF.nil, hS.drew, Ext.drew _ _⟩ ?_ ?_ ?_
 all_goals clear hF fa
 ·
  refine ⟨?_, ?_, ?_, ?_, ?_, ?_, ?_, ?_, trivial⟩
  ·
   rintro fa w' i o d v ho hd hna ⟨hA, hR⟩; exact ⟨hA.put_other v (freeOf_at (acts := [1, 3, 5, 7, 9, 12, 14]) rfl ho hd hna), hR⟩
  ·
   rintro fa w' i o d v ho hd hna ⟨hA, hR⟩; exact ⟨hA.put_other v (freeOf_at (acts := [1, 3, 5, 7, 9, 12, 14]) rfl ho hd hna), hR⟩
  ·
   rintro fa w' i o d v ho hd hna ⟨hA, hR⟩; exact ⟨hA.put_other v (freeOf_at (acts := [1, 3, 5, 7, 9, 12, 14]) rfl ho hd hna), hR⟩
  ·
   rintro fa w' i o d v ho hd hna ⟨hA, hR⟩; exact ⟨hA.put_other v (freeOf_at (acts := [1, 3, 5, 7, 9, 12, 14]) rfl ho hd hna), hR⟩
  ·
   rintro fa w' i o d v ho hd hna ⟨hA, hR⟩; exact ⟨hA.put_other v (freeOf_at (acts := [1, 3, 5, 7, 9, 12, 14]) rfl ho hd hna), hR⟩
  ·
   rintro fa w' i o d v ho hd hna ⟨hA, hR⟩; exact ⟨hA.put_other v (freeOf_at (acts := [1, 3, 5, 7, 9, 12, 14]) rfl ho hd hna), hR⟩
  ·
   rintro fa w' i o d v ho hd hna ⟨hA, hR⟩; exact ⟨hA.put_other v (freeOf_at (acts := [1, 3, 5, 7, 9, 12, 14]) rfl ho hd hna), hR⟩
  ·
   rintro fa w' i o d v ho hd hna ⟨hA, hR⟩; exact ⟨hA.put_other v (freeOf_at (acts := [1, 3, 5, 7, 9, 12, 14]) rfl ho hd hna), hR⟩
 ·
  refine ⟨?_, ?_, ?_, ?_, ?_, ?_, ?_, ?_, ?_, ?_, ?_, ?_, ?_, ?_, ?_, ?_, ?_, ?_, ?_, ?_, trivial⟩
  ·
   refine .inr (.inl ⟨rfl, _, _, rfl, rfl, ?_, trivial⟩)
   ·
    intro fa w' hΦ hF hB K hK
    obtain ⟨hA, hS, E_w'⟩ := hΦ
    exact fl_val rfl rfl rfl (ex_loadb TfLD.row24 (hF.ev rfl) (hS.get 0 rfl) rfl) hK
  ·
   refine .inr (.inr ⟨rfl, ?_, trivial⟩)
   ·
    intro fa w' hΦ hF hB
    obtain ⟨hA, hS, E_w'⟩ := hΦ
    replace hF := hF.cons (hB.val 0 _ 41 _ rfl rfl rfl rfl)
    refine wop rfl rfl ?_
    have hC := ref01_Sign_ok (w := w') (X := (go3_10_1 :: (go3_9_1 :: (g5 :: (g1 :: X))))) (a := (if b = 0 then 0 else a.fmod b)) (hS.bnd hX) (IntV.of_ (n := (lim ((if b = 0 then 0 else a.fmod b)).natAbs).length) (b := decide ((if b = 0 then 0 else a.fmod b) < 0)) (x := (if b = 0 then 0 else a.fmod b)) ((huo3_4_9.ext (E31.trans E_w'))) (rfl) (rfl) (rfl))
    refine op_call hF rfl TfLD.body15 (args1 (hF.ev rfl)) hC ?_
    clear hC
    rintro _ wo6_1_1 ⟨rfl, hbo6_1_2⟩
    clear hF; intro hF
    replace hS := hS.call hbo6_1_2; have Eo6_1_3 := Ext.call (go3_10_1 :: (go3_9_1 :: (g5 :: (g1 :: X)))) hbo6_1_2
    have hA1 := ((hA.put_other _ rfl).cons (hF.get 42 _ rfl))
    exact ⟨1, rfl, ⟨(hA1.take hA1.nil rfl), hS, (E_w'.trans Eo6_1_3)⟩, _, rfl, fun u hu => by cases hu <;> rfl⟩
  ·
   refine .inl ⟨rfl, _, _, rfl, rfl, fun s fa w' hΦ hF hB K hK => ?_⟩
   replace hF := hF.cons (hB.val 1 _ 42 _ rfl rfl rfl rfl)
   exact fl_val rfl rfl rfl (ex_b hk39 (ex_eql (hF.ev rfl) (hF.ev rfl))) hK
  ·
   refine .inr (.inr ⟨rfl, ?_, trivial⟩)
   ·
    intro fa w' hΦ hF hB
    obtain ⟨hA, hS, E_w'⟩ := hΦ
    replace hF := hF.cons (hB.val 2 _ 43 _ rfl rfl rfl rfl)
    refine wop rfl rfl ?_
    refine op_val hF rfl rfl (ex_move (hF.ev rfl)) ?_; clear hF; intro hF
    have hA1 := ((hA.put_other _ rfl).cons (hF.get 44 _ rfl))
    exact ⟨2, rfl, ⟨(hA1.take (hA1.take hA1.nil rfl) rfl), hS, E_w'⟩, _, rfl, fun u hu => by cases hu <;> rfl⟩
  ·
   refine .inr (.inl ⟨rfl, _, _, rfl, rfl, ?_, trivial⟩)
   ·
    intro fa w' hΦ hF hB K hK
    obtain ⟨hA, hS, E_w'⟩ := hΦ
    replace hF := hF.cons (hB.val 3 _ 44 _ rfl rfl rfl rfl)
    exact fl_valg hF rfl rfl rfl rfl (ex_loadb TfLD.row24 (hF.ev rfl) (hS.get 0 rfl) rfl) hK
  ·
   refine .inr (.inr ⟨rfl, ?_, trivial⟩)
   ·
    intro fa w' hΦ hF hB
    obtain ⟨hA, hS, E_w'⟩ := hΦ
    replace hF := hF.cons (hB.val 4 _ 45 _ rfl rfl rfl rfl)
    replace hF := hF.cons (hB.val 3 _ 44 _ rfl rfl rfl rfl)
    refine wopg hF rfl rfl rfl ?_
    have hC := ref01_Sign_ok (w := w') (X := (go3_10_1 :: (go3_9_1 :: (g5 :: (g1 :: X))))) (a := (if b = 0 then 0 else a.fmod b)) (hS.bnd hX) (IntV.of_ (n := (lim ((if b = 0 then 0 else a.fmod b)).natAbs).length) (b := decide ((if b = 0 then 0 else a.fmod b) < 0)) (x := (if b = 0 then 0 else a.fmod b)) ((huo3_4_9.ext (E31.trans E_w'))) (rfl) (rfl) (rfl))
    refine op_call hF rfl TfLD.body15 (args1 (hF.ev rfl)) hC ?_
    clear hC
    rintro _ wo6_5_1 ⟨rfl, hbo6_5_2⟩
    clear hF; intro hF
    replace hS := hS.call hbo6_5_2; have Eo6_5_3 := Ext.call (go3_10_1 :: (go3_9_1 :: (g5 :: (g1 :: X)))) hbo6_5_2
    have hA1 := ((hA.put_other _ rfl).cons (hF.get 46 _ rfl))
    exact ⟨3, rfl, ⟨(hA1.take (hA1.take (hA1.take hA1.nil rfl) rfl) rfl), hS, (E_w'.trans Eo6_5_3)⟩, _, rfl, fun u hu => by cases hu <;> rfl⟩
  ·
   refine .inr (.inl ⟨rfl, _, _, rfl, rfl, ?_, ?_, trivial⟩)
   ·
    intro fa w' hΦ hF hB K hK
    obtain ⟨hA, hS, E_w'⟩ := hΦ
    replace hF := hF.cons (hB.val 3 _ 44 _ rfl rfl rfl rfl)
    exact fl_valg hF rfl rfl rfl rfl (ex_loadb TfLD.row24 (hF.ev rfl) (hS.get 2 rfl) rfl) hK
   ·
    intro fa w' hΦ hF hB K hK
    obtain ⟨hA, hS, E_w'⟩ := hΦ
    replace hF := hF.cons (hB.val 3 _ 44 _ rfl rfl rfl rfl)
    exact fl_valg hF rfl rfl rfl rfl (ex_loadb TfLD.row24 (hF.ev rfl) (hS.get 2 rfl) rfl) hK
  ·
   refine .inr (.inr ⟨rfl, ?_, trivial⟩)
   ·
    intro fa w' hΦ hF hB
    obtain ⟨hA, hS, E_w'⟩ := hΦ
    replace hF := hF.cons (hB.val 6 _ 47 _ rfl rfl rfl rfl)
    replace hF := hF.cons (hB.val 3 _ 44 _ rfl rfl rfl rfl)
    refine wopg hF rfl rfl rfl ?_
    have hC := ref01_Sign_ok (w := w') (X := (go3_10_1 :: (go3_9_1 :: (g5 :: (g1 :: X))))) (a := b) (hS.bnd hX) (IntV.of_ (n := (lim b.natAbs).length) (b := decide (b < 0)) (x := b) ((hu_b.ext (((((((E3.trans E7).trans E11).trans E14).trans E19).trans E_w28).trans E31).trans E_w'))) (rfl) (rfl) (rfl))
    refine op_call hF rfl TfLD.body15 (args1 (hF.ev rfl)) hC ?_
    clear hC
    rintro _ wo6_7_1 ⟨rfl, hbo6_7_2⟩
    clear hF; intro hF
    replace hS := hS.call hbo6_7_2; have Eo6_7_3 := Ext.call (go3_10_1 :: (go3_9_1 :: (g5 :: (g1 :: X)))) hbo6_7_2
    have hA1 := ((hA.put_other _ rfl).cons (hF.get 48 _ rfl))
    exact ⟨4, rfl, ⟨(hA1.take (hA1.take (hA1.take (hA1.take hA1.nil rfl) rfl) rfl) rfl), hS, (E_w'.trans Eo6_7_3)⟩, _, rfl, fun u hu => by cases hu <;> rfl⟩
  ·
   refine .inl ⟨rfl, _, _, rfl, rfl, fun s fa w' hΦ hF hB K hK => ?_⟩
   replace hF := hF.cons (hB.val 5 _ 46 _ rfl rfl rfl rfl)
   replace hF := hF.cons (hB.val 7 _ 48 _ rfl rfl rfl rfl)
   replace hF := hF.cons (hB.val 3 _ 44 _ rfl rfl rfl rfl)
   exact fl_valg hF rfl rfl rfl rfl (ex_b (t := decide ((sgnI ((if b = 0 then 0 else a.fmod b))) = (sgnI b))) (b := true) (by rw [decide_eq_true_eq, if_neg hb0]; exact hfs.1) (ex_eql (hF.ev rfl) (hF.ev rfl))) hK
  ·
   refine .inr (.inr ⟨rfl, ?_, trivial⟩)
   ·
    intro fa w' hΦ hF hB
    obtain ⟨hA, hS, E_w'⟩ := hΦ
    replace hF := hF.cons (hB.val 8 _ 49 _ rfl rfl rfl rfl)
    replace hF := hF.cons (hB.val 3 _ 44 _ rfl rfl rfl rfl)
    refine wopg hF rfl rfl rfl ?_
    refine op_val hF rfl rfl (ex_move (hF.ev rfl)) ?_; clear hF; intro hF
    have hA1 := ((hA.put_other _ rfl).cons (hF.get 50 _ rfl))
    exact ⟨5, rfl, ⟨(hA1.take (hA1.take (hA1.take (hA1.take (hA1.take hA1.nil rfl) rfl) rfl) rfl) rfl), hS, E_w'⟩, _, rfl, fun u hu => by cases hu <;> rfl⟩
  ·
   refine .inr (.inl ⟨rfl, _, _, rfl, rfl, ?_, trivial⟩)
   ·
    intro fa w' hΦ hF hB K hK
    obtain ⟨hA, hS, E_w'⟩ := hΦ
    replace hF := hF.cons (hB.val 9 _ 50 _ rfl rfl rfl rfl)
    exact fl_valg hF rfl rfl rfl rfl (ex_loadb TfLD.row24 (hF.ev rfl) (hS.get 0 rfl) rfl) hK
  ·
   refine .inr (.inl ⟨rfl, _, _, rfl, rfl, ?_, trivial⟩)
   ·
    intro fa w' hΦ hF hB K hK
    obtain ⟨hA, hS, E_w'⟩ := hΦ
    replace hF := hF.cons (hB.val 9 _ 50 _ rfl rfl rfl rfl)
    exact fl_valg hF rfl rfl rfl rfl (ex_loadb TfLD.row24 (hF.ev rfl) (hS.get 2 rfl) rfl) hK
  ·
   refine .inr (.inr ⟨rfl, ?_, trivial⟩)
   ·
    intro fa w' hΦ hF hB
    obtain ⟨hA, hS, E_w'⟩ := hΦ
    replace hF := hF.cons (hB.val 10 _ 51 _ rfl rfl rfl rfl)
    replace hF := hF.cons (hB.val 11 _ 52 _ rfl rfl rfl rfl)
    replace hF := hF.cons (hB.val 9 _ 50 _ rfl rfl rfl rfl)
    refine wopg hF rfl rfl rfl ?_
    have hC := ref01_Cmp_ok (w := w') (X := (go3_10_1 :: (go3_9_1 :: (g5 :: (g1 :: X))))) (a := (if b = 0 then 0 else a.fmod b)) (b := b) (hS.bnd hX) (IntV.of_ (n := (lim ((if b = 0 then 0 else a.fmod b)).natAbs).length) (b := decide ((if b = 0 then 0 else a.fmod b) < 0)) (x := (if b = 0 then 0 else a.fmod b)) ((huo3_4_9.ext (E31.trans E_w'))) (rfl) (rfl) (rfl)) (IntV.of_ (n := (lim b.natAbs).length) (b := decide (b < 0)) (x := b) ((hu_b.ext (((((((E3.trans E7).trans E11).trans E14).trans E19).trans E_w28).trans E31).trans E_w'))) (rfl) (rfl) (rfl))
    refine op_call hF rfl TfLD.body17 (args2 (hF.ev rfl) (hF.ev rfl)) hC ?_
    clear hC
    rintro _ wo6_12_1 ⟨rfl, hbo6_12_2⟩
    clear hF; intro hF
    replace hS := hS.call hbo6_12_2; have Eo6_12_3 := Ext.call (go3_10_1 :: (go3_9_1 :: (g5 :: (g1 :: X)))) hbo6_12_2
    have hA1 := ((hA.put_other _ rfl).cons (hF.get 53 _ rfl))
    exact ⟨6, rfl, ⟨(hA1.take (hA1.take (hA1.take (hA1.take (hA1.take (hA1.take hA1.nil rfl) rfl) rfl) rfl) rfl) rfl), hS, (E_w'.trans Eo6_12_3)⟩, _, rfl, fun u hu => by cases hu <;> rfl⟩
  ·
   refine .inr (.inl ⟨rfl, _, _, rfl, rfl, ?_, ?_, trivial⟩)
   ·
    intro fa w' hΦ hF hB K hK
    obtain ⟨hA, hS, E_w'⟩ := hΦ
    replace hF := hF.cons (hB.val 9 _ 50 _ rfl rfl rfl rfl)
    exact fl_valg hF rfl rfl rfl rfl (ex_loadb TfLD.row24 (hF.ev rfl) (hS.get 2 rfl) rfl) hK
   ·
    intro fa w' hΦ hF hB K hK
    obtain ⟨hA, hS, E_w'⟩ := hΦ
    replace hF := hF.cons (hB.val 9 _ 50 _ rfl rfl rfl rfl)
    exact fl_valg hF rfl rfl rfl rfl (ex_loadb TfLD.row24 (hF.ev rfl) (hS.get 2 rfl) rfl) hK
  ·
   refine .inr (.inr ⟨rfl, ?_, trivial⟩)
   ·
    intro fa w' hΦ hF hB
    obtain ⟨hA, hS, E_w'⟩ := hΦ
    replace hF := hF.cons (hB.val 13 _ 54 _ rfl rfl rfl rfl)
    replace hF := hF.cons (hB.val 9 _ 50 _ rfl rfl rfl rfl)
    refine wopg hF rfl rfl rfl ?_
    have hC := ref01_Sign_ok (w := w') (X := (go3_10_1 :: (go3_9_1 :: (g5 :: (g1 :: X))))) (a := b) (hS.bnd hX) (IntV.of_ (n := (lim b.natAbs).length) (b := decide (b < 0)) (x := b) ((hu_b.ext (((((((E3.trans E7).trans E11).trans E14).trans E19).trans E_w28).trans E31).trans E_w'))) (rfl) (rfl) (rfl))
    refine op_call hF rfl TfLD.body15 (args1 (hF.ev rfl)) hC ?_
    clear hC
    rintro _ wo6_14_1 ⟨rfl, hbo6_14_2⟩
    clear hF; intro hF
    replace hS := hS.call hbo6_14_2; have Eo6_14_3 := Ext.call (go3_10_1 :: (go3_9_1 :: (g5 :: (g1 :: X)))) hbo6_14_2
    have hA1 := ((hA.put_other _ rfl).cons (hF.get 55 _ rfl))
    exact ⟨7, rfl, ⟨(hA1.take (hA1.take (hA1.take (hA1.take (hA1.take (hA1.take (hA1.take hA1.nil rfl) rfl) rfl) rfl) rfl) rfl) rfl), hS, (E_w'.trans Eo6_14_3)⟩, _, rfl, fun u hu => by cases hu <;> rfl⟩
  ·
   refine .inl ⟨rfl, _, _, rfl, rfl, fun s fa w' hΦ hF hB K hK => ?_⟩
   replace hF := hF.cons (hB.val 14 _ 55 _ rfl rfl rfl rfl)
   replace hF := hF.cons (hB.val 9 _ 50 _ rfl rfl rfl rfl)
   exact fl_valg hF rfl rfl rfl rfl (ex_neg (hF.ev rfl) (wi64 (by have := sgnI_bound b; omega) (by have := sgnI_bound b; omega))) hK
  ·
   refine .inl ⟨rfl, _, _, rfl, rfl, fun s fa w' hΦ hF hB K hK => ?_⟩
   replace hF := hF.cons (hB.val 12 _ 53 _ rfl rfl rfl rfl)
   replace hF := hF.cons (hB.val 15 _ 56 _ rfl rfl rfl rfl)
   replace hF := hF.cons (hB.val 9 _ 50 _ rfl rfl rfl rfl)
   exact fl_valg hF rfl rfl rfl rfl (ex_b (t := decide ((cmpI ((if b = 0 then 0 else a.fmod b)) b) = (0 - (sgnI b)))) (b := true) (by rw [decide_eq_true_eq, if_neg hb0]; exact hfs.2) (ex_eql (hF.ev rfl) (hF.ev rfl))) hK
  ·
   refine .inl ⟨rfl, _, _, rfl, rfl, fun s fa w' hΦ hF hB K hK => ?_⟩
   replace hF := hF.cons (hB.val 9 _ 50 _ rfl rfl rfl rfl)
   replace hF := hF.cons (hB.val 16 _ 57 _ rfl rfl rfl rfl)
   replace hF := hF.cons (hB.val 3 _ 44 _ rfl rfl rfl rfl)
   exact fl_valg hF rfl rfl rfl rfl (ex_pick (hF.ev rfl) (fun _ => hF.ev rfl) (v := undef) (fun h => by cases h) rfl) hK
  ·
   refine .inl ⟨rfl, _, _, rfl, rfl, fun s fa w' hΦ hF hB K hK => ?_⟩
   replace hF := hF.cons (hB.val 3 _ 44 _ rfl rfl rfl rfl)
   replace hF := hF.cons (hB.val 17 _ 58 _ rfl rfl rfl rfl)
   exact fl_val rfl rfl rfl (ex_pick (hF.ev rfl) (u := undef) (fun h => by cases h) (fun _ => hF.ev rfl) rfl) hK
  ·
   refine .inl ⟨rfl, _, _, rfl, rfl, fun s fa w' hΦ hF hB K hK => ?_⟩
   replace hF := hF.cons (hB.val 18 _ 59 _ rfl rfl rfl rfl)
   exact fl_val rfl rfl rfl (ex_assign (hF.ev rfl)) hK
 intro fa w42 hΦ hF hC
 obtain ⟨hA, hS, E_w42⟩ := hΦ
 replace hF := hF.cons (hC 19 _ 8 _ rfl rfl rfl)
 clear hA hC
 refine x_tn ?_
 refine c_seq ?_
 refine drawn2 (N := 82) (L0 := [(0, (.agg (ic (A_a) (c_a) (a)))), (1, (.agg (ic (A_b) (c_b) (b)))), (2, (.pointer (some ⟨g1, 0, none⟩))), (3, (.pointer (some ⟨g5, 0, none⟩))), (17, (.bool (false))), (7, (.int .i64 ((if b = 0 then 6 else 0)))), (5, (.pointer (some ⟨go3_9_1, 0, none⟩))), (6, (.pointer (some ⟨go3_10_1, 0, none⟩))), (30, (.bool (decide ((sgnI b) = 0)))), (8, (.bool (true)))]) [some (.int .i64 ((if b = 0 then 6 else 0))), some (.bool (true)), some (.bool (true)), some (.agg (ic (Ao3_4_4) (co3_4_5) ((a.fdiv b)))), some (.bool (true)), some (.bool (true)), some (.bool (true)), some (.agg (ic (Ao3_4_7) (co3_4_8) ((if b = 0 then 0 else a.fmod b)))), some (.bool (true)), some (.bool (true)), some (.bool (true)), some (.bool (true)), some (.bool (true)), some (.bool (true)), some (.agg (ic (Ao3_4_4) (co3_4_5) ((a.fdiv b)))), some (.agg (ic (A_b) (c_b) (b))), none, some (.agg (ic (Ao3_4_7) (co3_4_8) ((if b = 0 then 0 else a.fmod b)))), none, some (.agg (ic (A_a) (c_a) (a))), some (.bool (true)), some (.bool (true)), some (.bool (true))] [4, 6, 8, 10, 13, 16, 18, 20] [[], [4], [4, 6], [4, 6, 8], [4, 6, 8, 10], [4, 6, 8, 10, 13], [4, 6, 8, 10, 13, 16], [4, 6, 8, 10, 13, 16, 18], [4, 6, 8, 10, 13, 16, 18, 20]] [[0, 1, 2, 3, 4, 5, 6, 7, 8], [0, 1, 2, 3, 4, 5, 6, 7, 8], [0], [0], [0], [1], [1], [2], [2], [3], [3], [4, 5, 6, 7, 8], [4], [4], [5], [5], [5], [5, 6], [6], [5, 6, 7], [7], [8], [8]] 8 [
       fun fa w' => Frm 82 fa [] ∧ St w w' [(go3_10_1, 24, (ic (Ao3_4_7) (co3_4_8) ((if b = 0 then 0 else a.fmod b)))), (go3_9_1, 24, (ic (Ao3_4_4) (co3_4_5) ((a.fdiv b)))), (g5, 24, (ic (A_b) (c_b) (b))), (g1, 24, (ic (A_a) (c_a) (a)))] ∧ Ext w42 (go3_10_1 :: (go3_9_1 :: (g5 :: (g1 :: X)))) w' (go3_10_1 :: (go3_9_1 :: (g5 :: (g1 :: X))))
       , fun fa w' => Frm 82 fa [(64, (.bool (true)))] ∧ St w w' [(go3_10_1, 24, (ic (Ao3_4_7) (co3_4_8) ((if b = 0 then 0 else a.fmod b)))), (go3_9_1, 24, (ic (Ao3_4_4) (co3_4_5) ((a.fdiv b)))), (g5, 24, (ic (A_b) (c_b) (b))), (g1, 24, (ic (A_a) (c_a) (a)))] ∧ Ext w42 (go3_10_1 :: (go3_9_1 :: (g5 :: (g1 :: X)))) w' (go3_10_1 :: (go3_9_1 :: (g5 :: (g1 :: X))))
       , fun fa w' => Frm 82 fa [(64, (.bool (true))), (66, (.bool (true)))] ∧ St w w' [(go3_10_1, 24, (ic (Ao3_4_7) (co3_4_8) ((if b = 0 then 0 else a.fmod b)))), (go3_9_1, 24, (ic (Ao3_4_4) (co3_4_5) ((a.fdiv b)))), (g5, 24, (ic (A_b) (c_b) (b))), (g1, 24, (ic (A_a) (c_a) (a)))] ∧ Ext w42 (go3_10_1 :: (go3_9_1 :: (g5 :: (g1 :: X)))) w' (go3_10_1 :: (go3_9_1 :: (g5 :: (g1 :: X))))
       , fun fa w' => Frm 82 fa [(64, (.bool (true))), (66, (.bool (true))), (68, (.bool (true)))] ∧ St w w' [(go3_10_1, 24, (ic (Ao3_4_7) (co3_4_8) ((if b = 0 then 0 else a.fmod b)))), (go3_9_1, 24, (ic (Ao3_4_4) (co3_4_5) ((a.fdiv b)))), (g5, 24, (ic (A_b) (c_b) (b))), (g1, 24, (ic (A_a) (c_a) (a)))] ∧ Ext w42 (go3_10_1 :: (go3_9_1 :: (g5 :: (g1 :: X)))) w' (go3_10_1 :: (go3_9_1 :: (g5 :: (g1 :: X))))
       , fun fa w' => Frm 82 fa [(64, (.bool (true))), (66, (.bool (true))), (68, (.bool (true))), (70, (.bool (true)))] ∧ St w w' [(go3_10_1, 24, (ic (Ao3_4_7) (co3_4_8) ((if b = 0 then 0 else a.fmod b)))), (go3_9_1, 24, (ic (Ao3_4_4) (co3_4_5) ((a.fdiv b)))), (g5, 24, (ic (A_b) (c_b) (b))), (g1, 24, (ic (A_a) (c_a) (a)))] ∧ Ext w42 (go3_10_1 :: (go3_9_1 :: (g5 :: (g1 :: X)))) w' (go3_10_1 :: (go3_9_1 :: (g5 :: (g1 :: X))))
       , fun fa w' => Frm 82 fa [(64, (.bool (true))), (66, (.bool (true))), (68, (.bool (true))), (70, (.bool (true))), (73, (.bool (true)))] ∧ St w w' [(go3_10_1, 24, (ic (Ao3_4_7) (co3_4_8) ((if b = 0 then 0 else a.fmod b)))), (go3_9_1, 24, (ic (Ao3_4_4) (co3_4_5) ((a.fdiv b)))), (g5, 24, (ic (A_b) (c_b) (b))), (g1, 24, (ic (A_a) (c_a) (a)))] ∧ Ext w42 (go3_10_1 :: (go3_9_1 :: (g5 :: (g1 :: X)))) w' (go3_10_1 :: (go3_9_1 :: (g5 :: (g1 :: X))))
       , fun fa w' => ∃ Ao7_16_4 : Option Addr, ∃ co7_16_5 : Nat, Frm 82 fa [(64, (.bool (true))), (66, (.bool (true))), (68, (.bool (true))), (70, (.bool (true))), (73, (.bool (true))), (76, (.agg (ic (Ao7_16_4) (co7_16_5) (((a.fdiv b) * b)))))] ∧ St w w' [(go3_10_1, 24, (ic (Ao3_4_7) (co3_4_8) ((if b = 0 then 0 else a.fmod b)))), (go3_9_1, 24, (ic (Ao3_4_4) (co3_4_5) ((a.fdiv b)))), (g5, 24, (ic (A_b) (c_b) (b))), (g1, 24, (ic (A_a) (c_a) (a)))] ∧ Ext w42 (go3_10_1 :: (go3_9_1 :: (g5 :: (g1 :: X)))) w' (go3_10_1 :: (go3_9_1 :: (g5 :: (g1 :: X)))) ∧ UC w' (go3_10_1 :: (go3_9_1 :: (g5 :: (g1 :: X)))) Ao7_16_4 co7_16_5 (lim ((a.fdiv b) * b).natAbs)
       , fun fa w' => ∃ Ao7_16_4 : Option Addr, ∃ co7_16_5 : Nat, ∃ Ao7_18_4 : Option Addr, ∃ co7_18_5 : Nat, Frm 82 fa [(64, (.bool (true))), (66, (.bool (true))), (68, (.bool (true))), (70, (.bool (true))), (73, (.bool (true))), (76, (.agg (ic (Ao7_16_4) (co7_16_5) (((a.fdiv b) * b))))), (78, (.agg (ic (Ao7_18_4) (co7_18_5) ((((a.fdiv b) * b) + ((if b = 0 then 0 else a.fmod b)))))))] ∧ St w w' [(go3_10_1, 24, (ic (Ao3_4_7) (co3_4_8) ((if b = 0 then 0 else a.fmod b)))), (go3_9_1, 24, (ic (Ao3_4_4) (co3_4_5) ((a.fdiv b)))), (g5, 24, (ic (A_b) (c_b) (b))), (g1, 24, (ic (A_a) (c_a) (a)))] ∧ Ext w42 (go3_10_1 :: (go3_9_1 :: (g5 :: (g1 :: X)))) w' (go3_10_1 :: (go3_9_1 :: (g5 :: (g1 :: X)))) ∧ UC w' (go3_10_1 :: (go3_9_1 :: (g5 :: (g1 :: X)))) Ao7_16_4 co7_16_5 (lim ((a.fdiv b) * b).natAbs) ∧ UC w' (go3_10_1 :: (go3_9_1 :: (g5 :: (g1 :: X)))) Ao7_18_4 co7_18_5 (lim (((a.fdiv b) * b) + ((if b = 0 then 0 else a.fmod b))).natAbs)
       , fun fa w' => ∃ Ao7_16_4 : Option Addr, ∃ co7_16_5 : Nat, ∃ Ao7_18_4 : Option Addr, ∃ co7_18_5 : Nat, Frm 82 fa [(64, (.bool (true))), (66, (.bool (true))), (68, (.bool (true))), (70, (.bool (true))), (73, (.bool (true))), (76, (.agg (ic (Ao7_16_4) (co7_16_5) (((a.fdiv b) * b))))), (78, (.agg (ic (Ao7_18_4) (co7_18_5) ((((a.fdiv b) * b) + ((if b = 0 then 0 else a.fmod b))))))), (80, (.bool (true)))] ∧ St w w' [(go3_10_1, 24, (ic (Ao3_4_7) (co3_4_8) ((if b = 0 then 0 else a.fmod b)))), (go3_9_1, 24, (ic (Ao3_4_4) (co3_4_5) ((a.fdiv b)))), (g5, 24, (ic (A_b) (c_b) (b))), (g1, 24, (ic (A_a) (c_a) (a)))] ∧ Ext w42 (go3_10_1 :: (go3_9_1 :: (g5 :: (g1 :: X)))) w' (go3_10_1 :: (go3_9_1 :: (g5 :: (g1 :: X)))) ∧ UC w' (go3_10_1 :: (go3_9_1 :: (g5 :: (g1 :: X)))) Ao7_16_4 co7_16_5 (lim ((a.fdiv b) * b).natAbs) ∧ UC w' (go3_10_1 :: (go3_9_1 :: (g5 :: (g1 :: X)))) Ao7_18_4 co7_18_5 (lim (((a.fdiv b) * b) + ((if b = 0 then 0 else a.fmod b))).natAbs)
     ] TfLD.mixed rfl rfl rfl rfl rfl rfl (hF.take (hF.take (hF.take (hF.take (hF.take (hF.take (hF.take (hF.take (hF.take (hF.take hF.nil rfl) rfl) rfl) rfl) rfl) rfl) rfl) rfl) rfl) rfl) rfl ⟨hF.nil, hS.drew, Ext.drew _ _⟩ ?_ ?_ ?_
 all_goals clear hF fa
 ·
  refine ⟨?_, ?_, ?_, ?_, ?_, ?_, ?_, ?_, ?_, trivial⟩
  ·
   rintro fa w' i o d v ho hd hna ⟨hA, hR⟩; exact ⟨hA.put_other v (freeOf_at (acts := [4, 6, 8, 10, 13, 16, 18, 20]) rfl ho hd hna), hR⟩
  ·
   rintro fa w' i o d v ho hd hna ⟨hA, hR⟩; exact ⟨hA.put_other v (freeOf_at (acts := [4, 6, 8, 10, 13, 16, 18, 20]) rfl ho hd hna), hR⟩
  ·
   rintro fa w' i o d v ho hd hna ⟨hA, hR⟩; exact ⟨hA.put_other v (freeOf_at (acts := [4, 6, 8, 10, 13, 16, 18, 20]) rfl ho hd hna), hR⟩
  ·
   rintro fa w' i o d v ho hd hna ⟨hA, hR⟩; exact ⟨hA.put_other v (freeOf_at (acts := [4, 6, 8, 10, 13, 16, 18, 20]) rfl ho hd hna), hR⟩
  ·
   rintro fa w' i o d v ho hd hna ⟨hA, hR⟩; exact ⟨hA.put_other v (freeOf_at (acts := [4, 6, 8, 10, 13, 16, 18, 20]) rfl ho hd hna), hR⟩
  ·
   rintro fa w' i o d v ho hd hna ⟨hA, hR⟩; exact ⟨hA.put_other v (freeOf_at (acts := [4, 6, 8, 10, 13, 16, 18, 20]) rfl ho hd hna), hR⟩
  ·
   rintro fa w' i o d v ho hd hna ⟨Ao7_16_4, co7_16_5, hA, hR⟩; exact ⟨Ao7_16_4, co7_16_5, hA.put_other v (freeOf_at (acts := [4, 6, 8, 10, 13, 16, 18, 20]) rfl ho hd hna), hR⟩
  ·
   rintro fa w' i o d v ho hd hna ⟨Ao7_16_4, co7_16_5, Ao7_18_4, co7_18_5, hA, hR⟩; exact ⟨Ao7_16_4, co7_16_5, Ao7_18_4, co7_18_5, hA.put_other v (freeOf_at (acts := [4, 6, 8, 10, 13, 16, 18, 20]) rfl ho hd hna), hR⟩
  ·
   rintro fa w' i o d v ho hd hna ⟨Ao7_16_4, co7_16_5, Ao7_18_4, co7_18_5, hA, hR⟩; exact ⟨Ao7_16_4, co7_16_5, Ao7_18_4, co7_18_5, hA.put_other v (freeOf_at (acts := [4, 6, 8, 10, 13, 16, 18, 20]) rfl ho hd hna), hR⟩
 ·
  refine ⟨?_, ?_, ?_, ?_, ?_, ?_, ?_, ?_, ?_, ?_, ?_, ?_, ?_, ?_, ?_, ?_, ?_, ?_, ?_, ?_, ?_, ?_, ?_, trivial⟩
  ·
   refine .inl ⟨rfl, _, _, rfl, rfl, fun s fa w' hΦ hF hB K hK => ?_⟩
   exact fl_val rfl rfl rfl (ex_move (hF.ev rfl)) hK
  ·
   refine .inl ⟨rfl, _, _, rfl, rfl, fun s fa w' hΦ hF hB K hK => ?_⟩
   replace hF := hF.cons (hB.val 0 _ 60 _ rfl rfl rfl rfl)
   exact fl_val rfl rfl rfl (ex_b (t := decide ((if b = 0 then 6 else 0) = 0)) (b := true) (by rw [decide_eq_true_eq, if_neg hb0]) (ex_eql (hF.ev rfl) (hF.ev rfl))) hK
  ·
   refine .inl ⟨rfl, _, _, rfl, rfl, fun s fa w' hΦ hF hB K hK => ?_⟩
   replace hF := hF.cons (hB.val 1 _ 61 _ rfl rfl rfl rfl)
   exact fl_val rfl rfl rfl (ex_move (hF.ev rfl)) hK
  ·
   refine .inr (.inl ⟨rfl, _, _, rfl, rfl, ?_, trivial⟩)
   ·
    intro fa w' hΦ hF hB K hK
    obtain ⟨hA, hS, E_w'⟩ := hΦ
    replace hF := hF.cons (hB.val 2 _ 62 _ rfl rfl rfl rfl)
    exact fl_valg hF rfl rfl rfl rfl (ex_loadb TfLD.row24 (hF.ev rfl) (hS.get 1 rfl) rfl) hK
  ·
   refine .inr (.inr ⟨rfl, ?_, trivial⟩)
   ·
    intro fa w' hΦ hF hB
    obtain ⟨hA, hS, E_w'⟩ := hΦ
    replace hF := hF.cons (hB.val 3 _ 63 _ rfl rfl rfl rfl)
    replace hF := hF.cons (hB.val 2 _ 62 _ rfl rfl rfl rfl)
    refine wopg hF rfl rfl rfl ?_
    have hC := ref01_Valid_ok (w := w') (X := (go3_10_1 :: (go3_9_1 :: (g5 :: (g1 :: X))))) (ng := (decide ((a.fdiv b) < 0))) (l := (lim (a.fdiv b).natAbs)) (hS.bnd hX) ⟨_, rfl, _, _, rfl, (huo3_4_6.ext ((E31.trans E_w42).trans E_w'))⟩
    rw [show (validL (decide ((a.fdiv b) < 0)) ((lim (a.fdiv b).natAbs))) = true from validL_lim _] at hC
    refine op_call hF rfl TfLD.body18 (args1 (hF.ev rfl)) hC ?_
    clear hC
    rintro _ wo7_4_1 ⟨rfl, hbo7_4_2⟩
    clear hF; intro hF
    replace hS := hS.call hbo7_4_2; have Eo7_4_3 := Ext.call (go3_10_1 :: (go3_9_1 :: (g5 :: (g1 :: X)))) hbo7_4_2
    have hA1 := ((hA.put_other _ rfl).cons (hF.get 64 _ rfl))
    exact ⟨1, rfl, ⟨(hA1.take hA1.nil rfl), hS, (E_w'.trans Eo7_4_3)⟩, _, rfl, fun u hu => by cases hu <;> rfl⟩
  ·
   refine .inl ⟨rfl, _, _, rfl, rfl, fun s fa w' hΦ hF hB K hK => ?_⟩
   replace hF := hF.cons (hB.val 2 _ 62 _ rfl rfl rfl rfl)
   replace hF := hF.cons (hB.val 4 _ 64 _ rfl rfl rfl rfl)
   exact fl_val rfl rfl rfl (ex_pick (hF.ev rfl) (fun _ => hF.ev rfl) (v := undef) (fun h => by cases h) rfl) hK
  ·
   refine .inr (.inr ⟨rfl, ?_, trivial⟩)
   ·
    intro fa w' hΦ hF hB
    obtain ⟨hA, hS, E_w'⟩ := hΦ
    replace hF := hF.cons (hB.val 5 _ 65 _ rfl rfl rfl rfl)
    refine wop rfl rfl ?_
    refine op_val hF rfl rfl (ex_move (hF.ev rfl)) ?_; clear hF; intro hF
    have hA1 := ((hA.put_other _ rfl).cons (hF.get 66 _ rfl))
    exact ⟨2, rfl, ⟨(hA1.take (hA1.take hA1.nil rfl) rfl), hS, E_w'⟩, _, rfl, fun u hu => by cases hu <;> rfl⟩
  ·
   refine .inr (.inl ⟨rfl, _, _, rfl, rfl, ?_, trivial⟩)
   ·
    intro fa w' hΦ hF hB K hK
    obtain ⟨hA, hS, E_w'⟩ := hΦ
    replace hF := hF.cons (hB.val 6 _ 66 _ rfl rfl rfl rfl)
    exact fl_valg hF rfl rfl rfl rfl (ex_loadb TfLD.row24 (hF.ev rfl) (hS.get 0 rfl) rfl) hK
  ·
   refine .inr (.inr ⟨rfl, ?_, trivial⟩)
   ·
    intro fa w' hΦ hF hB
    obtain ⟨hA, hS, E_w'⟩ := hΦ
    replace hF := hF.cons (hB.val 7 _ 67 _ rfl rfl rfl rfl)
    replace hF := hF.cons (hB.val 6 _ 66 _ rfl rfl rfl rfl)
    refine wopg hF rfl rfl rfl ?_
    have hC := ref01_Valid_ok (w := w') (X := (go3_10_1 :: (go3_9_1 :: (g5 :: (g1 :: X))))) (ng := (decide ((if b = 0 then 0 else a.fmod b) < 0))) (l := (lim ((if b = 0 then 0 else a.fmod b)).natAbs)) (hS.bnd hX) ⟨_, rfl, _, _, rfl, (huo3_4_9.ext ((E31.trans E_w42).trans E_w'))⟩
    rw [show (validL (decide ((if b = 0 then 0 else a.fmod b) < 0)) ((lim ((if b = 0 then 0 else a.fmod b)).natAbs))) = true from validL_lim _] at hC
    refine op_call hF rfl TfLD.body18 (args1 (hF.ev rfl)) hC ?_
    clear hC
    rintro _ wo7_8_1 ⟨rfl, hbo7_8_2⟩
    clear hF; intro hF
    replace hS := hS.call hbo7_8_2; have Eo7_8_3 := Ext.call (go3_10_1 :: (go3_9_1 :: (g5 :: (g1 :: X)))) hbo7_8_2
    have hA1 := ((hA.put_other _ rfl).cons (hF.get 68 _ rfl))
    exact ⟨3, rfl, ⟨(hA1.take (hA1.take (hA1.take hA1.nil rfl) rfl) rfl), hS, (E_w'.trans Eo7_8_3)⟩, _, rfl, fun u hu => by cases hu <;> rfl⟩
  ·
   refine .inl ⟨rfl, _, _, rfl, rfl, fun s fa w' hΦ hF hB K hK => ?_⟩
   replace hF := hF.cons (hB.val 6 _ 66 _ rfl rfl rfl rfl)
   replace hF := hF.cons (hB.val 8 _ 68 _ rfl rfl rfl rfl)
   exact fl_val rfl rfl rfl (ex_pick (hF.ev rfl) (fun _ => hF.ev rfl) (v := undef) (fun h => by cases h) rfl) hK
  ·
   refine .inr (.inr ⟨rfl, ?_, trivial⟩)
   ·
    intro fa w' hΦ hF hB
    obtain ⟨hA, hS, E_w'⟩ := hΦ
    replace hF := hF.cons (hB.val 9 _ 69 _ rfl rfl rfl rfl)
    refine wop rfl rfl ?_
    refine op_val hF rfl rfl (ex_move (hF.ev rfl)) ?_; clear hF; intro hF
    have hA1 := ((hA.put_other _ rfl).cons (hF.get 70 _ rfl))
    exact ⟨4, rfl, ⟨(hA1.take (hA1.take (hA1.take (hA1.take hA1.nil rfl) rfl) rfl) rfl), hS, E_w'⟩, _, rfl, fun u hu => by cases hu <;> rfl⟩
  ·
   refine .inl ⟨rfl, _, _, rfl, rfl, fun s fa w' hΦ hF hB K hK => ?_⟩
   replace hF := hF.cons (hB.val 10 _ 70 _ rfl rfl rfl rfl)
   exact fl_valg hF rfl rfl rfl rfl (ex_move (hF.ev rfl)) hK
  ·
   refine .inl ⟨rfl, _, _, rfl, rfl, fun s fa w' hΦ hF hB K hK => ?_⟩
   replace hF := hF.cons (hB.val 10 _ 70 _ rfl rfl rfl rfl)
   replace hF := hF.cons (hB.val 11 _ 71 _ rfl rfl rfl rfl)
   exact fl_val rfl rfl rfl (ex_pick (hF.ev rfl) (fun _ => hF.ev rfl) (v := undef) (fun h => by cases h) rfl) hK
  ·
   refine .inr (.inr ⟨rfl, ?_, trivial⟩)
   ·
    intro fa w' hΦ hF hB
    obtain ⟨hA, hS, E_w'⟩ := hΦ
    replace hF := hF.cons (hB.val 12 _ 72 _ rfl rfl rfl rfl)
    refine wop rfl rfl ?_
    refine op_val hF rfl rfl (ex_move (hF.ev rfl)) ?_; clear hF; intro hF
    have hA1 := ((hA.put_other _ rfl).cons (hF.get 73 _ rfl))
    exact ⟨5, rfl, ⟨(hA1.take (hA1.take (hA1.take (hA1.take (hA1.take hA1.nil rfl) rfl) rfl) rfl) rfl), hS, E_w'⟩, _, rfl, fun u hu => by cases hu <;> rfl⟩
  ·
   refine .inr (.inl ⟨rfl, _, _, rfl, rfl, ?_, trivial⟩)
   ·
    intro fa w' hΦ hF hB K hK
    obtain ⟨hA, hS, E_w'⟩ := hΦ
    replace hF := hF.cons (hB.val 13 _ 73 _ rfl rfl rfl rfl)
    exact fl_valg hF rfl rfl rfl rfl (ex_loadb TfLD.row24 (hF.ev rfl) (hS.get 1 rfl) rfl) hK
  ·
   refine .inr (.inl ⟨rfl, _, _, rfl, rfl, ?_, trivial⟩)
   ·
    intro fa w' hΦ hF hB K hK
    obtain ⟨hA, hS, E_w'⟩ := hΦ
    replace hF := hF.cons (hB.val 13 _ 73 _ rfl rfl rfl rfl)
    exact fl_valg hF rfl rfl rfl rfl (ex_loadb TfLD.row24 (hF.ev rfl) (hS.get 2 rfl) rfl) hK
  ·
   refine .inr (.inr ⟨rfl, ?_, trivial⟩)
   ·
    intro fa w' hΦ hF hB
    obtain ⟨hA, hS, E_w'⟩ := hΦ
    replace hF := hF.cons (hB.val 14 _ 74 _ rfl rfl rfl rfl)
    replace hF := hF.cons (hB.val 15 _ 75 _ rfl rfl rfl rfl)
    replace hF := hF.cons (hB.val 13 _ 73 _ rfl rfl rfl rfl)
    refine wopg hF rfl rfl rfl ?_
    have hC := ref01_Mul_ok (w := w') (X := (go3_10_1 :: (go3_9_1 :: (g5 :: (g1 :: X))))) (a := (a.fdiv b)) (b := b) (hS.bnd hX) (IntV.of_ (n := (lim (a.fdiv b).natAbs).length) (b := decide ((a.fdiv b) < 0)) (x := a.fdiv b) ((huo3_4_6.ext ((E31.trans E_w42).trans E_w'))) (rfl) (rfl) (rfl)) (IntV.of_ (n := (lim b.natAbs).length) (b := decide (b < 0)) (x := b) ((hu_b.ext ((((((((E3.trans E7).trans E11).trans E14).trans E19).trans E_w28).trans E31).trans E_w42).trans E_w'))) (rfl) (rfl) (rfl)) (by have h1 := sz_fdiv (a := a) hb0; have h2 := sz_fmod (a := a) hb0; have h3 := sz_mul (a.fdiv b) b; (try simp only [if_neg hb0]); omega) (by have h1 := sz_fdiv (a := a) hb0; have h2 := sz_fmod (a := a) hb0; have h3 := sz_mul (a.fdiv b) b; (try simp only [if_neg hb0]); omega)
    refine op_call hF rfl TfLD.body21 (args2 (hF.ev rfl) (hF.ev rfl)) hC ?_
    clear hC
    rintro _ wo7_16_1 ⟨⟨_, rfl, Ao7_16_4, co7_16_5, rfl, huo7_16_6⟩, hbo7_16_2⟩
    clear hF; intro hF
    replace hS := hS.call hbo7_16_2; have Eo7_16_3 := Ext.call (go3_10_1 :: (go3_9_1 :: (g5 :: (g1 :: X)))) hbo7_16_2
    have hA1 := ((hA.put_other _ rfl).cons (hF.get 76 _ rfl))
    exact ⟨6, rfl, ⟨Ao7_16_4, co7_16_5, (hA1.take (hA1.take (hA1.take (hA1.take (hA1.take (hA1.take hA1.nil rfl) rfl) rfl) rfl) rfl) rfl), hS, (E_w'.trans Eo7_16_3), huo7_16_6⟩, _, rfl, fun u hu => by cases hu <;> rfl⟩
  ·
   refine .inr (.inl ⟨rfl, _, _, rfl, rfl, ?_, ?_, trivial⟩)
   ·
    intro fa w' hΦ hF hB K hK
    obtain ⟨hA, hS, E_w'⟩ := hΦ
    replace hF := hF.cons (hB.val 13 _ 73 _ rfl rfl rfl rfl)
    exact fl_valg hF rfl rfl rfl rfl (ex_loadb TfLD.row24 (hF.ev rfl) (hS.get 0 rfl) rfl) hK
   ·
    intro fa w' hΦ hF hB K hK
    obtain ⟨Ao7_16_4, co7_16_5, hA, hS, E_w', huo7_16_6⟩ := hΦ
    replace hF := hF.cons (hB.val 13 _ 73 _ rfl rfl rfl rfl)
    exact fl_valg hF rfl rfl rfl rfl (ex_loadb TfLD.row24 (hF.ev rfl) (hS.get 0 rfl) rfl) hK
  ·
   refine .inr (.inr ⟨rfl, ?_, trivial⟩)
   ·
    intro fa w' hΦ hF hB
    obtain ⟨Ao7_16_4, co7_16_5, hA, hS, E_w', huo7_16_6⟩ := hΦ
    replace hF := hF.cons (hA.get 76 _ rfl)
    replace hF := hF.cons (hB.val 17 _ 77 _ rfl rfl rfl rfl)
    replace hF := hF.cons (hB.val 13 _ 73 _ rfl rfl rfl rfl)
    refine wopg hF rfl rfl rfl ?_
    have hC := ref01_Add_ok (w := w') (X := (go3_10_1 :: (go3_9_1 :: (g5 :: (g1 :: X))))) (a := ((a.fdiv b) * b)) (b := (if b = 0 then 0 else a.fmod b)) (hS.bnd hX) (IntV.of_ (n := (lim ((a.fdiv b) * b).natAbs).length) (b := decide (((a.fdiv b) * b) < 0)) (x := (a.fdiv b) * b) (huo7_16_6) (rfl) (rfl) (rfl)) (IntV.of_ (n := (lim ((if b = 0 then 0 else a.fmod b)).natAbs).length) (b := decide ((if b = 0 then 0 else a.fmod b) < 0)) (x := (if b = 0 then 0 else a.fmod b)) ((huo3_4_9.ext ((E31.trans E_w42).trans E_w'))) (rfl) (rfl) (rfl)) (by have h1 := sz_fdiv (a := a) hb0; have h2 := sz_fmod (a := a) hb0; have h3 := sz_mul (a.fdiv b) b; (try simp only [if_neg hb0]); omega) (by have h1 := sz_fdiv (a := a) hb0; have h2 := sz_fmod (a := a) hb0; have h3 := sz_mul (a.fdiv b) b; (try simp only [if_neg hb0]); omega)
    refine op_call hF rfl TfLD.body20 (args2 (hF.ev rfl) (hF.ev rfl)) hC ?_
    clear hC
    rintro _ wo7_18_1 ⟨⟨_, rfl, Ao7_18_4, co7_18_5, rfl, huo7_18_6⟩, hbo7_18_2⟩
    clear hF; intro hF
    replace hS := hS.call hbo7_18_2; have Eo7_18_3 := Ext.call (go3_10_1 :: (go3_9_1 :: (g5 :: (g1 :: X)))) hbo7_18_2
    have hA1 := ((hA.put_other _ rfl).cons (hF.get 78 _ rfl))
    exact ⟨7, rfl, ⟨Ao7_16_4, co7_16_5, Ao7_18_4, co7_18_5, (hA1.take (hA1.take (hA1.take (hA1.take (hA1.take (hA1.take (hA1.take hA1.nil rfl) rfl) rfl) rfl) rfl) rfl) rfl), hS, (E_w'.trans Eo7_18_3), (huo7_16_6.ext Eo7_18_3), huo7_18_6⟩, _, rfl, fun u hu => by cases hu <;> rfl⟩
  ·
   refine .inr (.inl ⟨rfl, _, _, rfl, rfl, ?_, ?_, ?_, trivial⟩)
   ·
    intro fa w' hΦ hF hB K hK
    obtain ⟨hA, hS, E_w'⟩ := hΦ
    replace hF := hF.cons (hB.val 13 _ 73 _ rfl rfl rfl rfl)
    exact fl_valg hF rfl rfl rfl rfl (ex_loadb TfLD.row24 (hF.ev rfl) (hS.get 3 rfl) rfl) hK
   ·
    intro fa w' hΦ hF hB K hK
    obtain ⟨Ao7_16_4, co7_16_5, hA, hS, E_w', huo7_16_6⟩ := hΦ
    replace hF := hF.cons (hB.val 13 _ 73 _ rfl rfl rfl rfl)
    exact fl_valg hF rfl rfl rfl rfl (ex_loadb TfLD.row24 (hF.ev rfl) (hS.get 3 rfl) rfl) hK
   ·
    intro fa w' hΦ hF hB K hK
    obtain ⟨Ao7_16_4, co7_16_5, Ao7_18_4, co7_18_5, hA, hS, E_w', huo7_16_6, huo7_18_6⟩ := hΦ
    replace hF := hF.cons (hB.val 13 _ 73 _ rfl rfl rfl rfl)
    exact fl_valg hF rfl rfl rfl rfl (ex_loadb TfLD.row24 (hF.ev rfl) (hS.get 3 rfl) rfl) hK
  ·
   refine .inr (.inr ⟨rfl, ?_, trivial⟩)
   ·
    intro fa w' hΦ hF hB
    obtain ⟨Ao7_16_4, co7_16_5, Ao7_18_4, co7_18_5, hA, hS, E_w', huo7_16_6, huo7_18_6⟩ := hΦ
    replace hF := hF.cons (hA.get 78 _ rfl)
    replace hF := hF.cons (hB.val 19 _ 79 _ rfl rfl rfl rfl)
    replace hF := hF.cons (hB.val 13 _ 73 _ rfl rfl rfl rfl)
    refine wopg hF rfl rfl rfl ?_
    have hC := law01_same_ok (w := w') (X := (go3_10_1 :: (go3_9_1 :: (g5 :: (g1 :: X))))) (a := (((a.fdiv b) * b) + ((if b = 0 then 0 else a.fmod b)))) (b := a) (hS.bnd hX) (IntV.of_ (n := (lim (((a.fdiv b) * b) + ((if b = 0 then 0 else a.fmod b))).natAbs).length) (b := decide ((((a.fdiv b) * b) + ((if b = 0 then 0 else a.fmod b))) < 0)) (x := ((a.fdiv b) * b) + ((if b = 0 then 0 else a.fmod b))) (huo7_18_6) (rfl) (rfl) (rfl)) (IntV.of_ (n := (lim a.natAbs).length) (b := decide (a < 0)) (x := a) ((hu_a.ext ((((((((E3.trans E7).trans E11).trans E14).trans E19).trans E_w28).trans E31).trans E_w42).trans E_w'))) (rfl) (rfl) (rfl))
    rw [show (decide ((((a.fdiv b) * b) + ((if b = 0 then 0 else a.fmod b))) = a)) = true from by rw [decide_eq_true_eq, if_neg hb0]; exact fdm_add hb0] at hC
    refine op_call hF rfl TfLD.body19 (args2 (hF.ev rfl) (hF.ev rfl)) hC ?_
    clear hC
    rintro _ wo7_20_1 ⟨rfl, hbo7_20_2⟩
    clear hF; intro hF
    replace hS := hS.call hbo7_20_2; have Eo7_20_3 := Ext.call (go3_10_1 :: (go3_9_1 :: (g5 :: (g1 :: X)))) hbo7_20_2
    have hA1 := ((hA.put_other _ rfl).cons (hF.get 80 _ rfl))
    exact ⟨8, rfl, ⟨Ao7_16_4, co7_16_5, Ao7_18_4, co7_18_5, (hA1.take (hA1.take (hA1.take (hA1.take (hA1.take (hA1.take (hA1.take (hA1.take hA1.nil rfl) rfl) rfl) rfl) rfl) rfl) rfl) rfl), hS, (E_w'.trans Eo7_20_3), (huo7_16_6.ext Eo7_20_3), (huo7_18_6.ext Eo7_20_3)⟩, _, rfl, fun u hu => by cases hu <;> rfl⟩
  ·
   refine .inl ⟨rfl, _, _, rfl, rfl, fun s fa w' hΦ hF hB K hK => ?_⟩
   replace hF := hF.cons (hB.val 13 _ 73 _ rfl rfl rfl rfl)
   replace hF := hF.cons (hB.val 20 _ 80 _ rfl rfl rfl rfl)
   exact fl_val rfl rfl rfl (ex_pick (hF.ev rfl) (fun _ => hF.ev rfl) (v := undef) (fun h => by cases h) rfl) hK
  ·
   refine .inl ⟨rfl, _, _, rfl, rfl, fun s fa w' hΦ hF hB K hK => ?_⟩
   replace hF := hF.cons (hB.val 21 _ 81 _ rfl rfl rfl rfl)
   exact fl_val rfl rfl rfl (ex_assign (hF.ev rfl)) hK
 intro fa w43 hΦ hF hC
 obtain ⟨Ao7_16_4, co7_16_5, Ao7_18_4, co7_18_5, hA, hS, E_w43, huo7_16_6, huo7_18_6⟩ := hΦ
 replace hF := hF.cons (hC 22 _ 4 _ rfl rfl rfl)
 clear hA hC
 refine x_tn ?_
 refine c_ret ?_
 refine end1 hF rfl (res_tmp hF rfl) ?_
 exact ⟨_, rfl, (congrArg Value.bool (by simp_all)), hS.below⟩

end Go.Proofs.Ytlaojdpcfenlkaa
