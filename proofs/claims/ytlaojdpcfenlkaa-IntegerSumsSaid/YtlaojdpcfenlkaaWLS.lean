/-
  What the functions IntegerSums#bad, IntegerSums do, each call by call.
  Conditions: none.
-/
import Derived.Test.YtlaojdpcfenlkaaChecked
import Derived.Test.YtlaojdpcfenlkaaSwBaseK
import Derived.Test.YtlaojdpcfenlkaaWH
import Derived.Test.YtlaojdpcfenlkaaWJ
import Derived.Test.YtlaojdpcfenlkaaWK
import Derived.Test.YtlaojdpcfenlkaaWL
import Derived.Test.YtlaojdpcfenlkaaWM
import Derived.Test.YtlaojdpcfenlkaaWP
import Derived.Test.YtlaojdpcfenlkaaWT
import Derived.Test.YtlaojdpcfenlkaaWY
namespace Go.Proofs.Ytlaojdpcfenlkaa
open Go Go.RowKit Go.Sw
set_option linter.unusedVariables false
namespace TfLS
theorem body11 : hasBody Try.prog 11 = true := by kernel_rfl
theorem body12 : hasBody Try.prog 12 = true := by kernel_rfl
theorem body14 : hasBody Try.prog 14 = true := by kernel_rfl
theorem body15 : hasBody Try.prog 15 = true := by kernel_rfl
theorem body17 : hasBody Try.prog 17 = true := by kernel_rfl
theorem body19 : hasBody Try.prog 19 = true := by kernel_rfl
theorem body20 : hasBody Try.prog 20 = true := by kernel_rfl
theorem body28 : hasBody Try.prog 28 = true := by kernel_rfl
theorem body29 : hasBody Try.prog 29 = true := by kernel_rfl
theorem body30 : hasBody Try.prog 30 = true := by kernel_rfl
theorem body31 : hasBody Try.prog 31 = true := by kernel_rfl
theorem body32 : hasBody Try.prog 32 = true := by kernel_rfl
theorem body33 : hasBody Try.prog 33 = true := by kernel_rfl
theorem body34 : hasBody Try.prog 34 = true := by kernel_rfl
theorem el24 : Sw.elemOf Try.prog 24 = some (#[.bool false, .slice none 0 0], 2, 32) := by kernel_rfl
theorem mixed : Try.prog.follows .mixedOrders = true := by kernel_rfl
theorem row24 : isRow Try.prog 24 2 = true := by kernel_rfl
theorem size24 : (Try.prog.info? 24).map (fun i => i.size) = some 2 := by kernel_rfl
theorem sl47 : sliceOf Try.prog 47 = some (24, 2) := by kernel_rfl
theorem zero24 : zeroOf Try.prog 24 = some #[.bool false, .slice none 0 0] := by kernel_rfl
end TfLS
set_option maxHeartbeats 4000000 in
theorem swarflaw01_IntegerSums_bad_ok {w : World} {X : List Nat} (hX : ∀ m ∈ X, m < w.heap.size) {v_na : Value} {na : Bool} {la : List Nat} (h_na : RawV w X v_na (na) (la)) {v_nb : Value} {nb : Bool} {lb : List Nat} (h_nb : RawV w X v_nb (nb) (lb)) (hbad : ([(na, la), (nb, lb)].all fun p => decide ((p.2.length : Int) ≤ 16) && validL p.1 p.2) = false) :
    Calls Try.prog 7 #[v_na, v_nb] w (Ret fun r w' => (r = .bool (true)) ∧ Below w.heap.size w w') := by
 refine enter (N := 70) (fn := Try.f7) (vs := [v_na, v_nb]) Try.func7 rfl rfl rfl ?_
 intro fa hF
 obtain ⟨_, rfl, A_la, c_la, rfl, hu_la⟩ := h_na
 have hl_la := hu_la.len; have hc_la := hu_la.cap
 obtain ⟨_, rfl, A_lb, c_lb, rfl, hu_lb⟩ := h_nb
 have hl_lb := hu_lb.len; have hc_lb := hu_lb.cap
 replace hF : Frm 70 fa [(0, (.agg #[(.bool (na)), (.slice (A_la) (la.length) (c_la))])), (1, (.agg #[(.bool (nb)), (.slice (A_lb) (lb.length) (c_lb))]))] := hF
 have hS := St.refl w
 refine c_seq ?_
 refine c_reg ?_
 refine st rfl (op_box (X := X) hF hS rfl rfl rfl ?_)
 intro g1 w2 hg4 hS E3; refine gen_ ?_; clear hF fa; intro fa hF
 replace hS : St w w2 [(g1, 24, #[(.bool (na)), (.slice (A_la) (la.length) (c_la))])] := hS
 refine st rfl (op_box (X := (g1 :: X)) hF hS rfl rfl rfl ?_)
 intro g5 w6 hg8 hS E7; refine gen_ ?_; clear hF fa; intro fa hF
 replace hS : St w w6 [(g5, 24, #[(.bool (nb)), (.slice (A_lb) (lb.length) (c_lb))]), (g1, 24, #[(.bool (na)), (.slice (A_la) (la.length) (c_la))])] := hS
 refine st_val hF rfl rfl rfl (ex_assign (hF.ev rfl)) ?_
 clear hF fa; intro fa hF
 refine c_nil_then ?_
 refine c_seq ?_
 refine c_seq ?_
 refine c_reg ?_
 have hC := law01_awake_ok (w := w6) (X := (g5 :: (g1 :: X))) (hS.bnd hX) 
 refine st rfl (op_call hF rfl TfLS.body11 (args0) hC ?_)
 clear hC
 rintro _ w9 ⟨rfl, hb10⟩
 refine gen_ ?_; clear hF fa; intro fa hF
 replace hS := hS.call hb10; have E11 := Ext.call (g5 :: (g1 :: X)) hb10
 refine st_val hF rfl rfl rfl (ex_not (hF.ev rfl)) ?_
 clear hF fa; intro fa hF
 refine st_val hF rfl rfl rfl (ex_move (hF.ev rfl)) ?_
 clear hF fa; intro fa hF
 refine stg_val hF rfl rfl rfl rfl (ex_loadb TfLS.row24 (hF.ev rfl) (hS.get 1 rfl) rfl) ?_
 clear hF fa; intro fa hF
 refine stg_val hF rfl rfl rfl rfl (ex_loadb TfLS.row24 (hF.ev rfl) (hS.get 0 rfl) rfl) ?_
 clear hF fa; intro fa hF
 refine stg hF rfl rfl (op_lit (X := (g5 :: (g1 :: X))) hF hS (hS.bnd hX) rfl TfLS.sl47 TfLS.el24 rfl rfl (lits2 (hF.ev rfl) (hF.ev rfl)) fill_r2 ?_)
 intro g12 w13 hg15 hS E14 hc16; refine gen_ ?_; clear hF fa; intro fa hF
 have hC := law01_small_ok (w := w13) (X := (g5 :: (g1 :: X))) (zs := ([(na, la), (nb, lb)])) (hS.bnd hX) (RL.raw2 hc16 ⟨_, rfl, _, _, rfl, (hu_la.ext (((E3.trans E7).trans E11).trans E14))⟩ ⟨_, rfl, _, _, rfl, (hu_lb.ext (((E3.trans E7).trans E11).trans E14))⟩)
 rw [show ((([(na, la), (nb, lb)]).all fun p => decide ((p.2.length : Int) ≤ 16) && validL p.1 p.2)) = false from hbad] at hC
 refine stg hF rfl rfl (op_call hF rfl TfLS.body12 (args1 (hF.ev rfl)) hC ?_)
 clear hC
 rintro _ w17 ⟨rfl, hb18⟩
 refine gen_ ?_; clear hF fa; intro fa hF
 replace hS := hS.call hb18; have E19 := Ext.call (g5 :: (g1 :: X)) hb18
 refine stg_val hF rfl rfl rfl rfl (ex_not (hF.ev rfl)) ?_
 clear hF fa; intro fa hF
 refine st_val hF rfl rfl rfl (ex_pick (hF.ev rfl) (u := undef) (fun h => by cases h) (fun _ => hF.ev rfl) rfl) ?_
 clear hF fa; intro fa hF
 refine c_nil_then ?_
 refine c_cond hF rfl (fun hc => ?_) (fun hc => ?_)
 rotate_left
 ·
  cases hc
 refine c_seq ?_
 refine c_reg ?_
 have hC := law01_awake_ok (w := w17) (X := (g5 :: (g1 :: X))) (hS.bnd hX) 
 refine st rfl (op_call hF rfl TfLS.body11 (args0) hC ?_)
 clear hC
 rintro _ w20 ⟨rfl, hb21⟩
 refine gen_ ?_; clear hF fa; intro fa hF
 replace hS := hS.call hb21; have E22 := Ext.call (g5 :: (g1 :: X)) hb21
 refine st_val hF rfl rfl rfl (ex_assign (hF.ev rfl)) ?_
 clear hF fa; intro fa hF
 refine c_nil_then ?_
 refine c_ret ?_
 refine x_tr ?_
 refine end1 hF rfl (res_tmp hF rfl) ?_
 exact ⟨_, rfl, (congrArg Value.bool (by simp_all)), hS.below⟩

set_option maxHeartbeats 4000000 in
theorem law01_IntegerSums_ok {w : World} {X : List Nat} (hX : ∀ m ∈ X, m < w.heap.size) {v_a : Value} {a : Int} (h_a : IntV w X v_a (a)) {v_b : Value} {b : Int} (h_b : IntV w X v_b (b)) (hs_a : sz a ≤ 16) (hs_b : sz b ≤ 16) :
    Calls Try.prog 7 #[v_a, v_b] w (Ret fun r w' => (r = .bool (true)) ∧ Below w.heap.size w w') := by
 refine enter (N := 70) (fn := Try.f7) (vs := [v_a, v_b]) Try.func7 rfl rfl rfl ?_
 intro fa hF
 obtain ⟨_, rfl, A_a, c_a, rfl, hu_a⟩ := h_a
 have hl_a := hu_a.len; have hc_a := hu_a.cap
 obtain ⟨_, rfl, A_b, c_b, rfl, hu_b⟩ := h_b
 have hl_b := hu_b.len; have hc_b := hu_b.cap
 replace hF : Frm 70 fa [(0, (.agg (ic (A_a) (c_a) (a)))), (1, (.agg (ic (A_b) (c_b) (b))))] := hF
 have hS := St.refl w
 have hs_a0 := hs_a; have hs_b0 := hs_b; unfold sz at hs_a0 hs_b0
 refine c_seq ?_
 refine c_reg ?_
 refine st rfl (op_box (X := X) hF hS rfl rfl rfl ?_)
 intro g1 w2 hg4 hS E3; refine gen_ ?_; clear hF fa; intro fa hF
 replace hS : St w w2 [(g1, 24, (ic (A_a) (c_a) (a)))] := hS
 refine st rfl (op_box (X := (g1 :: X)) hF hS rfl rfl rfl ?_)
 intro g5 w6 hg8 hS E7; refine gen_ ?_; clear hF fa; intro fa hF
 replace hS : St w w6 [(g5, 24, (ic (A_b) (c_b) (b))), (g1, 24, (ic (A_a) (c_a) (a)))] := hS
 refine st_val hF rfl rfl rfl (ex_assign (hF.ev rfl)) ?_
 clear hF fa; intro fa hF
 refine c_nil_then ?_
 refine c_seq ?_
 refine c_seq ?_
 refine c_reg ?_
 have hC := law01_awake_ok (w := w6) (X := (g5 :: (g1 :: X))) (hS.bnd hX) 
 refine st rfl (op_call hF rfl TfLS.body11 (args0) hC ?_)
 clear hC
 rintro _ w9 ⟨rfl, hb10⟩
 refine gen_ ?_; clear hF fa; intro fa hF
 replace hS := hS.call hb10; have E11 := Ext.call (g5 :: (g1 :: X)) hb10
 refine st_val hF rfl rfl rfl (ex_not (hF.ev rfl)) ?_
 clear hF fa; intro fa hF
 refine st_val hF rfl rfl rfl (ex_move (hF.ev rfl)) ?_
 clear hF fa; intro fa hF
 refine stg_val hF rfl rfl rfl rfl (ex_loadb TfLS.row24 (hF.ev rfl) (hS.get 1 rfl) rfl) ?_
 clear hF fa; intro fa hF
 refine stg_val hF rfl rfl rfl rfl (ex_loadb TfLS.row24 (hF.ev rfl) (hS.get 0 rfl) rfl) ?_
 clear hF fa; intro fa hF
 refine stg hF rfl rfl (op_lit (X := (g5 :: (g1 :: X))) hF hS (hS.bnd hX) rfl TfLS.sl47 TfLS.el24 rfl rfl (lits2 (hF.ev rfl) (hF.ev rfl)) fill_r2 ?_)
 intro g12 w13 hg15 hS E14 hc16; refine gen_ ?_; clear hF fa; intro fa hF
 have hC := law01_small_ok (w := w13) (X := (g5 :: (g1 :: X))) (zs := ([(decide (a < 0), (lim a.natAbs)), (decide (b < 0), (lim b.natAbs))])) (hS.bnd hX) (RL.raw2 hc16 ⟨_, rfl, _, _, rfl, (hu_a.ext (((E3.trans E7).trans E11).trans E14))⟩ ⟨_, rfl, _, _, rfl, (hu_b.ext (((E3.trans E7).trans E11).trans E14))⟩)
 rw [show ((([(decide (a < 0), (lim a.natAbs)), (decide (b < 0), (lim b.natAbs))]).all fun p => decide ((p.2.length : Int) ≤ 16) && validL p.1 p.2)) = true from small2 hs_a hs_b] at hC
 refine stg hF rfl rfl (op_call hF rfl TfLS.body12 (args1 (hF.ev rfl)) hC ?_)
 clear hC
 rintro _ w17 ⟨rfl, hb18⟩
 refine gen_ ?_; clear hF fa; intro fa hF
 replace hS := hS.call hb18; have E19 := Ext.call (g5 :: (g1 :: X)) hb18
 refine stg_val hF rfl rfl rfl rfl (ex_not (hF.ev rfl)) ?_
 clear hF fa; intro fa hF
 refine st_val hF rfl rfl rfl (ex_pick (hF.ev rfl) (u := undef) (fun h => by cases h) (fun _ => hF.ev rfl) rfl) ?_
 clear hF fa; intro fa hF
 refine c_nil_then ?_
 refine c_cond hF rfl (fun hc => ?_) (fun hc => ?_)
 ·
  cases hc
 refine c_skip ?_
 refine x_tn ?_
 refine c_seq ?_
 refine drawn2 (N := 70) (L0 := [(0, (.agg (ic (A_a) (c_a) (a)))), (1, (.agg (ic (A_b) (c_b) (b)))), (2, (.pointer (some ⟨g1, 0, none⟩))), (3, (.pointer (some ⟨g5, 0, none⟩))), (4, (.bool (false))), (15, (.bool (false)))]) [some (.agg (ic (A_a) (c_a) (a))), none, some (.agg (ic (A_b) (c_b) (b))), none, none, none, none, none] [1, 3, 4, 5, 6, 7] [[], [1], [4], [5], [1, 3], [1, 4], [1, 5], [4, 5], [1, 3, 4], [1, 3, 5], [1, 4, 5], [1, 3, 4, 5], [1, 3, 4, 5, 6], [1, 3, 4, 5, 6, 7]] [[0, 2, 3, 7], [0, 2, 3, 7], [0, 1, 2, 3, 5, 6, 7, 10], [1, 5, 6, 10], [0, 1, 3, 4, 6, 9], [0, 1, 2, 4, 5, 8], [11], [12]] 13 [
       fun fa w' => Frm 70 fa [] ∧ St w w' [(g5, 24, (ic (A_b) (c_b) (b))), (g1, 24, (ic (A_a) (c_a) (a)))] ∧ Ext w17 (g5 :: (g1 :: X)) w' (g5 :: (g1 :: X))
       , fun fa w' => ∃ Ao3_1_4 : Option Addr, ∃ co3_1_5 : Nat, Frm 70 fa [(18, (.agg #[(.bool ((decide (a < 0)))), (.slice (Ao3_1_4) ((((lim a.natAbs))).length) (co3_1_5))]))] ∧ St w w' [(g5, 24, (ic (A_b) (c_b) (b))), (g1, 24, (ic (A_a) (c_a) (a)))] ∧ Ext w17 (g5 :: (g1 :: X)) w' (g5 :: (g1 :: X)) ∧ UC w' (g5 :: (g1 :: X)) Ao3_1_4 co3_1_5 (((lim a.natAbs)))
       , fun fa w' => ∃ go3_4_1 : Nat, Frm 70 fa [(5, (.pointer (some ⟨go3_4_1, 0, none⟩)))] ∧ St w w' [(go3_4_1, 24, #[(.bool (false)), (.slice (none) (0) (0))]), (g5, 24, (ic (A_b) (c_b) (b))), (g1, 24, (ic (A_a) (c_a) (a)))] ∧ Ext w17 (g5 :: (g1 :: X)) w' (go3_4_1 :: (g5 :: (g1 :: X)))
       , fun fa w' => ∃ go3_5_1 : Nat, Frm 70 fa [(6, (.pointer (some ⟨go3_5_1, 0, none⟩)))] ∧ St w w' [(go3_5_1, 24, #[(.bool (false)), (.slice (none) (0) (0))]), (g5, 24, (ic (A_b) (c_b) (b))), (g1, 24, (ic (A_a) (c_a) (a)))] ∧ Ext w17 (g5 :: (g1 :: X)) w' (go3_5_1 :: (g5 :: (g1 :: X)))
       , fun fa w' => ∃ Ao3_1_4 : Option Addr, ∃ co3_1_5 : Nat, ∃ Ao3_3_4 : Option Addr, ∃ co3_3_5 : Nat, Frm 70 fa [(18, (.agg #[(.bool ((decide (a < 0)))), (.slice (Ao3_1_4) ((((lim a.natAbs))).length) (co3_1_5))])), (20, (.agg #[(.bool ((decide (b < 0)))), (.slice (Ao3_3_4) ((((lim b.natAbs))).length) (co3_3_5))]))] ∧ St w w' [(g5, 24, (ic (A_b) (c_b) (b))), (g1, 24, (ic (A_a) (c_a) (a)))] ∧ Ext w17 (g5 :: (g1 :: X)) w' (g5 :: (g1 :: X)) ∧ UC w' (g5 :: (g1 :: X)) Ao3_1_4 co3_1_5 (((lim a.natAbs))) ∧ UC w' (g5 :: (g1 :: X)) Ao3_3_4 co3_3_5 (((lim b.natAbs)))
       , fun fa w' => ∃ Ao3_1_4 : Option Addr, ∃ co3_1_5 : Nat, ∃ go3_4_1 : Nat, Frm 70 fa [(18, (.agg #[(.bool ((decide (a < 0)))), (.slice (Ao3_1_4) ((((lim a.natAbs))).length) (co3_1_5))])), (5, (.pointer (some ⟨go3_4_1, 0, none⟩)))] ∧ St w w' [(go3_4_1, 24, #[(.bool (false)), (.slice (none) (0) (0))]), (g5, 24, (ic (A_b) (c_b) (b))), (g1, 24, (ic (A_a) (c_a) (a)))] ∧ Ext w17 (g5 :: (g1 :: X)) w' (go3_4_1 :: (g5 :: (g1 :: X))) ∧ UC w' (go3_4_1 :: (g5 :: (g1 :: X))) Ao3_1_4 co3_1_5 (((lim a.natAbs)))
       , fun fa w' => ∃ Ao3_1_4 : Option Addr, ∃ co3_1_5 : Nat, ∃ go3_5_1 : Nat, Frm 70 fa [(18, (.agg #[(.bool ((decide (a < 0)))), (.slice (Ao3_1_4) ((((lim a.natAbs))).length) (co3_1_5))])), (6, (.pointer (some ⟨go3_5_1, 0, none⟩)))] ∧ St w w' [(go3_5_1, 24, #[(.bool (false)), (.slice (none) (0) (0))]), (g5, 24, (ic (A_b) (c_b) (b))), (g1, 24, (ic (A_a) (c_a) (a)))] ∧ Ext w17 (g5 :: (g1 :: X)) w' (go3_5_1 :: (g5 :: (g1 :: X))) ∧ UC w' (go3_5_1 :: (g5 :: (g1 :: X))) Ao3_1_4 co3_1_5 (((lim a.natAbs)))
       , fun fa w' => ∃ go3_4_1 : Nat, ∃ go3_5_1 : Nat, Frm 70 fa [(5, (.pointer (some ⟨go3_4_1, 0, none⟩))), (6, (.pointer (some ⟨go3_5_1, 0, none⟩)))] ∧ St w w' [(go3_5_1, 24, #[(.bool (false)), (.slice (none) (0) (0))]), (go3_4_1, 24, #[(.bool (false)), (.slice (none) (0) (0))]), (g5, 24, (ic (A_b) (c_b) (b))), (g1, 24, (ic (A_a) (c_a) (a)))] ∧ Ext w17 (g5 :: (g1 :: X)) w' (go3_5_1 :: (go3_4_1 :: (g5 :: (g1 :: X))))
       , fun fa w' => ∃ Ao3_1_4 : Option Addr, ∃ co3_1_5 : Nat, ∃ Ao3_3_4 : Option Addr, ∃ co3_3_5 : Nat, ∃ go3_4_1 : Nat, Frm 70 fa [(18, (.agg #[(.bool ((decide (a < 0)))), (.slice (Ao3_1_4) ((((lim a.natAbs))).length) (co3_1_5))])), (20, (.agg #[(.bool ((decide (b < 0)))), (.slice (Ao3_3_4) ((((lim b.natAbs))).length) (co3_3_5))])), (5, (.pointer (some ⟨go3_4_1, 0, none⟩)))] ∧ St w w' [(go3_4_1, 24, #[(.bool (false)), (.slice (none) (0) (0))]), (g5, 24, (ic (A_b) (c_b) (b))), (g1, 24, (ic (A_a) (c_a) (a)))] ∧ Ext w17 (g5 :: (g1 :: X)) w' (go3_4_1 :: (g5 :: (g1 :: X))) ∧ UC w' (go3_4_1 :: (g5 :: (g1 :: X))) Ao3_1_4 co3_1_5 (((lim a.natAbs))) ∧ UC w' (go3_4_1 :: (g5 :: (g1 :: X))) Ao3_3_4 co3_3_5 (((lim b.natAbs)))
       , fun fa w' => ∃ Ao3_1_4 : Option Addr, ∃ co3_1_5 : Nat, ∃ Ao3_3_4 : Option Addr, ∃ co3_3_5 : Nat, ∃ go3_5_1 : Nat, Frm 70 fa [(18, (.agg #[(.bool ((decide (a < 0)))), (.slice (Ao3_1_4) ((((lim a.natAbs))).length) (co3_1_5))])), (20, (.agg #[(.bool ((decide (b < 0)))), (.slice (Ao3_3_4) ((((lim b.natAbs))).length) (co3_3_5))])), (6, (.pointer (some ⟨go3_5_1, 0, none⟩)))] ∧ St w w' [(go3_5_1, 24, #[(.bool (false)), (.slice (none) (0) (0))]), (g5, 24, (ic (A_b) (c_b) (b))), (g1, 24, (ic (A_a) (c_a) (a)))] ∧ Ext w17 (g5 :: (g1 :: X)) w' (go3_5_1 :: (g5 :: (g1 :: X))) ∧ UC w' (go3_5_1 :: (g5 :: (g1 :: X))) Ao3_1_4 co3_1_5 (((lim a.natAbs))) ∧ UC w' (go3_5_1 :: (g5 :: (g1 :: X))) Ao3_3_4 co3_3_5 (((lim b.natAbs)))
       , fun fa w' => ∃ Ao3_1_4 : Option Addr, ∃ co3_1_5 : Nat, ∃ go3_4_1 : Nat, ∃ go3_5_1 : Nat, Frm 70 fa [(18, (.agg #[(.bool ((decide (a < 0)))), (.slice (Ao3_1_4) ((((lim a.natAbs))).length) (co3_1_5))])), (5, (.pointer (some ⟨go3_4_1, 0, none⟩))), (6, (.pointer (some ⟨go3_5_1, 0, none⟩)))] ∧ St w w' [(go3_5_1, 24, #[(.bool (false)), (.slice (none) (0) (0))]), (go3_4_1, 24, #[(.bool (false)), (.slice (none) (0) (0))]), (g5, 24, (ic (A_b) (c_b) (b))), (g1, 24, (ic (A_a) (c_a) (a)))] ∧ Ext w17 (g5 :: (g1 :: X)) w' (go3_5_1 :: (go3_4_1 :: (g5 :: (g1 :: X)))) ∧ UC w' (go3_5_1 :: (go3_4_1 :: (g5 :: (g1 :: X)))) Ao3_1_4 co3_1_5 (((lim a.natAbs)))
       , fun fa w' => ∃ Ao3_1_4 : Option Addr, ∃ co3_1_5 : Nat, ∃ Ao3_3_4 : Option Addr, ∃ co3_3_5 : Nat, ∃ go3_4_1 : Nat, ∃ go3_5_1 : Nat, Frm 70 fa [(18, (.agg #[(.bool ((decide (a < 0)))), (.slice (Ao3_1_4) ((((lim a.natAbs))).length) (co3_1_5))])), (20, (.agg #[(.bool ((decide (b < 0)))), (.slice (Ao3_3_4) ((((lim b.natAbs))).length) (co3_3_5))])), (5, (.pointer (some ⟨go3_4_1, 0, none⟩))), (6, (.pointer (some ⟨go3_5_1, 0, none⟩)))] ∧ St w w' [(go3_5_1, 24, #[(.bool (false)), (.slice (none) (0) (0))]), (go3_4_1, 24, #[(.bool (false)), (.slice (none) (0) (0))]), (g5, 24, (ic (A_b) (c_b) (b))), (g1, 24, (ic (A_a) (c_a) (a)))] ∧ Ext w17 (g5 :: (g1 :: X)) w' (go3_5_1 :: (go3_4_1 :: (g5 :: (g1 :: X)))) ∧ UC w' (go3_5_1 :: (go3_4_1 :: (g5 :: (g1 :: X)))) Ao3_1_4 co3_1_5 (((lim a.natAbs))) ∧ UC w' (go3_5_1 :: (go3_4_1 :: (g5 :: (g1 :: X)))) Ao3_3_4 co3_3_5 (((lim b.natAbs)))
       , fun fa w' => ∃ Ao3_1_4 : Option Addr, ∃ co3_1_5 : Nat, ∃ Ao3_3_4 : Option Addr, ∃ co3_3_5 : Nat, ∃ go3_4_1 : Nat, ∃ go3_5_1 : Nat, Frm 70 fa [(18, (.agg #[(.bool ((decide (a < 0)))), (.slice (Ao3_1_4) ((((lim a.natAbs))).length) (co3_1_5))])), (20, (.agg #[(.bool ((decide (b < 0)))), (.slice (Ao3_3_4) ((((lim b.natAbs))).length) (co3_3_5))])), (5, (.pointer (some ⟨go3_4_1, 0, none⟩))), (6, (.pointer (some ⟨go3_5_1, 0, none⟩)))] ∧ St w w' [(go3_5_1, 24, #[(.bool (false)), (.slice (none) (0) (0))]), (go3_4_1, 24, #[(.bool ((decide (a < 0)))), (.slice (Ao3_1_4) ((((lim a.natAbs))).length) (co3_1_5))]), (g5, 24, (ic (A_b) (c_b) (b))), (g1, 24, (ic (A_a) (c_a) (a)))] ∧ Ext w17 (g5 :: (g1 :: X)) w' (go3_5_1 :: (go3_4_1 :: (g5 :: (g1 :: X)))) ∧ UC w' (go3_5_1 :: (go3_4_1 :: (g5 :: (g1 :: X)))) Ao3_1_4 co3_1_5 (((lim a.natAbs))) ∧ UC w' (go3_5_1 :: (go3_4_1 :: (g5 :: (g1 :: X)))) Ao3_3_4 co3_3_5 (((lim b.natAbs)))
       , fun fa w' => ∃ Ao3_1_4 : Option Addr, ∃ co3_1_5 : Nat, ∃ Ao3_3_4 : Option Addr, ∃ co3_3_5 : Nat, ∃ go3_4_1 : Nat, ∃ go3_5_1 : Nat, Frm 70 fa [(18, (.agg #[(.bool ((decide (a < 0)))), (.slice (Ao3_1_4) ((((lim a.natAbs))).length) (co3_1_5))])), (20, (.agg #[(.bool ((decide (b < 0)))), (.slice (Ao3_3_4) ((((lim b.natAbs))).length) (co3_3_5))])), (5, (.pointer (some ⟨go3_4_1, 0, none⟩))), (6, (.pointer (some ⟨go3_5_1, 0, none⟩)))] ∧ St w w' [(go3_5_1, 24, #[(.bool ((decide (b < 0)))), (.slice (Ao3_3_4) ((((lim b.natAbs))).length) (co3_3_5))]), (go3_4_1, 24, #[(.bool ((decide (a < 0)))), (.slice (Ao3_1_4) ((((lim a.natAbs))).length) (co3_1_5))]), (g5, 24, (ic (A_b) (c_b) (b))), (g1, 24, (ic (A_a) (c_a) (a)))] ∧ Ext w17 (g5 :: (g1 :: X)) w' (go3_5_1 :: (go3_4_1 :: (g5 :: (g1 :: X)))) ∧ UC w' (go3_5_1 :: (go3_4_1 :: (g5 :: (g1 :: X)))) Ao3_1_4 co3_1_5 (((lim a.natAbs))) ∧ UC w' (go3_5_1 :: (go3_4_1 :: (g5 :: (g1 :: X)))) Ao3_3_4 co3_3_5 (((lim b.natAbs)))
     ] TfLS.mixed rfl rfl rfl rfl rfl rfl (hF.take (hF.take (hF.take (hF.take (hF.take (hF.take hF.nil rfl) rfl) rfl) rfl) rfl) rfl) rfl ⟨hF.nil, hS.drew, Ext.drew _ _⟩ ?_ ?_ ?_
 all_goals clear hF fa
 ·
  refine ⟨?_, ?_, ?_, ?_, ?_, ?_, ?_, ?_, ?_, ?_, ?_, ?_, ?_, ?_, trivial⟩
  ·
   rintro fa w' i o d v ho hd hna ⟨hA, hR⟩; exact ⟨hA.put_other v (freeOf_at (acts := [1, 3, 4, 5, 6, 7]) rfl ho hd hna), hR⟩
  ·
   rintro fa w' i o d v ho hd hna ⟨Ao3_1_4, co3_1_5, hA, hR⟩; exact ⟨Ao3_1_4, co3_1_5, hA.put_other v (freeOf_at (acts := [1, 3, 4, 5, 6, 7]) rfl ho hd hna), hR⟩
  ·
   rintro fa w' i o d v ho hd hna ⟨go3_4_1, hA, hR⟩; exact ⟨go3_4_1, hA.put_other v (freeOf_at (acts := [1, 3, 4, 5, 6, 7]) rfl ho hd hna), hR⟩
  ·
   rintro fa w' i o d v ho hd hna ⟨go3_5_1, hA, hR⟩; exact ⟨go3_5_1, hA.put_other v (freeOf_at (acts := [1, 3, 4, 5, 6, 7]) rfl ho hd hna), hR⟩
  ·
   rintro fa w' i o d v ho hd hna ⟨Ao3_1_4, co3_1_5, Ao3_3_4, co3_3_5, hA, hR⟩; exact ⟨Ao3_1_4, co3_1_5, Ao3_3_4, co3_3_5, hA.put_other v (freeOf_at (acts := [1, 3, 4, 5, 6, 7]) rfl ho hd hna), hR⟩
  ·
   rintro fa w' i o d v ho hd hna ⟨Ao3_1_4, co3_1_5, go3_4_1, hA, hR⟩; exact ⟨Ao3_1_4, co3_1_5, go3_4_1, hA.put_other v (freeOf_at (acts := [1, 3, 4, 5, 6, 7]) rfl ho hd hna), hR⟩
  ·
   rintro fa w' i o d v ho hd hna ⟨Ao3_1_4, co3_1_5, go3_5_1, hA, hR⟩; exact ⟨Ao3_1_4, co3_1_5, go3_5_1, hA.put_other v (freeOf_at (acts := [1, 3, 4, 5, 6, 7]) rfl ho hd hna), hR⟩
  ·
   rintro fa w' i o d v ho hd hna ⟨go3_4_1, go3_5_1, hA, hR⟩; exact ⟨go3_4_1, go3_5_1, hA.put_other v (freeOf_at (acts := [1, 3, 4, 5, 6, 7]) rfl ho hd hna), hR⟩
  ·
   rintro fa w' i o d v ho hd hna ⟨Ao3_1_4, co3_1_5, Ao3_3_4, co3_3_5, go3_4_1, hA, hR⟩; exact ⟨Ao3_1_4, co3_1_5, Ao3_3_4, co3_3_5, go3_4_1, hA.put_other v (freeOf_at (acts := [1, 3, 4, 5, 6, 7]) rfl ho hd hna), hR⟩
  ·
   rintro fa w' i o d v ho hd hna ⟨Ao3_1_4, co3_1_5, Ao3_3_4, co3_3_5, go3_5_1, hA, hR⟩; exact ⟨Ao3_1_4, co3_1_5, Ao3_3_4, co3_3_5, go3_5_1, hA.put_other v (freeOf_at (acts := [1, 3, 4, 5, 6, 7]) rfl ho hd hna), hR⟩
  ·
   rintro fa w' i o d v ho hd hna ⟨Ao3_1_4, co3_1_5, go3_4_1, go3_5_1, hA, hR⟩; exact ⟨Ao3_1_4, co3_1_5, go3_4_1, go3_5_1, hA.put_other v (freeOf_at (acts := [1, 3, 4, 5, 6, 7]) rfl ho hd hna), hR⟩
  ·
   rintro fa w' i o d v ho hd hna ⟨Ao3_1_4, co3_1_5, Ao3_3_4, co3_3_5, go3_4_1, go3_5_1, hA, hR⟩; exact ⟨Ao3_1_4, co3_1_5, Ao3_3_4, co3_3_5, go3_4_1, go3_5_1, hA.put_other v (freeOf_at (acts := [1, 3, 4, 5, 6, 7]) rfl ho hd hna), hR⟩
  ·
   rintro fa w' i o d v ho hd hna ⟨Ao3_1_4, co3_1_5, Ao3_3_4, co3_3_5, go3_4_1, go3_5_1, hA, hR⟩; exact ⟨Ao3_1_4, co3_1_5, Ao3_3_4, co3_3_5, go3_4_1, go3_5_1, hA.put_other v (freeOf_at (acts := [1, 3, 4, 5, 6, 7]) rfl ho hd hna), hR⟩
  ·
   rintro fa w' i o d v ho hd hna ⟨Ao3_1_4, co3_1_5, Ao3_3_4, co3_3_5, go3_4_1, go3_5_1, hA, hR⟩; exact ⟨Ao3_1_4, co3_1_5, Ao3_3_4, co3_3_5, go3_4_1, go3_5_1, hA.put_other v (freeOf_at (acts := [1, 3, 4, 5, 6, 7]) rfl ho hd hna), hR⟩
 ·
  refine ⟨?_, ?_, ?_, ?_, ?_, ?_, ?_, ?_, trivial⟩
  ·
   refine .inr (.inl ⟨rfl, _, _, rfl, rfl, ?_, ?_, ?_, ?_, trivial⟩)
   ·
    intro fa w' hΦ hF hB K hK
    obtain ⟨hA, hS, E_w'⟩ := hΦ
    exact fl_val rfl rfl rfl (ex_loadb TfLS.row24 (hF.ev rfl) (hS.get 1 rfl) rfl) hK
   ·
    intro fa w' hΦ hF hB K hK
    obtain ⟨go3_4_1, hA, hS, E_w'⟩ := hΦ
    exact fl_val rfl rfl rfl (ex_loadb TfLS.row24 (hF.ev rfl) (hS.get 2 rfl) rfl) hK
   ·
    intro fa w' hΦ hF hB K hK
    obtain ⟨go3_5_1, hA, hS, E_w'⟩ := hΦ
    exact fl_val rfl rfl rfl (ex_loadb TfLS.row24 (hF.ev rfl) (hS.get 2 rfl) rfl) hK
   ·
    intro fa w' hΦ hF hB K hK
    obtain ⟨go3_4_1, go3_5_1, hA, hS, E_w'⟩ := hΦ
    exact fl_val rfl rfl rfl (ex_loadb TfLS.row24 (hF.ev rfl) (hS.get 3 rfl) rfl) hK
  ·
   refine .inr (.inr ⟨rfl, ?_, ?_, ?_, ?_, trivial⟩)
   ·
    intro fa w' hΦ hF hB
    obtain ⟨hA, hS, E_w'⟩ := hΦ
    replace hF := hF.cons (hB.val 0 _ 17 _ rfl rfl rfl rfl)
    refine wop rfl rfl ?_
    have hC := law01_cp_ok (w := w') (X := (g5 :: (g1 :: X))) (ng := (decide (a < 0))) (l := (lim a.natAbs)) (hS.bnd hX) ⟨_, rfl, _, _, rfl, (hu_a.ext (((((E3.trans E7).trans E11).trans E14).trans E19).trans E_w'))⟩ (by omega)
    refine op_call hF rfl TfLS.body14 (args1 (hF.ev rfl)) hC ?_
    clear hC
    rintro _ wo3_1_1 ⟨⟨_, rfl, Ao3_1_4, co3_1_5, rfl, huo3_1_6⟩, hbo3_1_2⟩
    clear hF; intro hF
    replace hS := hS.call hbo3_1_2; have Eo3_1_3 := Ext.call (g5 :: (g1 :: X)) hbo3_1_2
    have hA1 := ((hA.put_other _ rfl).cons (hF.get 18 _ rfl))
    exact ⟨1, rfl, ⟨Ao3_1_4, co3_1_5, (hA1.take hA1.nil rfl), hS, (E_w'.trans Eo3_1_3), huo3_1_6⟩, _, rfl, fun u hu => by cases hu <;> rfl⟩
   ·
    intro fa w' hΦ hF hB
    obtain ⟨go3_4_1, hA, hS, E_w'⟩ := hΦ
    replace hF := hF.cons (hB.val 0 _ 17 _ rfl rfl rfl rfl)
    refine wop rfl rfl ?_
    have hC := law01_cp_ok (w := w') (X := (go3_4_1 :: (g5 :: (g1 :: X)))) (ng := (decide (a < 0))) (l := (lim a.natAbs)) (hS.bnd hX) ⟨_, rfl, _, _, rfl, (hu_a.ext (((((E3.trans E7).trans E11).trans E14).trans E19).trans E_w'))⟩ (by omega)
    refine op_call hF rfl TfLS.body14 (args1 (hF.ev rfl)) hC ?_
    clear hC
    rintro _ wo3_1_1 ⟨⟨_, rfl, Ao3_1_4, co3_1_5, rfl, huo3_1_6⟩, hbo3_1_2⟩
    clear hF; intro hF
    replace hS := hS.call hbo3_1_2; have Eo3_1_3 := Ext.call (go3_4_1 :: (g5 :: (g1 :: X))) hbo3_1_2
    have hA1 := ((hA.put_other _ rfl).cons (hF.get 18 _ rfl))
    exact ⟨5, rfl, ⟨Ao3_1_4, co3_1_5, go3_4_1, (hA1.take (hA1.take hA1.nil rfl) rfl), hS, (E_w'.trans Eo3_1_3), huo3_1_6⟩, _, rfl, fun u hu => by cases hu <;> rfl⟩
   ·
    intro fa w' hΦ hF hB
    obtain ⟨go3_5_1, hA, hS, E_w'⟩ := hΦ
    replace hF := hF.cons (hB.val 0 _ 17 _ rfl rfl rfl rfl)
    refine wop rfl rfl ?_
    have hC := law01_cp_ok (w := w') (X := (go3_5_1 :: (g5 :: (g1 :: X)))) (ng := (decide (a < 0))) (l := (lim a.natAbs)) (hS.bnd hX) ⟨_, rfl, _, _, rfl, (hu_a.ext (((((E3.trans E7).trans E11).trans E14).trans E19).trans E_w'))⟩ (by omega)
    refine op_call hF rfl TfLS.body14 (args1 (hF.ev rfl)) hC ?_
    clear hC
    rintro _ wo3_1_1 ⟨⟨_, rfl, Ao3_1_4, co3_1_5, rfl, huo3_1_6⟩, hbo3_1_2⟩
    clear hF; intro hF
    replace hS := hS.call hbo3_1_2; have Eo3_1_3 := Ext.call (go3_5_1 :: (g5 :: (g1 :: X))) hbo3_1_2
    have hA1 := ((hA.put_other _ rfl).cons (hF.get 18 _ rfl))
    exact ⟨6, rfl, ⟨Ao3_1_4, co3_1_5, go3_5_1, (hA1.take (hA1.take hA1.nil rfl) rfl), hS, (E_w'.trans Eo3_1_3), huo3_1_6⟩, _, rfl, fun u hu => by cases hu <;> rfl⟩
   ·
    intro fa w' hΦ hF hB
    obtain ⟨go3_4_1, go3_5_1, hA, hS, E_w'⟩ := hΦ
    replace hF := hF.cons (hB.val 0 _ 17 _ rfl rfl rfl rfl)
    refine wop rfl rfl ?_
    have hC := law01_cp_ok (w := w') (X := (go3_5_1 :: (go3_4_1 :: (g5 :: (g1 :: X))))) (ng := (decide (a < 0))) (l := (lim a.natAbs)) (hS.bnd hX) ⟨_, rfl, _, _, rfl, (hu_a.ext (((((E3.trans E7).trans E11).trans E14).trans E19).trans E_w'))⟩ (by omega)
    refine op_call hF rfl TfLS.body14 (args1 (hF.ev rfl)) hC ?_
    clear hC
    rintro _ wo3_1_1 ⟨⟨_, rfl, Ao3_1_4, co3_1_5, rfl, huo3_1_6⟩, hbo3_1_2⟩
    clear hF; intro hF
    replace hS := hS.call hbo3_1_2; have Eo3_1_3 := Ext.call (go3_5_1 :: (go3_4_1 :: (g5 :: (g1 :: X)))) hbo3_1_2
    have hA1 := ((hA.put_other _ rfl).cons (hF.get 18 _ rfl))
    exact ⟨10, rfl, ⟨Ao3_1_4, co3_1_5, go3_4_1, go3_5_1, (hA1.take (hA1.take (hA1.take hA1.nil rfl) rfl) rfl), hS, (E_w'.trans Eo3_1_3), huo3_1_6⟩, _, rfl, fun u hu => by cases hu <;> rfl⟩
  ·
   refine .inr (.inl ⟨rfl, _, _, rfl, rfl, ?_, ?_, ?_, ?_, ?_, ?_, ?_, ?_, trivial⟩)
   ·
    intro fa w' hΦ hF hB K hK
    obtain ⟨hA, hS, E_w'⟩ := hΦ
    exact fl_val rfl rfl rfl (ex_loadb TfLS.row24 (hF.ev rfl) (hS.get 0 rfl) rfl) hK
   ·
    intro fa w' hΦ hF hB K hK
    obtain ⟨Ao3_1_4, co3_1_5, hA, hS, E_w', huo3_1_6⟩ := hΦ
    exact fl_val rfl rfl rfl (ex_loadb TfLS.row24 (hF.ev rfl) (hS.get 0 rfl) rfl) hK
   ·
    intro fa w' hΦ hF hB K hK
    obtain ⟨go3_4_1, hA, hS, E_w'⟩ := hΦ
    exact fl_val rfl rfl rfl (ex_loadb TfLS.row24 (hF.ev rfl) (hS.get 1 rfl) rfl) hK
   ·
    intro fa w' hΦ hF hB K hK
    obtain ⟨go3_5_1, hA, hS, E_w'⟩ := hΦ
    exact fl_val rfl rfl rfl (ex_loadb TfLS.row24 (hF.ev rfl) (hS.get 1 rfl) rfl) hK
   ·
    intro fa w' hΦ hF hB K hK
    obtain ⟨Ao3_1_4, co3_1_5, go3_4_1, hA, hS, E_w', huo3_1_6⟩ := hΦ
    exact fl_val rfl rfl rfl (ex_loadb TfLS.row24 (hF.ev rfl) (hS.get 1 rfl) rfl) hK
   ·
    intro fa w' hΦ hF hB K hK
    obtain ⟨Ao3_1_4, co3_1_5, go3_5_1, hA, hS, E_w', huo3_1_6⟩ := hΦ
    exact fl_val rfl rfl rfl (ex_loadb TfLS.row24 (hF.ev rfl) (hS.get 1 rfl) rfl) hK
   ·
    intro fa w' hΦ hF hB K hK
    obtain ⟨go3_4_1, go3_5_1, hA, hS, E_w'⟩ := hΦ
    exact fl_val rfl rfl rfl (ex_loadb TfLS.row24 (hF.ev rfl) (hS.get 2 rfl) rfl) hK
   ·
    intro fa w' hΦ hF hB K hK
    obtain ⟨Ao3_1_4, co3_1_5, go3_4_1, go3_5_1, hA, hS, E_w', huo3_1_6⟩ := hΦ
    exact fl_val rfl rfl rfl (ex_loadb TfLS.row24 (hF.ev rfl) (hS.get 2 rfl) rfl) hK
  ·
   refine .inr (.inr ⟨rfl, ?_, ?_, ?_, ?_, trivial⟩)
   ·
    intro fa w' hΦ hF hB
    obtain ⟨Ao3_1_4, co3_1_5, hA, hS, E_w', huo3_1_6⟩ := hΦ
    replace hF := hF.cons (hB.val 2 _ 19 _ rfl rfl rfl rfl)
    refine wop rfl rfl ?_
    have hC := law01_cp_ok (w := w') (X := (g5 :: (g1 :: X))) (ng := (decide (b < 0))) (l := (lim b.natAbs)) (hS.bnd hX) ⟨_, rfl, _, _, rfl, (hu_b.ext (((((E3.trans E7).trans E11).trans E14).trans E19).trans E_w'))⟩ (by omega)
    refine op_call hF rfl TfLS.body14 (args1 (hF.ev rfl)) hC ?_
    clear hC
    rintro _ wo3_3_1 ⟨⟨_, rfl, Ao3_3_4, co3_3_5, rfl, huo3_3_6⟩, hbo3_3_2⟩
    clear hF; intro hF
    replace hS := hS.call hbo3_3_2; have Eo3_3_3 := Ext.call (g5 :: (g1 :: X)) hbo3_3_2
    have hA1 := ((hA.put_other _ rfl).cons (hF.get 20 _ rfl))
    exact ⟨4, rfl, ⟨Ao3_1_4, co3_1_5, Ao3_3_4, co3_3_5, (hA1.take (hA1.take hA1.nil rfl) rfl), hS, (E_w'.trans Eo3_3_3), (huo3_1_6.ext Eo3_3_3), huo3_3_6⟩, _, rfl, fun u hu => by cases hu <;> rfl⟩
   ·
    intro fa w' hΦ hF hB
    obtain ⟨Ao3_1_4, co3_1_5, go3_4_1, hA, hS, E_w', huo3_1_6⟩ := hΦ
    replace hF := hF.cons (hB.val 2 _ 19 _ rfl rfl rfl rfl)
    refine wop rfl rfl ?_
    have hC := law01_cp_ok (w := w') (X := (go3_4_1 :: (g5 :: (g1 :: X)))) (ng := (decide (b < 0))) (l := (lim b.natAbs)) (hS.bnd hX) ⟨_, rfl, _, _, rfl, (hu_b.ext (((((E3.trans E7).trans E11).trans E14).trans E19).trans E_w'))⟩ (by omega)
    refine op_call hF rfl TfLS.body14 (args1 (hF.ev rfl)) hC ?_
    clear hC
    rintro _ wo3_3_1 ⟨⟨_, rfl, Ao3_3_4, co3_3_5, rfl, huo3_3_6⟩, hbo3_3_2⟩
    clear hF; intro hF
    replace hS := hS.call hbo3_3_2; have Eo3_3_3 := Ext.call (go3_4_1 :: (g5 :: (g1 :: X))) hbo3_3_2
    have hA1 := ((hA.put_other _ rfl).cons (hF.get 20 _ rfl))
    exact ⟨8, rfl, ⟨Ao3_1_4, co3_1_5, Ao3_3_4, co3_3_5, go3_4_1, (hA1.take (hA1.take (hA1.take hA1.nil rfl) rfl) rfl), hS, (E_w'.trans Eo3_3_3), (huo3_1_6.ext Eo3_3_3), huo3_3_6⟩, _, rfl, fun u hu => by cases hu <;> rfl⟩
   ·
    intro fa w' hΦ hF hB
    obtain ⟨Ao3_1_4, co3_1_5, go3_5_1, hA, hS, E_w', huo3_1_6⟩ := hΦ
    replace hF := hF.cons (hB.val 2 _ 19 _ rfl rfl rfl rfl)
    refine wop rfl rfl ?_
    have hC := law01_cp_ok (w := w') (X := (go3_5_1 :: (g5 :: (g1 :: X)))) (ng := (decide (b < 0))) (l := (lim b.natAbs)) (hS.bnd hX) ⟨_, rfl, _, _, rfl, (hu_b.ext (((((E3.trans E7).trans E11).trans E14).trans E19).trans E_w'))⟩ (by omega)
    refine op_call hF rfl TfLS.body14 (args1 (hF.ev rfl)) hC ?_
    clear hC
    rintro _ wo3_3_1 ⟨⟨_, rfl, Ao3_3_4, co3_3_5, rfl, huo3_3_6⟩, hbo3_3_2⟩
    clear hF; intro hF
    replace hS := hS.call hbo3_3_2; have Eo3_3_3 := Ext.call (go3_5_1 :: (g5 :: (g1 :: X))) hbo3_3_2
    have hA1 := ((hA.put_other _ rfl).cons (hF.get 20 _ rfl))
    exact ⟨9, rfl, ⟨Ao3_1_4, co3_1_5, Ao3_3_4, co3_3_5, go3_5_1, (hA1.take (hA1.take (hA1.take hA1.nil rfl) rfl) rfl), hS, (E_w'.trans Eo3_3_3), (huo3_1_6.ext Eo3_3_3), huo3_3_6⟩, _, rfl, fun u hu => by cases hu <;> rfl⟩
   ·
    intro fa w' hΦ hF hB
    obtain ⟨Ao3_1_4, co3_1_5, go3_4_1, go3_5_1, hA, hS, E_w', huo3_1_6⟩ := hΦ
    replace hF := hF.cons (hB.val 2 _ 19 _ rfl rfl rfl rfl)
    refine wop rfl rfl ?_
    have hC := law01_cp_ok (w := w') (X := (go3_5_1 :: (go3_4_1 :: (g5 :: (g1 :: X))))) (ng := (decide (b < 0))) (l := (lim b.natAbs)) (hS.bnd hX) ⟨_, rfl, _, _, rfl, (hu_b.ext (((((E3.trans E7).trans E11).trans E14).trans E19).trans E_w'))⟩ (by omega)
    refine op_call hF rfl TfLS.body14 (args1 (hF.ev rfl)) hC ?_
    clear hC
    rintro _ wo3_3_1 ⟨⟨_, rfl, Ao3_3_4, co3_3_5, rfl, huo3_3_6⟩, hbo3_3_2⟩
    clear hF; intro hF
    replace hS := hS.call hbo3_3_2; have Eo3_3_3 := Ext.call (go3_5_1 :: (go3_4_1 :: (g5 :: (g1 :: X)))) hbo3_3_2
    have hA1 := ((hA.put_other _ rfl).cons (hF.get 20 _ rfl))
    exact ⟨11, rfl, ⟨Ao3_1_4, co3_1_5, Ao3_3_4, co3_3_5, go3_4_1, go3_5_1, (hA1.take (hA1.take (hA1.take (hA1.take hA1.nil rfl) rfl) rfl) rfl), hS, (E_w'.trans Eo3_3_3), (huo3_1_6.ext Eo3_3_3), huo3_3_6⟩, _, rfl, fun u hu => by cases hu <;> rfl⟩
  ·
   refine .inr (.inr ⟨rfl, ?_, ?_, ?_, ?_, ?_, ?_, trivial⟩)
   ·
    intro fa w' hΦ hF hB
    obtain ⟨hA, hS, E_w'⟩ := hΦ
    refine wop rfl rfl ?_
    refine op_alloc (X := (g5 :: (g1 :: X))) hF hS rfl TfLS.zero24 ?_
    intro go3_4_1 wo3_4_2 hgo3_4_4 hS Eo3_4_3 hF
    replace hS : St w wo3_4_2 [(go3_4_1, 24, #[(.bool (false)), (.slice (none) (0) (0))]), (g5, 24, (ic (A_b) (c_b) (b))), (g1, 24, (ic (A_a) (c_a) (a)))] := hS
    have hA1 := ((hA.put_other _ rfl).cons (hF.get 5 _ rfl))
    exact ⟨2, rfl, ⟨go3_4_1, (hA1.take hA1.nil rfl), hS, (E_w'.trans Eo3_4_3)⟩, _, rfl, fun u hu => by cases hu <;> rfl⟩
   ·
    intro fa w' hΦ hF hB
    obtain ⟨Ao3_1_4, co3_1_5, hA, hS, E_w', huo3_1_6⟩ := hΦ
    refine wop rfl rfl ?_
    refine op_alloc (X := (g5 :: (g1 :: X))) hF hS rfl TfLS.zero24 ?_
    intro go3_4_1 wo3_4_2 hgo3_4_4 hS Eo3_4_3 hF
    replace hS : St w wo3_4_2 [(go3_4_1, 24, #[(.bool (false)), (.slice (none) (0) (0))]), (g5, 24, (ic (A_b) (c_b) (b))), (g1, 24, (ic (A_a) (c_a) (a)))] := hS
    have hA1 := ((hA.put_other _ rfl).cons (hF.get 5 _ rfl))
    exact ⟨5, rfl, ⟨Ao3_1_4, co3_1_5, go3_4_1, (hA1.take (hA1.take hA1.nil rfl) rfl), hS, (E_w'.trans Eo3_4_3), (huo3_1_6.ext Eo3_4_3)⟩, _, rfl, fun u hu => by cases hu <;> rfl⟩
   ·
    intro fa w' hΦ hF hB
    obtain ⟨go3_5_1, hA, hS, E_w'⟩ := hΦ
    refine wop rfl rfl ?_
    refine op_alloc (X := (go3_5_1 :: (g5 :: (g1 :: X)))) hF hS rfl TfLS.zero24 ?_
    intro go3_4_1 wo3_4_2 hgo3_4_4 hS Eo3_4_3 hF
    replace hS : St w wo3_4_2 [(go3_4_1, 24, #[(.bool (false)), (.slice (none) (0) (0))]), (go3_5_1, 24, #[(.bool (false)), (.slice (none) (0) (0))]), (g5, 24, (ic (A_b) (c_b) (b))), (g1, 24, (ic (A_a) (c_a) (a)))] := hS
    replace hS : St w wo3_4_2 [(go3_5_1, 24, #[(.bool (false)), (.slice (none) (0) (0))]), (go3_4_1, 24, #[(.bool (false)), (.slice (none) (0) (0))]), (g5, 24, (ic (A_b) (c_b) (b))), (g1, 24, (ic (A_a) (c_a) (a)))] := hS.perm (List.Perm.swap _ _ _)
    have E20 : Ext wo3_4_2 (go3_4_1 :: (go3_5_1 :: (g5 :: (g1 :: X)))) wo3_4_2 (go3_5_1 :: (go3_4_1 :: (g5 :: (g1 :: X)))) := Ext.drop (by simp +contextual)
    have hA1 := ((hA.put_other _ rfl).cons (hF.get 5 _ rfl))
    exact ⟨7, rfl, ⟨go3_4_1, go3_5_1, (hA1.take (hA1.take hA1.nil rfl) rfl), hS, ((E_w'.trans Eo3_4_3).trans E20)⟩, _, rfl, fun u hu => by cases hu <;> rfl⟩
   ·
    intro fa w' hΦ hF hB
    obtain ⟨Ao3_1_4, co3_1_5, Ao3_3_4, co3_3_5, hA, hS, E_w', huo3_1_6, huo3_3_6⟩ := hΦ
    refine wop rfl rfl ?_
    refine op_alloc (X := (g5 :: (g1 :: X))) hF hS rfl TfLS.zero24 ?_
    intro go3_4_1 wo3_4_2 hgo3_4_4 hS Eo3_4_3 hF
    replace hS : St w wo3_4_2 [(go3_4_1, 24, #[(.bool (false)), (.slice (none) (0) (0))]), (g5, 24, (ic (A_b) (c_b) (b))), (g1, 24, (ic (A_a) (c_a) (a)))] := hS
    have hA1 := ((hA.put_other _ rfl).cons (hF.get 5 _ rfl))
    exact ⟨8, rfl, ⟨Ao3_1_4, co3_1_5, Ao3_3_4, co3_3_5, go3_4_1, (hA1.take (hA1.take (hA1.take hA1.nil rfl) rfl) rfl), hS, (E_w'.trans Eo3_4_3), (huo3_1_6.ext Eo3_4_3), (huo3_3_6.ext Eo3_4_3)⟩, _, rfl, fun u hu => by cases hu <;> rfl⟩
   ·
    intro fa w' hΦ hF hB
    obtain ⟨Ao3_1_4, co3_1_5, go3_5_1, hA, hS, E_w', huo3_1_6⟩ := hΦ
    refine wop rfl rfl ?_
    refine op_alloc (X := (go3_5_1 :: (g5 :: (g1 :: X)))) hF hS rfl TfLS.zero24 ?_
    intro go3_4_1 wo3_4_2 hgo3_4_4 hS Eo3_4_3 hF
    replace hS : St w wo3_4_2 [(go3_4_1, 24, #[(.bool (false)), (.slice (none) (0) (0))]), (go3_5_1, 24, #[(.bool (false)), (.slice (none) (0) (0))]), (g5, 24, (ic (A_b) (c_b) (b))), (g1, 24, (ic (A_a) (c_a) (a)))] := hS
    replace hS : St w wo3_4_2 [(go3_5_1, 24, #[(.bool (false)), (.slice (none) (0) (0))]), (go3_4_1, 24, #[(.bool (false)), (.slice (none) (0) (0))]), (g5, 24, (ic (A_b) (c_b) (b))), (g1, 24, (ic (A_a) (c_a) (a)))] := hS.perm (List.Perm.swap _ _ _)
    have E21 : Ext wo3_4_2 (go3_4_1 :: (go3_5_1 :: (g5 :: (g1 :: X)))) wo3_4_2 (go3_5_1 :: (go3_4_1 :: (g5 :: (g1 :: X)))) := Ext.drop (by simp +contextual)
    have hA1 := ((hA.put_other _ rfl).cons (hF.get 5 _ rfl))
    exact ⟨10, rfl, ⟨Ao3_1_4, co3_1_5, go3_4_1, go3_5_1, (hA1.take (hA1.take (hA1.take hA1.nil rfl) rfl) rfl), hS, ((E_w'.trans Eo3_4_3).trans E21), (huo3_1_6.ext (Eo3_4_3.trans E21))⟩, _, rfl, fun u hu => by cases hu <;> rfl⟩
   ·
    intro fa w' hΦ hF hB
    obtain ⟨Ao3_1_4, co3_1_5, Ao3_3_4, co3_3_5, go3_5_1, hA, hS, E_w', huo3_1_6, huo3_3_6⟩ := hΦ
    refine wop rfl rfl ?_
    refine op_alloc (X := (go3_5_1 :: (g5 :: (g1 :: X)))) hF hS rfl TfLS.zero24 ?_
    intro go3_4_1 wo3_4_2 hgo3_4_4 hS Eo3_4_3 hF
    replace hS : St w wo3_4_2 [(go3_4_1, 24, #[(.bool (false)), (.slice (none) (0) (0))]), (go3_5_1, 24, #[(.bool (false)), (.slice (none) (0) (0))]), (g5, 24, (ic (A_b) (c_b) (b))), (g1, 24, (ic (A_a) (c_a) (a)))] := hS
    replace hS : St w wo3_4_2 [(go3_5_1, 24, #[(.bool (false)), (.slice (none) (0) (0))]), (go3_4_1, 24, #[(.bool (false)), (.slice (none) (0) (0))]), (g5, 24, (ic (A_b) (c_b) (b))), (g1, 24, (ic (A_a) (c_a) (a)))] := hS.perm (List.Perm.swap _ _ _)
    have E22 : Ext wo3_4_2 (go3_4_1 :: (go3_5_1 :: (g5 :: (g1 :: X)))) wo3_4_2 (go3_5_1 :: (go3_4_1 :: (g5 :: (g1 :: X)))) := Ext.drop (by simp +contextual)
    have hA1 := ((hA.put_other _ rfl).cons (hF.get 5 _ rfl))
    exact ⟨11, rfl, ⟨Ao3_1_4, co3_1_5, Ao3_3_4, co3_3_5, go3_4_1, go3_5_1, (hA1.take (hA1.take (hA1.take (hA1.take hA1.nil rfl) rfl) rfl) rfl), hS, ((E_w'.trans Eo3_4_3).trans E22), (huo3_1_6.ext (Eo3_4_3.trans E22)), (huo3_3_6.ext (Eo3_4_3.trans E22))⟩, _, rfl, fun u hu => by cases hu <;> rfl⟩
  ·
   refine .inr (.inr ⟨rfl, ?_, ?_, ?_, ?_, ?_, ?_, trivial⟩)
   ·
    intro fa w' hΦ hF hB
    obtain ⟨hA, hS, E_w'⟩ := hΦ
    refine wop rfl rfl ?_
    refine op_alloc (X := (g5 :: (g1 :: X))) hF hS rfl TfLS.zero24 ?_
    intro go3_5_1 wo3_5_2 hgo3_5_4 hS Eo3_5_3 hF
    replace hS : St w wo3_5_2 [(go3_5_1, 24, #[(.bool (false)), (.slice (none) (0) (0))]), (g5, 24, (ic (A_b) (c_b) (b))), (g1, 24, (ic (A_a) (c_a) (a)))] := hS
    have hA1 := ((hA.put_other _ rfl).cons (hF.get 6 _ rfl))
    exact ⟨3, rfl, ⟨go3_5_1, (hA1.take hA1.nil rfl), hS, (E_w'.trans Eo3_5_3)⟩, _, rfl, fun u hu => by cases hu <;> rfl⟩
   ·
    intro fa w' hΦ hF hB
    obtain ⟨Ao3_1_4, co3_1_5, hA, hS, E_w', huo3_1_6⟩ := hΦ
    refine wop rfl rfl ?_
    refine op_alloc (X := (g5 :: (g1 :: X))) hF hS rfl TfLS.zero24 ?_
    intro go3_5_1 wo3_5_2 hgo3_5_4 hS Eo3_5_3 hF
    replace hS : St w wo3_5_2 [(go3_5_1, 24, #[(.bool (false)), (.slice (none) (0) (0))]), (g5, 24, (ic (A_b) (c_b) (b))), (g1, 24, (ic (A_a) (c_a) (a)))] := hS
    have hA1 := ((hA.put_other _ rfl).cons (hF.get 6 _ rfl))
    exact ⟨6, rfl, ⟨Ao3_1_4, co3_1_5, go3_5_1, (hA1.take (hA1.take hA1.nil rfl) rfl), hS, (E_w'.trans Eo3_5_3), (huo3_1_6.ext Eo3_5_3)⟩, _, rfl, fun u hu => by cases hu <;> rfl⟩
   ·
    intro fa w' hΦ hF hB
    obtain ⟨go3_4_1, hA, hS, E_w'⟩ := hΦ
    refine wop rfl rfl ?_
    refine op_alloc (X := (go3_4_1 :: (g5 :: (g1 :: X)))) hF hS rfl TfLS.zero24 ?_
    intro go3_5_1 wo3_5_2 hgo3_5_4 hS Eo3_5_3 hF
    replace hS : St w wo3_5_2 [(go3_5_1, 24, #[(.bool (false)), (.slice (none) (0) (0))]), (go3_4_1, 24, #[(.bool (false)), (.slice (none) (0) (0))]), (g5, 24, (ic (A_b) (c_b) (b))), (g1, 24, (ic (A_a) (c_a) (a)))] := hS
    have hA1 := ((hA.put_other _ rfl).cons (hF.get 6 _ rfl))
    exact ⟨7, rfl, ⟨go3_4_1, go3_5_1, (hA1.take (hA1.take hA1.nil rfl) rfl), hS, (E_w'.trans Eo3_5_3)⟩, _, rfl, fun u hu => by cases hu <;> rfl⟩
   ·
    intro fa w' hΦ hF hB
    obtain ⟨Ao3_1_4, co3_1_5, Ao3_3_4, co3_3_5, hA, hS, E_w', huo3_1_6, huo3_3_6⟩ := hΦ
    refine wop rfl rfl ?_
    refine op_alloc (X := (g5 :: (g1 :: X))) hF hS rfl TfLS.zero24 ?_
    intro go3_5_1 wo3_5_2 hgo3_5_4 hS Eo3_5_3 hF
    replace hS : St w wo3_5_2 [(go3_5_1, 24, #[(.bool (false)), (.slice (none) (0) (0))]), (g5, 24, (ic (A_b) (c_b) (b))), (g1, 24, (ic (A_a) (c_a) (a)))] := hS
    have hA1 := ((hA.put_other _ rfl).cons (hF.get 6 _ rfl))
    exact ⟨9, rfl, ⟨Ao3_1_4, co3_1_5, Ao3_3_4, co3_3_5, go3_5_1, (hA1.take (hA1.take (hA1.take hA1.nil rfl) rfl) rfl), hS, (E_w'.trans Eo3_5_3), (huo3_1_6.ext Eo3_5_3), (huo3_3_6.ext Eo3_5_3)⟩, _, rfl, fun u hu => by cases hu <;> rfl⟩
   ·
    intro fa w' hΦ hF hB
    obtain ⟨Ao3_1_4, co3_1_5, go3_4_1, hA, hS, E_w', huo3_1_6⟩ := hΦ
    refine wop rfl rfl ?_
    refine op_alloc (X := (go3_4_1 :: (g5 :: (g1 :: X)))) hF hS rfl TfLS.zero24 ?_
    intro go3_5_1 wo3_5_2 hgo3_5_4 hS Eo3_5_3 hF
    replace hS : St w wo3_5_2 [(go3_5_1, 24, #[(.bool (false)), (.slice (none) (0) (0))]), (go3_4_1, 24, #[(.bool (false)), (.slice (none) (0) (0))]), (g5, 24, (ic (A_b) (c_b) (b))), (g1, 24, (ic (A_a) (c_a) (a)))] := hS
    have hA1 := ((hA.put_other _ rfl).cons (hF.get 6 _ rfl))
    exact ⟨10, rfl, ⟨Ao3_1_4, co3_1_5, go3_4_1, go3_5_1, (hA1.take (hA1.take (hA1.take hA1.nil rfl) rfl) rfl), hS, (E_w'.trans Eo3_5_3), (huo3_1_6.ext Eo3_5_3)⟩, _, rfl, fun u hu => by cases hu <;> rfl⟩
   ·
    intro fa w' hΦ hF hB
    obtain ⟨Ao3_1_4, co3_1_5, Ao3_3_4, co3_3_5, go3_4_1, hA, hS, E_w', huo3_1_6, huo3_3_6⟩ := hΦ
    refine wop rfl rfl ?_
    refine op_alloc (X := (go3_4_1 :: (g5 :: (g1 :: X)))) hF hS rfl TfLS.zero24 ?_
    intro go3_5_1 wo3_5_2 hgo3_5_4 hS Eo3_5_3 hF
    replace hS : St w wo3_5_2 [(go3_5_1, 24, #[(.bool (false)), (.slice (none) (0) (0))]), (go3_4_1, 24, #[(.bool (false)), (.slice (none) (0) (0))]), (g5, 24, (ic (A_b) (c_b) (b))), (g1, 24, (ic (A_a) (c_a) (a)))] := hS
    have hA1 := ((hA.put_other _ rfl).cons (hF.get 6 _ rfl))
    exact ⟨11, rfl, ⟨Ao3_1_4, co3_1_5, Ao3_3_4, co3_3_5, go3_4_1, go3_5_1, (hA1.take (hA1.take (hA1.take (hA1.take hA1.nil rfl) rfl) rfl) rfl), hS, (E_w'.trans Eo3_5_3), (huo3_1_6.ext Eo3_5_3), (huo3_3_6.ext Eo3_5_3)⟩, _, rfl, fun u hu => by cases hu <;> rfl⟩
  ·
   refine .inr (.inr ⟨rfl, ?_, trivial⟩)
   ·
    intro fa w' hΦ hF hB
    obtain ⟨Ao3_1_4, co3_1_5, Ao3_3_4, co3_3_5, go3_4_1, go3_5_1, hA, hS, E_w', huo3_1_6, huo3_3_6⟩ := hΦ
    replace hF := hF.cons (hA.get 5 _ rfl)
    replace hF := hF.cons (hA.get 18 _ rfl)
    refine wop rfl rfl ?_
    refine op_store (X := (go3_5_1 :: (go3_4_1 :: (g5 :: (g1 :: X))))) hF hS 1 rfl (by simp) rfl rfl rfl TfLS.size24 rfl (Nat.le_of_ble_eq_true rfl) ?_
    intro wo3_6_1 hS Eo3_6_2
    replace hS : St w wo3_6_1 [(go3_5_1, 24, #[(.bool (false)), (.slice (none) (0) (0))]), (go3_4_1, 24, #[(.bool ((decide (a < 0)))), (.slice (Ao3_1_4) ((((lim a.natAbs))).length) (co3_1_5))]), (g5, 24, (ic (A_b) (c_b) (b))), (g1, 24, (ic (A_a) (c_a) (a)))] := hS
    exact ⟨12, rfl, ⟨Ao3_1_4, co3_1_5, Ao3_3_4, co3_3_5, go3_4_1, go3_5_1, hA, hS, (E_w'.trans Eo3_6_2), (huo3_1_6.ext Eo3_6_2), (huo3_3_6.ext Eo3_6_2)⟩, undef, rfl, fun u hu => by cases hu <;> rfl⟩
  ·
   refine .inr (.inr ⟨rfl, ?_, trivial⟩)
   ·
    intro fa w' hΦ hF hB
    obtain ⟨Ao3_1_4, co3_1_5, Ao3_3_4, co3_3_5, go3_4_1, go3_5_1, hA, hS, E_w', huo3_1_6, huo3_3_6⟩ := hΦ
    replace hF := hF.cons (hA.get 6 _ rfl)
    replace hF := hF.cons (hA.get 20 _ rfl)
    refine wop rfl rfl ?_
    refine op_store (X := (go3_5_1 :: (go3_4_1 :: (g5 :: (g1 :: X))))) hF hS 0 rfl (by simp) rfl rfl rfl TfLS.size24 rfl (Nat.le_of_ble_eq_true rfl) ?_
    intro wo3_7_1 hS Eo3_7_2
    replace hS : St w wo3_7_1 [(go3_5_1, 24, #[(.bool ((decide (b < 0)))), (.slice (Ao3_3_4) ((((lim b.natAbs))).length) (co3_3_5))]), (go3_4_1, 24, #[(.bool ((decide (a < 0)))), (.slice (Ao3_1_4) ((((lim a.natAbs))).length) (co3_1_5))]), (g5, 24, (ic (A_b) (c_b) (b))), (g1, 24, (ic (A_a) (c_a) (a)))] := hS
    exact ⟨13, rfl, ⟨Ao3_1_4, co3_1_5, Ao3_3_4, co3_3_5, go3_4_1, go3_5_1, hA, hS, (E_w'.trans Eo3_7_2), (huo3_1_6.ext Eo3_7_2), (huo3_3_6.ext Eo3_7_2)⟩, undef, rfl, fun u hu => by cases hu <;> rfl⟩
 intro fa w23 hΦ hF hC
 obtain ⟨Ao3_1_4, co3_1_5, Ao3_3_4, co3_3_5, go3_4_1, go3_5_1, hA, hS, E_w23, huo3_1_6, huo3_3_6⟩ := hΦ
 replace hF := hF.cons (hA.get 5 _ rfl)
 replace hF := hF.cons (hA.get 6 _ rfl)
 clear hA hC
 refine x_tn ?_
 refine c_seq ?_
 refine drawn2 (N := 70) (L0 := [(0, (.agg (ic (A_a) (c_a) (a)))), (1, (.agg (ic (A_b) (c_b) (b)))), (2, (.pointer (some ⟨g1, 0, none⟩))), (3, (.pointer (some ⟨g5, 0, none⟩))), (15, (.bool (false))), (5, (.pointer (some ⟨go3_4_1, 0, none⟩))), (6, (.pointer (some ⟨go3_5_1, 0, none⟩)))]) [some (.agg #[(.bool ((decide (a < 0)))), (.slice (Ao3_1_4) ((((lim a.natAbs))).length) (co3_1_5))]), some (.agg #[(.bool ((decide (b < 0)))), (.slice (Ao3_3_4) ((((lim b.natAbs))).length) (co3_3_5))]), none, some (.agg (ic (A_a) (c_a) (a))), some (.agg (ic (A_b) (c_b) (b))), none, some (.bool (true)), some (.bool (true)), some (.agg #[(.bool ((decide (a < 0)))), (.slice (Ao3_1_4) ((((lim a.natAbs))).length) (co3_1_5))]), some (.agg #[(.bool ((decide (b < 0)))), (.slice (Ao3_3_4) ((((lim b.natAbs))).length) (co3_3_5))]), none, some (.agg (ic (A_a) (c_a) (a))), some (.agg (ic (A_b) (c_b) (b))), none, some (.bool (true)), some (.bool (true)), some (.bool (true)), some (.agg #[(.bool ((decide (a < 0)))), (.slice (Ao3_1_4) ((((lim a.natAbs))).length) (co3_1_5))]), none, some (.agg (ic (A_a) (c_a) (a))), none, some (.bool (true)), some (.bool (true)), some (.bool (true)), some (.agg #[(.bool ((decide (a < 0)))), (.slice (Ao3_1_4) ((((lim a.natAbs))).length) (co3_1_5))]), some (.int .i64 (sgnI a)), some (.agg (ic (A_a) (c_a) (a))), some (.int .i64 (sgnI a)), some (.bool (true)), some (.bool (true)), some (.bool (true)), some (.agg #[(.bool ((decide (a < 0)))), (.slice (Ao3_1_4) ((((lim a.natAbs))).length) (co3_1_5))]), some (.agg #[(.bool ((decide (b < 0)))), (.slice (Ao3_3_4) ((((lim b.natAbs))).length) (co3_3_5))]), some (.int .i64 (cmpI a b)), some (.agg (ic (A_a) (c_a) (a))), some (.agg (ic (A_b) (c_b) (b))), some (.int .i64 (cmpI a b)), some (.bool (true)), some (.bool (true)), some (.bool (true)), some (.agg #[(.bool ((decide (a < 0)))), (.slice (Ao3_1_4) ((((lim a.natAbs))).length) (co3_1_5))]), some (.agg (ic (A_a) (c_a) (a))), some (.bool (true)), some (.bool (true)), some (.bool (true)), some (.agg #[(.bool ((decide (b < 0)))), (.slice (Ao3_3_4) ((((lim b.natAbs))).length) (co3_3_5))]), some (.agg (ic (A_b) (c_b) (b))), some (.bool (true)), some (.bool (true)), some (.bool (true))] [2, 5, 6, 7, 10, 13, 14, 16, 18, 20, 21, 23, 25, 27, 30, 33, 36, 39, 42, 44, 47] [[], [2], [2, 5], [2, 5, 6], [2, 5, 6, 7], [2, 5, 6, 7, 10], [2, 5, 6, 7, 10, 13], [2, 5, 6, 7, 10, 13, 14], [2, 5, 6, 7, 10, 13, 14, 16], [2, 5, 6, 7, 10, 13, 14, 16, 18], [2, 5, 6, 7, 10, 13, 14, 16, 18, 20], [2, 5, 6, 7, 10, 13, 14, 16, 18, 20, 21], [2, 5, 6, 7, 10, 13, 14, 16, 18, 20, 21, 23], [2, 5, 6, 7, 10, 13, 14, 16, 18, 20, 21, 23, 25], [2, 5, 6, 7, 10, 13, 14, 16, 18, 20, 21, 23, 25, 27], [2, 5, 6, 7, 10, 13, 14, 16, 18, 20, 21, 23, 25, 27, 30], [2, 5, 6, 7, 10, 13, 14, 16, 18, 20, 21, 23, 25, 27, 30, 33], [2, 5, 6, 7, 10, 13, 14, 16, 18, 20, 21, 23, 25, 27, 30, 33, 36], [2, 5, 6, 7, 10, 13, 14, 16, 18, 20, 21, 23, 25, 27, 30, 33, 36, 39], [2, 5, 6, 7, 10, 13, 14, 16, 18, 20, 21, 23, 25, 27, 30, 33, 36, 39, 42], [2, 5, 6, 7, 10, 13, 14, 16, 18, 20, 21, 23, 25, 27, 30, 33, 36, 39, 42, 44], [2, 5, 6, 7, 10, 13, 14, 16, 18, 20, 21, 23, 25, 27, 30, 33, 36, 39, 42, 44, 47]] [[0], [0], [0], [0, 1], [0, 1], [1], [2], [3], [4], [4], [4], [4, 5], [4, 5], [5], [6], [7], [7], [8], [8], [8, 9], [9], [10], [11], [11], [12], [12], [12, 13], [13], [14, 15, 16, 17, 18, 19, 20, 21], [12, 13, 14], [14], [15], [15], [15], [15, 16], [15, 16], [16], [17, 18, 19, 20, 21], [15, 16, 17], [17], [18], [18], [18], [19], [19], [20], [20], [20], [21], [21]] 21 [
       fun fa w' => Frm 70 fa [] ∧ St w w' [(go3_5_1, 24, #[(.bool ((decide (b < 0)))), (.slice (Ao3_3_4) ((((lim b.natAbs))).length) (co3_3_5))]), (go3_4_1, 24, #[(.bool ((decide (a < 0)))), (.slice (Ao3_1_4) ((((lim a.natAbs))).length) (co3_1_5))]), (g5, 24, (ic (A_b) (c_b) (b))), (g1, 24, (ic (A_a) (c_a) (a)))] ∧ Ext w23 (go3_5_1 :: (go3_4_1 :: (g5 :: (g1 :: X)))) w' (go3_5_1 :: (go3_4_1 :: (g5 :: (g1 :: X))))
       , fun fa w' => ∃ Ao4_2_4 : Option Addr, ∃ co4_2_5 : Nat, Frm 70 fa [(23, (.agg (ic (Ao4_2_4) (co4_2_5) ((a + b)))))] ∧ St w w' [(go3_5_1, 24, #[(.bool ((decide (b < 0)))), (.slice (Ao3_3_4) ((((lim b.natAbs))).length) (co3_3_5))]), (go3_4_1, 24, #[(.bool ((decide (a < 0)))), (.slice (Ao3_1_4) ((((lim a.natAbs))).length) (co3_1_5))]), (g5, 24, (ic (A_b) (c_b) (b))), (g1, 24, (ic (A_a) (c_a) (a)))] ∧ Ext w23 (go3_5_1 :: (go3_4_1 :: (g5 :: (g1 :: X)))) w' (go3_5_1 :: (go3_4_1 :: (g5 :: (g1 :: X)))) ∧ UC w' (go3_5_1 :: (go3_4_1 :: (g5 :: (g1 :: X)))) Ao4_2_4 co4_2_5 (lim (a + b).natAbs)
       , fun fa w' => ∃ Ao4_2_4 : Option Addr, ∃ co4_2_5 : Nat, ∃ Ao4_5_4 : Option Addr, ∃ co4_5_5 : Nat, Frm 70 fa [(23, (.agg (ic (Ao4_2_4) (co4_2_5) ((a + b))))), (26, (.agg (ic (Ao4_5_4) (co4_5_5) ((a + b)))))] ∧ St w w' [(go3_5_1, 24, #[(.bool ((decide (b < 0)))), (.slice (Ao3_3_4) ((((lim b.natAbs))).length) (co3_3_5))]), (go3_4_1, 24, #[(.bool ((decide (a < 0)))), (.slice (Ao3_1_4) ((((lim a.natAbs))).length) (co3_1_5))]), (g5, 24, (ic (A_b) (c_b) (b))), (g1, 24, (ic (A_a) (c_a) (a)))] ∧ Ext w23 (go3_5_1 :: (go3_4_1 :: (g5 :: (g1 :: X)))) w' (go3_5_1 :: (go3_4_1 :: (g5 :: (g1 :: X)))) ∧ UC w' (go3_5_1 :: (go3_4_1 :: (g5 :: (g1 :: X)))) Ao4_2_4 co4_2_5 (lim (a + b).natAbs) ∧ UC w' (go3_5_1 :: (go3_4_1 :: (g5 :: (g1 :: X)))) Ao4_5_4 co4_5_5 (lim (a + b).natAbs)
       , fun fa w' => ∃ Ao4_2_4 : Option Addr, ∃ co4_2_5 : Nat, ∃ Ao4_5_4 : Option Addr, ∃ co4_5_5 : Nat, Frm 70 fa [(23, (.agg (ic (Ao4_2_4) (co4_2_5) ((a + b))))), (26, (.agg (ic (Ao4_5_4) (co4_5_5) ((a + b))))), (27, (.bool (true)))] ∧ St w w' [(go3_5_1, 24, #[(.bool ((decide (b < 0)))), (.slice (Ao3_3_4) ((((lim b.natAbs))).length) (co3_3_5))]), (go3_4_1, 24, #[(.bool ((decide (a < 0)))), (.slice (Ao3_1_4) ((((lim a.natAbs))).length) (co3_1_5))]), (g5, 24, (ic (A_b) (c_b) (b))), (g1, 24, (ic (A_a) (c_a) (a)))] ∧ Ext w23 (go3_5_1 :: (go3_4_1 :: (g5 :: (g1 :: X)))) w' (go3_5_1 :: (go3_4_1 :: (g5 :: (g1 :: X)))) ∧ UC w' (go3_5_1 :: (go3_4_1 :: (g5 :: (g1 :: X)))) Ao4_2_4 co4_2_5 (lim (a + b).natAbs) ∧ UC w' (go3_5_1 :: (go3_4_1 :: (g5 :: (g1 :: X)))) Ao4_5_4 co4_5_5 (lim (a + b).natAbs)
       , fun fa w' => ∃ Ao4_2_4 : Option Addr, ∃ co4_2_5 : Nat, ∃ Ao4_5_4 : Option Addr, ∃ co4_5_5 : Nat, Frm 70 fa [(23, (.agg (ic (Ao4_2_4) (co4_2_5) ((a + b))))), (26, (.agg (ic (Ao4_5_4) (co4_5_5) ((a + b))))), (27, (.bool (true))), (28, (.bool (true)))] ∧ St w w' [(go3_5_1, 24, #[(.bool ((decide (b < 0)))), (.slice (Ao3_3_4) ((((lim b.natAbs))).length) (co3_3_5))]), (go3_4_1, 24, #[(.bool ((decide (a < 0)))), (.slice (Ao3_1_4) ((((lim a.natAbs))).length) (co3_1_5))]), (g5, 24, (ic (A_b) (c_b) (b))), (g1, 24, (ic (A_a) (c_a) (a)))] ∧ Ext w23 (go3_5_1 :: (go3_4_1 :: (g5 :: (g1 :: X)))) w' (go3_5_1 :: (go3_4_1 :: (g5 :: (g1 :: X)))) ∧ UC w' (go3_5_1 :: (go3_4_1 :: (g5 :: (g1 :: X)))) Ao4_2_4 co4_2_5 (lim (a + b).natAbs) ∧ UC w' (go3_5_1 :: (go3_4_1 :: (g5 :: (g1 :: X)))) Ao4_5_4 co4_5_5 (lim (a + b).natAbs)
       , fun fa w' => ∃ Ao4_2_4 : Option Addr, ∃ co4_2_5 : Nat, ∃ Ao4_5_4 : Option Addr, ∃ co4_5_5 : Nat, ∃ Ao4_10_4 : Option Addr, ∃ co4_10_5 : Nat, Frm 70 fa [(23, (.agg (ic (Ao4_2_4) (co4_2_5) ((a + b))))), (26, (.agg (ic (Ao4_5_4) (co4_5_5) ((a + b))))), (27, (.bool (true))), (28, (.bool (true))), (31, (.agg (ic (Ao4_10_4) (co4_10_5) ((a - b)))))] ∧ St w w' [(go3_5_1, 24, #[(.bool ((decide (b < 0)))), (.slice (Ao3_3_4) ((((lim b.natAbs))).length) (co3_3_5))]), (go3_4_1, 24, #[(.bool ((decide (a < 0)))), (.slice (Ao3_1_4) ((((lim a.natAbs))).length) (co3_1_5))]), (g5, 24, (ic (A_b) (c_b) (b))), (g1, 24, (ic (A_a) (c_a) (a)))] ∧ Ext w23 (go3_5_1 :: (go3_4_1 :: (g5 :: (g1 :: X)))) w' (go3_5_1 :: (go3_4_1 :: (g5 :: (g1 :: X)))) ∧ UC w' (go3_5_1 :: (go3_4_1 :: (g5 :: (g1 :: X)))) Ao4_2_4 co4_2_5 (lim (a + b).natAbs) ∧ UC w' (go3_5_1 :: (go3_4_1 :: (g5 :: (g1 :: X)))) Ao4_5_4 co4_5_5 (lim (a + b).natAbs) ∧ UC w' (go3_5_1 :: (go3_4_1 :: (g5 :: (g1 :: X)))) Ao4_10_4 co4_10_5 (lim (a - b).natAbs)
       , fun fa w' => ∃ Ao4_2_4 : Option Addr, ∃ co4_2_5 : Nat, ∃ Ao4_5_4 : Option Addr, ∃ co4_5_5 : Nat, ∃ Ao4_10_4 : Option Addr, ∃ co4_10_5 : Nat, ∃ Ao4_13_4 : Option Addr, ∃ co4_13_5 : Nat, Frm 70 fa [(23, (.agg (ic (Ao4_2_4) (co4_2_5) ((a + b))))), (26, (.agg (ic (Ao4_5_4) (co4_5_5) ((a + b))))), (27, (.bool (true))), (28, (.bool (true))), (31, (.agg (ic (Ao4_10_4) (co4_10_5) ((a - b))))), (34, (.agg (ic (Ao4_13_4) (co4_13_5) ((a - b)))))] ∧ St w w' [(go3_5_1, 24, #[(.bool ((decide (b < 0)))), (.slice (Ao3_3_4) ((((lim b.natAbs))).length) (co3_3_5))]), (go3_4_1, 24, #[(.bool ((decide (a < 0)))), (.slice (Ao3_1_4) ((((lim a.natAbs))).length) (co3_1_5))]), (g5, 24, (ic (A_b) (c_b) (b))), (g1, 24, (ic (A_a) (c_a) (a)))] ∧ Ext w23 (go3_5_1 :: (go3_4_1 :: (g5 :: (g1 :: X)))) w' (go3_5_1 :: (go3_4_1 :: (g5 :: (g1 :: X)))) ∧ UC w' (go3_5_1 :: (go3_4_1 :: (g5 :: (g1 :: X)))) Ao4_2_4 co4_2_5 (lim (a + b).natAbs) ∧ UC w' (go3_5_1 :: (go3_4_1 :: (g5 :: (g1 :: X)))) Ao4_5_4 co4_5_5 (lim (a + b).natAbs) ∧ UC w' (go3_5_1 :: (go3_4_1 :: (g5 :: (g1 :: X)))) Ao4_10_4 co4_10_5 (lim (a - b).natAbs) ∧ UC w' (go3_5_1 :: (go3_4_1 :: (g5 :: (g1 :: X)))) Ao4_13_4 co4_13_5 (lim (a - b).natAbs)
       , fun fa w' => ∃ Ao4_2_4 : Option Addr, ∃ co4_2_5 : Nat, ∃ Ao4_5_4 : Option Addr, ∃ co4_5_5 : Nat, ∃ Ao4_10_4 : Option Addr, ∃ co4_10_5 : Nat, ∃ Ao4_13_4 : Option Addr, ∃ co4_13_5 : Nat, Frm 70 fa [(23, (.agg (ic (Ao4_2_4) (co4_2_5) ((a + b))))), (26, (.agg (ic (Ao4_5_4) (co4_5_5) ((a + b))))), (27, (.bool (true))), (28, (.bool (true))), (31, (.agg (ic (Ao4_10_4) (co4_10_5) ((a - b))))), (34, (.agg (ic (Ao4_13_4) (co4_13_5) ((a - b))))), (35, (.bool (true)))] ∧ St w w' [(go3_5_1, 24, #[(.bool ((decide (b < 0)))), (.slice (Ao3_3_4) ((((lim b.natAbs))).length) (co3_3_5))]), (go3_4_1, 24, #[(.bool ((decide (a < 0)))), (.slice (Ao3_1_4) ((((lim a.natAbs))).length) (co3_1_5))]), (g5, 24, (ic (A_b) (c_b) (b))), (g1, 24, (ic (A_a) (c_a) (a)))] ∧ Ext w23 (go3_5_1 :: (go3_4_1 :: (g5 :: (g1 :: X)))) w' (go3_5_1 :: (go3_4_1 :: (g5 :: (g1 :: X)))) ∧ UC w' (go3_5_1 :: (go3_4_1 :: (g5 :: (g1 :: X)))) Ao4_2_4 co4_2_5 (lim (a + b).natAbs) ∧ UC w' (go3_5_1 :: (go3_4_1 :: (g5 :: (g1 :: X)))) Ao4_5_4 co4_5_5 (lim (a + b).natAbs) ∧ UC w' (go3_5_1 :: (go3_4_1 :: (g5 :: (g1 :: X)))) Ao4_10_4 co4_10_5 (lim (a - b).natAbs) ∧ UC w' (go3_5_1 :: (go3_4_1 :: (g5 :: (g1 :: X)))) Ao4_13_4 co4_13_5 (lim (a - b).natAbs)
       , fun fa w' => ∃ Ao4_2_4 : Option Addr, ∃ co4_2_5 : Nat, ∃ Ao4_5_4 : Option Addr, ∃ co4_5_5 : Nat, ∃ Ao4_10_4 : Option Addr, ∃ co4_10_5 : Nat, ∃ Ao4_13_4 : Option Addr, ∃ co4_13_5 : Nat, Frm 70 fa [(23, (.agg (ic (Ao4_2_4) (co4_2_5) ((a + b))))), (26, (.agg (ic (Ao4_5_4) (co4_5_5) ((a + b))))), (27, (.bool (true))), (28, (.bool (true))), (31, (.agg (ic (Ao4_10_4) (co4_10_5) ((a - b))))), (34, (.agg (ic (Ao4_13_4) (co4_13_5) ((a - b))))), (35, (.bool (true))), (37, (.bool (true)))] ∧ St w w' [(go3_5_1, 24, #[(.bool ((decide (b < 0)))), (.slice (Ao3_3_4) ((((lim b.natAbs))).length) (co3_3_5))]), (go3_4_1, 24, #[(.bool ((decide (a < 0)))), (.slice (Ao3_1_4) ((((lim a.natAbs))).length) (co3_1_5))]), (g5, 24, (ic (A_b) (c_b) (b))), (g1, 24, (ic (A_a) (c_a) (a)))] ∧ Ext w23 (go3_5_1 :: (go3_4_1 :: (g5 :: (g1 :: X)))) w' (go3_5_1 :: (go3_4_1 :: (g5 :: (g1 :: X)))) ∧ UC w' (go3_5_1 :: (go3_4_1 :: (g5 :: (g1 :: X)))) Ao4_2_4 co4_2_5 (lim (a + b).natAbs) ∧ UC w' (go3_5_1 :: (go3_4_1 :: (g5 :: (g1 :: X)))) Ao4_5_4 co4_5_5 (lim (a + b).natAbs) ∧ UC w' (go3_5_1 :: (go3_4_1 :: (g5 :: (g1 :: X)))) Ao4_10_4 co4_10_5 (lim (a - b).natAbs) ∧ UC w' (go3_5_1 :: (go3_4_1 :: (g5 :: (g1 :: X)))) Ao4_13_4 co4_13_5 (lim (a - b).natAbs)
       , fun fa w' => ∃ Ao4_2_4 : Option Addr, ∃ co4_2_5 : Nat, ∃ Ao4_5_4 : Option Addr, ∃ co4_5_5 : Nat, ∃ Ao4_10_4 : Option Addr, ∃ co4_10_5 : Nat, ∃ Ao4_13_4 : Option Addr, ∃ co4_13_5 : Nat, ∃ Ao4_18_4 : Option Addr, ∃ co4_18_5 : Nat, Frm 70 fa [(23, (.agg (ic (Ao4_2_4) (co4_2_5) ((a + b))))), (26, (.agg (ic (Ao4_5_4) (co4_5_5) ((a + b))))), (27, (.bool (true))), (28, (.bool (true))), (31, (.agg (ic (Ao4_10_4) (co4_10_5) ((a - b))))), (34, (.agg (ic (Ao4_13_4) (co4_13_5) ((a - b))))), (35, (.bool (true))), (37, (.bool (true))), (39, (.agg (ic (Ao4_18_4) (co4_18_5) ((-a)))))] ∧ St w w' [(go3_5_1, 24, #[(.bool ((decide (b < 0)))), (.slice (Ao3_3_4) ((((lim b.natAbs))).length) (co3_3_5))]), (go3_4_1, 24, #[(.bool ((decide (a < 0)))), (.slice (Ao3_1_4) ((((lim a.natAbs))).length) (co3_1_5))]), (g5, 24, (ic (A_b) (c_b) (b))), (g1, 24, (ic (A_a) (c_a) (a)))] ∧ Ext w23 (go3_5_1 :: (go3_4_1 :: (g5 :: (g1 :: X)))) w' (go3_5_1 :: (go3_4_1 :: (g5 :: (g1 :: X)))) ∧ UC w' (go3_5_1 :: (go3_4_1 :: (g5 :: (g1 :: X)))) Ao4_2_4 co4_2_5 (lim (a + b).natAbs) ∧ UC w' (go3_5_1 :: (go3_4_1 :: (g5 :: (g1 :: X)))) Ao4_5_4 co4_5_5 (lim (a + b).natAbs) ∧ UC w' (go3_5_1 :: (go3_4_1 :: (g5 :: (g1 :: X)))) Ao4_10_4 co4_10_5 (lim (a - b).natAbs) ∧ UC w' (go3_5_1 :: (go3_4_1 :: (g5 :: (g1 :: X)))) Ao4_13_4 co4_13_5 (lim (a - b).natAbs) ∧ UC w' (go3_5_1 :: (go3_4_1 :: (g5 :: (g1 :: X)))) Ao4_18_4 co4_18_5 (lim (-a).natAbs)
       , fun fa w' => ∃ Ao4_2_4 : Option Addr, ∃ co4_2_5 : Nat, ∃ Ao4_5_4 : Option Addr, ∃ co4_5_5 : Nat, ∃ Ao4_10_4 : Option Addr, ∃ co4_10_5 : Nat, ∃ Ao4_13_4 : Option Addr, ∃ co4_13_5 : Nat, ∃ Ao4_18_4 : Option Addr, ∃ co4_18_5 : Nat, ∃ Ao4_20_4 : Option Addr, ∃ co4_20_5 : Nat, Frm 70 fa [(23, (.agg (ic (Ao4_2_4) (co4_2_5) ((a + b))))), (26, (.agg (ic (Ao4_5_4) (co4_5_5) ((a + b))))), (27, (.bool (true))), (28, (.bool (true))), (31, (.agg (ic (Ao4_10_4) (co4_10_5) ((a - b))))), (34, (.agg (ic (Ao4_13_4) (co4_13_5) ((a - b))))), (35, (.bool (true))), (37, (.bool (true))), (39, (.agg (ic (Ao4_18_4) (co4_18_5) ((-a))))), (41, (.agg (ic (Ao4_20_4) (co4_20_5) ((-a)))))] ∧ St w w' [(go3_5_1, 24, #[(.bool ((decide (b < 0)))), (.slice (Ao3_3_4) ((((lim b.natAbs))).length) (co3_3_5))]), (go3_4_1, 24, #[(.bool ((decide (a < 0)))), (.slice (Ao3_1_4) ((((lim a.natAbs))).length) (co3_1_5))]), (g5, 24, (ic (A_b) (c_b) (b))), (g1, 24, (ic (A_a) (c_a) (a)))] ∧ Ext w23 (go3_5_1 :: (go3_4_1 :: (g5 :: (g1 :: X)))) w' (go3_5_1 :: (go3_4_1 :: (g5 :: (g1 :: X)))) ∧ UC w' (go3_5_1 :: (go3_4_1 :: (g5 :: (g1 :: X)))) Ao4_2_4 co4_2_5 (lim (a + b).natAbs) ∧ UC w' (go3_5_1 :: (go3_4_1 :: (g5 :: (g1 :: X)))) Ao4_5_4 co4_5_5 (lim (a + b).natAbs) ∧ UC w' (go3_5_1 :: (go3_4_1 :: (g5 :: (g1 :: X)))) Ao4_10_4 co4_10_5 (lim (a - b).natAbs) ∧ UC w' (go3_5_1 :: (go3_4_1 :: (g5 :: (g1 :: X)))) Ao4_13_4 co4_13_5 (lim (a - b).natAbs) ∧ UC w' (go3_5_1 :: (go3_4_1 :: (g5 :: (g1 :: X)))) Ao4_18_4 co4_18_5 (lim (-a).natAbs) ∧ UC w' (go3_5_1 :: (go3_4_1 :: (g5 :: (g1 :: X)))) Ao4_20_4 co4_20_5 (lim (-a).natAbs)
       , fun fa w' => ∃ Ao4_2_4 : Option Addr, ∃ co4_2_5 : Nat, ∃ Ao4_5_4 : Option Addr, ∃ co4_5_5 : Nat, ∃ Ao4_10_4 : Option Addr, ∃ co4_10_5 : Nat, ∃ Ao4_13_4 : Option Addr, ∃ co4_13_5 : Nat, ∃ Ao4_18_4 : Option Addr, ∃ co4_18_5 : Nat, ∃ Ao4_20_4 : Option Addr, ∃ co4_20_5 : Nat, Frm 70 fa [(23, (.agg (ic (Ao4_2_4) (co4_2_5) ((a + b))))), (26, (.agg (ic (Ao4_5_4) (co4_5_5) ((a + b))))), (27, (.bool (true))), (28, (.bool (true))), (31, (.agg (ic (Ao4_10_4) (co4_10_5) ((a - b))))), (34, (.agg (ic (Ao4_13_4) (co4_13_5) ((a - b))))), (35, (.bool (true))), (37, (.bool (true))), (39, (.agg (ic (Ao4_18_4) (co4_18_5) ((-a))))), (41, (.agg (ic (Ao4_20_4) (co4_20_5) ((-a))))), (42, (.bool (true)))] ∧ St w w' [(go3_5_1, 24, #[(.bool ((decide (b < 0)))), (.slice (Ao3_3_4) ((((lim b.natAbs))).length) (co3_3_5))]), (go3_4_1, 24, #[(.bool ((decide (a < 0)))), (.slice (Ao3_1_4) ((((lim a.natAbs))).length) (co3_1_5))]), (g5, 24, (ic (A_b) (c_b) (b))), (g1, 24, (ic (A_a) (c_a) (a)))] ∧ Ext w23 (go3_5_1 :: (go3_4_1 :: (g5 :: (g1 :: X)))) w' (go3_5_1 :: (go3_4_1 :: (g5 :: (g1 :: X)))) ∧ UC w' (go3_5_1 :: (go3_4_1 :: (g5 :: (g1 :: X)))) Ao4_2_4 co4_2_5 (lim (a + b).natAbs) ∧ UC w' (go3_5_1 :: (go3_4_1 :: (g5 :: (g1 :: X)))) Ao4_5_4 co4_5_5 (lim (a + b).natAbs) ∧ UC w' (go3_5_1 :: (go3_4_1 :: (g5 :: (g1 :: X)))) Ao4_10_4 co4_10_5 (lim (a - b).natAbs) ∧ UC w' (go3_5_1 :: (go3_4_1 :: (g5 :: (g1 :: X)))) Ao4_13_4 co4_13_5 (lim (a - b).natAbs) ∧ UC w' (go3_5_1 :: (go3_4_1 :: (g5 :: (g1 :: X)))) Ao4_18_4 co4_18_5 (lim (-a).natAbs) ∧ UC w' (go3_5_1 :: (go3_4_1 :: (g5 :: (g1 :: X)))) Ao4_20_4 co4_20_5 (lim (-a).natAbs)
       , fun fa w' => ∃ Ao4_2_4 : Option Addr, ∃ co4_2_5 : Nat, ∃ Ao4_5_4 : Option Addr, ∃ co4_5_5 : Nat, ∃ Ao4_10_4 : Option Addr, ∃ co4_10_5 : Nat, ∃ Ao4_13_4 : Option Addr, ∃ co4_13_5 : Nat, ∃ Ao4_18_4 : Option Addr, ∃ co4_18_5 : Nat, ∃ Ao4_20_4 : Option Addr, ∃ co4_20_5 : Nat, Frm 70 fa [(23, (.agg (ic (Ao4_2_4) (co4_2_5) ((a + b))))), (26, (.agg (ic (Ao4_5_4) (co4_5_5) ((a + b))))), (27, (.bool (true))), (28, (.bool (true))), (31, (.agg (ic (Ao4_10_4) (co4_10_5) ((a - b))))), (34, (.agg (ic (Ao4_13_4) (co4_13_5) ((a - b))))), (35, (.bool (true))), (37, (.bool (true))), (39, (.agg (ic (Ao4_18_4) (co4_18_5) ((-a))))), (41, (.agg (ic (Ao4_20_4) (co4_20_5) ((-a))))), (42, (.bool (true))), (44, (.bool (true)))] ∧ St w w' [(go3_5_1, 24, #[(.bool ((decide (b < 0)))), (.slice (Ao3_3_4) ((((lim b.natAbs))).length) (co3_3_5))]), (go3_4_1, 24, #[(.bool ((decide (a < 0)))), (.slice (Ao3_1_4) ((((lim a.natAbs))).length) (co3_1_5))]), (g5, 24, (ic (A_b) (c_b) (b))), (g1, 24, (ic (A_a) (c_a) (a)))] ∧ Ext w23 (go3_5_1 :: (go3_4_1 :: (g5 :: (g1 :: X)))) w' (go3_5_1 :: (go3_4_1 :: (g5 :: (g1 :: X)))) ∧ UC w' (go3_5_1 :: (go3_4_1 :: (g5 :: (g1 :: X)))) Ao4_2_4 co4_2_5 (lim (a + b).natAbs) ∧ UC w' (go3_5_1 :: (go3_4_1 :: (g5 :: (g1 :: X)))) Ao4_5_4 co4_5_5 (lim (a + b).natAbs) ∧ UC w' (go3_5_1 :: (go3_4_1 :: (g5 :: (g1 :: X)))) Ao4_10_4 co4_10_5 (lim (a - b).natAbs) ∧ UC w' (go3_5_1 :: (go3_4_1 :: (g5 :: (g1 :: X)))) Ao4_13_4 co4_13_5 (lim (a - b).natAbs) ∧ UC w' (go3_5_1 :: (go3_4_1 :: (g5 :: (g1 :: X)))) Ao4_18_4 co4_18_5 (lim (-a).natAbs) ∧ UC w' (go3_5_1 :: (go3_4_1 :: (g5 :: (g1 :: X)))) Ao4_20_4 co4_20_5 (lim (-a).natAbs)
       , fun fa w' => ∃ Ao4_2_4 : Option Addr, ∃ co4_2_5 : Nat, ∃ Ao4_5_4 : Option Addr, ∃ co4_5_5 : Nat, ∃ Ao4_10_4 : Option Addr, ∃ co4_10_5 : Nat, ∃ Ao4_13_4 : Option Addr, ∃ co4_13_5 : Nat, ∃ Ao4_18_4 : Option Addr, ∃ co4_18_5 : Nat, ∃ Ao4_20_4 : Option Addr, ∃ co4_20_5 : Nat, Frm 70 fa [(23, (.agg (ic (Ao4_2_4) (co4_2_5) ((a + b))))), (26, (.agg (ic (Ao4_5_4) (co4_5_5) ((a + b))))), (27, (.bool (true))), (28, (.bool (true))), (31, (.agg (ic (Ao4_10_4) (co4_10_5) ((a - b))))), (34, (.agg (ic (Ao4_13_4) (co4_13_5) ((a - b))))), (35, (.bool (true))), (37, (.bool (true))), (39, (.agg (ic (Ao4_18_4) (co4_18_5) ((-a))))), (41, (.agg (ic (Ao4_20_4) (co4_20_5) ((-a))))), (42, (.bool (true))), (44, (.bool (true))), (46, (.int .i64 (sgnI a)))] ∧ St w w' [(go3_5_1, 24, #[(.bool ((decide (b < 0)))), (.slice (Ao3_3_4) ((((lim b.natAbs))).length) (co3_3_5))]), (go3_4_1, 24, #[(.bool ((decide (a < 0)))), (.slice (Ao3_1_4) ((((lim a.natAbs))).length) (co3_1_5))]), (g5, 24, (ic (A_b) (c_b) (b))), (g1, 24, (ic (A_a) (c_a) (a)))] ∧ Ext w23 (go3_5_1 :: (go3_4_1 :: (g5 :: (g1 :: X)))) w' (go3_5_1 :: (go3_4_1 :: (g5 :: (g1 :: X)))) ∧ UC w' (go3_5_1 :: (go3_4_1 :: (g5 :: (g1 :: X)))) Ao4_2_4 co4_2_5 (lim (a + b).natAbs) ∧ UC w' (go3_5_1 :: (go3_4_1 :: (g5 :: (g1 :: X)))) Ao4_5_4 co4_5_5 (lim (a + b).natAbs) ∧ UC w' (go3_5_1 :: (go3_4_1 :: (g5 :: (g1 :: X)))) Ao4_10_4 co4_10_5 (lim (a - b).natAbs) ∧ UC w' (go3_5_1 :: (go3_4_1 :: (g5 :: (g1 :: X)))) Ao4_13_4 co4_13_5 (lim (a - b).natAbs) ∧ UC w' (go3_5_1 :: (go3_4_1 :: (g5 :: (g1 :: X)))) Ao4_18_4 co4_18_5 (lim (-a).natAbs) ∧ UC w' (go3_5_1 :: (go3_4_1 :: (g5 :: (g1 :: X)))) Ao4_20_4 co4_20_5 (lim (-a).natAbs)
       , fun fa w' => ∃ Ao4_2_4 : Option Addr, ∃ co4_2_5 : Nat, ∃ Ao4_5_4 : Option Addr, ∃ co4_5_5 : Nat, ∃ Ao4_10_4 : Option Addr, ∃ co4_10_5 : Nat, ∃ Ao4_13_4 : Option Addr, ∃ co4_13_5 : Nat, ∃ Ao4_18_4 : Option Addr, ∃ co4_18_5 : Nat, ∃ Ao4_20_4 : Option Addr, ∃ co4_20_5 : Nat, Frm 70 fa [(23, (.agg (ic (Ao4_2_4) (co4_2_5) ((a + b))))), (26, (.agg (ic (Ao4_5_4) (co4_5_5) ((a + b))))), (27, (.bool (true))), (28, (.bool (true))), (31, (.agg (ic (Ao4_10_4) (co4_10_5) ((a - b))))), (34, (.agg (ic (Ao4_13_4) (co4_13_5) ((a - b))))), (35, (.bool (true))), (37, (.bool (true))), (39, (.agg (ic (Ao4_18_4) (co4_18_5) ((-a))))), (41, (.agg (ic (Ao4_20_4) (co4_20_5) ((-a))))), (42, (.bool (true))), (44, (.bool (true))), (46, (.int .i64 (sgnI a))), (48, (.int .i64 (sgnI a)))] ∧ St w w' [(go3_5_1, 24, #[(.bool ((decide (b < 0)))), (.slice (Ao3_3_4) ((((lim b.natAbs))).length) (co3_3_5))]), (go3_4_1, 24, #[(.bool ((decide (a < 0)))), (.slice (Ao3_1_4) ((((lim a.natAbs))).length) (co3_1_5))]), (g5, 24, (ic (A_b) (c_b) (b))), (g1, 24, (ic (A_a) (c_a) (a)))] ∧ Ext w23 (go3_5_1 :: (go3_4_1 :: (g5 :: (g1 :: X)))) w' (go3_5_1 :: (go3_4_1 :: (g5 :: (g1 :: X)))) ∧ UC w' (go3_5_1 :: (go3_4_1 :: (g5 :: (g1 :: X)))) Ao4_2_4 co4_2_5 (lim (a + b).natAbs) ∧ UC w' (go3_5_1 :: (go3_4_1 :: (g5 :: (g1 :: X)))) Ao4_5_4 co4_5_5 (lim (a + b).natAbs) ∧ UC w' (go3_5_1 :: (go3_4_1 :: (g5 :: (g1 :: X)))) Ao4_10_4 co4_10_5 (lim (a - b).natAbs) ∧ UC w' (go3_5_1 :: (go3_4_1 :: (g5 :: (g1 :: X)))) Ao4_13_4 co4_13_5 (lim (a - b).natAbs) ∧ UC w' (go3_5_1 :: (go3_4_1 :: (g5 :: (g1 :: X)))) Ao4_18_4 co4_18_5 (lim (-a).natAbs) ∧ UC w' (go3_5_1 :: (go3_4_1 :: (g5 :: (g1 :: X)))) Ao4_20_4 co4_20_5 (lim (-a).natAbs)
       , fun fa w' => ∃ Ao4_2_4 : Option Addr, ∃ co4_2_5 : Nat, ∃ Ao4_5_4 : Option Addr, ∃ co4_5_5 : Nat, ∃ Ao4_10_4 : Option Addr, ∃ co4_10_5 : Nat, ∃ Ao4_13_4 : Option Addr, ∃ co4_13_5 : Nat, ∃ Ao4_18_4 : Option Addr, ∃ co4_18_5 : Nat, ∃ Ao4_20_4 : Option Addr, ∃ co4_20_5 : Nat, Frm 70 fa [(23, (.agg (ic (Ao4_2_4) (co4_2_5) ((a + b))))), (26, (.agg (ic (Ao4_5_4) (co4_5_5) ((a + b))))), (27, (.bool (true))), (28, (.bool (true))), (31, (.agg (ic (Ao4_10_4) (co4_10_5) ((a - b))))), (34, (.agg (ic (Ao4_13_4) (co4_13_5) ((a - b))))), (35, (.bool (true))), (37, (.bool (true))), (39, (.agg (ic (Ao4_18_4) (co4_18_5) ((-a))))), (41, (.agg (ic (Ao4_20_4) (co4_20_5) ((-a))))), (42, (.bool (true))), (44, (.bool (true))), (46, (.int .i64 (sgnI a))), (48, (.int .i64 (sgnI a))), (51, (.bool (true)))] ∧ St w w' [(go3_5_1, 24, #[(.bool ((decide (b < 0)))), (.slice (Ao3_3_4) ((((lim b.natAbs))).length) (co3_3_5))]), (go3_4_1, 24, #[(.bool ((decide (a < 0)))), (.slice (Ao3_1_4) ((((lim a.natAbs))).length) (co3_1_5))]), (g5, 24, (ic (A_b) (c_b) (b))), (g1, 24, (ic (A_a) (c_a) (a)))] ∧ Ext w23 (go3_5_1 :: (go3_4_1 :: (g5 :: (g1 :: X)))) w' (go3_5_1 :: (go3_4_1 :: (g5 :: (g1 :: X)))) ∧ UC w' (go3_5_1 :: (go3_4_1 :: (g5 :: (g1 :: X)))) Ao4_2_4 co4_2_5 (lim (a + b).natAbs) ∧ UC w' (go3_5_1 :: (go3_4_1 :: (g5 :: (g1 :: X)))) Ao4_5_4 co4_5_5 (lim (a + b).natAbs) ∧ UC w' (go3_5_1 :: (go3_4_1 :: (g5 :: (g1 :: X)))) Ao4_10_4 co4_10_5 (lim (a - b).natAbs) ∧ UC w' (go3_5_1 :: (go3_4_1 :: (g5 :: (g1 :: X)))) Ao4_13_4 co4_13_5 (lim (a - b).natAbs) ∧ UC w' (go3_5_1 :: (go3_4_1 :: (g5 :: (g1 :: X)))) Ao4_18_4 co4_18_5 (lim (-a).natAbs) ∧ UC w' (go3_5_1 :: (go3_4_1 :: (g5 :: (g1 :: X)))) Ao4_20_4 co4_20_5 (lim (-a).natAbs)
       , fun fa w' => ∃ Ao4_2_4 : Option Addr, ∃ co4_2_5 : Nat, ∃ Ao4_5_4 : Option Addr, ∃ co4_5_5 : Nat, ∃ Ao4_10_4 : Option Addr, ∃ co4_10_5 : Nat, ∃ Ao4_13_4 : Option Addr, ∃ co4_13_5 : Nat, ∃ Ao4_18_4 : Option Addr, ∃ co4_18_5 : Nat, ∃ Ao4_20_4 : Option Addr, ∃ co4_20_5 : Nat, Frm 70 fa [(23, (.agg (ic (Ao4_2_4) (co4_2_5) ((a + b))))), (26, (.agg (ic (Ao4_5_4) (co4_5_5) ((a + b))))), (27, (.bool (true))), (28, (.bool (true))), (31, (.agg (ic (Ao4_10_4) (co4_10_5) ((a - b))))), (34, (.agg (ic (Ao4_13_4) (co4_13_5) ((a - b))))), (35, (.bool (true))), (37, (.bool (true))), (39, (.agg (ic (Ao4_18_4) (co4_18_5) ((-a))))), (41, (.agg (ic (Ao4_20_4) (co4_20_5) ((-a))))), (42, (.bool (true))), (44, (.bool (true))), (46, (.int .i64 (sgnI a))), (48, (.int .i64 (sgnI a))), (51, (.bool (true))), (54, (.int .i64 (cmpI a b)))] ∧ St w w' [(go3_5_1, 24, #[(.bool ((decide (b < 0)))), (.slice (Ao3_3_4) ((((lim b.natAbs))).length) (co3_3_5))]), (go3_4_1, 24, #[(.bool ((decide (a < 0)))), (.slice (Ao3_1_4) ((((lim a.natAbs))).length) (co3_1_5))]), (g5, 24, (ic (A_b) (c_b) (b))), (g1, 24, (ic (A_a) (c_a) (a)))] ∧ Ext w23 (go3_5_1 :: (go3_4_1 :: (g5 :: (g1 :: X)))) w' (go3_5_1 :: (go3_4_1 :: (g5 :: (g1 :: X)))) ∧ UC w' (go3_5_1 :: (go3_4_1 :: (g5 :: (g1 :: X)))) Ao4_2_4 co4_2_5 (lim (a + b).natAbs) ∧ UC w' (go3_5_1 :: (go3_4_1 :: (g5 :: (g1 :: X)))) Ao4_5_4 co4_5_5 (lim (a + b).natAbs) ∧ UC w' (go3_5_1 :: (go3_4_1 :: (g5 :: (g1 :: X)))) Ao4_10_4 co4_10_5 (lim (a - b).natAbs) ∧ UC w' (go3_5_1 :: (go3_4_1 :: (g5 :: (g1 :: X)))) Ao4_13_4 co4_13_5 (lim (a - b).natAbs) ∧ UC w' (go3_5_1 :: (go3_4_1 :: (g5 :: (g1 :: X)))) Ao4_18_4 co4_18_5 (lim (-a).natAbs) ∧ UC w' (go3_5_1 :: (go3_4_1 :: (g5 :: (g1 :: X)))) Ao4_20_4 co4_20_5 (lim (-a).natAbs)
       , fun fa w' => ∃ Ao4_2_4 : Option Addr, ∃ co4_2_5 : Nat, ∃ Ao4_5_4 : Option Addr, ∃ co4_5_5 : Nat, ∃ Ao4_10_4 : Option Addr, ∃ co4_10_5 : Nat, ∃ Ao4_13_4 : Option Addr, ∃ co4_13_5 : Nat, ∃ Ao4_18_4 : Option Addr, ∃ co4_18_5 : Nat, ∃ Ao4_20_4 : Option Addr, ∃ co4_20_5 : Nat, Frm 70 fa [(23, (.agg (ic (Ao4_2_4) (co4_2_5) ((a + b))))), (26, (.agg (ic (Ao4_5_4) (co4_5_5) ((a + b))))), (27, (.bool (true))), (28, (.bool (true))), (31, (.agg (ic (Ao4_10_4) (co4_10_5) ((a - b))))), (34, (.agg (ic (Ao4_13_4) (co4_13_5) ((a - b))))), (35, (.bool (true))), (37, (.bool (true))), (39, (.agg (ic (Ao4_18_4) (co4_18_5) ((-a))))), (41, (.agg (ic (Ao4_20_4) (co4_20_5) ((-a))))), (42, (.bool (true))), (44, (.bool (true))), (46, (.int .i64 (sgnI a))), (48, (.int .i64 (sgnI a))), (51, (.bool (true))), (54, (.int .i64 (cmpI a b))), (57, (.int .i64 (cmpI a b)))] ∧ St w w' [(go3_5_1, 24, #[(.bool ((decide (b < 0)))), (.slice (Ao3_3_4) ((((lim b.natAbs))).length) (co3_3_5))]), (go3_4_1, 24, #[(.bool ((decide (a < 0)))), (.slice (Ao3_1_4) ((((lim a.natAbs))).length) (co3_1_5))]), (g5, 24, (ic (A_b) (c_b) (b))), (g1, 24, (ic (A_a) (c_a) (a)))] ∧ Ext w23 (go3_5_1 :: (go3_4_1 :: (g5 :: (g1 :: X)))) w' (go3_5_1 :: (go3_4_1 :: (g5 :: (g1 :: X)))) ∧ UC w' (go3_5_1 :: (go3_4_1 :: (g5 :: (g1 :: X)))) Ao4_2_4 co4_2_5 (lim (a + b).natAbs) ∧ UC w' (go3_5_1 :: (go3_4_1 :: (g5 :: (g1 :: X)))) Ao4_5_4 co4_5_5 (lim (a + b).natAbs) ∧ UC w' (go3_5_1 :: (go3_4_1 :: (g5 :: (g1 :: X)))) Ao4_10_4 co4_10_5 (lim (a - b).natAbs) ∧ UC w' (go3_5_1 :: (go3_4_1 :: (g5 :: (g1 :: X)))) Ao4_13_4 co4_13_5 (lim (a - b).natAbs) ∧ UC w' (go3_5_1 :: (go3_4_1 :: (g5 :: (g1 :: X)))) Ao4_18_4 co4_18_5 (lim (-a).natAbs) ∧ UC w' (go3_5_1 :: (go3_4_1 :: (g5 :: (g1 :: X)))) Ao4_20_4 co4_20_5 (lim (-a).natAbs)
       , fun fa w' => ∃ Ao4_2_4 : Option Addr, ∃ co4_2_5 : Nat, ∃ Ao4_5_4 : Option Addr, ∃ co4_5_5 : Nat, ∃ Ao4_10_4 : Option Addr, ∃ co4_10_5 : Nat, ∃ Ao4_13_4 : Option Addr, ∃ co4_13_5 : Nat, ∃ Ao4_18_4 : Option Addr, ∃ co4_18_5 : Nat, ∃ Ao4_20_4 : Option Addr, ∃ co4_20_5 : Nat, Frm 70 fa [(23, (.agg (ic (Ao4_2_4) (co4_2_5) ((a + b))))), (26, (.agg (ic (Ao4_5_4) (co4_5_5) ((a + b))))), (27, (.bool (true))), (28, (.bool (true))), (31, (.agg (ic (Ao4_10_4) (co4_10_5) ((a - b))))), (34, (.agg (ic (Ao4_13_4) (co4_13_5) ((a - b))))), (35, (.bool (true))), (37, (.bool (true))), (39, (.agg (ic (Ao4_18_4) (co4_18_5) ((-a))))), (41, (.agg (ic (Ao4_20_4) (co4_20_5) ((-a))))), (42, (.bool (true))), (44, (.bool (true))), (46, (.int .i64 (sgnI a))), (48, (.int .i64 (sgnI a))), (51, (.bool (true))), (54, (.int .i64 (cmpI a b))), (57, (.int .i64 (cmpI a b))), (60, (.bool (true)))] ∧ St w w' [(go3_5_1, 24, #[(.bool ((decide (b < 0)))), (.slice (Ao3_3_4) ((((lim b.natAbs))).length) (co3_3_5))]), (go3_4_1, 24, #[(.bool ((decide (a < 0)))), (.slice (Ao3_1_4) ((((lim a.natAbs))).length) (co3_1_5))]), (g5, 24, (ic (A_b) (c_b) (b))), (g1, 24, (ic (A_a) (c_a) (a)))] ∧ Ext w23 (go3_5_1 :: (go3_4_1 :: (g5 :: (g1 :: X)))) w' (go3_5_1 :: (go3_4_1 :: (g5 :: (g1 :: X)))) ∧ UC w' (go3_5_1 :: (go3_4_1 :: (g5 :: (g1 :: X)))) Ao4_2_4 co4_2_5 (lim (a + b).natAbs) ∧ UC w' (go3_5_1 :: (go3_4_1 :: (g5 :: (g1 :: X)))) Ao4_5_4 co4_5_5 (lim (a + b).natAbs) ∧ UC w' (go3_5_1 :: (go3_4_1 :: (g5 :: (g1 :: X)))) Ao4_10_4 co4_10_5 (lim (a - b).natAbs) ∧ UC w' (go3_5_1 :: (go3_4_1 :: (g5 :: (g1 :: X)))) Ao4_13_4 co4_13_5 (lim (a - b).natAbs) ∧ UC w' (go3_5_1 :: (go3_4_1 :: (g5 :: (g1 :: X)))) Ao4_18_4 co4_18_5 (lim (-a).natAbs) ∧ UC w' (go3_5_1 :: (go3_4_1 :: (g5 :: (g1 :: X)))) Ao4_20_4 co4_20_5 (lim (-a).natAbs)
       , fun fa w' => ∃ Ao4_2_4 : Option Addr, ∃ co4_2_5 : Nat, ∃ Ao4_5_4 : Option Addr, ∃ co4_5_5 : Nat, ∃ Ao4_10_4 : Option Addr, ∃ co4_10_5 : Nat, ∃ Ao4_13_4 : Option Addr, ∃ co4_13_5 : Nat, ∃ Ao4_18_4 : Option Addr, ∃ co4_18_5 : Nat, ∃ Ao4_20_4 : Option Addr, ∃ co4_20_5 : Nat, Frm 70 fa [(23, (.agg (ic (Ao4_2_4) (co4_2_5) ((a + b))))), (26, (.agg (ic (Ao4_5_4) (co4_5_5) ((a + b))))), (27, (.bool (true))), (28, (.bool (true))), (31, (.agg (ic (Ao4_10_4) (co4_10_5) ((a - b))))), (34, (.agg (ic (Ao4_13_4) (co4_13_5) ((a - b))))), (35, (.bool (true))), (37, (.bool (true))), (39, (.agg (ic (Ao4_18_4) (co4_18_5) ((-a))))), (41, (.agg (ic (Ao4_20_4) (co4_20_5) ((-a))))), (42, (.bool (true))), (44, (.bool (true))), (46, (.int .i64 (sgnI a))), (48, (.int .i64 (sgnI a))), (51, (.bool (true))), (54, (.int .i64 (cmpI a b))), (57, (.int .i64 (cmpI a b))), (60, (.bool (true))), (63, (.bool (true)))] ∧ St w w' [(go3_5_1, 24, #[(.bool ((decide (b < 0)))), (.slice (Ao3_3_4) ((((lim b.natAbs))).length) (co3_3_5))]), (go3_4_1, 24, #[(.bool ((decide (a < 0)))), (.slice (Ao3_1_4) ((((lim a.natAbs))).length) (co3_1_5))]), (g5, 24, (ic (A_b) (c_b) (b))), (g1, 24, (ic (A_a) (c_a) (a)))] ∧ Ext w23 (go3_5_1 :: (go3_4_1 :: (g5 :: (g1 :: X)))) w' (go3_5_1 :: (go3_4_1 :: (g5 :: (g1 :: X)))) ∧ UC w' (go3_5_1 :: (go3_4_1 :: (g5 :: (g1 :: X)))) Ao4_2_4 co4_2_5 (lim (a + b).natAbs) ∧ UC w' (go3_5_1 :: (go3_4_1 :: (g5 :: (g1 :: X)))) Ao4_5_4 co4_5_5 (lim (a + b).natAbs) ∧ UC w' (go3_5_1 :: (go3_4_1 :: (g5 :: (g1 :: X)))) Ao4_10_4 co4_10_5 (lim (a - b).natAbs) ∧ UC w' (go3_5_1 :: (go3_4_1 :: (g5 :: (g1 :: X)))) Ao4_13_4 co4_13_5 (lim (a - b).natAbs) ∧ UC w' (go3_5_1 :: (go3_4_1 :: (g5 :: (g1 :: X)))) Ao4_18_4 co4_18_5 (lim (-a).natAbs) ∧ UC w' (go3_5_1 :: (go3_4_1 :: (g5 :: (g1 :: X)))) Ao4_20_4 co4_20_5 (lim (-a).natAbs)
       , fun fa w' => ∃ Ao4_2_4 : Option Addr, ∃ co4_2_5 : Nat, ∃ Ao4_5_4 : Option Addr, ∃ co4_5_5 : Nat, ∃ Ao4_10_4 : Option Addr, ∃ co4_10_5 : Nat, ∃ Ao4_13_4 : Option Addr, ∃ co4_13_5 : Nat, ∃ Ao4_18_4 : Option Addr, ∃ co4_18_5 : Nat, ∃ Ao4_20_4 : Option Addr, ∃ co4_20_5 : Nat, Frm 70 fa [(23, (.agg (ic (Ao4_2_4) (co4_2_5) ((a + b))))), (26, (.agg (ic (Ao4_5_4) (co4_5_5) ((a + b))))), (27, (.bool (true))), (28, (.bool (true))), (31, (.agg (ic (Ao4_10_4) (co4_10_5) ((a - b))))), (34, (.agg (ic (Ao4_13_4) (co4_13_5) ((a - b))))), (35, (.bool (true))), (37, (.bool (true))), (39, (.agg (ic (Ao4_18_4) (co4_18_5) ((-a))))), (41, (.agg (ic (Ao4_20_4) (co4_20_5) ((-a))))), (42, (.bool (true))), (44, (.bool (true))), (46, (.int .i64 (sgnI a))), (48, (.int .i64 (sgnI a))), (51, (.bool (true))), (54, (.int .i64 (cmpI a b))), (57, (.int .i64 (cmpI a b))), (60, (.bool (true))), (63, (.bool (true))), (65, (.bool (true)))] ∧ St w w' [(go3_5_1, 24, #[(.bool ((decide (b < 0)))), (.slice (Ao3_3_4) ((((lim b.natAbs))).length) (co3_3_5))]), (go3_4_1, 24, #[(.bool ((decide (a < 0)))), (.slice (Ao3_1_4) ((((lim a.natAbs))).length) (co3_1_5))]), (g5, 24, (ic (A_b) (c_b) (b))), (g1, 24, (ic (A_a) (c_a) (a)))] ∧ Ext w23 (go3_5_1 :: (go3_4_1 :: (g5 :: (g1 :: X)))) w' (go3_5_1 :: (go3_4_1 :: (g5 :: (g1 :: X)))) ∧ UC w' (go3_5_1 :: (go3_4_1 :: (g5 :: (g1 :: X)))) Ao4_2_4 co4_2_5 (lim (a + b).natAbs) ∧ UC w' (go3_5_1 :: (go3_4_1 :: (g5 :: (g1 :: X)))) Ao4_5_4 co4_5_5 (lim (a + b).natAbs) ∧ UC w' (go3_5_1 :: (go3_4_1 :: (g5 :: (g1 :: X)))) Ao4_10_4 co4_10_5 (lim (a - b).natAbs) ∧ UC w' (go3_5_1 :: (go3_4_1 :: (g5 :: (g1 :: X)))) Ao4_13_4 co4_13_5 (lim (a - b).natAbs) ∧ UC w' (go3_5_1 :: (go3_4_1 :: (g5 :: (g1 :: X)))) Ao4_18_4 co4_18_5 (lim (-a).natAbs) ∧ UC w' (go3_5_1 :: (go3_4_1 :: (g5 :: (g1 :: X)))) Ao4_20_4 co4_20_5 (lim (-a).natAbs)
       , fun fa w' => ∃ Ao4_2_4 : Option Addr, ∃ co4_2_5 : Nat, ∃ Ao4_5_4 : Option Addr, ∃ co4_5_5 : Nat, ∃ Ao4_10_4 : Option Addr, ∃ co4_10_5 : Nat, ∃ Ao4_13_4 : Option Addr, ∃ co4_13_5 : Nat, ∃ Ao4_18_4 : Option Addr, ∃ co4_18_5 : Nat, ∃ Ao4_20_4 : Option Addr, ∃ co4_20_5 : Nat, Frm 70 fa [(23, (.agg (ic (Ao4_2_4) (co4_2_5) ((a + b))))), (26, (.agg (ic (Ao4_5_4) (co4_5_5) ((a + b))))), (27, (.bool (true))), (28, (.bool (true))), (31, (.agg (ic (Ao4_10_4) (co4_10_5) ((a - b))))), (34, (.agg (ic (Ao4_13_4) (co4_13_5) ((a - b))))), (35, (.bool (true))), (37, (.bool (true))), (39, (.agg (ic (Ao4_18_4) (co4_18_5) ((-a))))), (41, (.agg (ic (Ao4_20_4) (co4_20_5) ((-a))))), (42, (.bool (true))), (44, (.bool (true))), (46, (.int .i64 (sgnI a))), (48, (.int .i64 (sgnI a))), (51, (.bool (true))), (54, (.int .i64 (cmpI a b))), (57, (.int .i64 (cmpI a b))), (60, (.bool (true))), (63, (.bool (true))), (65, (.bool (true))), (68, (.bool (true)))] ∧ St w w' [(go3_5_1, 24, #[(.bool ((decide (b < 0)))), (.slice (Ao3_3_4) ((((lim b.natAbs))).length) (co3_3_5))]), (go3_4_1, 24, #[(.bool ((decide (a < 0)))), (.slice (Ao3_1_4) ((((lim a.natAbs))).length) (co3_1_5))]), (g5, 24, (ic (A_b) (c_b) (b))), (g1, 24, (ic (A_a) (c_a) (a)))] ∧ Ext w23 (go3_5_1 :: (go3_4_1 :: (g5 :: (g1 :: X)))) w' (go3_5_1 :: (go3_4_1 :: (g5 :: (g1 :: X)))) ∧ UC w' (go3_5_1 :: (go3_4_1 :: (g5 :: (g1 :: X)))) Ao4_2_4 co4_2_5 (lim (a + b).natAbs) ∧ UC w' (go3_5_1 :: (go3_4_1 :: (g5 :: (g1 :: X)))) Ao4_5_4 co4_5_5 (lim (a + b).natAbs) ∧ UC w' (go3_5_1 :: (go3_4_1 :: (g5 :: (g1 :: X)))) Ao4_10_4 co4_10_5 (lim (a - b).natAbs) ∧ UC w' (go3_5_1 :: (go3_4_1 :: (g5 :: (g1 :: X)))) Ao4_13_4 co4_13_5 (lim (a - b).natAbs) ∧ UC w' (go3_5_1 :: (go3_4_1 :: (g5 :: (g1 :: X)))) Ao4_18_4 co4_18_5 (lim (-a).natAbs) ∧ UC w' (go3_5_1 :: (go3_4_1 :: (g5 :: (g1 :: X)))) Ao4_20_4 co4_20_5 (lim (-a).natAbs)
     ] TfLS.mixed rfl rfl rfl rfl rfl rfl (hF.take (hF.take (hF.take (hF.take (hF.take (hF.take (hF.take hF.nil rfl) rfl) rfl) rfl) rfl) rfl) rfl) rfl ⟨hF.nil, hS.drew, Ext.drew _ _⟩ ?_ ?_ ?_
 all_goals clear hF fa
 ·
  refine ⟨?_, ?_, ?_, ?_, ?_, ?_, ?_, ?_, ?_, ?_, ?_, ?_, ?_, ?_, ?_, ?_, ?_, ?_, ?_, ?_, ?_, ?_, trivial⟩
  ·
   rintro fa w' i o d v ho hd hna ⟨hA, hR⟩; exact ⟨hA.put_other v (freeOf_at (acts := [2, 5, 6, 7, 10, 13, 14, 16, 18, 20, 21, 23, 25, 27, 30, 33, 36, 39, 42, 44, 47]) rfl ho hd hna), hR⟩
  ·
   rintro fa w' i o d v ho hd hna ⟨Ao4_2_4, co4_2_5, hA, hR⟩; exact ⟨Ao4_2_4, co4_2_5, hA.put_other v (freeOf_at (acts := [2, 5, 6, 7, 10, 13, 14, 16, 18, 20, 21, 23, 25, 27, 30, 33, 36, 39, 42, 44, 47]) rfl ho hd hna), hR⟩
  ·
   rintro fa w' i o d v ho hd hna ⟨Ao4_2_4, co4_2_5, Ao4_5_4, co4_5_5, hA, hR⟩; exact ⟨Ao4_2_4, co4_2_5, Ao4_5_4, co4_5_5, hA.put_other v (freeOf_at (acts := [2, 5, 6, 7, 10, 13, 14, 16, 18, 20, 21, 23, 25, 27, 30, 33, 36, 39, 42, 44, 47]) rfl ho hd hna), hR⟩
  ·
   rintro fa w' i o d v ho hd hna ⟨Ao4_2_4, co4_2_5, Ao4_5_4, co4_5_5, hA, hR⟩; exact ⟨Ao4_2_4, co4_2_5, Ao4_5_4, co4_5_5, hA.put_other v (freeOf_at (acts := [2, 5, 6, 7, 10, 13, 14, 16, 18, 20, 21, 23, 25, 27, 30, 33, 36, 39, 42, 44, 47]) rfl ho hd hna), hR⟩
  ·
   rintro fa w' i o d v ho hd hna ⟨Ao4_2_4, co4_2_5, Ao4_5_4, co4_5_5, hA, hR⟩; exact ⟨Ao4_2_4, co4_2_5, Ao4_5_4, co4_5_5, hA.put_other v (freeOf_at (acts := [2, 5, 6, 7, 10, 13, 14, 16, 18, 20, 21, 23, 25, 27, 30, 33, 36, 39, 42, 44, 47]) rfl ho hd hna), hR⟩
  ·
   rintro fa w' i o d v ho hd hna ⟨Ao4_2_4, co4_2_5, Ao4_5_4, co4_5_5, Ao4_10_4, co4_10_5, hA, hR⟩; exact ⟨Ao4_2_4, co4_2_5, Ao4_5_4, co4_5_5, Ao4_10_4, co4_10_5, hA.put_other v (freeOf_at (acts := [2, 5, 6, 7, 10, 13, 14, 16, 18, 20, 21, 23, 25, 27, 30, 33, 36, 39, 42, 44, 47]) rfl ho hd hna), hR⟩
  ·
   rintro fa w' i o d v ho hd hna ⟨Ao4_2_4, co4_2_5, Ao4_5_4, co4_5_5, Ao4_10_4, co4_10_5, Ao4_13_4, co4_13_5, hA, hR⟩; exact ⟨Ao4_2_4, co4_2_5, Ao4_5_4, co4_5_5, Ao4_10_4, co4_10_5, Ao4_13_4, co4_13_5, hA.put_other v (freeOf_at (acts := [2, 5, 6, 7, 10, 13, 14, 16, 18, 20, 21, 23, 25, 27, 30, 33, 36, 39, 42, 44, 47]) rfl ho hd hna), hR⟩
  ·
   rintro fa w' i o d v ho hd hna ⟨Ao4_2_4, co4_2_5, Ao4_5_4, co4_5_5, Ao4_10_4, co4_10_5, Ao4_13_4, co4_13_5, hA, hR⟩; exact ⟨Ao4_2_4, co4_2_5, Ao4_5_4, co4_5_5, Ao4_10_4, co4_10_5, Ao4_13_4, co4_13_5, hA.put_other v (freeOf_at (acts := [2, 5, 6, 7, 10, 13, 14, 16, 18, 20, 21, 23, 25, 27, 30, 33, 36, 39, 42, 44, 47]) rfl ho hd hna), hR⟩
  ·
   rintro fa w' i o d v ho hd hna ⟨Ao4_2_4, co4_2_5, Ao4_5_4, co4_5_5, Ao4_10_4, co4_10_5, Ao4_13_4, co4_13_5, hA, hR⟩; exact ⟨Ao4_2_4, co4_2_5, Ao4_5_4, co4_5_5, Ao4_10_4, co4_10_5, Ao4_13_4, co4_13_5, hA.put_other v (freeOf_at (acts := [2, 5, 6, 7, 10, 13, 14, 16, 18, 20, 21, 23, 25, 27, 30, 33, 36, 39, 42, 44, 47]) rfl ho hd hna), hR⟩
  ·
   rintro fa w' i o d v ho hd hna ⟨Ao4_2_4, co4_2_5, Ao4_5_4, co4_5_5, Ao4_10_4, co4_10_5, Ao4_13_4, co4_13_5, Ao4_18_4, co4_18_5, hA, hR⟩; exact ⟨Ao4_2_4, co4_2_5, Ao4_5_4, co4_5_5, Ao4_10_4, co4_10_5, Ao4_13_4, co4_13_5, Ao4_18_4, co4_18_5, hA.put_other v (freeOf_at (acts := [2, 5, 6, 7, 10, 13, 14, 16, 18, 20, 21, 23, 25, 27, 30, 33, 36, 39, 42, 44, 47]) rfl ho hd hna), hR⟩
  ·
   rintro fa w' i o d v ho hd hna ⟨Ao4_2_4, co4_2_5, Ao4_5_4, co4_5_5, Ao4_10_4, co4_10_5, Ao4_13_4, co4_13_5, Ao4_18_4, co4_18_5, Ao4_20_4, co4_20_5, hA, hR⟩; exact ⟨Ao4_2_4, co4_2_5, Ao4_5_4, co4_5_5, Ao4_10_4, co4_10_5, Ao4_13_4, co4_13_5, Ao4_18_4, co4_18_5, Ao4_20_4, co4_20_5, hA.put_other v (freeOf_at (acts := [2, 5, 6, 7, 10, 13, 14, 16, 18, 20, 21, 23, 25, 27, 30, 33, 36, 39, 42, 44, 47]) rfl ho hd hna), hR⟩
  ·
   rintro fa w' i o d v ho hd hna ⟨Ao4_2_4, co4_2_5, Ao4_5_4, co4_5_5, Ao4_10_4, co4_10_5, Ao4_13_4, co4_13_5, Ao4_18_4, co4_18_5, Ao4_20_4, co4_20_5, hA, hR⟩; exact ⟨Ao4_2_4, co4_2_5, Ao4_5_4, co4_5_5, Ao4_10_4, co4_10_5, Ao4_13_4, co4_13_5, Ao4_18_4, co4_18_5, Ao4_20_4, co4_20_5, hA.put_other v (freeOf_at (acts := [2, 5, 6, 7, 10, 13, 14, 16, 18, 20, 21, 23, 25, 27, 30, 33, 36, 39, 42, 44, 47]) rfl ho hd hna), hR⟩
  ·
   rintro fa w' i o d v ho hd hna ⟨Ao4_2_4, co4_2_5, Ao4_5_4, co4_5_5, Ao4_10_4, co4_10_5, Ao4_13_4, co4_13_5, Ao4_18_4, co4_18_5, Ao4_20_4, co4_20_5, hA, hR⟩; exact ⟨Ao4_2_4, co4_2_5, Ao4_5_4, co4_5_5, Ao4_10_4, co4_10_5, Ao4_13_4, co4_13_5, Ao4_18_4, co4_18_5, Ao4_20_4, co4_20_5, hA.put_other v (freeOf_at (acts := [2, 5, 6, 7, 10, 13, 14, 16, 18, 20, 21, 23, 25, 27, 30, 33, 36, 39, 42, 44, 47]) rfl ho hd hna), hR⟩
  ·
   rintro fa w' i o d v ho hd hna ⟨Ao4_2_4, co4_2_5, Ao4_5_4, co4_5_5, Ao4_10_4, co4_10_5, Ao4_13_4, co4_13_5, Ao4_18_4, co4_18_5, Ao4_20_4, co4_20_5, hA, hR⟩; exact ⟨Ao4_2_4, co4_2_5, Ao4_5_4, co4_5_5, Ao4_10_4, co4_10_5, Ao4_13_4, co4_13_5, Ao4_18_4, co4_18_5, Ao4_20_4, co4_20_5, hA.put_other v (freeOf_at (acts := [2, 5, 6, 7, 10, 13, 14, 16, 18, 20, 21, 23, 25, 27, 30, 33, 36, 39, 42, 44, 47]) rfl ho hd hna), hR⟩
  ·
   rintro fa w' i o d v ho hd hna ⟨Ao4_2_4, co4_2_5, Ao4_5_4, co4_5_5, Ao4_10_4, co4_10_5, Ao4_13_4, co4_13_5, Ao4_18_4, co4_18_5, Ao4_20_4, co4_20_5, hA, hR⟩; exact ⟨Ao4_2_4, co4_2_5, Ao4_5_4, co4_5_5, Ao4_10_4, co4_10_5, Ao4_13_4, co4_13_5, Ao4_18_4, co4_18_5, Ao4_20_4, co4_20_5, hA.put_other v (freeOf_at (acts := [2, 5, 6, 7, 10, 13, 14, 16, 18, 20, 21, 23, 25, 27, 30, 33, 36, 39, 42, 44, 47]) rfl ho hd hna), hR⟩
  ·
   rintro fa w' i o d v ho hd hna ⟨Ao4_2_4, co4_2_5, Ao4_5_4, co4_5_5, Ao4_10_4, co4_10_5, Ao4_13_4, co4_13_5, Ao4_18_4, co4_18_5, Ao4_20_4, co4_20_5, hA, hR⟩; exact ⟨Ao4_2_4, co4_2_5, Ao4_5_4, co4_5_5, Ao4_10_4, co4_10_5, Ao4_13_4, co4_13_5, Ao4_18_4, co4_18_5, Ao4_20_4, co4_20_5, hA.put_other v (freeOf_at (acts := [2, 5, 6, 7, 10, 13, 14, 16, 18, 20, 21, 23, 25, 27, 30, 33, 36, 39, 42, 44, 47]) rfl ho hd hna), hR⟩
  ·
   rintro fa w' i o d v ho hd hna ⟨Ao4_2_4, co4_2_5, Ao4_5_4, co4_5_5, Ao4_10_4, co4_10_5, Ao4_13_4, co4_13_5, Ao4_18_4, co4_18_5, Ao4_20_4, co4_20_5, hA, hR⟩; exact ⟨Ao4_2_4, co4_2_5, Ao4_5_4, co4_5_5, Ao4_10_4, co4_10_5, Ao4_13_4, co4_13_5, Ao4_18_4, co4_18_5, Ao4_20_4, co4_20_5, hA.put_other v (freeOf_at (acts := [2, 5, 6, 7, 10, 13, 14, 16, 18, 20, 21, 23, 25, 27, 30, 33, 36, 39, 42, 44, 47]) rfl ho hd hna), hR⟩
  ·
   rintro fa w' i o d v ho hd hna ⟨Ao4_2_4, co4_2_5, Ao4_5_4, co4_5_5, Ao4_10_4, co4_10_5, Ao4_13_4, co4_13_5, Ao4_18_4, co4_18_5, Ao4_20_4, co4_20_5, hA, hR⟩; exact ⟨Ao4_2_4, co4_2_5, Ao4_5_4, co4_5_5, Ao4_10_4, co4_10_5, Ao4_13_4, co4_13_5, Ao4_18_4, co4_18_5, Ao4_20_4, co4_20_5, hA.put_other v (freeOf_at (acts := [2, 5, 6, 7, 10, 13, 14, 16, 18, 20, 21, 23, 25, 27, 30, 33, 36, 39, 42, 44, 47]) rfl ho hd hna), hR⟩
  ·
   rintro fa w' i o d v ho hd hna ⟨Ao4_2_4, co4_2_5, Ao4_5_4, co4_5_5, Ao4_10_4, co4_10_5, Ao4_13_4, co4_13_5, Ao4_18_4, co4_18_5, Ao4_20_4, co4_20_5, hA, hR⟩; exact ⟨Ao4_2_4, co4_2_5, Ao4_5_4, co4_5_5, Ao4_10_4, co4_10_5, Ao4_13_4, co4_13_5, Ao4_18_4, co4_18_5, Ao4_20_4, co4_20_5, hA.put_other v (freeOf_at (acts := [2, 5, 6, 7, 10, 13, 14, 16, 18, 20, 21, 23, 25, 27, 30, 33, 36, 39, 42, 44, 47]) rfl ho hd hna), hR⟩
  ·
   rintro fa w' i o d v ho hd hna ⟨Ao4_2_4, co4_2_5, Ao4_5_4, co4_5_5, Ao4_10_4, co4_10_5, Ao4_13_4, co4_13_5, Ao4_18_4, co4_18_5, Ao4_20_4, co4_20_5, hA, hR⟩; exact ⟨Ao4_2_4, co4_2_5, Ao4_5_4, co4_5_5, Ao4_10_4, co4_10_5, Ao4_13_4, co4_13_5, Ao4_18_4, co4_18_5, Ao4_20_4, co4_20_5, hA.put_other v (freeOf_at (acts := [2, 5, 6, 7, 10, 13, 14, 16, 18, 20, 21, 23, 25, 27, 30, 33, 36, 39, 42, 44, 47]) rfl ho hd hna), hR⟩
  ·
   rintro fa w' i o d v ho hd hna ⟨Ao4_2_4, co4_2_5, Ao4_5_4, co4_5_5, Ao4_10_4, co4_10_5, Ao4_13_4, co4_13_5, Ao4_18_4, co4_18_5, Ao4_20_4, co4_20_5, hA, hR⟩; exact ⟨Ao4_2_4, co4_2_5, Ao4_5_4, co4_5_5, Ao4_10_4, co4_10_5, Ao4_13_4, co4_13_5, Ao4_18_4, co4_18_5, Ao4_20_4, co4_20_5, hA.put_other v (freeOf_at (acts := [2, 5, 6, 7, 10, 13, 14, 16, 18, 20, 21, 23, 25, 27, 30, 33, 36, 39, 42, 44, 47]) rfl ho hd hna), hR⟩
  ·
   rintro fa w' i o d v ho hd hna ⟨Ao4_2_4, co4_2_5, Ao4_5_4, co4_5_5, Ao4_10_4, co4_10_5, Ao4_13_4, co4_13_5, Ao4_18_4, co4_18_5, Ao4_20_4, co4_20_5, hA, hR⟩; exact ⟨Ao4_2_4, co4_2_5, Ao4_5_4, co4_5_5, Ao4_10_4, co4_10_5, Ao4_13_4, co4_13_5, Ao4_18_4, co4_18_5, Ao4_20_4, co4_20_5, hA.put_other v (freeOf_at (acts := [2, 5, 6, 7, 10, 13, 14, 16, 18, 20, 21, 23, 25, 27, 30, 33, 36, 39, 42, 44, 47]) rfl ho hd hna), hR⟩
 ·
  refine ⟨?_, ?_, ?_, ?_, ?_, ?_, ?_, ?_, ?_, ?_, ?_, ?_, ?_, ?_, ?_, ?_, ?_, ?_, ?_, ?_, ?_, ?_, ?_, ?_, ?_, ?_, ?_, ?_, ?_, ?_, ?_, ?_, ?_, ?_, ?_, ?_, ?_, ?_, ?_, ?_, ?_, ?_, ?_, ?_, ?_, ?_, ?_, ?_, ?_, ?_, trivial⟩
  ·
   refine .inr (.inl ⟨rfl, _, _, rfl, rfl, ?_, trivial⟩)
   ·
    intro fa w' hΦ hF hB K hK
    obtain ⟨hA, hS, E_w'⟩ := hΦ
    exact fl_val rfl rfl rfl (ex_loadb TfLS.row24 (hF.ev rfl) (hS.get 1 rfl) rfl) hK
  ·
   refine .inr (.inl ⟨rfl, _, _, rfl, rfl, ?_, trivial⟩)
   ·
    intro fa w' hΦ hF hB K hK
    obtain ⟨hA, hS, E_w'⟩ := hΦ
    exact fl_val rfl rfl rfl (ex_loadb TfLS.row24 (hF.ev rfl) (hS.get 0 rfl) rfl) hK
  ·
   refine .inr (.inr ⟨rfl, ?_, trivial⟩)
   ·
    intro fa w' hΦ hF hB
    obtain ⟨hA, hS, E_w'⟩ := hΦ
    replace hF := hF.cons (hB.val 0 _ 21 _ rfl rfl rfl rfl)
    replace hF := hF.cons (hB.val 1 _ 22 _ rfl rfl rfl rfl)
    refine wop rfl rfl ?_
    have hC := integer_Add_ok (w := w') (X := (go3_5_1 :: (go3_4_1 :: (g5 :: (g1 :: X))))) (a := a) (b := b) (hS.bnd hX) (IntV.of_ (n := (((lim a.natAbs))).length) (b := (decide (a < 0))) (x := a) ((huo3_1_6.ext E_w')) (rfl) (rfl) (rfl)) (IntV.of_ (n := (((lim b.natAbs))).length) (b := (decide (b < 0))) (x := b) ((huo3_3_6.ext E_w')) (rfl) (rfl) (rfl)) (by omega) (by omega)
    refine op_call hF rfl TfLS.body28 (args2 (hF.ev rfl) (hF.ev rfl)) hC ?_
    clear hC
    rintro _ wo4_2_1 ⟨⟨_, rfl, Ao4_2_4, co4_2_5, rfl, huo4_2_6⟩, hbo4_2_2⟩
    clear hF; intro hF
    replace hS := hS.call hbo4_2_2; have Eo4_2_3 := Ext.call (go3_5_1 :: (go3_4_1 :: (g5 :: (g1 :: X)))) hbo4_2_2
    have hA1 := ((hA.put_other _ rfl).cons (hF.get 23 _ rfl))
    exact ⟨1, rfl, ⟨Ao4_2_4, co4_2_5, (hA1.take hA1.nil rfl), hS, (E_w'.trans Eo4_2_3), huo4_2_6⟩, _, rfl, fun u hu => by cases hu <;> rfl⟩
  ·
   refine .inr (.inl ⟨rfl, _, _, rfl, rfl, ?_, ?_, trivial⟩)
   ·
    intro fa w' hΦ hF hB K hK
    obtain ⟨hA, hS, E_w'⟩ := hΦ
    exact fl_val rfl rfl rfl (ex_loadb TfLS.row24 (hF.ev rfl) (hS.get 3 rfl) rfl) hK
   ·
    intro fa w' hΦ hF hB K hK
    obtain ⟨Ao4_2_4, co4_2_5, hA, hS, E_w', huo4_2_6⟩ := hΦ
    exact fl_val rfl rfl rfl (ex_loadb TfLS.row24 (hF.ev rfl) (hS.get 3 rfl) rfl) hK
  ·
   refine .inr (.inl ⟨rfl, _, _, rfl, rfl, ?_, ?_, trivial⟩)
   ·
    intro fa w' hΦ hF hB K hK
    obtain ⟨hA, hS, E_w'⟩ := hΦ
    exact fl_val rfl rfl rfl (ex_loadb TfLS.row24 (hF.ev rfl) (hS.get 2 rfl) rfl) hK
   ·
    intro fa w' hΦ hF hB K hK
    obtain ⟨Ao4_2_4, co4_2_5, hA, hS, E_w', huo4_2_6⟩ := hΦ
    exact fl_val rfl rfl rfl (ex_loadb TfLS.row24 (hF.ev rfl) (hS.get 2 rfl) rfl) hK
  ·
   refine .inr (.inr ⟨rfl, ?_, trivial⟩)
   ·
    intro fa w' hΦ hF hB
    obtain ⟨Ao4_2_4, co4_2_5, hA, hS, E_w', huo4_2_6⟩ := hΦ
    replace hF := hF.cons (hB.val 3 _ 24 _ rfl rfl rfl rfl)
    replace hF := hF.cons (hB.val 4 _ 25 _ rfl rfl rfl rfl)
    refine wop rfl rfl ?_
    have hC := ref01_Add_ok (w := w') (X := (go3_5_1 :: (go3_4_1 :: (g5 :: (g1 :: X))))) (a := a) (b := b) (hS.bnd hX) (IntV.of_ (n := (lim a.natAbs).length) (b := decide (a < 0)) (x := a) ((hu_a.ext ((((((E3.trans E7).trans E11).trans E14).trans E19).trans E_w23).trans E_w'))) (rfl) (rfl) (rfl)) (IntV.of_ (n := (lim b.natAbs).length) (b := decide (b < 0)) (x := b) ((hu_b.ext ((((((E3.trans E7).trans E11).trans E14).trans E19).trans E_w23).trans E_w'))) (rfl) (rfl) (rfl)) (by omega) (by omega)
    refine op_call hF rfl TfLS.body20 (args2 (hF.ev rfl) (hF.ev rfl)) hC ?_
    clear hC
    rintro _ wo4_5_1 ⟨⟨_, rfl, Ao4_5_4, co4_5_5, rfl, huo4_5_6⟩, hbo4_5_2⟩
    clear hF; intro hF
    replace hS := hS.call hbo4_5_2; have Eo4_5_3 := Ext.call (go3_5_1 :: (go3_4_1 :: (g5 :: (g1 :: X)))) hbo4_5_2
    have hA1 := ((hA.put_other _ rfl).cons (hF.get 26 _ rfl))
    exact ⟨2, rfl, ⟨Ao4_2_4, co4_2_5, Ao4_5_4, co4_5_5, (hA1.take (hA1.take hA1.nil rfl) rfl), hS, (E_w'.trans Eo4_5_3), (huo4_2_6.ext Eo4_5_3), huo4_5_6⟩, _, rfl, fun u hu => by cases hu <;> rfl⟩
  ·
   refine .inr (.inr ⟨rfl, ?_, trivial⟩)
   ·
    intro fa w' hΦ hF hB
    obtain ⟨Ao4_2_4, co4_2_5, Ao4_5_4, co4_5_5, hA, hS, E_w', huo4_2_6, huo4_5_6⟩ := hΦ
    replace hF := hF.cons (hA.get 23 _ rfl)
    replace hF := hF.cons (hA.get 26 _ rfl)
    refine wop rfl rfl ?_
    have hC := law01_same_ok (w := w') (X := (go3_5_1 :: (go3_4_1 :: (g5 :: (g1 :: X))))) (a := (a + b)) (b := (a + b)) (hS.bnd hX) (IntV.of_ (n := (lim (a + b).natAbs).length) (b := decide ((a + b) < 0)) (x := a + b) (huo4_2_6) (rfl) (rfl) (rfl)) (IntV.of_ (n := (lim (a + b).natAbs).length) (b := decide ((a + b) < 0)) (x := a + b) (huo4_5_6) (rfl) (rfl) (rfl))
    rw [show (decide ((a + b) = (a + b))) = true from by simp] at hC
    refine op_call hF rfl TfLS.body19 (args2 (hF.ev rfl) (hF.ev rfl)) hC ?_
    clear hC
    rintro _ wo4_6_1 ⟨rfl, hbo4_6_2⟩
    clear hF; intro hF
    replace hS := hS.call hbo4_6_2; have Eo4_6_3 := Ext.call (go3_5_1 :: (go3_4_1 :: (g5 :: (g1 :: X)))) hbo4_6_2
    have hA1 := ((hA.put_other _ rfl).cons (hF.get 27 _ rfl))
    exact ⟨3, rfl, ⟨Ao4_2_4, co4_2_5, Ao4_5_4, co4_5_5, (hA1.take (hA1.take (hA1.take hA1.nil rfl) rfl) rfl), hS, (E_w'.trans Eo4_6_3), (huo4_2_6.ext Eo4_6_3), (huo4_5_6.ext Eo4_6_3)⟩, _, rfl, fun u hu => by cases hu <;> rfl⟩
  ·
   refine .inr (.inr ⟨rfl, ?_, trivial⟩)
   ·
    intro fa w' hΦ hF hB
    obtain ⟨Ao4_2_4, co4_2_5, Ao4_5_4, co4_5_5, hA, hS, E_w', huo4_2_6, huo4_5_6⟩ := hΦ
    replace hF := hF.cons (hB.val 6 _ 27 _ rfl rfl rfl rfl)
    refine wop rfl rfl ?_
    refine op_val hF rfl rfl (ex_move (hF.ev rfl)) ?_; clear hF; intro hF
    have hA1 := ((hA.put_other _ rfl).cons (hF.get 28 _ rfl))
    exact ⟨4, rfl, ⟨Ao4_2_4, co4_2_5, Ao4_5_4, co4_5_5, (hA1.take (hA1.take (hA1.take (hA1.take hA1.nil rfl) rfl) rfl) rfl), hS, E_w', huo4_2_6, huo4_5_6⟩, _, rfl, fun u hu => by cases hu <;> rfl⟩
  ·
   refine .inr (.inl ⟨rfl, _, _, rfl, rfl, ?_, trivial⟩)
   ·
    intro fa w' hΦ hF hB K hK
    obtain ⟨Ao4_2_4, co4_2_5, Ao4_5_4, co4_5_5, hA, hS, E_w', huo4_2_6, huo4_5_6⟩ := hΦ
    replace hF := hF.cons (hB.val 7 _ 28 _ rfl rfl rfl rfl)
    exact fl_valg hF rfl rfl rfl rfl (ex_loadb TfLS.row24 (hF.ev rfl) (hS.get 1 rfl) rfl) hK
  ·
   refine .inr (.inl ⟨rfl, _, _, rfl, rfl, ?_, trivial⟩)
   ·
    intro fa w' hΦ hF hB K hK
    obtain ⟨Ao4_2_4, co4_2_5, Ao4_5_4, co4_5_5, hA, hS, E_w', huo4_2_6, huo4_5_6⟩ := hΦ
    replace hF := hF.cons (hB.val 7 _ 28 _ rfl rfl rfl rfl)
    exact fl_valg hF rfl rfl rfl rfl (ex_loadb TfLS.row24 (hF.ev rfl) (hS.get 0 rfl) rfl) hK
  ·
   refine .inr (.inr ⟨rfl, ?_, trivial⟩)
   ·
    intro fa w' hΦ hF hB
    obtain ⟨Ao4_2_4, co4_2_5, Ao4_5_4, co4_5_5, hA, hS, E_w', huo4_2_6, huo4_5_6⟩ := hΦ
    replace hF := hF.cons (hB.val 8 _ 29 _ rfl rfl rfl rfl)
    replace hF := hF.cons (hB.val 9 _ 30 _ rfl rfl rfl rfl)
    replace hF := hF.cons (hB.val 7 _ 28 _ rfl rfl rfl rfl)
    refine wopg hF rfl rfl rfl ?_
    have hC := integer_Sub_ok (w := w') (X := (go3_5_1 :: (go3_4_1 :: (g5 :: (g1 :: X))))) (a := a) (b := b) (hS.bnd hX) (IntV.of_ (n := (((lim a.natAbs))).length) (b := (decide (a < 0))) (x := a) ((huo3_1_6.ext E_w')) (rfl) (rfl) (rfl)) (IntV.of_ (n := (((lim b.natAbs))).length) (b := (decide (b < 0))) (x := b) ((huo3_3_6.ext E_w')) (rfl) (rfl) (rfl)) (by omega) (by omega)
    refine op_call hF rfl TfLS.body29 (args2 (hF.ev rfl) (hF.ev rfl)) hC ?_
    clear hC
    rintro _ wo4_10_1 ⟨⟨_, rfl, Ao4_10_4, co4_10_5, rfl, huo4_10_6⟩, hbo4_10_2⟩
    clear hF; intro hF
    replace hS := hS.call hbo4_10_2; have Eo4_10_3 := Ext.call (go3_5_1 :: (go3_4_1 :: (g5 :: (g1 :: X)))) hbo4_10_2
    have hA1 := ((hA.put_other _ rfl).cons (hF.get 31 _ rfl))
    exact ⟨5, rfl, ⟨Ao4_2_4, co4_2_5, Ao4_5_4, co4_5_5, Ao4_10_4, co4_10_5, (hA1.take (hA1.take (hA1.take (hA1.take (hA1.take hA1.nil rfl) rfl) rfl) rfl) rfl), hS, (E_w'.trans Eo4_10_3), (huo4_2_6.ext Eo4_10_3), (huo4_5_6.ext Eo4_10_3), huo4_10_6⟩, _, rfl, fun u hu => by cases hu <;> rfl⟩
  ·
   refine .inr (.inl ⟨rfl, _, _, rfl, rfl, ?_, ?_, trivial⟩)
   ·
    intro fa w' hΦ hF hB K hK
    obtain ⟨Ao4_2_4, co4_2_5, Ao4_5_4, co4_5_5, hA, hS, E_w', huo4_2_6, huo4_5_6⟩ := hΦ
    replace hF := hF.cons (hB.val 7 _ 28 _ rfl rfl rfl rfl)
    exact fl_valg hF rfl rfl rfl rfl (ex_loadb TfLS.row24 (hF.ev rfl) (hS.get 3 rfl) rfl) hK
   ·
    intro fa w' hΦ hF hB K hK
    obtain ⟨Ao4_2_4, co4_2_5, Ao4_5_4, co4_5_5, Ao4_10_4, co4_10_5, hA, hS, E_w', huo4_2_6, huo4_5_6, huo4_10_6⟩ := hΦ
    replace hF := hF.cons (hB.val 7 _ 28 _ rfl rfl rfl rfl)
    exact fl_valg hF rfl rfl rfl rfl (ex_loadb TfLS.row24 (hF.ev rfl) (hS.get 3 rfl) rfl) hK
  ·
   refine .inr (.inl ⟨rfl, _, _, rfl, rfl, ?_, ?_, trivial⟩)
   ·
    intro fa w' hΦ hF hB K hK
    obtain ⟨Ao4_2_4, co4_2_5, Ao4_5_4, co4_5_5, hA, hS, E_w', huo4_2_6, huo4_5_6⟩ := hΦ
    replace hF := hF.cons (hB.val 7 _ 28 _ rfl rfl rfl rfl)
    exact fl_valg hF rfl rfl rfl rfl (ex_loadb TfLS.row24 (hF.ev rfl) (hS.get 2 rfl) rfl) hK
   ·
    intro fa w' hΦ hF hB K hK
    obtain ⟨Ao4_2_4, co4_2_5, Ao4_5_4, co4_5_5, Ao4_10_4, co4_10_5, hA, hS, E_w', huo4_2_6, huo4_5_6, huo4_10_6⟩ := hΦ
    replace hF := hF.cons (hB.val 7 _ 28 _ rfl rfl rfl rfl)
    exact fl_valg hF rfl rfl rfl rfl (ex_loadb TfLS.row24 (hF.ev rfl) (hS.get 2 rfl) rfl) hK
  ·
   refine .inr (.inr ⟨rfl, ?_, trivial⟩)
   ·
    intro fa w' hΦ hF hB
    obtain ⟨Ao4_2_4, co4_2_5, Ao4_5_4, co4_5_5, Ao4_10_4, co4_10_5, hA, hS, E_w', huo4_2_6, huo4_5_6, huo4_10_6⟩ := hΦ
    replace hF := hF.cons (hB.val 11 _ 32 _ rfl rfl rfl rfl)
    replace hF := hF.cons (hB.val 12 _ 33 _ rfl rfl rfl rfl)
    replace hF := hF.cons (hB.val 7 _ 28 _ rfl rfl rfl rfl)
    refine wopg hF rfl rfl rfl ?_
    have hC := ref01_Sub_ok (w := w') (X := (go3_5_1 :: (go3_4_1 :: (g5 :: (g1 :: X))))) (a := a) (b := b) (hS.bnd hX) (IntV.of_ (n := (lim a.natAbs).length) (b := decide (a < 0)) (x := a) ((hu_a.ext ((((((E3.trans E7).trans E11).trans E14).trans E19).trans E_w23).trans E_w'))) (rfl) (rfl) (rfl)) (IntV.of_ (n := (lim b.natAbs).length) (b := decide (b < 0)) (x := b) ((hu_b.ext ((((((E3.trans E7).trans E11).trans E14).trans E19).trans E_w23).trans E_w'))) (rfl) (rfl) (rfl)) (by omega) (by omega)
    refine op_call hF rfl TfLS.body30 (args2 (hF.ev rfl) (hF.ev rfl)) hC ?_
    clear hC
    rintro _ wo4_13_1 ⟨⟨_, rfl, Ao4_13_4, co4_13_5, rfl, huo4_13_6⟩, hbo4_13_2⟩
    clear hF; intro hF
    replace hS := hS.call hbo4_13_2; have Eo4_13_3 := Ext.call (go3_5_1 :: (go3_4_1 :: (g5 :: (g1 :: X)))) hbo4_13_2
    have hA1 := ((hA.put_other _ rfl).cons (hF.get 34 _ rfl))
    exact ⟨6, rfl, ⟨Ao4_2_4, co4_2_5, Ao4_5_4, co4_5_5, Ao4_10_4, co4_10_5, Ao4_13_4, co4_13_5, (hA1.take (hA1.take (hA1.take (hA1.take (hA1.take (hA1.take hA1.nil rfl) rfl) rfl) rfl) rfl) rfl), hS, (E_w'.trans Eo4_13_3), (huo4_2_6.ext Eo4_13_3), (huo4_5_6.ext Eo4_13_3), (huo4_10_6.ext Eo4_13_3), huo4_13_6⟩, _, rfl, fun u hu => by cases hu <;> rfl⟩
  ·
   refine .inr (.inr ⟨rfl, ?_, trivial⟩)
   ·
    intro fa w' hΦ hF hB
    obtain ⟨Ao4_2_4, co4_2_5, Ao4_5_4, co4_5_5, Ao4_10_4, co4_10_5, Ao4_13_4, co4_13_5, hA, hS, E_w', huo4_2_6, huo4_5_6, huo4_10_6, huo4_13_6⟩ := hΦ
    replace hF := hF.cons (hA.get 31 _ rfl)
    replace hF := hF.cons (hA.get 34 _ rfl)
    replace hF := hF.cons (hB.val 7 _ 28 _ rfl rfl rfl rfl)
    refine wopg hF rfl rfl rfl ?_
    have hC := law01_same_ok (w := w') (X := (go3_5_1 :: (go3_4_1 :: (g5 :: (g1 :: X))))) (a := (a - b)) (b := (a - b)) (hS.bnd hX) (IntV.of_ (n := (lim (a - b).natAbs).length) (b := decide ((a - b) < 0)) (x := a - b) (huo4_10_6) (rfl) (rfl) (rfl)) (IntV.of_ (n := (lim (a - b).natAbs).length) (b := decide ((a - b) < 0)) (x := a - b) (huo4_13_6) (rfl) (rfl) (rfl))
    rw [show (decide ((a - b) = (a - b))) = true from by simp] at hC
    refine op_call hF rfl TfLS.body19 (args2 (hF.ev rfl) (hF.ev rfl)) hC ?_
    clear hC
    rintro _ wo4_14_1 ⟨rfl, hbo4_14_2⟩
    clear hF; intro hF
    replace hS := hS.call hbo4_14_2; have Eo4_14_3 := Ext.call (go3_5_1 :: (go3_4_1 :: (g5 :: (g1 :: X)))) hbo4_14_2
    have hA1 := ((hA.put_other _ rfl).cons (hF.get 35 _ rfl))
    exact ⟨7, rfl, ⟨Ao4_2_4, co4_2_5, Ao4_5_4, co4_5_5, Ao4_10_4, co4_10_5, Ao4_13_4, co4_13_5, (hA1.take (hA1.take (hA1.take (hA1.take (hA1.take (hA1.take (hA1.take hA1.nil rfl) rfl) rfl) rfl) rfl) rfl) rfl), hS, (E_w'.trans Eo4_14_3), (huo4_2_6.ext Eo4_14_3), (huo4_5_6.ext Eo4_14_3), (huo4_10_6.ext Eo4_14_3), (huo4_13_6.ext Eo4_14_3)⟩, _, rfl, fun u hu => by cases hu <;> rfl⟩
  ·
   refine .inl ⟨rfl, _, _, rfl, rfl, fun s fa w' hΦ hF hB K hK => ?_⟩
   replace hF := hF.cons (hB.val 7 _ 28 _ rfl rfl rfl rfl)
   replace hF := hF.cons (hB.val 14 _ 35 _ rfl rfl rfl rfl)
   exact fl_val rfl rfl rfl (ex_pick (hF.ev rfl) (fun _ => hF.ev rfl) (v := undef) (fun h => by cases h) rfl) hK
  ·
   refine .inr (.inr ⟨rfl, ?_, trivial⟩)
   ·
    intro fa w' hΦ hF hB
    obtain ⟨Ao4_2_4, co4_2_5, Ao4_5_4, co4_5_5, Ao4_10_4, co4_10_5, Ao4_13_4, co4_13_5, hA, hS, E_w', huo4_2_6, huo4_5_6, huo4_10_6, huo4_13_6⟩ := hΦ
    replace hF := hF.cons (hB.val 15 _ 36 _ rfl rfl rfl rfl)
    refine wop rfl rfl ?_
    refine op_val hF rfl rfl (ex_move (hF.ev rfl)) ?_; clear hF; intro hF
    have hA1 := ((hA.put_other _ rfl).cons (hF.get 37 _ rfl))
    exact ⟨8, rfl, ⟨Ao4_2_4, co4_2_5, Ao4_5_4, co4_5_5, Ao4_10_4, co4_10_5, Ao4_13_4, co4_13_5, (hA1.take (hA1.take (hA1.take (hA1.take (hA1.take (hA1.take (hA1.take (hA1.take hA1.nil rfl) rfl) rfl) rfl) rfl) rfl) rfl) rfl), hS, E_w', huo4_2_6, huo4_5_6, huo4_10_6, huo4_13_6⟩, _, rfl, fun u hu => by cases hu <;> rfl⟩
  ·
   refine .inr (.inl ⟨rfl, _, _, rfl, rfl, ?_, trivial⟩)
   ·
    intro fa w' hΦ hF hB K hK
    obtain ⟨Ao4_2_4, co4_2_5, Ao4_5_4, co4_5_5, Ao4_10_4, co4_10_5, Ao4_13_4, co4_13_5, hA, hS, E_w', huo4_2_6, huo4_5_6, huo4_10_6, huo4_13_6⟩ := hΦ
    replace hF := hF.cons (hB.val 16 _ 37 _ rfl rfl rfl rfl)
    exact fl_valg hF rfl rfl rfl rfl (ex_loadb TfLS.row24 (hF.ev rfl) (hS.get 1 rfl) rfl) hK
  ·
   refine .inr (.inr ⟨rfl, ?_, trivial⟩)
   ·
    intro fa w' hΦ hF hB
    obtain ⟨Ao4_2_4, co4_2_5, Ao4_5_4, co4_5_5, Ao4_10_4, co4_10_5, Ao4_13_4, co4_13_5, hA, hS, E_w', huo4_2_6, huo4_5_6, huo4_10_6, huo4_13_6⟩ := hΦ
    replace hF := hF.cons (hB.val 17 _ 38 _ rfl rfl rfl rfl)
    replace hF := hF.cons (hB.val 16 _ 37 _ rfl rfl rfl rfl)
    refine wopg hF rfl rfl rfl ?_
    have hC := integer_Neg_ok (w := w') (X := (go3_5_1 :: (go3_4_1 :: (g5 :: (g1 :: X))))) (a := a) (hS.bnd hX) (IntV.of_ (n := (((lim a.natAbs))).length) (b := (decide (a < 0))) (x := a) ((huo3_1_6.ext E_w')) (rfl) (rfl) (rfl)) (by omega)
    refine op_call hF rfl TfLS.body31 (args1 (hF.ev rfl)) hC ?_
    clear hC
    rintro _ wo4_18_1 ⟨⟨_, rfl, Ao4_18_4, co4_18_5, rfl, huo4_18_6⟩, hbo4_18_2⟩
    clear hF; intro hF
    replace hS := hS.call hbo4_18_2; have Eo4_18_3 := Ext.call (go3_5_1 :: (go3_4_1 :: (g5 :: (g1 :: X)))) hbo4_18_2
    have hA1 := ((hA.put_other _ rfl).cons (hF.get 39 _ rfl))
    exact ⟨9, rfl, ⟨Ao4_2_4, co4_2_5, Ao4_5_4, co4_5_5, Ao4_10_4, co4_10_5, Ao4_13_4, co4_13_5, Ao4_18_4, co4_18_5, (hA1.take (hA1.take (hA1.take (hA1.take (hA1.take (hA1.take (hA1.take (hA1.take (hA1.take hA1.nil rfl) rfl) rfl) rfl) rfl) rfl) rfl) rfl) rfl), hS, (E_w'.trans Eo4_18_3), (huo4_2_6.ext Eo4_18_3), (huo4_5_6.ext Eo4_18_3), (huo4_10_6.ext Eo4_18_3), (huo4_13_6.ext Eo4_18_3), huo4_18_6⟩, _, rfl, fun u hu => by cases hu <;> rfl⟩
  ·
   refine .inr (.inl ⟨rfl, _, _, rfl, rfl, ?_, ?_, trivial⟩)
   ·
    intro fa w' hΦ hF hB K hK
    obtain ⟨Ao4_2_4, co4_2_5, Ao4_5_4, co4_5_5, Ao4_10_4, co4_10_5, Ao4_13_4, co4_13_5, hA, hS, E_w', huo4_2_6, huo4_5_6, huo4_10_6, huo4_13_6⟩ := hΦ
    replace hF := hF.cons (hB.val 16 _ 37 _ rfl rfl rfl rfl)
    exact fl_valg hF rfl rfl rfl rfl (ex_loadb TfLS.row24 (hF.ev rfl) (hS.get 3 rfl) rfl) hK
   ·
    intro fa w' hΦ hF hB K hK
    obtain ⟨Ao4_2_4, co4_2_5, Ao4_5_4, co4_5_5, Ao4_10_4, co4_10_5, Ao4_13_4, co4_13_5, Ao4_18_4, co4_18_5, hA, hS, E_w', huo4_2_6, huo4_5_6, huo4_10_6, huo4_13_6, huo4_18_6⟩ := hΦ
    replace hF := hF.cons (hB.val 16 _ 37 _ rfl rfl rfl rfl)
    exact fl_valg hF rfl rfl rfl rfl (ex_loadb TfLS.row24 (hF.ev rfl) (hS.get 3 rfl) rfl) hK
  ·
   refine .inr (.inr ⟨rfl, ?_, trivial⟩)
   ·
    intro fa w' hΦ hF hB
    obtain ⟨Ao4_2_4, co4_2_5, Ao4_5_4, co4_5_5, Ao4_10_4, co4_10_5, Ao4_13_4, co4_13_5, Ao4_18_4, co4_18_5, hA, hS, E_w', huo4_2_6, huo4_5_6, huo4_10_6, huo4_13_6, huo4_18_6⟩ := hΦ
    replace hF := hF.cons (hB.val 19 _ 40 _ rfl rfl rfl rfl)
    replace hF := hF.cons (hB.val 16 _ 37 _ rfl rfl rfl rfl)
    refine wopg hF rfl rfl rfl ?_
    have hC := ref01_Neg_ok (w := w') (X := (go3_5_1 :: (go3_4_1 :: (g5 :: (g1 :: X))))) (a := a) (hS.bnd hX) (IntV.of_ (n := (lim a.natAbs).length) (b := decide (a < 0)) (x := a) ((hu_a.ext ((((((E3.trans E7).trans E11).trans E14).trans E19).trans E_w23).trans E_w'))) (rfl) (rfl) (rfl)) (by omega)
    refine op_call hF rfl TfLS.body32 (args1 (hF.ev rfl)) hC ?_
    clear hC
    rintro _ wo4_20_1 ⟨⟨_, rfl, Ao4_20_4, co4_20_5, rfl, huo4_20_6⟩, hbo4_20_2⟩
    clear hF; intro hF
    replace hS := hS.call hbo4_20_2; have Eo4_20_3 := Ext.call (go3_5_1 :: (go3_4_1 :: (g5 :: (g1 :: X)))) hbo4_20_2
    have hA1 := ((hA.put_other _ rfl).cons (hF.get 41 _ rfl))
    exact ⟨10, rfl, ⟨Ao4_2_4, co4_2_5, Ao4_5_4, co4_5_5, Ao4_10_4, co4_10_5, Ao4_13_4, co4_13_5, Ao4_18_4, co4_18_5, Ao4_20_4, co4_20_5, (hA1.take (hA1.take (hA1.take (hA1.take (hA1.take (hA1.take (hA1.take (hA1.take (hA1.take (hA1.take hA1.nil rfl) rfl) rfl) rfl) rfl) rfl) rfl) rfl) rfl) rfl), hS, (E_w'.trans Eo4_20_3), (huo4_2_6.ext Eo4_20_3), (huo4_5_6.ext Eo4_20_3), (huo4_10_6.ext Eo4_20_3), (huo4_13_6.ext Eo4_20_3), (huo4_18_6.ext Eo4_20_3), huo4_20_6⟩, _, rfl, fun u hu => by cases hu <;> rfl⟩
  ·
   refine .inr (.inr ⟨rfl, ?_, trivial⟩)
   ·
    intro fa w' hΦ hF hB
    obtain ⟨Ao4_2_4, co4_2_5, Ao4_5_4, co4_5_5, Ao4_10_4, co4_10_5, Ao4_13_4, co4_13_5, Ao4_18_4, co4_18_5, Ao4_20_4, co4_20_5, hA, hS, E_w', huo4_2_6, huo4_5_6, huo4_10_6, huo4_13_6, huo4_18_6, huo4_20_6⟩ := hΦ
    replace hF := hF.cons (hA.get 39 _ rfl)
    replace hF := hF.cons (hA.get 41 _ rfl)
    replace hF := hF.cons (hB.val 16 _ 37 _ rfl rfl rfl rfl)
    refine wopg hF rfl rfl rfl ?_
    have hC := law01_same_ok (w := w') (X := (go3_5_1 :: (go3_4_1 :: (g5 :: (g1 :: X))))) (a := (-a)) (b := (-a)) (hS.bnd hX) (IntV.of_ (n := (lim (-a).natAbs).length) (b := decide ((-a) < 0)) (x := -a) (huo4_18_6) (rfl) (rfl) (rfl)) (IntV.of_ (n := (lim (-a).natAbs).length) (b := decide ((-a) < 0)) (x := -a) (huo4_20_6) (rfl) (rfl) (rfl))
    rw [show (decide ((-a) = (-a))) = true from by simp] at hC
    refine op_call hF rfl TfLS.body19 (args2 (hF.ev rfl) (hF.ev rfl)) hC ?_
    clear hC
    rintro _ wo4_21_1 ⟨rfl, hbo4_21_2⟩
    clear hF; intro hF
    replace hS := hS.call hbo4_21_2; have Eo4_21_3 := Ext.call (go3_5_1 :: (go3_4_1 :: (g5 :: (g1 :: X)))) hbo4_21_2
    have hA1 := ((hA.put_other _ rfl).cons (hF.get 42 _ rfl))
    exact ⟨11, rfl, ⟨Ao4_2_4, co4_2_5, Ao4_5_4, co4_5_5, Ao4_10_4, co4_10_5, Ao4_13_4, co4_13_5, Ao4_18_4, co4_18_5, Ao4_20_4, co4_20_5, (hA1.take (hA1.take (hA1.take (hA1.take (hA1.take (hA1.take (hA1.take (hA1.take (hA1.take (hA1.take (hA1.take hA1.nil rfl) rfl) rfl) rfl) rfl) rfl) rfl) rfl) rfl) rfl) rfl), hS, (E_w'.trans Eo4_21_3), (huo4_2_6.ext Eo4_21_3), (huo4_5_6.ext Eo4_21_3), (huo4_10_6.ext Eo4_21_3), (huo4_13_6.ext Eo4_21_3), (huo4_18_6.ext Eo4_21_3), (huo4_20_6.ext Eo4_21_3)⟩, _, rfl, fun u hu => by cases hu <;> rfl⟩
  ·
   refine .inl ⟨rfl, _, _, rfl, rfl, fun s fa w' hΦ hF hB K hK => ?_⟩
   replace hF := hF.cons (hB.val 16 _ 37 _ rfl rfl rfl rfl)
   replace hF := hF.cons (hB.val 21 _ 42 _ rfl rfl rfl rfl)
   exact fl_val rfl rfl rfl (ex_pick (hF.ev rfl) (fun _ => hF.ev rfl) (v := undef) (fun h => by cases h) rfl) hK
  ·
   refine .inr (.inr ⟨rfl, ?_, trivial⟩)
   ·
    intro fa w' hΦ hF hB
    obtain ⟨Ao4_2_4, co4_2_5, Ao4_5_4, co4_5_5, Ao4_10_4, co4_10_5, Ao4_13_4, co4_13_5, Ao4_18_4, co4_18_5, Ao4_20_4, co4_20_5, hA, hS, E_w', huo4_2_6, huo4_5_6, huo4_10_6, huo4_13_6, huo4_18_6, huo4_20_6⟩ := hΦ
    replace hF := hF.cons (hB.val 22 _ 43 _ rfl rfl rfl rfl)
    refine wop rfl rfl ?_
    refine op_val hF rfl rfl (ex_move (hF.ev rfl)) ?_; clear hF; intro hF
    have hA1 := ((hA.put_other _ rfl).cons (hF.get 44 _ rfl))
    exact ⟨12, rfl, ⟨Ao4_2_4, co4_2_5, Ao4_5_4, co4_5_5, Ao4_10_4, co4_10_5, Ao4_13_4, co4_13_5, Ao4_18_4, co4_18_5, Ao4_20_4, co4_20_5, (hA1.take (hA1.take (hA1.take (hA1.take (hA1.take (hA1.take (hA1.take (hA1.take (hA1.take (hA1.take (hA1.take (hA1.take hA1.nil rfl) rfl) rfl) rfl) rfl) rfl) rfl) rfl) rfl) rfl) rfl) rfl), hS, E_w', huo4_2_6, huo4_5_6, huo4_10_6, huo4_13_6, huo4_18_6, huo4_20_6⟩, _, rfl, fun u hu => by cases hu <;> rfl⟩
  ·
   refine .inr (.inl ⟨rfl, _, _, rfl, rfl, ?_, trivial⟩)
   ·
    intro fa w' hΦ hF hB K hK
    obtain ⟨Ao4_2_4, co4_2_5, Ao4_5_4, co4_5_5, Ao4_10_4, co4_10_5, Ao4_13_4, co4_13_5, Ao4_18_4, co4_18_5, Ao4_20_4, co4_20_5, hA, hS, E_w', huo4_2_6, huo4_5_6, huo4_10_6, huo4_13_6, huo4_18_6, huo4_20_6⟩ := hΦ
    replace hF := hF.cons (hB.val 23 _ 44 _ rfl rfl rfl rfl)
    exact fl_valg hF rfl rfl rfl rfl (ex_loadb TfLS.row24 (hF.ev rfl) (hS.get 1 rfl) rfl) hK
  ·
   refine .inr (.inr ⟨rfl, ?_, trivial⟩)
   ·
    intro fa w' hΦ hF hB
    obtain ⟨Ao4_2_4, co4_2_5, Ao4_5_4, co4_5_5, Ao4_10_4, co4_10_5, Ao4_13_4, co4_13_5, Ao4_18_4, co4_18_5, Ao4_20_4, co4_20_5, hA, hS, E_w', huo4_2_6, huo4_5_6, huo4_10_6, huo4_13_6, huo4_18_6, huo4_20_6⟩ := hΦ
    replace hF := hF.cons (hB.val 24 _ 45 _ rfl rfl rfl rfl)
    replace hF := hF.cons (hB.val 23 _ 44 _ rfl rfl rfl rfl)
    refine wopg hF rfl rfl rfl ?_
    have hC := integer_Sign_ok (w := w') (X := (go3_5_1 :: (go3_4_1 :: (g5 :: (g1 :: X))))) (a := a) (hS.bnd hX) (IntV.of_ (n := (((lim a.natAbs))).length) (b := (decide (a < 0))) (x := a) ((huo3_1_6.ext E_w')) (rfl) (rfl) (rfl))
    refine op_call hF rfl TfLS.body33 (args1 (hF.ev rfl)) hC ?_
    clear hC
    rintro _ wo4_25_1 ⟨rfl, hbo4_25_2⟩
    clear hF; intro hF
    replace hS := hS.call hbo4_25_2; have Eo4_25_3 := Ext.call (go3_5_1 :: (go3_4_1 :: (g5 :: (g1 :: X)))) hbo4_25_2
    have hA1 := ((hA.put_other _ rfl).cons (hF.get 46 _ rfl))
    exact ⟨13, rfl, ⟨Ao4_2_4, co4_2_5, Ao4_5_4, co4_5_5, Ao4_10_4, co4_10_5, Ao4_13_4, co4_13_5, Ao4_18_4, co4_18_5, Ao4_20_4, co4_20_5, (hA1.take (hA1.take (hA1.take (hA1.take (hA1.take (hA1.take (hA1.take (hA1.take (hA1.take (hA1.take (hA1.take (hA1.take (hA1.take hA1.nil rfl) rfl) rfl) rfl) rfl) rfl) rfl) rfl) rfl) rfl) rfl) rfl) rfl), hS, (E_w'.trans Eo4_25_3), (huo4_2_6.ext Eo4_25_3), (huo4_5_6.ext Eo4_25_3), (huo4_10_6.ext Eo4_25_3), (huo4_13_6.ext Eo4_25_3), (huo4_18_6.ext Eo4_25_3), (huo4_20_6.ext Eo4_25_3)⟩, _, rfl, fun u hu => by cases hu <;> rfl⟩
  ·
   refine .inr (.inl ⟨rfl, _, _, rfl, rfl, ?_, ?_, trivial⟩)
   ·
    intro fa w' hΦ hF hB K hK
    obtain ⟨Ao4_2_4, co4_2_5, Ao4_5_4, co4_5_5, Ao4_10_4, co4_10_5, Ao4_13_4, co4_13_5, Ao4_18_4, co4_18_5, Ao4_20_4, co4_20_5, hA, hS, E_w', huo4_2_6, huo4_5_6, huo4_10_6, huo4_13_6, huo4_18_6, huo4_20_6⟩ := hΦ
    replace hF := hF.cons (hB.val 23 _ 44 _ rfl rfl rfl rfl)
    exact fl_valg hF rfl rfl rfl rfl (ex_loadb TfLS.row24 (hF.ev rfl) (hS.get 3 rfl) rfl) hK
   ·
    intro fa w' hΦ hF hB K hK
    obtain ⟨Ao4_2_4, co4_2_5, Ao4_5_4, co4_5_5, Ao4_10_4, co4_10_5, Ao4_13_4, co4_13_5, Ao4_18_4, co4_18_5, Ao4_20_4, co4_20_5, hA, hS, E_w', huo4_2_6, huo4_5_6, huo4_10_6, huo4_13_6, huo4_18_6, huo4_20_6⟩ := hΦ
    replace hF := hF.cons (hB.val 23 _ 44 _ rfl rfl rfl rfl)
    exact fl_valg hF rfl rfl rfl rfl (ex_loadb TfLS.row24 (hF.ev rfl) (hS.get 3 rfl) rfl) hK
  ·
   refine .inr (.inr ⟨rfl, ?_, trivial⟩)
   ·
    intro fa w' hΦ hF hB
    obtain ⟨Ao4_2_4, co4_2_5, Ao4_5_4, co4_5_5, Ao4_10_4, co4_10_5, Ao4_13_4, co4_13_5, Ao4_18_4, co4_18_5, Ao4_20_4, co4_20_5, hA, hS, E_w', huo4_2_6, huo4_5_6, huo4_10_6, huo4_13_6, huo4_18_6, huo4_20_6⟩ := hΦ
    replace hF := hF.cons (hB.val 26 _ 47 _ rfl rfl rfl rfl)
    replace hF := hF.cons (hB.val 23 _ 44 _ rfl rfl rfl rfl)
    refine wopg hF rfl rfl rfl ?_
    have hC := ref01_Sign_ok (w := w') (X := (go3_5_1 :: (go3_4_1 :: (g5 :: (g1 :: X))))) (a := a) (hS.bnd hX) (IntV.of_ (n := (lim a.natAbs).length) (b := decide (a < 0)) (x := a) ((hu_a.ext ((((((E3.trans E7).trans E11).trans E14).trans E19).trans E_w23).trans E_w'))) (rfl) (rfl) (rfl))
    refine op_call hF rfl TfLS.body15 (args1 (hF.ev rfl)) hC ?_
    clear hC
    rintro _ wo4_27_1 ⟨rfl, hbo4_27_2⟩
    clear hF; intro hF
    replace hS := hS.call hbo4_27_2; have Eo4_27_3 := Ext.call (go3_5_1 :: (go3_4_1 :: (g5 :: (g1 :: X)))) hbo4_27_2
    have hA1 := ((hA.put_other _ rfl).cons (hF.get 48 _ rfl))
    exact ⟨14, rfl, ⟨Ao4_2_4, co4_2_5, Ao4_5_4, co4_5_5, Ao4_10_4, co4_10_5, Ao4_13_4, co4_13_5, Ao4_18_4, co4_18_5, Ao4_20_4, co4_20_5, (hA1.take (hA1.take (hA1.take (hA1.take (hA1.take (hA1.take (hA1.take (hA1.take (hA1.take (hA1.take (hA1.take (hA1.take (hA1.take (hA1.take hA1.nil rfl) rfl) rfl) rfl) rfl) rfl) rfl) rfl) rfl) rfl) rfl) rfl) rfl) rfl), hS, (E_w'.trans Eo4_27_3), (huo4_2_6.ext Eo4_27_3), (huo4_5_6.ext Eo4_27_3), (huo4_10_6.ext Eo4_27_3), (huo4_13_6.ext Eo4_27_3), (huo4_18_6.ext Eo4_27_3), (huo4_20_6.ext Eo4_27_3)⟩, _, rfl, fun u hu => by cases hu <;> rfl⟩
  ·
   refine .inl ⟨rfl, _, _, rfl, rfl, fun s fa w' hΦ hF hB K hK => ?_⟩
   replace hF := hF.cons (hB.val 25 _ 46 _ rfl rfl rfl rfl)
   replace hF := hF.cons (hB.val 27 _ 48 _ rfl rfl rfl rfl)
   replace hF := hF.cons (hB.val 23 _ 44 _ rfl rfl rfl rfl)
   exact fl_valg hF rfl rfl rfl rfl (ex_b (t := decide ((sgnI a) = (sgnI a))) (b := true) (by simp) (ex_eql (hF.ev rfl) (hF.ev rfl))) hK
  ·
   refine .inl ⟨rfl, _, _, rfl, rfl, fun s fa w' hΦ hF hB K hK => ?_⟩
   replace hF := hF.cons (hB.val 23 _ 44 _ rfl rfl rfl rfl)
   replace hF := hF.cons (hB.val 28 _ 49 _ rfl rfl rfl rfl)
   exact fl_val rfl rfl rfl (ex_pick (hF.ev rfl) (fun _ => hF.ev rfl) (v := undef) (fun h => by cases h) rfl) hK
  ·
   refine .inr (.inr ⟨rfl, ?_, trivial⟩)
   ·
    intro fa w' hΦ hF hB
    obtain ⟨Ao4_2_4, co4_2_5, Ao4_5_4, co4_5_5, Ao4_10_4, co4_10_5, Ao4_13_4, co4_13_5, Ao4_18_4, co4_18_5, Ao4_20_4, co4_20_5, hA, hS, E_w', huo4_2_6, huo4_5_6, huo4_10_6, huo4_13_6, huo4_18_6, huo4_20_6⟩ := hΦ
    replace hF := hF.cons (hB.val 29 _ 50 _ rfl rfl rfl rfl)
    refine wop rfl rfl ?_
    refine op_val hF rfl rfl (ex_move (hF.ev rfl)) ?_; clear hF; intro hF
    have hA1 := ((hA.put_other _ rfl).cons (hF.get 51 _ rfl))
    exact ⟨15, rfl, ⟨Ao4_2_4, co4_2_5, Ao4_5_4, co4_5_5, Ao4_10_4, co4_10_5, Ao4_13_4, co4_13_5, Ao4_18_4, co4_18_5, Ao4_20_4, co4_20_5, (hA1.take (hA1.take (hA1.take (hA1.take (hA1.take (hA1.take (hA1.take (hA1.take (hA1.take (hA1.take (hA1.take (hA1.take (hA1.take (hA1.take (hA1.take hA1.nil rfl) rfl) rfl) rfl) rfl) rfl) rfl) rfl) rfl) rfl) rfl) rfl) rfl) rfl) rfl), hS, E_w', huo4_2_6, huo4_5_6, huo4_10_6, huo4_13_6, huo4_18_6, huo4_20_6⟩, _, rfl, fun u hu => by cases hu <;> rfl⟩
  ·
   refine .inr (.inl ⟨rfl, _, _, rfl, rfl, ?_, trivial⟩)
   ·
    intro fa w' hΦ hF hB K hK
    obtain ⟨Ao4_2_4, co4_2_5, Ao4_5_4, co4_5_5, Ao4_10_4, co4_10_5, Ao4_13_4, co4_13_5, Ao4_18_4, co4_18_5, Ao4_20_4, co4_20_5, hA, hS, E_w', huo4_2_6, huo4_5_6, huo4_10_6, huo4_13_6, huo4_18_6, huo4_20_6⟩ := hΦ
    replace hF := hF.cons (hB.val 30 _ 51 _ rfl rfl rfl rfl)
    exact fl_valg hF rfl rfl rfl rfl (ex_loadb TfLS.row24 (hF.ev rfl) (hS.get 1 rfl) rfl) hK
  ·
   refine .inr (.inl ⟨rfl, _, _, rfl, rfl, ?_, trivial⟩)
   ·
    intro fa w' hΦ hF hB K hK
    obtain ⟨Ao4_2_4, co4_2_5, Ao4_5_4, co4_5_5, Ao4_10_4, co4_10_5, Ao4_13_4, co4_13_5, Ao4_18_4, co4_18_5, Ao4_20_4, co4_20_5, hA, hS, E_w', huo4_2_6, huo4_5_6, huo4_10_6, huo4_13_6, huo4_18_6, huo4_20_6⟩ := hΦ
    replace hF := hF.cons (hB.val 30 _ 51 _ rfl rfl rfl rfl)
    exact fl_valg hF rfl rfl rfl rfl (ex_loadb TfLS.row24 (hF.ev rfl) (hS.get 0 rfl) rfl) hK
  ·
   refine .inr (.inr ⟨rfl, ?_, trivial⟩)
   ·
    intro fa w' hΦ hF hB
    obtain ⟨Ao4_2_4, co4_2_5, Ao4_5_4, co4_5_5, Ao4_10_4, co4_10_5, Ao4_13_4, co4_13_5, Ao4_18_4, co4_18_5, Ao4_20_4, co4_20_5, hA, hS, E_w', huo4_2_6, huo4_5_6, huo4_10_6, huo4_13_6, huo4_18_6, huo4_20_6⟩ := hΦ
    replace hF := hF.cons (hB.val 31 _ 52 _ rfl rfl rfl rfl)
    replace hF := hF.cons (hB.val 32 _ 53 _ rfl rfl rfl rfl)
    replace hF := hF.cons (hB.val 30 _ 51 _ rfl rfl rfl rfl)
    refine wopg hF rfl rfl rfl ?_
    have hC := integer_Cmp_ok (w := w') (X := (go3_5_1 :: (go3_4_1 :: (g5 :: (g1 :: X))))) (a := a) (b := b) (hS.bnd hX) (IntV.of_ (n := (((lim a.natAbs))).length) (b := (decide (a < 0))) (x := a) ((huo3_1_6.ext E_w')) (rfl) (rfl) (rfl)) (IntV.of_ (n := (((lim b.natAbs))).length) (b := (decide (b < 0))) (x := b) ((huo3_3_6.ext E_w')) (rfl) (rfl) (rfl))
    refine op_call hF rfl TfLS.body34 (args2 (hF.ev rfl) (hF.ev rfl)) hC ?_
    clear hC
    rintro _ wo4_33_1 ⟨rfl, hbo4_33_2⟩
    clear hF; intro hF
    replace hS := hS.call hbo4_33_2; have Eo4_33_3 := Ext.call (go3_5_1 :: (go3_4_1 :: (g5 :: (g1 :: X)))) hbo4_33_2
    have hA1 := ((hA.put_other _ rfl).cons (hF.get 54 _ rfl))
    exact ⟨16, rfl, ⟨Ao4_2_4, co4_2_5, Ao4_5_4, co4_5_5, Ao4_10_4, co4_10_5, Ao4_13_4, co4_13_5, Ao4_18_4, co4_18_5, Ao4_20_4, co4_20_5, (hA1.take (hA1.take (hA1.take (hA1.take (hA1.take (hA1.take (hA1.take (hA1.take (hA1.take (hA1.take (hA1.take (hA1.take (hA1.take (hA1.take (hA1.take (hA1.take hA1.nil rfl) rfl) rfl) rfl) rfl) rfl) rfl) rfl) rfl) rfl) rfl) rfl) rfl) rfl) rfl) rfl), hS, (E_w'.trans Eo4_33_3), (huo4_2_6.ext Eo4_33_3), (huo4_5_6.ext Eo4_33_3), (huo4_10_6.ext Eo4_33_3), (huo4_13_6.ext Eo4_33_3), (huo4_18_6.ext Eo4_33_3), (huo4_20_6.ext Eo4_33_3)⟩, _, rfl, fun u hu => by cases hu <;> rfl⟩
  ·
   refine .inr (.inl ⟨rfl, _, _, rfl, rfl, ?_, ?_, trivial⟩)
   ·
    intro fa w' hΦ hF hB K hK
    obtain ⟨Ao4_2_4, co4_2_5, Ao4_5_4, co4_5_5, Ao4_10_4, co4_10_5, Ao4_13_4, co4_13_5, Ao4_18_4, co4_18_5, Ao4_20_4, co4_20_5, hA, hS, E_w', huo4_2_6, huo4_5_6, huo4_10_6, huo4_13_6, huo4_18_6, huo4_20_6⟩ := hΦ
    replace hF := hF.cons (hB.val 30 _ 51 _ rfl rfl rfl rfl)
    exact fl_valg hF rfl rfl rfl rfl (ex_loadb TfLS.row24 (hF.ev rfl) (hS.get 3 rfl) rfl) hK
   ·
    intro fa w' hΦ hF hB K hK
    obtain ⟨Ao4_2_4, co4_2_5, Ao4_5_4, co4_5_5, Ao4_10_4, co4_10_5, Ao4_13_4, co4_13_5, Ao4_18_4, co4_18_5, Ao4_20_4, co4_20_5, hA, hS, E_w', huo4_2_6, huo4_5_6, huo4_10_6, huo4_13_6, huo4_18_6, huo4_20_6⟩ := hΦ
    replace hF := hF.cons (hB.val 30 _ 51 _ rfl rfl rfl rfl)
    exact fl_valg hF rfl rfl rfl rfl (ex_loadb TfLS.row24 (hF.ev rfl) (hS.get 3 rfl) rfl) hK
  ·
   refine .inr (.inl ⟨rfl, _, _, rfl, rfl, ?_, ?_, trivial⟩)
   ·
    intro fa w' hΦ hF hB K hK
    obtain ⟨Ao4_2_4, co4_2_5, Ao4_5_4, co4_5_5, Ao4_10_4, co4_10_5, Ao4_13_4, co4_13_5, Ao4_18_4, co4_18_5, Ao4_20_4, co4_20_5, hA, hS, E_w', huo4_2_6, huo4_5_6, huo4_10_6, huo4_13_6, huo4_18_6, huo4_20_6⟩ := hΦ
    replace hF := hF.cons (hB.val 30 _ 51 _ rfl rfl rfl rfl)
    exact fl_valg hF rfl rfl rfl rfl (ex_loadb TfLS.row24 (hF.ev rfl) (hS.get 2 rfl) rfl) hK
   ·
    intro fa w' hΦ hF hB K hK
    obtain ⟨Ao4_2_4, co4_2_5, Ao4_5_4, co4_5_5, Ao4_10_4, co4_10_5, Ao4_13_4, co4_13_5, Ao4_18_4, co4_18_5, Ao4_20_4, co4_20_5, hA, hS, E_w', huo4_2_6, huo4_5_6, huo4_10_6, huo4_13_6, huo4_18_6, huo4_20_6⟩ := hΦ
    replace hF := hF.cons (hB.val 30 _ 51 _ rfl rfl rfl rfl)
    exact fl_valg hF rfl rfl rfl rfl (ex_loadb TfLS.row24 (hF.ev rfl) (hS.get 2 rfl) rfl) hK
  ·
   refine .inr (.inr ⟨rfl, ?_, trivial⟩)
   ·
    intro fa w' hΦ hF hB
    obtain ⟨Ao4_2_4, co4_2_5, Ao4_5_4, co4_5_5, Ao4_10_4, co4_10_5, Ao4_13_4, co4_13_5, Ao4_18_4, co4_18_5, Ao4_20_4, co4_20_5, hA, hS, E_w', huo4_2_6, huo4_5_6, huo4_10_6, huo4_13_6, huo4_18_6, huo4_20_6⟩ := hΦ
    replace hF := hF.cons (hB.val 34 _ 55 _ rfl rfl rfl rfl)
    replace hF := hF.cons (hB.val 35 _ 56 _ rfl rfl rfl rfl)
    replace hF := hF.cons (hB.val 30 _ 51 _ rfl rfl rfl rfl)
    refine wopg hF rfl rfl rfl ?_
    have hC := ref01_Cmp_ok (w := w') (X := (go3_5_1 :: (go3_4_1 :: (g5 :: (g1 :: X))))) (a := a) (b := b) (hS.bnd hX) (IntV.of_ (n := (lim a.natAbs).length) (b := decide (a < 0)) (x := a) ((hu_a.ext ((((((E3.trans E7).trans E11).trans E14).trans E19).trans E_w23).trans E_w'))) (rfl) (rfl) (rfl)) (IntV.of_ (n := (lim b.natAbs).length) (b := decide (b < 0)) (x := b) ((hu_b.ext ((((((E3.trans E7).trans E11).trans E14).trans E19).trans E_w23).trans E_w'))) (rfl) (rfl) (rfl))
    refine op_call hF rfl TfLS.body17 (args2 (hF.ev rfl) (hF.ev rfl)) hC ?_
    clear hC
    rintro _ wo4_36_1 ⟨rfl, hbo4_36_2⟩
    clear hF; intro hF
    replace hS := hS.call hbo4_36_2; have Eo4_36_3 := Ext.call (go3_5_1 :: (go3_4_1 :: (g5 :: (g1 :: X)))) hbo4_36_2
    have hA1 := ((hA.put_other _ rfl).cons (hF.get 57 _ rfl))
    exact ⟨17, rfl, ⟨Ao4_2_4, co4_2_5, Ao4_5_4, co4_5_5, Ao4_10_4, co4_10_5, Ao4_13_4, co4_13_5, Ao4_18_4, co4_18_5, Ao4_20_4, co4_20_5, (hA1.take (hA1.take (hA1.take (hA1.take (hA1.take (hA1.take (hA1.take (hA1.take (hA1.take (hA1.take (hA1.take (hA1.take (hA1.take (hA1.take (hA1.take (hA1.take (hA1.take hA1.nil rfl) rfl) rfl) rfl) rfl) rfl) rfl) rfl) rfl) rfl) rfl) rfl) rfl) rfl) rfl) rfl) rfl), hS, (E_w'.trans Eo4_36_3), (huo4_2_6.ext Eo4_36_3), (huo4_5_6.ext Eo4_36_3), (huo4_10_6.ext Eo4_36_3), (huo4_13_6.ext Eo4_36_3), (huo4_18_6.ext Eo4_36_3), (huo4_20_6.ext Eo4_36_3)⟩, _, rfl, fun u hu => by cases hu <;> rfl⟩
  ·
   refine .inl ⟨rfl, _, _, rfl, rfl, fun s fa w' hΦ hF hB K hK => ?_⟩
   replace hF := hF.cons (hB.val 33 _ 54 _ rfl rfl rfl rfl)
   replace hF := hF.cons (hB.val 36 _ 57 _ rfl rfl rfl rfl)
   replace hF := hF.cons (hB.val 30 _ 51 _ rfl rfl rfl rfl)
   exact fl_valg hF rfl rfl rfl rfl (ex_b (t := decide ((cmpI a b) = (cmpI a b))) (b := true) (by simp) (ex_eql (hF.ev rfl) (hF.ev rfl))) hK
  ·
   refine .inl ⟨rfl, _, _, rfl, rfl, fun s fa w' hΦ hF hB K hK => ?_⟩
   replace hF := hF.cons (hB.val 30 _ 51 _ rfl rfl rfl rfl)
   replace hF := hF.cons (hB.val 37 _ 58 _ rfl rfl rfl rfl)
   exact fl_val rfl rfl rfl (ex_pick (hF.ev rfl) (fun _ => hF.ev rfl) (v := undef) (fun h => by cases h) rfl) hK
  ·
   refine .inr (.inr ⟨rfl, ?_, trivial⟩)
   ·
    intro fa w' hΦ hF hB
    obtain ⟨Ao4_2_4, co4_2_5, Ao4_5_4, co4_5_5, Ao4_10_4, co4_10_5, Ao4_13_4, co4_13_5, Ao4_18_4, co4_18_5, Ao4_20_4, co4_20_5, hA, hS, E_w', huo4_2_6, huo4_5_6, huo4_10_6, huo4_13_6, huo4_18_6, huo4_20_6⟩ := hΦ
    replace hF := hF.cons (hB.val 38 _ 59 _ rfl rfl rfl rfl)
    refine wop rfl rfl ?_
    refine op_val hF rfl rfl (ex_move (hF.ev rfl)) ?_; clear hF; intro hF
    have hA1 := ((hA.put_other _ rfl).cons (hF.get 60 _ rfl))
    exact ⟨18, rfl, ⟨Ao4_2_4, co4_2_5, Ao4_5_4, co4_5_5, Ao4_10_4, co4_10_5, Ao4_13_4, co4_13_5, Ao4_18_4, co4_18_5, Ao4_20_4, co4_20_5, (hA1.take (hA1.take (hA1.take (hA1.take (hA1.take (hA1.take (hA1.take (hA1.take (hA1.take (hA1.take (hA1.take (hA1.take (hA1.take (hA1.take (hA1.take (hA1.take (hA1.take (hA1.take hA1.nil rfl) rfl) rfl) rfl) rfl) rfl) rfl) rfl) rfl) rfl) rfl) rfl) rfl) rfl) rfl) rfl) rfl) rfl), hS, E_w', huo4_2_6, huo4_5_6, huo4_10_6, huo4_13_6, huo4_18_6, huo4_20_6⟩, _, rfl, fun u hu => by cases hu <;> rfl⟩
  ·
   refine .inr (.inl ⟨rfl, _, _, rfl, rfl, ?_, trivial⟩)
   ·
    intro fa w' hΦ hF hB K hK
    obtain ⟨Ao4_2_4, co4_2_5, Ao4_5_4, co4_5_5, Ao4_10_4, co4_10_5, Ao4_13_4, co4_13_5, Ao4_18_4, co4_18_5, Ao4_20_4, co4_20_5, hA, hS, E_w', huo4_2_6, huo4_5_6, huo4_10_6, huo4_13_6, huo4_18_6, huo4_20_6⟩ := hΦ
    replace hF := hF.cons (hB.val 39 _ 60 _ rfl rfl rfl rfl)
    exact fl_valg hF rfl rfl rfl rfl (ex_loadb TfLS.row24 (hF.ev rfl) (hS.get 1 rfl) rfl) hK
  ·
   refine .inr (.inl ⟨rfl, _, _, rfl, rfl, ?_, trivial⟩)
   ·
    intro fa w' hΦ hF hB K hK
    obtain ⟨Ao4_2_4, co4_2_5, Ao4_5_4, co4_5_5, Ao4_10_4, co4_10_5, Ao4_13_4, co4_13_5, Ao4_18_4, co4_18_5, Ao4_20_4, co4_20_5, hA, hS, E_w', huo4_2_6, huo4_5_6, huo4_10_6, huo4_13_6, huo4_18_6, huo4_20_6⟩ := hΦ
    replace hF := hF.cons (hB.val 39 _ 60 _ rfl rfl rfl rfl)
    exact fl_valg hF rfl rfl rfl rfl (ex_loadb TfLS.row24 (hF.ev rfl) (hS.get 3 rfl) rfl) hK
  ·
   refine .inr (.inr ⟨rfl, ?_, trivial⟩)
   ·
    intro fa w' hΦ hF hB
    obtain ⟨Ao4_2_4, co4_2_5, Ao4_5_4, co4_5_5, Ao4_10_4, co4_10_5, Ao4_13_4, co4_13_5, Ao4_18_4, co4_18_5, Ao4_20_4, co4_20_5, hA, hS, E_w', huo4_2_6, huo4_5_6, huo4_10_6, huo4_13_6, huo4_18_6, huo4_20_6⟩ := hΦ
    replace hF := hF.cons (hB.val 40 _ 61 _ rfl rfl rfl rfl)
    replace hF := hF.cons (hB.val 41 _ 62 _ rfl rfl rfl rfl)
    replace hF := hF.cons (hB.val 39 _ 60 _ rfl rfl rfl rfl)
    refine wopg hF rfl rfl rfl ?_
    have hC := law01_same_ok (w := w') (X := (go3_5_1 :: (go3_4_1 :: (g5 :: (g1 :: X))))) (a := a) (b := a) (hS.bnd hX) (IntV.of_ (n := (((lim a.natAbs))).length) (b := (decide (a < 0))) (x := a) ((huo3_1_6.ext E_w')) (rfl) (rfl) (rfl)) (IntV.of_ (n := (lim a.natAbs).length) (b := decide (a < 0)) (x := a) ((hu_a.ext ((((((E3.trans E7).trans E11).trans E14).trans E19).trans E_w23).trans E_w'))) (rfl) (rfl) (rfl))
    rw [show (decide (a = a)) = true from by simp] at hC
    refine op_call hF rfl TfLS.body19 (args2 (hF.ev rfl) (hF.ev rfl)) hC ?_
    clear hC
    rintro _ wo4_42_1 ⟨rfl, hbo4_42_2⟩
    clear hF; intro hF
    replace hS := hS.call hbo4_42_2; have Eo4_42_3 := Ext.call (go3_5_1 :: (go3_4_1 :: (g5 :: (g1 :: X)))) hbo4_42_2
    have hA1 := ((hA.put_other _ rfl).cons (hF.get 63 _ rfl))
    exact ⟨19, rfl, ⟨Ao4_2_4, co4_2_5, Ao4_5_4, co4_5_5, Ao4_10_4, co4_10_5, Ao4_13_4, co4_13_5, Ao4_18_4, co4_18_5, Ao4_20_4, co4_20_5, (hA1.take (hA1.take (hA1.take (hA1.take (hA1.take (hA1.take (hA1.take (hA1.take (hA1.take (hA1.take (hA1.take (hA1.take (hA1.take (hA1.take (hA1.take (hA1.take (hA1.take (hA1.take (hA1.take hA1.nil rfl) rfl) rfl) rfl) rfl) rfl) rfl) rfl) rfl) rfl) rfl) rfl) rfl) rfl) rfl) rfl) rfl) rfl) rfl), hS, (E_w'.trans Eo4_42_3), (huo4_2_6.ext Eo4_42_3), (huo4_5_6.ext Eo4_42_3), (huo4_10_6.ext Eo4_42_3), (huo4_13_6.ext Eo4_42_3), (huo4_18_6.ext Eo4_42_3), (huo4_20_6.ext Eo4_42_3)⟩, _, rfl, fun u hu => by cases hu <;> rfl⟩
  ·
   refine .inl ⟨rfl, _, _, rfl, rfl, fun s fa w' hΦ hF hB K hK => ?_⟩
   replace hF := hF.cons (hB.val 39 _ 60 _ rfl rfl rfl rfl)
   replace hF := hF.cons (hB.val 42 _ 63 _ rfl rfl rfl rfl)
   exact fl_val rfl rfl rfl (ex_pick (hF.ev rfl) (fun _ => hF.ev rfl) (v := undef) (fun h => by cases h) rfl) hK
  ·
   refine .inr (.inr ⟨rfl, ?_, trivial⟩)
   ·
    intro fa w' hΦ hF hB
    obtain ⟨Ao4_2_4, co4_2_5, Ao4_5_4, co4_5_5, Ao4_10_4, co4_10_5, Ao4_13_4, co4_13_5, Ao4_18_4, co4_18_5, Ao4_20_4, co4_20_5, hA, hS, E_w', huo4_2_6, huo4_5_6, huo4_10_6, huo4_13_6, huo4_18_6, huo4_20_6⟩ := hΦ
    replace hF := hF.cons (hB.val 43 _ 64 _ rfl rfl rfl rfl)
    refine wop rfl rfl ?_
    refine op_val hF rfl rfl (ex_move (hF.ev rfl)) ?_; clear hF; intro hF
    have hA1 := ((hA.put_other _ rfl).cons (hF.get 65 _ rfl))
    exact ⟨20, rfl, ⟨Ao4_2_4, co4_2_5, Ao4_5_4, co4_5_5, Ao4_10_4, co4_10_5, Ao4_13_4, co4_13_5, Ao4_18_4, co4_18_5, Ao4_20_4, co4_20_5, (hA1.take (hA1.take (hA1.take (hA1.take (hA1.take (hA1.take (hA1.take (hA1.take (hA1.take (hA1.take (hA1.take (hA1.take (hA1.take (hA1.take (hA1.take (hA1.take (hA1.take (hA1.take (hA1.take (hA1.take hA1.nil rfl) rfl) rfl) rfl) rfl) rfl) rfl) rfl) rfl) rfl) rfl) rfl) rfl) rfl) rfl) rfl) rfl) rfl) rfl) rfl), hS, E_w', huo4_2_6, huo4_5_6, huo4_10_6, huo4_13_6, huo4_18_6, huo4_20_6⟩, _, rfl, fun u hu => by cases hu <;> rfl⟩
  ·
   refine .inr (.inl ⟨rfl, _, _, rfl, rfl, ?_, trivial⟩)
   ·
    intro fa w' hΦ hF hB K hK
    obtain ⟨Ao4_2_4, co4_2_5, Ao4_5_4, co4_5_5, Ao4_10_4, co4_10_5, Ao4_13_4, co4_13_5, Ao4_18_4, co4_18_5, Ao4_20_4, co4_20_5, hA, hS, E_w', huo4_2_6, huo4_5_6, huo4_10_6, huo4_13_6, huo4_18_6, huo4_20_6⟩ := hΦ
    replace hF := hF.cons (hB.val 44 _ 65 _ rfl rfl rfl rfl)
    exact fl_valg hF rfl rfl rfl rfl (ex_loadb TfLS.row24 (hF.ev rfl) (hS.get 0 rfl) rfl) hK
  ·
   refine .inr (.inl ⟨rfl, _, _, rfl, rfl, ?_, trivial⟩)
   ·
    intro fa w' hΦ hF hB K hK
    obtain ⟨Ao4_2_4, co4_2_5, Ao4_5_4, co4_5_5, Ao4_10_4, co4_10_5, Ao4_13_4, co4_13_5, Ao4_18_4, co4_18_5, Ao4_20_4, co4_20_5, hA, hS, E_w', huo4_2_6, huo4_5_6, huo4_10_6, huo4_13_6, huo4_18_6, huo4_20_6⟩ := hΦ
    replace hF := hF.cons (hB.val 44 _ 65 _ rfl rfl rfl rfl)
    exact fl_valg hF rfl rfl rfl rfl (ex_loadb TfLS.row24 (hF.ev rfl) (hS.get 2 rfl) rfl) hK
  ·
   refine .inr (.inr ⟨rfl, ?_, trivial⟩)
   ·
    intro fa w' hΦ hF hB
    obtain ⟨Ao4_2_4, co4_2_5, Ao4_5_4, co4_5_5, Ao4_10_4, co4_10_5, Ao4_13_4, co4_13_5, Ao4_18_4, co4_18_5, Ao4_20_4, co4_20_5, hA, hS, E_w', huo4_2_6, huo4_5_6, huo4_10_6, huo4_13_6, huo4_18_6, huo4_20_6⟩ := hΦ
    replace hF := hF.cons (hB.val 45 _ 66 _ rfl rfl rfl rfl)
    replace hF := hF.cons (hB.val 46 _ 67 _ rfl rfl rfl rfl)
    replace hF := hF.cons (hB.val 44 _ 65 _ rfl rfl rfl rfl)
    refine wopg hF rfl rfl rfl ?_
    have hC := law01_same_ok (w := w') (X := (go3_5_1 :: (go3_4_1 :: (g5 :: (g1 :: X))))) (a := b) (b := b) (hS.bnd hX) (IntV.of_ (n := (((lim b.natAbs))).length) (b := (decide (b < 0))) (x := b) ((huo3_3_6.ext E_w')) (rfl) (rfl) (rfl)) (IntV.of_ (n := (lim b.natAbs).length) (b := decide (b < 0)) (x := b) ((hu_b.ext ((((((E3.trans E7).trans E11).trans E14).trans E19).trans E_w23).trans E_w'))) (rfl) (rfl) (rfl))
    rw [show (decide (b = b)) = true from by simp] at hC
    refine op_call hF rfl TfLS.body19 (args2 (hF.ev rfl) (hF.ev rfl)) hC ?_
    clear hC
    rintro _ wo4_47_1 ⟨rfl, hbo4_47_2⟩
    clear hF; intro hF
    replace hS := hS.call hbo4_47_2; have Eo4_47_3 := Ext.call (go3_5_1 :: (go3_4_1 :: (g5 :: (g1 :: X)))) hbo4_47_2
    have hA1 := ((hA.put_other _ rfl).cons (hF.get 68 _ rfl))
    exact ⟨21, rfl, ⟨Ao4_2_4, co4_2_5, Ao4_5_4, co4_5_5, Ao4_10_4, co4_10_5, Ao4_13_4, co4_13_5, Ao4_18_4, co4_18_5, Ao4_20_4, co4_20_5, (hA1.take (hA1.take (hA1.take (hA1.take (hA1.take (hA1.take (hA1.take (hA1.take (hA1.take (hA1.take (hA1.take (hA1.take (hA1.take (hA1.take (hA1.take (hA1.take (hA1.take (hA1.take (hA1.take (hA1.take (hA1.take hA1.nil rfl) rfl) rfl) rfl) rfl) rfl) rfl) rfl) rfl) rfl) rfl) rfl) rfl) rfl) rfl) rfl) rfl) rfl) rfl) rfl) rfl), hS, (E_w'.trans Eo4_47_3), (huo4_2_6.ext Eo4_47_3), (huo4_5_6.ext Eo4_47_3), (huo4_10_6.ext Eo4_47_3), (huo4_13_6.ext Eo4_47_3), (huo4_18_6.ext Eo4_47_3), (huo4_20_6.ext Eo4_47_3)⟩, _, rfl, fun u hu => by cases hu <;> rfl⟩
  ·
   refine .inl ⟨rfl, _, _, rfl, rfl, fun s fa w' hΦ hF hB K hK => ?_⟩
   replace hF := hF.cons (hB.val 44 _ 65 _ rfl rfl rfl rfl)
   replace hF := hF.cons (hB.val 47 _ 68 _ rfl rfl rfl rfl)
   exact fl_val rfl rfl rfl (ex_pick (hF.ev rfl) (fun _ => hF.ev rfl) (v := undef) (fun h => by cases h) rfl) hK
  ·
   refine .inl ⟨rfl, _, _, rfl, rfl, fun s fa w' hΦ hF hB K hK => ?_⟩
   replace hF := hF.cons (hB.val 48 _ 69 _ rfl rfl rfl rfl)
   exact fl_val rfl rfl rfl (ex_assign (hF.ev rfl)) hK
 intro fa w24 hΦ hF hC
 obtain ⟨Ao4_2_4, co4_2_5, Ao4_5_4, co4_5_5, Ao4_10_4, co4_10_5, Ao4_13_4, co4_13_5, Ao4_18_4, co4_18_5, Ao4_20_4, co4_20_5, hA, hS, E_w24, huo4_2_6, huo4_5_6, huo4_10_6, huo4_13_6, huo4_18_6, huo4_20_6⟩ := hΦ
 replace hF := hF.cons (hC 49 _ 4 _ rfl rfl rfl)
 clear hA hC
 refine x_tn ?_
 refine c_ret ?_
 refine end1 hF rfl (res_tmp hF rfl) ?_
 exact ⟨_, rfl, (congrArg Value.bool (by simp_all)), hS.below⟩

end Go.Proofs.Ytlaojdpcfenlkaa
