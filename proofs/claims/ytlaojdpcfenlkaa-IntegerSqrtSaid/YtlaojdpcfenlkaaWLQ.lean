/-
  What the functions IntegerSqrt#bad, IntegerSqrt do, each call by call.
  Conditions: none.
-/
import Derived.Test.YtlaojdpcfenlkaaChecked
import Derived.Test.YtlaojdpcfenlkaaSwBaseK
import Derived.Test.YtlaojdpcfenlkaaWH
import Derived.Test.YtlaojdpcfenlkaaWI
import Derived.Test.YtlaojdpcfenlkaaWK
import Derived.Test.YtlaojdpcfenlkaaWN
import Derived.Test.YtlaojdpcfenlkaaWP
import Derived.Test.YtlaojdpcfenlkaaWT
import Derived.Test.YtlaojdpcfenlkaaWV
import Derived.Test.YtlaojdpcfenlkaaWY
namespace Go.Proofs.Ytlaojdpcfenlkaa
open Go Go.RowKit Go.Sw
set_option linter.unusedVariables false
namespace TfLQ
theorem body11 : hasBody Try.prog 11 = true := by kernel_rfl
theorem body12 : hasBody Try.prog 12 = true := by kernel_rfl
theorem body14 : hasBody Try.prog 14 = true := by kernel_rfl
theorem body16 : hasBody Try.prog 16 = true := by kernel_rfl
theorem body17 : hasBody Try.prog 17 = true := by kernel_rfl
theorem body18 : hasBody Try.prog 18 = true := by kernel_rfl
theorem body20 : hasBody Try.prog 20 = true := by kernel_rfl
theorem body21 : hasBody Try.prog 21 = true := by kernel_rfl
theorem body25 : hasBody Try.prog 25 = true := by kernel_rfl
theorem body26 : hasBody Try.prog 26 = true := by kernel_rfl
theorem el24 : Sw.elemOf Try.prog 24 = some (#[.bool false, .slice none 0 0], 2, 32) := by kernel_rfl
theorem mixed : Try.prog.follows .mixedOrders = true := by kernel_rfl
theorem off24_0 : fieldOff Try.prog 24 0 = some 0 := by kernel_rfl
theorem one4 : isOne Try.prog 4 = true := by kernel_rfl
theorem row24 : isRow Try.prog 24 2 = true := by kernel_rfl
theorem size24 : (Try.prog.info? 24).map (fun i => i.size) = some 2 := by kernel_rfl
theorem sl47 : sliceOf Try.prog 47 = some (24, 2) := by kernel_rfl
theorem zero24 : zeroOf Try.prog 24 = some #[.bool false, .slice none 0 0] := by kernel_rfl
end TfLQ
set_option maxHeartbeats 4000000 in
theorem swarflaw01_IntegerSqrt_bad_ok {w : World} {X : List Nat} (hX : ∀ m ∈ X, m < w.heap.size) {v_na : Value} {na : Bool} {la : List Nat} (h_na : RawV w X v_na (na) (la)) (hbad : ([(na, la)].all fun p => decide ((p.2.length : Int) ≤ 16) && validL p.1 p.2) = false) :
    Calls Try.prog 5 #[v_na] w (Ret fun r w' => (r = .bool (true)) ∧ Below w.heap.size w w') := by
 refine enter (N := 59) (fn := Try.f5) (vs := [v_na]) Try.func5 rfl rfl rfl ?_
 intro fa hF
 obtain ⟨_, rfl, A_la, c_la, rfl, hu_la⟩ := h_na
 have hl_la := hu_la.len; have hc_la := hu_la.cap
 replace hF : Frm 59 fa [(0, (.agg #[(.bool (na)), (.slice (A_la) (la.length) (c_la))]))] := hF
 have hS := St.refl w
 refine c_seq ?_
 refine c_reg ?_
 refine st rfl (op_box (X := X) hF hS rfl rfl rfl ?_)
 intro g1 w2 hg4 hS E3; refine gen_ ?_; clear hF fa; intro fa hF
 replace hS : St w w2 [(g1, 24, #[(.bool (na)), (.slice (A_la) (la.length) (c_la))])] := hS
 refine st_val hF rfl rfl rfl (ex_assign (hF.ev rfl)) ?_
 clear hF fa; intro fa hF
 refine c_nil_then ?_
 refine c_seq ?_
 refine c_seq ?_
 refine c_reg ?_
 have hC := law01_awake_ok (w := w2) (X := (g1 :: X)) (hS.bnd hX) 
 refine st rfl (op_call hF rfl TfLQ.body11 (args0) hC ?_)
 clear hC
 rintro _ w5 ⟨rfl, hb6⟩
 refine gen_ ?_; clear hF fa; intro fa hF
 replace hS := hS.call hb6; have E7 := Ext.call (g1 :: X) hb6
 refine st_val hF rfl rfl rfl (ex_not (hF.ev rfl)) ?_
 clear hF fa; intro fa hF
 refine st_val hF rfl rfl rfl (ex_move (hF.ev rfl)) ?_
 clear hF fa; intro fa hF
 refine stg_val hF rfl rfl rfl rfl (ex_loadb TfLQ.row24 (hF.ev rfl) (hS.get 0 rfl) rfl) ?_
 clear hF fa; intro fa hF
 refine stg hF rfl rfl (op_lit (X := (g1 :: X)) hF hS (hS.bnd hX) rfl TfLQ.sl47 TfLQ.el24 rfl rfl (lits1 (hF.ev rfl)) fill_r1 ?_)
 intro g8 w9 hg11 hS E10 hc12; refine gen_ ?_; clear hF fa; intro fa hF
 have hC := law01_small_ok (w := w9) (X := (g1 :: X)) (zs := ([(na, la)])) (hS.bnd hX) (RL.raw1 hc12 ⟨_, rfl, _, _, rfl, (hu_la.ext ((E3.trans E7).trans E10))⟩)
 rw [show ((([(na, la)]).all fun p => decide ((p.2.length : Int) ≤ 16) && validL p.1 p.2)) = false from hbad] at hC
 refine stg hF rfl rfl (op_call hF rfl TfLQ.body12 (args1 (hF.ev rfl)) hC ?_)
 clear hC
 rintro _ w13 ⟨rfl, hb14⟩
 refine gen_ ?_; clear hF fa; intro fa hF
 replace hS := hS.call hb14; have E15 := Ext.call (g1 :: X) hb14
 refine stg_val hF rfl rfl rfl rfl (ex_not (hF.ev rfl)) ?_
 clear hF fa; intro fa hF
 refine st_val hF rfl rfl rfl (ex_pick (hF.ev rfl) (u := undef) (fun h => by cases h) (fun _ => hF.ev rfl) rfl) ?_
 clear hF fa; intro fa hF
 refine c_nil_then ?_
 refine c_cond hF rfl (fun hc => ?_) (fun hc => ?_)
 rotate_left
 ·
  cases hc
 refine c_seq ?_
 refine c_reg ?_
 have hC := law01_awake_ok (w := w13) (X := (g1 :: X)) (hS.bnd hX) 
 refine st rfl (op_call hF rfl TfLQ.body11 (args0) hC ?_)
 clear hC
 rintro _ w16 ⟨rfl, hb17⟩
 refine gen_ ?_; clear hF fa; intro fa hF
 replace hS := hS.call hb17; have E18 := Ext.call (g1 :: X) hb17
 refine st_val hF rfl rfl rfl (ex_assign (hF.ev rfl)) ?_
 clear hF fa; intro fa hF
 refine c_nil_then ?_
 refine c_ret ?_
 refine x_tr ?_
 refine end1 hF rfl (res_tmp hF rfl) ?_
 exact ⟨_, rfl, (congrArg Value.bool (by simp_all)), hS.below⟩

set_option maxHeartbeats 4000000 in
theorem law01_IntegerSqrt_ok {w : World} {X : List Nat} (hX : ∀ m ∈ X, m < w.heap.size) {v_a : Value} {a : Int} (h_a : IntV w X v_a (a)) (hs_a : sz a ≤ 16) :
    Calls Try.prog 5 #[v_a] w (Ret fun r w' => (r = .bool (true)) ∧ Below w.heap.size w w') := by
 refine enter (N := 59) (fn := Try.f5) (vs := [v_a]) Try.func5 rfl rfl rfl ?_
 intro fa hF
 obtain ⟨_, rfl, A_a, c_a, rfl, hu_a⟩ := h_a
 have hl_a := hu_a.len; have hc_a := hu_a.cap
 replace hF : Frm 59 fa [(0, (.agg (ic (A_a) (c_a) (a))))] := hF
 have hS := St.refl w
 have hs_a0 := hs_a; unfold sz at hs_a0
 refine c_seq ?_
 refine c_reg ?_
 refine st rfl (op_box (X := X) hF hS rfl rfl rfl ?_)
 intro g1 w2 hg4 hS E3; refine gen_ ?_; clear hF fa; intro fa hF
 replace hS : St w w2 [(g1, 24, (ic (A_a) (c_a) (a)))] := hS
 refine st_val hF rfl rfl rfl (ex_assign (hF.ev rfl)) ?_
 clear hF fa; intro fa hF
 refine c_nil_then ?_
 refine c_seq ?_
 refine c_seq ?_
 refine c_reg ?_
 have hC := law01_awake_ok (w := w2) (X := (g1 :: X)) (hS.bnd hX) 
 refine st rfl (op_call hF rfl TfLQ.body11 (args0) hC ?_)
 clear hC
 rintro _ w5 ⟨rfl, hb6⟩
 refine gen_ ?_; clear hF fa; intro fa hF
 replace hS := hS.call hb6; have E7 := Ext.call (g1 :: X) hb6
 refine st_val hF rfl rfl rfl (ex_not (hF.ev rfl)) ?_
 clear hF fa; intro fa hF
 refine st_val hF rfl rfl rfl (ex_move (hF.ev rfl)) ?_
 clear hF fa; intro fa hF
 refine stg_val hF rfl rfl rfl rfl (ex_loadb TfLQ.row24 (hF.ev rfl) (hS.get 0 rfl) rfl) ?_
 clear hF fa; intro fa hF
 refine stg hF rfl rfl (op_lit (X := (g1 :: X)) hF hS (hS.bnd hX) rfl TfLQ.sl47 TfLQ.el24 rfl rfl (lits1 (hF.ev rfl)) fill_r1 ?_)
 intro g8 w9 hg11 hS E10 hc12; refine gen_ ?_; clear hF fa; intro fa hF
 have hC := law01_small_ok (w := w9) (X := (g1 :: X)) (zs := ([(decide (a < 0), (lim a.natAbs))])) (hS.bnd hX) (RL.raw1 hc12 ⟨_, rfl, _, _, rfl, (hu_a.ext ((E3.trans E7).trans E10))⟩)
 rw [show ((([(decide (a < 0), (lim a.natAbs))]).all fun p => decide ((p.2.length : Int) ≤ 16) && validL p.1 p.2)) = true from small1 hs_a] at hC
 refine stg hF rfl rfl (op_call hF rfl TfLQ.body12 (args1 (hF.ev rfl)) hC ?_)
 clear hC
 rintro _ w13 ⟨rfl, hb14⟩
 refine gen_ ?_; clear hF fa; intro fa hF
 replace hS := hS.call hb14; have E15 := Ext.call (g1 :: X) hb14
 refine stg_val hF rfl rfl rfl rfl (ex_not (hF.ev rfl)) ?_
 clear hF fa; intro fa hF
 refine st_val hF rfl rfl rfl (ex_pick (hF.ev rfl) (u := undef) (fun h => by cases h) (fun _ => hF.ev rfl) rfl) ?_
 clear hF fa; intro fa hF
 refine c_nil_then ?_
 refine c_cond hF rfl (fun hc => ?_) (fun hc => ?_)
 ·
  cases hc
 refine c_skip ?_
 refine x_tn ?_
 refine c_seq ?_
 refine c_reg ?_
 refine st_val hF rfl rfl rfl (ex_loadb TfLQ.row24 (hF.ev rfl) (hS.get 0 rfl) rfl) ?_
 clear hF fa; intro fa hF
 have hC := law01_cp_ok (w := w13) (X := (g1 :: X)) (ng := (decide (a < 0))) (l := (lim a.natAbs)) (hS.bnd hX) ⟨_, rfl, _, _, rfl, (hu_a.ext (((E3.trans E7).trans E10).trans E15))⟩ (by omega)
 refine st rfl (op_call hF rfl TfLQ.body14 (args1 (hF.ev rfl)) hC ?_)
 clear hC
 rintro _ w16 ⟨⟨_, rfl, A19, c20, rfl, hu21⟩, hb17⟩
 refine gen_ ?_; clear hF fa; intro fa hF
 replace hS := hS.call hb17; have E18 := Ext.call (g1 :: X) hb17
 have hC := integer_Sqrt_ok (w := w16) (X := (g1 :: X)) (a := a) (hS.bnd hX) (IntV.of_ (n := (((lim a.natAbs))).length) (b := (decide (a < 0))) (x := a) (hu21) (rfl) (rfl) (rfl)) (by omega)
 refine st rfl (op_call hF rfl TfLQ.body25 (args1 (hF.ev rfl)) hC ?_)
 clear hC
 rintro _ w22 ⟨⟨rt_25, _, _, rfl, ⟨_, rfl, A26, c27, rfl, hu28⟩, rfl, hp29⟩, hb23⟩
 refine gen_ ?_; clear hF fa; intro fa hF
 replace hS := hS.call hb23; have E24 := Ext.call (g1 :: X) hb23
 have hrt := hp29
 refine st_val hF rfl rfl rfl (ex_move (hF.ev rfl)) ?_
 clear hF fa; intro fa hF
 refine st_val hF rfl rfl rfl (ex_extract (hF.ev rfl) rfl) ?_
 clear hF fa; intro fa hF
 refine st_val hF rfl rfl rfl (ex_extract (hF.ev rfl) rfl) ?_
 clear hF fa; intro fa hF
 refine st rfl (op_alloc (X := (g1 :: X)) hF hS rfl TfLQ.zero24 ?_)
 intro g30 w31 hg33 hS E32; refine gen_ ?_; clear hF fa; intro fa hF
 replace hS : St w w31 [(g30, 24, #[(.bool (false)), (.slice (none) (0) (0))]), (g1, 24, (ic (A_a) (c_a) (a)))] := hS
 refine st rfl (op_store (X := (g30 :: (g1 :: X))) hF hS 0 rfl (by simp) rfl rfl rfl TfLQ.size24 rfl (Nat.le_of_ble_eq_true rfl) ?_)
 intro w34 hS E35
 replace hS : St w w34 [(g30, 24, (ic (A26) (c27) (((rt_25 : Nat) : Int)))), (g1, 24, (ic (A_a) (c_a) (a)))] := hS
 refine st_val hF rfl rfl rfl (ex_assign (hF.ev rfl)) ?_
 clear hF fa; intro fa hF
 replace hF : Frm 59 fa [(0, (.agg (ic (A_a) (c_a) (a)))), (1, (.pointer (some ⟨g1, 0, none⟩))), (2, (.bool (false))), (13, (.bool (false))), (3, (.pointer (some ⟨g30, 0, none⟩))), (4, (.int .i64 ((if a < 0 then 7 else 0))))] := (hF.take (hF.take (hF.take (hF.take (hF.take (hF.take hF.nil rfl) rfl) rfl) rfl) rfl) rfl)
 refine c_nil_then ?_
 refine c_seq ?_
 refine c_seq ?_
 refine c_reg ?_
 refine st_val hF rfl rfl rfl (ex_field_addr TfLQ.off24_0 (hF.ev rfl)) ?_
 clear hF fa; intro fa hF
 refine st_val hF rfl rfl rfl (ex_load1b TfLQ.one4 (hF.ev rfl) (hS.get 1 rfl) rfl) ?_
 clear hF fa; intro fa hF
 refine c_nil_then ?_
 refine c_cond hF rfl (fun hc36 => ?_) (fun hc36 => ?_)
 ·
  have hc36p : a < 0 := by first | simpa using hc36 | exact bang_t hc36 | exact bang_f hc36
  have ha0 : a < 0 := by simpa using hc36p
  refine c_seq ?_
  refine c_reg ?_
  refine st_val hF rfl rfl rfl (ex_loadb TfLQ.row24 (hF.ev rfl) (hS.get 0 rfl) rfl) ?_
  clear hF fa; intro fa hF
  have hC := law01_is_ok (w := w34) (X := (g30 :: (g1 :: X))) (a := ((rt_25 : Nat) : Int)) (hS.bnd hX) (IntV.of_ (n := (lim (((rt_25 : Nat) : Int)).natAbs).length) (b := decide (((rt_25 : Nat) : Int) < 0)) (x := ((rt_25 : Nat) : Int)) ((hu28.ext (E32.trans E35))) (rfl) (rfl) (rfl)) 0 (by omega) (by omega)
  rw [show (decide ((((rt_25 : Nat) : Int)) = ((0 : Int)))) = true from by rw [decide_eq_true_eq]; have := hrt; omega] at hC
  refine st rfl (op_call hF rfl TfLQ.body16 (args2 (hF.ev rfl) (hF.ev rfl)) hC ?_)
  clear hC
  rintro _ w37 ⟨rfl, hb38⟩
  refine gen_ ?_; clear hF fa; intro fa hF
  replace hS := hS.call hb38; have E39 := Ext.call (g30 :: (g1 :: X)) hb38
  refine st_val hF rfl rfl rfl (ex_move (hF.ev rfl)) ?_
  clear hF fa; intro fa hF
  refine stg_val hF rfl rfl rfl rfl (ex_move (hF.ev rfl)) ?_
  clear hF fa; intro fa hF
  refine stg_val hF rfl rfl rfl rfl (ex_b (t := decide ((if a < 0 then 7 else 0) = 7)) (b := true) (by rw [decide_eq_true_eq, if_pos ha0]) (ex_eql (hF.ev rfl) (hF.ev rfl))) ?_
  clear hF fa; intro fa hF
  refine st_val hF rfl rfl rfl (ex_pick (hF.ev rfl) (fun _ => hF.ev rfl) (v := undef) (fun h => by cases h) rfl) ?_
  clear hF fa; intro fa hF
  refine st_val hF rfl rfl rfl (ex_assign (hF.ev rfl)) ?_
  clear hF fa; intro fa hF
  refine c_nil_then ?_
  refine c_ret ?_
  refine x_tr ?_
  refine end1 hF rfl (res_tmp hF rfl) ?_
  exact ⟨_, rfl, (congrArg Value.bool (by simp_all)), hS.below⟩
 have hc36p : ¬ (a < 0) := by first | simpa using hc36 | exact bang_t hc36 | exact bang_f hc36
 have ha0 : ¬ a < 0 := by simpa using hc36p
 obtain ⟨hq1, hq2, hq3⟩ := sqrt_cmp ha0 hrt
 refine c_skip ?_
 refine x_tn ?_
 refine c_seq ?_
 refine drawn2 (N := 59) (L0 := [(0, (.agg (ic (A_a) (c_a) (a)))), (1, (.pointer (some ⟨g1, 0, none⟩))), (2, (.bool (false))), (13, (.bool (false))), (3, (.pointer (some ⟨g30, 0, none⟩))), (4, (.int .i64 ((if a < 0 then 7 else 0)))), (22, (.bool (decide (a < 0))))]) [some (.agg (ic (A26) (c27) (((rt_25 : Nat) : Int)))), none, none, none, none] [1, 2, 3, 4] [[], [1], [3], [1, 2], [1, 3], [1, 2, 3], [1, 2, 3, 4]] [[0, 1, 2, 4], [0, 2], [1, 4], [0, 1, 3], [5]] 6 [
       fun fa w' => Frm 59 fa [] ∧ St w w' [(g30, 24, (ic (A26) (c27) (((rt_25 : Nat) : Int)))), (g1, 24, (ic (A_a) (c_a) (a)))] ∧ Ext w34 (g30 :: (g1 :: X)) w' (g30 :: (g1 :: X))
       , fun fa w' => ∃ Ao6_1_4 : Option Addr, ∃ co6_1_5 : Nat, Frm 59 fa [(30, (.agg (ic (Ao6_1_4) (co6_1_5) (((1 : Int))))))] ∧ St w w' [(g30, 24, (ic (A26) (c27) (((rt_25 : Nat) : Int)))), (g1, 24, (ic (A_a) (c_a) (a)))] ∧ Ext w34 (g30 :: (g1 :: X)) w' (g30 :: (g1 :: X)) ∧ UC w' (g30 :: (g1 :: X)) Ao6_1_4 co6_1_5 (lim (((1 : Int))).natAbs)
       , fun fa w' => ∃ go6_3_1 : Nat, Frm 59 fa [(5, (.pointer (some ⟨go6_3_1, 0, none⟩)))] ∧ St w w' [(go6_3_1, 24, #[(.bool (false)), (.slice (none) (0) (0))]), (g30, 24, (ic (A26) (c27) (((rt_25 : Nat) : Int)))), (g1, 24, (ic (A_a) (c_a) (a)))] ∧ Ext w34 (g30 :: (g1 :: X)) w' (go6_3_1 :: (g30 :: (g1 :: X)))
       , fun fa w' => ∃ Ao6_1_4 : Option Addr, ∃ co6_1_5 : Nat, ∃ Ao6_2_4 : Option Addr, ∃ co6_2_5 : Nat, Frm 59 fa [(30, (.agg (ic (Ao6_1_4) (co6_1_5) (((1 : Int)))))), (31, (.agg (ic (Ao6_2_4) (co6_2_5) (((((rt_25 : Nat) : Int)) + (((1 : Int))))))))] ∧ St w w' [(g30, 24, (ic (A26) (c27) (((rt_25 : Nat) : Int)))), (g1, 24, (ic (A_a) (c_a) (a)))] ∧ Ext w34 (g30 :: (g1 :: X)) w' (g30 :: (g1 :: X)) ∧ UC w' (g30 :: (g1 :: X)) Ao6_1_4 co6_1_5 (lim (((1 : Int))).natAbs) ∧ UC w' (g30 :: (g1 :: X)) Ao6_2_4 co6_2_5 (lim ((((rt_25 : Nat) : Int)) + (((1 : Int)))).natAbs)
       , fun fa w' => ∃ Ao6_1_4 : Option Addr, ∃ co6_1_5 : Nat, ∃ go6_3_1 : Nat, Frm 59 fa [(30, (.agg (ic (Ao6_1_4) (co6_1_5) (((1 : Int)))))), (5, (.pointer (some ⟨go6_3_1, 0, none⟩)))] ∧ St w w' [(go6_3_1, 24, #[(.bool (false)), (.slice (none) (0) (0))]), (g30, 24, (ic (A26) (c27) (((rt_25 : Nat) : Int)))), (g1, 24, (ic (A_a) (c_a) (a)))] ∧ Ext w34 (g30 :: (g1 :: X)) w' (go6_3_1 :: (g30 :: (g1 :: X))) ∧ UC w' (go6_3_1 :: (g30 :: (g1 :: X))) Ao6_1_4 co6_1_5 (lim (((1 : Int))).natAbs)
       , fun fa w' => ∃ Ao6_1_4 : Option Addr, ∃ co6_1_5 : Nat, ∃ Ao6_2_4 : Option Addr, ∃ co6_2_5 : Nat, ∃ go6_3_1 : Nat, Frm 59 fa [(30, (.agg (ic (Ao6_1_4) (co6_1_5) (((1 : Int)))))), (31, (.agg (ic (Ao6_2_4) (co6_2_5) (((((rt_25 : Nat) : Int)) + (((1 : Int)))))))), (5, (.pointer (some ⟨go6_3_1, 0, none⟩)))] ∧ St w w' [(go6_3_1, 24, #[(.bool (false)), (.slice (none) (0) (0))]), (g30, 24, (ic (A26) (c27) (((rt_25 : Nat) : Int)))), (g1, 24, (ic (A_a) (c_a) (a)))] ∧ Ext w34 (g30 :: (g1 :: X)) w' (go6_3_1 :: (g30 :: (g1 :: X))) ∧ UC w' (go6_3_1 :: (g30 :: (g1 :: X))) Ao6_1_4 co6_1_5 (lim (((1 : Int))).natAbs) ∧ UC w' (go6_3_1 :: (g30 :: (g1 :: X))) Ao6_2_4 co6_2_5 (lim ((((rt_25 : Nat) : Int)) + (((1 : Int)))).natAbs)
       , fun fa w' => ∃ Ao6_1_4 : Option Addr, ∃ co6_1_5 : Nat, ∃ Ao6_2_4 : Option Addr, ∃ co6_2_5 : Nat, ∃ go6_3_1 : Nat, Frm 59 fa [(30, (.agg (ic (Ao6_1_4) (co6_1_5) (((1 : Int)))))), (31, (.agg (ic (Ao6_2_4) (co6_2_5) (((((rt_25 : Nat) : Int)) + (((1 : Int)))))))), (5, (.pointer (some ⟨go6_3_1, 0, none⟩)))] ∧ St w w' [(go6_3_1, 24, (ic (Ao6_2_4) (co6_2_5) (((((rt_25 : Nat) : Int)) + (((1 : Int))))))), (g30, 24, (ic (A26) (c27) (((rt_25 : Nat) : Int)))), (g1, 24, (ic (A_a) (c_a) (a)))] ∧ Ext w34 (g30 :: (g1 :: X)) w' (go6_3_1 :: (g30 :: (g1 :: X))) ∧ UC w' (go6_3_1 :: (g30 :: (g1 :: X))) Ao6_1_4 co6_1_5 (lim (((1 : Int))).natAbs) ∧ UC w' (go6_3_1 :: (g30 :: (g1 :: X))) Ao6_2_4 co6_2_5 (lim ((((rt_25 : Nat) : Int)) + (((1 : Int)))).natAbs)
     ] TfLQ.mixed rfl rfl rfl rfl rfl rfl (hF.take (hF.take (hF.take (hF.take (hF.take (hF.take (hF.take hF.nil rfl) rfl) rfl) rfl) rfl) rfl) rfl) rfl ⟨hF.nil, hS.drew, Ext.drew _ _⟩ ?_ ?_ ?_
 all_goals clear hF fa
 ·
  refine ⟨?_, ?_, ?_, ?_, ?_, ?_, ?_, trivial⟩
  ·
   rintro fa w' i o d v ho hd hna ⟨hA, hR⟩; exact ⟨hA.put_other v (freeOf_at (acts := [1, 2, 3, 4]) rfl ho hd hna), hR⟩
  ·
   rintro fa w' i o d v ho hd hna ⟨Ao6_1_4, co6_1_5, hA, hR⟩; exact ⟨Ao6_1_4, co6_1_5, hA.put_other v (freeOf_at (acts := [1, 2, 3, 4]) rfl ho hd hna), hR⟩
  ·
   rintro fa w' i o d v ho hd hna ⟨go6_3_1, hA, hR⟩; exact ⟨go6_3_1, hA.put_other v (freeOf_at (acts := [1, 2, 3, 4]) rfl ho hd hna), hR⟩
  ·
   rintro fa w' i o d v ho hd hna ⟨Ao6_1_4, co6_1_5, Ao6_2_4, co6_2_5, hA, hR⟩; exact ⟨Ao6_1_4, co6_1_5, Ao6_2_4, co6_2_5, hA.put_other v (freeOf_at (acts := [1, 2, 3, 4]) rfl ho hd hna), hR⟩
  ·
   rintro fa w' i o d v ho hd hna ⟨Ao6_1_4, co6_1_5, go6_3_1, hA, hR⟩; exact ⟨Ao6_1_4, co6_1_5, go6_3_1, hA.put_other v (freeOf_at (acts := [1, 2, 3, 4]) rfl ho hd hna), hR⟩
  ·
   rintro fa w' i o d v ho hd hna ⟨Ao6_1_4, co6_1_5, Ao6_2_4, co6_2_5, go6_3_1, hA, hR⟩; exact ⟨Ao6_1_4, co6_1_5, Ao6_2_4, co6_2_5, go6_3_1, hA.put_other v (freeOf_at (acts := [1, 2, 3, 4]) rfl ho hd hna), hR⟩
  ·
   rintro fa w' i o d v ho hd hna ⟨Ao6_1_4, co6_1_5, Ao6_2_4, co6_2_5, go6_3_1, hA, hR⟩; exact ⟨Ao6_1_4, co6_1_5, Ao6_2_4, co6_2_5, go6_3_1, hA.put_other v (freeOf_at (acts := [1, 2, 3, 4]) rfl ho hd hna), hR⟩
 ·
  refine ⟨?_, ?_, ?_, ?_, ?_, trivial⟩
  ·
   refine .inr (.inl ⟨rfl, _, _, rfl, rfl, ?_, ?_, ?_, ?_, trivial⟩)
   ·
    intro fa w' hΦ hF hB K hK
    obtain ⟨hA, hS, E_w'⟩ := hΦ
    exact fl_val rfl rfl rfl (ex_loadb TfLQ.row24 (hF.ev rfl) (hS.get 0 rfl) rfl) hK
   ·
    intro fa w' hΦ hF hB K hK
    obtain ⟨Ao6_1_4, co6_1_5, hA, hS, E_w', huo6_1_6⟩ := hΦ
    exact fl_val rfl rfl rfl (ex_loadb TfLQ.row24 (hF.ev rfl) (hS.get 0 rfl) rfl) hK
   ·
    intro fa w' hΦ hF hB K hK
    obtain ⟨go6_3_1, hA, hS, E_w'⟩ := hΦ
    exact fl_val rfl rfl rfl (ex_loadb TfLQ.row24 (hF.ev rfl) (hS.get 1 rfl) rfl) hK
   ·
    intro fa w' hΦ hF hB K hK
    obtain ⟨Ao6_1_4, co6_1_5, go6_3_1, hA, hS, E_w', huo6_1_6⟩ := hΦ
    exact fl_val rfl rfl rfl (ex_loadb TfLQ.row24 (hF.ev rfl) (hS.get 1 rfl) rfl) hK
  ·
   refine .inr (.inr ⟨rfl, ?_, ?_, trivial⟩)
   ·
    intro fa w' hΦ hF hB
    obtain ⟨hA, hS, E_w'⟩ := hΦ
    refine wop rfl rfl ?_
    have hC := ref01_FromInt64_ok (w := w') (X := (g30 :: (g1 :: X))) (hS.bnd hX) 1 (by omega) (by omega)
    refine op_call hF rfl TfLQ.body26 (args1 (hF.ev rfl)) hC ?_
    clear hC
    rintro _ wo6_1_1 ⟨⟨_, rfl, Ao6_1_4, co6_1_5, rfl, huo6_1_6⟩, hbo6_1_2⟩
    clear hF; intro hF
    replace hS := hS.call hbo6_1_2; have Eo6_1_3 := Ext.call (g30 :: (g1 :: X)) hbo6_1_2
    have hA1 := ((hA.put_other _ rfl).cons (hF.get 30 _ rfl))
    exact ⟨1, rfl, ⟨Ao6_1_4, co6_1_5, (hA1.take hA1.nil rfl), hS, (E_w'.trans Eo6_1_3), huo6_1_6⟩, _, rfl, fun u hu => by cases hu <;> rfl⟩
   ·
    intro fa w' hΦ hF hB
    obtain ⟨go6_3_1, hA, hS, E_w'⟩ := hΦ
    refine wop rfl rfl ?_
    have hC := ref01_FromInt64_ok (w := w') (X := (go6_3_1 :: (g30 :: (g1 :: X)))) (hS.bnd hX) 1 (by omega) (by omega)
    refine op_call hF rfl TfLQ.body26 (args1 (hF.ev rfl)) hC ?_
    clear hC
    rintro _ wo6_1_1 ⟨⟨_, rfl, Ao6_1_4, co6_1_5, rfl, huo6_1_6⟩, hbo6_1_2⟩
    clear hF; intro hF
    replace hS := hS.call hbo6_1_2; have Eo6_1_3 := Ext.call (go6_3_1 :: (g30 :: (g1 :: X))) hbo6_1_2
    have hA1 := ((hA.put_other _ rfl).cons (hF.get 30 _ rfl))
    exact ⟨4, rfl, ⟨Ao6_1_4, co6_1_5, go6_3_1, (hA1.take (hA1.take hA1.nil rfl) rfl), hS, (E_w'.trans Eo6_1_3), huo6_1_6⟩, _, rfl, fun u hu => by cases hu <;> rfl⟩
  ·
   refine .inr (.inr ⟨rfl, ?_, ?_, trivial⟩)
   ·
    intro fa w' hΦ hF hB
    obtain ⟨Ao6_1_4, co6_1_5, hA, hS, E_w', huo6_1_6⟩ := hΦ
    replace hF := hF.cons (hB.val 0 _ 29 _ rfl rfl rfl rfl)
    replace hF := hF.cons (hA.get 30 _ rfl)
    refine wop rfl rfl ?_
    have hC := ref01_Add_ok (w := w') (X := (g30 :: (g1 :: X))) (a := ((rt_25 : Nat) : Int)) (b := ((1 : Int))) (hS.bnd hX) (IntV.of_ (n := (lim (((rt_25 : Nat) : Int)).natAbs).length) (b := decide (((rt_25 : Nat) : Int) < 0)) (x := ((rt_25 : Nat) : Int)) ((hu28.ext ((E32.trans E35).trans E_w'))) (rfl) (rfl) (rfl)) (IntV.of_ (n := (lim (((1 : Int))).natAbs).length) (b := decide (((1 : Int)) < 0)) (x := ((1 : Int))) (huo6_1_6) (rfl) (rfl) (rfl)) (by have h1 := sz_64 (n := 1) (by omega) (by omega); have h2 := sz_add ((rt_25 : Nat) : Int) 1; omega) (by have h1 := sz_64 (n := 1) (by omega) (by omega); have h2 := sz_add ((rt_25 : Nat) : Int) 1; omega)
    refine op_call hF rfl TfLQ.body20 (args2 (hF.ev rfl) (hF.ev rfl)) hC ?_
    clear hC
    rintro _ wo6_2_1 ⟨⟨_, rfl, Ao6_2_4, co6_2_5, rfl, huo6_2_6⟩, hbo6_2_2⟩
    clear hF; intro hF
    replace hS := hS.call hbo6_2_2; have Eo6_2_3 := Ext.call (g30 :: (g1 :: X)) hbo6_2_2
    have hA1 := ((hA.put_other _ rfl).cons (hF.get 31 _ rfl))
    exact ⟨3, rfl, ⟨Ao6_1_4, co6_1_5, Ao6_2_4, co6_2_5, (hA1.take (hA1.take hA1.nil rfl) rfl), hS, (E_w'.trans Eo6_2_3), (huo6_1_6.ext Eo6_2_3), huo6_2_6⟩, _, rfl, fun u hu => by cases hu <;> rfl⟩
   ·
    intro fa w' hΦ hF hB
    obtain ⟨Ao6_1_4, co6_1_5, go6_3_1, hA, hS, E_w', huo6_1_6⟩ := hΦ
    replace hF := hF.cons (hB.val 0 _ 29 _ rfl rfl rfl rfl)
    replace hF := hF.cons (hA.get 30 _ rfl)
    refine wop rfl rfl ?_
    have hC := ref01_Add_ok (w := w') (X := (go6_3_1 :: (g30 :: (g1 :: X)))) (a := ((rt_25 : Nat) : Int)) (b := ((1 : Int))) (hS.bnd hX) (IntV.of_ (n := (lim (((rt_25 : Nat) : Int)).natAbs).length) (b := decide (((rt_25 : Nat) : Int) < 0)) (x := ((rt_25 : Nat) : Int)) ((hu28.ext ((E32.trans E35).trans E_w'))) (rfl) (rfl) (rfl)) (IntV.of_ (n := (lim (((1 : Int))).natAbs).length) (b := decide (((1 : Int)) < 0)) (x := ((1 : Int))) (huo6_1_6) (rfl) (rfl) (rfl)) (by have h1 := sz_64 (n := 1) (by omega) (by omega); have h2 := sz_add ((rt_25 : Nat) : Int) 1; omega) (by have h1 := sz_64 (n := 1) (by omega) (by omega); have h2 := sz_add ((rt_25 : Nat) : Int) 1; omega)
    refine op_call hF rfl TfLQ.body20 (args2 (hF.ev rfl) (hF.ev rfl)) hC ?_
    clear hC
    rintro _ wo6_2_1 ⟨⟨_, rfl, Ao6_2_4, co6_2_5, rfl, huo6_2_6⟩, hbo6_2_2⟩
    clear hF; intro hF
    replace hS := hS.call hbo6_2_2; have Eo6_2_3 := Ext.call (go6_3_1 :: (g30 :: (g1 :: X))) hbo6_2_2
    have hA1 := ((hA.put_other _ rfl).cons (hF.get 31 _ rfl))
    exact ⟨5, rfl, ⟨Ao6_1_4, co6_1_5, Ao6_2_4, co6_2_5, go6_3_1, (hA1.take (hA1.take (hA1.take hA1.nil rfl) rfl) rfl), hS, (E_w'.trans Eo6_2_3), (huo6_1_6.ext Eo6_2_3), huo6_2_6⟩, _, rfl, fun u hu => by cases hu <;> rfl⟩
  ·
   refine .inr (.inr ⟨rfl, ?_, ?_, ?_, trivial⟩)
   ·
    intro fa w' hΦ hF hB
    obtain ⟨hA, hS, E_w'⟩ := hΦ
    refine wop rfl rfl ?_
    refine op_alloc (X := (g30 :: (g1 :: X))) hF hS rfl TfLQ.zero24 ?_
    intro go6_3_1 wo6_3_2 hgo6_3_4 hS Eo6_3_3 hF
    replace hS : St w wo6_3_2 [(go6_3_1, 24, #[(.bool (false)), (.slice (none) (0) (0))]), (g30, 24, (ic (A26) (c27) (((rt_25 : Nat) : Int)))), (g1, 24, (ic (A_a) (c_a) (a)))] := hS
    have hA1 := ((hA.put_other _ rfl).cons (hF.get 5 _ rfl))
    exact ⟨2, rfl, ⟨go6_3_1, (hA1.take hA1.nil rfl), hS, (E_w'.trans Eo6_3_3)⟩, _, rfl, fun u hu => by cases hu <;> rfl⟩
   ·
    intro fa w' hΦ hF hB
    obtain ⟨Ao6_1_4, co6_1_5, hA, hS, E_w', huo6_1_6⟩ := hΦ
    refine wop rfl rfl ?_
    refine op_alloc (X := (g30 :: (g1 :: X))) hF hS rfl TfLQ.zero24 ?_
    intro go6_3_1 wo6_3_2 hgo6_3_4 hS Eo6_3_3 hF
    replace hS : St w wo6_3_2 [(go6_3_1, 24, #[(.bool (false)), (.slice (none) (0) (0))]), (g30, 24, (ic (A26) (c27) (((rt_25 : Nat) : Int)))), (g1, 24, (ic (A_a) (c_a) (a)))] := hS
    have hA1 := ((hA.put_other _ rfl).cons (hF.get 5 _ rfl))
    exact ⟨4, rfl, ⟨Ao6_1_4, co6_1_5, go6_3_1, (hA1.take (hA1.take hA1.nil rfl) rfl), hS, (E_w'.trans Eo6_3_3), (huo6_1_6.ext Eo6_3_3)⟩, _, rfl, fun u hu => by cases hu <;> rfl⟩
   ·
    intro fa w' hΦ hF hB
    obtain ⟨Ao6_1_4, co6_1_5, Ao6_2_4, co6_2_5, hA, hS, E_w', huo6_1_6, huo6_2_6⟩ := hΦ
    refine wop rfl rfl ?_
    refine op_alloc (X := (g30 :: (g1 :: X))) hF hS rfl TfLQ.zero24 ?_
    intro go6_3_1 wo6_3_2 hgo6_3_4 hS Eo6_3_3 hF
    replace hS : St w wo6_3_2 [(go6_3_1, 24, #[(.bool (false)), (.slice (none) (0) (0))]), (g30, 24, (ic (A26) (c27) (((rt_25 : Nat) : Int)))), (g1, 24, (ic (A_a) (c_a) (a)))] := hS
    have hA1 := ((hA.put_other _ rfl).cons (hF.get 5 _ rfl))
    exact ⟨5, rfl, ⟨Ao6_1_4, co6_1_5, Ao6_2_4, co6_2_5, go6_3_1, (hA1.take (hA1.take (hA1.take hA1.nil rfl) rfl) rfl), hS, (E_w'.trans Eo6_3_3), (huo6_1_6.ext Eo6_3_3), (huo6_2_6.ext Eo6_3_3)⟩, _, rfl, fun u hu => by cases hu <;> rfl⟩
  ·
   refine .inr (.inr ⟨rfl, ?_, trivial⟩)
   ·
    intro fa w' hΦ hF hB
    obtain ⟨Ao6_1_4, co6_1_5, Ao6_2_4, co6_2_5, go6_3_1, hA, hS, E_w', huo6_1_6, huo6_2_6⟩ := hΦ
    replace hF := hF.cons (hA.get 5 _ rfl)
    replace hF := hF.cons (hA.get 31 _ rfl)
    refine wop rfl rfl ?_
    refine op_store (X := (go6_3_1 :: (g30 :: (g1 :: X)))) hF hS 0 rfl (by simp) rfl rfl rfl TfLQ.size24 rfl (Nat.le_of_ble_eq_true rfl) ?_
    intro wo6_4_1 hS Eo6_4_2
    replace hS : St w wo6_4_1 [(go6_3_1, 24, (ic (Ao6_2_4) (co6_2_5) (((((rt_25 : Nat) : Int)) + (((1 : Int))))))), (g30, 24, (ic (A26) (c27) (((rt_25 : Nat) : Int)))), (g1, 24, (ic (A_a) (c_a) (a)))] := hS
    exact ⟨6, rfl, ⟨Ao6_1_4, co6_1_5, Ao6_2_4, co6_2_5, go6_3_1, hA, hS, (E_w'.trans Eo6_4_2), (huo6_1_6.ext Eo6_4_2), (huo6_2_6.ext Eo6_4_2)⟩, undef, rfl, fun u hu => by cases hu <;> rfl⟩
 intro fa w40 hΦ hF hC
 obtain ⟨Ao6_1_4, co6_1_5, Ao6_2_4, co6_2_5, go6_3_1, hA, hS, E_w40, huo6_1_6, huo6_2_6⟩ := hΦ
 replace hF := hF.cons (hA.get 5 _ rfl)
 clear hA hC
 refine x_tn ?_
 refine c_seq ?_
 refine drawn2 (N := 59) (L0 := [(0, (.agg (ic (A_a) (c_a) (a)))), (1, (.pointer (some ⟨g1, 0, none⟩))), (13, (.bool (false))), (3, (.pointer (some ⟨g30, 0, none⟩))), (4, (.int .i64 ((if a < 0 then 7 else 0)))), (22, (.bool (decide (a < 0)))), (5, (.pointer (some ⟨go6_3_1, 0, none⟩)))]) [some (.int .i64 ((if a < 0 then 7 else 0))), some (.bool (true)), some (.bool (true)), some (.agg (ic (A26) (c27) (((rt_25 : Nat) : Int)))), some (.bool (true)), some (.bool (true)), some (.bool (true)), some (.pointer (some ⟨g30, 0, none⟩)), some (.bool (decide (((rt_25 : Nat) : Int) < 0))), some (.bool (true)), some (.bool (true)), some (.bool (true)), some (.agg (ic (A26) (c27) (((rt_25 : Nat) : Int)))), some (.agg (ic (A26) (c27) (((rt_25 : Nat) : Int)))), none, some (.agg (ic (A_a) (c_a) (a))), some (.int .i64 (cmpI ((((rt_25 : Nat) : Int)) * (((rt_25 : Nat) : Int))) a)), some (.bool (true)), some (.bool (true)), some (.bool (true)), some (.agg (ic (Ao6_2_4) (co6_2_5) (((((rt_25 : Nat) : Int)) + (((1 : Int))))))), some (.agg (ic (Ao6_2_4) (co6_2_5) (((((rt_25 : Nat) : Int)) + (((1 : Int))))))), none, some (.agg (ic (A_a) (c_a) (a))), some (.int .i64 (cmpI (((((rt_25 : Nat) : Int)) + (((1 : Int)))) * ((((rt_25 : Nat) : Int)) + (((1 : Int))))) a)), some (.bool (true)), some (.bool (true)), some (.bool (true))] [4, 6, 11, 14, 16, 19, 22, 24] [[], [4], [4, 6], [4, 6, 11], [4, 6, 11, 14], [4, 6, 11, 14, 16], [4, 6, 11, 14, 16, 19], [4, 6, 11, 14, 16, 19, 22], [4, 6, 11, 14, 16, 19, 22, 24]] [[0, 1, 2, 3, 4, 5, 6, 7, 8], [0, 1, 2, 3, 4, 5, 6, 7, 8], [0], [0], [0], [1], [1], [2, 3, 4, 5, 6, 7, 8], [2, 3, 4, 5, 6, 7, 8], [2, 3, 4, 5, 6, 7, 8], [2], [2], [3], [3], [3], [3, 4], [4], [5, 6, 7, 8], [3, 4, 5], [5], [6], [6], [6], [6, 7], [7], [8], [6, 7, 8], [8]] 8 [
       fun fa w' => Frm 59 fa [] ∧ St w w' [(go6_3_1, 24, (ic (Ao6_2_4) (co6_2_5) (((((rt_25 : Nat) : Int)) + (((1 : Int))))))), (g30, 24, (ic (A26) (c27) (((rt_25 : Nat) : Int)))), (g1, 24, (ic (A_a) (c_a) (a)))] ∧ Ext w40 (go6_3_1 :: (g30 :: (g1 :: X))) w' (go6_3_1 :: (g30 :: (g1 :: X)))
       , fun fa w' => Frm 59 fa [(36, (.bool (true)))] ∧ St w w' [(go6_3_1, 24, (ic (Ao6_2_4) (co6_2_5) (((((rt_25 : Nat) : Int)) + (((1 : Int))))))), (g30, 24, (ic (A26) (c27) (((rt_25 : Nat) : Int)))), (g1, 24, (ic (A_a) (c_a) (a)))] ∧ Ext w40 (go6_3_1 :: (g30 :: (g1 :: X))) w' (go6_3_1 :: (g30 :: (g1 :: X)))
       , fun fa w' => Frm 59 fa [(36, (.bool (true))), (38, (.bool (true)))] ∧ St w w' [(go6_3_1, 24, (ic (Ao6_2_4) (co6_2_5) (((((rt_25 : Nat) : Int)) + (((1 : Int))))))), (g30, 24, (ic (A26) (c27) (((rt_25 : Nat) : Int)))), (g1, 24, (ic (A_a) (c_a) (a)))] ∧ Ext w40 (go6_3_1 :: (g30 :: (g1 :: X))) w' (go6_3_1 :: (g30 :: (g1 :: X)))
       , fun fa w' => Frm 59 fa [(36, (.bool (true))), (38, (.bool (true))), (43, (.bool (true)))] ∧ St w w' [(go6_3_1, 24, (ic (Ao6_2_4) (co6_2_5) (((((rt_25 : Nat) : Int)) + (((1 : Int))))))), (g30, 24, (ic (A26) (c27) (((rt_25 : Nat) : Int)))), (g1, 24, (ic (A_a) (c_a) (a)))] ∧ Ext w40 (go6_3_1 :: (g30 :: (g1 :: X))) w' (go6_3_1 :: (g30 :: (g1 :: X)))
       , fun fa w' => ∃ Ao7_14_4 : Option Addr, ∃ co7_14_5 : Nat, Frm 59 fa [(36, (.bool (true))), (38, (.bool (true))), (43, (.bool (true))), (46, (.agg (ic (Ao7_14_4) (co7_14_5) (((((rt_25 : Nat) : Int)) * (((rt_25 : Nat) : Int)))))))] ∧ St w w' [(go6_3_1, 24, (ic (Ao6_2_4) (co6_2_5) (((((rt_25 : Nat) : Int)) + (((1 : Int))))))), (g30, 24, (ic (A26) (c27) (((rt_25 : Nat) : Int)))), (g1, 24, (ic (A_a) (c_a) (a)))] ∧ Ext w40 (go6_3_1 :: (g30 :: (g1 :: X))) w' (go6_3_1 :: (g30 :: (g1 :: X))) ∧ UC w' (go6_3_1 :: (g30 :: (g1 :: X))) Ao7_14_4 co7_14_5 (lim ((((rt_25 : Nat) : Int)) * (((rt_25 : Nat) : Int))).natAbs)
       , fun fa w' => ∃ Ao7_14_4 : Option Addr, ∃ co7_14_5 : Nat, Frm 59 fa [(36, (.bool (true))), (38, (.bool (true))), (43, (.bool (true))), (46, (.agg (ic (Ao7_14_4) (co7_14_5) (((((rt_25 : Nat) : Int)) * (((rt_25 : Nat) : Int))))))), (48, (.int .i64 (cmpI ((((rt_25 : Nat) : Int)) * (((rt_25 : Nat) : Int))) a)))] ∧ St w w' [(go6_3_1, 24, (ic (Ao6_2_4) (co6_2_5) (((((rt_25 : Nat) : Int)) + (((1 : Int))))))), (g30, 24, (ic (A26) (c27) (((rt_25 : Nat) : Int)))), (g1, 24, (ic (A_a) (c_a) (a)))] ∧ Ext w40 (go6_3_1 :: (g30 :: (g1 :: X))) w' (go6_3_1 :: (g30 :: (g1 :: X))) ∧ UC w' (go6_3_1 :: (g30 :: (g1 :: X))) Ao7_14_4 co7_14_5 (lim ((((rt_25 : Nat) : Int)) * (((rt_25 : Nat) : Int))).natAbs)
       , fun fa w' => ∃ Ao7_14_4 : Option Addr, ∃ co7_14_5 : Nat, Frm 59 fa [(36, (.bool (true))), (38, (.bool (true))), (43, (.bool (true))), (46, (.agg (ic (Ao7_14_4) (co7_14_5) (((((rt_25 : Nat) : Int)) * (((rt_25 : Nat) : Int))))))), (48, (.int .i64 (cmpI ((((rt_25 : Nat) : Int)) * (((rt_25 : Nat) : Int))) a))), (51, (.bool (true)))] ∧ St w w' [(go6_3_1, 24, (ic (Ao6_2_4) (co6_2_5) (((((rt_25 : Nat) : Int)) + (((1 : Int))))))), (g30, 24, (ic (A26) (c27) (((rt_25 : Nat) : Int)))), (g1, 24, (ic (A_a) (c_a) (a)))] ∧ Ext w40 (go6_3_1 :: (g30 :: (g1 :: X))) w' (go6_3_1 :: (g30 :: (g1 :: X))) ∧ UC w' (go6_3_1 :: (g30 :: (g1 :: X))) Ao7_14_4 co7_14_5 (lim ((((rt_25 : Nat) : Int)) * (((rt_25 : Nat) : Int))).natAbs)
       , fun fa w' => ∃ Ao7_14_4 : Option Addr, ∃ co7_14_5 : Nat, ∃ Ao7_22_4 : Option Addr, ∃ co7_22_5 : Nat, Frm 59 fa [(36, (.bool (true))), (38, (.bool (true))), (43, (.bool (true))), (46, (.agg (ic (Ao7_14_4) (co7_14_5) (((((rt_25 : Nat) : Int)) * (((rt_25 : Nat) : Int))))))), (48, (.int .i64 (cmpI ((((rt_25 : Nat) : Int)) * (((rt_25 : Nat) : Int))) a))), (51, (.bool (true))), (54, (.agg (ic (Ao7_22_4) (co7_22_5) ((((((rt_25 : Nat) : Int)) + (((1 : Int)))) * ((((rt_25 : Nat) : Int)) + (((1 : Int)))))))))] ∧ St w w' [(go6_3_1, 24, (ic (Ao6_2_4) (co6_2_5) (((((rt_25 : Nat) : Int)) + (((1 : Int))))))), (g30, 24, (ic (A26) (c27) (((rt_25 : Nat) : Int)))), (g1, 24, (ic (A_a) (c_a) (a)))] ∧ Ext w40 (go6_3_1 :: (g30 :: (g1 :: X))) w' (go6_3_1 :: (g30 :: (g1 :: X))) ∧ UC w' (go6_3_1 :: (g30 :: (g1 :: X))) Ao7_14_4 co7_14_5 (lim ((((rt_25 : Nat) : Int)) * (((rt_25 : Nat) : Int))).natAbs) ∧ UC w' (go6_3_1 :: (g30 :: (g1 :: X))) Ao7_22_4 co7_22_5 (lim (((((rt_25 : Nat) : Int)) + (((1 : Int)))) * ((((rt_25 : Nat) : Int)) + (((1 : Int))))).natAbs)
       , fun fa w' => ∃ Ao7_14_4 : Option Addr, ∃ co7_14_5 : Nat, ∃ Ao7_22_4 : Option Addr, ∃ co7_22_5 : Nat, Frm 59 fa [(36, (.bool (true))), (38, (.bool (true))), (43, (.bool (true))), (46, (.agg (ic (Ao7_14_4) (co7_14_5) (((((rt_25 : Nat) : Int)) * (((rt_25 : Nat) : Int))))))), (48, (.int .i64 (cmpI ((((rt_25 : Nat) : Int)) * (((rt_25 : Nat) : Int))) a))), (51, (.bool (true))), (54, (.agg (ic (Ao7_22_4) (co7_22_5) ((((((rt_25 : Nat) : Int)) + (((1 : Int)))) * ((((rt_25 : Nat) : Int)) + (((1 : Int))))))))), (56, (.int .i64 (cmpI (((((rt_25 : Nat) : Int)) + (((1 : Int)))) * ((((rt_25 : Nat) : Int)) + (((1 : Int))))) a)))] ∧ St w w' [(go6_3_1, 24, (ic (Ao6_2_4) (co6_2_5) (((((rt_25 : Nat) : Int)) + (((1 : Int))))))), (g30, 24, (ic (A26) (c27) (((rt_25 : Nat) : Int)))), (g1, 24, (ic (A_a) (c_a) (a)))] ∧ Ext w40 (go6_3_1 :: (g30 :: (g1 :: X))) w' (go6_3_1 :: (g30 :: (g1 :: X))) ∧ UC w' (go6_3_1 :: (g30 :: (g1 :: X))) Ao7_14_4 co7_14_5 (lim ((((rt_25 : Nat) : Int)) * (((rt_25 : Nat) : Int))).natAbs) ∧ UC w' (go6_3_1 :: (g30 :: (g1 :: X))) Ao7_22_4 co7_22_5 (lim (((((rt_25 : Nat) : Int)) + (((1 : Int)))) * ((((rt_25 : Nat) : Int)) + (((1 : Int))))).natAbs)
     ] TfLQ.mixed rfl rfl rfl rfl rfl rfl (hF.take (hF.take (hF.take (hF.take (hF.take (hF.take (hF.take hF.nil rfl) rfl) rfl) rfl) rfl) rfl) rfl) rfl ⟨hF.nil, hS.drew, Ext.drew _ _⟩ ?_ ?_ ?_
 all_goals clear hF fa
 ·
  refine ⟨?_, ?_, ?_, ?_, ?_, ?_, ?_, ?_, ?_, trivial⟩
  ·
   rintro fa w' i o d v ho hd hna ⟨hA, hR⟩; exact ⟨hA.put_other v (freeOf_at (acts := [4, 6, 11, 14, 16, 19, 22, 24]) rfl ho hd hna), hR⟩
  ·
   rintro fa w' i o d v ho hd hna ⟨hA, hR⟩; exact ⟨hA.put_other v (freeOf_at (acts := [4, 6, 11, 14, 16, 19, 22, 24]) rfl ho hd hna), hR⟩
  ·
   rintro fa w' i o d v ho hd hna ⟨hA, hR⟩; exact ⟨hA.put_other v (freeOf_at (acts := [4, 6, 11, 14, 16, 19, 22, 24]) rfl ho hd hna), hR⟩
  ·
   rintro fa w' i o d v ho hd hna ⟨hA, hR⟩; exact ⟨hA.put_other v (freeOf_at (acts := [4, 6, 11, 14, 16, 19, 22, 24]) rfl ho hd hna), hR⟩
  ·
   rintro fa w' i o d v ho hd hna ⟨Ao7_14_4, co7_14_5, hA, hR⟩; exact ⟨Ao7_14_4, co7_14_5, hA.put_other v (freeOf_at (acts := [4, 6, 11, 14, 16, 19, 22, 24]) rfl ho hd hna), hR⟩
  ·
   rintro fa w' i o d v ho hd hna ⟨Ao7_14_4, co7_14_5, hA, hR⟩; exact ⟨Ao7_14_4, co7_14_5, hA.put_other v (freeOf_at (acts := [4, 6, 11, 14, 16, 19, 22, 24]) rfl ho hd hna), hR⟩
  ·
   rintro fa w' i o d v ho hd hna ⟨Ao7_14_4, co7_14_5, hA, hR⟩; exact ⟨Ao7_14_4, co7_14_5, hA.put_other v (freeOf_at (acts := [4, 6, 11, 14, 16, 19, 22, 24]) rfl ho hd hna), hR⟩
  ·
   rintro fa w' i o d v ho hd hna ⟨Ao7_14_4, co7_14_5, Ao7_22_4, co7_22_5, hA, hR⟩; exact ⟨Ao7_14_4, co7_14_5, Ao7_22_4, co7_22_5, hA.put_other v (freeOf_at (acts := [4, 6, 11, 14, 16, 19, 22, 24]) rfl ho hd hna), hR⟩
  ·
   rintro fa w' i o d v ho hd hna ⟨Ao7_14_4, co7_14_5, Ao7_22_4, co7_22_5, hA, hR⟩; exact ⟨Ao7_14_4, co7_14_5, Ao7_22_4, co7_22_5, hA.put_other v (freeOf_at (acts := [4, 6, 11, 14, 16, 19, 22, 24]) rfl ho hd hna), hR⟩
 ·
  refine ⟨?_, ?_, ?_, ?_, ?_, ?_, ?_, ?_, ?_, ?_, ?_, ?_, ?_, ?_, ?_, ?_, ?_, ?_, ?_, ?_, ?_, ?_, ?_, ?_, ?_, ?_, ?_, ?_, trivial⟩
  ·
   refine .inl ⟨rfl, _, _, rfl, rfl, fun s fa w' hΦ hF hB K hK => ?_⟩
   exact fl_val rfl rfl rfl (ex_move (hF.ev rfl)) hK
  ·
   refine .inl ⟨rfl, _, _, rfl, rfl, fun s fa w' hΦ hF hB K hK => ?_⟩
   replace hF := hF.cons (hB.val 0 _ 32 _ rfl rfl rfl rfl)
   exact fl_val rfl rfl rfl (ex_b (t := decide ((if a < 0 then 7 else 0) = 0)) (b := true) (by rw [decide_eq_true_eq, if_neg ha0]) (ex_eql (hF.ev rfl) (hF.ev rfl))) hK
  ·
   refine .inl ⟨rfl, _, _, rfl, rfl, fun s fa w' hΦ hF hB K hK => ?_⟩
   replace hF := hF.cons (hB.val 1 _ 33 _ rfl rfl rfl rfl)
   exact fl_val rfl rfl rfl (ex_move (hF.ev rfl)) hK
  ·
   refine .inr (.inl ⟨rfl, _, _, rfl, rfl, ?_, trivial⟩)
   ·
    intro fa w' hΦ hF hB K hK
    obtain ⟨hA, hS, E_w'⟩ := hΦ
    replace hF := hF.cons (hB.val 2 _ 34 _ rfl rfl rfl rfl)
    exact fl_valg hF rfl rfl rfl rfl (ex_loadb TfLQ.row24 (hF.ev rfl) (hS.get 1 rfl) rfl) hK
  ·
   refine .inr (.inr ⟨rfl, ?_, trivial⟩)
   ·
    intro fa w' hΦ hF hB
    obtain ⟨hA, hS, E_w'⟩ := hΦ
    replace hF := hF.cons (hB.val 3 _ 35 _ rfl rfl rfl rfl)
    replace hF := hF.cons (hB.val 2 _ 34 _ rfl rfl rfl rfl)
    refine wopg hF rfl rfl rfl ?_
    have hC := ref01_Valid_ok (w := w') (X := (go6_3_1 :: (g30 :: (g1 :: X)))) (ng := (decide (((rt_25 : Nat) : Int) < 0))) (l := (lim (((rt_25 : Nat) : Int)).natAbs)) (hS.bnd hX) ⟨_, rfl, _, _, rfl, (hu28.ext (((E32.trans E35).trans E_w40).trans E_w'))⟩
    rw [show (validL (decide (((rt_25 : Nat) : Int) < 0)) ((lim (((rt_25 : Nat) : Int)).natAbs))) = true from validL_lim _] at hC
    refine op_call hF rfl TfLQ.body18 (args1 (hF.ev rfl)) hC ?_
    clear hC
    rintro _ wo7_4_1 ⟨rfl, hbo7_4_2⟩
    clear hF; intro hF
    replace hS := hS.call hbo7_4_2; have Eo7_4_3 := Ext.call (go6_3_1 :: (g30 :: (g1 :: X))) hbo7_4_2
    have hA1 := ((hA.put_other _ rfl).cons (hF.get 36 _ rfl))
    exact ⟨1, rfl, ⟨(hA1.take hA1.nil rfl), hS, (E_w'.trans Eo7_4_3)⟩, _, rfl, fun u hu => by cases hu <;> rfl⟩
  ·
   refine .inl ⟨rfl, _, _, rfl, rfl, fun s fa w' hΦ hF hB K hK => ?_⟩
   replace hF := hF.cons (hB.val 2 _ 34 _ rfl rfl rfl rfl)
   replace hF := hF.cons (hB.val 4 _ 36 _ rfl rfl rfl rfl)
   exact fl_val rfl rfl rfl (ex_pick (hF.ev rfl) (fun _ => hF.ev rfl) (v := undef) (fun h => by cases h) rfl) hK
  ·
   refine .inr (.inr ⟨rfl, ?_, trivial⟩)
   ·
    intro fa w' hΦ hF hB
    obtain ⟨hA, hS, E_w'⟩ := hΦ
    replace hF := hF.cons (hB.val 5 _ 37 _ rfl rfl rfl rfl)
    refine wop rfl rfl ?_
    refine op_val hF rfl rfl (ex_move (hF.ev rfl)) ?_; clear hF; intro hF
    have hA1 := ((hA.put_other _ rfl).cons (hF.get 38 _ rfl))
    exact ⟨2, rfl, ⟨(hA1.take (hA1.take hA1.nil rfl) rfl), hS, E_w'⟩, _, rfl, fun u hu => by cases hu <;> rfl⟩
  ·
   refine .inl ⟨rfl, _, _, rfl, rfl, fun s fa w' hΦ hF hB K hK => ?_⟩
   replace hF := hF.cons (hB.val 6 _ 38 _ rfl rfl rfl rfl)
   exact fl_valg hF rfl rfl rfl rfl (ex_field_addr TfLQ.off24_0 (hF.ev rfl)) hK
  ·
   refine .inr (.inl ⟨rfl, _, _, rfl, rfl, ?_, ?_, ?_, ?_, ?_, ?_, ?_, trivial⟩)
   ·
    intro fa w' hΦ hF hB K hK
    obtain ⟨hA, hS, E_w'⟩ := hΦ
    replace hF := hF.cons (hB.val 7 _ 39 _ rfl rfl rfl rfl)
    replace hF := hF.cons (hB.val 6 _ 38 _ rfl rfl rfl rfl)
    exact fl_valg hF rfl rfl rfl rfl (ex_load1b TfLQ.one4 (hF.ev rfl) (hS.get 1 rfl) rfl) hK
   ·
    intro fa w' hΦ hF hB K hK
    obtain ⟨hA, hS, E_w'⟩ := hΦ
    replace hF := hF.cons (hB.val 7 _ 39 _ rfl rfl rfl rfl)
    replace hF := hF.cons (hB.val 6 _ 38 _ rfl rfl rfl rfl)
    exact fl_valg hF rfl rfl rfl rfl (ex_load1b TfLQ.one4 (hF.ev rfl) (hS.get 1 rfl) rfl) hK
   ·
    intro fa w' hΦ hF hB K hK
    obtain ⟨Ao7_14_4, co7_14_5, hA, hS, E_w', huo7_14_6⟩ := hΦ
    replace hF := hF.cons (hB.val 7 _ 39 _ rfl rfl rfl rfl)
    replace hF := hF.cons (hB.val 6 _ 38 _ rfl rfl rfl rfl)
    exact fl_valg hF rfl rfl rfl rfl (ex_load1b TfLQ.one4 (hF.ev rfl) (hS.get 1 rfl) rfl) hK
   ·
    intro fa w' hΦ hF hB K hK
    obtain ⟨Ao7_14_4, co7_14_5, hA, hS, E_w', huo7_14_6⟩ := hΦ
    replace hF := hF.cons (hB.val 7 _ 39 _ rfl rfl rfl rfl)
    replace hF := hF.cons (hB.val 6 _ 38 _ rfl rfl rfl rfl)
    exact fl_valg hF rfl rfl rfl rfl (ex_load1b TfLQ.one4 (hF.ev rfl) (hS.get 1 rfl) rfl) hK
   ·
    intro fa w' hΦ hF hB K hK
    obtain ⟨Ao7_14_4, co7_14_5, hA, hS, E_w', huo7_14_6⟩ := hΦ
    replace hF := hF.cons (hB.val 7 _ 39 _ rfl rfl rfl rfl)
    replace hF := hF.cons (hB.val 6 _ 38 _ rfl rfl rfl rfl)
    exact fl_valg hF rfl rfl rfl rfl (ex_load1b TfLQ.one4 (hF.ev rfl) (hS.get 1 rfl) rfl) hK
   ·
    intro fa w' hΦ hF hB K hK
    obtain ⟨Ao7_14_4, co7_14_5, Ao7_22_4, co7_22_5, hA, hS, E_w', huo7_14_6, huo7_22_6⟩ := hΦ
    replace hF := hF.cons (hB.val 7 _ 39 _ rfl rfl rfl rfl)
    replace hF := hF.cons (hB.val 6 _ 38 _ rfl rfl rfl rfl)
    exact fl_valg hF rfl rfl rfl rfl (ex_load1b TfLQ.one4 (hF.ev rfl) (hS.get 1 rfl) rfl) hK
   ·
    intro fa w' hΦ hF hB K hK
    obtain ⟨Ao7_14_4, co7_14_5, Ao7_22_4, co7_22_5, hA, hS, E_w', huo7_14_6, huo7_22_6⟩ := hΦ
    replace hF := hF.cons (hB.val 7 _ 39 _ rfl rfl rfl rfl)
    replace hF := hF.cons (hB.val 6 _ 38 _ rfl rfl rfl rfl)
    exact fl_valg hF rfl rfl rfl rfl (ex_load1b TfLQ.one4 (hF.ev rfl) (hS.get 1 rfl) rfl) hK
  ·
   refine .inl ⟨rfl, _, _, rfl, rfl, fun s fa w' hΦ hF hB K hK => ?_⟩
   replace hF := hF.cons (hB.val 8 _ 40 _ rfl rfl rfl rfl)
   replace hF := hF.cons (hB.val 6 _ 38 _ rfl rfl rfl rfl)
   exact fl_valg hF rfl rfl rfl rfl (ex_b (t := !(decide (((rt_25 : Nat) : Int) < 0))) (b := true) (by simp) (ex_not (hF.ev rfl))) hK
  ·
   refine .inl ⟨rfl, _, _, rfl, rfl, fun s fa w' hΦ hF hB K hK => ?_⟩
   replace hF := hF.cons (hB.val 6 _ 38 _ rfl rfl rfl rfl)
   replace hF := hF.cons (hB.val 9 _ 41 _ rfl rfl rfl rfl)
   exact fl_val rfl rfl rfl (ex_pick (hF.ev rfl) (fun _ => hF.ev rfl) (v := undef) (fun h => by cases h) rfl) hK
  ·
   refine .inr (.inr ⟨rfl, ?_, trivial⟩)
   ·
    intro fa w' hΦ hF hB
    obtain ⟨hA, hS, E_w'⟩ := hΦ
    replace hF := hF.cons (hB.val 10 _ 42 _ rfl rfl rfl rfl)
    refine wop rfl rfl ?_
    refine op_val hF rfl rfl (ex_move (hF.ev rfl)) ?_; clear hF; intro hF
    have hA1 := ((hA.put_other _ rfl).cons (hF.get 43 _ rfl))
    exact ⟨3, rfl, ⟨(hA1.take (hA1.take (hA1.take hA1.nil rfl) rfl) rfl), hS, E_w'⟩, _, rfl, fun u hu => by cases hu <;> rfl⟩
  ·
   refine .inr (.inl ⟨rfl, _, _, rfl, rfl, ?_, trivial⟩)
   ·
    intro fa w' hΦ hF hB K hK
    obtain ⟨hA, hS, E_w'⟩ := hΦ
    replace hF := hF.cons (hB.val 11 _ 43 _ rfl rfl rfl rfl)
    exact fl_valg hF rfl rfl rfl rfl (ex_loadb TfLQ.row24 (hF.ev rfl) (hS.get 1 rfl) rfl) hK
  ·
   refine .inr (.inl ⟨rfl, _, _, rfl, rfl, ?_, trivial⟩)
   ·
    intro fa w' hΦ hF hB K hK
    obtain ⟨hA, hS, E_w'⟩ := hΦ
    replace hF := hF.cons (hB.val 11 _ 43 _ rfl rfl rfl rfl)
    exact fl_valg hF rfl rfl rfl rfl (ex_loadb TfLQ.row24 (hF.ev rfl) (hS.get 1 rfl) rfl) hK
  ·
   refine .inr (.inr ⟨rfl, ?_, trivial⟩)
   ·
    intro fa w' hΦ hF hB
    obtain ⟨hA, hS, E_w'⟩ := hΦ
    replace hF := hF.cons (hB.val 12 _ 44 _ rfl rfl rfl rfl)
    replace hF := hF.cons (hB.val 13 _ 45 _ rfl rfl rfl rfl)
    replace hF := hF.cons (hB.val 11 _ 43 _ rfl rfl rfl rfl)
    refine wopg hF rfl rfl rfl ?_
    have hC := ref01_Mul_ok (w := w') (X := (go6_3_1 :: (g30 :: (g1 :: X)))) (a := ((rt_25 : Nat) : Int)) (b := ((rt_25 : Nat) : Int)) (hS.bnd hX) (IntV.of_ (n := (lim (((rt_25 : Nat) : Int)).natAbs).length) (b := decide (((rt_25 : Nat) : Int) < 0)) (x := ((rt_25 : Nat) : Int)) ((hu28.ext (((E32.trans E35).trans E_w40).trans E_w'))) (rfl) (rfl) (rfl)) (IntV.of_ (n := (lim (((rt_25 : Nat) : Int)).natAbs).length) (b := decide (((rt_25 : Nat) : Int) < 0)) (x := ((rt_25 : Nat) : Int)) ((hu28.ext (((E32.trans E35).trans E_w40).trans E_w'))) (rfl) (rfl) (rfl)) (by have h1 := sz_64 (n := 1) (by omega) (by omega); have h2 := sz_add ((rt_25 : Nat) : Int) 1; omega) (by have h1 := sz_64 (n := 1) (by omega) (by omega); have h2 := sz_add ((rt_25 : Nat) : Int) 1; omega)
    refine op_call hF rfl TfLQ.body21 (args2 (hF.ev rfl) (hF.ev rfl)) hC ?_
    clear hC
    rintro _ wo7_14_1 ⟨⟨_, rfl, Ao7_14_4, co7_14_5, rfl, huo7_14_6⟩, hbo7_14_2⟩
    clear hF; intro hF
    replace hS := hS.call hbo7_14_2; have Eo7_14_3 := Ext.call (go6_3_1 :: (g30 :: (g1 :: X))) hbo7_14_2
    have hA1 := ((hA.put_other _ rfl).cons (hF.get 46 _ rfl))
    exact ⟨4, rfl, ⟨Ao7_14_4, co7_14_5, (hA1.take (hA1.take (hA1.take (hA1.take hA1.nil rfl) rfl) rfl) rfl), hS, (E_w'.trans Eo7_14_3), huo7_14_6⟩, _, rfl, fun u hu => by cases hu <;> rfl⟩
  ·
   refine .inr (.inl ⟨rfl, _, _, rfl, rfl, ?_, ?_, trivial⟩)
   ·
    intro fa w' hΦ hF hB K hK
    obtain ⟨hA, hS, E_w'⟩ := hΦ
    replace hF := hF.cons (hB.val 11 _ 43 _ rfl rfl rfl rfl)
    exact fl_valg hF rfl rfl rfl rfl (ex_loadb TfLQ.row24 (hF.ev rfl) (hS.get 2 rfl) rfl) hK
   ·
    intro fa w' hΦ hF hB K hK
    obtain ⟨Ao7_14_4, co7_14_5, hA, hS, E_w', huo7_14_6⟩ := hΦ
    replace hF := hF.cons (hB.val 11 _ 43 _ rfl rfl rfl rfl)
    exact fl_valg hF rfl rfl rfl rfl (ex_loadb TfLQ.row24 (hF.ev rfl) (hS.get 2 rfl) rfl) hK
  ·
   refine .inr (.inr ⟨rfl, ?_, trivial⟩)
   ·
    intro fa w' hΦ hF hB
    obtain ⟨Ao7_14_4, co7_14_5, hA, hS, E_w', huo7_14_6⟩ := hΦ
    replace hF := hF.cons (hA.get 46 _ rfl)
    replace hF := hF.cons (hB.val 15 _ 47 _ rfl rfl rfl rfl)
    replace hF := hF.cons (hB.val 11 _ 43 _ rfl rfl rfl rfl)
    refine wopg hF rfl rfl rfl ?_
    have hC := ref01_Cmp_ok (w := w') (X := (go6_3_1 :: (g30 :: (g1 :: X)))) (a := ((((rt_25 : Nat) : Int)) * (((rt_25 : Nat) : Int)))) (b := a) (hS.bnd hX) (IntV.of_ (n := (lim ((((rt_25 : Nat) : Int)) * (((rt_25 : Nat) : Int))).natAbs).length) (b := decide (((((rt_25 : Nat) : Int)) * (((rt_25 : Nat) : Int))) < 0)) (x := (((rt_25 : Nat) : Int)) * (((rt_25 : Nat) : Int))) (huo7_14_6) (rfl) (rfl) (rfl)) (IntV.of_ (n := (lim a.natAbs).length) (b := decide (a < 0)) (x := a) ((hu_a.ext (((((((((E3.trans E7).trans E10).trans E15).trans E18).trans E24).trans E32).trans E35).trans E_w40).trans E_w'))) (rfl) (rfl) (rfl))
    refine op_call hF rfl TfLQ.body17 (args2 (hF.ev rfl) (hF.ev rfl)) hC ?_
    clear hC
    rintro _ wo7_16_1 ⟨rfl, hbo7_16_2⟩
    clear hF; intro hF
    replace hS := hS.call hbo7_16_2; have Eo7_16_3 := Ext.call (go6_3_1 :: (g30 :: (g1 :: X))) hbo7_16_2
    have hA1 := ((hA.put_other _ rfl).cons (hF.get 48 _ rfl))
    exact ⟨5, rfl, ⟨Ao7_14_4, co7_14_5, (hA1.take (hA1.take (hA1.take (hA1.take (hA1.take hA1.nil rfl) rfl) rfl) rfl) rfl), hS, (E_w'.trans Eo7_16_3), (huo7_14_6.ext Eo7_16_3)⟩, _, rfl, fun u hu => by cases hu <;> rfl⟩
  ·
   refine .inl ⟨rfl, _, _, rfl, rfl, fun s fa w' hΦ hF hB K hK => ?_⟩
   replace hF := hF.cons (hB.val 16 _ 48 _ rfl rfl rfl rfl)
   replace hF := hF.cons (hB.val 11 _ 43 _ rfl rfl rfl rfl)
   exact fl_valg hF rfl rfl rfl rfl (ex_b (t := decide ((cmpI ((((rt_25 : Nat) : Int)) * (((rt_25 : Nat) : Int))) a) ≤ 0)) (b := true) (by rw [decide_eq_true_eq]; exact hq1) (ex_leq (hF.ev rfl) (hF.ev rfl))) hK
  ·
   refine .inl ⟨rfl, _, _, rfl, rfl, fun s fa w' hΦ hF hB K hK => ?_⟩
   replace hF := hF.cons (hB.val 11 _ 43 _ rfl rfl rfl rfl)
   replace hF := hF.cons (hB.val 17 _ 49 _ rfl rfl rfl rfl)
   exact fl_val rfl rfl rfl (ex_pick (hF.ev rfl) (fun _ => hF.ev rfl) (v := undef) (fun h => by cases h) rfl) hK
  ·
   refine .inr (.inr ⟨rfl, ?_, trivial⟩)
   ·
    intro fa w' hΦ hF hB
    obtain ⟨Ao7_14_4, co7_14_5, hA, hS, E_w', huo7_14_6⟩ := hΦ
    replace hF := hF.cons (hB.val 18 _ 50 _ rfl rfl rfl rfl)
    refine wop rfl rfl ?_
    refine op_val hF rfl rfl (ex_move (hF.ev rfl)) ?_; clear hF; intro hF
    have hA1 := ((hA.put_other _ rfl).cons (hF.get 51 _ rfl))
    exact ⟨6, rfl, ⟨Ao7_14_4, co7_14_5, (hA1.take (hA1.take (hA1.take (hA1.take (hA1.take (hA1.take hA1.nil rfl) rfl) rfl) rfl) rfl) rfl), hS, E_w', huo7_14_6⟩, _, rfl, fun u hu => by cases hu <;> rfl⟩
  ·
   refine .inr (.inl ⟨rfl, _, _, rfl, rfl, ?_, trivial⟩)
   ·
    intro fa w' hΦ hF hB K hK
    obtain ⟨Ao7_14_4, co7_14_5, hA, hS, E_w', huo7_14_6⟩ := hΦ
    replace hF := hF.cons (hB.val 19 _ 51 _ rfl rfl rfl rfl)
    exact fl_valg hF rfl rfl rfl rfl (ex_loadb TfLQ.row24 (hF.ev rfl) (hS.get 0 rfl) rfl) hK
  ·
   refine .inr (.inl ⟨rfl, _, _, rfl, rfl, ?_, trivial⟩)
   ·
    intro fa w' hΦ hF hB K hK
    obtain ⟨Ao7_14_4, co7_14_5, hA, hS, E_w', huo7_14_6⟩ := hΦ
    replace hF := hF.cons (hB.val 19 _ 51 _ rfl rfl rfl rfl)
    exact fl_valg hF rfl rfl rfl rfl (ex_loadb TfLQ.row24 (hF.ev rfl) (hS.get 0 rfl) rfl) hK
  ·
   refine .inr (.inr ⟨rfl, ?_, trivial⟩)
   ·
    intro fa w' hΦ hF hB
    obtain ⟨Ao7_14_4, co7_14_5, hA, hS, E_w', huo7_14_6⟩ := hΦ
    replace hF := hF.cons (hB.val 20 _ 52 _ rfl rfl rfl rfl)
    replace hF := hF.cons (hB.val 21 _ 53 _ rfl rfl rfl rfl)
    replace hF := hF.cons (hB.val 19 _ 51 _ rfl rfl rfl rfl)
    refine wopg hF rfl rfl rfl ?_
    have hC := ref01_Mul_ok (w := w') (X := (go6_3_1 :: (g30 :: (g1 :: X)))) (a := ((((rt_25 : Nat) : Int)) + (((1 : Int))))) (b := ((((rt_25 : Nat) : Int)) + (((1 : Int))))) (hS.bnd hX) (IntV.of_ (n := (lim ((((rt_25 : Nat) : Int)) + (((1 : Int)))).natAbs).length) (b := decide (((((rt_25 : Nat) : Int)) + (((1 : Int)))) < 0)) (x := (((rt_25 : Nat) : Int)) + (((1 : Int)))) ((huo6_2_6.ext E_w')) (rfl) (rfl) (rfl)) (IntV.of_ (n := (lim ((((rt_25 : Nat) : Int)) + (((1 : Int)))).natAbs).length) (b := decide (((((rt_25 : Nat) : Int)) + (((1 : Int)))) < 0)) (x := (((rt_25 : Nat) : Int)) + (((1 : Int)))) ((huo6_2_6.ext E_w')) (rfl) (rfl) (rfl)) (by have h1 := sz_64 (n := 1) (by omega) (by omega); have h2 := sz_add ((rt_25 : Nat) : Int) 1; omega) (by have h1 := sz_64 (n := 1) (by omega) (by omega); have h2 := sz_add ((rt_25 : Nat) : Int) 1; omega)
    refine op_call hF rfl TfLQ.body21 (args2 (hF.ev rfl) (hF.ev rfl)) hC ?_
    clear hC
    rintro _ wo7_22_1 ⟨⟨_, rfl, Ao7_22_4, co7_22_5, rfl, huo7_22_6⟩, hbo7_22_2⟩
    clear hF; intro hF
    replace hS := hS.call hbo7_22_2; have Eo7_22_3 := Ext.call (go6_3_1 :: (g30 :: (g1 :: X))) hbo7_22_2
    have hA1 := ((hA.put_other _ rfl).cons (hF.get 54 _ rfl))
    exact ⟨7, rfl, ⟨Ao7_14_4, co7_14_5, Ao7_22_4, co7_22_5, (hA1.take (hA1.take (hA1.take (hA1.take (hA1.take (hA1.take (hA1.take hA1.nil rfl) rfl) rfl) rfl) rfl) rfl) rfl), hS, (E_w'.trans Eo7_22_3), (huo7_14_6.ext Eo7_22_3), huo7_22_6⟩, _, rfl, fun u hu => by cases hu <;> rfl⟩
  ·
   refine .inr (.inl ⟨rfl, _, _, rfl, rfl, ?_, ?_, trivial⟩)
   ·
    intro fa w' hΦ hF hB K hK
    obtain ⟨Ao7_14_4, co7_14_5, hA, hS, E_w', huo7_14_6⟩ := hΦ
    replace hF := hF.cons (hB.val 19 _ 51 _ rfl rfl rfl rfl)
    exact fl_valg hF rfl rfl rfl rfl (ex_loadb TfLQ.row24 (hF.ev rfl) (hS.get 2 rfl) rfl) hK
   ·
    intro fa w' hΦ hF hB K hK
    obtain ⟨Ao7_14_4, co7_14_5, Ao7_22_4, co7_22_5, hA, hS, E_w', huo7_14_6, huo7_22_6⟩ := hΦ
    replace hF := hF.cons (hB.val 19 _ 51 _ rfl rfl rfl rfl)
    exact fl_valg hF rfl rfl rfl rfl (ex_loadb TfLQ.row24 (hF.ev rfl) (hS.get 2 rfl) rfl) hK
  ·
   refine .inr (.inr ⟨rfl, ?_, trivial⟩)
   ·
    intro fa w' hΦ hF hB
    obtain ⟨Ao7_14_4, co7_14_5, Ao7_22_4, co7_22_5, hA, hS, E_w', huo7_14_6, huo7_22_6⟩ := hΦ
    replace hF := hF.cons (hA.get 54 _ rfl)
    replace hF := hF.cons (hB.val 23 _ 55 _ rfl rfl rfl rfl)
    replace hF := hF.cons (hB.val 19 _ 51 _ rfl rfl rfl rfl)
    refine wopg hF rfl rfl rfl ?_
    have hC := ref01_Cmp_ok (w := w') (X := (go6_3_1 :: (g30 :: (g1 :: X)))) (a := (((((rt_25 : Nat) : Int)) + (((1 : Int)))) * ((((rt_25 : Nat) : Int)) + (((1 : Int)))))) (b := a) (hS.bnd hX) (IntV.of_ (n := (lim (((((rt_25 : Nat) : Int)) + (((1 : Int)))) * ((((rt_25 : Nat) : Int)) + (((1 : Int))))).natAbs).length) (b := decide ((((((rt_25 : Nat) : Int)) + (((1 : Int)))) * ((((rt_25 : Nat) : Int)) + (((1 : Int))))) < 0)) (x := ((((rt_25 : Nat) : Int)) + (((1 : Int)))) * ((((rt_25 : Nat) : Int)) + (((1 : Int))))) (huo7_22_6) (rfl) (rfl) (rfl)) (IntV.of_ (n := (lim a.natAbs).length) (b := decide (a < 0)) (x := a) ((hu_a.ext (((((((((E3.trans E7).trans E10).trans E15).trans E18).trans E24).trans E32).trans E35).trans E_w40).trans E_w'))) (rfl) (rfl) (rfl))
    refine op_call hF rfl TfLQ.body17 (args2 (hF.ev rfl) (hF.ev rfl)) hC ?_
    clear hC
    rintro _ wo7_24_1 ⟨rfl, hbo7_24_2⟩
    clear hF; intro hF
    replace hS := hS.call hbo7_24_2; have Eo7_24_3 := Ext.call (go6_3_1 :: (g30 :: (g1 :: X))) hbo7_24_2
    have hA1 := ((hA.put_other _ rfl).cons (hF.get 56 _ rfl))
    exact ⟨8, rfl, ⟨Ao7_14_4, co7_14_5, Ao7_22_4, co7_22_5, (hA1.take (hA1.take (hA1.take (hA1.take (hA1.take (hA1.take (hA1.take (hA1.take hA1.nil rfl) rfl) rfl) rfl) rfl) rfl) rfl) rfl), hS, (E_w'.trans Eo7_24_3), (huo7_14_6.ext Eo7_24_3), (huo7_22_6.ext Eo7_24_3)⟩, _, rfl, fun u hu => by cases hu <;> rfl⟩
  ·
   refine .inl ⟨rfl, _, _, rfl, rfl, fun s fa w' hΦ hF hB K hK => ?_⟩
   replace hF := hF.cons (hB.val 24 _ 56 _ rfl rfl rfl rfl)
   replace hF := hF.cons (hB.val 19 _ 51 _ rfl rfl rfl rfl)
   exact fl_valg hF rfl rfl rfl rfl (ex_b (t := decide ((cmpI (((((rt_25 : Nat) : Int)) + (((1 : Int)))) * ((((rt_25 : Nat) : Int)) + (((1 : Int))))) a) > 0)) (b := true) (by rw [decide_eq_true_eq]; exact hq2) (ex_gtr (hF.ev rfl) (hF.ev rfl))) hK
  ·
   refine .inl ⟨rfl, _, _, rfl, rfl, fun s fa w' hΦ hF hB K hK => ?_⟩
   replace hF := hF.cons (hB.val 19 _ 51 _ rfl rfl rfl rfl)
   replace hF := hF.cons (hB.val 25 _ 57 _ rfl rfl rfl rfl)
   exact fl_val rfl rfl rfl (ex_pick (hF.ev rfl) (fun _ => hF.ev rfl) (v := undef) (fun h => by cases h) rfl) hK
  ·
   refine .inl ⟨rfl, _, _, rfl, rfl, fun s fa w' hΦ hF hB K hK => ?_⟩
   replace hF := hF.cons (hB.val 26 _ 58 _ rfl rfl rfl rfl)
   exact fl_val rfl rfl rfl (ex_assign (hF.ev rfl)) hK
 intro fa w41 hΦ hF hC
 obtain ⟨Ao7_14_4, co7_14_5, Ao7_22_4, co7_22_5, hA, hS, E_w41, huo7_14_6, huo7_22_6⟩ := hΦ
 replace hF := hF.cons (hC 27 _ 2 _ rfl rfl rfl)
 clear hA hC
 refine x_tn ?_
 refine c_ret ?_
 refine end1 hF rfl (res_tmp hF rfl) ?_
 exact ⟨_, rfl, (congrArg Value.bool (by simp_all)), hS.below⟩

end Go.Proofs.Ytlaojdpcfenlkaa
