/-
  What the functions IntegerInt64#bad, IntegerInt64 do, each call by call.
  Conditions: none.
-/
import Derived.Test.YtlaojdpcfenlkaaChecked
import Derived.Test.YtlaojdpcfenlkaaSwBaseK
import Derived.Test.YtlaojdpcfenlkaaWH
import Derived.Test.YtlaojdpcfenlkaaWO
import Derived.Test.YtlaojdpcfenlkaaWO2
import Derived.Test.YtlaojdpcfenlkaaWP
import Derived.Test.YtlaojdpcfenlkaaWT
import Derived.Test.YtlaojdpcfenlkaaWY
namespace Go.Proofs.Ytlaojdpcfenlkaa
open Go Go.RowKit Go.Sw
set_option linter.unusedVariables false
namespace TfLI
theorem body11 : hasBody Try.prog 11 = true := by kernel_rfl
theorem body12 : hasBody Try.prog 12 = true := by kernel_rfl
theorem body14 : hasBody Try.prog 14 = true := by kernel_rfl
theorem body19 : hasBody Try.prog 19 = true := by kernel_rfl
theorem body26 : hasBody Try.prog 26 = true := by kernel_rfl
theorem body36 : hasBody Try.prog 36 = true := by kernel_rfl
theorem body37 : hasBody Try.prog 37 = true := by kernel_rfl
theorem body38 : hasBody Try.prog 38 = true := by kernel_rfl
theorem el24 : Sw.elemOf Try.prog 24 = some (#[.bool false, .slice none 0 0], 2, 32) := by kernel_rfl
theorem row24 : isRow Try.prog 24 2 = true := by kernel_rfl
theorem sl47 : sliceOf Try.prog 47 = some (24, 2) := by kernel_rfl
theorem und4 : Try.prog.underlying 4 = some TypeDesc.bool := by kernel_rfl
end TfLI
set_option maxHeartbeats 4000000 in
theorem swarflaw01_IntegerInt64_bad_ok {w : World} {X : List Nat} (hX : ∀ m ∈ X, m < w.heap.size) (n : Int) {v_na : Value} {na : Bool} {la : List Nat} (h_na : RawV w X v_na (na) (la)) (hn1 : -9223372036854775808 ≤ n) (hn2 : n ≤ 9223372036854775807) (hbad : ([(na, la)].all fun p => decide ((p.2.length : Int) ≤ 16) && validL p.1 p.2) = false) :
    Calls Try.prog 10 #[(.int .i64 n), v_na] w (Ret fun r w' => (r = .bool (true)) ∧ Below w.heap.size w w') := by
 refine enter (N := 60) (fn := Try.f10) (vs := [(.int .i64 n), v_na]) Try.func10 rfl rfl rfl ?_
 intro fa hF
 obtain ⟨_, rfl, A_la, c_la, rfl, hu_la⟩ := h_na
 have hl_la := hu_la.len; have hc_la := hu_la.cap
 replace hF : Frm 60 fa [(0, (.int .i64 (n))), (1, (.agg #[(.bool (na)), (.slice (A_la) (la.length) (c_la))]))] := hF
 have hS := St.refl w
 refine c_seq ?_
 refine c_reg ?_
 refine st rfl (op_box (X := X) hF hS rfl rfl rfl ?_)
 intro g1 w2 hg4 hS E3; refine gen_ ?_; clear hF fa; intro fa hF
 replace hS : St w w2 [(g1, 24, #[(.bool (na)), (.slice (A_la) (la.length) (c_la))])] := hS
 refine st_val hF rfl rfl rfl (ex_assign (hF.ev rfl)) ?_
 clear hF fa; intro fa hF
 refine c_nil_then ?_
 refine c_seq ?_
 refine c_seq ?_
 refine c_reg ?_
 have hC := law01_awake_ok (w := w2) (X := (g1 :: X)) (hS.bnd hX) 
 refine st rfl (op_call hF rfl TfLI.body11 (args0) hC ?_)
 clear hC
 rintro _ w5 ⟨rfl, hb6⟩
 refine gen_ ?_; clear hF fa; intro fa hF
 replace hS := hS.call hb6; have E7 := Ext.call (g1 :: X) hb6
 refine st_val hF rfl rfl rfl (ex_not (hF.ev rfl)) ?_
 clear hF fa; intro fa hF
 refine st_val hF rfl rfl rfl (ex_move (hF.ev rfl)) ?_
 clear hF fa; intro fa hF
 refine stg_val hF rfl rfl rfl rfl (ex_loadb TfLI.row24 (hF.ev rfl) (hS.get 0 rfl) rfl) ?_
 clear hF fa; intro fa hF
 refine stg hF rfl rfl (op_lit (X := (g1 :: X)) hF hS (hS.bnd hX) rfl TfLI.sl47 TfLI.el24 rfl rfl (lits1 (hF.ev rfl)) fill_r1 ?_)
 intro g8 w9 hg11 hS E10 hc12; refine gen_ ?_; clear hF fa; intro fa hF
 have hC := law01_small_ok (w := w9) (X := (g1 :: X)) (zs := ([(na, la)])) (hS.bnd hX) (RL.raw1 hc12 ⟨_, rfl, _, _, rfl, (hu_la.ext ((E3.trans E7).trans E10))⟩)
 rw [show ((([(na, la)]).all fun p => decide ((p.2.length : Int) ≤ 16) && validL p.1 p.2)) = false from hbad] at hC
 refine stg hF rfl rfl (op_call hF rfl TfLI.body12 (args1 (hF.ev rfl)) hC ?_)
 clear hC
 rintro _ w13 ⟨rfl, hb14⟩
 refine gen_ ?_; clear hF fa; intro fa hF
 replace hS := hS.call hb14; have E15 := Ext.call (g1 :: X) hb14
 refine stg_val hF rfl rfl rfl rfl (ex_not (hF.ev rfl)) ?_
 clear hF fa; intro fa hF
 refine st_val hF rfl rfl rfl (ex_pick (hF.ev rfl) (u := undef) (fun h => by cases h) (fun _ => hF.ev rfl) rfl) ?_
 clear hF fa; intro fa hF
 refine c_nil_then ?_
 refine c_cond hF rfl (fun hc => ?_) (fun hc => ?_)
 rotate_left
 ·
  cases hc
 refine c_seq ?_
 refine c_reg ?_
 have hC := law01_awake_ok (w := w13) (X := (g1 :: X)) (hS.bnd hX) 
 refine st rfl (op_call hF rfl TfLI.body11 (args0) hC ?_)
 clear hC
 rintro _ w16 ⟨rfl, hb17⟩
 refine gen_ ?_; clear hF fa; intro fa hF
 replace hS := hS.call hb17; have E18 := Ext.call (g1 :: X) hb17
 refine st_val hF rfl rfl rfl (ex_assign (hF.ev rfl)) ?_
 clear hF fa; intro fa hF
 refine c_nil_then ?_
 refine c_ret ?_
 refine x_tr ?_
 refine end1 hF rfl (res_tmp hF rfl) ?_
 exact ⟨_, rfl, (congrArg Value.bool (by simp_all)), hS.below⟩

set_option maxHeartbeats 4000000 in
theorem law01_IntegerInt64_ok {w : World} {X : List Nat} (hX : ∀ m ∈ X, m < w.heap.size) (n : Int) {v_a : Value} {a : Int} (h_a : IntV w X v_a (a)) (hn1 : -9223372036854775808 ≤ n) (hn2 : n ≤ 9223372036854775807) (hs_a : sz a ≤ 16) :
    Calls Try.prog 10 #[(.int .i64 n), v_a] w (Ret fun r w' => (r = .bool (true)) ∧ Below w.heap.size w w') := by
 refine enter (N := 60) (fn := Try.f10) (vs := [(.int .i64 n), v_a]) Try.func10 rfl rfl rfl ?_
 intro fa hF
 obtain ⟨_, rfl, A_a, c_a, rfl, hu_a⟩ := h_a
 have hl_a := hu_a.len; have hc_a := hu_a.cap
 replace hF : Frm 60 fa [(0, (.int .i64 (n))), (1, (.agg (ic (A_a) (c_a) (a))))] := hF
 have hS := St.refl w
 have hs_a0 := hs_a; unfold sz at hs_a0
 refine c_seq ?_
 refine c_reg ?_
 refine st rfl (op_box (X := X) hF hS rfl rfl rfl ?_)
 intro g1 w2 hg4 hS E3; refine gen_ ?_; clear hF fa; intro fa hF
 replace hS : St w w2 [(g1, 24, (ic (A_a) (c_a) (a)))] := hS
 refine st_val hF rfl rfl rfl (ex_assign (hF.ev rfl)) ?_
 clear hF fa; intro fa hF
 refine c_nil_then ?_
 refine c_seq ?_
 refine c_seq ?_
 refine c_reg ?_
 have hC := law01_awake_ok (w := w2) (X := (g1 :: X)) (hS.bnd hX) 
 refine st rfl (op_call hF rfl TfLI.body11 (args0) hC ?_)
 clear hC
 rintro _ w5 ⟨rfl, hb6⟩
 refine gen_ ?_; clear hF fa; intro fa hF
 replace hS := hS.call hb6; have E7 := Ext.call (g1 :: X) hb6
 refine st_val hF rfl rfl rfl (ex_not (hF.ev rfl)) ?_
 clear hF fa; intro fa hF
 refine st_val hF rfl rfl rfl (ex_move (hF.ev rfl)) ?_
 clear hF fa; intro fa hF
 refine stg_val hF rfl rfl rfl rfl (ex_loadb TfLI.row24 (hF.ev rfl) (hS.get 0 rfl) rfl) ?_
 clear hF fa; intro fa hF
 refine stg hF rfl rfl (op_lit (X := (g1 :: X)) hF hS (hS.bnd hX) rfl TfLI.sl47 TfLI.el24 rfl rfl (lits1 (hF.ev rfl)) fill_r1 ?_)
 intro g8 w9 hg11 hS E10 hc12; refine gen_ ?_; clear hF fa; intro fa hF
 have hC := law01_small_ok (w := w9) (X := (g1 :: X)) (zs := ([(decide (a < 0), (lim a.natAbs))])) (hS.bnd hX) (RL.raw1 hc12 ⟨_, rfl, _, _, rfl, (hu_a.ext ((E3.trans E7).trans E10))⟩)
 rw [show ((([(decide (a < 0), (lim a.natAbs))]).all fun p => decide ((p.2.length : Int) ≤ 16) && validL p.1 p.2)) = true from small1 hs_a] at hC
 refine stg hF rfl rfl (op_call hF rfl TfLI.body12 (args1 (hF.ev rfl)) hC ?_)
 clear hC
 rintro _ w13 ⟨rfl, hb14⟩
 refine gen_ ?_; clear hF fa; intro fa hF
 replace hS := hS.call hb14; have E15 := Ext.call (g1 :: X) hb14
 refine stg_val hF rfl rfl rfl rfl (ex_not (hF.ev rfl)) ?_
 clear hF fa; intro fa hF
 refine st_val hF rfl rfl rfl (ex_pick (hF.ev rfl) (u := undef) (fun h => by cases h) (fun _ => hF.ev rfl) rfl) ?_
 clear hF fa; intro fa hF
 refine c_nil_then ?_
 refine c_cond hF rfl (fun hc => ?_) (fun hc => ?_)
 ·
  cases hc
 refine c_skip ?_
 refine x_tn ?_
 refine c_seq ?_
 refine c_reg ?_
 refine st_val hF rfl rfl rfl (ex_move (hF.ev rfl)) ?_
 clear hF fa; intro fa hF
 have hC := integer_FromInt64_ok (w := w13) (X := (g1 :: X)) (hS.bnd hX) n (by omega) (by omega)
 refine st rfl (op_call hF rfl TfLI.body37 (args1 (hF.ev rfl)) hC ?_)
 clear hC
 rintro _ w16 ⟨⟨_, rfl, A19, c20, rfl, hu21⟩, hb17⟩
 refine gen_ ?_; clear hF fa; intro fa hF
 replace hS := hS.call hb17; have E18 := Ext.call (g1 :: X) hb17
 have hC := integer_Int64_ok (w := w16) (X := (g1 :: X)) (a := n) (hS.bnd hX) (IntV.of_ (n := (lim (n).natAbs).length) (b := decide (n < 0)) (x := n) (hu21) (rfl) (rfl) (rfl))
 rw [show (if -9223372036854775808 ≤ n ∧ n ≤ 9223372036854775807 then n else 0) = n from if_pos ⟨hn1, hn2⟩] at hC
 rw [show (decide (-9223372036854775808 ≤ n ∧ n ≤ 9223372036854775807)) = true from by rw [decide_eq_true_eq]; exact ⟨hn1, hn2⟩] at hC
 refine st rfl (op_call hF rfl TfLI.body36 (args1 (hF.ev rfl)) hC ?_)
 clear hC
 rintro _ w22 ⟨⟨_, _, rfl, rfl, rfl⟩, hb23⟩
 refine gen_ ?_; clear hF fa; intro fa hF
 replace hS := hS.call hb23; have E24 := Ext.call (g1 :: X) hb23
 refine st_val hF rfl rfl rfl (ex_move (hF.ev rfl)) ?_
 clear hF fa; intro fa hF
 refine st_val hF rfl rfl rfl (ex_extract (hF.ev rfl) rfl) ?_
 clear hF fa; intro fa hF
 refine st_val hF rfl rfl rfl (ex_extract (hF.ev rfl) rfl) ?_
 clear hF fa; intro fa hF
 refine st_val hF rfl rfl rfl (ex_assign (hF.ev rfl)) ?_
 clear hF fa; intro fa hF
 refine st_val hF rfl rfl rfl (ex_assign (hF.ev rfl)) ?_
 clear hF fa; intro fa hF
 replace hF : Frm 60 fa [(0, (.int .i64 (n))), (1, (.agg (ic (A_a) (c_a) (a)))), (3, (.pointer (some ⟨g1, 0, none⟩))), (4, (.bool (false))), (18, (.bool (false))), (5, (.int .i64 (n))), (6, (.bool (true)))] := (hF.take (hF.take (hF.take (hF.take (hF.take (hF.take (hF.take hF.nil rfl) rfl) rfl) rfl) rfl) rfl) rfl)
 refine c_nil_then ?_
 refine c_seq ?_
 refine c_reg ?_
 refine st_val hF rfl rfl rfl (ex_loadb TfLI.row24 (hF.ev rfl) (hS.get 0 rfl) rfl) ?_
 clear hF fa; intro fa hF
 have hC := law01_cp_ok (w := w22) (X := (g1 :: X)) (ng := (decide (a < 0))) (l := (lim a.natAbs)) (hS.bnd hX) ⟨_, rfl, _, _, rfl, (hu_a.ext (((((E3.trans E7).trans E10).trans E15).trans E18).trans E24))⟩ (by omega)
 refine st rfl (op_call hF rfl TfLI.body14 (args1 (hF.ev rfl)) hC ?_)
 clear hC
 rintro _ w25 ⟨⟨_, rfl, A28, c29, rfl, hu30⟩, hb26⟩
 refine gen_ ?_; clear hF fa; intro fa hF
 replace hS := hS.call hb26; have E27 := Ext.call (g1 :: X) hb26
 have hC := integer_Int64_ok (w := w25) (X := (g1 :: X)) (a := a) (hS.bnd hX) (IntV.of_ (n := (((lim a.natAbs))).length) (b := (decide (a < 0))) (x := a) (hu30) (rfl) (rfl) (rfl))
 refine st rfl (op_call hF rfl TfLI.body36 (args1 (hF.ev rfl)) hC ?_)
 clear hC
 rintro _ w31 ⟨⟨_, _, rfl, rfl, rfl⟩, hb32⟩
 refine gen_ ?_; clear hF fa; intro fa hF
 replace hS := hS.call hb32; have E33 := Ext.call (g1 :: X) hb32
 refine st_val hF rfl rfl rfl (ex_move (hF.ev rfl)) ?_
 clear hF fa; intro fa hF
 refine st_val hF rfl rfl rfl (ex_extract (hF.ev rfl) rfl) ?_
 clear hF fa; intro fa hF
 refine st_val hF rfl rfl rfl (ex_extract (hF.ev rfl) rfl) ?_
 clear hF fa; intro fa hF
 refine st_val hF rfl rfl rfl (ex_assign (hF.ev rfl)) ?_
 clear hF fa; intro fa hF
 refine st_val hF rfl rfl rfl (ex_assign (hF.ev rfl)) ?_
 clear hF fa; intro fa hF
 refine c_nil_then ?_
 refine c_seq ?_
 refine c_reg ?_
 refine st_val hF rfl rfl rfl (ex_loadb TfLI.row24 (hF.ev rfl) (hS.get 0 rfl) rfl) ?_
 clear hF fa; intro fa hF
 have hC := ref01_Int64_ok (w := w31) (X := (g1 :: X)) (a := a) (hS.bnd hX) (IntV.of_ (n := (lim a.natAbs).length) (b := decide (a < 0)) (x := a) ((hu_a.ext (((((((E3.trans E7).trans E10).trans E15).trans E18).trans E24).trans E27).trans E33))) (rfl) (rfl) (rfl))
 refine st rfl (op_call hF rfl TfLI.body38 (args1 (hF.ev rfl)) hC ?_)
 clear hC
 rintro _ w34 ⟨⟨_, _, rfl, rfl, rfl⟩, hb35⟩
 refine gen_ ?_; clear hF fa; intro fa hF
 replace hS := hS.call hb35; have E36 := Ext.call (g1 :: X) hb35
 refine st_val hF rfl rfl rfl (ex_move (hF.ev rfl)) ?_
 clear hF fa; intro fa hF
 refine st_val hF rfl rfl rfl (ex_extract (hF.ev rfl) rfl) ?_
 clear hF fa; intro fa hF
 refine st_val hF rfl rfl rfl (ex_extract (hF.ev rfl) rfl) ?_
 clear hF fa; intro fa hF
 refine st_val hF rfl rfl rfl (ex_assign (hF.ev rfl)) ?_
 clear hF fa; intro fa hF
 refine st_val hF rfl rfl rfl (ex_assign (hF.ev rfl)) ?_
 clear hF fa; intro fa hF
 refine c_nil_then ?_
 refine c_seq ?_
 refine c_reg ?_
 refine st_val hF rfl rfl rfl (ex_move (hF.ev rfl)) ?_
 clear hF fa; intro fa hF
 have hC := integer_FromInt64_ok (w := w34) (X := (g1 :: X)) (hS.bnd hX) n (by omega) (by omega)
 refine st rfl (op_call hF rfl TfLI.body37 (args1 (hF.ev rfl)) hC ?_)
 clear hC
 rintro _ w37 ⟨⟨_, rfl, A40, c41, rfl, hu42⟩, hb38⟩
 refine gen_ ?_; clear hF fa; intro fa hF
 replace hS := hS.call hb38; have E39 := Ext.call (g1 :: X) hb38
 refine st_val hF rfl rfl rfl (ex_move (hF.ev rfl)) ?_
 clear hF fa; intro fa hF
 have hC := ref01_FromInt64_ok (w := w37) (X := (g1 :: X)) (hS.bnd hX) n (by omega) (by omega)
 refine st rfl (op_call hF rfl TfLI.body26 (args1 (hF.ev rfl)) hC ?_)
 clear hC
 rintro _ w43 ⟨⟨_, rfl, A46, c47, rfl, hu48⟩, hb44⟩
 refine gen_ ?_; clear hF fa; intro fa hF
 replace hS := hS.call hb44; have E45 := Ext.call (g1 :: X) hb44
 have hC := law01_same_ok (w := w43) (X := (g1 :: X)) (a := n) (b := n) (hS.bnd hX) (IntV.of_ (n := (lim (n).natAbs).length) (b := decide (n < 0)) (x := n) ((hu42.ext E45)) (rfl) (rfl) (rfl)) (IntV.of_ (n := (lim (n).natAbs).length) (b := decide (n < 0)) (x := n) (hu48) (rfl) (rfl) (rfl))
 rw [show (decide (n = n)) = true from by simp] at hC
 refine st rfl (op_call hF rfl TfLI.body19 (args2 (hF.ev rfl) (hF.ev rfl)) hC ?_)
 clear hC
 rintro _ w49 ⟨rfl, hb50⟩
 refine gen_ ?_; clear hF fa; intro fa hF
 replace hS := hS.call hb50; have E51 := Ext.call (g1 :: X) hb50
 refine st_val hF rfl rfl rfl (ex_move (hF.ev rfl)) ?_
 clear hF fa; intro fa hF
 refine stg_val hF rfl rfl rfl rfl (ex_move (hF.ev rfl)) ?_
 clear hF fa; intro fa hF
 refine stg_val hF rfl rfl rfl rfl (ex_move (hF.ev rfl)) ?_
 clear hF fa; intro fa hF
 refine stg_val hF rfl rfl rfl rfl (ex_b (t := decide (n = n)) (b := true) (by simp) (ex_eql (hF.ev rfl) (hF.ev rfl))) ?_
 clear hF fa; intro fa hF
 refine st_val hF rfl rfl rfl (ex_pick (hF.ev rfl) (fun _ => hF.ev rfl) (v := undef) (fun h => by cases h) rfl) ?_
 clear hF fa; intro fa hF
 refine st_val hF rfl rfl rfl (ex_move (hF.ev rfl)) ?_
 clear hF fa; intro fa hF
 refine stg_val hF rfl rfl rfl rfl (ex_move (hF.ev rfl)) ?_
 clear hF fa; intro fa hF
 refine st_val hF rfl rfl rfl (ex_pick (hF.ev rfl) (fun _ => hF.ev rfl) (v := undef) (fun h => by cases h) rfl) ?_
 clear hF fa; intro fa hF
 refine st_val hF rfl rfl rfl (ex_move (hF.ev rfl)) ?_
 clear hF fa; intro fa hF
 refine stg_val hF rfl rfl rfl rfl (ex_move (hF.ev rfl)) ?_
 clear hF fa; intro fa hF
 refine stg_val hF rfl rfl rfl rfl (ex_move (hF.ev rfl)) ?_
 clear hF fa; intro fa hF
 refine stg_val hF rfl rfl rfl rfl (ex_b (t := decide ((if -9223372036854775808 ≤ a ∧ a ≤ 9223372036854775807 then a else 0) = (if -9223372036854775808 ≤ a ∧ a ≤ 9223372036854775807 then a else 0))) (b := true) (by simp) (ex_eql (hF.ev rfl) (hF.ev rfl))) ?_
 clear hF fa; intro fa hF
 refine st_val hF rfl rfl rfl (ex_pick (hF.ev rfl) (fun _ => hF.ev rfl) (v := undef) (fun h => by cases h) rfl) ?_
 clear hF fa; intro fa hF
 refine st_val hF rfl rfl rfl (ex_move (hF.ev rfl)) ?_
 clear hF fa; intro fa hF
 refine stg_val hF rfl rfl rfl rfl (ex_move (hF.ev rfl)) ?_
 clear hF fa; intro fa hF
 refine stg_val hF rfl rfl rfl rfl (ex_move (hF.ev rfl)) ?_
 clear hF fa; intro fa hF
 refine stg_val hF rfl rfl rfl rfl (ex_b (t := (decide (-9223372036854775808 ≤ a ∧ a ≤ 9223372036854775807)) == (decide (-9223372036854775808 ≤ a ∧ a ≤ 9223372036854775807))) (b := true) (by simp) (ex_eqb TfLI.und4 (hF.ev rfl) (hF.ev rfl))) ?_
 clear hF fa; intro fa hF
 refine st_val hF rfl rfl rfl (ex_pick (hF.ev rfl) (fun _ => hF.ev rfl) (v := undef) (fun h => by cases h) rfl) ?_
 clear hF fa; intro fa hF
 refine st_val hF rfl rfl rfl (ex_assign (hF.ev rfl)) ?_
 clear hF fa; intro fa hF
 replace hF : Frm 60 fa [(0, (.int .i64 (n))), (1, (.agg (ic (A_a) (c_a) (a)))), (3, (.pointer (some ⟨g1, 0, none⟩))), (4, (.bool (true))), (18, (.bool (false))), (5, (.int .i64 (n))), (6, (.bool (true))), (7, (.int .i64 (if -9223372036854775808 ≤ a ∧ a ≤ 9223372036854775807 then a else 0))), (8, (.bool (decide (-9223372036854775808 ≤ a ∧ a ≤ 9223372036854775807)))), (9, (.int .i64 (if -9223372036854775808 ≤ a ∧ a ≤ 9223372036854775807 then a else 0))), (10, (.bool (decide (-9223372036854775808 ≤ a ∧ a ≤ 9223372036854775807))))] := (hF.take (hF.take (hF.take (hF.take (hF.take (hF.take (hF.take (hF.take (hF.take (hF.take (hF.take hF.nil rfl) rfl) rfl) rfl) rfl) rfl) rfl) rfl) rfl) rfl) rfl)
 refine c_nil_then ?_
 refine c_ret ?_
 refine end1 hF rfl (res_tmp hF rfl) ?_
 exact ⟨_, rfl, (congrArg Value.bool (by simp_all)), hS.below⟩

end Go.Proofs.Ytlaojdpcfenlkaa
