/-
  What the functions Int64 do, each call by call.
  Conditions: none.
-/
import Derived.Test.YtlaojdpcfenlkaaChecked
import Derived.Test.YtlaojdpcfenlkaaSwBaseK
import Derived.Test.YtlaojdpcfenlkaaWG
import Derived.Test.YtlaojdpcfenlkaaWH
namespace Go.Proofs.Ytlaojdpcfenlkaa
open Go Go.RowKit Go.Sw
set_option linter.unusedVariables false
namespace TfO
theorem body17 : hasBody Try.prog 17 = true := by kernel_rfl
theorem body26 : hasBody Try.prog 26 = true := by kernel_rfl
theorem body52 : hasBody Try.prog 52 = true := by kernel_rfl
theorem off24_0 : fieldOff Try.prog 24 0 = some 0 := by kernel_rfl
theorem off24_1 : fieldOff Try.prog 24 1 = some 1 := by kernel_rfl
theorem one22 : isOne Try.prog 22 = true := by kernel_rfl
theorem one4 : isOne Try.prog 4 = true := by kernel_rfl
theorem row24 : isRow Try.prog 24 2 = true := by kernel_rfl
theorem size24 : (Try.prog.info? 24).map (fun i => i.size) = some 2 := by kernel_rfl
theorem und2 : Try.prog.underlying 2 = some (TypeDesc.int .i64) := by kernel_rfl
theorem unds54 : (Try.prog.underlying 54).isSome = true := by kernel_rfl
theorem zero24 : zeroOf Try.prog 24 = some #[.bool false, .slice none 0 0] := by kernel_rfl
end TfO
set_option maxHeartbeats 4000000 in
theorem ref01_Int64_ok {w : World} {X : List Nat} (hX : ∀ m ∈ X, m < w.heap.size) {v_a : Value} {a : Int} (h_a : IntV w X v_a (a)) :
    Calls Try.prog 38 #[v_a] w (Ret fun r w' => (∃ r0 r1, r = .tuple #[r0, r1] ∧ r0 = .int .i64 (if -9223372036854775808 ≤ a ∧ a ≤ 9223372036854775807 then a else 0) ∧ r1 = .bool (decide (-9223372036854775808 ≤ a ∧ a ≤ 9223372036854775807))) ∧ Below w.heap.size w w') := by
 refine enter (N := 29) (fn := Try.f38) (vs := [v_a]) Try.func38 rfl rfl rfl ?_
 intro fa hF
 obtain ⟨_, rfl, A_a, c_a, rfl, hu_a⟩ := h_a
 have hl_a := hu_a.len; have hc_a := hu_a.cap
 replace hF : Frm 29 fa [(0, (.agg (ic (A_a) (c_a) (a))))] := hF
 have hS := St.refl w
 refine c_seq ?_
 refine c_reg ?_
 refine st rfl (op_box (X := X) hF hS rfl rfl rfl ?_)
 intro g1 w2 hg4 hS E3; refine gen_ ?_; clear hF fa; intro fa hF
 replace hS : St w w2 [(g1, 24, (ic (A_a) (c_a) (a)))] := hS
 refine st_val hF rfl rfl rfl (ex_assign (hF.ev rfl)) ?_
 clear hF fa; intro fa hF
 refine st_val hF rfl rfl rfl (ex_assign (hF.ev rfl)) ?_
 clear hF fa; intro fa hF
 refine c_nil_then ?_
 refine c_seq ?_
 refine c_reg ?_
 have hC := ref01_FromInt64_ok (w := w2) (X := (g1 :: X)) (hS.bnd hX) (-9223372036854775808) (by omega) (by omega)
 refine st rfl (op_call hF rfl TfO.body26 (args1 (hF.ev rfl)) hC ?_)
 clear hC
 rintro _ w5 ⟨⟨_, rfl, A8, c9, rfl, hu10⟩, hb6⟩
 refine gen_ ?_; clear hF fa; intro fa hF
 replace hS := hS.call hb6; have E7 := Ext.call (g1 :: X) hb6
 have hC := ref01_FromInt64_ok (w := w5) (X := (g1 :: X)) (hS.bnd hX) 9223372036854775807 (by omega) (by omega)
 refine st rfl (op_call hF rfl TfO.body26 (args1 (hF.ev rfl)) hC ?_)
 clear hC
 rintro _ w11 ⟨⟨_, rfl, A14, c15, rfl, hu16⟩, hb12⟩
 refine gen_ ?_; clear hF fa; intro fa hF
 replace hS := hS.call hb12; have E13 := Ext.call (g1 :: X) hb12
 refine st rfl (op_alloc (X := (g1 :: X)) hF hS rfl TfO.zero24 ?_)
 intro g17 w18 hg20 hS E19; refine gen_ ?_; clear hF fa; intro fa hF
 replace hS : St w w18 [(g17, 24, #[(.bool (false)), (.slice (none) (0) (0))]), (g1, 24, (ic (A_a) (c_a) (a)))] := hS
 refine st rfl (op_alloc (X := (g17 :: (g1 :: X))) hF hS rfl TfO.zero24 ?_)
 intro g21 w22 hg24 hS E23; refine gen_ ?_; clear hF fa; intro fa hF
 replace hS : St w w22 [(g21, 24, #[(.bool (false)), (.slice (none) (0) (0))]), (g17, 24, #[(.bool (false)), (.slice (none) (0) (0))]), (g1, 24, (ic (A_a) (c_a) (a)))] := hS
 refine st rfl (op_store (X := (g21 :: (g17 :: (g1 :: X)))) hF hS 1 rfl (by simp) rfl rfl rfl TfO.size24 rfl (Nat.le_of_ble_eq_true rfl) ?_)
 intro w25 hS E26
 replace hS : St w w25 [(g21, 24, #[(.bool (false)), (.slice (none) (0) (0))]), (g17, 24, (ic (A8) (c9) (((-9223372036854775808 : Int))))), (g1, 24, (ic (A_a) (c_a) (a)))] := hS
 refine st rfl (op_store (X := (g21 :: (g17 :: (g1 :: X)))) hF hS 0 rfl (by simp) rfl rfl rfl TfO.size24 rfl (Nat.le_of_ble_eq_true rfl) ?_)
 intro w27 hS E28
 replace hS : St w w27 [(g21, 24, (ic (A14) (c15) (((9223372036854775807 : Int))))), (g17, 24, (ic (A8) (c9) (((-9223372036854775808 : Int))))), (g1, 24, (ic (A_a) (c_a) (a)))] := hS
 refine c_nil_then ?_
 refine c_seq ?_
 refine c_seq ?_
 refine c_reg ?_
 refine st_val hF rfl rfl rfl (ex_loadb TfO.row24 (hF.ev rfl) (hS.get 2 rfl) rfl) ?_
 clear hF fa; intro fa hF
 refine st_val hF rfl rfl rfl (ex_loadb TfO.row24 (hF.ev rfl) (hS.get 1 rfl) rfl) ?_
 clear hF fa; intro fa hF
 have hC := ref01_Cmp_ok (w := w27) (X := (g21 :: (g17 :: (g1 :: X)))) (a := a) (b := ((-9223372036854775808 : Int))) (hS.bnd hX) (IntV.of_ (n := (lim a.natAbs).length) (b := decide (a < 0)) (x := a) ((hu_a.ext ((((((E3.trans E7).trans E13).trans E19).trans E23).trans E26).trans E28))) (rfl) (rfl) (rfl)) (IntV.of_ (n := (lim (((-9223372036854775808 : Int))).natAbs).length) (b := decide (((-9223372036854775808 : Int)) < 0)) (x := ((-9223372036854775808 : Int))) ((hu10.ext ((((E13.trans E19).trans E23).trans E26).trans E28))) (rfl) (rfl) (rfl))
 refine st rfl (op_call hF rfl TfO.body17 (args2 (hF.ev rfl) (hF.ev rfl)) hC ?_)
 clear hC
 rintro _ w29 ⟨rfl, hb30⟩
 refine gen_ ?_; clear hF fa; intro fa hF
 replace hS := hS.call hb30; have E31 := Ext.call (g21 :: (g17 :: (g1 :: X))) hb30
 refine st_val hF rfl rfl rfl (ex_lss (hF.ev rfl) (hF.ev rfl)) ?_
 clear hF fa; intro fa hF
 refine st_val hF rfl rfl rfl (ex_move (hF.ev rfl)) ?_
 clear hF fa; intro fa hF
 rcases Bool.eq_false_or_eq_true (decide ((cmpI a (((-9223372036854775808 : Int)))) < 0)) with hg32 | hg32
 ·
  replace hF := hF.cons (t := 13) (v := .bool true) ((hF.get 13 _ rfl).trans (congrArg Value.bool hg32))
  have hg32p : (cmpI a (((-9223372036854775808 : Int)))) < 0 := by simpa using hg32
  have hf1 := cmpI_lt0.1 hg32p
  refine st_skip hF rfl rfl rfl rfl rfl ?_
  clear hF fa; intro fa hF
  refine st_skip hF rfl rfl rfl rfl rfl ?_
  clear hF fa; intro fa hF
  refine st_skip hF rfl rfl rfl rfl rfl ?_
  clear hF fa; intro fa hF
  refine st_skip hF rfl rfl rfl rfl rfl ?_
  clear hF fa; intro fa hF
  refine st_val hF rfl rfl rfl (ex_pick (hF.ev rfl) (fun _ => hF.ev rfl) (v := undef) (fun h => by cases h) rfl) ?_
  clear hF fa; intro fa hF
  refine c_nil_then ?_
  refine c_cond hF rfl (fun hc => ?_) (fun hc => ?_)
  rotate_left
  ·
   cases hc
  refine c_seq ?_
  refine c_reg ?_
  refine st_val hF rfl rfl rfl (ex_assign (hF.ev rfl)) ?_
  clear hF fa; intro fa hF
  refine st_val hF rfl rfl rfl (ex_assign (hF.ev rfl)) ?_
  clear hF fa; intro fa hF
  refine c_nil_then ?_
  refine c_ret ?_
  refine x_tr ?_
  refine end2 hF rfl (res_tmp hF rfl) (res_tmp hF rfl) ?_
  exact ⟨_, rfl, ⟨_, _, rfl, (congrArg (Value.int .i64) (by rw [if_neg (by omega)])), (congrArg Value.bool (by symm; rw [decide_eq_false_iff_not]; omega))⟩, hS.below⟩
 replace hF := hF.cons (t := 13) (v := .bool false) ((hF.get 13 _ rfl).trans (congrArg Value.bool hg32))
 have hg32p : ¬ ((cmpI a (((-9223372036854775808 : Int)))) < 0) := by simpa using hg32
 have hf1 := mt cmpI_lt0.2 hg32p
 refine stg_val hF rfl rfl rfl rfl (ex_loadb TfO.row24 (hF.ev rfl) (hS.get 2 rfl) rfl) ?_
 clear hF fa; intro fa hF
 refine stg_val hF rfl rfl rfl rfl (ex_loadb TfO.row24 (hF.ev rfl) (hS.get 0 rfl) rfl) ?_
 clear hF fa; intro fa hF
 have hC := ref01_Cmp_ok (w := w29) (X := (g21 :: (g17 :: (g1 :: X)))) (a := a) (b := ((9223372036854775807 : Int))) (hS.bnd hX) (IntV.of_ (n := (lim a.natAbs).length) (b := decide (a < 0)) (x := a) ((hu_a.ext (((((((E3.trans E7).trans E13).trans E19).trans E23).trans E26).trans E28).trans E31))) (rfl) (rfl) (rfl)) (IntV.of_ (n := (lim (((9223372036854775807 : Int))).natAbs).length) (b := decide (((9223372036854775807 : Int)) < 0)) (x := ((9223372036854775807 : Int))) ((hu16.ext ((((E19.trans E23).trans E26).trans E28).trans E31))) (rfl) (rfl) (rfl))
 refine stg hF rfl rfl (op_call hF rfl TfO.body17 (args2 (hF.ev rfl) (hF.ev rfl)) hC ?_)
 clear hC
 rintro _ w33 ⟨rfl, hb34⟩
 refine gen_ ?_; clear hF fa; intro fa hF
 replace hS := hS.call hb34; have E35 := Ext.call (g21 :: (g17 :: (g1 :: X))) hb34
 refine stg_val hF rfl rfl rfl rfl (ex_gtr (hF.ev rfl) (hF.ev rfl)) ?_
 clear hF fa; intro fa hF
 refine st_val hF rfl rfl rfl (ex_pick (hF.ev rfl) (u := undef) (fun h => by cases h) (fun _ => hF.ev rfl) rfl) ?_
 clear hF fa; intro fa hF
 refine c_nil_then ?_
 refine c_cond hF rfl (fun hc36 => ?_) (fun hc36 => ?_)
 ·
  have hc36p : (cmpI a (((9223372036854775807 : Int)))) > 0 := by first | simpa using hc36 | exact bang_t hc36 | exact bang_f hc36
  have hf2 := cmpI_gt0.1 hc36p
  refine c_seq ?_
  refine c_reg ?_
  refine st_val hF rfl rfl rfl (ex_assign (hF.ev rfl)) ?_
  clear hF fa; intro fa hF
  refine st_val hF rfl rfl rfl (ex_assign (hF.ev rfl)) ?_
  clear hF fa; intro fa hF
  refine c_nil_then ?_
  refine c_ret ?_
  refine x_tr ?_
  refine end2 hF rfl (res_tmp hF rfl) (res_tmp hF rfl) ?_
  exact ⟨_, rfl, ⟨_, _, rfl, (congrArg (Value.int .i64) (by rw [if_neg (by omega)])), (congrArg Value.bool (by symm; rw [decide_eq_false_iff_not]; omega))⟩, hS.below⟩
 have hc36p : ¬ ((cmpI a (((9223372036854775807 : Int)))) > 0) := by first | simpa using hc36 | exact bang_t hc36 | exact bang_f hc36
 have hf2 := mt cmpI_gt0.2 hc36p
 have hsz : (lim a.natAbs).length ≤ 3 := sz_64 (by omega) (by omega)
 refine c_skip ?_
 refine x_tn ?_
 refine c_seq ?_
 refine c_reg ?_
 refine st_val hF rfl rfl rfl (ex_field_addr TfO.off24_1 (hF.ev rfl)) ?_
 clear hF fa; intro fa hF
 refine st_val hF rfl rfl rfl (ex_load1b TfO.one22 (hF.ev rfl) (hS.get 2 rfl) rfl) ?_
 clear hF fa; intro fa hF
 have hC := ref01_short_ok (w := w33) (X := (g21 :: (g17 :: (g1 :: X)))) (l := (lim a.natAbs)) (hS.bnd hX) ⟨_, ((lim a.natAbs).length), _, rfl, (rfl), (hu_a.ext ((((((((E3.trans E7).trans E13).trans E19).trans E23).trans E26).trans E28).trans E31).trans E35))⟩ (by omega) (lb_lim _) (by rw [val_lim]; omega)
 refine st rfl (op_call hF rfl TfO.body52 (args1 (hF.ev rfl)) hC ?_)
 clear hC
 rintro _ w37 ⟨rfl, hb38⟩
 refine gen_ ?_; clear hF fa; intro fa hF
 replace hS := hS.call hb38; have E39 := Ext.call (g21 :: (g17 :: (g1 :: X))) hb38
 refine st_val hF rfl rfl rfl (ex_assign (hF.ev rfl)) ?_
 clear hF fa; intro fa hF
 replace hF : Frm 29 fa [(0, (.agg (ic (A_a) (c_a) (a)))), (1, (.pointer (some ⟨g1, 0, none⟩))), (2, (.int .i64 (0))), (3, (.bool (false))), (4, (.pointer (some ⟨g17, 0, none⟩))), (5, (.pointer (some ⟨g21, 0, none⟩))), (18, (.bool (decide ((cmpI a (((9223372036854775807 : Int)))) > 0)))), (6, (.int .u64 (((val ((lim a.natAbs)) : Nat) : Int))))] := (hF.take (hF.take (hF.take (hF.take (hF.take (hF.take (hF.take (hF.take hF.nil rfl) rfl) rfl) rfl) rfl) rfl) rfl) rfl)
 refine c_nil_then ?_
 refine c_seq ?_
 refine c_seq ?_
 refine c_reg ?_
 refine st_val hF rfl rfl rfl (ex_field_addr TfO.off24_0 (hF.ev rfl)) ?_
 clear hF fa; intro fa hF
 refine st_val hF rfl rfl rfl (ex_load1b TfO.one4 (hF.ev rfl) (hS.get 2 rfl) rfl) ?_
 clear hF fa; intro fa hF
 refine c_nil_then ?_
 refine c_cond hF rfl (fun hc40 => ?_) (fun hc40 => ?_)
 ·
  have hc40p : a < 0 := by first | simpa using hc40 | exact bang_t hc40 | exact bang_f hc40
  refine c_seq ?_
  refine c_reg ?_
  refine st_val hF rfl rfl rfl (ex_move (hF.ev rfl)) ?_
  clear hF fa; intro fa hF
  refine st_val hF rfl rfl rfl (ex_conv TfO.unds54 TfO.und2 (hF.ev rfl) (show _ = IntKind.i64.wrap (a.natAbs : Int) from by rw [val_lim])) ?_
  clear hF fa; intro fa hF
  refine st_val hF rfl rfl rfl (ex_neg (hF.ev rfl) (show _ = a from neg_wrap (by omega) (by omega))) ?_
  clear hF fa; intro fa hF
  refine st_val hF rfl rfl rfl (ex_assign (hF.ev rfl)) ?_
  clear hF fa; intro fa hF
  refine st_val hF rfl rfl rfl (ex_assign (hF.ev rfl)) ?_
  clear hF fa; intro fa hF
  refine c_nil_then ?_
  refine c_ret ?_
  refine x_tr ?_
  refine end2 hF rfl (res_tmp hF rfl) (res_tmp hF rfl) ?_
  exact ⟨_, rfl, ⟨_, _, rfl, (congrArg (Value.int .i64) (by rw [if_pos ⟨by omega, by omega⟩])), (congrArg Value.bool (by symm; rw [decide_eq_true_eq]; omega))⟩, hS.below⟩
 have hc40p : ¬ (a < 0) := by first | simpa using hc40 | exact bang_t hc40 | exact bang_f hc40
 refine c_skip ?_
 refine x_tn ?_
 refine c_seq ?_
 refine c_reg ?_
 refine st_val hF rfl rfl rfl (ex_move (hF.ev rfl)) ?_
 clear hF fa; intro fa hF
 refine st_val hF rfl rfl rfl (ex_conv TfO.unds54 TfO.und2 (hF.ev rfl) (show _ = a from by rw [val_lim]; exact pos_wrap (by omega) (by omega))) ?_
 clear hF fa; intro fa hF
 refine st_val hF rfl rfl rfl (ex_assign (hF.ev rfl)) ?_
 clear hF fa; intro fa hF
 refine st_val hF rfl rfl rfl (ex_assign (hF.ev rfl)) ?_
 clear hF fa; intro fa hF
 refine c_nil_then ?_
 refine c_ret ?_
 refine end2 hF rfl (res_tmp hF rfl) (res_tmp hF rfl) ?_
 exact ⟨_, rfl, ⟨_, _, rfl, (congrArg (Value.int .i64) (by rw [if_pos ⟨by omega, by omega⟩])), (congrArg Value.bool (by symm; rw [decide_eq_true_eq]; omega))⟩, hS.below⟩

end Go.Proofs.Ytlaojdpcfenlkaa
