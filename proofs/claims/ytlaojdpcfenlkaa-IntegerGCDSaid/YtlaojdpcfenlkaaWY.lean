/-
  What the functions awake do, each call by call.
  Conditions: none.
-/
import Derived.Test.YtlaojdpcfenlkaaChecked
import Derived.Test.YtlaojdpcfenlkaaSwBaseK
import Derived.Test.YtlaojdpcfenlkaaWH
import Derived.Test.YtlaojdpcfenlkaaWP
import Derived.Test.YtlaojdpcfenlkaaWS
import Derived.Test.YtlaojdpcfenlkaaWU
import Derived.Test.YtlaojdpcfenlkaaWV
import Derived.Test.YtlaojdpcfenlkaaWX
namespace Go.Proofs.Ytlaojdpcfenlkaa
open Go Go.RowKit Go.Sw
set_option linter.unusedVariables false
namespace TfY
theorem body13 : hasBody Try.prog 13 = true := by kernel_rfl
theorem body16 : hasBody Try.prog 16 = true := by kernel_rfl
theorem body19 : hasBody Try.prog 19 = true := by kernel_rfl
theorem body23 : hasBody Try.prog 23 = true := by kernel_rfl
theorem body25 : hasBody Try.prog 25 = true := by kernel_rfl
theorem body37 : hasBody Try.prog 37 = true := by kernel_rfl
theorem body39 : hasBody Try.prog 39 = true := by kernel_rfl
theorem el46 : Sw.elemOf Try.prog 46 = some (#[.int .u32 0], 1, 4) := by kernel_rfl
theorem row24 : isRow Try.prog 24 2 = true := by kernel_rfl
theorem size24 : (Try.prog.info? 24).map (fun i => i.size) = some 2 := by kernel_rfl
theorem sl22 : sliceOf Try.prog 22 = some (46, 1) := by kernel_rfl
theorem two24 : two1 Try.prog 24 = true := by kernel_rfl
theorem zero24 : zeroOf Try.prog 24 = some #[.bool false, .slice none 0 0] := by kernel_rfl
end TfY
set_option maxHeartbeats 4000000 in
theorem law01_awake_ok {w : World} {X : List Nat} (hX : ∀ m ∈ X, m < w.heap.size)  :
    Calls Try.prog 11 #[] w (Ret fun r w' => (r = .bool (true)) ∧ Below w.heap.size w w') := by
 refine enter (N := 90) (fn := Try.f11) (vs := []) Try.func11 rfl rfl rfl ?_
 intro fa hF
 replace hF : Frm 90 fa [] := hF
 have hS := St.refl w
 refine c_seq ?_
 refine c_reg ?_
 refine st_val hF rfl rfl rfl (ex_assign (hF.ev rfl)) ?_
 clear hF fa; intro fa hF
 refine c_nil_then ?_
 refine c_seq ?_
 refine c_reg ?_
 have hC := integer_FromInt64_ok (w := w) (X := X) (hS.bnd hX) (-7) (by omega) (by omega)
 refine st rfl (op_call hF rfl TfY.body37 (args1 (hF.ev rfl)) hC ?_)
 clear hC
 rintro _ w1 ⟨⟨_, rfl, A4, c5, rfl, hu6⟩, hb2⟩
 refine gen_ ?_; clear hF fa; intro fa hF
 replace hS := hS.call hb2; have E3 := Ext.call X hb2
 have hC := integer_FromInt64_ok (w := w1) (X := X) (hS.bnd hX) 2 (by omega) (by omega)
 refine st rfl (op_call hF rfl TfY.body37 (args1 (hF.ev rfl)) hC ?_)
 clear hC
 rintro _ w7 ⟨⟨_, rfl, A10, c11, rfl, hu12⟩, hb8⟩
 refine gen_ ?_; clear hF fa; intro fa hF
 replace hS := hS.call hb8; have E9 := Ext.call X hb8
 have hC := integer_DivMod_ok (w := w7) (X := X) (a := ((-7 : Int))) (b := ((2 : Int))) (hS.bnd hX) (IntV.of_ (n := (lim (((-7 : Int))).natAbs).length) (b := decide (((-7 : Int)) < 0)) (x := ((-7 : Int))) ((hu6.ext E9)) (rfl) (rfl) (rfl)) (IntV.of_ (n := (lim (((2 : Int))).natAbs).length) (b := decide (((2 : Int)) < 0)) (x := ((2 : Int))) (hu12) (rfl) (rfl) (rfl)) (Nat.le_trans (sz_64 (by decide) (by decide)) (by decide)) (Nat.le_trans (sz_64 (by decide) (by decide)) (by decide))
 rw [show ((if (((2 : Int))) = 0 then 6 else 0)) = (0 : Int) from by decide] at hC
 refine st rfl (op_call hF rfl TfY.body13 (args2 (hF.ev rfl) (hF.ev rfl)) hC ?_)
 clear hC
 rintro _ w13 ⟨⟨_, _, _, rfl, ⟨_, rfl, A16, c17, rfl, hu18⟩, ⟨_, rfl, A19, c20, rfl, hu21⟩, rfl⟩, hb14⟩
 refine gen_ ?_; clear hF fa; intro fa hF
 replace hS := hS.call hb14; have E15 := Ext.call X hb14
 refine st_val hF rfl rfl rfl (ex_move (hF.ev rfl)) ?_
 clear hF fa; intro fa hF
 refine st_val hF rfl rfl rfl (ex_extract (hF.ev rfl) rfl) ?_
 clear hF fa; intro fa hF
 refine st_val hF rfl rfl rfl (ex_extract (hF.ev rfl) rfl) ?_
 clear hF fa; intro fa hF
 refine st_val hF rfl rfl rfl (ex_extract (hF.ev rfl) rfl) ?_
 clear hF fa; intro fa hF
 refine st rfl (op_alloc (X := X) hF hS rfl TfY.zero24 ?_)
 intro g22 w23 hg25 hS E24; refine gen_ ?_; clear hF fa; intro fa hF
 replace hS : St w w23 [(g22, 24, #[(.bool (false)), (.slice (none) (0) (0))])] := hS
 refine st rfl (op_alloc (X := (g22 :: X)) hF hS rfl TfY.zero24 ?_)
 intro g26 w27 hg29 hS E28; refine gen_ ?_; clear hF fa; intro fa hF
 replace hS : St w w27 [(g26, 24, #[(.bool (false)), (.slice (none) (0) (0))]), (g22, 24, #[(.bool (false)), (.slice (none) (0) (0))])] := hS
 refine st rfl (op_store (X := (g26 :: (g22 :: X))) hF hS 1 rfl (by simp) rfl rfl rfl TfY.size24 rfl (Nat.le_of_ble_eq_true rfl) ?_)
 intro w30 hS E31
 replace hS : St w w30 [(g26, 24, #[(.bool (false)), (.slice (none) (0) (0))]), (g22, 24, (ic (A16) (c17) (((((-7 : Int))).fdiv (((2 : Int)))))))] := hS
 refine st rfl (op_store (X := (g26 :: (g22 :: X))) hF hS 0 rfl (by simp) rfl rfl rfl TfY.size24 rfl (Nat.le_of_ble_eq_true rfl) ?_)
 intro w32 hS E33
 replace hS : St w w32 [(g26, 24, (ic (A19) (c20) ((if (((2 : Int))) = 0 then 0 else (((-7 : Int))).fmod (((2 : Int))))))), (g22, 24, (ic (A16) (c17) (((((-7 : Int))).fdiv (((2 : Int)))))))] := hS
 refine st_val hF rfl rfl rfl (ex_assign (hF.ev rfl)) ?_
 clear hF fa; intro fa hF
 refine c_nil_then ?_
 refine c_seq ?_
 refine c_reg ?_
 have hC := integer_FromInt64_ok (w := w32) (X := (g26 :: (g22 :: X))) (hS.bnd hX) 7 (by omega) (by omega)
 refine st rfl (op_call hF rfl TfY.body37 (args1 (hF.ev rfl)) hC ?_)
 clear hC
 rintro _ w34 ⟨⟨_, rfl, A37, c38, rfl, hu39⟩, hb35⟩
 refine gen_ ?_; clear hF fa; intro fa hF
 replace hS := hS.call hb35; have E36 := Ext.call (g26 :: (g22 :: X)) hb35
 have hC := integer_FromInt64_ok (w := w34) (X := (g26 :: (g22 :: X))) (hS.bnd hX) (-2) (by omega) (by omega)
 refine st rfl (op_call hF rfl TfY.body37 (args1 (hF.ev rfl)) hC ?_)
 clear hC
 rintro _ w40 ⟨⟨_, rfl, A43, c44, rfl, hu45⟩, hb41⟩
 refine gen_ ?_; clear hF fa; intro fa hF
 replace hS := hS.call hb41; have E42 := Ext.call (g26 :: (g22 :: X)) hb41
 have hC := integer_DivMod_ok (w := w40) (X := (g26 :: (g22 :: X))) (a := ((7 : Int))) (b := ((-2 : Int))) (hS.bnd hX) (IntV.of_ (n := (lim (((7 : Int))).natAbs).length) (b := decide (((7 : Int)) < 0)) (x := ((7 : Int))) ((hu39.ext E42)) (rfl) (rfl) (rfl)) (IntV.of_ (n := (lim (((-2 : Int))).natAbs).length) (b := decide (((-2 : Int)) < 0)) (x := ((-2 : Int))) (hu45) (rfl) (rfl) (rfl)) (Nat.le_trans (sz_64 (by decide) (by decide)) (by decide)) (Nat.le_trans (sz_64 (by decide) (by decide)) (by decide))
 rw [show ((if (((-2 : Int))) = 0 then 6 else 0)) = (0 : Int) from by decide] at hC
 refine st rfl (op_call hF rfl TfY.body13 (args2 (hF.ev rfl) (hF.ev rfl)) hC ?_)
 clear hC
 rintro _ w46 ⟨⟨_, _, _, rfl, ⟨_, rfl, A49, c50, rfl, hu51⟩, ⟨_, rfl, A52, c53, rfl, hu54⟩, rfl⟩, hb47⟩
 refine gen_ ?_; clear hF fa; intro fa hF
 replace hS := hS.call hb47; have E48 := Ext.call (g26 :: (g22 :: X)) hb47
 refine st_val hF rfl rfl rfl (ex_move (hF.ev rfl)) ?_
 clear hF fa; intro fa hF
 refine st_val hF rfl rfl rfl (ex_extract (hF.ev rfl) rfl) ?_
 clear hF fa; intro fa hF
 refine st_val hF rfl rfl rfl (ex_extract (hF.ev rfl) rfl) ?_
 clear hF fa; intro fa hF
 refine st_val hF rfl rfl rfl (ex_extract (hF.ev rfl) rfl) ?_
 clear hF fa; intro fa hF
 refine st rfl (op_alloc (X := (g26 :: (g22 :: X))) hF hS rfl TfY.zero24 ?_)
 intro g55 w56 hg58 hS E57; refine gen_ ?_; clear hF fa; intro fa hF
 replace hS : St w w56 [(g55, 24, #[(.bool (false)), (.slice (none) (0) (0))]), (g26, 24, (ic (A19) (c20) ((if (((2 : Int))) = 0 then 0 else (((-7 : Int))).fmod (((2 : Int))))))), (g22, 24, (ic (A16) (c17) (((((-7 : Int))).fdiv (((2 : Int)))))))] := hS
 refine st rfl (op_alloc (X := (g55 :: (g26 :: (g22 :: X)))) hF hS rfl TfY.zero24 ?_)
 intro g59 w60 hg62 hS E61; refine gen_ ?_; clear hF fa; intro fa hF
 replace hS : St w w60 [(g59, 24, #[(.bool (false)), (.slice (none) (0) (0))]), (g55, 24, #[(.bool (false)), (.slice (none) (0) (0))]), (g26, 24, (ic (A19) (c20) ((if (((2 : Int))) = 0 then 0 else (((-7 : Int))).fmod (((2 : Int))))))), (g22, 24, (ic (A16) (c17) (((((-7 : Int))).fdiv (((2 : Int)))))))] := hS
 refine st rfl (op_store (X := (g59 :: (g55 :: (g26 :: (g22 :: X))))) hF hS 1 rfl (by simp) rfl rfl rfl TfY.size24 rfl (Nat.le_of_ble_eq_true rfl) ?_)
 intro w63 hS E64
 replace hS : St w w63 [(g59, 24, #[(.bool (false)), (.slice (none) (0) (0))]), (g55, 24, (ic (A49) (c50) (((((7 : Int))).fdiv (((-2 : Int))))))), (g26, 24, (ic (A19) (c20) ((if (((2 : Int))) = 0 then 0 else (((-7 : Int))).fmod (((2 : Int))))))), (g22, 24, (ic (A16) (c17) (((((-7 : Int))).fdiv (((2 : Int)))))))] := hS
 refine st rfl (op_store (X := (g59 :: (g55 :: (g26 :: (g22 :: X))))) hF hS 0 rfl (by simp) rfl rfl rfl TfY.size24 rfl (Nat.le_of_ble_eq_true rfl) ?_)
 intro w65 hS E66
 replace hS : St w w65 [(g59, 24, (ic (A52) (c53) ((if (((-2 : Int))) = 0 then 0 else (((7 : Int))).fmod (((-2 : Int))))))), (g55, 24, (ic (A49) (c50) (((((7 : Int))).fdiv (((-2 : Int))))))), (g26, 24, (ic (A19) (c20) ((if (((2 : Int))) = 0 then 0 else (((-7 : Int))).fmod (((2 : Int))))))), (g22, 24, (ic (A16) (c17) (((((-7 : Int))).fdiv (((2 : Int)))))))] := hS
 refine st_val hF rfl rfl rfl (ex_assign (hF.ev rfl)) ?_
 clear hF fa; intro fa hF
 replace hF : Frm 90 fa [(0, (.bool (false))), (1, (.pointer (some ⟨g22, 0, none⟩))), (2, (.pointer (some ⟨g26, 0, none⟩))), (3, (.int .i64 ((0 : Int)))), (4, (.pointer (some ⟨g55, 0, none⟩))), (5, (.pointer (some ⟨g59, 0, none⟩))), (6, (.int .i64 ((0 : Int))))] := (hF.take (hF.take (hF.take (hF.take (hF.take (hF.take (hF.take hF.nil rfl) rfl) rfl) rfl) rfl) rfl) rfl)
 refine c_nil_then ?_
 refine c_seq ?_
 refine c_reg ?_
 have hC := integer_FromInt64_ok (w := w65) (X := (g59 :: (g55 :: (g26 :: (g22 :: X))))) (hS.bnd hX) 99 (by omega) (by omega)
 refine st rfl (op_call hF rfl TfY.body37 (args1 (hF.ev rfl)) hC ?_)
 clear hC
 rintro _ w67 ⟨⟨_, rfl, A70, c71, rfl, hu72⟩, hb68⟩
 refine gen_ ?_; clear hF fa; intro fa hF
 replace hS := hS.call hb68; have E69 := Ext.call (g59 :: (g55 :: (g26 :: (g22 :: X)))) hb68
 have hC := integer_Sqrt_ok (w := w67) (X := (g59 :: (g55 :: (g26 :: (g22 :: X))))) (a := ((99 : Int))) (hS.bnd hX) (IntV.of_ (n := (lim (((99 : Int))).natAbs).length) (b := decide (((99 : Int)) < 0)) (x := ((99 : Int))) (hu72) (rfl) (rfl) (rfl)) (Nat.le_trans (sz_64 (by decide) (by decide)) (by decide))
 rw [show ((if (((99 : Int))) < 0 then 7 else 0)) = (0 : Int) from by decide] at hC
 refine st rfl (op_call hF rfl TfY.body25 (args1 (hF.ev rfl)) hC ?_)
 clear hC
 rintro _ w73 ⟨⟨rt_76, _, _, rfl, ⟨_, rfl, A77, c78, rfl, hu79⟩, rfl, hp80⟩, hb74⟩
 refine gen_ ?_; clear hF fa; intro fa hF
 replace hS := hS.call hb74; have E75 := Ext.call (g59 :: (g55 :: (g26 :: (g22 :: X)))) hb74
 have hrt := sqrt99 hp80
 refine st_val hF rfl rfl rfl (ex_move (hF.ev rfl)) ?_
 clear hF fa; intro fa hF
 refine st_val hF rfl rfl rfl (ex_extract (hF.ev rfl) rfl) ?_
 clear hF fa; intro fa hF
 refine st_val hF rfl rfl rfl (ex_extract (hF.ev rfl) rfl) ?_
 clear hF fa; intro fa hF
 refine st rfl (op_alloc (X := (g59 :: (g55 :: (g26 :: (g22 :: X))))) hF hS rfl TfY.zero24 ?_)
 intro g81 w82 hg84 hS E83; refine gen_ ?_; clear hF fa; intro fa hF
 replace hS : St w w82 [(g81, 24, #[(.bool (false)), (.slice (none) (0) (0))]), (g59, 24, (ic (A52) (c53) ((if (((-2 : Int))) = 0 then 0 else (((7 : Int))).fmod (((-2 : Int))))))), (g55, 24, (ic (A49) (c50) (((((7 : Int))).fdiv (((-2 : Int))))))), (g26, 24, (ic (A19) (c20) ((if (((2 : Int))) = 0 then 0 else (((-7 : Int))).fmod (((2 : Int))))))), (g22, 24, (ic (A16) (c17) (((((-7 : Int))).fdiv (((2 : Int)))))))] := hS
 refine st rfl (op_store (X := (g81 :: (g59 :: (g55 :: (g26 :: (g22 :: X)))))) hF hS 0 rfl (by simp) rfl rfl rfl TfY.size24 rfl (Nat.le_of_ble_eq_true rfl) ?_)
 intro w85 hS E86
 replace hS : St w w85 [(g81, 24, (ic (A77) (c78) (((rt_76 : Nat) : Int)))), (g59, 24, (ic (A52) (c53) ((if (((-2 : Int))) = 0 then 0 else (((7 : Int))).fmod (((-2 : Int))))))), (g55, 24, (ic (A49) (c50) (((((7 : Int))).fdiv (((-2 : Int))))))), (g26, 24, (ic (A19) (c20) ((if (((2 : Int))) = 0 then 0 else (((-7 : Int))).fmod (((2 : Int))))))), (g22, 24, (ic (A16) (c17) (((((-7 : Int))).fdiv (((2 : Int)))))))] := hS
 refine st_val hF rfl rfl rfl (ex_assign (hF.ev rfl)) ?_
 clear hF fa; intro fa hF
 refine c_nil_then ?_
 refine c_seq ?_
 refine c_reg ?_
 have hC := integer_Parse_ok (w := w85) (X := (g81 :: (g59 :: (g55 :: (g26 :: (g22 :: X)))))) (hS.bnd hX) (⟨#[45, 48]⟩ : ByteArray) (.inl rfl)
 refine st rfl (op_call hF rfl TfY.body39 (args1 (hF.ev rfl)) hC ?_)
 clear hC
 rintro _ w87 ⟨⟨_, _, rfl, ⟨_, rfl, A90, c91, rfl, hu92⟩, rfl⟩, hb88⟩
 refine gen_ ?_; clear hF fa; intro fa hF
 replace hS := hS.call hb88; have E89 := Ext.call (g81 :: (g59 :: (g55 :: (g26 :: (g22 :: X))))) hb88
 refine st_val hF rfl rfl rfl (ex_move (hF.ev rfl)) ?_
 clear hF fa; intro fa hF
 refine st_val hF rfl rfl rfl (ex_extract (hF.ev rfl) rfl) ?_
 clear hF fa; intro fa hF
 refine st_val hF rfl rfl rfl (ex_extract (hF.ev rfl) rfl) ?_
 clear hF fa; intro fa hF
 refine st rfl (op_alloc (X := (g81 :: (g59 :: (g55 :: (g26 :: (g22 :: X)))))) hF hS rfl TfY.zero24 ?_)
 intro g93 w94 hg96 hS E95; refine gen_ ?_; clear hF fa; intro fa hF
 replace hS : St w w94 [(g93, 24, #[(.bool (false)), (.slice (none) (0) (0))]), (g81, 24, (ic (A77) (c78) (((rt_76 : Nat) : Int)))), (g59, 24, (ic (A52) (c53) ((if (((-2 : Int))) = 0 then 0 else (((7 : Int))).fmod (((-2 : Int))))))), (g55, 24, (ic (A49) (c50) (((((7 : Int))).fdiv (((-2 : Int))))))), (g26, 24, (ic (A19) (c20) ((if (((2 : Int))) = 0 then 0 else (((-7 : Int))).fmod (((2 : Int))))))), (g22, 24, (ic (A16) (c17) (((((-7 : Int))).fdiv (((2 : Int)))))))] := hS
 refine st rfl (op_store (X := (g93 :: (g81 :: (g59 :: (g55 :: (g26 :: (g22 :: X))))))) hF hS 0 rfl (by simp) rfl rfl rfl TfY.size24 rfl (Nat.le_of_ble_eq_true rfl) ?_)
 intro w97 hS E98
 replace hS : St w w97 [(g93, 24, (ic (A90) (c91) ((0 : Int)))), (g81, 24, (ic (A77) (c78) (((rt_76 : Nat) : Int)))), (g59, 24, (ic (A52) (c53) ((if (((-2 : Int))) = 0 then 0 else (((7 : Int))).fmod (((-2 : Int))))))), (g55, 24, (ic (A49) (c50) (((((7 : Int))).fdiv (((-2 : Int))))))), (g26, 24, (ic (A19) (c20) ((if (((2 : Int))) = 0 then 0 else (((-7 : Int))).fmod (((2 : Int))))))), (g22, 24, (ic (A16) (c17) (((((-7 : Int))).fdiv (((2 : Int)))))))] := hS
 refine st_val hF rfl rfl rfl (ex_assign (hF.ev rfl)) ?_
 clear hF fa; intro fa hF
 refine c_nil_then ?_
 refine c_seq ?_
 refine c_reg ?_
 have hC := integer_Parse_ok (w := w97) (X := (g93 :: (g81 :: (g59 :: (g55 :: (g26 :: (g22 :: X))))))) (hS.bnd hX) (⟨#[48, 49]⟩ : ByteArray) (.inr rfl)
 refine st rfl (op_call hF rfl TfY.body39 (args1 (hF.ev rfl)) hC ?_)
 clear hC
 rintro _ w99 ⟨⟨_, _, rfl, ⟨_, rfl, A102, c103, rfl, hu104⟩, rfl⟩, hb100⟩
 refine gen_ ?_; clear hF fa; intro fa hF
 replace hS := hS.call hb100; have E101 := Ext.call (g93 :: (g81 :: (g59 :: (g55 :: (g26 :: (g22 :: X)))))) hb100
 refine st_val hF rfl rfl rfl (ex_move (hF.ev rfl)) ?_
 clear hF fa; intro fa hF
 refine st_val hF rfl rfl rfl (ex_extract (hF.ev rfl) rfl) ?_
 clear hF fa; intro fa hF
 refine st_val hF rfl rfl rfl (ex_extract (hF.ev rfl) rfl) ?_
 clear hF fa; intro fa hF
 refine st rfl (op_alloc (X := (g93 :: (g81 :: (g59 :: (g55 :: (g26 :: (g22 :: X))))))) hF hS rfl TfY.zero24 ?_)
 intro g105 w106 hg108 hS E107; refine gen_ ?_; clear hF fa; intro fa hF
 replace hS : St w w106 [(g105, 24, #[(.bool (false)), (.slice (none) (0) (0))]), (g93, 24, (ic (A90) (c91) ((0 : Int)))), (g81, 24, (ic (A77) (c78) (((rt_76 : Nat) : Int)))), (g59, 24, (ic (A52) (c53) ((if (((-2 : Int))) = 0 then 0 else (((7 : Int))).fmod (((-2 : Int))))))), (g55, 24, (ic (A49) (c50) (((((7 : Int))).fdiv (((-2 : Int))))))), (g26, 24, (ic (A19) (c20) ((if (((2 : Int))) = 0 then 0 else (((-7 : Int))).fmod (((2 : Int))))))), (g22, 24, (ic (A16) (c17) (((((-7 : Int))).fdiv (((2 : Int)))))))] := hS
 refine st rfl (op_store (X := (g105 :: (g93 :: (g81 :: (g59 :: (g55 :: (g26 :: (g22 :: X)))))))) hF hS 0 rfl (by simp) rfl rfl rfl TfY.size24 rfl (Nat.le_of_ble_eq_true rfl) ?_)
 intro w109 hS E110
 replace hS : St w w109 [(g105, 24, (ic (A102) (c103) ((0 : Int)))), (g93, 24, (ic (A90) (c91) ((0 : Int)))), (g81, 24, (ic (A77) (c78) (((rt_76 : Nat) : Int)))), (g59, 24, (ic (A52) (c53) ((if (((-2 : Int))) = 0 then 0 else (((7 : Int))).fmod (((-2 : Int))))))), (g55, 24, (ic (A49) (c50) (((((7 : Int))).fdiv (((-2 : Int))))))), (g26, 24, (ic (A19) (c20) ((if (((2 : Int))) = 0 then 0 else (((-7 : Int))).fmod (((2 : Int))))))), (g22, 24, (ic (A16) (c17) (((((-7 : Int))).fdiv (((2 : Int)))))))] := hS
 refine st_val hF rfl rfl rfl (ex_assign (hF.ev rfl)) ?_
 clear hF fa; intro fa hF
 replace hF : Frm 90 fa [(0, (.bool (false))), (1, (.pointer (some ⟨g22, 0, none⟩))), (2, (.pointer (some ⟨g26, 0, none⟩))), (3, (.int .i64 ((0 : Int)))), (4, (.pointer (some ⟨g55, 0, none⟩))), (5, (.pointer (some ⟨g59, 0, none⟩))), (6, (.int .i64 ((0 : Int)))), (7, (.pointer (some ⟨g81, 0, none⟩))), (8, (.int .i64 ((0 : Int)))), (10, (.int .i64 (2))), (12, (.int .i64 (2)))] := (hF.take (hF.take (hF.take (hF.take (hF.take (hF.take (hF.take (hF.take (hF.take (hF.take (hF.take hF.nil rfl) rfl) rfl) rfl) rfl) rfl) rfl) rfl) rfl) rfl) rfl)
 refine c_nil_then ?_
 refine c_seq ?_
 refine c_reg ?_
 have hC := integer_FromInt64_ok (w := w109) (X := (g105 :: (g93 :: (g81 :: (g59 :: (g55 :: (g26 :: (g22 :: X)))))))) (hS.bnd hX) 1000000000 (by omega) (by omega)
 refine st rfl (op_call hF rfl TfY.body37 (args1 (hF.ev rfl)) hC ?_)
 clear hC
 rintro _ w111 ⟨⟨_, rfl, A114, c115, rfl, hu116⟩, hb112⟩
 refine gen_ ?_; clear hF fa; intro fa hF
 replace hS := hS.call hb112; have E113 := Ext.call (g105 :: (g93 :: (g81 :: (g59 :: (g55 :: (g26 :: (g22 :: X))))))) hb112
 refine st rfl (op_lit (X := (g105 :: (g93 :: (g81 :: (g59 :: (g55 :: (g26 :: (g22 :: X)))))))) hF hS (hS.bnd hX) rfl TfY.sl22 TfY.el46 rfl rfl (lits2 (hF.ev (ev_int (b := ((0 : Nat) : Int)) rfl (by omega))) (hF.ev (ev_int (b := ((1 : Nat) : Int)) rfl (by omega)))) (fill_u2 (x := 0) (y := 1)) ?_)
 intro g117 w118 hg120 hS E119 hc121; refine gen_ ?_; clear hF fa; intro fa hF
 have hu122 := UC.one (l := [0, 1]) hc121 (by simp)
 refine st_val hF rfl rfl rfl (ex_build1 TfY.two24 TfY.zero24 (hF.ev rfl) rfl) ?_
 clear hF fa; intro fa hF
 have hC := law01_same_ok (w := w118) (X := (g105 :: (g93 :: (g81 :: (g59 :: (g55 :: (g26 :: (g22 :: X)))))))) (a := ((1000000000 : Int))) (b := (1000000000 : Int)) (hS.bnd hX) (IntV.of_ (n := (lim (((1000000000 : Int))).natAbs).length) (b := decide (((1000000000 : Int)) < 0)) (x := ((1000000000 : Int))) ((hu116.ext E119)) (rfl) (rfl) (rfl)) (IntV.of_ (n := 2) (b := false) (x := (1000000000 : Int)) (hu122) (rfl) (rfl) (lim_base))
 rw [show (decide ((((1000000000 : Int))) = ((1000000000 : Int)))) = true from by decide] at hC
 refine st rfl (op_call hF rfl TfY.body19 (args2 (hF.ev rfl) (hF.ev rfl)) hC ?_)
 clear hC
 rintro _ w123 ⟨rfl, hb124⟩
 refine gen_ ?_; clear hF fa; intro fa hF
 replace hS := hS.call hb124; have E125 := Ext.call (g105 :: (g93 :: (g81 :: (g59 :: (g55 :: (g26 :: (g22 :: X))))))) hb124
 refine st_val hF rfl rfl rfl (ex_move (hF.ev rfl)) ?_
 clear hF fa; intro fa hF
 refine stg_val hF rfl rfl rfl rfl (ex_loadb TfY.row24 (hF.ev rfl) (hS.get 6 rfl) rfl) ?_
 clear hF fa; intro fa hF
 have hC := law01_is_ok (w := w123) (X := (g105 :: (g93 :: (g81 :: (g59 :: (g55 :: (g26 :: (g22 :: X)))))))) (a := ((((-7 : Int))).fdiv (((2 : Int))))) (hS.bnd hX) (IntV.of_ (n := (lim ((((-7 : Int))).fdiv (((2 : Int)))).natAbs).length) (b := decide (((((-7 : Int))).fdiv (((2 : Int)))) < 0)) (x := (((-7 : Int))).fdiv (((2 : Int)))) ((hu18.ext (((((((((((((((((((((((E24.trans E28).trans E31).trans E33).trans E36).trans E42).trans E48).trans E57).trans E61).trans E64).trans E66).trans E69).trans E75).trans E83).trans E86).trans E89).trans E95).trans E98).trans E101).trans E107).trans E110).trans E113).trans E119).trans E125))) (rfl) (rfl) (rfl)) (-4) (by omega) (by omega)
 rw [show (decide (((((-7 : Int))).fdiv (((2 : Int)))) = ((-4 : Int)))) = true from by decide] at hC
 refine stg hF rfl rfl (op_call hF rfl TfY.body16 (args2 (hF.ev rfl) (hF.ev rfl)) hC ?_)
 clear hC
 rintro _ w126 ⟨rfl, hb127⟩
 refine gen_ ?_; clear hF fa; intro fa hF
 replace hS := hS.call hb127; have E128 := Ext.call (g105 :: (g93 :: (g81 :: (g59 :: (g55 :: (g26 :: (g22 :: X))))))) hb127
 refine st_val hF rfl rfl rfl (ex_pick (hF.ev rfl) (fun _ => hF.ev rfl) (v := undef) (fun h => by cases h) rfl) ?_
 clear hF fa; intro fa hF
 refine st_val hF rfl rfl rfl (ex_move (hF.ev rfl)) ?_
 clear hF fa; intro fa hF
 refine stg_val hF rfl rfl rfl rfl (ex_loadb TfY.row24 (hF.ev rfl) (hS.get 5 rfl) rfl) ?_
 clear hF fa; intro fa hF
 have hC := law01_is_ok (w := w126) (X := (g105 :: (g93 :: (g81 :: (g59 :: (g55 :: (g26 :: (g22 :: X)))))))) (a := (if (((2 : Int))) = 0 then 0 else (((-7 : Int))).fmod (((2 : Int))))) (hS.bnd hX) (IntV.of_ (n := (lim ((if (((2 : Int))) = 0 then 0 else (((-7 : Int))).fmod (((2 : Int))))).natAbs).length) (b := decide ((if (((2 : Int))) = 0 then 0 else (((-7 : Int))).fmod (((2 : Int)))) < 0)) (x := (if (((2 : Int))) = 0 then 0 else (((-7 : Int))).fmod (((2 : Int))))) ((hu21.ext ((((((((((((((((((((((((E24.trans E28).trans E31).trans E33).trans E36).trans E42).trans E48).trans E57).trans E61).trans E64).trans E66).trans E69).trans E75).trans E83).trans E86).trans E89).trans E95).trans E98).trans E101).trans E107).trans E110).trans E113).trans E119).trans E125).trans E128))) (rfl) (rfl) (rfl)) 1 (by omega) (by omega)
 rw [show (decide (((if (((2 : Int))) = 0 then 0 else (((-7 : Int))).fmod (((2 : Int))))) = ((1 : Int)))) = true from by decide] at hC
 refine stg hF rfl rfl (op_call hF rfl TfY.body16 (args2 (hF.ev rfl) (hF.ev rfl)) hC ?_)
 clear hC
 rintro _ w129 ⟨rfl, hb130⟩
 refine gen_ ?_; clear hF fa; intro fa hF
 replace hS := hS.call hb130; have E131 := Ext.call (g105 :: (g93 :: (g81 :: (g59 :: (g55 :: (g26 :: (g22 :: X))))))) hb130
 refine st_val hF rfl rfl rfl (ex_pick (hF.ev rfl) (fun _ => hF.ev rfl) (v := undef) (fun h => by cases h) rfl) ?_
 clear hF fa; intro fa hF
 refine st_val hF rfl rfl rfl (ex_move (hF.ev rfl)) ?_
 clear hF fa; intro fa hF
 refine stg_val hF rfl rfl rfl rfl (ex_move (hF.ev rfl)) ?_
 clear hF fa; intro fa hF
 refine stg_val hF rfl rfl rfl rfl (ex_b (t := decide ((0 : Int) = 0)) (b := true) (by decide) (ex_eql (hF.ev rfl) (hF.ev rfl))) ?_
 clear hF fa; intro fa hF
 refine st_val hF rfl rfl rfl (ex_pick (hF.ev rfl) (fun _ => hF.ev rfl) (v := undef) (fun h => by cases h) rfl) ?_
 clear hF fa; intro fa hF
 refine st_val hF rfl rfl rfl (ex_move (hF.ev rfl)) ?_
 clear hF fa; intro fa hF
 refine stg_val hF rfl rfl rfl rfl (ex_loadb TfY.row24 (hF.ev rfl) (hS.get 4 rfl) rfl) ?_
 clear hF fa; intro fa hF
 have hC := law01_is_ok (w := w129) (X := (g105 :: (g93 :: (g81 :: (g59 :: (g55 :: (g26 :: (g22 :: X)))))))) (a := ((((7 : Int))).fdiv (((-2 : Int))))) (hS.bnd hX) (IntV.of_ (n := (lim ((((7 : Int))).fdiv (((-2 : Int)))).natAbs).length) (b := decide (((((7 : Int))).fdiv (((-2 : Int)))) < 0)) (x := (((7 : Int))).fdiv (((-2 : Int)))) ((hu51.ext ((((((((((((((((((E57.trans E61).trans E64).trans E66).trans E69).trans E75).trans E83).trans E86).trans E89).trans E95).trans E98).trans E101).trans E107).trans E110).trans E113).trans E119).trans E125).trans E128).trans E131))) (rfl) (rfl) (rfl)) (-4) (by omega) (by omega)
 rw [show (decide (((((7 : Int))).fdiv (((-2 : Int)))) = ((-4 : Int)))) = true from by decide] at hC
 refine stg hF rfl rfl (op_call hF rfl TfY.body16 (args2 (hF.ev rfl) (hF.ev rfl)) hC ?_)
 clear hC
 rintro _ w132 ⟨rfl, hb133⟩
 refine gen_ ?_; clear hF fa; intro fa hF
 replace hS := hS.call hb133; have E134 := Ext.call (g105 :: (g93 :: (g81 :: (g59 :: (g55 :: (g26 :: (g22 :: X))))))) hb133
 refine st_val hF rfl rfl rfl (ex_pick (hF.ev rfl) (fun _ => hF.ev rfl) (v := undef) (fun h => by cases h) rfl) ?_
 clear hF fa; intro fa hF
 refine st_val hF rfl rfl rfl (ex_move (hF.ev rfl)) ?_
 clear hF fa; intro fa hF
 refine stg_val hF rfl rfl rfl rfl (ex_loadb TfY.row24 (hF.ev rfl) (hS.get 3 rfl) rfl) ?_
 clear hF fa; intro fa hF
 have hC := law01_is_ok (w := w132) (X := (g105 :: (g93 :: (g81 :: (g59 :: (g55 :: (g26 :: (g22 :: X)))))))) (a := (if (((-2 : Int))) = 0 then 0 else (((7 : Int))).fmod (((-2 : Int))))) (hS.bnd hX) (IntV.of_ (n := (lim ((if (((-2 : Int))) = 0 then 0 else (((7 : Int))).fmod (((-2 : Int))))).natAbs).length) (b := decide ((if (((-2 : Int))) = 0 then 0 else (((7 : Int))).fmod (((-2 : Int)))) < 0)) (x := (if (((-2 : Int))) = 0 then 0 else (((7 : Int))).fmod (((-2 : Int))))) ((hu54.ext (((((((((((((((((((E57.trans E61).trans E64).trans E66).trans E69).trans E75).trans E83).trans E86).trans E89).trans E95).trans E98).trans E101).trans E107).trans E110).trans E113).trans E119).trans E125).trans E128).trans E131).trans E134))) (rfl) (rfl) (rfl)) (-1) (by omega) (by omega)
 rw [show (decide (((if (((-2 : Int))) = 0 then 0 else (((7 : Int))).fmod (((-2 : Int))))) = ((-1 : Int)))) = true from by decide] at hC
 refine stg hF rfl rfl (op_call hF rfl TfY.body16 (args2 (hF.ev rfl) (hF.ev rfl)) hC ?_)
 clear hC
 rintro _ w135 ⟨rfl, hb136⟩
 refine gen_ ?_; clear hF fa; intro fa hF
 replace hS := hS.call hb136; have E137 := Ext.call (g105 :: (g93 :: (g81 :: (g59 :: (g55 :: (g26 :: (g22 :: X))))))) hb136
 refine st_val hF rfl rfl rfl (ex_pick (hF.ev rfl) (fun _ => hF.ev rfl) (v := undef) (fun h => by cases h) rfl) ?_
 clear hF fa; intro fa hF
 refine st_val hF rfl rfl rfl (ex_move (hF.ev rfl)) ?_
 clear hF fa; intro fa hF
 refine stg_val hF rfl rfl rfl rfl (ex_move (hF.ev rfl)) ?_
 clear hF fa; intro fa hF
 refine stg_val hF rfl rfl rfl rfl (ex_b (t := decide ((0 : Int) = 0)) (b := true) (by decide) (ex_eql (hF.ev rfl) (hF.ev rfl))) ?_
 clear hF fa; intro fa hF
 refine st_val hF rfl rfl rfl (ex_pick (hF.ev rfl) (fun _ => hF.ev rfl) (v := undef) (fun h => by cases h) rfl) ?_
 clear hF fa; intro fa hF
 refine st_val hF rfl rfl rfl (ex_move (hF.ev rfl)) ?_
 clear hF fa; intro fa hF
 refine stg_val hF rfl rfl rfl rfl (ex_loadb TfY.row24 (hF.ev rfl) (hS.get 2 rfl) rfl) ?_
 clear hF fa; intro fa hF
 have hC := law01_is_ok (w := w135) (X := (g105 :: (g93 :: (g81 :: (g59 :: (g55 :: (g26 :: (g22 :: X)))))))) (a := ((rt_76 : Nat) : Int)) (hS.bnd hX) (IntV.of_ (n := (lim (((rt_76 : Nat) : Int)).natAbs).length) (b := decide (((rt_76 : Nat) : Int) < 0)) (x := ((rt_76 : Nat) : Int)) ((hu79.ext ((((((((((((((E83.trans E86).trans E89).trans E95).trans E98).trans E101).trans E107).trans E110).trans E113).trans E119).trans E125).trans E128).trans E131).trans E134).trans E137))) (rfl) (rfl) (rfl)) 9 (by omega) (by omega)
 rw [show (decide ((((rt_76 : Nat) : Int)) = ((9 : Int)))) = true from by rw [hrt]; decide] at hC
 refine stg hF rfl rfl (op_call hF rfl TfY.body16 (args2 (hF.ev rfl) (hF.ev rfl)) hC ?_)
 clear hC
 rintro _ w138 ⟨rfl, hb139⟩
 refine gen_ ?_; clear hF fa; intro fa hF
 replace hS := hS.call hb139; have E140 := Ext.call (g105 :: (g93 :: (g81 :: (g59 :: (g55 :: (g26 :: (g22 :: X))))))) hb139
 refine st_val hF rfl rfl rfl (ex_pick (hF.ev rfl) (fun _ => hF.ev rfl) (v := undef) (fun h => by cases h) rfl) ?_
 clear hF fa; intro fa hF
 refine st_val hF rfl rfl rfl (ex_move (hF.ev rfl)) ?_
 clear hF fa; intro fa hF
 refine stg_val hF rfl rfl rfl rfl (ex_move (hF.ev rfl)) ?_
 clear hF fa; intro fa hF
 refine stg_val hF rfl rfl rfl rfl (ex_b (t := decide ((0 : Int) = 0)) (b := true) (by decide) (ex_eql (hF.ev rfl) (hF.ev rfl))) ?_
 clear hF fa; intro fa hF
 refine st_val hF rfl rfl rfl (ex_pick (hF.ev rfl) (fun _ => hF.ev rfl) (v := undef) (fun h => by cases h) rfl) ?_
 clear hF fa; intro fa hF
 refine st_val hF rfl rfl rfl (ex_move (hF.ev rfl)) ?_
 clear hF fa; intro fa hF
 have hC := integer_FromInt64_ok (w := w138) (X := (g105 :: (g93 :: (g81 :: (g59 :: (g55 :: (g26 :: (g22 :: X)))))))) (hS.bnd hX) (-12) (by omega) (by omega)
 refine stg hF rfl rfl (op_call hF rfl TfY.body37 (args1 (hF.ev rfl)) hC ?_)
 clear hC
 rintro _ w141 ⟨⟨_, rfl, A144, c145, rfl, hu146⟩, hb142⟩
 refine gen_ ?_; clear hF fa; intro fa hF
 replace hS := hS.call hb142; have E143 := Ext.call (g105 :: (g93 :: (g81 :: (g59 :: (g55 :: (g26 :: (g22 :: X))))))) hb142
 have hC := integer_FromInt64_ok (w := w141) (X := (g105 :: (g93 :: (g81 :: (g59 :: (g55 :: (g26 :: (g22 :: X)))))))) (hS.bnd hX) 18 (by omega) (by omega)
 refine stg hF rfl rfl (op_call hF rfl TfY.body37 (args1 (hF.ev rfl)) hC ?_)
 clear hC
 rintro _ w147 ⟨⟨_, rfl, A150, c151, rfl, hu152⟩, hb148⟩
 refine gen_ ?_; clear hF fa; intro fa hF
 replace hS := hS.call hb148; have E149 := Ext.call (g105 :: (g93 :: (g81 :: (g59 :: (g55 :: (g26 :: (g22 :: X))))))) hb148
 have hC := integer_GCD_ok (w := w147) (X := (g105 :: (g93 :: (g81 :: (g59 :: (g55 :: (g26 :: (g22 :: X)))))))) (a := ((-12 : Int))) (b := ((18 : Int))) (hS.bnd hX) (IntV.of_ (n := (lim (((-12 : Int))).natAbs).length) (b := decide (((-12 : Int)) < 0)) (x := ((-12 : Int))) ((hu146.ext E149)) (rfl) (rfl) (rfl)) (IntV.of_ (n := (lim (((18 : Int))).natAbs).length) (b := decide (((18 : Int)) < 0)) (x := ((18 : Int))) (hu152) (rfl) (rfl) (rfl)) (Nat.le_trans (sz_64 (by decide) (by decide)) (by decide)) (Nat.le_trans (sz_64 (by decide) (by decide)) (by decide))
 refine stg hF rfl rfl (op_call hF rfl TfY.body23 (args2 (hF.ev rfl) (hF.ev rfl)) hC ?_)
 clear hC
 rintro _ w153 ⟨⟨_, rfl, A156, c157, rfl, hu158⟩, hb154⟩
 refine gen_ ?_; clear hF fa; intro fa hF
 replace hS := hS.call hb154; have E155 := Ext.call (g105 :: (g93 :: (g81 :: (g59 :: (g55 :: (g26 :: (g22 :: X))))))) hb154
 have hC := law01_is_ok (w := w153) (X := (g105 :: (g93 :: (g81 :: (g59 :: (g55 :: (g26 :: (g22 :: X)))))))) (a := ((Nat.gcd (((-12 : Int))).natAbs (((18 : Int))).natAbs : Nat) : Int)) (hS.bnd hX) (IntV.of_ (n := (lim (((Nat.gcd (((-12 : Int))).natAbs (((18 : Int))).natAbs : Nat) : Int)).natAbs).length) (b := decide (((Nat.gcd (((-12 : Int))).natAbs (((18 : Int))).natAbs : Nat) : Int) < 0)) (x := ((Nat.gcd (((-12 : Int))).natAbs (((18 : Int))).natAbs : Nat) : Int)) (hu158) (rfl) (rfl) (rfl)) 6 (by omega) (by omega)
 rw [show (decide ((((Nat.gcd (((-12 : Int))).natAbs (((18 : Int))).natAbs : Nat) : Int)) = ((6 : Int)))) = true from by decide] at hC
 refine stg hF rfl rfl (op_call hF rfl TfY.body16 (args2 (hF.ev rfl) (hF.ev rfl)) hC ?_)
 clear hC
 rintro _ w159 ⟨rfl, hb160⟩
 refine gen_ ?_; clear hF fa; intro fa hF
 replace hS := hS.call hb160; have E161 := Ext.call (g105 :: (g93 :: (g81 :: (g59 :: (g55 :: (g26 :: (g22 :: X))))))) hb160
 refine st_val hF rfl rfl rfl (ex_pick (hF.ev rfl) (fun _ => hF.ev rfl) (v := undef) (fun h => by cases h) rfl) ?_
 clear hF fa; intro fa hF
 refine st_val hF rfl rfl rfl (ex_move (hF.ev rfl)) ?_
 clear hF fa; intro fa hF
 refine stg_val hF rfl rfl rfl rfl (ex_move (hF.ev rfl)) ?_
 clear hF fa; intro fa hF
 refine stg_val hF rfl rfl rfl rfl (ex_b (t := decide ((2 : Int) = 2)) (b := true) (by decide) (ex_eql (hF.ev rfl) (hF.ev rfl))) ?_
 clear hF fa; intro fa hF
 refine st_val hF rfl rfl rfl (ex_pick (hF.ev rfl) (fun _ => hF.ev rfl) (v := undef) (fun h => by cases h) rfl) ?_
 clear hF fa; intro fa hF
 refine st_val hF rfl rfl rfl (ex_move (hF.ev rfl)) ?_
 clear hF fa; intro fa hF
 refine stg_val hF rfl rfl rfl rfl (ex_move (hF.ev rfl)) ?_
 clear hF fa; intro fa hF
 refine stg_val hF rfl rfl rfl rfl (ex_b (t := decide ((2 : Int) = 2)) (b := true) (by decide) (ex_eql (hF.ev rfl) (hF.ev rfl))) ?_
 clear hF fa; intro fa hF
 refine st_val hF rfl rfl rfl (ex_pick (hF.ev rfl) (fun _ => hF.ev rfl) (v := undef) (fun h => by cases h) rfl) ?_
 clear hF fa; intro fa hF
 refine st_val hF rfl rfl rfl (ex_assign (hF.ev rfl)) ?_
 clear hF fa; intro fa hF
 replace hF : Frm 90 fa [(0, (.bool (true))), (1, (.pointer (some ⟨g22, 0, none⟩))), (2, (.pointer (some ⟨g26, 0, none⟩))), (3, (.int .i64 ((0 : Int)))), (4, (.pointer (some ⟨g55, 0, none⟩))), (5, (.pointer (some ⟨g59, 0, none⟩))), (6, (.int .i64 ((0 : Int)))), (7, (.pointer (some ⟨g81, 0, none⟩))), (8, (.int .i64 ((0 : Int)))), (10, (.int .i64 (2))), (12, (.int .i64 (2)))] := (hF.take (hF.take (hF.take (hF.take (hF.take (hF.take (hF.take (hF.take (hF.take (hF.take (hF.take hF.nil rfl) rfl) rfl) rfl) rfl) rfl) rfl) rfl) rfl) rfl) rfl)
 refine c_nil_then ?_
 refine c_ret ?_
 refine end1 hF rfl (res_tmp hF rfl) ?_
 exact ⟨_, rfl, (congrArg Value.bool (by simp_all)), hS.below⟩

end Go.Proofs.Ytlaojdpcfenlkaa
