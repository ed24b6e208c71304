/-
  What the functions Int64 do, each call by call.
  Conditions: none.
-/
import Derived.Test.YtlaojdpcfenlkaaChecked
import Derived.Test.YtlaojdpcfenlkaaSwBaseK
import Derived.Test.YtlaojdpcfenlkaaWH
namespace Go.Proofs.Ytlaojdpcfenlkaa
open Go Go.RowKit Go.Sw
set_option linter.unusedVariables false
namespace TfO2
theorem body34 : hasBody Try.prog 34 = true := by kernel_rfl
theorem body37 : hasBody Try.prog 37 = true := by kernel_rfl
theorem mixed : Try.prog.follows .mixedOrders = true := by kernel_rfl
theorem off24_0 : fieldOff Try.prog 24 0 = some 0 := by kernel_rfl
theorem off24_1 : fieldOff Try.prog 24 1 = some 1 := by kernel_rfl
theorem one22 : isOne Try.prog 22 = true := by kernel_rfl
theorem one4 : isOne Try.prog 4 = true := by kernel_rfl
theorem one46 : isOne Try.prog 46 = true := by kernel_rfl
theorem row24 : isRow Try.prog 24 2 = true := by kernel_rfl
theorem sl22 : sliceOf Try.prog 22 = some (46, 1) := by kernel_rfl
theorem sls22 : (sliceOf Try.prog 22).isSome = true := by kernel_rfl
theorem und2 : Try.prog.underlying 2 = some (TypeDesc.int .i64) := by kernel_rfl
theorem und54 : Try.prog.underlying 54 = some (TypeDesc.int .u64) := by kernel_rfl
theorem unds46 : (Try.prog.underlying 46).isSome = true := by kernel_rfl
theorem unds54 : (Try.prog.underlying 54).isSome = true := by kernel_rfl
end TfO2
set_option maxHeartbeats 4000000 in
theorem integer_Int64_ok {w : World} {X : List Nat} (hX : ∀ m ∈ X, m < w.heap.size) {v_a : Value} {a : Int} (h_a : IntV w X v_a (a)) :
    Calls Try.prog 36 #[v_a] w (Ret fun r w' => (∃ r0 r1, r = .tuple #[r0, r1] ∧ r0 = .int .i64 (if -9223372036854775808 ≤ a ∧ a ≤ 9223372036854775807 then a else 0) ∧ r1 = .bool (decide (-9223372036854775808 ≤ a ∧ a ≤ 9223372036854775807))) ∧ Below w.heap.size w w') := by
 refine enter (N := 39) (fn := Try.f36) (vs := [v_a]) Try.func36 rfl rfl rfl ?_
 intro fa hF
 obtain ⟨_, rfl, A_a, c_a, rfl, hu_a⟩ := h_a
 have hl_a := hu_a.len; have hc_a := hu_a.cap
 replace hF : Frm 39 fa [(0, (.agg (ic (A_a) (c_a) (a))))] := hF
 have hS := St.refl w
 refine c_seq ?_
 refine c_reg ?_
 refine st rfl (op_box (X := X) hF hS rfl rfl rfl ?_)
 intro g1 w2 hg4 hS E3; refine gen_ ?_; clear hF fa; intro fa hF
 replace hS : St w w2 [(g1, 24, (ic (A_a) (c_a) (a)))] := hS
 refine st_val hF rfl rfl rfl (ex_assign (hF.ev rfl)) ?_
 clear hF fa; intro fa hF
 refine st_val hF rfl rfl rfl (ex_assign (hF.ev rfl)) ?_
 clear hF fa; intro fa hF
 refine c_nil_then ?_
 refine c_seq ?_
 refine c_seq ?_
 rcases Bool.eq_false_or_eq_true (decide ((cmpI a (((-9223372036854775808 : Int)))) < 0)) with hk5 | hk5
 ·
  have hk5p := hk5; simp at hk5p
  have hf1 := cmpI_lt0.1 (of_decide_eq_true hk5)
  refine drawn2 (N := 39) (L0 := [(0, (.agg (ic (A_a) (c_a) (a)))), (1, (.pointer (some ⟨g1, 0, none⟩))), (2, (.int .i64 (0))), (3, (.bool (false)))]) [some (.agg (ic (A_a) (c_a) (a))), none, some (.int .i64 (cmpI a (((-9223372036854775808 : Int))))), some (.bool (true)), some (.bool (true)), some undef, some undef, some undef, some undef, some (.bool (true))] [1, 2] [[], [1], [1, 2]] [[0, 1], [0], [1], [2], [2], [0, 1, 2], [0, 1, 2], [0, 1, 2], [0, 1, 2], [0, 1, 2]] 2 [
        fun fa w' => Frm 39 fa [] ∧ St w w' [(g1, 24, (ic (A_a) (c_a) (a)))] ∧ Ext w2 (g1 :: X) w' (g1 :: X)
        , fun fa w' => ∃ Ao1_1_4 : Option Addr, ∃ co1_1_5 : Nat, Frm 39 fa [(7, (.agg (ic (Ao1_1_4) (co1_1_5) (((-9223372036854775808 : Int))))))] ∧ St w w' [(g1, 24, (ic (A_a) (c_a) (a)))] ∧ Ext w2 (g1 :: X) w' (g1 :: X) ∧ UC w' (g1 :: X) Ao1_1_4 co1_1_5 (lim (((-9223372036854775808 : Int))).natAbs)
        , fun fa w' => ∃ Ao1_1_4 : Option Addr, ∃ co1_1_5 : Nat, Frm 39 fa [(7, (.agg (ic (Ao1_1_4) (co1_1_5) (((-9223372036854775808 : Int)))))), (8, (.int .i64 (cmpI a (((-9223372036854775808 : Int))))))] ∧ St w w' [(g1, 24, (ic (A_a) (c_a) (a)))] ∧ Ext w2 (g1 :: X) w' (g1 :: X) ∧ UC w' (g1 :: X) Ao1_1_4 co1_1_5 (lim (((-9223372036854775808 : Int))).natAbs)
      ] TfO2.mixed rfl rfl rfl rfl rfl rfl (hF.take (hF.take (hF.take (hF.take hF.nil rfl) rfl) rfl) rfl) rfl ⟨hF.nil, hS.drew, Ext.drew _ _⟩ ?_ ?_ ?_
  all_goals clear hF fa
  ·
   refine ⟨?_, ?_, ?_, trivial⟩
   ·
    rintro fa w' i o d v ho hd hna ⟨hA, hR⟩; exact ⟨hA.put_other v (freeOf_at (acts := [1, 2]) rfl ho hd hna), hR⟩
   ·
    rintro fa w' i o d v ho hd hna ⟨Ao1_1_4, co1_1_5, hA, hR⟩; exact ⟨Ao1_1_4, co1_1_5, hA.put_other v (freeOf_at (acts := [1, 2]) rfl ho hd hna), hR⟩
   ·
    rintro fa w' i o d v ho hd hna ⟨Ao1_1_4, co1_1_5, hA, hR⟩; exact ⟨Ao1_1_4, co1_1_5, hA.put_other v (freeOf_at (acts := [1, 2]) rfl ho hd hna), hR⟩
  ·
   refine ⟨?_, ?_, ?_, ?_, ?_, ?_, ?_, ?_, ?_, ?_, trivial⟩
   ·
    refine .inr (.inl ⟨rfl, _, _, rfl, rfl, ?_, ?_, trivial⟩)
    ·
     intro fa w' hΦ hF hB K hK
     obtain ⟨hA, hS, E_w'⟩ := hΦ
     exact fl_val rfl rfl rfl (ex_loadb TfO2.row24 (hF.ev rfl) (hS.get 0 rfl) rfl) hK
    ·
     intro fa w' hΦ hF hB K hK
     obtain ⟨Ao1_1_4, co1_1_5, hA, hS, E_w', huo1_1_6⟩ := hΦ
     exact fl_val rfl rfl rfl (ex_loadb TfO2.row24 (hF.ev rfl) (hS.get 0 rfl) rfl) hK
   ·
    refine .inr (.inr ⟨rfl, ?_, trivial⟩)
    ·
     intro fa w' hΦ hF hB
     obtain ⟨hA, hS, E_w'⟩ := hΦ
     refine wop rfl rfl ?_
     have hC := integer_FromInt64_ok (w := w') (X := (g1 :: X)) (hS.bnd hX) (-9223372036854775808) (by omega) (by omega)
     refine op_call hF rfl TfO2.body37 (args1 (hF.ev rfl)) hC ?_
     clear hC
     rintro _ wo1_1_1 ⟨⟨_, rfl, Ao1_1_4, co1_1_5, rfl, huo1_1_6⟩, hbo1_1_2⟩
     clear hF; intro hF
     replace hS := hS.call hbo1_1_2; have Eo1_1_3 := Ext.call (g1 :: X) hbo1_1_2
     have hA1 := ((hA.put_other _ rfl).cons (hF.get 7 _ rfl))
     exact ⟨1, rfl, ⟨Ao1_1_4, co1_1_5, (hA1.take hA1.nil rfl), hS, (E_w'.trans Eo1_1_3), huo1_1_6⟩, _, rfl, fun u hu => by cases hu <;> rfl⟩
   ·
    refine .inr (.inr ⟨rfl, ?_, trivial⟩)
    ·
     intro fa w' hΦ hF hB
     obtain ⟨Ao1_1_4, co1_1_5, hA, hS, E_w', huo1_1_6⟩ := hΦ
     replace hF := hF.cons (hB.val 0 _ 6 _ rfl rfl rfl rfl)
     replace hF := hF.cons (hA.get 7 _ rfl)
     refine wop rfl rfl ?_
     have hC := integer_Cmp_ok (w := w') (X := (g1 :: X)) (a := a) (b := ((-9223372036854775808 : Int))) (hS.bnd hX) (IntV.of_ (n := (lim a.natAbs).length) (b := decide (a < 0)) (x := a) ((hu_a.ext (E3.trans E_w'))) (rfl) (rfl) (rfl)) (IntV.of_ (n := (lim (((-9223372036854775808 : Int))).natAbs).length) (b := decide (((-9223372036854775808 : Int)) < 0)) (x := ((-9223372036854775808 : Int))) (huo1_1_6) (rfl) (rfl) (rfl))
     refine op_call hF rfl TfO2.body34 (args2 (hF.ev rfl) (hF.ev rfl)) hC ?_
     clear hC
     rintro _ wo1_2_1 ⟨rfl, hbo1_2_2⟩
     clear hF; intro hF
     replace hS := hS.call hbo1_2_2; have Eo1_2_3 := Ext.call (g1 :: X) hbo1_2_2
     have hA1 := ((hA.put_other _ rfl).cons (hF.get 8 _ rfl))
     exact ⟨2, rfl, ⟨Ao1_1_4, co1_1_5, (hA1.take (hA1.take hA1.nil rfl) rfl), hS, (E_w'.trans Eo1_2_3), (huo1_1_6.ext Eo1_2_3)⟩, _, rfl, fun u hu => by cases hu <;> rfl⟩
   ·
    refine .inl ⟨rfl, _, _, rfl, rfl, fun s fa w' hΦ hF hB K hK => ?_⟩
    replace hF := hF.cons (hB.val 2 _ 8 _ rfl rfl rfl rfl)
    exact fl_val rfl rfl rfl (ex_b hk5 (ex_lss (hF.ev rfl) (hF.ev rfl))) hK
   ·
    refine .inl ⟨rfl, _, _, rfl, rfl, fun s fa w' hΦ hF hB K hK => ?_⟩
    replace hF := hF.cons (hB.val 3 _ 9 _ rfl rfl rfl rfl)
    exact fl_val rfl rfl rfl (ex_move (hF.ev rfl)) hK
   ·
    refine .inl ⟨rfl, _, _, rfl, rfl, fun s fa w' hΦ hF hB K hK => ?_⟩
    replace hF := hF.cons (hB.val 4 _ 10 _ rfl rfl rfl rfl)
    exact fl_skip hF rfl rfl rfl rfl rfl hK
   ·
    refine .inl ⟨rfl, _, _, rfl, rfl, fun s fa w' hΦ hF hB K hK => ?_⟩
    replace hF := hF.cons (hB.val 4 _ 10 _ rfl rfl rfl rfl)
    exact fl_skip hF rfl rfl rfl rfl rfl hK
   ·
    refine .inl ⟨rfl, _, _, rfl, rfl, fun s fa w' hΦ hF hB K hK => ?_⟩
    replace hF := hF.cons (hB.val 5 _ 11 _ rfl rfl rfl rfl)
    replace hF := hF.cons (hB.val 6 _ 12 _ rfl rfl rfl rfl)
    replace hF := hF.cons (hB.val 4 _ 10 _ rfl rfl rfl rfl)
    exact fl_skip hF rfl rfl rfl rfl rfl hK
   ·
    refine .inl ⟨rfl, _, _, rfl, rfl, fun s fa w' hΦ hF hB K hK => ?_⟩
    replace hF := hF.cons (hB.val 7 _ 13 _ rfl rfl rfl rfl)
    replace hF := hF.cons (hB.val 4 _ 10 _ rfl rfl rfl rfl)
    exact fl_skip hF rfl rfl rfl rfl rfl hK
   ·
    refine .inl ⟨rfl, _, _, rfl, rfl, fun s fa w' hΦ hF hB K hK => ?_⟩
    replace hF := hF.cons (hB.val 4 _ 10 _ rfl rfl rfl rfl)
    replace hF := hF.cons (hB.val 8 _ 14 _ rfl rfl rfl rfl)
    exact fl_val rfl rfl rfl (ex_pick (hF.ev rfl) (fun _ => hF.ev rfl) (v := undef) (fun h => by cases h) rfl) hK
  intro fa w6 hΦ hF hC
  obtain ⟨Ao1_1_4, co1_1_5, hA, hS, E_w6, huo1_1_6⟩ := hΦ
  replace hF := hF.cons (hC 9 _ 15 _ rfl rfl rfl)
  clear hA hC
  refine x_tn ?_
  refine c_cond hF rfl (fun hc => ?_) (fun hc => ?_)
  rotate_left
  ·
   cases hc
  refine c_seq ?_
  refine c_reg ?_
  refine st_val hF rfl rfl rfl (ex_assign (hF.ev rfl)) ?_
  clear hF fa; intro fa hF
  refine st_val hF rfl rfl rfl (ex_assign (hF.ev rfl)) ?_
  clear hF fa; intro fa hF
  refine c_nil_then ?_
  refine c_ret ?_
  refine x_tr ?_
  refine end2 hF rfl (res_tmp hF rfl) (res_tmp hF rfl) ?_
  exact ⟨_, rfl, ⟨_, _, rfl, (congrArg (Value.int .i64) (by rw [if_neg (by omega)])), (congrArg Value.bool (by symm; rw [decide_eq_false_iff_not]; omega))⟩, hS.below⟩
 have hk5p := hk5; simp at hk5p
 have hf1 := mt cmpI_lt0.2 (of_decide_eq_false hk5)
 refine drawn2 (N := 39) (L0 := [(0, (.agg (ic (A_a) (c_a) (a)))), (1, (.pointer (some ⟨g1, 0, none⟩))), (2, (.int .i64 (0))), (3, (.bool (false)))]) [some (.agg (ic (A_a) (c_a) (a))), none, some (.int .i64 (cmpI a (((-9223372036854775808 : Int))))), some (.bool (false)), some (.bool (false)), some (.agg (ic (A_a) (c_a) (a))), none, some (.int .i64 (cmpI a (((9223372036854775807 : Int))))), some (.bool (decide ((cmpI a (((9223372036854775807 : Int)))) > 0))), some (.bool (decide ((cmpI a (((9223372036854775807 : Int)))) > 0)))] [1, 2, 4, 6, 7] [[], [1], [1, 2], [1, 2, 4], [1, 2, 4, 6], [1, 2, 4, 6, 7]] [[0, 1], [0], [1], [2], [2], [3, 4], [3], [4], [5], [3, 4, 5]] 5 [
       fun fa w' => Frm 39 fa [] ∧ St w w' [(g1, 24, (ic (A_a) (c_a) (a)))] ∧ Ext w2 (g1 :: X) w' (g1 :: X)
       , fun fa w' => ∃ Ao1_1_4 : Option Addr, ∃ co1_1_5 : Nat, Frm 39 fa [(7, (.agg (ic (Ao1_1_4) (co1_1_5) (((-9223372036854775808 : Int))))))] ∧ St w w' [(g1, 24, (ic (A_a) (c_a) (a)))] ∧ Ext w2 (g1 :: X) w' (g1 :: X) ∧ UC w' (g1 :: X) Ao1_1_4 co1_1_5 (lim (((-9223372036854775808 : Int))).natAbs)
       , fun fa w' => ∃ Ao1_1_4 : Option Addr, ∃ co1_1_5 : Nat, Frm 39 fa [(7, (.agg (ic (Ao1_1_4) (co1_1_5) (((-9223372036854775808 : Int)))))), (8, (.int .i64 (cmpI a (((-9223372036854775808 : Int))))))] ∧ St w w' [(g1, 24, (ic (A_a) (c_a) (a)))] ∧ Ext w2 (g1 :: X) w' (g1 :: X) ∧ UC w' (g1 :: X) Ao1_1_4 co1_1_5 (lim (((-9223372036854775808 : Int))).natAbs)
       , fun fa w' => ∃ Ao1_1_4 : Option Addr, ∃ co1_1_5 : Nat, Frm 39 fa [(7, (.agg (ic (Ao1_1_4) (co1_1_5) (((-9223372036854775808 : Int)))))), (8, (.int .i64 (cmpI a (((-9223372036854775808 : Int)))))), (10, (.bool (false)))] ∧ St w w' [(g1, 24, (ic (A_a) (c_a) (a)))] ∧ Ext w2 (g1 :: X) w' (g1 :: X) ∧ UC w' (g1 :: X) Ao1_1_4 co1_1_5 (lim (((-9223372036854775808 : Int))).natAbs)
       , fun fa w' => ∃ Ao1_1_4 : Option Addr, ∃ co1_1_5 : Nat, ∃ Ao1_6_4 : Option Addr, ∃ co1_6_5 : Nat, Frm 39 fa [(7, (.agg (ic (Ao1_1_4) (co1_1_5) (((-9223372036854775808 : Int)))))), (8, (.int .i64 (cmpI a (((-9223372036854775808 : Int)))))), (10, (.bool (false))), (12, (.agg (ic (Ao1_6_4) (co1_6_5) (((9223372036854775807 : Int))))))] ∧ St w w' [(g1, 24, (ic (A_a) (c_a) (a)))] ∧ Ext w2 (g1 :: X) w' (g1 :: X) ∧ UC w' (g1 :: X) Ao1_1_4 co1_1_5 (lim (((-9223372036854775808 : Int))).natAbs) ∧ UC w' (g1 :: X) Ao1_6_4 co1_6_5 (lim (((9223372036854775807 : Int))).natAbs)
       , fun fa w' => ∃ Ao1_1_4 : Option Addr, ∃ co1_1_5 : Nat, ∃ Ao1_6_4 : Option Addr, ∃ co1_6_5 : Nat, Frm 39 fa [(7, (.agg (ic (Ao1_1_4) (co1_1_5) (((-9223372036854775808 : Int)))))), (8, (.int .i64 (cmpI a (((-9223372036854775808 : Int)))))), (10, (.bool (false))), (12, (.agg (ic (Ao1_6_4) (co1_6_5) (((9223372036854775807 : Int)))))), (13, (.int .i64 (cmpI a (((9223372036854775807 : Int))))))] ∧ St w w' [(g1, 24, (ic (A_a) (c_a) (a)))] ∧ Ext w2 (g1 :: X) w' (g1 :: X) ∧ UC w' (g1 :: X) Ao1_1_4 co1_1_5 (lim (((-9223372036854775808 : Int))).natAbs) ∧ UC w' (g1 :: X) Ao1_6_4 co1_6_5 (lim (((9223372036854775807 : Int))).natAbs)
     ] TfO2.mixed rfl rfl rfl rfl rfl rfl (hF.take (hF.take (hF.take (hF.take hF.nil rfl) rfl) rfl) rfl) rfl ⟨hF.nil, hS.drew, Ext.drew _ _⟩ ?_ ?_ ?_
 all_goals clear hF fa
 ·
  refine ⟨?_, ?_, ?_, ?_, ?_, ?_, trivial⟩
  ·
   rintro fa w' i o d v ho hd hna ⟨hA, hR⟩; exact ⟨hA.put_other v (freeOf_at (acts := [1, 2, 4, 6, 7]) rfl ho hd hna), hR⟩
  ·
   rintro fa w' i o d v ho hd hna ⟨Ao1_1_4, co1_1_5, hA, hR⟩; exact ⟨Ao1_1_4, co1_1_5, hA.put_other v (freeOf_at (acts := [1, 2, 4, 6, 7]) rfl ho hd hna), hR⟩
  ·
   rintro fa w' i o d v ho hd hna ⟨Ao1_1_4, co1_1_5, hA, hR⟩; exact ⟨Ao1_1_4, co1_1_5, hA.put_other v (freeOf_at (acts := [1, 2, 4, 6, 7]) rfl ho hd hna), hR⟩
  ·
   rintro fa w' i o d v ho hd hna ⟨Ao1_1_4, co1_1_5, hA, hR⟩; exact ⟨Ao1_1_4, co1_1_5, hA.put_other v (freeOf_at (acts := [1, 2, 4, 6, 7]) rfl ho hd hna), hR⟩
  ·
   rintro fa w' i o d v ho hd hna ⟨Ao1_1_4, co1_1_5, Ao1_6_4, co1_6_5, hA, hR⟩; exact ⟨Ao1_1_4, co1_1_5, Ao1_6_4, co1_6_5, hA.put_other v (freeOf_at (acts := [1, 2, 4, 6, 7]) rfl ho hd hna), hR⟩
  ·
   rintro fa w' i o d v ho hd hna ⟨Ao1_1_4, co1_1_5, Ao1_6_4, co1_6_5, hA, hR⟩; exact ⟨Ao1_1_4, co1_1_5, Ao1_6_4, co1_6_5, hA.put_other v (freeOf_at (acts := [1, 2, 4, 6, 7]) rfl ho hd hna), hR⟩
 ·
  refine ⟨?_, ?_, ?_, ?_, ?_, ?_, ?_, ?_, ?_, ?_, trivial⟩
  ·
   refine .inr (.inl ⟨rfl, _, _, rfl, rfl, ?_, ?_, trivial⟩)
   ·
    intro fa w' hΦ hF hB K hK
    obtain ⟨hA, hS, E_w'⟩ := hΦ
    exact fl_val rfl rfl rfl (ex_loadb TfO2.row24 (hF.ev rfl) (hS.get 0 rfl) rfl) hK
   ·
    intro fa w' hΦ hF hB K hK
    obtain ⟨Ao1_1_4, co1_1_5, hA, hS, E_w', huo1_1_6⟩ := hΦ
    exact fl_val rfl rfl rfl (ex_loadb TfO2.row24 (hF.ev rfl) (hS.get 0 rfl) rfl) hK
  ·
   refine .inr (.inr ⟨rfl, ?_, trivial⟩)
   ·
    intro fa w' hΦ hF hB
    obtain ⟨hA, hS, E_w'⟩ := hΦ
    refine wop rfl rfl ?_
    have hC := integer_FromInt64_ok (w := w') (X := (g1 :: X)) (hS.bnd hX) (-9223372036854775808) (by omega) (by omega)
    refine op_call hF rfl TfO2.body37 (args1 (hF.ev rfl)) hC ?_
    clear hC
    rintro _ wo1_1_1 ⟨⟨_, rfl, Ao1_1_4, co1_1_5, rfl, huo1_1_6⟩, hbo1_1_2⟩
    clear hF; intro hF
    replace hS := hS.call hbo1_1_2; have Eo1_1_3 := Ext.call (g1 :: X) hbo1_1_2
    have hA1 := ((hA.put_other _ rfl).cons (hF.get 7 _ rfl))
    exact ⟨1, rfl, ⟨Ao1_1_4, co1_1_5, (hA1.take hA1.nil rfl), hS, (E_w'.trans Eo1_1_3), huo1_1_6⟩, _, rfl, fun u hu => by cases hu <;> rfl⟩
  ·
   refine .inr (.inr ⟨rfl, ?_, trivial⟩)
   ·
    intro fa w' hΦ hF hB
    obtain ⟨Ao1_1_4, co1_1_5, hA, hS, E_w', huo1_1_6⟩ := hΦ
    replace hF := hF.cons (hB.val 0 _ 6 _ rfl rfl rfl rfl)
    replace hF := hF.cons (hA.get 7 _ rfl)
    refine wop rfl rfl ?_
    have hC := integer_Cmp_ok (w := w') (X := (g1 :: X)) (a := a) (b := ((-9223372036854775808 : Int))) (hS.bnd hX) (IntV.of_ (n := (lim a.natAbs).length) (b := decide (a < 0)) (x := a) ((hu_a.ext (E3.trans E_w'))) (rfl) (rfl) (rfl)) (IntV.of_ (n := (lim (((-9223372036854775808 : Int))).natAbs).length) (b := decide (((-9223372036854775808 : Int)) < 0)) (x := ((-9223372036854775808 : Int))) (huo1_1_6) (rfl) (rfl) (rfl))
    refine op_call hF rfl TfO2.body34 (args2 (hF.ev rfl) (hF.ev rfl)) hC ?_
    clear hC
    rintro _ wo1_2_1 ⟨rfl, hbo1_2_2⟩
    clear hF; intro hF
    replace hS := hS.call hbo1_2_2; have Eo1_2_3 := Ext.call (g1 :: X) hbo1_2_2
    have hA1 := ((hA.put_other _ rfl).cons (hF.get 8 _ rfl))
    exact ⟨2, rfl, ⟨Ao1_1_4, co1_1_5, (hA1.take (hA1.take hA1.nil rfl) rfl), hS, (E_w'.trans Eo1_2_3), (huo1_1_6.ext Eo1_2_3)⟩, _, rfl, fun u hu => by cases hu <;> rfl⟩
  ·
   refine .inl ⟨rfl, _, _, rfl, rfl, fun s fa w' hΦ hF hB K hK => ?_⟩
   replace hF := hF.cons (hB.val 2 _ 8 _ rfl rfl rfl rfl)
   exact fl_val rfl rfl rfl (ex_b hk5 (ex_lss (hF.ev rfl) (hF.ev rfl))) hK
  ·
   refine .inr (.inr ⟨rfl, ?_, trivial⟩)
   ·
    intro fa w' hΦ hF hB
    obtain ⟨Ao1_1_4, co1_1_5, hA, hS, E_w', huo1_1_6⟩ := hΦ
    replace hF := hF.cons (hB.val 3 _ 9 _ rfl rfl rfl rfl)
    refine wop rfl rfl ?_
    refine op_val hF rfl rfl (ex_move (hF.ev rfl)) ?_; clear hF; intro hF
    have hA1 := ((hA.put_other _ rfl).cons (hF.get 10 _ rfl))
    exact ⟨3, rfl, ⟨Ao1_1_4, co1_1_5, (hA1.take (hA1.take (hA1.take hA1.nil rfl) rfl) rfl), hS, E_w', huo1_1_6⟩, _, rfl, fun u hu => by cases hu <;> rfl⟩
  ·
   refine .inr (.inl ⟨rfl, _, _, rfl, rfl, ?_, ?_, trivial⟩)
   ·
    intro fa w' hΦ hF hB K hK
    obtain ⟨Ao1_1_4, co1_1_5, hA, hS, E_w', huo1_1_6⟩ := hΦ
    replace hF := hF.cons (hB.val 4 _ 10 _ rfl rfl rfl rfl)
    exact fl_valg hF rfl rfl rfl rfl (ex_loadb TfO2.row24 (hF.ev rfl) (hS.get 0 rfl) rfl) hK
   ·
    intro fa w' hΦ hF hB K hK
    obtain ⟨Ao1_1_4, co1_1_5, Ao1_6_4, co1_6_5, hA, hS, E_w', huo1_1_6, huo1_6_6⟩ := hΦ
    replace hF := hF.cons (hB.val 4 _ 10 _ rfl rfl rfl rfl)
    exact fl_valg hF rfl rfl rfl rfl (ex_loadb TfO2.row24 (hF.ev rfl) (hS.get 0 rfl) rfl) hK
  ·
   refine .inr (.inr ⟨rfl, ?_, trivial⟩)
   ·
    intro fa w' hΦ hF hB
    obtain ⟨Ao1_1_4, co1_1_5, hA, hS, E_w', huo1_1_6⟩ := hΦ
    replace hF := hF.cons (hB.val 4 _ 10 _ rfl rfl rfl rfl)
    refine wopg hF rfl rfl rfl ?_
    have hC := integer_FromInt64_ok (w := w') (X := (g1 :: X)) (hS.bnd hX) 9223372036854775807 (by omega) (by omega)
    refine op_call hF rfl TfO2.body37 (args1 (hF.ev rfl)) hC ?_
    clear hC
    rintro _ wo1_6_1 ⟨⟨_, rfl, Ao1_6_4, co1_6_5, rfl, huo1_6_6⟩, hbo1_6_2⟩
    clear hF; intro hF
    replace hS := hS.call hbo1_6_2; have Eo1_6_3 := Ext.call (g1 :: X) hbo1_6_2
    have hA1 := ((hA.put_other _ rfl).cons (hF.get 12 _ rfl))
    exact ⟨4, rfl, ⟨Ao1_1_4, co1_1_5, Ao1_6_4, co1_6_5, (hA1.take (hA1.take (hA1.take (hA1.take hA1.nil rfl) rfl) rfl) rfl), hS, (E_w'.trans Eo1_6_3), (huo1_1_6.ext Eo1_6_3), huo1_6_6⟩, _, rfl, fun u hu => by cases hu <;> rfl⟩
  ·
   refine .inr (.inr ⟨rfl, ?_, trivial⟩)
   ·
    intro fa w' hΦ hF hB
    obtain ⟨Ao1_1_4, co1_1_5, Ao1_6_4, co1_6_5, hA, hS, E_w', huo1_1_6, huo1_6_6⟩ := hΦ
    replace hF := hF.cons (hB.val 5 _ 11 _ rfl rfl rfl rfl)
    replace hF := hF.cons (hA.get 12 _ rfl)
    replace hF := hF.cons (hB.val 4 _ 10 _ rfl rfl rfl rfl)
    refine wopg hF rfl rfl rfl ?_
    have hC := integer_Cmp_ok (w := w') (X := (g1 :: X)) (a := a) (b := ((9223372036854775807 : Int))) (hS.bnd hX) (IntV.of_ (n := (lim a.natAbs).length) (b := decide (a < 0)) (x := a) ((hu_a.ext (E3.trans E_w'))) (rfl) (rfl) (rfl)) (IntV.of_ (n := (lim (((9223372036854775807 : Int))).natAbs).length) (b := decide (((9223372036854775807 : Int)) < 0)) (x := ((9223372036854775807 : Int))) (huo1_6_6) (rfl) (rfl) (rfl))
    refine op_call hF rfl TfO2.body34 (args2 (hF.ev rfl) (hF.ev rfl)) hC ?_
    clear hC
    rintro _ wo1_7_1 ⟨rfl, hbo1_7_2⟩
    clear hF; intro hF
    replace hS := hS.call hbo1_7_2; have Eo1_7_3 := Ext.call (g1 :: X) hbo1_7_2
    have hA1 := ((hA.put_other _ rfl).cons (hF.get 13 _ rfl))
    exact ⟨5, rfl, ⟨Ao1_1_4, co1_1_5, Ao1_6_4, co1_6_5, (hA1.take (hA1.take (hA1.take (hA1.take (hA1.take hA1.nil rfl) rfl) rfl) rfl) rfl), hS, (E_w'.trans Eo1_7_3), (huo1_1_6.ext Eo1_7_3), (huo1_6_6.ext Eo1_7_3)⟩, _, rfl, fun u hu => by cases hu <;> rfl⟩
  ·
   refine .inl ⟨rfl, _, _, rfl, rfl, fun s fa w' hΦ hF hB K hK => ?_⟩
   replace hF := hF.cons (hB.val 7 _ 13 _ rfl rfl rfl rfl)
   replace hF := hF.cons (hB.val 4 _ 10 _ rfl rfl rfl rfl)
   exact fl_valg hF rfl rfl rfl rfl (ex_gtr (hF.ev rfl) (hF.ev rfl)) hK
  ·
   refine .inl ⟨rfl, _, _, rfl, rfl, fun s fa w' hΦ hF hB K hK => ?_⟩
   replace hF := hF.cons (hB.val 4 _ 10 _ rfl rfl rfl rfl)
   replace hF := hF.cons (hB.val 8 _ 14 _ rfl rfl rfl rfl)
   exact fl_val rfl rfl rfl (ex_pick (hF.ev rfl) (u := undef) (fun h => by cases h) (fun _ => hF.ev rfl) rfl) hK
 intro fa w7 hΦ hF hC
 obtain ⟨Ao1_1_4, co1_1_5, Ao1_6_4, co1_6_5, hA, hS, E_w7, huo1_1_6, huo1_6_6⟩ := hΦ
 replace hF := hF.cons (hC 9 _ 15 _ rfl rfl rfl)
 clear hA hC
 refine x_tn ?_
 refine c_cond hF rfl (fun hc8 => ?_) (fun hc8 => ?_)
 ·
  have hc8p : (cmpI a (((9223372036854775807 : Int)))) > 0 := by first | simpa using hc8 | exact bang_t hc8 | exact bang_f hc8
  have hf2 := cmpI_gt0.1 hc8p
  refine c_seq ?_
  refine c_reg ?_
  refine st_val hF rfl rfl rfl (ex_assign (hF.ev rfl)) ?_
  clear hF fa; intro fa hF
  refine st_val hF rfl rfl rfl (ex_assign (hF.ev rfl)) ?_
  clear hF fa; intro fa hF
  refine c_nil_then ?_
  refine c_ret ?_
  refine x_tr ?_
  refine end2 hF rfl (res_tmp hF rfl) (res_tmp hF rfl) ?_
  exact ⟨_, rfl, ⟨_, _, rfl, (congrArg (Value.int .i64) (by rw [if_neg (by omega)])), (congrArg Value.bool (by symm; rw [decide_eq_false_iff_not]; omega))⟩, hS.below⟩
 have hc8p : ¬ ((cmpI a (((9223372036854775807 : Int)))) > 0) := by first | simpa using hc8 | exact bang_t hc8 | exact bang_f hc8
 have hf2 := mt cmpI_gt0.2 hc8p
 have hsz : (lim a.natAbs).length ≤ 3 := sz_64 (by omega) (by omega)
 have hlb := lb_lim a.natAbs; have hvl := val_lim a.natAbs
 refine c_skip ?_
 refine x_tn ?_
 refine c_seq ?_
 refine c_reg ?_
 refine st_val hF rfl rfl rfl (ex_assign (hF.ev rfl)) ?_
 clear hF fa; intro fa hF
 refine c_nil_then ?_
 refine c_seq ?_
 refine c_seq ?_
 refine c_reg ?_
 refine st_val hF rfl rfl rfl (ex_field_addr TfO2.off24_1 (hF.ev rfl)) ?_
 clear hF fa; intro fa hF
 refine st_val hF rfl rfl rfl (ex_load1b TfO2.one22 (hF.ev rfl) (hS.get 0 rfl) rfl) ?_
 clear hF fa; intro fa hF
 refine st_val hF rfl rfl rfl (ex_len TfO2.sls22 (hF.ev rfl)) ?_
 clear hF fa; intro fa hF
 refine st_val hF rfl rfl rfl (ex_sub (hF.ev rfl) (hF.ev rfl) (wi64 (by omega) (by omega))) ?_
 clear hF fa; intro fa hF
 refine st_val hF rfl rfl rfl (ex_assign (hF.ev rfl)) ?_
 clear hF fa; intro fa hF
 refine c_nil_then ?_
 refine c_block ?_
 refine c_loop (fun mu fa w' => ∃ k : Nat, Frm 39 fa [(0, (.agg (ic (A_a) (c_a) (a)))), (1, (.pointer (some ⟨g1, 0, none⟩))), (2, (.int .i64 (0))), (3, (.bool (false))), (15, (.bool (decide ((cmpI a (((9223372036854775807 : Int)))) > 0)))), (4, (.int .u64 (((val ((lim a.natAbs).drop k) : Nat) : Int)))), (5, (.int .i64 (((k : Nat) : Int) - 1)))] ∧ w7 = w' ∧ (k ≤ (lim a.natAbs).length) ∧ k = mu) ?_ ?_
 ·
  exact ⟨_, (lim a.natAbs).length, (hF.take (hF.take (hF.take (hF.take (hF.take (hF.take (hF.take hF.nil (lk_int rfl (by omega))) (lk_int rfl (by first | omega | (rw [val_drop_all (Nat.le_refl _)]; rfl)))) rfl) rfl) rfl) rfl) rfl), rfl, (by omega), rfl⟩
 clear hF fa; intro n0_ fa w' hI
 obtain ⟨k, hF, rfl, hk, rfl⟩ := hI
 have hdk := val_drop_le (lim a.natAbs) k; have hdk1 := val_drop_le (lim a.natAbs) (k - 1)
 refine c_seq ?_
 refine c_seq ?_
 refine c_reg ?_
 refine st_val hF rfl rfl rfl (ex_move (hF.ev rfl)) ?_
 clear hF fa; intro fa hF
 refine st_val hF rfl rfl rfl (ex_geq (hF.ev rfl) (hF.ev rfl)) ?_
 clear hF fa; intro fa hF
 refine c_nil_then ?_
 refine c_cond hF rfl (fun hc9 => ?_) (fun hc9 => ?_)
 ·
  have hc9p : (((k : Nat) : Int) - 1) ≥ 0 := by first | simpa using hc9 | exact bang_t hc9 | exact bang_f hc9
  have hst := val_drop (l := (lim a.natAbs)) (k := k) (by omega) hk
  have hgd := hlb.getD (k - 1)
  refine c_skip ?_
  refine x_tn ?_
  refine c_seq ?_
  refine c_block ?_
  refine c_reg ?_
  refine st_val hF rfl rfl rfl (ex_move (hF.ev rfl)) ?_
  clear hF fa; intro fa hF
  refine st_val hF rfl rfl rfl (ex_mul (hF.ev rfl) (hF.ev rfl) (wu64 (by omega) (by omega))) ?_
  clear hF fa; intro fa hF
  refine st_val hF rfl rfl rfl (ex_field_addr TfO2.off24_1 (hF.ev rfl)) ?_
  clear hF fa; intro fa hF
  refine st_val hF rfl rfl rfl (ex_load1b TfO2.one22 (hF.ev rfl) (hS.get 0 rfl) rfl) ?_
  clear hF fa; intro fa hF
  refine st_val hF rfl rfl rfl (ex_move (hF.ev rfl)) ?_
  clear hF fa; intro fa hF
  obtain ⟨ad10, hA11, hq12⟩ := (hu_a.ext (E3.trans E_w7)).cl.at_ (us_get (l := (lim a.natAbs)) (i := k - 1) (by omega))
  refine st_val hF rfl rfl rfl (ex_idx (j := k - 1) TfO2.sl22 (hF.ev rfl) hA11 (hF.ev rfl) (by omega) (by omega)) ?_
  clear hF fa; intro fa hF
  refine st_val hF rfl rfl rfl (ex_load1 TfO2.one46 (hF.ev rfl) hq12) ?_
  clear hF fa; intro fa hF
  refine st_val hF rfl rfl rfl (ex_conv TfO2.unds46 TfO2.und54 (hF.ev rfl) (wu64n (by omega))) ?_
  clear hF fa; intro fa hF
  refine st_val hF rfl rfl rfl (ex_add (hF.ev rfl) (hF.ev rfl) (wu64 (by omega) (by omega))) ?_
  clear hF fa; intro fa hF
  refine st_val hF rfl rfl rfl (ex_assign (hF.ev rfl)) ?_
  clear hF fa; intro fa hF
  replace hF : Frm 39 fa [(0, (.agg (ic (A_a) (c_a) (a)))), (1, (.pointer (some ⟨g1, 0, none⟩))), (2, (.int .i64 (0))), (3, (.bool (false))), (15, (.bool (decide ((cmpI a (((9223372036854775807 : Int)))) > 0)))), (4, (.int .u64 ((((val ((lim a.natAbs).drop k) : Nat) : Int) * 1000000000) + (((lim a.natAbs).getD (k - 1) 0 : Nat) : Int)))), (5, (.int .i64 (((k : Nat) : Int) - 1))), (21, (.bool (decide ((((k : Nat) : Int) - 1) ≥ 0))))] := (hF.take (hF.take (hF.take (hF.take (hF.take (hF.take (hF.take (hF.take hF.nil rfl) rfl) rfl) rfl) rfl) rfl) rfl) rfl)
  refine c_nil ?_
  refine x_bn ?_
  refine x_tn ?_
  refine c_reg ?_
  refine st_val hF rfl rfl rfl (ex_move (hF.ev rfl)) ?_
  clear hF fa; intro fa hF
  refine st_val hF rfl rfl rfl (ex_sub (hF.ev rfl) (hF.ev rfl) (wi64 (by omega) (by omega))) ?_
  clear hF fa; intro fa hF
  refine st_val hF rfl rfl rfl (ex_assign (hF.ev rfl)) ?_
  clear hF fa; intro fa hF
  refine c_nil ?_
  refine x_tn ?_
  exact ⟨_, (by omega), (k - 1), (hF.take (hF.take (hF.take (hF.take (hF.take (hF.take (hF.take hF.nil (lk_int rfl (by omega))) (lk_int rfl (by first | omega | (rw [val_drop_all (Nat.le_refl _)]; rfl)))) rfl) rfl) rfl) rfl) rfl), rfl, (by omega), rfl⟩
 have hc9p : ¬ ((((k : Nat) : Int) - 1) ≥ 0) := by first | simpa using hc9 | exact bang_t hc9 | exact bang_f hc9
 have h0 : k = 0 := by omega
 subst h0
 have hv0 : val ((lim a.natAbs).drop 0) = a.natAbs := by rw [List.drop_zero, hvl]
 refine c_exit ?_
 refine x_te ?_
 refine x_te ?_
 refine x_bh ?_
 refine x_tn ?_
 refine c_seq ?_
 refine c_seq ?_
 refine c_reg ?_
 refine st_val hF rfl rfl rfl (ex_field_addr TfO2.off24_0 (hF.ev rfl)) ?_
 clear hF fa; intro fa hF
 refine st_val hF rfl rfl rfl (ex_load1b TfO2.one4 (hF.ev rfl) (hS.get 0 rfl) rfl) ?_
 clear hF fa; intro fa hF
 refine c_nil_then ?_
 refine c_cond hF rfl (fun hc13 => ?_) (fun hc13 => ?_)
 ·
  have hc13p : a < 0 := by first | simpa using hc13 | exact bang_t hc13 | exact bang_f hc13
  refine c_reg ?_
  refine st_val hF rfl rfl rfl (ex_move (hF.ev rfl)) ?_
  clear hF fa; intro fa hF
  refine st_val hF rfl rfl rfl (ex_neg (hF.ev rfl) (show _ = IntKind.u64.wrap (0 - (a.natAbs : Int)) from by rw [hv0])) ?_
  clear hF fa; intro fa hF
  refine st_val hF rfl rfl rfl (ex_assign (hF.ev rfl)) ?_
  clear hF fa; intro fa hF
  refine c_nil_then ?_
  refine c_seq ?_
  refine c_reg ?_
  refine st_val hF rfl rfl rfl (ex_move (hF.ev rfl)) ?_
  clear hF fa; intro fa hF
  refine st_val hF rfl rfl rfl (ex_conv TfO2.unds54 TfO2.und2 (hF.ev rfl) (show _ = a from by first | (rw [hv0]; exact pos_wrap (by omega) (by omega)) | exact neg_wrap_u (by omega) (by omega))) ?_
  clear hF fa; intro fa hF
  refine st_val hF rfl rfl rfl (ex_assign (hF.ev rfl)) ?_
  clear hF fa; intro fa hF
  refine st_val hF rfl rfl rfl (ex_assign (hF.ev rfl)) ?_
  clear hF fa; intro fa hF
  refine c_nil_then ?_
  refine c_ret ?_
  refine end2 hF rfl (res_tmp hF rfl) (res_tmp hF rfl) ?_
  exact ⟨_, rfl, ⟨_, _, rfl, (congrArg (Value.int .i64) (by rw [if_pos ⟨by omega, by omega⟩])), (congrArg Value.bool (by symm; rw [decide_eq_true_eq]; omega))⟩, hS.below⟩
 have hc13p : ¬ (a < 0) := by first | simpa using hc13 | exact bang_t hc13 | exact bang_f hc13
 refine c_skip ?_
 refine x_tn ?_
 refine c_seq ?_
 refine c_reg ?_
 refine st_val hF rfl rfl rfl (ex_move (hF.ev rfl)) ?_
 clear hF fa; intro fa hF
 refine st_val hF rfl rfl rfl (ex_conv TfO2.unds54 TfO2.und2 (hF.ev rfl) (show _ = a from by first | (rw [hv0]; exact pos_wrap (by omega) (by omega)) | exact neg_wrap_u (by omega) (by omega))) ?_
 clear hF fa; intro fa hF
 refine st_val hF rfl rfl rfl (ex_assign (hF.ev rfl)) ?_
 clear hF fa; intro fa hF
 refine st_val hF rfl rfl rfl (ex_assign (hF.ev rfl)) ?_
 clear hF fa; intro fa hF
 refine c_nil_then ?_
 refine c_ret ?_
 refine end2 hF rfl (res_tmp hF rfl) (res_tmp hF rfl) ?_
 exact ⟨_, rfl, ⟨_, _, rfl, (congrArg (Value.int .i64) (by rw [if_pos ⟨by omega, by omega⟩])), (congrArg Value.bool (by symm; rw [decide_eq_true_eq]; omega))⟩, hS.below⟩

end Go.Proofs.Ytlaojdpcfenlkaa
