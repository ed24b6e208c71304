/-
  What the functions same, is do, each call by call.
  Conditions: none.
-/
import Derived.Test.YtlaojdpcfenlkaaChecked
import Derived.Test.YtlaojdpcfenlkaaSwBaseK
import Derived.Test.YtlaojdpcfenlkaaWH
namespace Go.Proofs.Ytlaojdpcfenlkaa
open Go Go.RowKit Go.Sw
set_option linter.unusedVariables false
namespace TfP
theorem body19 : hasBody Try.prog 19 = true := by kernel_rfl
theorem body26 : hasBody Try.prog 26 = true := by kernel_rfl
theorem body44 : hasBody Try.prog 44 = true := by kernel_rfl
theorem mixed : Try.prog.follows .mixedOrders = true := by kernel_rfl
theorem row24 : isRow Try.prog 24 2 = true := by kernel_rfl
end TfP
set_option maxHeartbeats 4000000 in
theorem law01_same_ok {w : World} {X : List Nat} (hX : ∀ m ∈ X, m < w.heap.size) {v_a : Value} {a : Int} (h_a : IntV w X v_a (a)) {v_b : Value} {b : Int} (h_b : IntV w X v_b (b)) :
    Calls Try.prog 19 #[v_a, v_b] w (Ret fun r w' => (r = .bool (decide (a = b))) ∧ Below w.heap.size w w') := by
 refine enter (N := 8) (fn := Try.f19) (vs := [v_a, v_b]) Try.func19 rfl rfl rfl ?_
 intro fa hF
 obtain ⟨_, rfl, A_a, c_a, rfl, hu_a⟩ := h_a
 have hl_a := hu_a.len; have hc_a := hu_a.cap
 obtain ⟨_, rfl, A_b, c_b, rfl, hu_b⟩ := h_b
 have hl_b := hu_b.len; have hc_b := hu_b.cap
 replace hF : Frm 8 fa [(0, (.agg (ic (A_a) (c_a) (a)))), (1, (.agg (ic (A_b) (c_b) (b))))] := hF
 have hS := St.refl w
 refine c_seq ?_
 refine c_reg ?_
 refine st rfl (op_box (X := X) hF hS rfl rfl rfl ?_)
 intro g1 w2 hg4 hS E3; refine gen_ ?_; clear hF fa; intro fa hF
 replace hS : St w w2 [(g1, 24, (ic (A_a) (c_a) (a)))] := hS
 refine st rfl (op_box (X := (g1 :: X)) hF hS rfl rfl rfl ?_)
 intro g5 w6 hg8 hS E7; refine gen_ ?_; clear hF fa; intro fa hF
 replace hS : St w w6 [(g5, 24, (ic (A_b) (c_b) (b))), (g1, 24, (ic (A_a) (c_a) (a)))] := hS
 refine st_val hF rfl rfl rfl (ex_assign (hF.ev rfl)) ?_
 clear hF fa; intro fa hF
 refine c_nil_then ?_
 refine c_seq ?_
 refine c_reg ?_
 refine st_val hF rfl rfl rfl (ex_loadb TfP.row24 (hF.ev rfl) (hS.get 1 rfl) rfl) ?_
 clear hF fa; intro fa hF
 refine st_val hF rfl rfl rfl (ex_loadb TfP.row24 (hF.ev rfl) (hS.get 0 rfl) rfl) ?_
 clear hF fa; intro fa hF
 have hC := ref01_Same_ok (w := w6) (X := (g5 :: (g1 :: X))) (a := a) (b := b) (hS.bnd hX) (IntV.of_ (n := (lim a.natAbs).length) (b := decide (a < 0)) (x := a) ((hu_a.ext (E3.trans E7))) (rfl) (rfl) (rfl)) (IntV.of_ (n := (lim b.natAbs).length) (b := decide (b < 0)) (x := b) ((hu_b.ext (E3.trans E7))) (rfl) (rfl) (rfl))
 refine st rfl (op_call hF rfl TfP.body44 (args2 (hF.ev rfl) (hF.ev rfl)) hC ?_)
 clear hC
 rintro _ w9 ⟨rfl, hb10⟩
 refine gen_ ?_; clear hF fa; intro fa hF
 replace hS := hS.call hb10; have E11 := Ext.call (g5 :: (g1 :: X)) hb10
 refine st_val hF rfl rfl rfl (ex_assign (hF.ev rfl)) ?_
 clear hF fa; intro fa hF
 refine c_nil_then ?_
 refine c_ret ?_
 refine end1 hF rfl (res_tmp hF rfl) ?_
 exact ⟨_, rfl, (congrArg Value.bool (rfl)), hS.below⟩

set_option maxHeartbeats 4000000 in
theorem law01_is_ok {w : World} {X : List Nat} (hX : ∀ m ∈ X, m < w.heap.size) {v_a : Value} {a : Int} (h_a : IntV w X v_a (a)) (n : Int) (hn1 : -9223372036854775808 ≤ n) (hn2 : n ≤ 9223372036854775807) :
    Calls Try.prog 16 #[v_a, (.int .i64 n)] w (Ret fun r w' => (r = .bool (decide (a = n))) ∧ Below w.heap.size w w') := by
 refine enter (N := 9) (fn := Try.f16) (vs := [v_a, (.int .i64 n)]) Try.func16 rfl rfl rfl ?_
 intro fa hF
 obtain ⟨_, rfl, A_a, c_a, rfl, hu_a⟩ := h_a
 have hl_a := hu_a.len; have hc_a := hu_a.cap
 replace hF : Frm 9 fa [(0, (.agg (ic (A_a) (c_a) (a)))), (1, (.int .i64 (n)))] := hF
 have hS := St.refl w
 refine c_seq ?_
 refine c_reg ?_
 refine st rfl (op_box (X := X) hF hS rfl rfl rfl ?_)
 intro g1 w2 hg4 hS E3; refine gen_ ?_; clear hF fa; intro fa hF
 replace hS : St w w2 [(g1, 24, (ic (A_a) (c_a) (a)))] := hS
 refine st_val hF rfl rfl rfl (ex_assign (hF.ev rfl)) ?_
 clear hF fa; intro fa hF
 refine c_nil_then ?_
 refine c_seq ?_
 refine drawn2 (N := 9) (L0 := [(0, (.agg (ic (A_a) (c_a) (a)))), (1, (.int .i64 (n))), (2, (.pointer (some ⟨g1, 0, none⟩)))]) [some (.agg (ic (A_a) (c_a) (a))), some (.int .i64 (n)), none, some (.bool (decide (a = n))), some (.bool (decide (a = n)))] [2, 3] [[], [2], [2, 3]] [[0, 1], [0], [0], [1], [2]] 2 [
       fun fa w' => Frm 9 fa [] ∧ St w w' [(g1, 24, (ic (A_a) (c_a) (a)))] ∧ Ext w2 (g1 :: X) w' (g1 :: X)
       , fun fa w' => ∃ Ao1_2_4 : Option Addr, ∃ co1_2_5 : Nat, Frm 9 fa [(7, (.agg (ic (Ao1_2_4) (co1_2_5) (n))))] ∧ St w w' [(g1, 24, (ic (A_a) (c_a) (a)))] ∧ Ext w2 (g1 :: X) w' (g1 :: X) ∧ UC w' (g1 :: X) Ao1_2_4 co1_2_5 (lim (n).natAbs)
       , fun fa w' => ∃ Ao1_2_4 : Option Addr, ∃ co1_2_5 : Nat, Frm 9 fa [(7, (.agg (ic (Ao1_2_4) (co1_2_5) (n)))), (8, (.bool (decide (a = n))))] ∧ St w w' [(g1, 24, (ic (A_a) (c_a) (a)))] ∧ Ext w2 (g1 :: X) w' (g1 :: X) ∧ UC w' (g1 :: X) Ao1_2_4 co1_2_5 (lim (n).natAbs)
     ] TfP.mixed rfl rfl rfl rfl rfl rfl (hF.take (hF.take (hF.take hF.nil rfl) rfl) rfl) rfl ⟨hF.nil, hS.drew, Ext.drew _ _⟩ ?_ ?_ ?_
 all_goals clear hF fa
 ·
  refine ⟨?_, ?_, ?_, trivial⟩
  ·
   rintro fa w' i o d v ho hd hna ⟨hA, hR⟩; exact ⟨hA.put_other v (freeOf_at (acts := [2, 3]) rfl ho hd hna), hR⟩
  ·
   rintro fa w' i o d v ho hd hna ⟨Ao1_2_4, co1_2_5, hA, hR⟩; exact ⟨Ao1_2_4, co1_2_5, hA.put_other v (freeOf_at (acts := [2, 3]) rfl ho hd hna), hR⟩
  ·
   rintro fa w' i o d v ho hd hna ⟨Ao1_2_4, co1_2_5, hA, hR⟩; exact ⟨Ao1_2_4, co1_2_5, hA.put_other v (freeOf_at (acts := [2, 3]) rfl ho hd hna), hR⟩
 ·
  refine ⟨?_, ?_, ?_, ?_, ?_, trivial⟩
  ·
   refine .inr (.inl ⟨rfl, _, _, rfl, rfl, ?_, ?_, trivial⟩)
   ·
    intro fa w' hΦ hF hB K hK
    obtain ⟨hA, hS, E_w'⟩ := hΦ
    exact fl_val rfl rfl rfl (ex_loadb TfP.row24 (hF.ev rfl) (hS.get 0 rfl) rfl) hK
   ·
    intro fa w' hΦ hF hB K hK
    obtain ⟨Ao1_2_4, co1_2_5, hA, hS, E_w', huo1_2_6⟩ := hΦ
    exact fl_val rfl rfl rfl (ex_loadb TfP.row24 (hF.ev rfl) (hS.get 0 rfl) rfl) hK
  ·
   refine .inl ⟨rfl, _, _, rfl, rfl, fun s fa w' hΦ hF hB K hK => ?_⟩
   exact fl_val rfl rfl rfl (ex_move (hF.ev rfl)) hK
  ·
   refine .inr (.inr ⟨rfl, ?_, trivial⟩)
   ·
    intro fa w' hΦ hF hB
    obtain ⟨hA, hS, E_w'⟩ := hΦ
    replace hF := hF.cons (hB.val 1 _ 6 _ rfl rfl rfl rfl)
    refine wop rfl rfl ?_
    have hC := ref01_FromInt64_ok (w := w') (X := (g1 :: X)) (hS.bnd hX) n (by omega) (by omega)
    refine op_call hF rfl TfP.body26 (args1 (hF.ev rfl)) hC ?_
    clear hC
    rintro _ wo1_2_1 ⟨⟨_, rfl, Ao1_2_4, co1_2_5, rfl, huo1_2_6⟩, hbo1_2_2⟩
    clear hF; intro hF
    replace hS := hS.call hbo1_2_2; have Eo1_2_3 := Ext.call (g1 :: X) hbo1_2_2
    have hA1 := ((hA.put_other _ rfl).cons (hF.get 7 _ rfl))
    exact ⟨1, rfl, ⟨Ao1_2_4, co1_2_5, (hA1.take hA1.nil rfl), hS, (E_w'.trans Eo1_2_3), huo1_2_6⟩, _, rfl, fun u hu => by cases hu <;> rfl⟩
  ·
   refine .inr (.inr ⟨rfl, ?_, trivial⟩)
   ·
    intro fa w' hΦ hF hB
    obtain ⟨Ao1_2_4, co1_2_5, hA, hS, E_w', huo1_2_6⟩ := hΦ
    replace hF := hF.cons (hB.val 0 _ 5 _ rfl rfl rfl rfl)
    replace hF := hF.cons (hA.get 7 _ rfl)
    refine wop rfl rfl ?_
    have hC := law01_same_ok (w := w') (X := (g1 :: X)) (a := a) (b := n) (hS.bnd hX) (IntV.of_ (n := (lim a.natAbs).length) (b := decide (a < 0)) (x := a) ((hu_a.ext (E3.trans E_w'))) (rfl) (rfl) (rfl)) (IntV.of_ (n := (lim (n).natAbs).length) (b := decide (n < 0)) (x := n) (huo1_2_6) (rfl) (rfl) (rfl))
    refine op_call hF rfl TfP.body19 (args2 (hF.ev rfl) (hF.ev rfl)) hC ?_
    clear hC
    rintro _ wo1_3_1 ⟨rfl, hbo1_3_2⟩
    clear hF; intro hF
    replace hS := hS.call hbo1_3_2; have Eo1_3_3 := Ext.call (g1 :: X) hbo1_3_2
    have hA1 := ((hA.put_other _ rfl).cons (hF.get 8 _ rfl))
    exact ⟨2, rfl, ⟨Ao1_2_4, co1_2_5, (hA1.take (hA1.take hA1.nil rfl) rfl), hS, (E_w'.trans Eo1_3_3), (huo1_2_6.ext Eo1_3_3)⟩, _, rfl, fun u hu => by cases hu <;> rfl⟩
  ·
   refine .inl ⟨rfl, _, _, rfl, rfl, fun s fa w' hΦ hF hB K hK => ?_⟩
   replace hF := hF.cons (hB.val 3 _ 8 _ rfl rfl rfl rfl)
   exact fl_val rfl rfl rfl (ex_assign (hF.ev rfl)) hK
 intro fa w5 hΦ hF hC
 obtain ⟨Ao1_2_4, co1_2_5, hA, hS, E_w5, huo1_2_6⟩ := hΦ
 replace hF := hF.cons (hC 4 _ 4 _ rfl rfl rfl)
 clear hA hC
 refine x_tn ?_
 refine c_ret ?_
 refine end1 hF rfl (res_tmp hF rfl) ?_
 exact ⟨_, rfl, (congrArg Value.bool (rfl)), hS.below⟩

end Go.Proofs.Ytlaojdpcfenlkaa
