/-
  What the functions Add do, each call by call.
  Conditions: none.
-/
import Derived.Test.YtlaojdpcfenlkaaChecked
import Derived.Test.YtlaojdpcfenlkaaSwBaseK
import Derived.Test.YtlaojdpcfenlkaaWA
import Derived.Test.YtlaojdpcfenlkaaWC
import Derived.Test.YtlaojdpcfenlkaaWD
namespace Go.Proofs.Ytlaojdpcfenlkaa
open Go Go.RowKit Go.Sw
set_option linter.unusedVariables false
namespace TfJ
theorem body41 : hasBody Try.prog 41 = true := by kernel_rfl
theorem body55 : hasBody Try.prog 55 = true := by kernel_rfl
theorem body56 : hasBody Try.prog 56 = true := by kernel_rfl
theorem body57 : hasBody Try.prog 57 = true := by kernel_rfl
theorem mixed : Try.prog.follows .mixedOrders = true := by kernel_rfl
theorem off24_0 : fieldOff Try.prog 24 0 = some 0 := by kernel_rfl
theorem off24_1 : fieldOff Try.prog 24 1 = some 1 := by kernel_rfl
theorem one22 : isOne Try.prog 22 = true := by kernel_rfl
theorem one4 : isOne Try.prog 4 = true := by kernel_rfl
theorem row24 : isRow Try.prog 24 2 = true := by kernel_rfl
theorem size24 : (Try.prog.info? 24).map (fun i => i.size) = some 2 := by kernel_rfl
theorem und4 : Try.prog.underlying 4 = some TypeDesc.bool := by kernel_rfl
theorem zero24 : zeroOf Try.prog 24 = some #[.bool false, .slice none 0 0] := by kernel_rfl
end TfJ
set_option maxHeartbeats 4000000 in
theorem integer_Add_ok {w : World} {X : List Nat} (hX : ∀ m ∈ X, m < w.heap.size) {v_a : Value} {a : Int} (h_a : IntV w X v_a (a)) {v_b : Value} {b : Int} (h_b : IntV w X v_b (b)) (hs_a : sz a ≤ 1000000000) (hs_b : sz b ≤ 1000000000) :
    Calls Try.prog 28 #[v_a, v_b] w (Ret fun r w' => (IntV w' X r (a + b)) ∧ Below w.heap.size w w') := by
 refine enter (N := 34) (fn := Try.f28) (vs := [v_a, v_b]) Try.func28 rfl rfl rfl ?_
 intro fa hF
 obtain ⟨_, rfl, A_a, c_a, rfl, hu_a⟩ := h_a
 have hl_a := hu_a.len; have hc_a := hu_a.cap
 obtain ⟨_, rfl, A_b, c_b, rfl, hu_b⟩ := h_b
 have hl_b := hu_b.len; have hc_b := hu_b.cap
 replace hF : Frm 34 fa [(0, (.agg (ic (A_a) (c_a) (a)))), (1, (.agg (ic (A_b) (c_b) (b))))] := hF
 have hS := St.refl w
 have hz_a : (lim a.natAbs).length ≤ 1000000000 := by have h0 := hs_a; unfold sz at h0; omega
 have hz_b : (lim b.natAbs).length ≤ 1000000000 := by have h0 := hs_b; unfold sz at h0; omega
 refine c_seq ?_
 refine c_reg ?_
 refine st rfl (op_box (X := X) hF hS rfl rfl rfl ?_)
 intro g1 w2 hg4 hS E3; refine gen_ ?_; clear hF fa; intro fa hF
 replace hS : St w w2 [(g1, 24, (ic (A_a) (c_a) (a)))] := hS
 refine st rfl (op_box (X := (g1 :: X)) hF hS rfl rfl rfl ?_)
 intro g5 w6 hg8 hS E7; refine gen_ ?_; clear hF fa; intro fa hF
 replace hS : St w w6 [(g5, 24, (ic (A_b) (c_b) (b))), (g1, 24, (ic (A_a) (c_a) (a)))] := hS
 refine st rfl (op_alloc (X := (g5 :: (g1 :: X))) hF hS rfl TfJ.zero24 ?_)
 intro g9 w10 hg12 hS E11; refine gen_ ?_; clear hF fa; intro fa hF
 replace hS : St w w10 [(g9, 24, #[(.bool (false)), (.slice (none) (0) (0))]), (g5, 24, (ic (A_b) (c_b) (b))), (g1, 24, (ic (A_a) (c_a) (a)))] := hS
 refine c_nil_then ?_
 refine c_seq ?_
 refine c_seq ?_
 refine c_reg ?_
 refine st_val hF rfl rfl rfl (ex_field_addr TfJ.off24_0 (hF.ev rfl)) ?_
 clear hF fa; intro fa hF
 refine st_val hF rfl rfl rfl (ex_load1b TfJ.one4 (hF.ev rfl) (hS.get 2 rfl) rfl) ?_
 clear hF fa; intro fa hF
 refine st_val hF rfl rfl rfl (ex_field_addr TfJ.off24_0 (hF.ev rfl)) ?_
 clear hF fa; intro fa hF
 refine st_val hF rfl rfl rfl (ex_load1b TfJ.one4 (hF.ev rfl) (hS.get 1 rfl) rfl) ?_
 clear hF fa; intro fa hF
 refine st_val hF rfl rfl rfl (ex_eqb TfJ.und4 (hF.ev rfl) (hF.ev rfl)) ?_
 clear hF fa; intro fa hF
 refine c_nil_then ?_
 refine c_cond hF rfl (fun hc13 => ?_) (fun hc13 => ?_)
 ·
  have hc13p : ((a < 0) ↔ (b < 0)) := by first | simpa using hc13 | exact bang_t hc13 | exact bang_f hc13
  refine c_seq ?_
  refine drawn2 (N := 34) (L0 := [(0, (.agg (ic (A_a) (c_a) (a)))), (1, (.agg (ic (A_b) (c_b) (b)))), (2, (.pointer (some ⟨g1, 0, none⟩))), (3, (.pointer (some ⟨g5, 0, none⟩))), (4, (.pointer (some ⟨g9, 0, none⟩))), (9, (.bool ((decide (a < 0)) == (decide (b < 0)))))]) [some (.pointer (some ⟨g1, 0, none⟩)), some (.bool (decide (a < 0))), some (.pointer (some ⟨g1, 1, none⟩)), some (.slice (A_a) ((lim a.natAbs).length) (c_a)), some (.pointer (some ⟨g5, 1, none⟩)), some (.slice (A_b) ((lim b.natAbs).length) (c_b)), none, none, none] [6, 7, 8] [[], [6], [6, 7], [6, 7, 8]] [[0, 1, 2], [0, 1], [0, 1, 2], [0], [0, 1, 2], [0], [0], [1], [2]] 3 [
        fun fa w' => Frm 34 fa [] ∧ St w w' [(g9, 24, #[(.bool (false)), (.slice (none) (0) (0))]), (g5, 24, (ic (A_b) (c_b) (b))), (g1, 24, (ic (A_a) (c_a) (a)))] ∧ Ext w10 (g9 :: (g5 :: (g1 :: X))) w' (g9 :: (g5 :: (g1 :: X)))
        , fun fa w' => ∃ o_o2_6_4 : List Nat, ∃ Ao2_6_5 : Option Addr, ∃ co2_6_6 : Nat, Frm 34 fa [(16, (.slice (Ao2_6_5) (o_o2_6_4.length) (co2_6_6)))] ∧ St w w' [(g9, 24, #[(.bool (false)), (.slice (none) (0) (0))]), (g5, 24, (ic (A_b) (c_b) (b))), (g1, 24, (ic (A_a) (c_a) (a)))] ∧ Ext w10 (g9 :: (g5 :: (g1 :: X))) w' (g9 :: (g5 :: (g1 :: X))) ∧ UC w' (g9 :: (g5 :: (g1 :: X))) Ao2_6_5 co2_6_6 o_o2_6_4 ∧ (Lb o_o2_6_4) ∧ (val o_o2_6_4 = val ((lim a.natAbs)) + val ((lim b.natAbs))) ∧ (o_o2_6_4.length ≤ ((lim a.natAbs)).length + ((lim b.natAbs)).length + 1)
        , fun fa w' => ∃ o_o2_6_4 : List Nat, ∃ Ao2_6_5 : Option Addr, ∃ co2_6_6 : Nat, ∃ Ao2_7_4 : Option Addr, ∃ co2_7_5 : Nat, Frm 34 fa [(16, (.slice (Ao2_6_5) (o_o2_6_4.length) (co2_6_6))), (17, (.agg (ic (Ao2_7_4) (co2_7_5) ((sgnv (decide (a < 0)) (val o_o2_6_4))))))] ∧ St w w' [(g9, 24, #[(.bool (false)), (.slice (none) (0) (0))]), (g5, 24, (ic (A_b) (c_b) (b))), (g1, 24, (ic (A_a) (c_a) (a)))] ∧ Ext w10 (g9 :: (g5 :: (g1 :: X))) w' (g9 :: (g5 :: (g1 :: X))) ∧ UC w' (g9 :: (g5 :: (g1 :: X))) Ao2_6_5 co2_6_6 o_o2_6_4 ∧ UC w' (g9 :: (g5 :: (g1 :: X))) Ao2_7_4 co2_7_5 (lim (sgnv (decide (a < 0)) (val o_o2_6_4)).natAbs) ∧ (Lb o_o2_6_4) ∧ (val o_o2_6_4 = val ((lim a.natAbs)) + val ((lim b.natAbs))) ∧ (o_o2_6_4.length ≤ ((lim a.natAbs)).length + ((lim b.natAbs)).length + 1)
        , fun fa w' => ∃ o_o2_6_4 : List Nat, ∃ Ao2_6_5 : Option Addr, ∃ co2_6_6 : Nat, ∃ Ao2_7_4 : Option Addr, ∃ co2_7_5 : Nat, Frm 34 fa [(16, (.slice (Ao2_6_5) (o_o2_6_4.length) (co2_6_6))), (17, (.agg (ic (Ao2_7_4) (co2_7_5) ((sgnv (decide (a < 0)) (val o_o2_6_4))))))] ∧ St w w' [(g9, 24, (ic (Ao2_7_4) (co2_7_5) ((sgnv (decide (a < 0)) (val o_o2_6_4))))), (g5, 24, (ic (A_b) (c_b) (b))), (g1, 24, (ic (A_a) (c_a) (a)))] ∧ Ext w10 (g9 :: (g5 :: (g1 :: X))) w' (g9 :: (g5 :: (g1 :: X))) ∧ UC w' (g9 :: (g5 :: (g1 :: X))) Ao2_6_5 co2_6_6 o_o2_6_4 ∧ UC w' (g9 :: (g5 :: (g1 :: X))) Ao2_7_4 co2_7_5 (lim (sgnv (decide (a < 0)) (val o_o2_6_4)).natAbs) ∧ (Lb o_o2_6_4) ∧ (val o_o2_6_4 = val ((lim a.natAbs)) + val ((lim b.natAbs))) ∧ (o_o2_6_4.length ≤ ((lim a.natAbs)).length + ((lim b.natAbs)).length + 1)
      ] TfJ.mixed rfl rfl rfl rfl rfl rfl (hF.take (hF.take (hF.take (hF.take (hF.take (hF.take hF.nil rfl) rfl) rfl) rfl) rfl) rfl) rfl ⟨hF.nil, hS.drew, Ext.drew _ _⟩ ?_ ?_ ?_
  all_goals clear hF fa
  ·
   refine ⟨?_, ?_, ?_, ?_, trivial⟩
   ·
    rintro fa w' i o d v ho hd hna ⟨hA, hR⟩; exact ⟨hA.put_other v (freeOf_at (acts := [6, 7, 8]) rfl ho hd hna), hR⟩
   ·
    rintro fa w' i o d v ho hd hna ⟨o_o2_6_4, Ao2_6_5, co2_6_6, hA, hR⟩; exact ⟨o_o2_6_4, Ao2_6_5, co2_6_6, hA.put_other v (freeOf_at (acts := [6, 7, 8]) rfl ho hd hna), hR⟩
   ·
    rintro fa w' i o d v ho hd hna ⟨o_o2_6_4, Ao2_6_5, co2_6_6, Ao2_7_4, co2_7_5, hA, hR⟩; exact ⟨o_o2_6_4, Ao2_6_5, co2_6_6, Ao2_7_4, co2_7_5, hA.put_other v (freeOf_at (acts := [6, 7, 8]) rfl ho hd hna), hR⟩
   ·
    rintro fa w' i o d v ho hd hna ⟨o_o2_6_4, Ao2_6_5, co2_6_6, Ao2_7_4, co2_7_5, hA, hR⟩; exact ⟨o_o2_6_4, Ao2_6_5, co2_6_6, Ao2_7_4, co2_7_5, hA.put_other v (freeOf_at (acts := [6, 7, 8]) rfl ho hd hna), hR⟩
  ·
   refine ⟨?_, ?_, ?_, ?_, ?_, ?_, ?_, ?_, ?_, trivial⟩
   ·
    refine .inl ⟨rfl, _, _, rfl, rfl, fun s fa w' hΦ hF hB K hK => ?_⟩
    exact fl_val rfl rfl rfl (ex_field_addr TfJ.off24_0 (hF.ev rfl)) hK
   ·
    refine .inr (.inl ⟨rfl, _, _, rfl, rfl, ?_, ?_, trivial⟩)
    ·
     intro fa w' hΦ hF hB K hK
     obtain ⟨hA, hS, E_w'⟩ := hΦ
     replace hF := hF.cons (hB.val 0 _ 10 _ rfl rfl rfl rfl)
     exact fl_val rfl rfl rfl (ex_load1b TfJ.one4 (hF.ev rfl) (hS.get 2 rfl) rfl) hK
    ·
     intro fa w' hΦ hF hB K hK
     obtain ⟨o_o2_6_4, Ao2_6_5, co2_6_6, hA, hS, E_w', huo2_6_7, hpo2_6_8, hpo2_6_9, hpo2_6_10⟩ := hΦ
     replace hF := hF.cons (hB.val 0 _ 10 _ rfl rfl rfl rfl)
     exact fl_val rfl rfl rfl (ex_load1b TfJ.one4 (hF.ev rfl) (hS.get 2 rfl) rfl) hK
   ·
    refine .inl ⟨rfl, _, _, rfl, rfl, fun s fa w' hΦ hF hB K hK => ?_⟩
    exact fl_val rfl rfl rfl (ex_field_addr TfJ.off24_1 (hF.ev rfl)) hK
   ·
    refine .inr (.inl ⟨rfl, _, _, rfl, rfl, ?_, trivial⟩)
    ·
     intro fa w' hΦ hF hB K hK
     obtain ⟨hA, hS, E_w'⟩ := hΦ
     replace hF := hF.cons (hB.val 2 _ 12 _ rfl rfl rfl rfl)
     exact fl_val rfl rfl rfl (ex_load1b TfJ.one22 (hF.ev rfl) (hS.get 2 rfl) rfl) hK
   ·
    refine .inl ⟨rfl, _, _, rfl, rfl, fun s fa w' hΦ hF hB K hK => ?_⟩
    exact fl_val rfl rfl rfl (ex_field_addr TfJ.off24_1 (hF.ev rfl)) hK
   ·
    refine .inr (.inl ⟨rfl, _, _, rfl, rfl, ?_, trivial⟩)
    ·
     intro fa w' hΦ hF hB K hK
     obtain ⟨hA, hS, E_w'⟩ := hΦ
     replace hF := hF.cons (hB.val 4 _ 14 _ rfl rfl rfl rfl)
     exact fl_val rfl rfl rfl (ex_load1b TfJ.one22 (hF.ev rfl) (hS.get 1 rfl) rfl) hK
   ·
    refine .inr (.inr ⟨rfl, ?_, trivial⟩)
    ·
     intro fa w' hΦ hF hB
     obtain ⟨hA, hS, E_w'⟩ := hΦ
     replace hF := hF.cons (hB.val 3 _ 13 _ rfl rfl rfl rfl)
     replace hF := hF.cons (hB.val 5 _ 15 _ rfl rfl rfl rfl)
     refine wop rfl rfl ?_
     have hC := integer_plus_ok (w := w') (X := (g9 :: (g5 :: (g1 :: X)))) (x := (lim a.natAbs)) (y := (lim b.natAbs)) (hS.bnd hX) ⟨_, ((lim a.natAbs).length), _, rfl, (rfl), (hu_a.ext (((E3.trans E7).trans E11).trans E_w'))⟩ ⟨_, ((lim b.natAbs).length), _, rfl, (rfl), (hu_b.ext (((E3.trans E7).trans E11).trans E_w'))⟩ (by omega) (by omega) (lb_lim _) (lb_lim _)
     refine op_call hF rfl TfJ.body55 (args2 (hF.ev rfl) (hF.ev rfl)) hC ?_
     clear hC
     rintro _ wo2_6_1 ⟨⟨o_o2_6_4, ⟨Ao2_6_5, _, co2_6_6, rfl, rfl, huo2_6_7⟩, hpo2_6_8, hpo2_6_9, hpo2_6_10⟩, hbo2_6_2⟩
     clear hF; intro hF
     replace hS := hS.call hbo2_6_2; have Eo2_6_3 := Ext.call (g9 :: (g5 :: (g1 :: X))) hbo2_6_2
     have hA1 := ((hA.put_other _ rfl).cons (hF.get 16 _ rfl))
     exact ⟨1, rfl, ⟨o_o2_6_4, Ao2_6_5, co2_6_6, (hA1.take hA1.nil rfl), hS, (E_w'.trans Eo2_6_3), huo2_6_7, hpo2_6_8, hpo2_6_9, hpo2_6_10⟩, _, rfl, fun u hu => by cases hu <;> rfl⟩
   ·
    refine .inr (.inr ⟨rfl, ?_, trivial⟩)
    ·
     intro fa w' hΦ hF hB
     obtain ⟨o_o2_6_4, Ao2_6_5, co2_6_6, hA, hS, E_w', huo2_6_7, hpo2_6_8, hpo2_6_9, hpo2_6_10⟩ := hΦ
     replace hF := hF.cons (hB.val 1 _ 11 _ rfl rfl rfl rfl)
     replace hF := hF.cons (hA.get 16 _ rfl)
     refine wop rfl rfl ?_
     have hC := integer_signed_ok (w := w') (X := (g9 :: (g5 :: (g1 :: X)))) (l := o_o2_6_4) (hS.bnd hX) (decide (a < 0)) ⟨_, (o_o2_6_4.length), _, rfl, (rfl), huo2_6_7⟩ (by assumption)
     refine op_call hF rfl TfJ.body41 (args2 (hF.ev rfl) (hF.ev rfl)) hC ?_
     clear hC
     rintro _ wo2_7_1 ⟨⟨_, rfl, Ao2_7_4, co2_7_5, rfl, huo2_7_6⟩, hbo2_7_2⟩
     clear hF; intro hF
     replace hS := hS.call hbo2_7_2; have Eo2_7_3 := Ext.call (g9 :: (g5 :: (g1 :: X))) hbo2_7_2
     have hA1 := ((hA.put_other _ rfl).cons (hF.get 17 _ rfl))
     exact ⟨2, rfl, ⟨o_o2_6_4, Ao2_6_5, co2_6_6, Ao2_7_4, co2_7_5, (hA1.take (hA1.take hA1.nil rfl) rfl), hS, (E_w'.trans Eo2_7_3), (huo2_6_7.ext Eo2_7_3), huo2_7_6, hpo2_6_8, hpo2_6_9, hpo2_6_10⟩, _, rfl, fun u hu => by cases hu <;> rfl⟩
   ·
    refine .inr (.inr ⟨rfl, ?_, trivial⟩)
    ·
     intro fa w' hΦ hF hB
     obtain ⟨o_o2_6_4, Ao2_6_5, co2_6_6, Ao2_7_4, co2_7_5, hA, hS, E_w', huo2_6_7, huo2_7_6, hpo2_6_8, hpo2_6_9, hpo2_6_10⟩ := hΦ
     replace hF := hF.cons (hA.get 17 _ rfl)
     refine wop rfl rfl ?_
     refine op_store (X := (g9 :: (g5 :: (g1 :: X)))) hF hS 0 rfl (by simp) rfl rfl rfl TfJ.size24 rfl (Nat.le_of_ble_eq_true rfl) ?_
     intro wo2_8_1 hS Eo2_8_2
     replace hS : St w wo2_8_1 [(g9, 24, (ic (Ao2_7_4) (co2_7_5) ((sgnv (decide (a < 0)) (val o_o2_6_4))))), (g5, 24, (ic (A_b) (c_b) (b))), (g1, 24, (ic (A_a) (c_a) (a)))] := hS
     exact ⟨3, rfl, ⟨o_o2_6_4, Ao2_6_5, co2_6_6, Ao2_7_4, co2_7_5, hA, hS, (E_w'.trans Eo2_8_2), (huo2_6_7.ext Eo2_8_2), (huo2_7_6.ext Eo2_8_2), hpo2_6_8, hpo2_6_9, hpo2_6_10⟩, undef, rfl, fun u hu => by cases hu <;> rfl⟩
  intro fa w14 hΦ hF hC
  obtain ⟨o_o2_6_4, Ao2_6_5, co2_6_6, Ao2_7_4, co2_7_5, hA, hS, E_w14, huo2_6_7, huo2_7_6, hpo2_6_8, hpo2_6_9, hpo2_6_10⟩ := hΦ
  clear hA hC
  refine x_tn ?_
  refine c_ret ?_
  refine x_tr ?_
  refine end1 hF rfl (res_cell hF rfl TfJ.row24 (hS.get 0 rfl) rfl) ?_
  exact ⟨_, rfl, (IntV.fin (x := sgnv (decide (a < 0)) (val o_o2_6_4)) ⟨_, rfl, _, _, rfl, huo2_7_6⟩ (by have h1 : val _ = val (lim a.natAbs) + val (lim b.natAbs) := ‹_›; rw [val_lim, val_lim] at h1; rw [h1]; exact sgnv_add (by simp only [decide_eq_decide]; omega)) (fun x hx => by simp [hx])), hS.below⟩
 have hc13p : ¬ (((a < 0) ↔ (b < 0))) := by first | simpa using hc13 | exact bang_t hc13 | exact bang_f hc13
 refine c_skip ?_
 refine x_tn ?_
 refine c_seq ?_
 refine c_seq ?_
 refine c_reg ?_
 refine st_val hF rfl rfl rfl (ex_field_addr TfJ.off24_1 (hF.ev rfl)) ?_
 clear hF fa; intro fa hF
 refine st_val hF rfl rfl rfl (ex_load1b TfJ.one22 (hF.ev rfl) (hS.get 2 rfl) rfl) ?_
 clear hF fa; intro fa hF
 refine st_val hF rfl rfl rfl (ex_field_addr TfJ.off24_1 (hF.ev rfl)) ?_
 clear hF fa; intro fa hF
 refine st_val hF rfl rfl rfl (ex_load1b TfJ.one22 (hF.ev rfl) (hS.get 1 rfl) rfl) ?_
 clear hF fa; intro fa hF
 have hC := integer_compare_ok (w := w10) (X := (g9 :: (g5 :: (g1 :: X)))) (a := (lim a.natAbs)) (b := (lim b.natAbs)) (hS.bnd hX) ⟨_, ((lim a.natAbs).length), _, rfl, (rfl), (hu_a.ext ((E3.trans E7).trans E11))⟩ ⟨_, ((lim b.natAbs).length), _, rfl, (rfl), (hu_b.ext ((E3.trans E7).trans E11))⟩ (lb_lim _) (lb_lim _)
 refine st rfl (op_call hF rfl TfJ.body56 (args2 (hF.ev rfl) (hF.ev rfl)) hC ?_)
 clear hC
 rintro _ w15 ⟨rfl, hb16⟩
 refine gen_ ?_; clear hF fa; intro fa hF
 replace hS := hS.call hb16; have E17 := Ext.call (g9 :: (g5 :: (g1 :: X))) hb16
 refine st_val hF rfl rfl rfl (ex_lss (hF.ev rfl) (hF.ev rfl)) ?_
 clear hF fa; intro fa hF
 refine c_nil_then ?_
 refine c_cond hF rfl (fun hc18 => ?_) (fun hc18 => ?_)
 ·
  have hc18p : (cmpN (val ((lim a.natAbs))) (val ((lim b.natAbs)))) < 0 := by first | simpa using hc18 | exact bang_t hc18 | exact bang_f hc18
  have hle0 : a.natAbs ≤ b.natAbs := by rw [val_lim, val_lim] at hc18p; have := cmpN_lt0.1 hc18p; omega
  refine c_reg ?_
  refine st_val hF rfl rfl rfl (ex_loadb TfJ.row24 (hF.ev rfl) (hS.get 1 rfl) rfl) ?_
  clear hF fa; intro fa hF
  refine st_val hF rfl rfl rfl (ex_loadb TfJ.row24 (hF.ev rfl) (hS.get 2 rfl) rfl) ?_
  clear hF fa; intro fa hF
  refine st rfl (op_store (X := (g9 :: (g5 :: (g1 :: X)))) hF hS 2 rfl (by simp) rfl rfl rfl TfJ.size24 rfl (Nat.le_of_ble_eq_true rfl) ?_)
  intro w19 hS E20
  replace hS : St w w19 [(g9, 24, #[(.bool (false)), (.slice (none) (0) (0))]), (g5, 24, (ic (A_b) (c_b) (b))), (g1, 24, (ic (A_b) (c_b) (b)))] := hS
  refine st rfl (op_store (X := (g9 :: (g5 :: (g1 :: X)))) hF hS 1 rfl (by simp) rfl rfl rfl TfJ.size24 rfl (Nat.le_of_ble_eq_true rfl) ?_)
  intro w21 hS E22
  replace hS : St w w21 [(g9, 24, #[(.bool (false)), (.slice (none) (0) (0))]), (g5, 24, (ic (A_a) (c_a) (a))), (g1, 24, (ic (A_b) (c_b) (b)))] := hS
  refine c_nil_then ?_
  refine c_seq ?_
  refine drawn2 (N := 34) (L0 := [(0, (.agg (ic (A_a) (c_a) (a)))), (1, (.agg (ic (A_b) (c_b) (b)))), (2, (.pointer (some ⟨g1, 0, none⟩))), (3, (.pointer (some ⟨g5, 0, none⟩))), (4, (.pointer (some ⟨g9, 0, none⟩))), (9, (.bool ((decide (a < 0)) == (decide (b < 0))))), (23, (.bool (decide ((cmpN (val ((lim a.natAbs))) (val ((lim b.natAbs)))) < 0))))]) [some (.pointer (some ⟨g1, 0, none⟩)), some (.bool (decide (b < 0))), some (.pointer (some ⟨g1, 1, none⟩)), some (.slice (A_b) ((lim b.natAbs).length) (c_b)), some (.pointer (some ⟨g5, 1, none⟩)), some (.slice (A_a) ((lim a.natAbs).length) (c_a)), none, none, none] [6, 7, 8] [[], [6], [6, 7], [6, 7, 8]] [[0, 1, 2], [0, 1], [0, 1, 2], [0], [0, 1, 2], [0], [0], [1], [2]] 3 [
        fun fa w' => Frm 34 fa [] ∧ St w w' [(g9, 24, #[(.bool (false)), (.slice (none) (0) (0))]), (g5, 24, (ic (A_a) (c_a) (a))), (g1, 24, (ic (A_b) (c_b) (b)))] ∧ Ext w21 (g9 :: (g5 :: (g1 :: X))) w' (g9 :: (g5 :: (g1 :: X)))
        , fun fa w' => ∃ o_o5_6_4 : List Nat, ∃ Ao5_6_5 : Option Addr, ∃ co5_6_6 : Nat, Frm 34 fa [(32, (.slice (Ao5_6_5) (o_o5_6_4.length) (co5_6_6)))] ∧ St w w' [(g9, 24, #[(.bool (false)), (.slice (none) (0) (0))]), (g5, 24, (ic (A_a) (c_a) (a))), (g1, 24, (ic (A_b) (c_b) (b)))] ∧ Ext w21 (g9 :: (g5 :: (g1 :: X))) w' (g9 :: (g5 :: (g1 :: X))) ∧ UC w' (g9 :: (g5 :: (g1 :: X))) Ao5_6_5 co5_6_6 o_o5_6_4 ∧ (Lb o_o5_6_4) ∧ (val o_o5_6_4 = val ((lim b.natAbs)) - val ((lim a.natAbs))) ∧ (o_o5_6_4.length = ((lim b.natAbs)).length)
        , fun fa w' => ∃ o_o5_6_4 : List Nat, ∃ Ao5_6_5 : Option Addr, ∃ co5_6_6 : Nat, ∃ Ao5_7_4 : Option Addr, ∃ co5_7_5 : Nat, Frm 34 fa [(32, (.slice (Ao5_6_5) (o_o5_6_4.length) (co5_6_6))), (33, (.agg (ic (Ao5_7_4) (co5_7_5) ((sgnv (decide (b < 0)) (val o_o5_6_4))))))] ∧ St w w' [(g9, 24, #[(.bool (false)), (.slice (none) (0) (0))]), (g5, 24, (ic (A_a) (c_a) (a))), (g1, 24, (ic (A_b) (c_b) (b)))] ∧ Ext w21 (g9 :: (g5 :: (g1 :: X))) w' (g9 :: (g5 :: (g1 :: X))) ∧ UC w' (g9 :: (g5 :: (g1 :: X))) Ao5_6_5 co5_6_6 o_o5_6_4 ∧ UC w' (g9 :: (g5 :: (g1 :: X))) Ao5_7_4 co5_7_5 (lim (sgnv (decide (b < 0)) (val o_o5_6_4)).natAbs) ∧ (Lb o_o5_6_4) ∧ (val o_o5_6_4 = val ((lim b.natAbs)) - val ((lim a.natAbs))) ∧ (o_o5_6_4.length = ((lim b.natAbs)).length)
        , fun fa w' => ∃ o_o5_6_4 : List Nat, ∃ Ao5_6_5 : Option Addr, ∃ co5_6_6 : Nat, ∃ Ao5_7_4 : Option Addr, ∃ co5_7_5 : Nat, Frm 34 fa [(32, (.slice (Ao5_6_5) (o_o5_6_4.length) (co5_6_6))), (33, (.agg (ic (Ao5_7_4) (co5_7_5) ((sgnv (decide (b < 0)) (val o_o5_6_4))))))] ∧ St w w' [(g9, 24, (ic (Ao5_7_4) (co5_7_5) ((sgnv (decide (b < 0)) (val o_o5_6_4))))), (g5, 24, (ic (A_a) (c_a) (a))), (g1, 24, (ic (A_b) (c_b) (b)))] ∧ Ext w21 (g9 :: (g5 :: (g1 :: X))) w' (g9 :: (g5 :: (g1 :: X))) ∧ UC w' (g9 :: (g5 :: (g1 :: X))) Ao5_6_5 co5_6_6 o_o5_6_4 ∧ UC w' (g9 :: (g5 :: (g1 :: X))) Ao5_7_4 co5_7_5 (lim (sgnv (decide (b < 0)) (val o_o5_6_4)).natAbs) ∧ (Lb o_o5_6_4) ∧ (val o_o5_6_4 = val ((lim b.natAbs)) - val ((lim a.natAbs))) ∧ (o_o5_6_4.length = ((lim b.natAbs)).length)
      ] TfJ.mixed rfl rfl rfl rfl rfl rfl (hF.take (hF.take (hF.take (hF.take (hF.take (hF.take (hF.take hF.nil rfl) rfl) rfl) rfl) rfl) rfl) rfl) rfl ⟨hF.nil, hS.drew, Ext.drew _ _⟩ ?_ ?_ ?_
  all_goals clear hF fa
  ·
   refine ⟨?_, ?_, ?_, ?_, trivial⟩
   ·
    rintro fa w' i o d v ho hd hna ⟨hA, hR⟩; exact ⟨hA.put_other v (freeOf_at (acts := [6, 7, 8]) rfl ho hd hna), hR⟩
   ·
    rintro fa w' i o d v ho hd hna ⟨o_o5_6_4, Ao5_6_5, co5_6_6, hA, hR⟩; exact ⟨o_o5_6_4, Ao5_6_5, co5_6_6, hA.put_other v (freeOf_at (acts := [6, 7, 8]) rfl ho hd hna), hR⟩
   ·
    rintro fa w' i o d v ho hd hna ⟨o_o5_6_4, Ao5_6_5, co5_6_6, Ao5_7_4, co5_7_5, hA, hR⟩; exact ⟨o_o5_6_4, Ao5_6_5, co5_6_6, Ao5_7_4, co5_7_5, hA.put_other v (freeOf_at (acts := [6, 7, 8]) rfl ho hd hna), hR⟩
   ·
    rintro fa w' i o d v ho hd hna ⟨o_o5_6_4, Ao5_6_5, co5_6_6, Ao5_7_4, co5_7_5, hA, hR⟩; exact ⟨o_o5_6_4, Ao5_6_5, co5_6_6, Ao5_7_4, co5_7_5, hA.put_other v (freeOf_at (acts := [6, 7, 8]) rfl ho hd hna), hR⟩
  ·
   refine ⟨?_, ?_, ?_, ?_, ?_, ?_, ?_, ?_, ?_, trivial⟩
   ·
    refine .inl ⟨rfl, _, _, rfl, rfl, fun s fa w' hΦ hF hB K hK => ?_⟩
    exact fl_val rfl rfl rfl (ex_field_addr TfJ.off24_0 (hF.ev rfl)) hK
   ·
    refine .inr (.inl ⟨rfl, _, _, rfl, rfl, ?_, ?_, trivial⟩)
    ·
     intro fa w' hΦ hF hB K hK
     obtain ⟨hA, hS, E_w'⟩ := hΦ
     replace hF := hF.cons (hB.val 0 _ 26 _ rfl rfl rfl rfl)
     exact fl_val rfl rfl rfl (ex_load1b TfJ.one4 (hF.ev rfl) (hS.get 2 rfl) rfl) hK
    ·
     intro fa w' hΦ hF hB K hK
     obtain ⟨o_o5_6_4, Ao5_6_5, co5_6_6, hA, hS, E_w', huo5_6_7, hpo5_6_8, hpo5_6_9, hpo5_6_10⟩ := hΦ
     replace hF := hF.cons (hB.val 0 _ 26 _ rfl rfl rfl rfl)
     exact fl_val rfl rfl rfl (ex_load1b TfJ.one4 (hF.ev rfl) (hS.get 2 rfl) rfl) hK
   ·
    refine .inl ⟨rfl, _, _, rfl, rfl, fun s fa w' hΦ hF hB K hK => ?_⟩
    exact fl_val rfl rfl rfl (ex_field_addr TfJ.off24_1 (hF.ev rfl)) hK
   ·
    refine .inr (.inl ⟨rfl, _, _, rfl, rfl, ?_, trivial⟩)
    ·
     intro fa w' hΦ hF hB K hK
     obtain ⟨hA, hS, E_w'⟩ := hΦ
     replace hF := hF.cons (hB.val 2 _ 28 _ rfl rfl rfl rfl)
     exact fl_val rfl rfl rfl (ex_load1b TfJ.one22 (hF.ev rfl) (hS.get 2 rfl) rfl) hK
   ·
    refine .inl ⟨rfl, _, _, rfl, rfl, fun s fa w' hΦ hF hB K hK => ?_⟩
    exact fl_val rfl rfl rfl (ex_field_addr TfJ.off24_1 (hF.ev rfl)) hK
   ·
    refine .inr (.inl ⟨rfl, _, _, rfl, rfl, ?_, trivial⟩)
    ·
     intro fa w' hΦ hF hB K hK
     obtain ⟨hA, hS, E_w'⟩ := hΦ
     replace hF := hF.cons (hB.val 4 _ 30 _ rfl rfl rfl rfl)
     exact fl_val rfl rfl rfl (ex_load1b TfJ.one22 (hF.ev rfl) (hS.get 1 rfl) rfl) hK
   ·
    refine .inr (.inr ⟨rfl, ?_, trivial⟩)
    ·
     intro fa w' hΦ hF hB
     obtain ⟨hA, hS, E_w'⟩ := hΦ
     replace hF := hF.cons (hB.val 3 _ 29 _ rfl rfl rfl rfl)
     replace hF := hF.cons (hB.val 5 _ 31 _ rfl rfl rfl rfl)
     refine wop rfl rfl ?_
     have hC := integer_minus_ok (w := w') (X := (g9 :: (g5 :: (g1 :: X)))) (x := (lim b.natAbs)) (y := (lim a.natAbs)) (hS.bnd hX) ⟨_, ((lim b.natAbs).length), _, rfl, (rfl), (hu_b.ext ((((((E3.trans E7).trans E11).trans E17).trans E20).trans E22).trans E_w'))⟩ ⟨_, ((lim a.natAbs).length), _, rfl, (rfl), (hu_a.ext ((((((E3.trans E7).trans E11).trans E17).trans E20).trans E22).trans E_w'))⟩ (by omega) (by omega) (lb_lim _) (lb_lim _) (lim_le_of_le hle0) (by rw [val_lim, val_lim]; exact hle0)
     refine op_call hF rfl TfJ.body57 (args2 (hF.ev rfl) (hF.ev rfl)) hC ?_
     clear hC
     rintro _ wo5_6_1 ⟨⟨o_o5_6_4, ⟨Ao5_6_5, _, co5_6_6, rfl, rfl, huo5_6_7⟩, hpo5_6_8, hpo5_6_9, hpo5_6_10⟩, hbo5_6_2⟩
     clear hF; intro hF
     replace hS := hS.call hbo5_6_2; have Eo5_6_3 := Ext.call (g9 :: (g5 :: (g1 :: X))) hbo5_6_2
     have hA1 := ((hA.put_other _ rfl).cons (hF.get 32 _ rfl))
     exact ⟨1, rfl, ⟨o_o5_6_4, Ao5_6_5, co5_6_6, (hA1.take hA1.nil rfl), hS, (E_w'.trans Eo5_6_3), huo5_6_7, hpo5_6_8, hpo5_6_9, hpo5_6_10⟩, _, rfl, fun u hu => by cases hu <;> rfl⟩
   ·
    refine .inr (.inr ⟨rfl, ?_, trivial⟩)
    ·
     intro fa w' hΦ hF hB
     obtain ⟨o_o5_6_4, Ao5_6_5, co5_6_6, hA, hS, E_w', huo5_6_7, hpo5_6_8, hpo5_6_9, hpo5_6_10⟩ := hΦ
     replace hF := hF.cons (hB.val 1 _ 27 _ rfl rfl rfl rfl)
     replace hF := hF.cons (hA.get 32 _ rfl)
     refine wop rfl rfl ?_
     have hC := integer_signed_ok (w := w') (X := (g9 :: (g5 :: (g1 :: X)))) (l := o_o5_6_4) (hS.bnd hX) (decide (b < 0)) ⟨_, (o_o5_6_4.length), _, rfl, (rfl), huo5_6_7⟩ (by assumption)
     refine op_call hF rfl TfJ.body41 (args2 (hF.ev rfl) (hF.ev rfl)) hC ?_
     clear hC
     rintro _ wo5_7_1 ⟨⟨_, rfl, Ao5_7_4, co5_7_5, rfl, huo5_7_6⟩, hbo5_7_2⟩
     clear hF; intro hF
     replace hS := hS.call hbo5_7_2; have Eo5_7_3 := Ext.call (g9 :: (g5 :: (g1 :: X))) hbo5_7_2
     have hA1 := ((hA.put_other _ rfl).cons (hF.get 33 _ rfl))
     exact ⟨2, rfl, ⟨o_o5_6_4, Ao5_6_5, co5_6_6, Ao5_7_4, co5_7_5, (hA1.take (hA1.take hA1.nil rfl) rfl), hS, (E_w'.trans Eo5_7_3), (huo5_6_7.ext Eo5_7_3), huo5_7_6, hpo5_6_8, hpo5_6_9, hpo5_6_10⟩, _, rfl, fun u hu => by cases hu <;> rfl⟩
   ·
    refine .inr (.inr ⟨rfl, ?_, trivial⟩)
    ·
     intro fa w' hΦ hF hB
     obtain ⟨o_o5_6_4, Ao5_6_5, co5_6_6, Ao5_7_4, co5_7_5, hA, hS, E_w', huo5_6_7, huo5_7_6, hpo5_6_8, hpo5_6_9, hpo5_6_10⟩ := hΦ
     replace hF := hF.cons (hA.get 33 _ rfl)
     refine wop rfl rfl ?_
     refine op_store (X := (g9 :: (g5 :: (g1 :: X)))) hF hS 0 rfl (by simp) rfl rfl rfl TfJ.size24 rfl (Nat.le_of_ble_eq_true rfl) ?_
     intro wo5_8_1 hS Eo5_8_2
     replace hS : St w wo5_8_1 [(g9, 24, (ic (Ao5_7_4) (co5_7_5) ((sgnv (decide (b < 0)) (val o_o5_6_4))))), (g5, 24, (ic (A_a) (c_a) (a))), (g1, 24, (ic (A_b) (c_b) (b)))] := hS
     exact ⟨3, rfl, ⟨o_o5_6_4, Ao5_6_5, co5_6_6, Ao5_7_4, co5_7_5, hA, hS, (E_w'.trans Eo5_8_2), (huo5_6_7.ext Eo5_8_2), (huo5_7_6.ext Eo5_8_2), hpo5_6_8, hpo5_6_9, hpo5_6_10⟩, undef, rfl, fun u hu => by cases hu <;> rfl⟩
  intro fa w23 hΦ hF hC
  obtain ⟨o_o5_6_4, Ao5_6_5, co5_6_6, Ao5_7_4, co5_7_5, hA, hS, E_w23, huo5_6_7, huo5_7_6, hpo5_6_8, hpo5_6_9, hpo5_6_10⟩ := hΦ
  clear hA hC
  refine x_tn ?_
  refine c_ret ?_
  refine end1 hF rfl (res_cell hF rfl TfJ.row24 (hS.get 0 rfl) rfl) ?_
  exact ⟨_, rfl, (IntV.fin (x := sgnv (decide (b < 0)) (val o_o5_6_4)) ⟨_, rfl, _, _, rfl, huo5_7_6⟩ (by have h1 : val _ = val (lim b.natAbs) - val (lim a.natAbs) := ‹_›; rw [val_lim, val_lim] at h1; rw [h1]; rw [Int.add_comm a b]; exact sgnv_sub (by simp only [decide_eq_decide]; omega) (by omega)) (fun x hx => by simp [hx])), hS.below⟩
 have hc18p : ¬ ((cmpN (val ((lim a.natAbs))) (val ((lim b.natAbs)))) < 0) := by first | simpa using hc18 | exact bang_t hc18 | exact bang_f hc18
 have hle0 : b.natAbs ≤ a.natAbs := by rw [val_lim, val_lim] at hc18p; exact cmpN_ge0.1 (by omega)
 refine c_skip ?_
 refine x_tn ?_
 refine c_seq ?_
 refine drawn2 (N := 34) (L0 := [(0, (.agg (ic (A_a) (c_a) (a)))), (1, (.agg (ic (A_b) (c_b) (b)))), (2, (.pointer (some ⟨g1, 0, none⟩))), (3, (.pointer (some ⟨g5, 0, none⟩))), (4, (.pointer (some ⟨g9, 0, none⟩))), (9, (.bool ((decide (a < 0)) == (decide (b < 0))))), (23, (.bool (decide ((cmpN (val ((lim a.natAbs))) (val ((lim b.natAbs)))) < 0))))]) [some (.pointer (some ⟨g1, 0, none⟩)), some (.bool (decide (a < 0))), some (.pointer (some ⟨g1, 1, none⟩)), some (.slice (A_a) ((lim a.natAbs).length) (c_a)), some (.pointer (some ⟨g5, 1, none⟩)), some (.slice (A_b) ((lim b.natAbs).length) (c_b)), none, none, none] [6, 7, 8] [[], [6], [6, 7], [6, 7, 8]] [[0, 1, 2], [0, 1], [0, 1, 2], [0], [0, 1, 2], [0], [0], [1], [2]] 3 [
       fun fa w' => Frm 34 fa [] ∧ St w w' [(g9, 24, #[(.bool (false)), (.slice (none) (0) (0))]), (g5, 24, (ic (A_b) (c_b) (b))), (g1, 24, (ic (A_a) (c_a) (a)))] ∧ Ext w15 (g9 :: (g5 :: (g1 :: X))) w' (g9 :: (g5 :: (g1 :: X)))
       , fun fa w' => ∃ o_o5_6_4 : List Nat, ∃ Ao5_6_5 : Option Addr, ∃ co5_6_6 : Nat, Frm 34 fa [(32, (.slice (Ao5_6_5) (o_o5_6_4.length) (co5_6_6)))] ∧ St w w' [(g9, 24, #[(.bool (false)), (.slice (none) (0) (0))]), (g5, 24, (ic (A_b) (c_b) (b))), (g1, 24, (ic (A_a) (c_a) (a)))] ∧ Ext w15 (g9 :: (g5 :: (g1 :: X))) w' (g9 :: (g5 :: (g1 :: X))) ∧ UC w' (g9 :: (g5 :: (g1 :: X))) Ao5_6_5 co5_6_6 o_o5_6_4 ∧ (Lb o_o5_6_4) ∧ (val o_o5_6_4 = val ((lim a.natAbs)) - val ((lim b.natAbs))) ∧ (o_o5_6_4.length = ((lim a.natAbs)).length)
       , fun fa w' => ∃ o_o5_6_4 : List Nat, ∃ Ao5_6_5 : Option Addr, ∃ co5_6_6 : Nat, ∃ Ao5_7_4 : Option Addr, ∃ co5_7_5 : Nat, Frm 34 fa [(32, (.slice (Ao5_6_5) (o_o5_6_4.length) (co5_6_6))), (33, (.agg (ic (Ao5_7_4) (co5_7_5) ((sgnv (decide (a < 0)) (val o_o5_6_4))))))] ∧ St w w' [(g9, 24, #[(.bool (false)), (.slice (none) (0) (0))]), (g5, 24, (ic (A_b) (c_b) (b))), (g1, 24, (ic (A_a) (c_a) (a)))] ∧ Ext w15 (g9 :: (g5 :: (g1 :: X))) w' (g9 :: (g5 :: (g1 :: X))) ∧ UC w' (g9 :: (g5 :: (g1 :: X))) Ao5_6_5 co5_6_6 o_o5_6_4 ∧ UC w' (g9 :: (g5 :: (g1 :: X))) Ao5_7_4 co5_7_5 (lim (sgnv (decide (a < 0)) (val o_o5_6_4)).natAbs) ∧ (Lb o_o5_6_4) ∧ (val o_o5_6_4 = val ((lim a.natAbs)) - val ((lim b.natAbs))) ∧ (o_o5_6_4.length = ((lim a.natAbs)).length)
       , fun fa w' => ∃ o_o5_6_4 : List Nat, ∃ Ao5_6_5 : Option Addr, ∃ co5_6_6 : Nat, ∃ Ao5_7_4 : Option Addr, ∃ co5_7_5 : Nat, Frm 34 fa [(32, (.slice (Ao5_6_5) (o_o5_6_4.length) (co5_6_6))), (33, (.agg (ic (Ao5_7_4) (co5_7_5) ((sgnv (decide (a < 0)) (val o_o5_6_4))))))] ∧ St w w' [(g9, 24, (ic (Ao5_7_4) (co5_7_5) ((sgnv (decide (a < 0)) (val o_o5_6_4))))), (g5, 24, (ic (A_b) (c_b) (b))), (g1, 24, (ic (A_a) (c_a) (a)))] ∧ Ext w15 (g9 :: (g5 :: (g1 :: X))) w' (g9 :: (g5 :: (g1 :: X))) ∧ UC w' (g9 :: (g5 :: (g1 :: X))) Ao5_6_5 co5_6_6 o_o5_6_4 ∧ UC w' (g9 :: (g5 :: (g1 :: X))) Ao5_7_4 co5_7_5 (lim (sgnv (decide (a < 0)) (val o_o5_6_4)).natAbs) ∧ (Lb o_o5_6_4) ∧ (val o_o5_6_4 = val ((lim a.natAbs)) - val ((lim b.natAbs))) ∧ (o_o5_6_4.length = ((lim a.natAbs)).length)
     ] TfJ.mixed rfl rfl rfl rfl rfl rfl (hF.take (hF.take (hF.take (hF.take (hF.take (hF.take (hF.take hF.nil rfl) rfl) rfl) rfl) rfl) rfl) rfl) rfl ⟨hF.nil, hS.drew, Ext.drew _ _⟩ ?_ ?_ ?_
 all_goals clear hF fa
 ·
  refine ⟨?_, ?_, ?_, ?_, trivial⟩
  ·
   rintro fa w' i o d v ho hd hna ⟨hA, hR⟩; exact ⟨hA.put_other v (freeOf_at (acts := [6, 7, 8]) rfl ho hd hna), hR⟩
  ·
   rintro fa w' i o d v ho hd hna ⟨o_o5_6_4, Ao5_6_5, co5_6_6, hA, hR⟩; exact ⟨o_o5_6_4, Ao5_6_5, co5_6_6, hA.put_other v (freeOf_at (acts := [6, 7, 8]) rfl ho hd hna), hR⟩
  ·
   rintro fa w' i o d v ho hd hna ⟨o_o5_6_4, Ao5_6_5, co5_6_6, Ao5_7_4, co5_7_5, hA, hR⟩; exact ⟨o_o5_6_4, Ao5_6_5, co5_6_6, Ao5_7_4, co5_7_5, hA.put_other v (freeOf_at (acts := [6, 7, 8]) rfl ho hd hna), hR⟩
  ·
   rintro fa w' i o d v ho hd hna ⟨o_o5_6_4, Ao5_6_5, co5_6_6, Ao5_7_4, co5_7_5, hA, hR⟩; exact ⟨o_o5_6_4, Ao5_6_5, co5_6_6, Ao5_7_4, co5_7_5, hA.put_other v (freeOf_at (acts := [6, 7, 8]) rfl ho hd hna), hR⟩
 ·
  refine ⟨?_, ?_, ?_, ?_, ?_, ?_, ?_, ?_, ?_, trivial⟩
  ·
   refine .inl ⟨rfl, _, _, rfl, rfl, fun s fa w' hΦ hF hB K hK => ?_⟩
   exact fl_val rfl rfl rfl (ex_field_addr TfJ.off24_0 (hF.ev rfl)) hK
  ·
   refine .inr (.inl ⟨rfl, _, _, rfl, rfl, ?_, ?_, trivial⟩)
   ·
    intro fa w' hΦ hF hB K hK
    obtain ⟨hA, hS, E_w'⟩ := hΦ
    replace hF := hF.cons (hB.val 0 _ 26 _ rfl rfl rfl rfl)
    exact fl_val rfl rfl rfl (ex_load1b TfJ.one4 (hF.ev rfl) (hS.get 2 rfl) rfl) hK
   ·
    intro fa w' hΦ hF hB K hK
    obtain ⟨o_o5_6_4, Ao5_6_5, co5_6_6, hA, hS, E_w', huo5_6_7, hpo5_6_8, hpo5_6_9, hpo5_6_10⟩ := hΦ
    replace hF := hF.cons (hB.val 0 _ 26 _ rfl rfl rfl rfl)
    exact fl_val rfl rfl rfl (ex_load1b TfJ.one4 (hF.ev rfl) (hS.get 2 rfl) rfl) hK
  ·
   refine .inl ⟨rfl, _, _, rfl, rfl, fun s fa w' hΦ hF hB K hK => ?_⟩
   exact fl_val rfl rfl rfl (ex_field_addr TfJ.off24_1 (hF.ev rfl)) hK
  ·
   refine .inr (.inl ⟨rfl, _, _, rfl, rfl, ?_, trivial⟩)
   ·
    intro fa w' hΦ hF hB K hK
    obtain ⟨hA, hS, E_w'⟩ := hΦ
    replace hF := hF.cons (hB.val 2 _ 28 _ rfl rfl rfl rfl)
    exact fl_val rfl rfl rfl (ex_load1b TfJ.one22 (hF.ev rfl) (hS.get 2 rfl) rfl) hK
  ·
   refine .inl ⟨rfl, _, _, rfl, rfl, fun s fa w' hΦ hF hB K hK => ?_⟩
   exact fl_val rfl rfl rfl (ex_field_addr TfJ.off24_1 (hF.ev rfl)) hK
  ·
   refine .inr (.inl ⟨rfl, _, _, rfl, rfl, ?_, trivial⟩)
   ·
    intro fa w' hΦ hF hB K hK
    obtain ⟨hA, hS, E_w'⟩ := hΦ
    replace hF := hF.cons (hB.val 4 _ 30 _ rfl rfl rfl rfl)
    exact fl_val rfl rfl rfl (ex_load1b TfJ.one22 (hF.ev rfl) (hS.get 1 rfl) rfl) hK
  ·
   refine .inr (.inr ⟨rfl, ?_, trivial⟩)
   ·
    intro fa w' hΦ hF hB
    obtain ⟨hA, hS, E_w'⟩ := hΦ
    replace hF := hF.cons (hB.val 3 _ 29 _ rfl rfl rfl rfl)
    replace hF := hF.cons (hB.val 5 _ 31 _ rfl rfl rfl rfl)
    refine wop rfl rfl ?_
    have hC := integer_minus_ok (w := w') (X := (g9 :: (g5 :: (g1 :: X)))) (x := (lim a.natAbs)) (y := (lim b.natAbs)) (hS.bnd hX) ⟨_, ((lim a.natAbs).length), _, rfl, (rfl), (hu_a.ext ((((E3.trans E7).trans E11).trans E17).trans E_w'))⟩ ⟨_, ((lim b.natAbs).length), _, rfl, (rfl), (hu_b.ext ((((E3.trans E7).trans E11).trans E17).trans E_w'))⟩ (by omega) (by omega) (lb_lim _) (lb_lim _) (lim_le_of_le hle0) (by rw [val_lim, val_lim]; exact hle0)
    refine op_call hF rfl TfJ.body57 (args2 (hF.ev rfl) (hF.ev rfl)) hC ?_
    clear hC
    rintro _ wo5_6_1 ⟨⟨o_o5_6_4, ⟨Ao5_6_5, _, co5_6_6, rfl, rfl, huo5_6_7⟩, hpo5_6_8, hpo5_6_9, hpo5_6_10⟩, hbo5_6_2⟩
    clear hF; intro hF
    replace hS := hS.call hbo5_6_2; have Eo5_6_3 := Ext.call (g9 :: (g5 :: (g1 :: X))) hbo5_6_2
    have hA1 := ((hA.put_other _ rfl).cons (hF.get 32 _ rfl))
    exact ⟨1, rfl, ⟨o_o5_6_4, Ao5_6_5, co5_6_6, (hA1.take hA1.nil rfl), hS, (E_w'.trans Eo5_6_3), huo5_6_7, hpo5_6_8, hpo5_6_9, hpo5_6_10⟩, _, rfl, fun u hu => by cases hu <;> rfl⟩
  ·
   refine .inr (.inr ⟨rfl, ?_, trivial⟩)
   ·
    intro fa w' hΦ hF hB
    obtain ⟨o_o5_6_4, Ao5_6_5, co5_6_6, hA, hS, E_w', huo5_6_7, hpo5_6_8, hpo5_6_9, hpo5_6_10⟩ := hΦ
    replace hF := hF.cons (hB.val 1 _ 27 _ rfl rfl rfl rfl)
    replace hF := hF.cons (hA.get 32 _ rfl)
    refine wop rfl rfl ?_
    have hC := integer_signed_ok (w := w') (X := (g9 :: (g5 :: (g1 :: X)))) (l := o_o5_6_4) (hS.bnd hX) (decide (a < 0)) ⟨_, (o_o5_6_4.length), _, rfl, (rfl), huo5_6_7⟩ (by assumption)
    refine op_call hF rfl TfJ.body41 (args2 (hF.ev rfl) (hF.ev rfl)) hC ?_
    clear hC
    rintro _ wo5_7_1 ⟨⟨_, rfl, Ao5_7_4, co5_7_5, rfl, huo5_7_6⟩, hbo5_7_2⟩
    clear hF; intro hF
    replace hS := hS.call hbo5_7_2; have Eo5_7_3 := Ext.call (g9 :: (g5 :: (g1 :: X))) hbo5_7_2
    have hA1 := ((hA.put_other _ rfl).cons (hF.get 33 _ rfl))
    exact ⟨2, rfl, ⟨o_o5_6_4, Ao5_6_5, co5_6_6, Ao5_7_4, co5_7_5, (hA1.take (hA1.take hA1.nil rfl) rfl), hS, (E_w'.trans Eo5_7_3), (huo5_6_7.ext Eo5_7_3), huo5_7_6, hpo5_6_8, hpo5_6_9, hpo5_6_10⟩, _, rfl, fun u hu => by cases hu <;> rfl⟩
  ·
   refine .inr (.inr ⟨rfl, ?_, trivial⟩)
   ·
    intro fa w' hΦ hF hB
    obtain ⟨o_o5_6_4, Ao5_6_5, co5_6_6, Ao5_7_4, co5_7_5, hA, hS, E_w', huo5_6_7, huo5_7_6, hpo5_6_8, hpo5_6_9, hpo5_6_10⟩ := hΦ
    replace hF := hF.cons (hA.get 33 _ rfl)
    refine wop rfl rfl ?_
    refine op_store (X := (g9 :: (g5 :: (g1 :: X)))) hF hS 0 rfl (by simp) rfl rfl rfl TfJ.size24 rfl (Nat.le_of_ble_eq_true rfl) ?_
    intro wo5_8_1 hS Eo5_8_2
    replace hS : St w wo5_8_1 [(g9, 24, (ic (Ao5_7_4) (co5_7_5) ((sgnv (decide (a < 0)) (val o_o5_6_4))))), (g5, 24, (ic (A_b) (c_b) (b))), (g1, 24, (ic (A_a) (c_a) (a)))] := hS
    exact ⟨3, rfl, ⟨o_o5_6_4, Ao5_6_5, co5_6_6, Ao5_7_4, co5_7_5, hA, hS, (E_w'.trans Eo5_8_2), (huo5_6_7.ext Eo5_8_2), (huo5_7_6.ext Eo5_8_2), hpo5_6_8, hpo5_6_9, hpo5_6_10⟩, undef, rfl, fun u hu => by cases hu <;> rfl⟩
 intro fa w24 hΦ hF hC
 obtain ⟨o_o5_6_4, Ao5_6_5, co5_6_6, Ao5_7_4, co5_7_5, hA, hS, E_w24, huo5_6_7, huo5_7_6, hpo5_6_8, hpo5_6_9, hpo5_6_10⟩ := hΦ
 clear hA hC
 refine x_tn ?_
 refine c_ret ?_
 refine end1 hF rfl (res_cell hF rfl TfJ.row24 (hS.get 0 rfl) rfl) ?_
 exact ⟨_, rfl, (IntV.fin (x := sgnv (decide (a < 0)) (val o_o5_6_4)) ⟨_, rfl, _, _, rfl, huo5_7_6⟩ (by have h1 : val _ = val (lim a.natAbs) - val (lim b.natAbs) := ‹_›; rw [val_lim, val_lim] at h1; rw [h1]; exact sgnv_sub (by simp only [decide_eq_decide]; omega) (by omega)) (fun x hx => by simp [hx])), hS.below⟩

end Go.Proofs.Ytlaojdpcfenlkaa
