/-
  What the functions Mul, Mul do, each call by call.
  Conditions: none.
-/
import Derived.Test.YtlaojdpcfenlkaaChecked
import Derived.Test.YtlaojdpcfenlkaaSwBaseK
import Derived.Test.YtlaojdpcfenlkaaWA
import Derived.Test.YtlaojdpcfenlkaaWE
import Derived.Test.YtlaojdpcfenlkaaWF
import Derived.Test.YtlaojdpcfenlkaaWH
namespace Go.Proofs.Ytlaojdpcfenlkaa
open Go Go.RowKit Go.Sw
set_option linter.unusedVariables false
namespace TfI
theorem body41 : hasBody Try.prog 41 = true := by kernel_rfl
theorem body45 : hasBody Try.prog 45 = true := by kernel_rfl
theorem body48 : hasBody Try.prog 48 = true := by kernel_rfl
theorem body54 : hasBody Try.prog 54 = true := by kernel_rfl
theorem mixed : Try.prog.follows .mixedOrders = true := by kernel_rfl
theorem off24_0 : fieldOff Try.prog 24 0 = some 0 := by kernel_rfl
theorem off24_1 : fieldOff Try.prog 24 1 = some 1 := by kernel_rfl
theorem one22 : isOne Try.prog 22 = true := by kernel_rfl
theorem one4 : isOne Try.prog 4 = true := by kernel_rfl
theorem row24 : isRow Try.prog 24 2 = true := by kernel_rfl
theorem size24 : (Try.prog.info? 24).map (fun i => i.size) = some 2 := by kernel_rfl
theorem und4 : Try.prog.underlying 4 = some TypeDesc.bool := by kernel_rfl
theorem zero24 : zeroOf Try.prog 24 = some #[.bool false, .slice none 0 0] := by kernel_rfl
end TfI
set_option maxHeartbeats 4000000 in
theorem ref01_Mul_ok {w : World} {X : List Nat} (hX : ∀ m ∈ X, m < w.heap.size) {v_a : Value} {a : Int} (h_a : IntV w X v_a (a)) {v_b : Value} {b : Int} (h_b : IntV w X v_b (b)) (hs_a : sz a ≤ 1000000000) (hs_b : sz b ≤ 1000000000) :
    Calls Try.prog 21 #[v_a, v_b] w (Ret fun r w' => (IntV w' X r (a * b)) ∧ Below w.heap.size w w') := by
 refine enter (N := 16) (fn := Try.f21) (vs := [v_a, v_b]) Try.func21 rfl rfl rfl ?_
 intro fa hF
 obtain ⟨_, rfl, A_a, c_a, rfl, hu_a⟩ := h_a
 have hl_a := hu_a.len; have hc_a := hu_a.cap
 obtain ⟨_, rfl, A_b, c_b, rfl, hu_b⟩ := h_b
 have hl_b := hu_b.len; have hc_b := hu_b.cap
 replace hF : Frm 16 fa [(0, (.agg (ic (A_a) (c_a) (a)))), (1, (.agg (ic (A_b) (c_b) (b))))] := hF
 have hS := St.refl w
 have hz_a : (lim a.natAbs).length ≤ 1000000000 := by have h0 := hs_a; unfold sz at h0; omega
 have hz_b : (lim b.natAbs).length ≤ 1000000000 := by have h0 := hs_b; unfold sz at h0; omega
 refine c_seq ?_
 refine c_reg ?_
 refine st rfl (op_box (X := X) hF hS rfl rfl rfl ?_)
 intro g1 w2 hg4 hS E3; refine gen_ ?_; clear hF fa; intro fa hF
 replace hS : St w w2 [(g1, 24, (ic (A_a) (c_a) (a)))] := hS
 refine st rfl (op_box (X := (g1 :: X)) hF hS rfl rfl rfl ?_)
 intro g5 w6 hg8 hS E7; refine gen_ ?_; clear hF fa; intro fa hF
 replace hS : St w w6 [(g5, 24, (ic (A_b) (c_b) (b))), (g1, 24, (ic (A_a) (c_a) (a)))] := hS
 refine st rfl (op_alloc (X := (g5 :: (g1 :: X))) hF hS rfl TfI.zero24 ?_)
 intro g9 w10 hg12 hS E11; refine gen_ ?_; clear hF fa; intro fa hF
 replace hS : St w w10 [(g9, 24, #[(.bool (false)), (.slice (none) (0) (0))]), (g5, 24, (ic (A_b) (c_b) (b))), (g1, 24, (ic (A_a) (c_a) (a)))] := hS
 refine c_nil_then ?_
 refine c_seq ?_
 refine drawn2 (N := 16) (L0 := [(0, (.agg (ic (A_a) (c_a) (a)))), (1, (.agg (ic (A_b) (c_b) (b)))), (2, (.pointer (some ⟨g1, 0, none⟩))), (3, (.pointer (some ⟨g5, 0, none⟩))), (4, (.pointer (some ⟨g9, 0, none⟩)))]) [some (.pointer (some ⟨g1, 0, none⟩)), some (.bool (decide (a < 0))), some (.pointer (some ⟨g5, 0, none⟩)), some (.bool (decide (b < 0))), some (.bool ((decide (a < 0)) != (decide (b < 0)))), some (.pointer (some ⟨g1, 1, none⟩)), some (.slice (A_a) ((lim a.natAbs).length) (c_a)), some (.pointer (some ⟨g5, 1, none⟩)), some (.slice (A_b) ((lim b.natAbs).length) (c_b)), none, none, none] [9, 10, 11] [[], [9], [9, 10], [9, 10, 11]] [[0, 1, 2], [0, 1, 2], [0, 1, 2], [0, 1, 2], [0, 1], [0, 1, 2], [0], [0, 1, 2], [0], [0], [1], [2]] 3 [
       fun fa w' => Frm 16 fa [] ∧ St w w' [(g9, 24, #[(.bool (false)), (.slice (none) (0) (0))]), (g5, 24, (ic (A_b) (c_b) (b))), (g1, 24, (ic (A_a) (c_a) (a)))] ∧ Ext w10 (g9 :: (g5 :: (g1 :: X))) w' (g9 :: (g5 :: (g1 :: X)))
       , fun fa w' => ∃ Ao1_9_4 : Option Addr, ∃ co1_9_5 : Nat, Frm 16 fa [(14, (.slice (Ao1_9_4) ((lim (val ((lim a.natAbs)) * val ((lim b.natAbs)))).length) (co1_9_5)))] ∧ St w w' [(g9, 24, #[(.bool (false)), (.slice (none) (0) (0))]), (g5, 24, (ic (A_b) (c_b) (b))), (g1, 24, (ic (A_a) (c_a) (a)))] ∧ Ext w10 (g9 :: (g5 :: (g1 :: X))) w' (g9 :: (g5 :: (g1 :: X))) ∧ UC w' (g9 :: (g5 :: (g1 :: X))) Ao1_9_4 co1_9_5 (lim (val ((lim a.natAbs)) * val ((lim b.natAbs))))
       , fun fa w' => ∃ Ao1_9_4 : Option Addr, ∃ co1_9_5 : Nat, ∃ Ao1_10_4 : Option Addr, ∃ co1_10_5 : Nat, Frm 16 fa [(14, (.slice (Ao1_9_4) ((lim (val ((lim a.natAbs)) * val ((lim b.natAbs)))).length) (co1_9_5))), (15, (.agg (ic (Ao1_10_4) (co1_10_5) ((sgnv ((decide (a < 0)) != (decide (b < 0))) (val ((lim (val ((lim a.natAbs)) * val ((lim b.natAbs)))))))))))] ∧ St w w' [(g9, 24, #[(.bool (false)), (.slice (none) (0) (0))]), (g5, 24, (ic (A_b) (c_b) (b))), (g1, 24, (ic (A_a) (c_a) (a)))] ∧ Ext w10 (g9 :: (g5 :: (g1 :: X))) w' (g9 :: (g5 :: (g1 :: X))) ∧ UC w' (g9 :: (g5 :: (g1 :: X))) Ao1_9_4 co1_9_5 (lim (val ((lim a.natAbs)) * val ((lim b.natAbs)))) ∧ UC w' (g9 :: (g5 :: (g1 :: X))) Ao1_10_4 co1_10_5 (lim (sgnv ((decide (a < 0)) != (decide (b < 0))) (val ((lim (val ((lim a.natAbs)) * val ((lim b.natAbs))))))).natAbs)
       , fun fa w' => ∃ Ao1_9_4 : Option Addr, ∃ co1_9_5 : Nat, ∃ Ao1_10_4 : Option Addr, ∃ co1_10_5 : Nat, Frm 16 fa [(14, (.slice (Ao1_9_4) ((lim (val ((lim a.natAbs)) * val ((lim b.natAbs)))).length) (co1_9_5))), (15, (.agg (ic (Ao1_10_4) (co1_10_5) ((sgnv ((decide (a < 0)) != (decide (b < 0))) (val ((lim (val ((lim a.natAbs)) * val ((lim b.natAbs)))))))))))] ∧ St w w' [(g9, 24, (ic (Ao1_10_4) (co1_10_5) ((sgnv ((decide (a < 0)) != (decide (b < 0))) (val ((lim (val ((lim a.natAbs)) * val ((lim b.natAbs)))))))))), (g5, 24, (ic (A_b) (c_b) (b))), (g1, 24, (ic (A_a) (c_a) (a)))] ∧ Ext w10 (g9 :: (g5 :: (g1 :: X))) w' (g9 :: (g5 :: (g1 :: X))) ∧ UC w' (g9 :: (g5 :: (g1 :: X))) Ao1_9_4 co1_9_5 (lim (val ((lim a.natAbs)) * val ((lim b.natAbs)))) ∧ UC w' (g9 :: (g5 :: (g1 :: X))) Ao1_10_4 co1_10_5 (lim (sgnv ((decide (a < 0)) != (decide (b < 0))) (val ((lim (val ((lim a.natAbs)) * val ((lim b.natAbs))))))).natAbs)
     ] TfI.mixed rfl rfl rfl rfl rfl rfl (hF.take (hF.take (hF.take (hF.take (hF.take hF.nil rfl) rfl) rfl) rfl) rfl) rfl ⟨hF.nil, hS.drew, Ext.drew _ _⟩ ?_ ?_ ?_
 all_goals clear hF fa
 ·
  refine ⟨?_, ?_, ?_, ?_, trivial⟩
  ·
   rintro fa w' i o d v ho hd hna ⟨hA, hR⟩; exact ⟨hA.put_other v (freeOf_at (acts := [9, 10, 11]) rfl ho hd hna), hR⟩
  ·
   rintro fa w' i o d v ho hd hna ⟨Ao1_9_4, co1_9_5, hA, hR⟩; exact ⟨Ao1_9_4, co1_9_5, hA.put_other v (freeOf_at (acts := [9, 10, 11]) rfl ho hd hna), hR⟩
  ·
   rintro fa w' i o d v ho hd hna ⟨Ao1_9_4, co1_9_5, Ao1_10_4, co1_10_5, hA, hR⟩; exact ⟨Ao1_9_4, co1_9_5, Ao1_10_4, co1_10_5, hA.put_other v (freeOf_at (acts := [9, 10, 11]) rfl ho hd hna), hR⟩
  ·
   rintro fa w' i o d v ho hd hna ⟨Ao1_9_4, co1_9_5, Ao1_10_4, co1_10_5, hA, hR⟩; exact ⟨Ao1_9_4, co1_9_5, Ao1_10_4, co1_10_5, hA.put_other v (freeOf_at (acts := [9, 10, 11]) rfl ho hd hna), hR⟩
 ·
  refine ⟨?_, ?_, ?_, ?_, ?_, ?_, ?_, ?_, ?_, ?_, ?_, ?_, trivial⟩
  ·
   refine .inl ⟨rfl, _, _, rfl, rfl, fun s fa w' hΦ hF hB K hK => ?_⟩
   exact fl_val rfl rfl rfl (ex_field_addr TfI.off24_0 (hF.ev rfl)) hK
  ·
   refine .inr (.inl ⟨rfl, _, _, rfl, rfl, ?_, ?_, ?_, trivial⟩)
   ·
    intro fa w' hΦ hF hB K hK
    obtain ⟨hA, hS, E_w'⟩ := hΦ
    replace hF := hF.cons (hB.val 0 _ 5 _ rfl rfl rfl rfl)
    exact fl_val rfl rfl rfl (ex_load1b TfI.one4 (hF.ev rfl) (hS.get 2 rfl) rfl) hK
   ·
    intro fa w' hΦ hF hB K hK
    obtain ⟨Ao1_9_4, co1_9_5, hA, hS, E_w', huo1_9_6⟩ := hΦ
    replace hF := hF.cons (hB.val 0 _ 5 _ rfl rfl rfl rfl)
    exact fl_val rfl rfl rfl (ex_load1b TfI.one4 (hF.ev rfl) (hS.get 2 rfl) rfl) hK
   ·
    intro fa w' hΦ hF hB K hK
    obtain ⟨Ao1_9_4, co1_9_5, Ao1_10_4, co1_10_5, hA, hS, E_w', huo1_9_6, huo1_10_6⟩ := hΦ
    replace hF := hF.cons (hB.val 0 _ 5 _ rfl rfl rfl rfl)
    exact fl_val rfl rfl rfl (ex_load1b TfI.one4 (hF.ev rfl) (hS.get 2 rfl) rfl) hK
  ·
   refine .inl ⟨rfl, _, _, rfl, rfl, fun s fa w' hΦ hF hB K hK => ?_⟩
   exact fl_val rfl rfl rfl (ex_field_addr TfI.off24_0 (hF.ev rfl)) hK
  ·
   refine .inr (.inl ⟨rfl, _, _, rfl, rfl, ?_, ?_, ?_, trivial⟩)
   ·
    intro fa w' hΦ hF hB K hK
    obtain ⟨hA, hS, E_w'⟩ := hΦ
    replace hF := hF.cons (hB.val 2 _ 7 _ rfl rfl rfl rfl)
    exact fl_val rfl rfl rfl (ex_load1b TfI.one4 (hF.ev rfl) (hS.get 1 rfl) rfl) hK
   ·
    intro fa w' hΦ hF hB K hK
    obtain ⟨Ao1_9_4, co1_9_5, hA, hS, E_w', huo1_9_6⟩ := hΦ
    replace hF := hF.cons (hB.val 2 _ 7 _ rfl rfl rfl rfl)
    exact fl_val rfl rfl rfl (ex_load1b TfI.one4 (hF.ev rfl) (hS.get 1 rfl) rfl) hK
   ·
    intro fa w' hΦ hF hB K hK
    obtain ⟨Ao1_9_4, co1_9_5, Ao1_10_4, co1_10_5, hA, hS, E_w', huo1_9_6, huo1_10_6⟩ := hΦ
    replace hF := hF.cons (hB.val 2 _ 7 _ rfl rfl rfl rfl)
    exact fl_val rfl rfl rfl (ex_load1b TfI.one4 (hF.ev rfl) (hS.get 1 rfl) rfl) hK
  ·
   refine .inl ⟨rfl, _, _, rfl, rfl, fun s fa w' hΦ hF hB K hK => ?_⟩
   replace hF := hF.cons (hB.val 1 _ 6 _ rfl rfl rfl rfl)
   replace hF := hF.cons (hB.val 3 _ 8 _ rfl rfl rfl rfl)
   exact fl_val rfl rfl rfl (ex_neb TfI.und4 (hF.ev rfl) (hF.ev rfl)) hK
  ·
   refine .inl ⟨rfl, _, _, rfl, rfl, fun s fa w' hΦ hF hB K hK => ?_⟩
   exact fl_val rfl rfl rfl (ex_field_addr TfI.off24_1 (hF.ev rfl)) hK
  ·
   refine .inr (.inl ⟨rfl, _, _, rfl, rfl, ?_, trivial⟩)
   ·
    intro fa w' hΦ hF hB K hK
    obtain ⟨hA, hS, E_w'⟩ := hΦ
    replace hF := hF.cons (hB.val 5 _ 10 _ rfl rfl rfl rfl)
    exact fl_val rfl rfl rfl (ex_load1b TfI.one22 (hF.ev rfl) (hS.get 2 rfl) rfl) hK
  ·
   refine .inl ⟨rfl, _, _, rfl, rfl, fun s fa w' hΦ hF hB K hK => ?_⟩
   exact fl_val rfl rfl rfl (ex_field_addr TfI.off24_1 (hF.ev rfl)) hK
  ·
   refine .inr (.inl ⟨rfl, _, _, rfl, rfl, ?_, trivial⟩)
   ·
    intro fa w' hΦ hF hB K hK
    obtain ⟨hA, hS, E_w'⟩ := hΦ
    replace hF := hF.cons (hB.val 7 _ 12 _ rfl rfl rfl rfl)
    exact fl_val rfl rfl rfl (ex_load1b TfI.one22 (hF.ev rfl) (hS.get 1 rfl) rfl) hK
  ·
   refine .inr (.inr ⟨rfl, ?_, trivial⟩)
   ·
    intro fa w' hΦ hF hB
    obtain ⟨hA, hS, E_w'⟩ := hΦ
    replace hF := hF.cons (hB.val 6 _ 11 _ rfl rfl rfl rfl)
    replace hF := hF.cons (hB.val 8 _ 13 _ rfl rfl rfl rfl)
    refine wop rfl rfl ?_
    have hC := ref01_times_ok (w := w') (X := (g9 :: (g5 :: (g1 :: X)))) (a := (lim a.natAbs)) (b := (lim b.natAbs)) (hS.bnd hX) ⟨_, ((lim a.natAbs).length), _, rfl, (rfl), (hu_a.ext (((E3.trans E7).trans E11).trans E_w'))⟩ ⟨_, ((lim b.natAbs).length), _, rfl, (rfl), (hu_b.ext (((E3.trans E7).trans E11).trans E_w'))⟩ (by omega) (by omega) (lb_lim _) (lb_lim _)
    refine op_call hF rfl TfI.body48 (args2 (hF.ev rfl) (hF.ev rfl)) hC ?_
    clear hC
    rintro _ wo1_9_1 ⟨⟨Ao1_9_4, _, co1_9_5, rfl, rfl, huo1_9_6⟩, hbo1_9_2⟩
    clear hF; intro hF
    replace hS := hS.call hbo1_9_2; have Eo1_9_3 := Ext.call (g9 :: (g5 :: (g1 :: X))) hbo1_9_2
    have hA1 := ((hA.put_other _ rfl).cons (hF.get 14 _ rfl))
    exact ⟨1, rfl, ⟨Ao1_9_4, co1_9_5, (hA1.take hA1.nil rfl), hS, (E_w'.trans Eo1_9_3), huo1_9_6⟩, _, rfl, fun u hu => by cases hu <;> rfl⟩
  ·
   refine .inr (.inr ⟨rfl, ?_, trivial⟩)
   ·
    intro fa w' hΦ hF hB
    obtain ⟨Ao1_9_4, co1_9_5, hA, hS, E_w', huo1_9_6⟩ := hΦ
    replace hF := hF.cons (hB.val 4 _ 9 _ rfl rfl rfl rfl)
    replace hF := hF.cons (hA.get 14 _ rfl)
    refine wop rfl rfl ?_
    have hC := ref01_signed_ok (w := w') (X := (g9 :: (g5 :: (g1 :: X)))) (l := (lim (val ((lim a.natAbs)) * val ((lim b.natAbs))))) (hS.bnd hX) ((decide (a < 0)) != (decide (b < 0))) ⟨_, ((lim (val ((lim a.natAbs)) * val ((lim b.natAbs)))).length), _, rfl, (rfl), huo1_9_6⟩ (lb_lim _)
    refine op_call hF rfl TfI.body45 (args2 (hF.ev rfl) (hF.ev rfl)) hC ?_
    clear hC
    rintro _ wo1_10_1 ⟨⟨_, rfl, Ao1_10_4, co1_10_5, rfl, huo1_10_6⟩, hbo1_10_2⟩
    clear hF; intro hF
    replace hS := hS.call hbo1_10_2; have Eo1_10_3 := Ext.call (g9 :: (g5 :: (g1 :: X))) hbo1_10_2
    have hA1 := ((hA.put_other _ rfl).cons (hF.get 15 _ rfl))
    exact ⟨2, rfl, ⟨Ao1_9_4, co1_9_5, Ao1_10_4, co1_10_5, (hA1.take (hA1.take hA1.nil rfl) rfl), hS, (E_w'.trans Eo1_10_3), (huo1_9_6.ext Eo1_10_3), huo1_10_6⟩, _, rfl, fun u hu => by cases hu <;> rfl⟩
  ·
   refine .inr (.inr ⟨rfl, ?_, trivial⟩)
   ·
    intro fa w' hΦ hF hB
    obtain ⟨Ao1_9_4, co1_9_5, Ao1_10_4, co1_10_5, hA, hS, E_w', huo1_9_6, huo1_10_6⟩ := hΦ
    replace hF := hF.cons (hA.get 15 _ rfl)
    refine wop rfl rfl ?_
    refine op_store (X := (g9 :: (g5 :: (g1 :: X)))) hF hS 0 rfl (by simp) rfl rfl rfl TfI.size24 rfl (Nat.le_of_ble_eq_true rfl) ?_
    intro wo1_11_1 hS Eo1_11_2
    replace hS : St w wo1_11_1 [(g9, 24, (ic (Ao1_10_4) (co1_10_5) ((sgnv ((decide (a < 0)) != (decide (b < 0))) (val ((lim (val ((lim a.natAbs)) * val ((lim b.natAbs)))))))))), (g5, 24, (ic (A_b) (c_b) (b))), (g1, 24, (ic (A_a) (c_a) (a)))] := hS
    exact ⟨3, rfl, ⟨Ao1_9_4, co1_9_5, Ao1_10_4, co1_10_5, hA, hS, (E_w'.trans Eo1_11_2), (huo1_9_6.ext Eo1_11_2), (huo1_10_6.ext Eo1_11_2)⟩, undef, rfl, fun u hu => by cases hu <;> rfl⟩
 intro fa w13 hΦ hF hC
 obtain ⟨Ao1_9_4, co1_9_5, Ao1_10_4, co1_10_5, hA, hS, E_w13, huo1_9_6, huo1_10_6⟩ := hΦ
 clear hA hC
 refine x_tn ?_
 refine c_ret ?_
 refine end1 hF rfl (res_cell hF rfl TfI.row24 (hS.get 0 rfl) rfl) ?_
 exact ⟨_, rfl, (IntV.fin (x := sgnv ((decide (a < 0)) != (decide (b < 0))) (val ((lim (val ((lim a.natAbs)) * val ((lim b.natAbs))))))) ⟨_, rfl, _, _, rfl, huo1_10_6⟩ (by rw [val_lim, val_lim, val_lim]; exact sgnv_mul a b) (fun x hx => by simp [hx])), hS.below⟩

set_option maxHeartbeats 4000000 in
theorem integer_Mul_ok {w : World} {X : List Nat} (hX : ∀ m ∈ X, m < w.heap.size) {v_a : Value} {a : Int} (h_a : IntV w X v_a (a)) {v_b : Value} {b : Int} (h_b : IntV w X v_b (b)) (hs_a : sz a ≤ 1000000000) (hs_b : sz b ≤ 1000000000) :
    Calls Try.prog 27 #[v_a, v_b] w (Ret fun r w' => (IntV w' X r (a * b)) ∧ Below w.heap.size w w') := by
 refine enter (N := 16) (fn := Try.f27) (vs := [v_a, v_b]) Try.func27 rfl rfl rfl ?_
 intro fa hF
 obtain ⟨_, rfl, A_a, c_a, rfl, hu_a⟩ := h_a
 have hl_a := hu_a.len; have hc_a := hu_a.cap
 obtain ⟨_, rfl, A_b, c_b, rfl, hu_b⟩ := h_b
 have hl_b := hu_b.len; have hc_b := hu_b.cap
 replace hF : Frm 16 fa [(0, (.agg (ic (A_a) (c_a) (a)))), (1, (.agg (ic (A_b) (c_b) (b))))] := hF
 have hS := St.refl w
 have hz_a : (lim a.natAbs).length ≤ 1000000000 := by have h0 := hs_a; unfold sz at h0; omega
 have hz_b : (lim b.natAbs).length ≤ 1000000000 := by have h0 := hs_b; unfold sz at h0; omega
 refine c_seq ?_
 refine c_reg ?_
 refine st rfl (op_box (X := X) hF hS rfl rfl rfl ?_)
 intro g1 w2 hg4 hS E3; refine gen_ ?_; clear hF fa; intro fa hF
 replace hS : St w w2 [(g1, 24, (ic (A_a) (c_a) (a)))] := hS
 refine st rfl (op_box (X := (g1 :: X)) hF hS rfl rfl rfl ?_)
 intro g5 w6 hg8 hS E7; refine gen_ ?_; clear hF fa; intro fa hF
 replace hS : St w w6 [(g5, 24, (ic (A_b) (c_b) (b))), (g1, 24, (ic (A_a) (c_a) (a)))] := hS
 refine st rfl (op_alloc (X := (g5 :: (g1 :: X))) hF hS rfl TfI.zero24 ?_)
 intro g9 w10 hg12 hS E11; refine gen_ ?_; clear hF fa; intro fa hF
 replace hS : St w w10 [(g9, 24, #[(.bool (false)), (.slice (none) (0) (0))]), (g5, 24, (ic (A_b) (c_b) (b))), (g1, 24, (ic (A_a) (c_a) (a)))] := hS
 refine c_nil_then ?_
 refine c_seq ?_
 refine drawn2 (N := 16) (L0 := [(0, (.agg (ic (A_a) (c_a) (a)))), (1, (.agg (ic (A_b) (c_b) (b)))), (2, (.pointer (some ⟨g1, 0, none⟩))), (3, (.pointer (some ⟨g5, 0, none⟩))), (4, (.pointer (some ⟨g9, 0, none⟩)))]) [some (.pointer (some ⟨g1, 0, none⟩)), some (.bool (decide (a < 0))), some (.pointer (some ⟨g5, 0, none⟩)), some (.bool (decide (b < 0))), some (.bool ((decide (a < 0)) != (decide (b < 0)))), some (.pointer (some ⟨g1, 1, none⟩)), some (.slice (A_a) ((lim a.natAbs).length) (c_a)), some (.pointer (some ⟨g5, 1, none⟩)), some (.slice (A_b) ((lim b.natAbs).length) (c_b)), none, none, none] [9, 10, 11] [[], [9], [9, 10], [9, 10, 11]] [[0, 1, 2], [0, 1, 2], [0, 1, 2], [0, 1, 2], [0, 1], [0, 1, 2], [0], [0, 1, 2], [0], [0], [1], [2]] 3 [
       fun fa w' => Frm 16 fa [] ∧ St w w' [(g9, 24, #[(.bool (false)), (.slice (none) (0) (0))]), (g5, 24, (ic (A_b) (c_b) (b))), (g1, 24, (ic (A_a) (c_a) (a)))] ∧ Ext w10 (g9 :: (g5 :: (g1 :: X))) w' (g9 :: (g5 :: (g1 :: X)))
       , fun fa w' => ∃ o_o1_9_4 : List Nat, ∃ go1_9_5 : Nat, Frm 16 fa [(14, (.slice (some ⟨go1_9_5, 0, none⟩) (o_o1_9_4.length) (o_o1_9_4.length)))] ∧ St w w' [(go1_9_5, 46, (us (o_o1_9_4)).toArray), (g9, 24, #[(.bool (false)), (.slice (none) (0) (0))]), (g5, 24, (ic (A_b) (c_b) (b))), (g1, 24, (ic (A_a) (c_a) (a)))] ∧ Ext w10 (g9 :: (g5 :: (g1 :: X))) w' (go1_9_5 :: (g9 :: (g5 :: (g1 :: X)))) ∧ (Lb o_o1_9_4) ∧ (val o_o1_9_4 = val ((lim a.natAbs)) * val ((lim b.natAbs))) ∧ (o_o1_9_4.length = ((lim a.natAbs)).length + ((lim b.natAbs)).length)
       , fun fa w' => ∃ o_o1_9_4 : List Nat, ∃ go1_9_5 : Nat, ∃ Ao1_10_6 : Option Addr, ∃ co1_10_7 : Nat, Frm 16 fa [(14, (.slice (some ⟨go1_9_5, 0, none⟩) (o_o1_9_4.length) (o_o1_9_4.length))), (15, (.agg (ic (Ao1_10_6) (co1_10_7) ((sgnv ((decide (a < 0)) != (decide (b < 0))) (val o_o1_9_4))))))] ∧ St w w' [(g9, 24, #[(.bool (false)), (.slice (none) (0) (0))]), (g5, 24, (ic (A_b) (c_b) (b))), (g1, 24, (ic (A_a) (c_a) (a)))] ∧ Ext w10 (g9 :: (g5 :: (g1 :: X))) w' (g9 :: (g5 :: (g1 :: X))) ∧ UC w' (g9 :: (g5 :: (g1 :: X))) (some ⟨go1_9_5, 0, none⟩) (o_o1_9_4).length (o_o1_9_4) ∧ UC w' (g9 :: (g5 :: (g1 :: X))) Ao1_10_6 co1_10_7 (lim (sgnv ((decide (a < 0)) != (decide (b < 0))) (val o_o1_9_4)).natAbs) ∧ (Lb o_o1_9_4) ∧ (val o_o1_9_4 = val ((lim a.natAbs)) * val ((lim b.natAbs))) ∧ (o_o1_9_4.length = ((lim a.natAbs)).length + ((lim b.natAbs)).length)
       , fun fa w' => ∃ o_o1_9_4 : List Nat, ∃ go1_9_5 : Nat, ∃ Ao1_10_6 : Option Addr, ∃ co1_10_7 : Nat, Frm 16 fa [(14, (.slice (some ⟨go1_9_5, 0, none⟩) (o_o1_9_4.length) (o_o1_9_4.length))), (15, (.agg (ic (Ao1_10_6) (co1_10_7) ((sgnv ((decide (a < 0)) != (decide (b < 0))) (val o_o1_9_4))))))] ∧ St w w' [(g9, 24, (ic (Ao1_10_6) (co1_10_7) ((sgnv ((decide (a < 0)) != (decide (b < 0))) (val o_o1_9_4))))), (g5, 24, (ic (A_b) (c_b) (b))), (g1, 24, (ic (A_a) (c_a) (a)))] ∧ Ext w10 (g9 :: (g5 :: (g1 :: X))) w' (g9 :: (g5 :: (g1 :: X))) ∧ UC w' (g9 :: (g5 :: (g1 :: X))) (some ⟨go1_9_5, 0, none⟩) (o_o1_9_4).length (o_o1_9_4) ∧ UC w' (g9 :: (g5 :: (g1 :: X))) Ao1_10_6 co1_10_7 (lim (sgnv ((decide (a < 0)) != (decide (b < 0))) (val o_o1_9_4)).natAbs) ∧ (Lb o_o1_9_4) ∧ (val o_o1_9_4 = val ((lim a.natAbs)) * val ((lim b.natAbs))) ∧ (o_o1_9_4.length = ((lim a.natAbs)).length + ((lim b.natAbs)).length)
     ] TfI.mixed rfl rfl rfl rfl rfl rfl (hF.take (hF.take (hF.take (hF.take (hF.take hF.nil rfl) rfl) rfl) rfl) rfl) rfl ⟨hF.nil, hS.drew, Ext.drew _ _⟩ ?_ ?_ ?_
 all_goals clear hF fa
 ·
  refine ⟨?_, ?_, ?_, ?_, trivial⟩
  ·
   rintro fa w' i o d v ho hd hna ⟨hA, hR⟩; exact ⟨hA.put_other v (freeOf_at (acts := [9, 10, 11]) rfl ho hd hna), hR⟩
  ·
   rintro fa w' i o d v ho hd hna ⟨o_o1_9_4, go1_9_5, hA, hR⟩; exact ⟨o_o1_9_4, go1_9_5, hA.put_other v (freeOf_at (acts := [9, 10, 11]) rfl ho hd hna), hR⟩
  ·
   rintro fa w' i o d v ho hd hna ⟨o_o1_9_4, go1_9_5, Ao1_10_6, co1_10_7, hA, hR⟩; exact ⟨o_o1_9_4, go1_9_5, Ao1_10_6, co1_10_7, hA.put_other v (freeOf_at (acts := [9, 10, 11]) rfl ho hd hna), hR⟩
  ·
   rintro fa w' i o d v ho hd hna ⟨o_o1_9_4, go1_9_5, Ao1_10_6, co1_10_7, hA, hR⟩; exact ⟨o_o1_9_4, go1_9_5, Ao1_10_6, co1_10_7, hA.put_other v (freeOf_at (acts := [9, 10, 11]) rfl ho hd hna), hR⟩
 ·
  refine ⟨?_, ?_, ?_, ?_, ?_, ?_, ?_, ?_, ?_, ?_, ?_, ?_, trivial⟩
  ·
   refine .inl ⟨rfl, _, _, rfl, rfl, fun s fa w' hΦ hF hB K hK => ?_⟩
   exact fl_val rfl rfl rfl (ex_field_addr TfI.off24_0 (hF.ev rfl)) hK
  ·
   refine .inr (.inl ⟨rfl, _, _, rfl, rfl, ?_, ?_, ?_, trivial⟩)
   ·
    intro fa w' hΦ hF hB K hK
    obtain ⟨hA, hS, E_w'⟩ := hΦ
    replace hF := hF.cons (hB.val 0 _ 5 _ rfl rfl rfl rfl)
    exact fl_val rfl rfl rfl (ex_load1b TfI.one4 (hF.ev rfl) (hS.get 2 rfl) rfl) hK
   ·
    intro fa w' hΦ hF hB K hK
    obtain ⟨o_o1_9_4, go1_9_5, hA, hS, E_w', hpo1_9_8, hpo1_9_9, hpo1_9_10⟩ := hΦ
    replace hF := hF.cons (hB.val 0 _ 5 _ rfl rfl rfl rfl)
    exact fl_val rfl rfl rfl (ex_load1b TfI.one4 (hF.ev rfl) (hS.get 3 rfl) rfl) hK
   ·
    intro fa w' hΦ hF hB K hK
    obtain ⟨o_o1_9_4, go1_9_5, Ao1_10_6, co1_10_7, hA, hS, E_w', huo1_10_1, huo1_10_8, hpo1_9_8, hpo1_9_9, hpo1_9_10⟩ := hΦ
    replace hF := hF.cons (hB.val 0 _ 5 _ rfl rfl rfl rfl)
    exact fl_val rfl rfl rfl (ex_load1b TfI.one4 (hF.ev rfl) (hS.get 2 rfl) rfl) hK
  ·
   refine .inl ⟨rfl, _, _, rfl, rfl, fun s fa w' hΦ hF hB K hK => ?_⟩
   exact fl_val rfl rfl rfl (ex_field_addr TfI.off24_0 (hF.ev rfl)) hK
  ·
   refine .inr (.inl ⟨rfl, _, _, rfl, rfl, ?_, ?_, ?_, trivial⟩)
   ·
    intro fa w' hΦ hF hB K hK
    obtain ⟨hA, hS, E_w'⟩ := hΦ
    replace hF := hF.cons (hB.val 2 _ 7 _ rfl rfl rfl rfl)
    exact fl_val rfl rfl rfl (ex_load1b TfI.one4 (hF.ev rfl) (hS.get 1 rfl) rfl) hK
   ·
    intro fa w' hΦ hF hB K hK
    obtain ⟨o_o1_9_4, go1_9_5, hA, hS, E_w', hpo1_9_8, hpo1_9_9, hpo1_9_10⟩ := hΦ
    replace hF := hF.cons (hB.val 2 _ 7 _ rfl rfl rfl rfl)
    exact fl_val rfl rfl rfl (ex_load1b TfI.one4 (hF.ev rfl) (hS.get 2 rfl) rfl) hK
   ·
    intro fa w' hΦ hF hB K hK
    obtain ⟨o_o1_9_4, go1_9_5, Ao1_10_6, co1_10_7, hA, hS, E_w', huo1_10_1, huo1_10_8, hpo1_9_8, hpo1_9_9, hpo1_9_10⟩ := hΦ
    replace hF := hF.cons (hB.val 2 _ 7 _ rfl rfl rfl rfl)
    exact fl_val rfl rfl rfl (ex_load1b TfI.one4 (hF.ev rfl) (hS.get 1 rfl) rfl) hK
  ·
   refine .inl ⟨rfl, _, _, rfl, rfl, fun s fa w' hΦ hF hB K hK => ?_⟩
   replace hF := hF.cons (hB.val 1 _ 6 _ rfl rfl rfl rfl)
   replace hF := hF.cons (hB.val 3 _ 8 _ rfl rfl rfl rfl)
   exact fl_val rfl rfl rfl (ex_neb TfI.und4 (hF.ev rfl) (hF.ev rfl)) hK
  ·
   refine .inl ⟨rfl, _, _, rfl, rfl, fun s fa w' hΦ hF hB K hK => ?_⟩
   exact fl_val rfl rfl rfl (ex_field_addr TfI.off24_1 (hF.ev rfl)) hK
  ·
   refine .inr (.inl ⟨rfl, _, _, rfl, rfl, ?_, trivial⟩)
   ·
    intro fa w' hΦ hF hB K hK
    obtain ⟨hA, hS, E_w'⟩ := hΦ
    replace hF := hF.cons (hB.val 5 _ 10 _ rfl rfl rfl rfl)
    exact fl_val rfl rfl rfl (ex_load1b TfI.one22 (hF.ev rfl) (hS.get 2 rfl) rfl) hK
  ·
   refine .inl ⟨rfl, _, _, rfl, rfl, fun s fa w' hΦ hF hB K hK => ?_⟩
   exact fl_val rfl rfl rfl (ex_field_addr TfI.off24_1 (hF.ev rfl)) hK
  ·
   refine .inr (.inl ⟨rfl, _, _, rfl, rfl, ?_, trivial⟩)
   ·
    intro fa w' hΦ hF hB K hK
    obtain ⟨hA, hS, E_w'⟩ := hΦ
    replace hF := hF.cons (hB.val 7 _ 12 _ rfl rfl rfl rfl)
    exact fl_val rfl rfl rfl (ex_load1b TfI.one22 (hF.ev rfl) (hS.get 1 rfl) rfl) hK
  ·
   refine .inr (.inr ⟨rfl, ?_, trivial⟩)
   ·
    intro fa w' hΦ hF hB
    obtain ⟨hA, hS, E_w'⟩ := hΦ
    replace hF := hF.cons (hB.val 6 _ 11 _ rfl rfl rfl rfl)
    replace hF := hF.cons (hB.val 8 _ 13 _ rfl rfl rfl rfl)
    refine wop rfl rfl ?_
    have hC := integer_times_ok (w := w') (X := (g9 :: (g5 :: (g1 :: X)))) (a := (lim a.natAbs)) (b := (lim b.natAbs)) (hS.bnd hX) ⟨_, ((lim a.natAbs).length), _, rfl, (rfl), (hu_a.ext (((E3.trans E7).trans E11).trans E_w'))⟩ ⟨_, ((lim b.natAbs).length), _, rfl, (rfl), (hu_b.ext (((E3.trans E7).trans E11).trans E_w'))⟩ (by omega) (by omega) (lb_lim _) (lb_lim _)
    refine op_call hF rfl TfI.body54 (args2 (hF.ev rfl) (hF.ev rfl)) hC ?_
    clear hC
    rintro _ wo1_9_1 ⟨⟨o_o1_9_4, ⟨go1_9_5, rfl, hqo1_9_6, hgo1_9_7⟩, hpo1_9_8, hpo1_9_9, hpo1_9_10⟩, hbo1_9_2⟩
    clear hF; intro hF
    replace hS := hS.push_new hbo1_9_2 hqo1_9_6 hgo1_9_7; have Eo1_9_3 := Ext.push_new (g9 :: (g5 :: (g1 :: X))) hbo1_9_2 hgo1_9_7
    have hA1 := ((hA.put_other _ rfl).cons (hF.get 14 _ rfl))
    exact ⟨1, rfl, ⟨o_o1_9_4, go1_9_5, (hA1.take hA1.nil rfl), hS, (E_w'.trans Eo1_9_3), hpo1_9_8, hpo1_9_9, hpo1_9_10⟩, _, rfl, fun u hu => by cases hu <;> rfl⟩
  ·
   refine .inr (.inr ⟨rfl, ?_, trivial⟩)
   ·
    intro fa w' hΦ hF hB
    obtain ⟨o_o1_9_4, go1_9_5, hA, hS, E_w', hpo1_9_8, hpo1_9_9, hpo1_9_10⟩ := hΦ
    replace hF := hF.cons (hB.val 4 _ 9 _ rfl rfl rfl rfl)
    replace hF := hF.cons (hA.get 14 _ rfl)
    refine wop rfl rfl ?_
    obtain ⟨hS1, hn1⟩ := hS.out hX 0 rfl
    have huo1_10_1 := UC.of_box (L := o_o1_9_4) (hS.get 0 rfl) hn1 (by first | omega | (simp; omega))
    have Eo1_10_2 : Ext w' (go1_9_5 :: (g9 :: (g5 :: (g1 :: X)))) w' (g9 :: (g5 :: (g1 :: X))) := Ext.drop (by simp +contextual)
    replace huo1_10_1 : UC w' (g9 :: (g5 :: (g1 :: X))) (some ⟨go1_9_5, 0, none⟩) (o_o1_9_4).length (o_o1_9_4) := huo1_10_1
    replace hS : St w w' [(g9, 24, #[(.bool (false)), (.slice (none) (0) (0))]), (g5, 24, (ic (A_b) (c_b) (b))), (g1, 24, (ic (A_a) (c_a) (a)))] := hS1; clear hn1
    have hC := integer_signed_ok (w := w') (X := (g9 :: (g5 :: (g1 :: X)))) (l := o_o1_9_4) (hS.bnd hX) ((decide (a < 0)) != (decide (b < 0))) (UL.cap (n := o_o1_9_4.length) (c := o_o1_9_4.length) huo1_10_1 (by simp) (by simp)) (by assumption)
    refine op_call hF rfl TfI.body41 (args2 (hF.ev rfl) (hF.ev rfl)) hC ?_
    clear hC
    rintro _ wo1_10_3 ⟨⟨_, rfl, Ao1_10_6, co1_10_7, rfl, huo1_10_8⟩, hbo1_10_4⟩
    clear hF; intro hF
    replace hS := hS.call hbo1_10_4; have Eo1_10_5 := Ext.call (g9 :: (g5 :: (g1 :: X))) hbo1_10_4
    have hA1 := ((hA.put_other _ rfl).cons (hF.get 15 _ rfl))
    exact ⟨2, rfl, ⟨o_o1_9_4, go1_9_5, Ao1_10_6, co1_10_7, (hA1.take (hA1.take hA1.nil rfl) rfl), hS, ((E_w'.trans Eo1_10_2).trans Eo1_10_5), (huo1_10_1.ext Eo1_10_5), huo1_10_8, hpo1_9_8, hpo1_9_9, hpo1_9_10⟩, _, rfl, fun u hu => by cases hu <;> rfl⟩
  ·
   refine .inr (.inr ⟨rfl, ?_, trivial⟩)
   ·
    intro fa w' hΦ hF hB
    obtain ⟨o_o1_9_4, go1_9_5, Ao1_10_6, co1_10_7, hA, hS, E_w', huo1_10_1, huo1_10_8, hpo1_9_8, hpo1_9_9, hpo1_9_10⟩ := hΦ
    replace hF := hF.cons (hA.get 15 _ rfl)
    refine wop rfl rfl ?_
    refine op_store (X := (g9 :: (g5 :: (g1 :: X)))) hF hS 0 rfl (by simp) rfl rfl rfl TfI.size24 rfl (Nat.le_of_ble_eq_true rfl) ?_
    intro wo1_11_1 hS Eo1_11_2
    replace hS : St w wo1_11_1 [(g9, 24, (ic (Ao1_10_6) (co1_10_7) ((sgnv ((decide (a < 0)) != (decide (b < 0))) (val o_o1_9_4))))), (g5, 24, (ic (A_b) (c_b) (b))), (g1, 24, (ic (A_a) (c_a) (a)))] := hS
    exact ⟨3, rfl, ⟨o_o1_9_4, go1_9_5, Ao1_10_6, co1_10_7, hA, hS, (E_w'.trans Eo1_11_2), (huo1_10_1.ext Eo1_11_2), (huo1_10_8.ext Eo1_11_2), hpo1_9_8, hpo1_9_9, hpo1_9_10⟩, undef, rfl, fun u hu => by cases hu <;> rfl⟩
 intro fa w13 hΦ hF hC
 obtain ⟨o_o1_9_4, go1_9_5, Ao1_10_6, co1_10_7, hA, hS, E_w13, huo1_10_1, huo1_10_8, hpo1_9_8, hpo1_9_9, hpo1_9_10⟩ := hΦ
 clear hA hC
 refine x_tn ?_
 refine c_ret ?_
 refine end1 hF rfl (res_cell hF rfl TfI.row24 (hS.get 0 rfl) rfl) ?_
 exact ⟨_, rfl, (IntV.fin (x := sgnv ((decide (a < 0)) != (decide (b < 0))) (val o_o1_9_4)) ⟨_, rfl, _, _, rfl, huo1_10_8⟩ (by have h1 : val _ = val (lim a.natAbs) * val (lim b.natAbs) := ‹_›; rw [val_lim, val_lim] at h1; rw [h1]; exact sgnv_mul a b) (fun x hx => by simp [hx])), hS.below⟩

end Go.Proofs.Ytlaojdpcfenlkaa
