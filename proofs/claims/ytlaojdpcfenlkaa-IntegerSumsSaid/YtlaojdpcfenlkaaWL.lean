/-
  What the functions Sub do, each call by call.
  Conditions: none.
-/
import Derived.Test.YtlaojdpcfenlkaaChecked
import Derived.Test.YtlaojdpcfenlkaaSwBaseK
import Derived.Test.YtlaojdpcfenlkaaWH
import Derived.Test.YtlaojdpcfenlkaaWK
namespace Go.Proofs.Ytlaojdpcfenlkaa
open Go Go.RowKit Go.Sw
set_option linter.unusedVariables false
namespace TfL
theorem body20 : hasBody Try.prog 20 = true := by kernel_rfl
theorem body32 : hasBody Try.prog 32 = true := by kernel_rfl
theorem mixed : Try.prog.follows .mixedOrders = true := by kernel_rfl
theorem row24 : isRow Try.prog 24 2 = true := by kernel_rfl
theorem size24 : (Try.prog.info? 24).map (fun i => i.size) = some 2 := by kernel_rfl
theorem zero24 : zeroOf Try.prog 24 = some #[.bool false, .slice none 0 0] := by kernel_rfl
end TfL
set_option maxHeartbeats 4000000 in
theorem ref01_Sub_ok {w : World} {X : List Nat} (hX : ∀ m ∈ X, m < w.heap.size) {v_a : Value} {a : Int} (h_a : IntV w X v_a (a)) {v_b : Value} {b : Int} (h_b : IntV w X v_b (b)) (hs_a : sz a ≤ 1000000000) (hs_b : sz b ≤ 1000000000) :
    Calls Try.prog 30 #[v_a, v_b] w (Ret fun r w' => (IntV w' X r (a - b)) ∧ Below w.heap.size w w') := by
 refine enter (N := 9) (fn := Try.f30) (vs := [v_a, v_b]) Try.func30 rfl rfl rfl ?_
 intro fa hF
 obtain ⟨_, rfl, A_a, c_a, rfl, hu_a⟩ := h_a
 have hl_a := hu_a.len; have hc_a := hu_a.cap
 obtain ⟨_, rfl, A_b, c_b, rfl, hu_b⟩ := h_b
 have hl_b := hu_b.len; have hc_b := hu_b.cap
 replace hF : Frm 9 fa [(0, (.agg (ic (A_a) (c_a) (a)))), (1, (.agg (ic (A_b) (c_b) (b))))] := hF
 have hS := St.refl w
 refine c_seq ?_
 refine c_reg ?_
 refine st rfl (op_box (X := X) hF hS rfl rfl rfl ?_)
 intro g1 w2 hg4 hS E3; refine gen_ ?_; clear hF fa; intro fa hF
 replace hS : St w w2 [(g1, 24, (ic (A_a) (c_a) (a)))] := hS
 refine st rfl (op_box (X := (g1 :: X)) hF hS rfl rfl rfl ?_)
 intro g5 w6 hg8 hS E7; refine gen_ ?_; clear hF fa; intro fa hF
 replace hS : St w w6 [(g5, 24, (ic (A_b) (c_b) (b))), (g1, 24, (ic (A_a) (c_a) (a)))] := hS
 refine st rfl (op_alloc (X := (g5 :: (g1 :: X))) hF hS rfl TfL.zero24 ?_)
 intro g9 w10 hg12 hS E11; refine gen_ ?_; clear hF fa; intro fa hF
 replace hS : St w w10 [(g9, 24, #[(.bool (false)), (.slice (none) (0) (0))]), (g5, 24, (ic (A_b) (c_b) (b))), (g1, 24, (ic (A_a) (c_a) (a)))] := hS
 refine c_nil_then ?_
 refine c_seq ?_
 refine drawn2 (N := 9) (L0 := [(0, (.agg (ic (A_a) (c_a) (a)))), (1, (.agg (ic (A_b) (c_b) (b)))), (2, (.pointer (some ⟨g1, 0, none⟩))), (3, (.pointer (some ⟨g5, 0, none⟩))), (4, (.pointer (some ⟨g9, 0, none⟩)))]) [some (.agg (ic (A_a) (c_a) (a))), some (.agg (ic (A_b) (c_b) (b))), none, none, none] [2, 3, 4] [[], [2], [2, 3], [2, 3, 4]] [[0, 1], [0], [0], [1], [2]] 3 [
       fun fa w' => Frm 9 fa [] ∧ St w w' [(g9, 24, #[(.bool (false)), (.slice (none) (0) (0))]), (g5, 24, (ic (A_b) (c_b) (b))), (g1, 24, (ic (A_a) (c_a) (a)))] ∧ Ext w10 (g9 :: (g5 :: (g1 :: X))) w' (g9 :: (g5 :: (g1 :: X)))
       , fun fa w' => ∃ Ao1_2_4 : Option Addr, ∃ co1_2_5 : Nat, Frm 9 fa [(7, (.agg (ic (Ao1_2_4) (co1_2_5) ((-b)))))] ∧ St w w' [(g9, 24, #[(.bool (false)), (.slice (none) (0) (0))]), (g5, 24, (ic (A_b) (c_b) (b))), (g1, 24, (ic (A_a) (c_a) (a)))] ∧ Ext w10 (g9 :: (g5 :: (g1 :: X))) w' (g9 :: (g5 :: (g1 :: X))) ∧ UC w' (g9 :: (g5 :: (g1 :: X))) Ao1_2_4 co1_2_5 (lim (-b).natAbs)
       , fun fa w' => ∃ Ao1_2_4 : Option Addr, ∃ co1_2_5 : Nat, ∃ Ao1_3_4 : Option Addr, ∃ co1_3_5 : Nat, Frm 9 fa [(7, (.agg (ic (Ao1_2_4) (co1_2_5) ((-b))))), (8, (.agg (ic (Ao1_3_4) (co1_3_5) ((a + (-b))))))] ∧ St w w' [(g9, 24, #[(.bool (false)), (.slice (none) (0) (0))]), (g5, 24, (ic (A_b) (c_b) (b))), (g1, 24, (ic (A_a) (c_a) (a)))] ∧ Ext w10 (g9 :: (g5 :: (g1 :: X))) w' (g9 :: (g5 :: (g1 :: X))) ∧ UC w' (g9 :: (g5 :: (g1 :: X))) Ao1_2_4 co1_2_5 (lim (-b).natAbs) ∧ UC w' (g9 :: (g5 :: (g1 :: X))) Ao1_3_4 co1_3_5 (lim (a + (-b)).natAbs)
       , fun fa w' => ∃ Ao1_2_4 : Option Addr, ∃ co1_2_5 : Nat, ∃ Ao1_3_4 : Option Addr, ∃ co1_3_5 : Nat, Frm 9 fa [(7, (.agg (ic (Ao1_2_4) (co1_2_5) ((-b))))), (8, (.agg (ic (Ao1_3_4) (co1_3_5) ((a + (-b))))))] ∧ St w w' [(g9, 24, (ic (Ao1_3_4) (co1_3_5) ((a + (-b))))), (g5, 24, (ic (A_b) (c_b) (b))), (g1, 24, (ic (A_a) (c_a) (a)))] ∧ Ext w10 (g9 :: (g5 :: (g1 :: X))) w' (g9 :: (g5 :: (g1 :: X))) ∧ UC w' (g9 :: (g5 :: (g1 :: X))) Ao1_2_4 co1_2_5 (lim (-b).natAbs) ∧ UC w' (g9 :: (g5 :: (g1 :: X))) Ao1_3_4 co1_3_5 (lim (a + (-b)).natAbs)
     ] TfL.mixed rfl rfl rfl rfl rfl rfl (hF.take (hF.take (hF.take (hF.take (hF.take hF.nil rfl) rfl) rfl) rfl) rfl) rfl ⟨hF.nil, hS.drew, Ext.drew _ _⟩ ?_ ?_ ?_
 all_goals clear hF fa
 ·
  refine ⟨?_, ?_, ?_, ?_, trivial⟩
  ·
   rintro fa w' i o d v ho hd hna ⟨hA, hR⟩; exact ⟨hA.put_other v (freeOf_at (acts := [2, 3, 4]) rfl ho hd hna), hR⟩
  ·
   rintro fa w' i o d v ho hd hna ⟨Ao1_2_4, co1_2_5, hA, hR⟩; exact ⟨Ao1_2_4, co1_2_5, hA.put_other v (freeOf_at (acts := [2, 3, 4]) rfl ho hd hna), hR⟩
  ·
   rintro fa w' i o d v ho hd hna ⟨Ao1_2_4, co1_2_5, Ao1_3_4, co1_3_5, hA, hR⟩; exact ⟨Ao1_2_4, co1_2_5, Ao1_3_4, co1_3_5, hA.put_other v (freeOf_at (acts := [2, 3, 4]) rfl ho hd hna), hR⟩
  ·
   rintro fa w' i o d v ho hd hna ⟨Ao1_2_4, co1_2_5, Ao1_3_4, co1_3_5, hA, hR⟩; exact ⟨Ao1_2_4, co1_2_5, Ao1_3_4, co1_3_5, hA.put_other v (freeOf_at (acts := [2, 3, 4]) rfl ho hd hna), hR⟩
 ·
  refine ⟨?_, ?_, ?_, ?_, ?_, trivial⟩
  ·
   refine .inr (.inl ⟨rfl, _, _, rfl, rfl, ?_, ?_, trivial⟩)
   ·
    intro fa w' hΦ hF hB K hK
    obtain ⟨hA, hS, E_w'⟩ := hΦ
    exact fl_val rfl rfl rfl (ex_loadb TfL.row24 (hF.ev rfl) (hS.get 2 rfl) rfl) hK
   ·
    intro fa w' hΦ hF hB K hK
    obtain ⟨Ao1_2_4, co1_2_5, hA, hS, E_w', huo1_2_6⟩ := hΦ
    exact fl_val rfl rfl rfl (ex_loadb TfL.row24 (hF.ev rfl) (hS.get 2 rfl) rfl) hK
  ·
   refine .inr (.inl ⟨rfl, _, _, rfl, rfl, ?_, trivial⟩)
   ·
    intro fa w' hΦ hF hB K hK
    obtain ⟨hA, hS, E_w'⟩ := hΦ
    exact fl_val rfl rfl rfl (ex_loadb TfL.row24 (hF.ev rfl) (hS.get 1 rfl) rfl) hK
  ·
   refine .inr (.inr ⟨rfl, ?_, trivial⟩)
   ·
    intro fa w' hΦ hF hB
    obtain ⟨hA, hS, E_w'⟩ := hΦ
    replace hF := hF.cons (hB.val 1 _ 6 _ rfl rfl rfl rfl)
    refine wop rfl rfl ?_
    have hC := ref01_Neg_ok (w := w') (X := (g9 :: (g5 :: (g1 :: X)))) (a := b) (hS.bnd hX) (IntV.of_ (n := (lim b.natAbs).length) (b := decide (b < 0)) (x := b) ((hu_b.ext (((E3.trans E7).trans E11).trans E_w'))) (rfl) (rfl) (rfl)) (by omega)
    refine op_call hF rfl TfL.body32 (args1 (hF.ev rfl)) hC ?_
    clear hC
    rintro _ wo1_2_1 ⟨⟨_, rfl, Ao1_2_4, co1_2_5, rfl, huo1_2_6⟩, hbo1_2_2⟩
    clear hF; intro hF
    replace hS := hS.call hbo1_2_2; have Eo1_2_3 := Ext.call (g9 :: (g5 :: (g1 :: X))) hbo1_2_2
    have hA1 := ((hA.put_other _ rfl).cons (hF.get 7 _ rfl))
    exact ⟨1, rfl, ⟨Ao1_2_4, co1_2_5, (hA1.take hA1.nil rfl), hS, (E_w'.trans Eo1_2_3), huo1_2_6⟩, _, rfl, fun u hu => by cases hu <;> rfl⟩
  ·
   refine .inr (.inr ⟨rfl, ?_, trivial⟩)
   ·
    intro fa w' hΦ hF hB
    obtain ⟨Ao1_2_4, co1_2_5, hA, hS, E_w', huo1_2_6⟩ := hΦ
    replace hF := hF.cons (hB.val 0 _ 5 _ rfl rfl rfl rfl)
    replace hF := hF.cons (hA.get 7 _ rfl)
    refine wop rfl rfl ?_
    have hC := ref01_Add_ok (w := w') (X := (g9 :: (g5 :: (g1 :: X)))) (a := a) (b := (-b)) (hS.bnd hX) (IntV.of_ (n := (lim a.natAbs).length) (b := decide (a < 0)) (x := a) ((hu_a.ext (((E3.trans E7).trans E11).trans E_w'))) (rfl) (rfl) (rfl)) (IntV.of_ (n := (lim (-b).natAbs).length) (b := decide ((-b) < 0)) (x := -b) (huo1_2_6) (rfl) (rfl) (rfl)) (by omega) (by rw [sz_neg]; omega)
    refine op_call hF rfl TfL.body20 (args2 (hF.ev rfl) (hF.ev rfl)) hC ?_
    clear hC
    rintro _ wo1_3_1 ⟨⟨_, rfl, Ao1_3_4, co1_3_5, rfl, huo1_3_6⟩, hbo1_3_2⟩
    clear hF; intro hF
    replace hS := hS.call hbo1_3_2; have Eo1_3_3 := Ext.call (g9 :: (g5 :: (g1 :: X))) hbo1_3_2
    have hA1 := ((hA.put_other _ rfl).cons (hF.get 8 _ rfl))
    exact ⟨2, rfl, ⟨Ao1_2_4, co1_2_5, Ao1_3_4, co1_3_5, (hA1.take (hA1.take hA1.nil rfl) rfl), hS, (E_w'.trans Eo1_3_3), (huo1_2_6.ext Eo1_3_3), huo1_3_6⟩, _, rfl, fun u hu => by cases hu <;> rfl⟩
  ·
   refine .inr (.inr ⟨rfl, ?_, trivial⟩)
   ·
    intro fa w' hΦ hF hB
    obtain ⟨Ao1_2_4, co1_2_5, Ao1_3_4, co1_3_5, hA, hS, E_w', huo1_2_6, huo1_3_6⟩ := hΦ
    replace hF := hF.cons (hA.get 8 _ rfl)
    refine wop rfl rfl ?_
    refine op_store (X := (g9 :: (g5 :: (g1 :: X)))) hF hS 0 rfl (by simp) rfl rfl rfl TfL.size24 rfl (Nat.le_of_ble_eq_true rfl) ?_
    intro wo1_4_1 hS Eo1_4_2
    replace hS : St w wo1_4_1 [(g9, 24, (ic (Ao1_3_4) (co1_3_5) ((a + (-b))))), (g5, 24, (ic (A_b) (c_b) (b))), (g1, 24, (ic (A_a) (c_a) (a)))] := hS
    exact ⟨3, rfl, ⟨Ao1_2_4, co1_2_5, Ao1_3_4, co1_3_5, hA, hS, (E_w'.trans Eo1_4_2), (huo1_2_6.ext Eo1_4_2), (huo1_3_6.ext Eo1_4_2)⟩, undef, rfl, fun u hu => by cases hu <;> rfl⟩
 intro fa w13 hΦ hF hC
 obtain ⟨Ao1_2_4, co1_2_5, Ao1_3_4, co1_3_5, hA, hS, E_w13, huo1_2_6, huo1_3_6⟩ := hΦ
 clear hA hC
 refine x_tn ?_
 refine c_ret ?_
 refine end1 hF rfl (res_cell hF rfl TfL.row24 (hS.get 0 rfl) rfl) ?_
 exact ⟨_, rfl, (IntV.fin (x := a + (-b)) ⟨_, rfl, _, _, rfl, huo1_3_6⟩ (by omega) (fun x hx => by simp [hx])), hS.below⟩

end Go.Proofs.Ytlaojdpcfenlkaa
