/-
  What the functions IntegerValid do, each call by call.
  Conditions: none.
-/
import Derived.Test.YtlaojdpcfenlkaaChecked
import Derived.Test.YtlaojdpcfenlkaaSwBaseK
import Derived.Test.YtlaojdpcfenlkaaWN
import Derived.Test.YtlaojdpcfenlkaaWT
import Derived.Test.YtlaojdpcfenlkaaWY
namespace Go.Proofs.Ytlaojdpcfenlkaa
open Go Go.RowKit Go.Sw
set_option linter.unusedVariables false
namespace TfLV
theorem body11 : hasBody Try.prog 11 = true := by kernel_rfl
theorem body14 : hasBody Try.prog 14 = true := by kernel_rfl
theorem body18 : hasBody Try.prog 18 = true := by kernel_rfl
theorem body35 : hasBody Try.prog 35 = true := by kernel_rfl
theorem mixed : Try.prog.follows .mixedOrders = true := by kernel_rfl
theorem off24_1 : fieldOff Try.prog 24 1 = some 1 := by kernel_rfl
theorem one22 : isOne Try.prog 22 = true := by kernel_rfl
theorem row24 : isRow Try.prog 24 2 = true := by kernel_rfl
theorem sls22 : (sliceOf Try.prog 22).isSome = true := by kernel_rfl
theorem und4 : Try.prog.underlying 4 = some TypeDesc.bool := by kernel_rfl
end TfLV
set_option maxHeartbeats 4000000 in
theorem law01_IntegerValid_ok {w : World} {X : List Nat} (hX : ∀ m ∈ X, m < w.heap.size) {v_ng : Value} {ng : Bool} {l : List Nat} (h_ng : RawV w X v_ng (ng) (l)) :
    Calls Try.prog 9 #[v_ng] w (Ret fun r w' => (r = .bool (true)) ∧ Below w.heap.size w w') := by
 refine enter (N := 18) (fn := Try.f9) (vs := [v_ng]) Try.func9 rfl rfl rfl ?_
 intro fa hF
 obtain ⟨_, rfl, A_l, c_l, rfl, hu_l⟩ := h_ng
 have hl_l := hu_l.len; have hc_l := hu_l.cap
 replace hF : Frm 18 fa [(0, (.agg #[(.bool (ng)), (.slice (A_l) (l.length) (c_l))]))] := hF
 have hS := St.refl w
 refine c_seq ?_
 refine c_reg ?_
 refine st rfl (op_box (X := X) hF hS rfl rfl rfl ?_)
 intro g1 w2 hg4 hS E3; refine gen_ ?_; clear hF fa; intro fa hF
 replace hS : St w w2 [(g1, 24, #[(.bool (ng)), (.slice (A_l) (l.length) (c_l))])] := hS
 refine st_val hF rfl rfl rfl (ex_assign (hF.ev rfl)) ?_
 clear hF fa; intro fa hF
 refine c_nil_then ?_
 refine c_seq ?_
 refine c_seq ?_
 refine c_reg ?_
 have hC := law01_awake_ok (w := w2) (X := (g1 :: X)) (hS.bnd hX) 
 refine st rfl (op_call hF rfl TfLV.body11 (args0) hC ?_)
 clear hC
 rintro _ w5 ⟨rfl, hb6⟩
 refine gen_ ?_; clear hF fa; intro fa hF
 replace hS := hS.call hb6; have E7 := Ext.call (g1 :: X) hb6
 refine st_val hF rfl rfl rfl (ex_not (hF.ev rfl)) ?_
 clear hF fa; intro fa hF
 refine st_val hF rfl rfl rfl (ex_move (hF.ev rfl)) ?_
 clear hF fa; intro fa hF
 refine stg_val hF rfl rfl rfl rfl (ex_field_addr TfLV.off24_1 (hF.ev rfl)) ?_
 clear hF fa; intro fa hF
 refine stg_val hF rfl rfl rfl rfl (ex_load1b TfLV.one22 (hF.ev rfl) (hS.get 0 rfl) rfl) ?_
 clear hF fa; intro fa hF
 refine stg_val hF rfl rfl rfl rfl (ex_len TfLV.sls22 (hF.ev rfl)) ?_
 clear hF fa; intro fa hF
 refine stg_val hF rfl rfl rfl rfl (ex_gtr (hF.ev rfl) (hF.ev rfl)) ?_
 clear hF fa; intro fa hF
 refine st_val hF rfl rfl rfl (ex_pick (hF.ev rfl) (u := undef) (fun h => by cases h) (fun _ => hF.ev rfl) rfl) ?_
 clear hF fa; intro fa hF
 refine c_nil_then ?_
 refine c_cond hF rfl (fun hc8 => ?_) (fun hc8 => ?_)
 ·
  have hc8p : ((l.length : Nat) : Int) > 16 := by first | simpa using hc8 | exact bang_t hc8 | exact bang_f hc8
  refine c_seq ?_
  refine c_reg ?_
  have hC := law01_awake_ok (w := w5) (X := (g1 :: X)) (hS.bnd hX) 
  refine st rfl (op_call hF rfl TfLV.body11 (args0) hC ?_)
  clear hC
  rintro _ w9 ⟨rfl, hb10⟩
  refine gen_ ?_; clear hF fa; intro fa hF
  replace hS := hS.call hb10; have E11 := Ext.call (g1 :: X) hb10
  refine st_val hF rfl rfl rfl (ex_assign (hF.ev rfl)) ?_
  clear hF fa; intro fa hF
  refine c_nil_then ?_
  refine c_ret ?_
  refine x_tr ?_
  refine end1 hF rfl (res_tmp hF rfl) ?_
  exact ⟨_, rfl, (congrArg Value.bool (by simp_all)), hS.below⟩
 have hc8p : ¬ (((l.length : Nat) : Int) > 16) := by first | simpa using hc8 | exact bang_t hc8 | exact bang_f hc8
 refine c_skip ?_
 refine x_tn ?_
 refine c_seq ?_
 refine drawn2 (N := 18) (L0 := [(0, (.agg #[(.bool (ng)), (.slice (A_l) (l.length) (c_l))])), (1, (.pointer (some ⟨g1, 0, none⟩))), (10, (.bool (decide (((l.length : Nat) : Int) > 16))))]) [some (.agg #[(.bool (ng)), (.slice (A_l) (l.length) (c_l))]), none, some (.bool (validL ng l)), some (.agg #[(.bool (ng)), (.slice (A_l) (l.length) (c_l))]), some (.bool (validL ng l)), some (.bool (true)), some (.bool (true))] [1, 2, 4] [[], [1], [1, 2], [1, 2, 4]] [[0], [0], [1], [0, 1, 2], [2], [3], [3]] 3 [
       fun fa w' => Frm 18 fa [] ∧ St w w' [(g1, 24, #[(.bool (ng)), (.slice (A_l) (l.length) (c_l))])] ∧ Ext w5 (g1 :: X) w' (g1 :: X)
       , fun fa w' => ∃ Ao3_1_4 : Option Addr, ∃ co3_1_5 : Nat, Frm 18 fa [(13, (.agg #[(.bool (ng)), (.slice (Ao3_1_4) (l.length) (co3_1_5))]))] ∧ St w w' [(g1, 24, #[(.bool (ng)), (.slice (A_l) (l.length) (c_l))])] ∧ Ext w5 (g1 :: X) w' (g1 :: X) ∧ UC w' (g1 :: X) Ao3_1_4 co3_1_5 l
       , fun fa w' => ∃ Ao3_1_4 : Option Addr, ∃ co3_1_5 : Nat, Frm 18 fa [(13, (.agg #[(.bool (ng)), (.slice (Ao3_1_4) (l.length) (co3_1_5))])), (14, (.bool (validL ng l)))] ∧ St w w' [(g1, 24, #[(.bool (ng)), (.slice (A_l) (l.length) (c_l))])] ∧ Ext w5 (g1 :: X) w' (g1 :: X) ∧ UC w' (g1 :: X) Ao3_1_4 co3_1_5 l
       , fun fa w' => ∃ Ao3_1_4 : Option Addr, ∃ co3_1_5 : Nat, Frm 18 fa [(13, (.agg #[(.bool (ng)), (.slice (Ao3_1_4) (l.length) (co3_1_5))])), (14, (.bool (validL ng l))), (16, (.bool (validL ng l)))] ∧ St w w' [(g1, 24, #[(.bool (ng)), (.slice (A_l) (l.length) (c_l))])] ∧ Ext w5 (g1 :: X) w' (g1 :: X) ∧ UC w' (g1 :: X) Ao3_1_4 co3_1_5 l
     ] TfLV.mixed rfl rfl rfl rfl rfl rfl (hF.take (hF.take (hF.take hF.nil rfl) rfl) rfl) rfl ⟨hF.nil, hS.drew, Ext.drew _ _⟩ ?_ ?_ ?_
 all_goals clear hF fa
 ·
  refine ⟨?_, ?_, ?_, ?_, trivial⟩
  ·
   rintro fa w' i o d v ho hd hna ⟨hA, hR⟩; exact ⟨hA.put_other v (freeOf_at (acts := [1, 2, 4]) rfl ho hd hna), hR⟩
  ·
   rintro fa w' i o d v ho hd hna ⟨Ao3_1_4, co3_1_5, hA, hR⟩; exact ⟨Ao3_1_4, co3_1_5, hA.put_other v (freeOf_at (acts := [1, 2, 4]) rfl ho hd hna), hR⟩
  ·
   rintro fa w' i o d v ho hd hna ⟨Ao3_1_4, co3_1_5, hA, hR⟩; exact ⟨Ao3_1_4, co3_1_5, hA.put_other v (freeOf_at (acts := [1, 2, 4]) rfl ho hd hna), hR⟩
  ·
   rintro fa w' i o d v ho hd hna ⟨Ao3_1_4, co3_1_5, hA, hR⟩; exact ⟨Ao3_1_4, co3_1_5, hA.put_other v (freeOf_at (acts := [1, 2, 4]) rfl ho hd hna), hR⟩
 ·
  refine ⟨?_, ?_, ?_, ?_, ?_, ?_, ?_, trivial⟩
  ·
   refine .inr (.inl ⟨rfl, _, _, rfl, rfl, ?_, trivial⟩)
   ·
    intro fa w' hΦ hF hB K hK
    obtain ⟨hA, hS, E_w'⟩ := hΦ
    exact fl_val rfl rfl rfl (ex_loadb TfLV.row24 (hF.ev rfl) (hS.get 0 rfl) rfl) hK
  ·
   refine .inr (.inr ⟨rfl, ?_, trivial⟩)
   ·
    intro fa w' hΦ hF hB
    obtain ⟨hA, hS, E_w'⟩ := hΦ
    replace hF := hF.cons (hB.val 0 _ 12 _ rfl rfl rfl rfl)
    refine wop rfl rfl ?_
    have hC := law01_cp_ok (w := w') (X := (g1 :: X)) (ng := ng) (l := l) (hS.bnd hX) ⟨_, rfl, _, _, rfl, (hu_l.ext ((E3.trans E7).trans E_w'))⟩ (by omega)
    refine op_call hF rfl TfLV.body14 (args1 (hF.ev rfl)) hC ?_
    clear hC
    rintro _ wo3_1_1 ⟨⟨_, rfl, Ao3_1_4, co3_1_5, rfl, huo3_1_6⟩, hbo3_1_2⟩
    clear hF; intro hF
    replace hS := hS.call hbo3_1_2; have Eo3_1_3 := Ext.call (g1 :: X) hbo3_1_2
    have hA1 := ((hA.put_other _ rfl).cons (hF.get 13 _ rfl))
    exact ⟨1, rfl, ⟨Ao3_1_4, co3_1_5, (hA1.take hA1.nil rfl), hS, (E_w'.trans Eo3_1_3), huo3_1_6⟩, _, rfl, fun u hu => by cases hu <;> rfl⟩
  ·
   refine .inr (.inr ⟨rfl, ?_, trivial⟩)
   ·
    intro fa w' hΦ hF hB
    obtain ⟨Ao3_1_4, co3_1_5, hA, hS, E_w', huo3_1_6⟩ := hΦ
    replace hF := hF.cons (hA.get 13 _ rfl)
    refine wop rfl rfl ?_
    have hC := integer_Valid_ok (w := w') (X := (g1 :: X)) (ng := ng) (l := l) (hS.bnd hX) ⟨_, rfl, _, _, rfl, huo3_1_6⟩
    refine op_call hF rfl TfLV.body35 (args1 (hF.ev rfl)) hC ?_
    clear hC
    rintro _ wo3_2_1 ⟨rfl, hbo3_2_2⟩
    clear hF; intro hF
    replace hS := hS.call hbo3_2_2; have Eo3_2_3 := Ext.call (g1 :: X) hbo3_2_2
    have hA1 := ((hA.put_other _ rfl).cons (hF.get 14 _ rfl))
    exact ⟨2, rfl, ⟨Ao3_1_4, co3_1_5, (hA1.take (hA1.take hA1.nil rfl) rfl), hS, (E_w'.trans Eo3_2_3), (huo3_1_6.ext Eo3_2_3)⟩, _, rfl, fun u hu => by cases hu <;> rfl⟩
  ·
   refine .inr (.inl ⟨rfl, _, _, rfl, rfl, ?_, ?_, ?_, trivial⟩)
   ·
    intro fa w' hΦ hF hB K hK
    obtain ⟨hA, hS, E_w'⟩ := hΦ
    exact fl_val rfl rfl rfl (ex_loadb TfLV.row24 (hF.ev rfl) (hS.get 0 rfl) rfl) hK
   ·
    intro fa w' hΦ hF hB K hK
    obtain ⟨Ao3_1_4, co3_1_5, hA, hS, E_w', huo3_1_6⟩ := hΦ
    exact fl_val rfl rfl rfl (ex_loadb TfLV.row24 (hF.ev rfl) (hS.get 0 rfl) rfl) hK
   ·
    intro fa w' hΦ hF hB K hK
    obtain ⟨Ao3_1_4, co3_1_5, hA, hS, E_w', huo3_1_6⟩ := hΦ
    exact fl_val rfl rfl rfl (ex_loadb TfLV.row24 (hF.ev rfl) (hS.get 0 rfl) rfl) hK
  ·
   refine .inr (.inr ⟨rfl, ?_, trivial⟩)
   ·
    intro fa w' hΦ hF hB
    obtain ⟨Ao3_1_4, co3_1_5, hA, hS, E_w', huo3_1_6⟩ := hΦ
    replace hF := hF.cons (hB.val 3 _ 15 _ rfl rfl rfl rfl)
    refine wop rfl rfl ?_
    have hC := ref01_Valid_ok (w := w') (X := (g1 :: X)) (ng := ng) (l := l) (hS.bnd hX) ⟨_, rfl, _, _, rfl, (hu_l.ext ((E3.trans E7).trans E_w'))⟩
    refine op_call hF rfl TfLV.body18 (args1 (hF.ev rfl)) hC ?_
    clear hC
    rintro _ wo3_4_1 ⟨rfl, hbo3_4_2⟩
    clear hF; intro hF
    replace hS := hS.call hbo3_4_2; have Eo3_4_3 := Ext.call (g1 :: X) hbo3_4_2
    have hA1 := ((hA.put_other _ rfl).cons (hF.get 16 _ rfl))
    exact ⟨3, rfl, ⟨Ao3_1_4, co3_1_5, (hA1.take (hA1.take (hA1.take hA1.nil rfl) rfl) rfl), hS, (E_w'.trans Eo3_4_3), (huo3_1_6.ext Eo3_4_3)⟩, _, rfl, fun u hu => by cases hu <;> rfl⟩
  ·
   refine .inl ⟨rfl, _, _, rfl, rfl, fun s fa w' hΦ hF hB K hK => ?_⟩
   replace hF := hF.cons (hB.val 2 _ 14 _ rfl rfl rfl rfl)
   replace hF := hF.cons (hB.val 4 _ 16 _ rfl rfl rfl rfl)
   exact fl_val rfl rfl rfl (ex_b (t := (validL ng l) == (validL ng l)) (b := true) (by simp) (ex_eqb TfLV.und4 (hF.ev rfl) (hF.ev rfl))) hK
  ·
   refine .inl ⟨rfl, _, _, rfl, rfl, fun s fa w' hΦ hF hB K hK => ?_⟩
   replace hF := hF.cons (hB.val 5 _ 17 _ rfl rfl rfl rfl)
   exact fl_val rfl rfl rfl (ex_assign (hF.ev rfl)) hK
 intro fa w12 hΦ hF hC
 obtain ⟨Ao3_1_4, co3_1_5, hA, hS, E_w12, huo3_1_6⟩ := hΦ
 replace hF := hF.cons (hC 6 _ 2 _ rfl rfl rfl)
 clear hA hC
 refine x_tn ?_
 refine c_ret ?_
 refine end1 hF rfl (res_tmp hF rfl) ?_
 exact ⟨_, rfl, (congrArg Value.bool (by simp_all)), hS.below⟩

end Go.Proofs.Ytlaojdpcfenlkaa
