/-
  What the functions Sub do, each call by call.
  Conditions: none.
-/
import Derived.Test.YtlaojdpcfenlkaaChecked
import Derived.Test.YtlaojdpcfenlkaaSwBaseK
import Derived.Test.YtlaojdpcfenlkaaWJ
namespace Go.Proofs.Ytlaojdpcfenlkaa
open Go Go.RowKit Go.Sw
set_option linter.unusedVariables false
namespace TfM
theorem body28 : hasBody Try.prog 28 = true := by kernel_rfl
theorem off24_0 : fieldOff Try.prog 24 0 = some 0 := by kernel_rfl
theorem off24_1 : fieldOff Try.prog 24 1 = some 1 := by kernel_rfl
theorem one22 : isOne Try.prog 22 = true := by kernel_rfl
theorem one4 : isOne Try.prog 4 = true := by kernel_rfl
theorem row24 : isRow Try.prog 24 2 = true := by kernel_rfl
theorem size24 : (Try.prog.info? 24).map (fun i => i.size) = some 2 := by kernel_rfl
theorem size4 : (Try.prog.info? 4).map (fun i => i.size) = some 1 := by kernel_rfl
theorem sls22 : (sliceOf Try.prog 22).isSome = true := by kernel_rfl
theorem zero24 : zeroOf Try.prog 24 = some #[.bool false, .slice none 0 0] := by kernel_rfl
end TfM
set_option maxHeartbeats 4000000 in
theorem integer_Sub_ok {w : World} {X : List Nat} (hX : ∀ m ∈ X, m < w.heap.size) {v_a : Value} {a : Int} (h_a : IntV w X v_a (a)) {v_b : Value} {b : Int} (h_b : IntV w X v_b (b)) (hs_a : sz a ≤ 1000000000) (hs_b : sz b ≤ 1000000000) :
    Calls Try.prog 29 #[v_a, v_b] w (Ret fun r w' => (IntV w' X r (a - b)) ∧ Below w.heap.size w w') := by
 refine enter (N := 18) (fn := Try.f29) (vs := [v_a, v_b]) Try.func29 rfl rfl rfl ?_
 intro fa hF
 obtain ⟨_, rfl, A_a, c_a, rfl, hu_a⟩ := h_a
 have hl_a := hu_a.len; have hc_a := hu_a.cap
 obtain ⟨_, rfl, A_b, c_b, rfl, hu_b⟩ := h_b
 have hl_b := hu_b.len; have hc_b := hu_b.cap
 replace hF : Frm 18 fa [(0, (.agg (ic (A_a) (c_a) (a)))), (1, (.agg (ic (A_b) (c_b) (b))))] := hF
 have hS := St.refl w
 have h0 := lim_len_zero (n := b.natAbs)
 refine c_seq ?_
 refine c_reg ?_
 refine st rfl (op_box (X := X) hF hS rfl rfl rfl ?_)
 intro g1 w2 hg4 hS E3; refine gen_ ?_; clear hF fa; intro fa hF
 replace hS : St w w2 [(g1, 24, (ic (A_a) (c_a) (a)))] := hS
 refine st rfl (op_box (X := (g1 :: X)) hF hS rfl rfl rfl ?_)
 intro g5 w6 hg8 hS E7; refine gen_ ?_; clear hF fa; intro fa hF
 replace hS : St w w6 [(g5, 24, (ic (A_b) (c_b) (b))), (g1, 24, (ic (A_a) (c_a) (a)))] := hS
 refine st rfl (op_alloc (X := (g5 :: (g1 :: X))) hF hS rfl TfM.zero24 ?_)
 intro g9 w10 hg12 hS E11; refine gen_ ?_; clear hF fa; intro fa hF
 replace hS : St w w10 [(g9, 24, #[(.bool (false)), (.slice (none) (0) (0))]), (g5, 24, (ic (A_b) (c_b) (b))), (g1, 24, (ic (A_a) (c_a) (a)))] := hS
 refine c_nil_then ?_
 refine c_seq ?_
 refine c_reg ?_
 refine st_val hF rfl rfl rfl (ex_field_addr TfM.off24_0 (hF.ev rfl)) ?_
 clear hF fa; intro fa hF
 refine st_val hF rfl rfl rfl (ex_load1b TfM.one4 (hF.ev rfl) (hS.get 1 rfl) rfl) ?_
 clear hF fa; intro fa hF
 refine st_val hF rfl rfl rfl (ex_not (hF.ev rfl)) ?_
 clear hF fa; intro fa hF
 refine st_val hF rfl rfl rfl (ex_move (hF.ev rfl)) ?_
 clear hF fa; intro fa hF
 rcases Bool.eq_false_or_eq_true (!(decide (b < 0))) with hg13 | hg13
 ·
  replace hF := hF.cons (t := 8) (v := .bool true) ((hF.get 8 _ rfl).trans (congrArg Value.bool hg13))
  have hg13p : ¬ (b < 0) := by first | simpa using hg13 | exact bang_t hg13 | exact bang_f hg13
  refine stg_val hF rfl rfl rfl rfl (ex_field_addr TfM.off24_1 (hF.ev rfl)) ?_
  clear hF fa; intro fa hF
  refine stg_val hF rfl rfl rfl rfl (ex_load1b TfM.one22 (hF.ev rfl) (hS.get 1 rfl) rfl) ?_
  clear hF fa; intro fa hF
  refine stg_val hF rfl rfl rfl rfl (ex_len TfM.sls22 (hF.ev rfl)) ?_
  clear hF fa; intro fa hF
  refine stg_val hF rfl rfl rfl rfl (ex_gtr (hF.ev rfl) (hF.ev rfl)) ?_
  clear hF fa; intro fa hF
  refine st_val hF rfl rfl rfl (ex_pick (hF.ev rfl) (fun _ => hF.ev rfl) (v := undef) (fun h => by cases h) rfl) ?_
  clear hF fa; intro fa hF
  refine st_val hF rfl rfl rfl (ex_field_addr TfM.off24_0 (hF.ev rfl)) ?_
  clear hF fa; intro fa hF
  refine st rfl (op_store (X := (g9 :: (g5 :: (g1 :: X)))) hF hS 1 rfl (by simp) rfl rfl rfl TfM.size4 rfl (Nat.le_of_ble_eq_true rfl) ?_)
  intro w14 hS E15
  replace hS : St w w14 [(g9, 24, #[(.bool (false)), (.slice (none) (0) (0))]), (g5, 24, #[(.bool (decide ((((lim b.natAbs).length : Nat) : Int) > 0))), (.slice (A_b) ((lim b.natAbs).length) (c_b))]), (g1, 24, (ic (A_a) (c_a) (a)))] := hS
  refine c_nil_then ?_
  refine c_seq ?_
  refine c_reg ?_
  refine st_val hF rfl rfl rfl (ex_loadb TfM.row24 (hF.ev rfl) (hS.get 2 rfl) rfl) ?_
  clear hF fa; intro fa hF
  refine st_val hF rfl rfl rfl (ex_loadb TfM.row24 (hF.ev rfl) (hS.get 1 rfl) rfl) ?_
  clear hF fa; intro fa hF
  have hC := integer_Add_ok (w := w14) (X := (g9 :: (g5 :: (g1 :: X)))) (a := a) (b := (-b)) (hS.bnd hX) (IntV.of_ (n := (lim a.natAbs).length) (b := decide (a < 0)) (x := a) ((hu_a.ext (((E3.trans E7).trans E11).trans E15))) (rfl) (rfl) (rfl)) (IntV.of_ (n := (lim b.natAbs).length) (b := decide ((((lim b.natAbs).length : Nat) : Int) > 0)) (x := -b) ((hu_b.ext (((E3.trans E7).trans E11).trans E15))) (rfl) (by first | (rw [decide_eq_decide]; omega) | (symm; rw [decide_eq_false_iff_not]; omega)) (by rw [Int.natAbs_neg])) (by omega) (by rw [sz_neg]; omega)
  refine st rfl (op_call hF rfl TfM.body28 (args2 (hF.ev rfl) (hF.ev rfl)) hC ?_)
  clear hC
  rintro _ w16 ⟨⟨_, rfl, A19, c20, rfl, hu21⟩, hb17⟩
  refine gen_ ?_; clear hF fa; intro fa hF
  replace hS := hS.call hb17; have E18 := Ext.call (g9 :: (g5 :: (g1 :: X))) hb17
  refine st rfl (op_store (X := (g9 :: (g5 :: (g1 :: X)))) hF hS 0 rfl (by simp) rfl rfl rfl TfM.size24 rfl (Nat.le_of_ble_eq_true rfl) ?_)
  intro w22 hS E23
  replace hS : St w w22 [(g9, 24, (ic (A19) (c20) ((a + (-b))))), (g5, 24, #[(.bool (decide ((((lim b.natAbs).length : Nat) : Int) > 0))), (.slice (A_b) ((lim b.natAbs).length) (c_b))]), (g1, 24, (ic (A_a) (c_a) (a)))] := hS
  replace hF : Frm 18 fa [(0, (.agg (ic (A_a) (c_a) (a)))), (1, (.agg (ic (A_b) (c_b) (b)))), (2, (.pointer (some ⟨g1, 0, none⟩))), (3, (.pointer (some ⟨g5, 0, none⟩))), (4, (.pointer (some ⟨g9, 0, none⟩)))] := (hF.take (hF.take (hF.take (hF.take (hF.take hF.nil rfl) rfl) rfl) rfl) rfl)
  refine c_nil_then ?_
  refine c_ret ?_
  refine end1 hF rfl (res_cell hF rfl TfM.row24 (hS.get 0 rfl) rfl) ?_
  exact ⟨_, rfl, (IntV.fin (x := a + (-b)) ⟨_, rfl, _, _, rfl, (hu21.ext E23)⟩ (by omega) (fun x hx => by simp [hx])), hS.below⟩
 replace hF := hF.cons (t := 8) (v := .bool false) ((hF.get 8 _ rfl).trans (congrArg Value.bool hg13))
 have hg13p : ¬ (¬ (b < 0)) := by first | simpa using hg13 | exact bang_t hg13 | exact bang_f hg13
 refine st_skip hF rfl rfl rfl rfl rfl ?_
 clear hF fa; intro fa hF
 refine st_skip hF rfl rfl rfl rfl rfl ?_
 clear hF fa; intro fa hF
 refine st_skip hF rfl rfl rfl rfl rfl ?_
 clear hF fa; intro fa hF
 refine st_skip hF rfl rfl rfl rfl rfl ?_
 clear hF fa; intro fa hF
 refine st_val hF rfl rfl rfl (ex_pick (hF.ev rfl) (u := undef) (fun h => by cases h) (fun _ => hF.ev rfl) rfl) ?_
 clear hF fa; intro fa hF
 refine st_val hF rfl rfl rfl (ex_field_addr TfM.off24_0 (hF.ev rfl)) ?_
 clear hF fa; intro fa hF
 refine st rfl (op_store (X := (g9 :: (g5 :: (g1 :: X)))) hF hS 1 rfl (by simp) rfl rfl rfl TfM.size4 rfl (Nat.le_of_ble_eq_true rfl) ?_)
 intro w24 hS E25
 replace hS : St w w24 [(g9, 24, #[(.bool (false)), (.slice (none) (0) (0))]), (g5, 24, #[(.bool (false)), (.slice (A_b) ((lim b.natAbs).length) (c_b))]), (g1, 24, (ic (A_a) (c_a) (a)))] := hS
 refine c_nil_then ?_
 refine c_seq ?_
 refine c_reg ?_
 refine st_val hF rfl rfl rfl (ex_loadb TfM.row24 (hF.ev rfl) (hS.get 2 rfl) rfl) ?_
 clear hF fa; intro fa hF
 refine st_val hF rfl rfl rfl (ex_loadb TfM.row24 (hF.ev rfl) (hS.get 1 rfl) rfl) ?_
 clear hF fa; intro fa hF
 have hC := integer_Add_ok (w := w24) (X := (g9 :: (g5 :: (g1 :: X)))) (a := a) (b := (-b)) (hS.bnd hX) (IntV.of_ (n := (lim a.natAbs).length) (b := decide (a < 0)) (x := a) ((hu_a.ext (((E3.trans E7).trans E11).trans E25))) (rfl) (rfl) (rfl)) (IntV.of_ (n := (lim b.natAbs).length) (b := false) (x := -b) ((hu_b.ext (((E3.trans E7).trans E11).trans E25))) (rfl) (by first | (rw [decide_eq_decide]; omega) | (symm; rw [decide_eq_false_iff_not]; omega)) (by rw [Int.natAbs_neg])) (by omega) (by rw [sz_neg]; omega)
 refine st rfl (op_call hF rfl TfM.body28 (args2 (hF.ev rfl) (hF.ev rfl)) hC ?_)
 clear hC
 rintro _ w26 ⟨⟨_, rfl, A29, c30, rfl, hu31⟩, hb27⟩
 refine gen_ ?_; clear hF fa; intro fa hF
 replace hS := hS.call hb27; have E28 := Ext.call (g9 :: (g5 :: (g1 :: X))) hb27
 refine st rfl (op_store (X := (g9 :: (g5 :: (g1 :: X)))) hF hS 0 rfl (by simp) rfl rfl rfl TfM.size24 rfl (Nat.le_of_ble_eq_true rfl) ?_)
 intro w32 hS E33
 replace hS : St w w32 [(g9, 24, (ic (A29) (c30) ((a + (-b))))), (g5, 24, #[(.bool (false)), (.slice (A_b) ((lim b.natAbs).length) (c_b))]), (g1, 24, (ic (A_a) (c_a) (a)))] := hS
 replace hF : Frm 18 fa [(0, (.agg (ic (A_a) (c_a) (a)))), (1, (.agg (ic (A_b) (c_b) (b)))), (2, (.pointer (some ⟨g1, 0, none⟩))), (3, (.pointer (some ⟨g5, 0, none⟩))), (4, (.pointer (some ⟨g9, 0, none⟩)))] := (hF.take (hF.take (hF.take (hF.take (hF.take hF.nil rfl) rfl) rfl) rfl) rfl)
 refine c_nil_then ?_
 refine c_ret ?_
 refine end1 hF rfl (res_cell hF rfl TfM.row24 (hS.get 0 rfl) rfl) ?_
 exact ⟨_, rfl, (IntV.fin (x := a + (-b)) ⟨_, rfl, _, _, rfl, (hu31.ext E33)⟩ (by omega) (fun x hx => by simp [hx])), hS.below⟩

end Go.Proofs.Ytlaojdpcfenlkaa
