/-
  What the functions DivMod do, each call by call.
  Conditions: none.
-/
import Derived.Test.YtlaojdpcfenlkaaChecked
import Derived.Test.YtlaojdpcfenlkaaSwBaseK
import Derived.Test.YtlaojdpcfenlkaaWA
import Derived.Test.YtlaojdpcfenlkaaWH
import Derived.Test.YtlaojdpcfenlkaaWJ
import Derived.Test.YtlaojdpcfenlkaaWM
import Derived.Test.YtlaojdpcfenlkaaWR
namespace Go.Proofs.Ytlaojdpcfenlkaa
open Go Go.RowKit Go.Sw
set_option linter.unusedVariables false
namespace TfS
theorem body28 : hasBody Try.prog 28 = true := by kernel_rfl
theorem body29 : hasBody Try.prog 29 = true := by kernel_rfl
theorem body37 : hasBody Try.prog 37 = true := by kernel_rfl
theorem body40 : hasBody Try.prog 40 = true := by kernel_rfl
theorem body41 : hasBody Try.prog 41 = true := by kernel_rfl
theorem mixed : Try.prog.follows .mixedOrders = true := by kernel_rfl
theorem off24_0 : fieldOff Try.prog 24 0 = some 0 := by kernel_rfl
theorem off24_1 : fieldOff Try.prog 24 1 = some 1 := by kernel_rfl
theorem one22 : isOne Try.prog 22 = true := by kernel_rfl
theorem one4 : isOne Try.prog 4 = true := by kernel_rfl
theorem row24 : isRow Try.prog 24 2 = true := by kernel_rfl
theorem sf24 : (match Try.prog.underlying 24 with | some (.struct fs) => fs.all fun f => (Try.prog.info? f.type).isSome | _ => false) = true := by kernel_rfl
theorem size24 : (Try.prog.info? 24).map (fun i => i.size) = some 2 := by kernel_rfl
theorem sls22 : (sliceOf Try.prog 22).isSome = true := by kernel_rfl
theorem st24 : (match Try.prog.underlying 24 with | some (.struct _) => true | _ => false) = true := by kernel_rfl
theorem und4 : Try.prog.underlying 4 = some TypeDesc.bool := by kernel_rfl
theorem zero24 : zeroOf Try.prog 24 = some #[.bool false, .slice none 0 0] := by kernel_rfl
end TfS
set_option maxHeartbeats 4000000 in
theorem integer_DivMod_ok {w : World} {X : List Nat} (hX : ∀ m ∈ X, m < w.heap.size) {v_a : Value} {a : Int} (h_a : IntV w X v_a (a)) {v_b : Value} {b : Int} (h_b : IntV w X v_b (b)) (hs_a : sz a ≤ 1000000000) (hs_b : sz b ≤ 1000000000) :
    Calls Try.prog 13 #[v_a, v_b] w (Ret fun r w' => (∃ r0 r1 r2, r = .tuple #[r0, r1, r2] ∧ IntV w' X r0 (a.fdiv b) ∧ IntV w' X r1 ((if b = 0 then 0 else a.fmod b)) ∧ r2 = .int .i64 ((if b = 0 then 6 else 0))) ∧ Below w.heap.size w w') := by
 refine enter (N := 55) (fn := Try.f13) (vs := [v_a, v_b]) Try.func13 rfl rfl rfl ?_
 intro fa hF
 obtain ⟨_, rfl, A_a, c_a, rfl, hu_a⟩ := h_a
 have hl_a := hu_a.len; have hc_a := hu_a.cap
 obtain ⟨_, rfl, A_b, c_b, rfl, hu_b⟩ := h_b
 have hl_b := hu_b.len; have hc_b := hu_b.cap
 replace hF : Frm 55 fa [(0, (.agg (ic (A_a) (c_a) (a)))), (1, (.agg (ic (A_b) (c_b) (b))))] := hF
 have hS := St.refl w
 have hz_b := lim_len_zero (n := b.natAbs)
 have hs_a0 := hs_a; have hs_b0 := hs_b; unfold sz at hs_a0 hs_b0
 refine c_seq ?_
 refine c_reg ?_
 refine st rfl (op_box (X := X) hF hS rfl rfl rfl ?_)
 intro g1 w2 hg4 hS E3; refine gen_ ?_; clear hF fa; intro fa hF
 replace hS : St w w2 [(g1, 24, (ic (A_a) (c_a) (a)))] := hS
 refine st rfl (op_box (X := (g1 :: X)) hF hS rfl rfl rfl ?_)
 intro g5 w6 hg8 hS E7; refine gen_ ?_; clear hF fa; intro fa hF
 replace hS : St w w6 [(g5, 24, (ic (A_b) (c_b) (b))), (g1, 24, (ic (A_a) (c_a) (a)))] := hS
 refine st rfl (op_alloc (X := (g5 :: (g1 :: X))) hF hS rfl TfS.zero24 ?_)
 intro g9 w10 hg12 hS E11; refine gen_ ?_; clear hF fa; intro fa hF
 replace hS : St w w10 [(g9, 24, #[(.bool (false)), (.slice (none) (0) (0))]), (g5, 24, (ic (A_b) (c_b) (b))), (g1, 24, (ic (A_a) (c_a) (a)))] := hS
 refine st rfl (op_alloc (X := (g9 :: (g5 :: (g1 :: X)))) hF hS rfl TfS.zero24 ?_)
 intro g13 w14 hg16 hS E15; refine gen_ ?_; clear hF fa; intro fa hF
 replace hS : St w w14 [(g13, 24, #[(.bool (false)), (.slice (none) (0) (0))]), (g9, 24, #[(.bool (false)), (.slice (none) (0) (0))]), (g5, 24, (ic (A_b) (c_b) (b))), (g1, 24, (ic (A_a) (c_a) (a)))] := hS
 refine st_val hF rfl rfl rfl (ex_assign (hF.ev rfl)) ?_
 clear hF fa; intro fa hF
 refine c_nil_then ?_
 refine c_seq ?_
 refine c_seq ?_
 refine c_reg ?_
 refine st_val hF rfl rfl rfl (ex_field_addr TfS.off24_1 (hF.ev rfl)) ?_
 clear hF fa; intro fa hF
 refine st_val hF rfl rfl rfl (ex_load1b TfS.one22 (hF.ev rfl) (hS.get 2 rfl) rfl) ?_
 clear hF fa; intro fa hF
 refine st_val hF rfl rfl rfl (ex_len TfS.sls22 (hF.ev rfl)) ?_
 clear hF fa; intro fa hF
 refine st_val hF rfl rfl rfl (ex_eql (hF.ev rfl) (hF.ev rfl)) ?_
 clear hF fa; intro fa hF
 refine c_nil_then ?_
 refine c_cond hF rfl (fun hc17 => ?_) (fun hc17 => ?_)
 ·
  have hc17p : (((lim b.natAbs).length : Nat) : Int) = 0 := by first | simpa using hc17 | exact bang_t hc17 | exact bang_f hc17
  have hb0 : b = 0 := by omega
  refine c_seq ?_
  refine c_reg ?_
  refine st_val hF rfl rfl rfl (ex_build0 TfS.row24 TfS.st24 TfS.zero24 TfS.sf24) ?_
  clear hF fa; intro fa hF
  refine st_val hF rfl rfl rfl (ex_build0 TfS.row24 TfS.st24 TfS.zero24 TfS.sf24) ?_
  clear hF fa; intro fa hF
  refine st rfl (op_store (X := (g13 :: (g9 :: (g5 :: (g1 :: X))))) hF hS 1 rfl (by simp) rfl rfl rfl TfS.size24 rfl (Nat.le_of_ble_eq_true rfl) ?_)
  intro w18 hS E19
  replace hS : St w w18 [(g13, 24, #[(.bool (false)), (.slice (none) (0) (0))]), (g9, 24, #[(.bool (false)), (.slice (none) (0) (0))]), (g5, 24, (ic (A_b) (c_b) (b))), (g1, 24, (ic (A_a) (c_a) (a)))] := hS
  refine st rfl (op_store (X := (g13 :: (g9 :: (g5 :: (g1 :: X))))) hF hS 0 rfl (by simp) rfl rfl rfl TfS.size24 rfl (Nat.le_of_ble_eq_true rfl) ?_)
  intro w20 hS E21
  replace hS : St w w20 [(g13, 24, #[(.bool (false)), (.slice (none) (0) (0))]), (g9, 24, #[(.bool (false)), (.slice (none) (0) (0))]), (g5, 24, (ic (A_b) (c_b) (b))), (g1, 24, (ic (A_a) (c_a) (a)))] := hS
  refine st_val hF rfl rfl rfl (ex_assign (hF.ev rfl)) ?_
  clear hF fa; intro fa hF
  refine c_nil_then ?_
  refine c_ret ?_
  refine x_tr ?_
  refine end3 hF rfl (res_cell hF rfl TfS.row24 (hS.get 1 rfl) rfl) (res_cell hF rfl TfS.row24 (hS.get 0 rfl) rfl) (res_tmp hF rfl) ?_
  exact ⟨_, rfl, ⟨_, _, _, rfl, (IntV.nil_ (by rw [hb0]; simp)), (IntV.nil_ (by rw [if_pos hb0])), (congrArg (Value.int .i64) (by rw [if_pos hb0]))⟩, hS.below⟩
 have hc17p : ¬ ((((lim b.natAbs).length : Nat) : Int) = 0) := by first | simpa using hc17 | exact bang_t hc17 | exact bang_f hc17
 have hb0 : ¬ b = 0 := by omega
 refine c_skip ?_
 refine x_tn ?_
 refine c_seq ?_
 refine c_reg ?_
 refine st_val hF rfl rfl rfl (ex_field_addr TfS.off24_1 (hF.ev rfl)) ?_
 clear hF fa; intro fa hF
 refine st_val hF rfl rfl rfl (ex_load1b TfS.one22 (hF.ev rfl) (hS.get 3 rfl) rfl) ?_
 clear hF fa; intro fa hF
 refine st_val hF rfl rfl rfl (ex_field_addr TfS.off24_1 (hF.ev rfl)) ?_
 clear hF fa; intro fa hF
 refine st_val hF rfl rfl rfl (ex_load1b TfS.one22 (hF.ev rfl) (hS.get 2 rfl) rfl) ?_
 clear hF fa; intro fa hF
 have hC := integer_divide_ok (w := w14) (X := (g13 :: (g9 :: (g5 :: (g1 :: X))))) (a := (lim a.natAbs)) (b := (lim b.natAbs)) (hS.bnd hX) ⟨_, ((lim a.natAbs).length), _, rfl, (rfl), (hu_a.ext (((E3.trans E7).trans E11).trans E15))⟩ ⟨_, ((lim b.natAbs).length), _, rfl, (rfl), (hu_b.ext (((E3.trans E7).trans E11).trans E15))⟩ (by omega) (by omega) (lb_lim _) (lb_lim _) (by rw [val_lim]; omega)
 refine st rfl (op_call hF rfl TfS.body40 (args2 (hF.ev rfl) (hF.ev rfl)) hC ?_)
 clear hC
 rintro _ w22 ⟨⟨qs_25, rs_26, _, _, rfl, ⟨A27, _, c28, rfl, rfl, hu29⟩, ⟨A30, _, c31, rfl, rfl, hu32⟩, hp33, hp34, hp35, hp36, hp37, hp38⟩, hb23⟩
 refine gen_ ?_; clear hF fa; intro fa hF
 replace hS := hS.call hb23; have E24 := Ext.call (g13 :: (g9 :: (g5 :: (g1 :: X)))) hb23
 have hlq := hp33; have hlr := hp34; have hdv := hp35; have hdl := hp36
 rw [val_lim, val_lim] at hdv; rw [val_lim] at hdl
 have hsq : sz (sgnv (decide (a < 0) != decide (b < 0)) (val qs_25)) ≤ 1000000000 := Nat.le_trans (sz_mono (by rw [natAbs_sgnv]; exact dm_sz hdv hdl)) hs_a
 have hsr : sz (sgnv (decide (a < 0)) (val rs_26)) ≤ 1000000000 := Nat.le_trans (sz_mono (by rw [natAbs_sgnv]; omega)) hs_b
 have hr0 : (lim (sgnv (decide (a < 0)) (val rs_26)).natAbs).length = 0 ↔ val rs_26 = 0 := by rw [natAbs_sgnv]; exact lim_len_zero
 have hrn : sgnv (decide (a < 0)) (val rs_26) < 0 ↔ a < 0 ∧ 0 < val rs_26 := sgnv_lt0 _ _
 refine st_val hF rfl rfl rfl (ex_move (hF.ev rfl)) ?_
 clear hF fa; intro fa hF
 refine st_val hF rfl rfl rfl (ex_extract (hF.ev rfl) rfl) ?_
 clear hF fa; intro fa hF
 refine st_val hF rfl rfl rfl (ex_extract (hF.ev rfl) rfl) ?_
 clear hF fa; intro fa hF
 refine st_val hF rfl rfl rfl (ex_assign (hF.ev rfl)) ?_
 clear hF fa; intro fa hF
 refine st_val hF rfl rfl rfl (ex_assign (hF.ev rfl)) ?_
 clear hF fa; intro fa hF
 refine c_nil_then ?_
 refine c_seq ?_
 refine drawn2 (N := 55) (L0 := [(0, (.agg (ic (A_a) (c_a) (a)))), (1, (.agg (ic (A_b) (c_b) (b)))), (2, (.pointer (some ⟨g1, 0, none⟩))), (3, (.pointer (some ⟨g5, 0, none⟩))), (4, (.pointer (some ⟨g9, 0, none⟩))), (5, (.pointer (some ⟨g13, 0, none⟩))), (6, (.int .i64 (0))), (14, (.bool (decide ((((lim b.natAbs).length : Nat) : Int) = 0)))), (7, (.slice (A27) (qs_25.length) (c28))), (8, (.slice (A30) (rs_26.length) (c31)))]) [some (.pointer (some ⟨g1, 0, none⟩)), some (.bool (decide (a < 0))), some (.pointer (some ⟨g5, 0, none⟩)), some (.bool (decide (b < 0))), some (.bool ((decide (a < 0)) != (decide (b < 0)))), some (.slice (A27) (qs_25.length) (c28)), none, some (.pointer (some ⟨g1, 0, none⟩)), some (.bool (decide (a < 0))), some (.slice (A30) (rs_26.length) (c31)), none, none, none, none, none] [6, 10, 11, 12, 13, 14] [[], [6], [11], [12], [6, 10], [6, 11], [6, 12], [11, 12], [6, 10, 11], [6, 10, 12], [6, 11, 12], [6, 10, 11, 12], [6, 10, 11, 12, 13], [6, 10, 11, 12, 13, 14]] [[0, 1, 2, 3, 4, 5, 6, 7, 8, 9, 10, 11], [0, 1, 2, 3, 4, 5, 6, 7, 8, 9, 10, 11], [0, 1, 2, 3, 4, 5, 6, 7, 8, 9, 10, 11], [0, 1, 2, 3, 4, 5, 6, 7, 8, 9, 10, 11], [0, 2, 3, 7], [0, 2, 3, 7], [0, 2, 3, 7], [0, 1, 2, 3, 4, 5, 6, 7, 8, 9, 10, 11, 12], [0, 1, 2, 3, 5, 6, 7, 10], [0, 1, 2, 3, 5, 6, 7, 10], [1, 5, 6, 10], [0, 1, 3, 4, 6, 9], [0, 1, 2, 4, 5, 8], [11], [12]] 13 [
       fun fa w' => Frm 55 fa [] ∧ St w w' [(g13, 24, #[(.bool (false)), (.slice (none) (0) (0))]), (g9, 24, #[(.bool (false)), (.slice (none) (0) (0))]), (g5, 24, (ic (A_b) (c_b) (b))), (g1, 24, (ic (A_a) (c_a) (a)))] ∧ Ext w22 (g13 :: (g9 :: (g5 :: (g1 :: X)))) w' (g13 :: (g9 :: (g5 :: (g1 :: X))))
       , fun fa w' => ∃ Ao4_6_4 : Option Addr, ∃ co4_6_5 : Nat, Frm 55 fa [(31, (.agg (ic (Ao4_6_4) (co4_6_5) ((sgnv ((decide (a < 0)) != (decide (b < 0))) (val qs_25))))))] ∧ St w w' [(g13, 24, #[(.bool (false)), (.slice (none) (0) (0))]), (g9, 24, #[(.bool (false)), (.slice (none) (0) (0))]), (g5, 24, (ic (A_b) (c_b) (b))), (g1, 24, (ic (A_a) (c_a) (a)))] ∧ Ext w22 (g13 :: (g9 :: (g5 :: (g1 :: X)))) w' (g13 :: (g9 :: (g5 :: (g1 :: X)))) ∧ UC w' (g13 :: (g9 :: (g5 :: (g1 :: X)))) Ao4_6_4 co4_6_5 (lim (sgnv ((decide (a < 0)) != (decide (b < 0))) (val qs_25)).natAbs)
       , fun fa w' => ∃ go4_11_1 : Nat, Frm 55 fa [(9, (.pointer (some ⟨go4_11_1, 0, none⟩)))] ∧ St w w' [(go4_11_1, 24, #[(.bool (false)), (.slice (none) (0) (0))]), (g13, 24, #[(.bool (false)), (.slice (none) (0) (0))]), (g9, 24, #[(.bool (false)), (.slice (none) (0) (0))]), (g5, 24, (ic (A_b) (c_b) (b))), (g1, 24, (ic (A_a) (c_a) (a)))] ∧ Ext w22 (g13 :: (g9 :: (g5 :: (g1 :: X)))) w' (go4_11_1 :: (g13 :: (g9 :: (g5 :: (g1 :: X)))))
       , fun fa w' => ∃ go4_12_1 : Nat, Frm 55 fa [(10, (.pointer (some ⟨go4_12_1, 0, none⟩)))] ∧ St w w' [(go4_12_1, 24, #[(.bool (false)), (.slice (none) (0) (0))]), (g13, 24, #[(.bool (false)), (.slice (none) (0) (0))]), (g9, 24, #[(.bool (false)), (.slice (none) (0) (0))]), (g5, 24, (ic (A_b) (c_b) (b))), (g1, 24, (ic (A_a) (c_a) (a)))] ∧ Ext w22 (g13 :: (g9 :: (g5 :: (g1 :: X)))) w' (go4_12_1 :: (g13 :: (g9 :: (g5 :: (g1 :: X)))))
       , fun fa w' => ∃ Ao4_6_4 : Option Addr, ∃ co4_6_5 : Nat, ∃ Ao4_10_4 : Option Addr, ∃ co4_10_5 : Nat, Frm 55 fa [(31, (.agg (ic (Ao4_6_4) (co4_6_5) ((sgnv ((decide (a < 0)) != (decide (b < 0))) (val qs_25)))))), (35, (.agg (ic (Ao4_10_4) (co4_10_5) ((sgnv (decide (a < 0)) (val rs_26))))))] ∧ St w w' [(g13, 24, #[(.bool (false)), (.slice (none) (0) (0))]), (g9, 24, #[(.bool (false)), (.slice (none) (0) (0))]), (g5, 24, (ic (A_b) (c_b) (b))), (g1, 24, (ic (A_a) (c_a) (a)))] ∧ Ext w22 (g13 :: (g9 :: (g5 :: (g1 :: X)))) w' (g13 :: (g9 :: (g5 :: (g1 :: X)))) ∧ UC w' (g13 :: (g9 :: (g5 :: (g1 :: X)))) Ao4_6_4 co4_6_5 (lim (sgnv ((decide (a < 0)) != (decide (b < 0))) (val qs_25)).natAbs) ∧ UC w' (g13 :: (g9 :: (g5 :: (g1 :: X)))) Ao4_10_4 co4_10_5 (lim (sgnv (decide (a < 0)) (val rs_26)).natAbs)
       , fun fa w' => ∃ Ao4_6_4 : Option Addr, ∃ co4_6_5 : Nat, ∃ go4_11_1 : Nat, Frm 55 fa [(31, (.agg (ic (Ao4_6_4) (co4_6_5) ((sgnv ((decide (a < 0)) != (decide (b < 0))) (val qs_25)))))), (9, (.pointer (some ⟨go4_11_1, 0, none⟩)))] ∧ St w w' [(go4_11_1, 24, #[(.bool (false)), (.slice (none) (0) (0))]), (g13, 24, #[(.bool (false)), (.slice (none) (0) (0))]), (g9, 24, #[(.bool (false)), (.slice (none) (0) (0))]), (g5, 24, (ic (A_b) (c_b) (b))), (g1, 24, (ic (A_a) (c_a) (a)))] ∧ Ext w22 (g13 :: (g9 :: (g5 :: (g1 :: X)))) w' (go4_11_1 :: (g13 :: (g9 :: (g5 :: (g1 :: X))))) ∧ UC w' (go4_11_1 :: (g13 :: (g9 :: (g5 :: (g1 :: X))))) Ao4_6_4 co4_6_5 (lim (sgnv ((decide (a < 0)) != (decide (b < 0))) (val qs_25)).natAbs)
       , fun fa w' => ∃ Ao4_6_4 : Option Addr, ∃ co4_6_5 : Nat, ∃ go4_12_1 : Nat, Frm 55 fa [(31, (.agg (ic (Ao4_6_4) (co4_6_5) ((sgnv ((decide (a < 0)) != (decide (b < 0))) (val qs_25)))))), (10, (.pointer (some ⟨go4_12_1, 0, none⟩)))] ∧ St w w' [(go4_12_1, 24, #[(.bool (false)), (.slice (none) (0) (0))]), (g13, 24, #[(.bool (false)), (.slice (none) (0) (0))]), (g9, 24, #[(.bool (false)), (.slice (none) (0) (0))]), (g5, 24, (ic (A_b) (c_b) (b))), (g1, 24, (ic (A_a) (c_a) (a)))] ∧ Ext w22 (g13 :: (g9 :: (g5 :: (g1 :: X)))) w' (go4_12_1 :: (g13 :: (g9 :: (g5 :: (g1 :: X))))) ∧ UC w' (go4_12_1 :: (g13 :: (g9 :: (g5 :: (g1 :: X))))) Ao4_6_4 co4_6_5 (lim (sgnv ((decide (a < 0)) != (decide (b < 0))) (val qs_25)).natAbs)
       , fun fa w' => ∃ go4_11_1 : Nat, ∃ go4_12_1 : Nat, Frm 55 fa [(9, (.pointer (some ⟨go4_11_1, 0, none⟩))), (10, (.pointer (some ⟨go4_12_1, 0, none⟩)))] ∧ St w w' [(go4_12_1, 24, #[(.bool (false)), (.slice (none) (0) (0))]), (go4_11_1, 24, #[(.bool (false)), (.slice (none) (0) (0))]), (g13, 24, #[(.bool (false)), (.slice (none) (0) (0))]), (g9, 24, #[(.bool (false)), (.slice (none) (0) (0))]), (g5, 24, (ic (A_b) (c_b) (b))), (g1, 24, (ic (A_a) (c_a) (a)))] ∧ Ext w22 (g13 :: (g9 :: (g5 :: (g1 :: X)))) w' (go4_12_1 :: (go4_11_1 :: (g13 :: (g9 :: (g5 :: (g1 :: X))))))
       , fun fa w' => ∃ Ao4_6_4 : Option Addr, ∃ co4_6_5 : Nat, ∃ Ao4_10_4 : Option Addr, ∃ co4_10_5 : Nat, ∃ go4_11_1 : Nat, Frm 55 fa [(31, (.agg (ic (Ao4_6_4) (co4_6_5) ((sgnv ((decide (a < 0)) != (decide (b < 0))) (val qs_25)))))), (35, (.agg (ic (Ao4_10_4) (co4_10_5) ((sgnv (decide (a < 0)) (val rs_26)))))), (9, (.pointer (some ⟨go4_11_1, 0, none⟩)))] ∧ St w w' [(go4_11_1, 24, #[(.bool (false)), (.slice (none) (0) (0))]), (g13, 24, #[(.bool (false)), (.slice (none) (0) (0))]), (g9, 24, #[(.bool (false)), (.slice (none) (0) (0))]), (g5, 24, (ic (A_b) (c_b) (b))), (g1, 24, (ic (A_a) (c_a) (a)))] ∧ Ext w22 (g13 :: (g9 :: (g5 :: (g1 :: X)))) w' (go4_11_1 :: (g13 :: (g9 :: (g5 :: (g1 :: X))))) ∧ UC w' (go4_11_1 :: (g13 :: (g9 :: (g5 :: (g1 :: X))))) Ao4_6_4 co4_6_5 (lim (sgnv ((decide (a < 0)) != (decide (b < 0))) (val qs_25)).natAbs) ∧ UC w' (go4_11_1 :: (g13 :: (g9 :: (g5 :: (g1 :: X))))) Ao4_10_4 co4_10_5 (lim (sgnv (decide (a < 0)) (val rs_26)).natAbs)
       , fun fa w' => ∃ Ao4_6_4 : Option Addr, ∃ co4_6_5 : Nat, ∃ Ao4_10_4 : Option Addr, ∃ co4_10_5 : Nat, ∃ go4_12_1 : Nat, Frm 55 fa [(31, (.agg (ic (Ao4_6_4) (co4_6_5) ((sgnv ((decide (a < 0)) != (decide (b < 0))) (val qs_25)))))), (35, (.agg (ic (Ao4_10_4) (co4_10_5) ((sgnv (decide (a < 0)) (val rs_26)))))), (10, (.pointer (some ⟨go4_12_1, 0, none⟩)))] ∧ St w w' [(go4_12_1, 24, #[(.bool (false)), (.slice (none) (0) (0))]), (g13, 24, #[(.bool (false)), (.slice (none) (0) (0))]), (g9, 24, #[(.bool (false)), (.slice (none) (0) (0))]), (g5, 24, (ic (A_b) (c_b) (b))), (g1, 24, (ic (A_a) (c_a) (a)))] ∧ Ext w22 (g13 :: (g9 :: (g5 :: (g1 :: X)))) w' (go4_12_1 :: (g13 :: (g9 :: (g5 :: (g1 :: X))))) ∧ UC w' (go4_12_1 :: (g13 :: (g9 :: (g5 :: (g1 :: X))))) Ao4_6_4 co4_6_5 (lim (sgnv ((decide (a < 0)) != (decide (b < 0))) (val qs_25)).natAbs) ∧ UC w' (go4_12_1 :: (g13 :: (g9 :: (g5 :: (g1 :: X))))) Ao4_10_4 co4_10_5 (lim (sgnv (decide (a < 0)) (val rs_26)).natAbs)
       , fun fa w' => ∃ Ao4_6_4 : Option Addr, ∃ co4_6_5 : Nat, ∃ go4_11_1 : Nat, ∃ go4_12_1 : Nat, Frm 55 fa [(31, (.agg (ic (Ao4_6_4) (co4_6_5) ((sgnv ((decide (a < 0)) != (decide (b < 0))) (val qs_25)))))), (9, (.pointer (some ⟨go4_11_1, 0, none⟩))), (10, (.pointer (some ⟨go4_12_1, 0, none⟩)))] ∧ St w w' [(go4_12_1, 24, #[(.bool (false)), (.slice (none) (0) (0))]), (go4_11_1, 24, #[(.bool (false)), (.slice (none) (0) (0))]), (g13, 24, #[(.bool (false)), (.slice (none) (0) (0))]), (g9, 24, #[(.bool (false)), (.slice (none) (0) (0))]), (g5, 24, (ic (A_b) (c_b) (b))), (g1, 24, (ic (A_a) (c_a) (a)))] ∧ Ext w22 (g13 :: (g9 :: (g5 :: (g1 :: X)))) w' (go4_12_1 :: (go4_11_1 :: (g13 :: (g9 :: (g5 :: (g1 :: X)))))) ∧ UC w' (go4_12_1 :: (go4_11_1 :: (g13 :: (g9 :: (g5 :: (g1 :: X)))))) Ao4_6_4 co4_6_5 (lim (sgnv ((decide (a < 0)) != (decide (b < 0))) (val qs_25)).natAbs)
       , fun fa w' => ∃ Ao4_6_4 : Option Addr, ∃ co4_6_5 : Nat, ∃ Ao4_10_4 : Option Addr, ∃ co4_10_5 : Nat, ∃ go4_11_1 : Nat, ∃ go4_12_1 : Nat, Frm 55 fa [(31, (.agg (ic (Ao4_6_4) (co4_6_5) ((sgnv ((decide (a < 0)) != (decide (b < 0))) (val qs_25)))))), (35, (.agg (ic (Ao4_10_4) (co4_10_5) ((sgnv (decide (a < 0)) (val rs_26)))))), (9, (.pointer (some ⟨go4_11_1, 0, none⟩))), (10, (.pointer (some ⟨go4_12_1, 0, none⟩)))] ∧ St w w' [(go4_12_1, 24, #[(.bool (false)), (.slice (none) (0) (0))]), (go4_11_1, 24, #[(.bool (false)), (.slice (none) (0) (0))]), (g13, 24, #[(.bool (false)), (.slice (none) (0) (0))]), (g9, 24, #[(.bool (false)), (.slice (none) (0) (0))]), (g5, 24, (ic (A_b) (c_b) (b))), (g1, 24, (ic (A_a) (c_a) (a)))] ∧ Ext w22 (g13 :: (g9 :: (g5 :: (g1 :: X)))) w' (go4_12_1 :: (go4_11_1 :: (g13 :: (g9 :: (g5 :: (g1 :: X)))))) ∧ UC w' (go4_12_1 :: (go4_11_1 :: (g13 :: (g9 :: (g5 :: (g1 :: X)))))) Ao4_6_4 co4_6_5 (lim (sgnv ((decide (a < 0)) != (decide (b < 0))) (val qs_25)).natAbs) ∧ UC w' (go4_12_1 :: (go4_11_1 :: (g13 :: (g9 :: (g5 :: (g1 :: X)))))) Ao4_10_4 co4_10_5 (lim (sgnv (decide (a < 0)) (val rs_26)).natAbs)
       , fun fa w' => ∃ Ao4_6_4 : Option Addr, ∃ co4_6_5 : Nat, ∃ Ao4_10_4 : Option Addr, ∃ co4_10_5 : Nat, ∃ go4_11_1 : Nat, ∃ go4_12_1 : Nat, Frm 55 fa [(31, (.agg (ic (Ao4_6_4) (co4_6_5) ((sgnv ((decide (a < 0)) != (decide (b < 0))) (val qs_25)))))), (35, (.agg (ic (Ao4_10_4) (co4_10_5) ((sgnv (decide (a < 0)) (val rs_26)))))), (9, (.pointer (some ⟨go4_11_1, 0, none⟩))), (10, (.pointer (some ⟨go4_12_1, 0, none⟩)))] ∧ St w w' [(go4_12_1, 24, #[(.bool (false)), (.slice (none) (0) (0))]), (go4_11_1, 24, (ic (Ao4_6_4) (co4_6_5) ((sgnv ((decide (a < 0)) != (decide (b < 0))) (val qs_25))))), (g13, 24, #[(.bool (false)), (.slice (none) (0) (0))]), (g9, 24, #[(.bool (false)), (.slice (none) (0) (0))]), (g5, 24, (ic (A_b) (c_b) (b))), (g1, 24, (ic (A_a) (c_a) (a)))] ∧ Ext w22 (g13 :: (g9 :: (g5 :: (g1 :: X)))) w' (go4_12_1 :: (go4_11_1 :: (g13 :: (g9 :: (g5 :: (g1 :: X)))))) ∧ UC w' (go4_12_1 :: (go4_11_1 :: (g13 :: (g9 :: (g5 :: (g1 :: X)))))) Ao4_6_4 co4_6_5 (lim (sgnv ((decide (a < 0)) != (decide (b < 0))) (val qs_25)).natAbs) ∧ UC w' (go4_12_1 :: (go4_11_1 :: (g13 :: (g9 :: (g5 :: (g1 :: X)))))) Ao4_10_4 co4_10_5 (lim (sgnv (decide (a < 0)) (val rs_26)).natAbs)
       , fun fa w' => ∃ Ao4_6_4 : Option Addr, ∃ co4_6_5 : Nat, ∃ Ao4_10_4 : Option Addr, ∃ co4_10_5 : Nat, ∃ go4_11_1 : Nat, ∃ go4_12_1 : Nat, Frm 55 fa [(31, (.agg (ic (Ao4_6_4) (co4_6_5) ((sgnv ((decide (a < 0)) != (decide (b < 0))) (val qs_25)))))), (35, (.agg (ic (Ao4_10_4) (co4_10_5) ((sgnv (decide (a < 0)) (val rs_26)))))), (9, (.pointer (some ⟨go4_11_1, 0, none⟩))), (10, (.pointer (some ⟨go4_12_1, 0, none⟩)))] ∧ St w w' [(go4_12_1, 24, (ic (Ao4_10_4) (co4_10_5) ((sgnv (decide (a < 0)) (val rs_26))))), (go4_11_1, 24, (ic (Ao4_6_4) (co4_6_5) ((sgnv ((decide (a < 0)) != (decide (b < 0))) (val qs_25))))), (g13, 24, #[(.bool (false)), (.slice (none) (0) (0))]), (g9, 24, #[(.bool (false)), (.slice (none) (0) (0))]), (g5, 24, (ic (A_b) (c_b) (b))), (g1, 24, (ic (A_a) (c_a) (a)))] ∧ Ext w22 (g13 :: (g9 :: (g5 :: (g1 :: X)))) w' (go4_12_1 :: (go4_11_1 :: (g13 :: (g9 :: (g5 :: (g1 :: X)))))) ∧ UC w' (go4_12_1 :: (go4_11_1 :: (g13 :: (g9 :: (g5 :: (g1 :: X)))))) Ao4_6_4 co4_6_5 (lim (sgnv ((decide (a < 0)) != (decide (b < 0))) (val qs_25)).natAbs) ∧ UC w' (go4_12_1 :: (go4_11_1 :: (g13 :: (g9 :: (g5 :: (g1 :: X)))))) Ao4_10_4 co4_10_5 (lim (sgnv (decide (a < 0)) (val rs_26)).natAbs)
     ] TfS.mixed rfl rfl rfl rfl rfl rfl (hF.take (hF.take (hF.take (hF.take (hF.take (hF.take (hF.take (hF.take (hF.take (hF.take hF.nil rfl) rfl) rfl) rfl) rfl) rfl) rfl) rfl) rfl) rfl) rfl ⟨hF.nil, hS.drew, Ext.drew _ _⟩ ?_ ?_ ?_
 all_goals clear hF fa
 ·
  refine ⟨?_, ?_, ?_, ?_, ?_, ?_, ?_, ?_, ?_, ?_, ?_, ?_, ?_, ?_, trivial⟩
  ·
   rintro fa w' i o d v ho hd hna ⟨hA, hR⟩; exact ⟨hA.put_other v (freeOf_at (acts := [6, 10, 11, 12, 13, 14]) rfl ho hd hna), hR⟩
  ·
   rintro fa w' i o d v ho hd hna ⟨Ao4_6_4, co4_6_5, hA, hR⟩; exact ⟨Ao4_6_4, co4_6_5, hA.put_other v (freeOf_at (acts := [6, 10, 11, 12, 13, 14]) rfl ho hd hna), hR⟩
  ·
   rintro fa w' i o d v ho hd hna ⟨go4_11_1, hA, hR⟩; exact ⟨go4_11_1, hA.put_other v (freeOf_at (acts := [6, 10, 11, 12, 13, 14]) rfl ho hd hna), hR⟩
  ·
   rintro fa w' i o d v ho hd hna ⟨go4_12_1, hA, hR⟩; exact ⟨go4_12_1, hA.put_other v (freeOf_at (acts := [6, 10, 11, 12, 13, 14]) rfl ho hd hna), hR⟩
  ·
   rintro fa w' i o d v ho hd hna ⟨Ao4_6_4, co4_6_5, Ao4_10_4, co4_10_5, hA, hR⟩; exact ⟨Ao4_6_4, co4_6_5, Ao4_10_4, co4_10_5, hA.put_other v (freeOf_at (acts := [6, 10, 11, 12, 13, 14]) rfl ho hd hna), hR⟩
  ·
   rintro fa w' i o d v ho hd hna ⟨Ao4_6_4, co4_6_5, go4_11_1, hA, hR⟩; exact ⟨Ao4_6_4, co4_6_5, go4_11_1, hA.put_other v (freeOf_at (acts := [6, 10, 11, 12, 13, 14]) rfl ho hd hna), hR⟩
  ·
   rintro fa w' i o d v ho hd hna ⟨Ao4_6_4, co4_6_5, go4_12_1, hA, hR⟩; exact ⟨Ao4_6_4, co4_6_5, go4_12_1, hA.put_other v (freeOf_at (acts := [6, 10, 11, 12, 13, 14]) rfl ho hd hna), hR⟩
  ·
   rintro fa w' i o d v ho hd hna ⟨go4_11_1, go4_12_1, hA, hR⟩; exact ⟨go4_11_1, go4_12_1, hA.put_other v (freeOf_at (acts := [6, 10, 11, 12, 13, 14]) rfl ho hd hna), hR⟩
  ·
   rintro fa w' i o d v ho hd hna ⟨Ao4_6_4, co4_6_5, Ao4_10_4, co4_10_5, go4_11_1, hA, hR⟩; exact ⟨Ao4_6_4, co4_6_5, Ao4_10_4, co4_10_5, go4_11_1, hA.put_other v (freeOf_at (acts := [6, 10, 11, 12, 13, 14]) rfl ho hd hna), hR⟩
  ·
   rintro fa w' i o d v ho hd hna ⟨Ao4_6_4, co4_6_5, Ao4_10_4, co4_10_5, go4_12_1, hA, hR⟩; exact ⟨Ao4_6_4, co4_6_5, Ao4_10_4, co4_10_5, go4_12_1, hA.put_other v (freeOf_at (acts := [6, 10, 11, 12, 13, 14]) rfl ho hd hna), hR⟩
  ·
   rintro fa w' i o d v ho hd hna ⟨Ao4_6_4, co4_6_5, go4_11_1, go4_12_1, hA, hR⟩; exact ⟨Ao4_6_4, co4_6_5, go4_11_1, go4_12_1, hA.put_other v (freeOf_at (acts := [6, 10, 11, 12, 13, 14]) rfl ho hd hna), hR⟩
  ·
   rintro fa w' i o d v ho hd hna ⟨Ao4_6_4, co4_6_5, Ao4_10_4, co4_10_5, go4_11_1, go4_12_1, hA, hR⟩; exact ⟨Ao4_6_4, co4_6_5, Ao4_10_4, co4_10_5, go4_11_1, go4_12_1, hA.put_other v (freeOf_at (acts := [6, 10, 11, 12, 13, 14]) rfl ho hd hna), hR⟩
  ·
   rintro fa w' i o d v ho hd hna ⟨Ao4_6_4, co4_6_5, Ao4_10_4, co4_10_5, go4_11_1, go4_12_1, hA, hR⟩; exact ⟨Ao4_6_4, co4_6_5, Ao4_10_4, co4_10_5, go4_11_1, go4_12_1, hA.put_other v (freeOf_at (acts := [6, 10, 11, 12, 13, 14]) rfl ho hd hna), hR⟩
  ·
   rintro fa w' i o d v ho hd hna ⟨Ao4_6_4, co4_6_5, Ao4_10_4, co4_10_5, go4_11_1, go4_12_1, hA, hR⟩; exact ⟨Ao4_6_4, co4_6_5, Ao4_10_4, co4_10_5, go4_11_1, go4_12_1, hA.put_other v (freeOf_at (acts := [6, 10, 11, 12, 13, 14]) rfl ho hd hna), hR⟩
 ·
  refine ⟨?_, ?_, ?_, ?_, ?_, ?_, ?_, ?_, ?_, ?_, ?_, ?_, ?_, ?_, ?_, trivial⟩
  ·
   refine .inl ⟨rfl, _, _, rfl, rfl, fun s fa w' hΦ hF hB K hK => ?_⟩
   exact fl_val rfl rfl rfl (ex_field_addr TfS.off24_0 (hF.ev rfl)) hK
  ·
   refine .inr (.inl ⟨rfl, _, _, rfl, rfl, ?_, ?_, ?_, ?_, ?_, ?_, ?_, ?_, ?_, ?_, ?_, ?_, trivial⟩)
   ·
    intro fa w' hΦ hF hB K hK
    obtain ⟨hA, hS, E_w'⟩ := hΦ
    replace hF := hF.cons (hB.val 0 _ 25 _ rfl rfl rfl rfl)
    exact fl_val rfl rfl rfl (ex_load1b TfS.one4 (hF.ev rfl) (hS.get 3 rfl) rfl) hK
   ·
    intro fa w' hΦ hF hB K hK
    obtain ⟨Ao4_6_4, co4_6_5, hA, hS, E_w', huo4_6_6⟩ := hΦ
    replace hF := hF.cons (hB.val 0 _ 25 _ rfl rfl rfl rfl)
    exact fl_val rfl rfl rfl (ex_load1b TfS.one4 (hF.ev rfl) (hS.get 3 rfl) rfl) hK
   ·
    intro fa w' hΦ hF hB K hK
    obtain ⟨go4_11_1, hA, hS, E_w'⟩ := hΦ
    replace hF := hF.cons (hB.val 0 _ 25 _ rfl rfl rfl rfl)
    exact fl_val rfl rfl rfl (ex_load1b TfS.one4 (hF.ev rfl) (hS.get 4 rfl) rfl) hK
   ·
    intro fa w' hΦ hF hB K hK
    obtain ⟨go4_12_1, hA, hS, E_w'⟩ := hΦ
    replace hF := hF.cons (hB.val 0 _ 25 _ rfl rfl rfl rfl)
    exact fl_val rfl rfl rfl (ex_load1b TfS.one4 (hF.ev rfl) (hS.get 4 rfl) rfl) hK
   ·
    intro fa w' hΦ hF hB K hK
    obtain ⟨Ao4_6_4, co4_6_5, Ao4_10_4, co4_10_5, hA, hS, E_w', huo4_6_6, huo4_10_6⟩ := hΦ
    replace hF := hF.cons (hB.val 0 _ 25 _ rfl rfl rfl rfl)
    exact fl_val rfl rfl rfl (ex_load1b TfS.one4 (hF.ev rfl) (hS.get 3 rfl) rfl) hK
   ·
    intro fa w' hΦ hF hB K hK
    obtain ⟨Ao4_6_4, co4_6_5, go4_11_1, hA, hS, E_w', huo4_6_6⟩ := hΦ
    replace hF := hF.cons (hB.val 0 _ 25 _ rfl rfl rfl rfl)
    exact fl_val rfl rfl rfl (ex_load1b TfS.one4 (hF.ev rfl) (hS.get 4 rfl) rfl) hK
   ·
    intro fa w' hΦ hF hB K hK
    obtain ⟨Ao4_6_4, co4_6_5, go4_12_1, hA, hS, E_w', huo4_6_6⟩ := hΦ
    replace hF := hF.cons (hB.val 0 _ 25 _ rfl rfl rfl rfl)
    exact fl_val rfl rfl rfl (ex_load1b TfS.one4 (hF.ev rfl) (hS.get 4 rfl) rfl) hK
   ·
    intro fa w' hΦ hF hB K hK
    obtain ⟨go4_11_1, go4_12_1, hA, hS, E_w'⟩ := hΦ
    replace hF := hF.cons (hB.val 0 _ 25 _ rfl rfl rfl rfl)
    exact fl_val rfl rfl rfl (ex_load1b TfS.one4 (hF.ev rfl) (hS.get 5 rfl) rfl) hK
   ·
    intro fa w' hΦ hF hB K hK
    obtain ⟨Ao4_6_4, co4_6_5, Ao4_10_4, co4_10_5, go4_11_1, hA, hS, E_w', huo4_6_6, huo4_10_6⟩ := hΦ
    replace hF := hF.cons (hB.val 0 _ 25 _ rfl rfl rfl rfl)
    exact fl_val rfl rfl rfl (ex_load1b TfS.one4 (hF.ev rfl) (hS.get 4 rfl) rfl) hK
   ·
    intro fa w' hΦ hF hB K hK
    obtain ⟨Ao4_6_4, co4_6_5, Ao4_10_4, co4_10_5, go4_12_1, hA, hS, E_w', huo4_6_6, huo4_10_6⟩ := hΦ
    replace hF := hF.cons (hB.val 0 _ 25 _ rfl rfl rfl rfl)
    exact fl_val rfl rfl rfl (ex_load1b TfS.one4 (hF.ev rfl) (hS.get 4 rfl) rfl) hK
   ·
    intro fa w' hΦ hF hB K hK
    obtain ⟨Ao4_6_4, co4_6_5, go4_11_1, go4_12_1, hA, hS, E_w', huo4_6_6⟩ := hΦ
    replace hF := hF.cons (hB.val 0 _ 25 _ rfl rfl rfl rfl)
    exact fl_val rfl rfl rfl (ex_load1b TfS.one4 (hF.ev rfl) (hS.get 5 rfl) rfl) hK
   ·
    intro fa w' hΦ hF hB K hK
    obtain ⟨Ao4_6_4, co4_6_5, Ao4_10_4, co4_10_5, go4_11_1, go4_12_1, hA, hS, E_w', huo4_6_6, huo4_10_6⟩ := hΦ
    replace hF := hF.cons (hB.val 0 _ 25 _ rfl rfl rfl rfl)
    exact fl_val rfl rfl rfl (ex_load1b TfS.one4 (hF.ev rfl) (hS.get 5 rfl) rfl) hK
  ·
   refine .inl ⟨rfl, _, _, rfl, rfl, fun s fa w' hΦ hF hB K hK => ?_⟩
   exact fl_val rfl rfl rfl (ex_field_addr TfS.off24_0 (hF.ev rfl)) hK
  ·
   refine .inr (.inl ⟨rfl, _, _, rfl, rfl, ?_, ?_, ?_, ?_, ?_, ?_, ?_, ?_, ?_, ?_, ?_, ?_, trivial⟩)
   ·
    intro fa w' hΦ hF hB K hK
    obtain ⟨hA, hS, E_w'⟩ := hΦ
    replace hF := hF.cons (hB.val 2 _ 27 _ rfl rfl rfl rfl)
    exact fl_val rfl rfl rfl (ex_load1b TfS.one4 (hF.ev rfl) (hS.get 2 rfl) rfl) hK
   ·
    intro fa w' hΦ hF hB K hK
    obtain ⟨Ao4_6_4, co4_6_5, hA, hS, E_w', huo4_6_6⟩ := hΦ
    replace hF := hF.cons (hB.val 2 _ 27 _ rfl rfl rfl rfl)
    exact fl_val rfl rfl rfl (ex_load1b TfS.one4 (hF.ev rfl) (hS.get 2 rfl) rfl) hK
   ·
    intro fa w' hΦ hF hB K hK
    obtain ⟨go4_11_1, hA, hS, E_w'⟩ := hΦ
    replace hF := hF.cons (hB.val 2 _ 27 _ rfl rfl rfl rfl)
    exact fl_val rfl rfl rfl (ex_load1b TfS.one4 (hF.ev rfl) (hS.get 3 rfl) rfl) hK
   ·
    intro fa w' hΦ hF hB K hK
    obtain ⟨go4_12_1, hA, hS, E_w'⟩ := hΦ
    replace hF := hF.cons (hB.val 2 _ 27 _ rfl rfl rfl rfl)
    exact fl_val rfl rfl rfl (ex_load1b TfS.one4 (hF.ev rfl) (hS.get 3 rfl) rfl) hK
   ·
    intro fa w' hΦ hF hB K hK
    obtain ⟨Ao4_6_4, co4_6_5, Ao4_10_4, co4_10_5, hA, hS, E_w', huo4_6_6, huo4_10_6⟩ := hΦ
    replace hF := hF.cons (hB.val 2 _ 27 _ rfl rfl rfl rfl)
    exact fl_val rfl rfl rfl (ex_load1b TfS.one4 (hF.ev rfl) (hS.get 2 rfl) rfl) hK
   ·
    intro fa w' hΦ hF hB K hK
    obtain ⟨Ao4_6_4, co4_6_5, go4_11_1, hA, hS, E_w', huo4_6_6⟩ := hΦ
    replace hF := hF.cons (hB.val 2 _ 27 _ rfl rfl rfl rfl)
    exact fl_val rfl rfl rfl (ex_load1b TfS.one4 (hF.ev rfl) (hS.get 3 rfl) rfl) hK
   ·
    intro fa w' hΦ hF hB K hK
    obtain ⟨Ao4_6_4, co4_6_5, go4_12_1, hA, hS, E_w', huo4_6_6⟩ := hΦ
    replace hF := hF.cons (hB.val 2 _ 27 _ rfl rfl rfl rfl)
    exact fl_val rfl rfl rfl (ex_load1b TfS.one4 (hF.ev rfl) (hS.get 3 rfl) rfl) hK
   ·
    intro fa w' hΦ hF hB K hK
    obtain ⟨go4_11_1, go4_12_1, hA, hS, E_w'⟩ := hΦ
    replace hF := hF.cons (hB.val 2 _ 27 _ rfl rfl rfl rfl)
    exact fl_val rfl rfl rfl (ex_load1b TfS.one4 (hF.ev rfl) (hS.get 4 rfl) rfl) hK
   ·
    intro fa w' hΦ hF hB K hK
    obtain ⟨Ao4_6_4, co4_6_5, Ao4_10_4, co4_10_5, go4_11_1, hA, hS, E_w', huo4_6_6, huo4_10_6⟩ := hΦ
    replace hF := hF.cons (hB.val 2 _ 27 _ rfl rfl rfl rfl)
    exact fl_val rfl rfl rfl (ex_load1b TfS.one4 (hF.ev rfl) (hS.get 3 rfl) rfl) hK
   ·
    intro fa w' hΦ hF hB K hK
    obtain ⟨Ao4_6_4, co4_6_5, Ao4_10_4, co4_10_5, go4_12_1, hA, hS, E_w', huo4_6_6, huo4_10_6⟩ := hΦ
    replace hF := hF.cons (hB.val 2 _ 27 _ rfl rfl rfl rfl)
    exact fl_val rfl rfl rfl (ex_load1b TfS.one4 (hF.ev rfl) (hS.get 3 rfl) rfl) hK
   ·
    intro fa w' hΦ hF hB K hK
    obtain ⟨Ao4_6_4, co4_6_5, go4_11_1, go4_12_1, hA, hS, E_w', huo4_6_6⟩ := hΦ
    replace hF := hF.cons (hB.val 2 _ 27 _ rfl rfl rfl rfl)
    exact fl_val rfl rfl rfl (ex_load1b TfS.one4 (hF.ev rfl) (hS.get 4 rfl) rfl) hK
   ·
    intro fa w' hΦ hF hB K hK
    obtain ⟨Ao4_6_4, co4_6_5, Ao4_10_4, co4_10_5, go4_11_1, go4_12_1, hA, hS, E_w', huo4_6_6, huo4_10_6⟩ := hΦ
    replace hF := hF.cons (hB.val 2 _ 27 _ rfl rfl rfl rfl)
    exact fl_val rfl rfl rfl (ex_load1b TfS.one4 (hF.ev rfl) (hS.get 4 rfl) rfl) hK
  ·
   refine .inl ⟨rfl, _, _, rfl, rfl, fun s fa w' hΦ hF hB K hK => ?_⟩
   replace hF := hF.cons (hB.val 1 _ 26 _ rfl rfl rfl rfl)
   replace hF := hF.cons (hB.val 3 _ 28 _ rfl rfl rfl rfl)
   exact fl_val rfl rfl rfl (ex_neb TfS.und4 (hF.ev rfl) (hF.ev rfl)) hK
  ·
   refine .inl ⟨rfl, _, _, rfl, rfl, fun s fa w' hΦ hF hB K hK => ?_⟩
   exact fl_val rfl rfl rfl (ex_move (hF.ev rfl)) hK
  ·
   refine .inr (.inr ⟨rfl, ?_, ?_, ?_, ?_, trivial⟩)
   ·
    intro fa w' hΦ hF hB
    obtain ⟨hA, hS, E_w'⟩ := hΦ
    replace hF := hF.cons (hB.val 4 _ 29 _ rfl rfl rfl rfl)
    replace hF := hF.cons (hB.val 5 _ 30 _ rfl rfl rfl rfl)
    refine wop rfl rfl ?_
    have hC := integer_signed_ok (w := w') (X := (g13 :: (g9 :: (g5 :: (g1 :: X))))) (l := qs_25) (hS.bnd hX) ((decide (a < 0)) != (decide (b < 0))) ⟨_, (qs_25.length), _, rfl, (rfl), (hu29.ext E_w')⟩ (hlq)
    refine op_call hF rfl TfS.body41 (args2 (hF.ev rfl) (hF.ev rfl)) hC ?_
    clear hC
    rintro _ wo4_6_1 ⟨⟨_, rfl, Ao4_6_4, co4_6_5, rfl, huo4_6_6⟩, hbo4_6_2⟩
    clear hF; intro hF
    replace hS := hS.call hbo4_6_2; have Eo4_6_3 := Ext.call (g13 :: (g9 :: (g5 :: (g1 :: X)))) hbo4_6_2
    have hA1 := ((hA.put_other _ rfl).cons (hF.get 31 _ rfl))
    exact ⟨1, rfl, ⟨Ao4_6_4, co4_6_5, (hA1.take hA1.nil rfl), hS, (E_w'.trans Eo4_6_3), huo4_6_6⟩, _, rfl, fun u hu => by cases hu <;> rfl⟩
   ·
    intro fa w' hΦ hF hB
    obtain ⟨go4_11_1, hA, hS, E_w'⟩ := hΦ
    replace hF := hF.cons (hB.val 4 _ 29 _ rfl rfl rfl rfl)
    replace hF := hF.cons (hB.val 5 _ 30 _ rfl rfl rfl rfl)
    refine wop rfl rfl ?_
    have hC := integer_signed_ok (w := w') (X := (go4_11_1 :: (g13 :: (g9 :: (g5 :: (g1 :: X)))))) (l := qs_25) (hS.bnd hX) ((decide (a < 0)) != (decide (b < 0))) ⟨_, (qs_25.length), _, rfl, (rfl), (hu29.ext E_w')⟩ (hlq)
    refine op_call hF rfl TfS.body41 (args2 (hF.ev rfl) (hF.ev rfl)) hC ?_
    clear hC
    rintro _ wo4_6_1 ⟨⟨_, rfl, Ao4_6_4, co4_6_5, rfl, huo4_6_6⟩, hbo4_6_2⟩
    clear hF; intro hF
    replace hS := hS.call hbo4_6_2; have Eo4_6_3 := Ext.call (go4_11_1 :: (g13 :: (g9 :: (g5 :: (g1 :: X))))) hbo4_6_2
    have hA1 := ((hA.put_other _ rfl).cons (hF.get 31 _ rfl))
    exact ⟨5, rfl, ⟨Ao4_6_4, co4_6_5, go4_11_1, (hA1.take (hA1.take hA1.nil rfl) rfl), hS, (E_w'.trans Eo4_6_3), huo4_6_6⟩, _, rfl, fun u hu => by cases hu <;> rfl⟩
   ·
    intro fa w' hΦ hF hB
    obtain ⟨go4_12_1, hA, hS, E_w'⟩ := hΦ
    replace hF := hF.cons (hB.val 4 _ 29 _ rfl rfl rfl rfl)
    replace hF := hF.cons (hB.val 5 _ 30 _ rfl rfl rfl rfl)
    refine wop rfl rfl ?_
    have hC := integer_signed_ok (w := w') (X := (go4_12_1 :: (g13 :: (g9 :: (g5 :: (g1 :: X)))))) (l := qs_25) (hS.bnd hX) ((decide (a < 0)) != (decide (b < 0))) ⟨_, (qs_25.length), _, rfl, (rfl), (hu29.ext E_w')⟩ (hlq)
    refine op_call hF rfl TfS.body41 (args2 (hF.ev rfl) (hF.ev rfl)) hC ?_
    clear hC
    rintro _ wo4_6_1 ⟨⟨_, rfl, Ao4_6_4, co4_6_5, rfl, huo4_6_6⟩, hbo4_6_2⟩
    clear hF; intro hF
    replace hS := hS.call hbo4_6_2; have Eo4_6_3 := Ext.call (go4_12_1 :: (g13 :: (g9 :: (g5 :: (g1 :: X))))) hbo4_6_2
    have hA1 := ((hA.put_other _ rfl).cons (hF.get 31 _ rfl))
    exact ⟨6, rfl, ⟨Ao4_6_4, co4_6_5, go4_12_1, (hA1.take (hA1.take hA1.nil rfl) rfl), hS, (E_w'.trans Eo4_6_3), huo4_6_6⟩, _, rfl, fun u hu => by cases hu <;> rfl⟩
   ·
    intro fa w' hΦ hF hB
    obtain ⟨go4_11_1, go4_12_1, hA, hS, E_w'⟩ := hΦ
    replace hF := hF.cons (hB.val 4 _ 29 _ rfl rfl rfl rfl)
    replace hF := hF.cons (hB.val 5 _ 30 _ rfl rfl rfl rfl)
    refine wop rfl rfl ?_
    have hC := integer_signed_ok (w := w') (X := (go4_12_1 :: (go4_11_1 :: (g13 :: (g9 :: (g5 :: (g1 :: X))))))) (l := qs_25) (hS.bnd hX) ((decide (a < 0)) != (decide (b < 0))) ⟨_, (qs_25.length), _, rfl, (rfl), (hu29.ext E_w')⟩ (hlq)
    refine op_call hF rfl TfS.body41 (args2 (hF.ev rfl) (hF.ev rfl)) hC ?_
    clear hC
    rintro _ wo4_6_1 ⟨⟨_, rfl, Ao4_6_4, co4_6_5, rfl, huo4_6_6⟩, hbo4_6_2⟩
    clear hF; intro hF
    replace hS := hS.call hbo4_6_2; have Eo4_6_3 := Ext.call (go4_12_1 :: (go4_11_1 :: (g13 :: (g9 :: (g5 :: (g1 :: X)))))) hbo4_6_2
    have hA1 := ((hA.put_other _ rfl).cons (hF.get 31 _ rfl))
    exact ⟨10, rfl, ⟨Ao4_6_4, co4_6_5, go4_11_1, go4_12_1, (hA1.take (hA1.take (hA1.take hA1.nil rfl) rfl) rfl), hS, (E_w'.trans Eo4_6_3), huo4_6_6⟩, _, rfl, fun u hu => by cases hu <;> rfl⟩
  ·
   refine .inl ⟨rfl, _, _, rfl, rfl, fun s fa w' hΦ hF hB K hK => ?_⟩
   exact fl_val rfl rfl rfl (ex_field_addr TfS.off24_0 (hF.ev rfl)) hK
  ·
   refine .inr (.inl ⟨rfl, _, _, rfl, rfl, ?_, ?_, ?_, ?_, ?_, ?_, ?_, ?_, trivial⟩)
   ·
    intro fa w' hΦ hF hB K hK
    obtain ⟨hA, hS, E_w'⟩ := hΦ
    replace hF := hF.cons (hB.val 7 _ 32 _ rfl rfl rfl rfl)
    exact fl_val rfl rfl rfl (ex_load1b TfS.one4 (hF.ev rfl) (hS.get 3 rfl) rfl) hK
   ·
    intro fa w' hΦ hF hB K hK
    obtain ⟨Ao4_6_4, co4_6_5, hA, hS, E_w', huo4_6_6⟩ := hΦ
    replace hF := hF.cons (hB.val 7 _ 32 _ rfl rfl rfl rfl)
    exact fl_val rfl rfl rfl (ex_load1b TfS.one4 (hF.ev rfl) (hS.get 3 rfl) rfl) hK
   ·
    intro fa w' hΦ hF hB K hK
    obtain ⟨go4_11_1, hA, hS, E_w'⟩ := hΦ
    replace hF := hF.cons (hB.val 7 _ 32 _ rfl rfl rfl rfl)
    exact fl_val rfl rfl rfl (ex_load1b TfS.one4 (hF.ev rfl) (hS.get 4 rfl) rfl) hK
   ·
    intro fa w' hΦ hF hB K hK
    obtain ⟨go4_12_1, hA, hS, E_w'⟩ := hΦ
    replace hF := hF.cons (hB.val 7 _ 32 _ rfl rfl rfl rfl)
    exact fl_val rfl rfl rfl (ex_load1b TfS.one4 (hF.ev rfl) (hS.get 4 rfl) rfl) hK
   ·
    intro fa w' hΦ hF hB K hK
    obtain ⟨Ao4_6_4, co4_6_5, go4_11_1, hA, hS, E_w', huo4_6_6⟩ := hΦ
    replace hF := hF.cons (hB.val 7 _ 32 _ rfl rfl rfl rfl)
    exact fl_val rfl rfl rfl (ex_load1b TfS.one4 (hF.ev rfl) (hS.get 4 rfl) rfl) hK
   ·
    intro fa w' hΦ hF hB K hK
    obtain ⟨Ao4_6_4, co4_6_5, go4_12_1, hA, hS, E_w', huo4_6_6⟩ := hΦ
    replace hF := hF.cons (hB.val 7 _ 32 _ rfl rfl rfl rfl)
    exact fl_val rfl rfl rfl (ex_load1b TfS.one4 (hF.ev rfl) (hS.get 4 rfl) rfl) hK
   ·
    intro fa w' hΦ hF hB K hK
    obtain ⟨go4_11_1, go4_12_1, hA, hS, E_w'⟩ := hΦ
    replace hF := hF.cons (hB.val 7 _ 32 _ rfl rfl rfl rfl)
    exact fl_val rfl rfl rfl (ex_load1b TfS.one4 (hF.ev rfl) (hS.get 5 rfl) rfl) hK
   ·
    intro fa w' hΦ hF hB K hK
    obtain ⟨Ao4_6_4, co4_6_5, go4_11_1, go4_12_1, hA, hS, E_w', huo4_6_6⟩ := hΦ
    replace hF := hF.cons (hB.val 7 _ 32 _ rfl rfl rfl rfl)
    exact fl_val rfl rfl rfl (ex_load1b TfS.one4 (hF.ev rfl) (hS.get 5 rfl) rfl) hK
  ·
   refine .inl ⟨rfl, _, _, rfl, rfl, fun s fa w' hΦ hF hB K hK => ?_⟩
   exact fl_val rfl rfl rfl (ex_move (hF.ev rfl)) hK
  ·
   refine .inr (.inr ⟨rfl, ?_, ?_, ?_, ?_, trivial⟩)
   ·
    intro fa w' hΦ hF hB
    obtain ⟨Ao4_6_4, co4_6_5, hA, hS, E_w', huo4_6_6⟩ := hΦ
    replace hF := hF.cons (hB.val 8 _ 33 _ rfl rfl rfl rfl)
    replace hF := hF.cons (hB.val 9 _ 34 _ rfl rfl rfl rfl)
    refine wop rfl rfl ?_
    have hC := integer_signed_ok (w := w') (X := (g13 :: (g9 :: (g5 :: (g1 :: X))))) (l := rs_26) (hS.bnd hX) (decide (a < 0)) ⟨_, (rs_26.length), _, rfl, (rfl), (hu32.ext E_w')⟩ (hlr)
    refine op_call hF rfl TfS.body41 (args2 (hF.ev rfl) (hF.ev rfl)) hC ?_
    clear hC
    rintro _ wo4_10_1 ⟨⟨_, rfl, Ao4_10_4, co4_10_5, rfl, huo4_10_6⟩, hbo4_10_2⟩
    clear hF; intro hF
    replace hS := hS.call hbo4_10_2; have Eo4_10_3 := Ext.call (g13 :: (g9 :: (g5 :: (g1 :: X)))) hbo4_10_2
    have hA1 := ((hA.put_other _ rfl).cons (hF.get 35 _ rfl))
    exact ⟨4, rfl, ⟨Ao4_6_4, co4_6_5, Ao4_10_4, co4_10_5, (hA1.take (hA1.take hA1.nil rfl) rfl), hS, (E_w'.trans Eo4_10_3), (huo4_6_6.ext Eo4_10_3), huo4_10_6⟩, _, rfl, fun u hu => by cases hu <;> rfl⟩
   ·
    intro fa w' hΦ hF hB
    obtain ⟨Ao4_6_4, co4_6_5, go4_11_1, hA, hS, E_w', huo4_6_6⟩ := hΦ
    replace hF := hF.cons (hB.val 8 _ 33 _ rfl rfl rfl rfl)
    replace hF := hF.cons (hB.val 9 _ 34 _ rfl rfl rfl rfl)
    refine wop rfl rfl ?_
    have hC := integer_signed_ok (w := w') (X := (go4_11_1 :: (g13 :: (g9 :: (g5 :: (g1 :: X)))))) (l := rs_26) (hS.bnd hX) (decide (a < 0)) ⟨_, (rs_26.length), _, rfl, (rfl), (hu32.ext E_w')⟩ (hlr)
    refine op_call hF rfl TfS.body41 (args2 (hF.ev rfl) (hF.ev rfl)) hC ?_
    clear hC
    rintro _ wo4_10_1 ⟨⟨_, rfl, Ao4_10_4, co4_10_5, rfl, huo4_10_6⟩, hbo4_10_2⟩
    clear hF; intro hF
    replace hS := hS.call hbo4_10_2; have Eo4_10_3 := Ext.call (go4_11_1 :: (g13 :: (g9 :: (g5 :: (g1 :: X))))) hbo4_10_2
    have hA1 := ((hA.put_other _ rfl).cons (hF.get 35 _ rfl))
    exact ⟨8, rfl, ⟨Ao4_6_4, co4_6_5, Ao4_10_4, co4_10_5, go4_11_1, (hA1.take (hA1.take (hA1.take hA1.nil rfl) rfl) rfl), hS, (E_w'.trans Eo4_10_3), (huo4_6_6.ext Eo4_10_3), huo4_10_6⟩, _, rfl, fun u hu => by cases hu <;> rfl⟩
   ·
    intro fa w' hΦ hF hB
    obtain ⟨Ao4_6_4, co4_6_5, go4_12_1, hA, hS, E_w', huo4_6_6⟩ := hΦ
    replace hF := hF.cons (hB.val 8 _ 33 _ rfl rfl rfl rfl)
    replace hF := hF.cons (hB.val 9 _ 34 _ rfl rfl rfl rfl)
    refine wop rfl rfl ?_
    have hC := integer_signed_ok (w := w') (X := (go4_12_1 :: (g13 :: (g9 :: (g5 :: (g1 :: X)))))) (l := rs_26) (hS.bnd hX) (decide (a < 0)) ⟨_, (rs_26.length), _, rfl, (rfl), (hu32.ext E_w')⟩ (hlr)
    refine op_call hF rfl TfS.body41 (args2 (hF.ev rfl) (hF.ev rfl)) hC ?_
    clear hC
    rintro _ wo4_10_1 ⟨⟨_, rfl, Ao4_10_4, co4_10_5, rfl, huo4_10_6⟩, hbo4_10_2⟩
    clear hF; intro hF
    replace hS := hS.call hbo4_10_2; have Eo4_10_3 := Ext.call (go4_12_1 :: (g13 :: (g9 :: (g5 :: (g1 :: X))))) hbo4_10_2
    have hA1 := ((hA.put_other _ rfl).cons (hF.get 35 _ rfl))
    exact ⟨9, rfl, ⟨Ao4_6_4, co4_6_5, Ao4_10_4, co4_10_5, go4_12_1, (hA1.take (hA1.take (hA1.take hA1.nil rfl) rfl) rfl), hS, (E_w'.trans Eo4_10_3), (huo4_6_6.ext Eo4_10_3), huo4_10_6⟩, _, rfl, fun u hu => by cases hu <;> rfl⟩
   ·
    intro fa w' hΦ hF hB
    obtain ⟨Ao4_6_4, co4_6_5, go4_11_1, go4_12_1, hA, hS, E_w', huo4_6_6⟩ := hΦ
    replace hF := hF.cons (hB.val 8 _ 33 _ rfl rfl rfl rfl)
    replace hF := hF.cons (hB.val 9 _ 34 _ rfl rfl rfl rfl)
    refine wop rfl rfl ?_
    have hC := integer_signed_ok (w := w') (X := (go4_12_1 :: (go4_11_1 :: (g13 :: (g9 :: (g5 :: (g1 :: X))))))) (l := rs_26) (hS.bnd hX) (decide (a < 0)) ⟨_, (rs_26.length), _, rfl, (rfl), (hu32.ext E_w')⟩ (hlr)
    refine op_call hF rfl TfS.body41 (args2 (hF.ev rfl) (hF.ev rfl)) hC ?_
    clear hC
    rintro _ wo4_10_1 ⟨⟨_, rfl, Ao4_10_4, co4_10_5, rfl, huo4_10_6⟩, hbo4_10_2⟩
    clear hF; intro hF
    replace hS := hS.call hbo4_10_2; have Eo4_10_3 := Ext.call (go4_12_1 :: (go4_11_1 :: (g13 :: (g9 :: (g5 :: (g1 :: X)))))) hbo4_10_2
    have hA1 := ((hA.put_other _ rfl).cons (hF.get 35 _ rfl))
    exact ⟨11, rfl, ⟨Ao4_6_4, co4_6_5, Ao4_10_4, co4_10_5, go4_11_1, go4_12_1, (hA1.take (hA1.take (hA1.take (hA1.take hA1.nil rfl) rfl) rfl) rfl), hS, (E_w'.trans Eo4_10_3), (huo4_6_6.ext Eo4_10_3), huo4_10_6⟩, _, rfl, fun u hu => by cases hu <;> rfl⟩
  ·
   refine .inr (.inr ⟨rfl, ?_, ?_, ?_, ?_, ?_, ?_, trivial⟩)
   ·
    intro fa w' hΦ hF hB
    obtain ⟨hA, hS, E_w'⟩ := hΦ
    refine wop rfl rfl ?_
    refine op_alloc (X := (g13 :: (g9 :: (g5 :: (g1 :: X))))) hF hS rfl TfS.zero24 ?_
    intro go4_11_1 wo4_11_2 hgo4_11_4 hS Eo4_11_3 hF
    replace hS : St w wo4_11_2 [(go4_11_1, 24, #[(.bool (false)), (.slice (none) (0) (0))]), (g13, 24, #[(.bool (false)), (.slice (none) (0) (0))]), (g9, 24, #[(.bool (false)), (.slice (none) (0) (0))]), (g5, 24, (ic (A_b) (c_b) (b))), (g1, 24, (ic (A_a) (c_a) (a)))] := hS
    have hA1 := ((hA.put_other _ rfl).cons (hF.get 9 _ rfl))
    exact ⟨2, rfl, ⟨go4_11_1, (hA1.take hA1.nil rfl), hS, (E_w'.trans Eo4_11_3)⟩, _, rfl, fun u hu => by cases hu <;> rfl⟩
   ·
    intro fa w' hΦ hF hB
    obtain ⟨Ao4_6_4, co4_6_5, hA, hS, E_w', huo4_6_6⟩ := hΦ
    refine wop rfl rfl ?_
    refine op_alloc (X := (g13 :: (g9 :: (g5 :: (g1 :: X))))) hF hS rfl TfS.zero24 ?_
    intro go4_11_1 wo4_11_2 hgo4_11_4 hS Eo4_11_3 hF
    replace hS : St w wo4_11_2 [(go4_11_1, 24, #[(.bool (false)), (.slice (none) (0) (0))]), (g13, 24, #[(.bool (false)), (.slice (none) (0) (0))]), (g9, 24, #[(.bool (false)), (.slice (none) (0) (0))]), (g5, 24, (ic (A_b) (c_b) (b))), (g1, 24, (ic (A_a) (c_a) (a)))] := hS
    have hA1 := ((hA.put_other _ rfl).cons (hF.get 9 _ rfl))
    exact ⟨5, rfl, ⟨Ao4_6_4, co4_6_5, go4_11_1, (hA1.take (hA1.take hA1.nil rfl) rfl), hS, (E_w'.trans Eo4_11_3), (huo4_6_6.ext Eo4_11_3)⟩, _, rfl, fun u hu => by cases hu <;> rfl⟩
   ·
    intro fa w' hΦ hF hB
    obtain ⟨go4_12_1, hA, hS, E_w'⟩ := hΦ
    refine wop rfl rfl ?_
    refine op_alloc (X := (go4_12_1 :: (g13 :: (g9 :: (g5 :: (g1 :: X)))))) hF hS rfl TfS.zero24 ?_
    intro go4_11_1 wo4_11_2 hgo4_11_4 hS Eo4_11_3 hF
    replace hS : St w wo4_11_2 [(go4_11_1, 24, #[(.bool (false)), (.slice (none) (0) (0))]), (go4_12_1, 24, #[(.bool (false)), (.slice (none) (0) (0))]), (g13, 24, #[(.bool (false)), (.slice (none) (0) (0))]), (g9, 24, #[(.bool (false)), (.slice (none) (0) (0))]), (g5, 24, (ic (A_b) (c_b) (b))), (g1, 24, (ic (A_a) (c_a) (a)))] := hS
    replace hS : St w wo4_11_2 [(go4_12_1, 24, #[(.bool (false)), (.slice (none) (0) (0))]), (go4_11_1, 24, #[(.bool (false)), (.slice (none) (0) (0))]), (g13, 24, #[(.bool (false)), (.slice (none) (0) (0))]), (g9, 24, #[(.bool (false)), (.slice (none) (0) (0))]), (g5, 24, (ic (A_b) (c_b) (b))), (g1, 24, (ic (A_a) (c_a) (a)))] := hS.perm (List.Perm.swap _ _ _)
    have E39 : Ext wo4_11_2 (go4_11_1 :: (go4_12_1 :: (g13 :: (g9 :: (g5 :: (g1 :: X)))))) wo4_11_2 (go4_12_1 :: (go4_11_1 :: (g13 :: (g9 :: (g5 :: (g1 :: X)))))) := Ext.drop (by simp +contextual)
    have hA1 := ((hA.put_other _ rfl).cons (hF.get 9 _ rfl))
    exact ⟨7, rfl, ⟨go4_11_1, go4_12_1, (hA1.take (hA1.take hA1.nil rfl) rfl), hS, ((E_w'.trans Eo4_11_3).trans E39)⟩, _, rfl, fun u hu => by cases hu <;> rfl⟩
   ·
    intro fa w' hΦ hF hB
    obtain ⟨Ao4_6_4, co4_6_5, Ao4_10_4, co4_10_5, hA, hS, E_w', huo4_6_6, huo4_10_6⟩ := hΦ
    refine wop rfl rfl ?_
    refine op_alloc (X := (g13 :: (g9 :: (g5 :: (g1 :: X))))) hF hS rfl TfS.zero24 ?_
    intro go4_11_1 wo4_11_2 hgo4_11_4 hS Eo4_11_3 hF
    replace hS : St w wo4_11_2 [(go4_11_1, 24, #[(.bool (false)), (.slice (none) (0) (0))]), (g13, 24, #[(.bool (false)), (.slice (none) (0) (0))]), (g9, 24, #[(.bool (false)), (.slice (none) (0) (0))]), (g5, 24, (ic (A_b) (c_b) (b))), (g1, 24, (ic (A_a) (c_a) (a)))] := hS
    have hA1 := ((hA.put_other _ rfl).cons (hF.get 9 _ rfl))
    exact ⟨8, rfl, ⟨Ao4_6_4, co4_6_5, Ao4_10_4, co4_10_5, go4_11_1, (hA1.take (hA1.take (hA1.take hA1.nil rfl) rfl) rfl), hS, (E_w'.trans Eo4_11_3), (huo4_6_6.ext Eo4_11_3), (huo4_10_6.ext Eo4_11_3)⟩, _, rfl, fun u hu => by cases hu <;> rfl⟩
   ·
    intro fa w' hΦ hF hB
    obtain ⟨Ao4_6_4, co4_6_5, go4_12_1, hA, hS, E_w', huo4_6_6⟩ := hΦ
    refine wop rfl rfl ?_
    refine op_alloc (X := (go4_12_1 :: (g13 :: (g9 :: (g5 :: (g1 :: X)))))) hF hS rfl TfS.zero24 ?_
    intro go4_11_1 wo4_11_2 hgo4_11_4 hS Eo4_11_3 hF
    replace hS : St w wo4_11_2 [(go4_11_1, 24, #[(.bool (false)), (.slice (none) (0) (0))]), (go4_12_1, 24, #[(.bool (false)), (.slice (none) (0) (0))]), (g13, 24, #[(.bool (false)), (.slice (none) (0) (0))]), (g9, 24, #[(.bool (false)), (.slice (none) (0) (0))]), (g5, 24, (ic (A_b) (c_b) (b))), (g1, 24, (ic (A_a) (c_a) (a)))] := hS
    replace hS : St w wo4_11_2 [(go4_12_1, 24, #[(.bool (false)), (.slice (none) (0) (0))]), (go4_11_1, 24, #[(.bool (false)), (.slice (none) (0) (0))]), (g13, 24, #[(.bool (false)), (.slice (none) (0) (0))]), (g9, 24, #[(.bool (false)), (.slice (none) (0) (0))]), (g5, 24, (ic (A_b) (c_b) (b))), (g1, 24, (ic (A_a) (c_a) (a)))] := hS.perm (List.Perm.swap _ _ _)
    have E40 : Ext wo4_11_2 (go4_11_1 :: (go4_12_1 :: (g13 :: (g9 :: (g5 :: (g1 :: X)))))) wo4_11_2 (go4_12_1 :: (go4_11_1 :: (g13 :: (g9 :: (g5 :: (g1 :: X)))))) := Ext.drop (by simp +contextual)
    have hA1 := ((hA.put_other _ rfl).cons (hF.get 9 _ rfl))
    exact ⟨10, rfl, ⟨Ao4_6_4, co4_6_5, go4_11_1, go4_12_1, (hA1.take (hA1.take (hA1.take hA1.nil rfl) rfl) rfl), hS, ((E_w'.trans Eo4_11_3).trans E40), (huo4_6_6.ext (Eo4_11_3.trans E40))⟩, _, rfl, fun u hu => by cases hu <;> rfl⟩
   ·
    intro fa w' hΦ hF hB
    obtain ⟨Ao4_6_4, co4_6_5, Ao4_10_4, co4_10_5, go4_12_1, hA, hS, E_w', huo4_6_6, huo4_10_6⟩ := hΦ
    refine wop rfl rfl ?_
    refine op_alloc (X := (go4_12_1 :: (g13 :: (g9 :: (g5 :: (g1 :: X)))))) hF hS rfl TfS.zero24 ?_
    intro go4_11_1 wo4_11_2 hgo4_11_4 hS Eo4_11_3 hF
    replace hS : St w wo4_11_2 [(go4_11_1, 24, #[(.bool (false)), (.slice (none) (0) (0))]), (go4_12_1, 24, #[(.bool (false)), (.slice (none) (0) (0))]), (g13, 24, #[(.bool (false)), (.slice (none) (0) (0))]), (g9, 24, #[(.bool (false)), (.slice (none) (0) (0))]), (g5, 24, (ic (A_b) (c_b) (b))), (g1, 24, (ic (A_a) (c_a) (a)))] := hS
    replace hS : St w wo4_11_2 [(go4_12_1, 24, #[(.bool (false)), (.slice (none) (0) (0))]), (go4_11_1, 24, #[(.bool (false)), (.slice (none) (0) (0))]), (g13, 24, #[(.bool (false)), (.slice (none) (0) (0))]), (g9, 24, #[(.bool (false)), (.slice (none) (0) (0))]), (g5, 24, (ic (A_b) (c_b) (b))), (g1, 24, (ic (A_a) (c_a) (a)))] := hS.perm (List.Perm.swap _ _ _)
    have E41 : Ext wo4_11_2 (go4_11_1 :: (go4_12_1 :: (g13 :: (g9 :: (g5 :: (g1 :: X)))))) wo4_11_2 (go4_12_1 :: (go4_11_1 :: (g13 :: (g9 :: (g5 :: (g1 :: X)))))) := Ext.drop (by simp +contextual)
    have hA1 := ((hA.put_other _ rfl).cons (hF.get 9 _ rfl))
    exact ⟨11, rfl, ⟨Ao4_6_4, co4_6_5, Ao4_10_4, co4_10_5, go4_11_1, go4_12_1, (hA1.take (hA1.take (hA1.take (hA1.take hA1.nil rfl) rfl) rfl) rfl), hS, ((E_w'.trans Eo4_11_3).trans E41), (huo4_6_6.ext (Eo4_11_3.trans E41)), (huo4_10_6.ext (Eo4_11_3.trans E41))⟩, _, rfl, fun u hu => by cases hu <;> rfl⟩
  ·
   refine .inr (.inr ⟨rfl, ?_, ?_, ?_, ?_, ?_, ?_, trivial⟩)
   ·
    intro fa w' hΦ hF hB
    obtain ⟨hA, hS, E_w'⟩ := hΦ
    refine wop rfl rfl ?_
    refine op_alloc (X := (g13 :: (g9 :: (g5 :: (g1 :: X))))) hF hS rfl TfS.zero24 ?_
    intro go4_12_1 wo4_12_2 hgo4_12_4 hS Eo4_12_3 hF
    replace hS : St w wo4_12_2 [(go4_12_1, 24, #[(.bool (false)), (.slice (none) (0) (0))]), (g13, 24, #[(.bool (false)), (.slice (none) (0) (0))]), (g9, 24, #[(.bool (false)), (.slice (none) (0) (0))]), (g5, 24, (ic (A_b) (c_b) (b))), (g1, 24, (ic (A_a) (c_a) (a)))] := hS
    have hA1 := ((hA.put_other _ rfl).cons (hF.get 10 _ rfl))
    exact ⟨3, rfl, ⟨go4_12_1, (hA1.take hA1.nil rfl), hS, (E_w'.trans Eo4_12_3)⟩, _, rfl, fun u hu => by cases hu <;> rfl⟩
   ·
    intro fa w' hΦ hF hB
    obtain ⟨Ao4_6_4, co4_6_5, hA, hS, E_w', huo4_6_6⟩ := hΦ
    refine wop rfl rfl ?_
    refine op_alloc (X := (g13 :: (g9 :: (g5 :: (g1 :: X))))) hF hS rfl TfS.zero24 ?_
    intro go4_12_1 wo4_12_2 hgo4_12_4 hS Eo4_12_3 hF
    replace hS : St w wo4_12_2 [(go4_12_1, 24, #[(.bool (false)), (.slice (none) (0) (0))]), (g13, 24, #[(.bool (false)), (.slice (none) (0) (0))]), (g9, 24, #[(.bool (false)), (.slice (none) (0) (0))]), (g5, 24, (ic (A_b) (c_b) (b))), (g1, 24, (ic (A_a) (c_a) (a)))] := hS
    have hA1 := ((hA.put_other _ rfl).cons (hF.get 10 _ rfl))
    exact ⟨6, rfl, ⟨Ao4_6_4, co4_6_5, go4_12_1, (hA1.take (hA1.take hA1.nil rfl) rfl), hS, (E_w'.trans Eo4_12_3), (huo4_6_6.ext Eo4_12_3)⟩, _, rfl, fun u hu => by cases hu <;> rfl⟩
   ·
    intro fa w' hΦ hF hB
    obtain ⟨go4_11_1, hA, hS, E_w'⟩ := hΦ
    refine wop rfl rfl ?_
    refine op_alloc (X := (go4_11_1 :: (g13 :: (g9 :: (g5 :: (g1 :: X)))))) hF hS rfl TfS.zero24 ?_
    intro go4_12_1 wo4_12_2 hgo4_12_4 hS Eo4_12_3 hF
    replace hS : St w wo4_12_2 [(go4_12_1, 24, #[(.bool (false)), (.slice (none) (0) (0))]), (go4_11_1, 24, #[(.bool (false)), (.slice (none) (0) (0))]), (g13, 24, #[(.bool (false)), (.slice (none) (0) (0))]), (g9, 24, #[(.bool (false)), (.slice (none) (0) (0))]), (g5, 24, (ic (A_b) (c_b) (b))), (g1, 24, (ic (A_a) (c_a) (a)))] := hS
    have hA1 := ((hA.put_other _ rfl).cons (hF.get 10 _ rfl))
    exact ⟨7, rfl, ⟨go4_11_1, go4_12_1, (hA1.take (hA1.take hA1.nil rfl) rfl), hS, (E_w'.trans Eo4_12_3)⟩, _, rfl, fun u hu => by cases hu <;> rfl⟩
   ·
    intro fa w' hΦ hF hB
    obtain ⟨Ao4_6_4, co4_6_5, Ao4_10_4, co4_10_5, hA, hS, E_w', huo4_6_6, huo4_10_6⟩ := hΦ
    refine wop rfl rfl ?_
    refine op_alloc (X := (g13 :: (g9 :: (g5 :: (g1 :: X))))) hF hS rfl TfS.zero24 ?_
    intro go4_12_1 wo4_12_2 hgo4_12_4 hS Eo4_12_3 hF
    replace hS : St w wo4_12_2 [(go4_12_1, 24, #[(.bool (false)), (.slice (none) (0) (0))]), (g13, 24, #[(.bool (false)), (.slice (none) (0) (0))]), (g9, 24, #[(.bool (false)), (.slice (none) (0) (0))]), (g5, 24, (ic (A_b) (c_b) (b))), (g1, 24, (ic (A_a) (c_a) (a)))] := hS
    have hA1 := ((hA.put_other _ rfl).cons (hF.get 10 _ rfl))
    exact ⟨9, rfl, ⟨Ao4_6_4, co4_6_5, Ao4_10_4, co4_10_5, go4_12_1, (hA1.take (hA1.take (hA1.take hA1.nil rfl) rfl) rfl), hS, (E_w'.trans Eo4_12_3), (huo4_6_6.ext Eo4_12_3), (huo4_10_6.ext Eo4_12_3)⟩, _, rfl, fun u hu => by cases hu <;> rfl⟩
   ·
    intro fa w' hΦ hF hB
    obtain ⟨Ao4_6_4, co4_6_5, go4_11_1, hA, hS, E_w', huo4_6_6⟩ := hΦ
    refine wop rfl rfl ?_
    refine op_alloc (X := (go4_11_1 :: (g13 :: (g9 :: (g5 :: (g1 :: X)))))) hF hS rfl TfS.zero24 ?_
    intro go4_12_1 wo4_12_2 hgo4_12_4 hS Eo4_12_3 hF
    replace hS : St w wo4_12_2 [(go4_12_1, 24, #[(.bool (false)), (.slice (none) (0) (0))]), (go4_11_1, 24, #[(.bool (false)), (.slice (none) (0) (0))]), (g13, 24, #[(.bool (false)), (.slice (none) (0) (0))]), (g9, 24, #[(.bool (false)), (.slice (none) (0) (0))]), (g5, 24, (ic (A_b) (c_b) (b))), (g1, 24, (ic (A_a) (c_a) (a)))] := hS
    have hA1 := ((hA.put_other _ rfl).cons (hF.get 10 _ rfl))
    exact ⟨10, rfl, ⟨Ao4_6_4, co4_6_5, go4_11_1, go4_12_1, (hA1.take (hA1.take (hA1.take hA1.nil rfl) rfl) rfl), hS, (E_w'.trans Eo4_12_3), (huo4_6_6.ext Eo4_12_3)⟩, _, rfl, fun u hu => by cases hu <;> rfl⟩
   ·
    intro fa w' hΦ hF hB
    obtain ⟨Ao4_6_4, co4_6_5, Ao4_10_4, co4_10_5, go4_11_1, hA, hS, E_w', huo4_6_6, huo4_10_6⟩ := hΦ
    refine wop rfl rfl ?_
    refine op_alloc (X := (go4_11_1 :: (g13 :: (g9 :: (g5 :: (g1 :: X)))))) hF hS rfl TfS.zero24 ?_
    intro go4_12_1 wo4_12_2 hgo4_12_4 hS Eo4_12_3 hF
    replace hS : St w wo4_12_2 [(go4_12_1, 24, #[(.bool (false)), (.slice (none) (0) (0))]), (go4_11_1, 24, #[(.bool (false)), (.slice (none) (0) (0))]), (g13, 24, #[(.bool (false)), (.slice (none) (0) (0))]), (g9, 24, #[(.bool (false)), (.slice (none) (0) (0))]), (g5, 24, (ic (A_b) (c_b) (b))), (g1, 24, (ic (A_a) (c_a) (a)))] := hS
    have hA1 := ((hA.put_other _ rfl).cons (hF.get 10 _ rfl))
    exact ⟨11, rfl, ⟨Ao4_6_4, co4_6_5, Ao4_10_4, co4_10_5, go4_11_1, go4_12_1, (hA1.take (hA1.take (hA1.take (hA1.take hA1.nil rfl) rfl) rfl) rfl), hS, (E_w'.trans Eo4_12_3), (huo4_6_6.ext Eo4_12_3), (huo4_10_6.ext Eo4_12_3)⟩, _, rfl, fun u hu => by cases hu <;> rfl⟩
  ·
   refine .inr (.inr ⟨rfl, ?_, trivial⟩)
   ·
    intro fa w' hΦ hF hB
    obtain ⟨Ao4_6_4, co4_6_5, Ao4_10_4, co4_10_5, go4_11_1, go4_12_1, hA, hS, E_w', huo4_6_6, huo4_10_6⟩ := hΦ
    replace hF := hF.cons (hA.get 9 _ rfl)
    replace hF := hF.cons (hA.get 31 _ rfl)
    refine wop rfl rfl ?_
    refine op_store (X := (go4_12_1 :: (go4_11_1 :: (g13 :: (g9 :: (g5 :: (g1 :: X))))))) hF hS 1 rfl (by simp) rfl rfl rfl TfS.size24 rfl (Nat.le_of_ble_eq_true rfl) ?_
    intro wo4_13_1 hS Eo4_13_2
    replace hS : St w wo4_13_1 [(go4_12_1, 24, #[(.bool (false)), (.slice (none) (0) (0))]), (go4_11_1, 24, (ic (Ao4_6_4) (co4_6_5) ((sgnv ((decide (a < 0)) != (decide (b < 0))) (val qs_25))))), (g13, 24, #[(.bool (false)), (.slice (none) (0) (0))]), (g9, 24, #[(.bool (false)), (.slice (none) (0) (0))]), (g5, 24, (ic (A_b) (c_b) (b))), (g1, 24, (ic (A_a) (c_a) (a)))] := hS
    exact ⟨12, rfl, ⟨Ao4_6_4, co4_6_5, Ao4_10_4, co4_10_5, go4_11_1, go4_12_1, hA, hS, (E_w'.trans Eo4_13_2), (huo4_6_6.ext Eo4_13_2), (huo4_10_6.ext Eo4_13_2)⟩, undef, rfl, fun u hu => by cases hu <;> rfl⟩
  ·
   refine .inr (.inr ⟨rfl, ?_, trivial⟩)
   ·
    intro fa w' hΦ hF hB
    obtain ⟨Ao4_6_4, co4_6_5, Ao4_10_4, co4_10_5, go4_11_1, go4_12_1, hA, hS, E_w', huo4_6_6, huo4_10_6⟩ := hΦ
    replace hF := hF.cons (hA.get 10 _ rfl)
    replace hF := hF.cons (hA.get 35 _ rfl)
    refine wop rfl rfl ?_
    refine op_store (X := (go4_12_1 :: (go4_11_1 :: (g13 :: (g9 :: (g5 :: (g1 :: X))))))) hF hS 0 rfl (by simp) rfl rfl rfl TfS.size24 rfl (Nat.le_of_ble_eq_true rfl) ?_
    intro wo4_14_1 hS Eo4_14_2
    replace hS : St w wo4_14_1 [(go4_12_1, 24, (ic (Ao4_10_4) (co4_10_5) ((sgnv (decide (a < 0)) (val rs_26))))), (go4_11_1, 24, (ic (Ao4_6_4) (co4_6_5) ((sgnv ((decide (a < 0)) != (decide (b < 0))) (val qs_25))))), (g13, 24, #[(.bool (false)), (.slice (none) (0) (0))]), (g9, 24, #[(.bool (false)), (.slice (none) (0) (0))]), (g5, 24, (ic (A_b) (c_b) (b))), (g1, 24, (ic (A_a) (c_a) (a)))] := hS
    exact ⟨13, rfl, ⟨Ao4_6_4, co4_6_5, Ao4_10_4, co4_10_5, go4_11_1, go4_12_1, hA, hS, (E_w'.trans Eo4_14_2), (huo4_6_6.ext Eo4_14_2), (huo4_10_6.ext Eo4_14_2)⟩, undef, rfl, fun u hu => by cases hu <;> rfl⟩
 intro fa w42 hΦ hF hC
 obtain ⟨Ao4_6_4, co4_6_5, Ao4_10_4, co4_10_5, go4_11_1, go4_12_1, hA, hS, E_w42, huo4_6_6, huo4_10_6⟩ := hΦ
 replace hF := hF.cons (hA.get 9 _ rfl)
 replace hF := hF.cons (hA.get 10 _ rfl)
 clear hA hC
 refine x_tn ?_
 refine c_seq ?_
 refine c_seq ?_
 refine c_reg ?_
 refine st_val hF rfl rfl rfl (ex_field_addr TfS.off24_1 (hF.ev rfl)) ?_
 clear hF fa; intro fa hF
 refine st_val hF rfl rfl rfl (ex_load1b TfS.one22 (hF.ev rfl) (hS.get 0 rfl) rfl) ?_
 clear hF fa; intro fa hF
 refine st_val hF rfl rfl rfl (ex_len TfS.sls22 (hF.ev rfl)) ?_
 clear hF fa; intro fa hF
 refine st_val hF rfl rfl rfl (ex_gtr (hF.ev rfl) (hF.ev rfl)) ?_
 clear hF fa; intro fa hF
 refine st_val hF rfl rfl rfl (ex_move (hF.ev rfl)) ?_
 clear hF fa; intro fa hF
 rcases Bool.eq_false_or_eq_true (decide ((((lim (sgnv (decide (a < 0)) (val rs_26)).natAbs).length : Nat) : Int) > 0)) with hg43 | hg43
 ·
  replace hF := hF.cons (t := 40) (v := .bool true) ((hF.get 40 _ rfl).trans (congrArg Value.bool hg43))
  have hg43p : (((lim (sgnv (decide (a < 0)) (val rs_26)).natAbs).length : Nat) : Int) > 0 := by simpa using hg43
  refine stg_val hF rfl rfl rfl rfl (ex_field_addr TfS.off24_0 (hF.ev rfl)) ?_
  clear hF fa; intro fa hF
  refine stg_val hF rfl rfl rfl rfl (ex_load1b TfS.one4 (hF.ev rfl) (hS.get 0 rfl) rfl) ?_
  clear hF fa; intro fa hF
  refine stg_val hF rfl rfl rfl rfl (ex_field_addr TfS.off24_0 (hF.ev rfl)) ?_
  clear hF fa; intro fa hF
  refine stg_val hF rfl rfl rfl rfl (ex_load1b TfS.one4 (hF.ev rfl) (hS.get 4 rfl) rfl) ?_
  clear hF fa; intro fa hF
  refine stg_val hF rfl rfl rfl rfl (ex_neb TfS.und4 (hF.ev rfl) (hF.ev rfl)) ?_
  clear hF fa; intro fa hF
  refine st_val hF rfl rfl rfl (ex_pick (hF.ev rfl) (fun _ => hF.ev rfl) (v := undef) (fun h => by cases h) rfl) ?_
  clear hF fa; intro fa hF
  replace hF : Frm 55 fa [(0, (.agg (ic (A_a) (c_a) (a)))), (1, (.agg (ic (A_b) (c_b) (b)))), (2, (.pointer (some ⟨g1, 0, none⟩))), (3, (.pointer (some ⟨g5, 0, none⟩))), (4, (.pointer (some ⟨g9, 0, none⟩))), (5, (.pointer (some ⟨g13, 0, none⟩))), (6, (.int .i64 (0))), (14, (.bool (decide ((((lim b.natAbs).length : Nat) : Int) = 0)))), (7, (.slice (A27) (qs_25.length) (c28))), (8, (.slice (A30) (rs_26.length) (c31))), (9, (.pointer (some ⟨go4_11_1, 0, none⟩))), (10, (.pointer (some ⟨go4_12_1, 0, none⟩))), (46, (.bool ((decide ((sgnv (decide (a < 0)) (val rs_26)) < 0)) != (decide (b < 0)))))] := (hF.take (hF.take (hF.take (hF.take (hF.take (hF.take (hF.take (hF.take (hF.take (hF.take (hF.take (hF.take (hF.take hF.nil rfl) rfl) rfl) rfl) rfl) rfl) rfl) rfl) rfl) rfl) rfl) rfl) rfl)
  refine c_nil_then ?_
  refine c_cond hF rfl (fun hc44 => ?_) (fun hc44 => ?_)
  ·
   have hc44p : ¬ (((sgnv (decide (a < 0)) (val rs_26)) < 0) ↔ (b < 0)) := by first | simpa using hc44 | exact bang_t hc44 | exact bang_f hc44
   refine drawn2 (N := 55) (L0 := [(0, (.agg (ic (A_a) (c_a) (a)))), (1, (.agg (ic (A_b) (c_b) (b)))), (2, (.pointer (some ⟨g1, 0, none⟩))), (3, (.pointer (some ⟨g5, 0, none⟩))), (4, (.pointer (some ⟨g9, 0, none⟩))), (5, (.pointer (some ⟨g13, 0, none⟩))), (6, (.int .i64 (0))), (14, (.bool (decide ((((lim b.natAbs).length : Nat) : Int) = 0)))), (7, (.slice (A27) (qs_25.length) (c28))), (8, (.slice (A30) (rs_26.length) (c31))), (9, (.pointer (some ⟨go4_11_1, 0, none⟩))), (10, (.pointer (some ⟨go4_12_1, 0, none⟩))), (46, (.bool ((decide ((sgnv (decide (a < 0)) (val rs_26)) < 0)) != (decide (b < 0)))))]) [some (.agg (ic (Ao4_6_4) (co4_6_5) ((sgnv ((decide (a < 0)) != (decide (b < 0))) (val qs_25))))), none, none, some (.agg (ic (Ao4_10_4) (co4_10_5) ((sgnv (decide (a < 0)) (val rs_26))))), some (.agg (ic (A_b) (c_b) (b))), none, none, none] [1, 2, 5, 6, 7] [[], [1], [1, 2], [1, 2, 5], [1, 2, 5, 6], [1, 2, 5, 6, 7]] [[0, 1], [0], [1], [0, 1, 2], [0, 1, 2], [2], [3], [4]] 5 [
         fun fa w' => Frm 55 fa [] ∧ St w w' [(go4_12_1, 24, (ic (Ao4_10_4) (co4_10_5) ((sgnv (decide (a < 0)) (val rs_26))))), (go4_11_1, 24, (ic (Ao4_6_4) (co4_6_5) ((sgnv ((decide (a < 0)) != (decide (b < 0))) (val qs_25))))), (g13, 24, #[(.bool (false)), (.slice (none) (0) (0))]), (g9, 24, #[(.bool (false)), (.slice (none) (0) (0))]), (g5, 24, (ic (A_b) (c_b) (b))), (g1, 24, (ic (A_a) (c_a) (a)))] ∧ Ext w42 (go4_12_1 :: (go4_11_1 :: (g13 :: (g9 :: (g5 :: (g1 :: X)))))) w' (go4_12_1 :: (go4_11_1 :: (g13 :: (g9 :: (g5 :: (g1 :: X))))))
         , fun fa w' => ∃ Ao6_1_4 : Option Addr, ∃ co6_1_5 : Nat, Frm 55 fa [(48, (.agg (ic (Ao6_1_4) (co6_1_5) (((1 : Int))))))] ∧ St w w' [(go4_12_1, 24, (ic (Ao4_10_4) (co4_10_5) ((sgnv (decide (a < 0)) (val rs_26))))), (go4_11_1, 24, (ic (Ao4_6_4) (co4_6_5) ((sgnv ((decide (a < 0)) != (decide (b < 0))) (val qs_25))))), (g13, 24, #[(.bool (false)), (.slice (none) (0) (0))]), (g9, 24, #[(.bool (false)), (.slice (none) (0) (0))]), (g5, 24, (ic (A_b) (c_b) (b))), (g1, 24, (ic (A_a) (c_a) (a)))] ∧ Ext w42 (go4_12_1 :: (go4_11_1 :: (g13 :: (g9 :: (g5 :: (g1 :: X)))))) w' (go4_12_1 :: (go4_11_1 :: (g13 :: (g9 :: (g5 :: (g1 :: X)))))) ∧ UC w' (go4_12_1 :: (go4_11_1 :: (g13 :: (g9 :: (g5 :: (g1 :: X)))))) Ao6_1_4 co6_1_5 (lim (((1 : Int))).natAbs)
         , fun fa w' => ∃ Ao6_1_4 : Option Addr, ∃ co6_1_5 : Nat, ∃ Ao6_2_4 : Option Addr, ∃ co6_2_5 : Nat, Frm 55 fa [(48, (.agg (ic (Ao6_1_4) (co6_1_5) (((1 : Int)))))), (49, (.agg (ic (Ao6_2_4) (co6_2_5) (((sgnv ((decide (a < 0)) != (decide (b < 0))) (val qs_25)) - (((1 : Int))))))))] ∧ St w w' [(go4_12_1, 24, (ic (Ao4_10_4) (co4_10_5) ((sgnv (decide (a < 0)) (val rs_26))))), (go4_11_1, 24, (ic (Ao4_6_4) (co4_6_5) ((sgnv ((decide (a < 0)) != (decide (b < 0))) (val qs_25))))), (g13, 24, #[(.bool (false)), (.slice (none) (0) (0))]), (g9, 24, #[(.bool (false)), (.slice (none) (0) (0))]), (g5, 24, (ic (A_b) (c_b) (b))), (g1, 24, (ic (A_a) (c_a) (a)))] ∧ Ext w42 (go4_12_1 :: (go4_11_1 :: (g13 :: (g9 :: (g5 :: (g1 :: X)))))) w' (go4_12_1 :: (go4_11_1 :: (g13 :: (g9 :: (g5 :: (g1 :: X)))))) ∧ UC w' (go4_12_1 :: (go4_11_1 :: (g13 :: (g9 :: (g5 :: (g1 :: X)))))) Ao6_1_4 co6_1_5 (lim (((1 : Int))).natAbs) ∧ UC w' (go4_12_1 :: (go4_11_1 :: (g13 :: (g9 :: (g5 :: (g1 :: X)))))) Ao6_2_4 co6_2_5 (lim ((sgnv ((decide (a < 0)) != (decide (b < 0))) (val qs_25)) - (((1 : Int)))).natAbs)
         , fun fa w' => ∃ Ao6_1_4 : Option Addr, ∃ co6_1_5 : Nat, ∃ Ao6_2_4 : Option Addr, ∃ co6_2_5 : Nat, ∃ Ao6_5_4 : Option Addr, ∃ co6_5_5 : Nat, Frm 55 fa [(48, (.agg (ic (Ao6_1_4) (co6_1_5) (((1 : Int)))))), (49, (.agg (ic (Ao6_2_4) (co6_2_5) (((sgnv ((decide (a < 0)) != (decide (b < 0))) (val qs_25)) - (((1 : Int)))))))), (52, (.agg (ic (Ao6_5_4) (co6_5_5) (((sgnv (decide (a < 0)) (val rs_26)) + b)))))] ∧ St w w' [(go4_12_1, 24, (ic (Ao4_10_4) (co4_10_5) ((sgnv (decide (a < 0)) (val rs_26))))), (go4_11_1, 24, (ic (Ao4_6_4) (co4_6_5) ((sgnv ((decide (a < 0)) != (decide (b < 0))) (val qs_25))))), (g13, 24, #[(.bool (false)), (.slice (none) (0) (0))]), (g9, 24, #[(.bool (false)), (.slice (none) (0) (0))]), (g5, 24, (ic (A_b) (c_b) (b))), (g1, 24, (ic (A_a) (c_a) (a)))] ∧ Ext w42 (go4_12_1 :: (go4_11_1 :: (g13 :: (g9 :: (g5 :: (g1 :: X)))))) w' (go4_12_1 :: (go4_11_1 :: (g13 :: (g9 :: (g5 :: (g1 :: X)))))) ∧ UC w' (go4_12_1 :: (go4_11_1 :: (g13 :: (g9 :: (g5 :: (g1 :: X)))))) Ao6_1_4 co6_1_5 (lim (((1 : Int))).natAbs) ∧ UC w' (go4_12_1 :: (go4_11_1 :: (g13 :: (g9 :: (g5 :: (g1 :: X)))))) Ao6_2_4 co6_2_5 (lim ((sgnv ((decide (a < 0)) != (decide (b < 0))) (val qs_25)) - (((1 : Int)))).natAbs) ∧ UC w' (go4_12_1 :: (go4_11_1 :: (g13 :: (g9 :: (g5 :: (g1 :: X)))))) Ao6_5_4 co6_5_5 (lim ((sgnv (decide (a < 0)) (val rs_26)) + b).natAbs)
         , fun fa w' => ∃ Ao6_1_4 : Option Addr, ∃ co6_1_5 : Nat, ∃ Ao6_2_4 : Option Addr, ∃ co6_2_5 : Nat, ∃ Ao6_5_4 : Option Addr, ∃ co6_5_5 : Nat, Frm 55 fa [(48, (.agg (ic (Ao6_1_4) (co6_1_5) (((1 : Int)))))), (49, (.agg (ic (Ao6_2_4) (co6_2_5) (((sgnv ((decide (a < 0)) != (decide (b < 0))) (val qs_25)) - (((1 : Int)))))))), (52, (.agg (ic (Ao6_5_4) (co6_5_5) (((sgnv (decide (a < 0)) (val rs_26)) + b)))))] ∧ St w w' [(go4_12_1, 24, (ic (Ao4_10_4) (co4_10_5) ((sgnv (decide (a < 0)) (val rs_26))))), (go4_11_1, 24, (ic (Ao6_2_4) (co6_2_5) (((sgnv ((decide (a < 0)) != (decide (b < 0))) (val qs_25)) - (((1 : Int))))))), (g13, 24, #[(.bool (false)), (.slice (none) (0) (0))]), (g9, 24, #[(.bool (false)), (.slice (none) (0) (0))]), (g5, 24, (ic (A_b) (c_b) (b))), (g1, 24, (ic (A_a) (c_a) (a)))] ∧ Ext w42 (go4_12_1 :: (go4_11_1 :: (g13 :: (g9 :: (g5 :: (g1 :: X)))))) w' (go4_12_1 :: (go4_11_1 :: (g13 :: (g9 :: (g5 :: (g1 :: X)))))) ∧ UC w' (go4_12_1 :: (go4_11_1 :: (g13 :: (g9 :: (g5 :: (g1 :: X)))))) Ao6_1_4 co6_1_5 (lim (((1 : Int))).natAbs) ∧ UC w' (go4_12_1 :: (go4_11_1 :: (g13 :: (g9 :: (g5 :: (g1 :: X)))))) Ao6_2_4 co6_2_5 (lim ((sgnv ((decide (a < 0)) != (decide (b < 0))) (val qs_25)) - (((1 : Int)))).natAbs) ∧ UC w' (go4_12_1 :: (go4_11_1 :: (g13 :: (g9 :: (g5 :: (g1 :: X)))))) Ao6_5_4 co6_5_5 (lim ((sgnv (decide (a < 0)) (val rs_26)) + b).natAbs)
         , fun fa w' => ∃ Ao6_1_4 : Option Addr, ∃ co6_1_5 : Nat, ∃ Ao6_2_4 : Option Addr, ∃ co6_2_5 : Nat, ∃ Ao6_5_4 : Option Addr, ∃ co6_5_5 : Nat, Frm 55 fa [(48, (.agg (ic (Ao6_1_4) (co6_1_5) (((1 : Int)))))), (49, (.agg (ic (Ao6_2_4) (co6_2_5) (((sgnv ((decide (a < 0)) != (decide (b < 0))) (val qs_25)) - (((1 : Int)))))))), (52, (.agg (ic (Ao6_5_4) (co6_5_5) (((sgnv (decide (a < 0)) (val rs_26)) + b)))))] ∧ St w w' [(go4_12_1, 24, (ic (Ao6_5_4) (co6_5_5) (((sgnv (decide (a < 0)) (val rs_26)) + b)))), (go4_11_1, 24, (ic (Ao6_2_4) (co6_2_5) (((sgnv ((decide (a < 0)) != (decide (b < 0))) (val qs_25)) - (((1 : Int))))))), (g13, 24, #[(.bool (false)), (.slice (none) (0) (0))]), (g9, 24, #[(.bool (false)), (.slice (none) (0) (0))]), (g5, 24, (ic (A_b) (c_b) (b))), (g1, 24, (ic (A_a) (c_a) (a)))] ∧ Ext w42 (go4_12_1 :: (go4_11_1 :: (g13 :: (g9 :: (g5 :: (g1 :: X)))))) w' (go4_12_1 :: (go4_11_1 :: (g13 :: (g9 :: (g5 :: (g1 :: X)))))) ∧ UC w' (go4_12_1 :: (go4_11_1 :: (g13 :: (g9 :: (g5 :: (g1 :: X)))))) Ao6_1_4 co6_1_5 (lim (((1 : Int))).natAbs) ∧ UC w' (go4_12_1 :: (go4_11_1 :: (g13 :: (g9 :: (g5 :: (g1 :: X)))))) Ao6_2_4 co6_2_5 (lim ((sgnv ((decide (a < 0)) != (decide (b < 0))) (val qs_25)) - (((1 : Int)))).natAbs) ∧ UC w' (go4_12_1 :: (go4_11_1 :: (g13 :: (g9 :: (g5 :: (g1 :: X)))))) Ao6_5_4 co6_5_5 (lim ((sgnv (decide (a < 0)) (val rs_26)) + b).natAbs)
       ] TfS.mixed rfl rfl rfl rfl rfl rfl (hF.take (hF.take (hF.take (hF.take (hF.take (hF.take (hF.take (hF.take (hF.take (hF.take (hF.take (hF.take (hF.take hF.nil rfl) rfl) rfl) rfl) rfl) rfl) rfl) rfl) rfl) rfl) rfl) rfl) rfl) rfl ⟨hF.nil, hS.drew, Ext.drew _ _⟩ ?_ ?_ ?_
   all_goals clear hF fa
   ·
    refine ⟨?_, ?_, ?_, ?_, ?_, ?_, trivial⟩
    ·
     rintro fa w' i o d v ho hd hna ⟨hA, hR⟩; exact ⟨hA.put_other v (freeOf_at (acts := [1, 2, 5, 6, 7]) rfl ho hd hna), hR⟩
    ·
     rintro fa w' i o d v ho hd hna ⟨Ao6_1_4, co6_1_5, hA, hR⟩; exact ⟨Ao6_1_4, co6_1_5, hA.put_other v (freeOf_at (acts := [1, 2, 5, 6, 7]) rfl ho hd hna), hR⟩
    ·
     rintro fa w' i o d v ho hd hna ⟨Ao6_1_4, co6_1_5, Ao6_2_4, co6_2_5, hA, hR⟩; exact ⟨Ao6_1_4, co6_1_5, Ao6_2_4, co6_2_5, hA.put_other v (freeOf_at (acts := [1, 2, 5, 6, 7]) rfl ho hd hna), hR⟩
    ·
     rintro fa w' i o d v ho hd hna ⟨Ao6_1_4, co6_1_5, Ao6_2_4, co6_2_5, Ao6_5_4, co6_5_5, hA, hR⟩; exact ⟨Ao6_1_4, co6_1_5, Ao6_2_4, co6_2_5, Ao6_5_4, co6_5_5, hA.put_other v (freeOf_at (acts := [1, 2, 5, 6, 7]) rfl ho hd hna), hR⟩
    ·
     rintro fa w' i o d v ho hd hna ⟨Ao6_1_4, co6_1_5, Ao6_2_4, co6_2_5, Ao6_5_4, co6_5_5, hA, hR⟩; exact ⟨Ao6_1_4, co6_1_5, Ao6_2_4, co6_2_5, Ao6_5_4, co6_5_5, hA.put_other v (freeOf_at (acts := [1, 2, 5, 6, 7]) rfl ho hd hna), hR⟩
    ·
     rintro fa w' i o d v ho hd hna ⟨Ao6_1_4, co6_1_5, Ao6_2_4, co6_2_5, Ao6_5_4, co6_5_5, hA, hR⟩; exact ⟨Ao6_1_4, co6_1_5, Ao6_2_4, co6_2_5, Ao6_5_4, co6_5_5, hA.put_other v (freeOf_at (acts := [1, 2, 5, 6, 7]) rfl ho hd hna), hR⟩
   ·
    refine ⟨?_, ?_, ?_, ?_, ?_, ?_, ?_, ?_, trivial⟩
    ·
     refine .inr (.inl ⟨rfl, _, _, rfl, rfl, ?_, ?_, trivial⟩)
     ·
      intro fa w' hΦ hF hB K hK
      obtain ⟨hA, hS, E_w'⟩ := hΦ
      exact fl_val rfl rfl rfl (ex_loadb TfS.row24 (hF.ev rfl) (hS.get 1 rfl) rfl) hK
     ·
      intro fa w' hΦ hF hB K hK
      obtain ⟨Ao6_1_4, co6_1_5, hA, hS, E_w', huo6_1_6⟩ := hΦ
      exact fl_val rfl rfl rfl (ex_loadb TfS.row24 (hF.ev rfl) (hS.get 1 rfl) rfl) hK
    ·
     refine .inr (.inr ⟨rfl, ?_, trivial⟩)
     ·
      intro fa w' hΦ hF hB
      obtain ⟨hA, hS, E_w'⟩ := hΦ
      refine wop rfl rfl ?_
      have hC := integer_FromInt64_ok (w := w') (X := (go4_12_1 :: (go4_11_1 :: (g13 :: (g9 :: (g5 :: (g1 :: X))))))) (hS.bnd hX) 1 (by omega) (by omega)
      refine op_call hF rfl TfS.body37 (args1 (hF.ev rfl)) hC ?_
      clear hC
      rintro _ wo6_1_1 ⟨⟨_, rfl, Ao6_1_4, co6_1_5, rfl, huo6_1_6⟩, hbo6_1_2⟩
      clear hF; intro hF
      replace hS := hS.call hbo6_1_2; have Eo6_1_3 := Ext.call (go4_12_1 :: (go4_11_1 :: (g13 :: (g9 :: (g5 :: (g1 :: X)))))) hbo6_1_2
      have hA1 := ((hA.put_other _ rfl).cons (hF.get 48 _ rfl))
      exact ⟨1, rfl, ⟨Ao6_1_4, co6_1_5, (hA1.take hA1.nil rfl), hS, (E_w'.trans Eo6_1_3), huo6_1_6⟩, _, rfl, fun u hu => by cases hu <;> rfl⟩
    ·
     refine .inr (.inr ⟨rfl, ?_, trivial⟩)
     ·
      intro fa w' hΦ hF hB
      obtain ⟨Ao6_1_4, co6_1_5, hA, hS, E_w', huo6_1_6⟩ := hΦ
      replace hF := hF.cons (hB.val 0 _ 47 _ rfl rfl rfl rfl)
      replace hF := hF.cons (hA.get 48 _ rfl)
      refine wop rfl rfl ?_
      have hC := integer_Sub_ok (w := w') (X := (go4_12_1 :: (go4_11_1 :: (g13 :: (g9 :: (g5 :: (g1 :: X))))))) (a := (sgnv ((decide (a < 0)) != (decide (b < 0))) (val qs_25))) (b := ((1 : Int))) (hS.bnd hX) (IntV.of_ (n := (lim (sgnv ((decide (a < 0)) != (decide (b < 0))) (val qs_25)).natAbs).length) (b := decide ((sgnv ((decide (a < 0)) != (decide (b < 0))) (val qs_25)) < 0)) (x := sgnv ((decide (a < 0)) != (decide (b < 0))) (val qs_25)) ((huo4_6_6.ext E_w')) (rfl) (rfl) (rfl)) (IntV.of_ (n := (lim (((1 : Int))).natAbs).length) (b := decide (((1 : Int)) < 0)) (x := ((1 : Int))) (huo6_1_6) (rfl) (rfl) (rfl)) (hsq) (Nat.le_trans (sz_64 (by omega) (by omega)) (by omega))
      refine op_call hF rfl TfS.body29 (args2 (hF.ev rfl) (hF.ev rfl)) hC ?_
      clear hC
      rintro _ wo6_2_1 ⟨⟨_, rfl, Ao6_2_4, co6_2_5, rfl, huo6_2_6⟩, hbo6_2_2⟩
      clear hF; intro hF
      replace hS := hS.call hbo6_2_2; have Eo6_2_3 := Ext.call (go4_12_1 :: (go4_11_1 :: (g13 :: (g9 :: (g5 :: (g1 :: X)))))) hbo6_2_2
      have hA1 := ((hA.put_other _ rfl).cons (hF.get 49 _ rfl))
      exact ⟨2, rfl, ⟨Ao6_1_4, co6_1_5, Ao6_2_4, co6_2_5, (hA1.take (hA1.take hA1.nil rfl) rfl), hS, (E_w'.trans Eo6_2_3), (huo6_1_6.ext Eo6_2_3), huo6_2_6⟩, _, rfl, fun u hu => by cases hu <;> rfl⟩
    ·
     refine .inr (.inl ⟨rfl, _, _, rfl, rfl, ?_, ?_, ?_, trivial⟩)
     ·
      intro fa w' hΦ hF hB K hK
      obtain ⟨hA, hS, E_w'⟩ := hΦ
      exact fl_val rfl rfl rfl (ex_loadb TfS.row24 (hF.ev rfl) (hS.get 0 rfl) rfl) hK
     ·
      intro fa w' hΦ hF hB K hK
      obtain ⟨Ao6_1_4, co6_1_5, hA, hS, E_w', huo6_1_6⟩ := hΦ
      exact fl_val rfl rfl rfl (ex_loadb TfS.row24 (hF.ev rfl) (hS.get 0 rfl) rfl) hK
     ·
      intro fa w' hΦ hF hB K hK
      obtain ⟨Ao6_1_4, co6_1_5, Ao6_2_4, co6_2_5, hA, hS, E_w', huo6_1_6, huo6_2_6⟩ := hΦ
      exact fl_val rfl rfl rfl (ex_loadb TfS.row24 (hF.ev rfl) (hS.get 0 rfl) rfl) hK
    ·
     refine .inr (.inl ⟨rfl, _, _, rfl, rfl, ?_, ?_, ?_, trivial⟩)
     ·
      intro fa w' hΦ hF hB K hK
      obtain ⟨hA, hS, E_w'⟩ := hΦ
      exact fl_val rfl rfl rfl (ex_loadb TfS.row24 (hF.ev rfl) (hS.get 4 rfl) rfl) hK
     ·
      intro fa w' hΦ hF hB K hK
      obtain ⟨Ao6_1_4, co6_1_5, hA, hS, E_w', huo6_1_6⟩ := hΦ
      exact fl_val rfl rfl rfl (ex_loadb TfS.row24 (hF.ev rfl) (hS.get 4 rfl) rfl) hK
     ·
      intro fa w' hΦ hF hB K hK
      obtain ⟨Ao6_1_4, co6_1_5, Ao6_2_4, co6_2_5, hA, hS, E_w', huo6_1_6, huo6_2_6⟩ := hΦ
      exact fl_val rfl rfl rfl (ex_loadb TfS.row24 (hF.ev rfl) (hS.get 4 rfl) rfl) hK
    ·
     refine .inr (.inr ⟨rfl, ?_, trivial⟩)
     ·
      intro fa w' hΦ hF hB
      obtain ⟨Ao6_1_4, co6_1_5, Ao6_2_4, co6_2_5, hA, hS, E_w', huo6_1_6, huo6_2_6⟩ := hΦ
      replace hF := hF.cons (hB.val 3 _ 50 _ rfl rfl rfl rfl)
      replace hF := hF.cons (hB.val 4 _ 51 _ rfl rfl rfl rfl)
      refine wop rfl rfl ?_
      have hC := integer_Add_ok (w := w') (X := (go4_12_1 :: (go4_11_1 :: (g13 :: (g9 :: (g5 :: (g1 :: X))))))) (a := (sgnv (decide (a < 0)) (val rs_26))) (b := b) (hS.bnd hX) (IntV.of_ (n := (lim (sgnv (decide (a < 0)) (val rs_26)).natAbs).length) (b := decide ((sgnv (decide (a < 0)) (val rs_26)) < 0)) (x := sgnv (decide (a < 0)) (val rs_26)) ((huo4_10_6.ext E_w')) (rfl) (rfl) (rfl)) (IntV.of_ (n := (lim b.natAbs).length) (b := decide (b < 0)) (x := b) ((hu_b.ext ((((((E3.trans E7).trans E11).trans E15).trans E24).trans E_w42).trans E_w'))) (rfl) (rfl) (rfl)) (hsr) (by omega)
      refine op_call hF rfl TfS.body28 (args2 (hF.ev rfl) (hF.ev rfl)) hC ?_
      clear hC
      rintro _ wo6_5_1 ⟨⟨_, rfl, Ao6_5_4, co6_5_5, rfl, huo6_5_6⟩, hbo6_5_2⟩
      clear hF; intro hF
      replace hS := hS.call hbo6_5_2; have Eo6_5_3 := Ext.call (go4_12_1 :: (go4_11_1 :: (g13 :: (g9 :: (g5 :: (g1 :: X)))))) hbo6_5_2
      have hA1 := ((hA.put_other _ rfl).cons (hF.get 52 _ rfl))
      exact ⟨3, rfl, ⟨Ao6_1_4, co6_1_5, Ao6_2_4, co6_2_5, Ao6_5_4, co6_5_5, (hA1.take (hA1.take (hA1.take hA1.nil rfl) rfl) rfl), hS, (E_w'.trans Eo6_5_3), (huo6_1_6.ext Eo6_5_3), (huo6_2_6.ext Eo6_5_3), huo6_5_6⟩, _, rfl, fun u hu => by cases hu <;> rfl⟩
    ·
     refine .inr (.inr ⟨rfl, ?_, trivial⟩)
     ·
      intro fa w' hΦ hF hB
      obtain ⟨Ao6_1_4, co6_1_5, Ao6_2_4, co6_2_5, Ao6_5_4, co6_5_5, hA, hS, E_w', huo6_1_6, huo6_2_6, huo6_5_6⟩ := hΦ
      replace hF := hF.cons (hA.get 49 _ rfl)
      refine wop rfl rfl ?_
      refine op_store (X := (go4_12_1 :: (go4_11_1 :: (g13 :: (g9 :: (g5 :: (g1 :: X))))))) hF hS 1 rfl (by simp) rfl rfl rfl TfS.size24 rfl (Nat.le_of_ble_eq_true rfl) ?_
      intro wo6_6_1 hS Eo6_6_2
      replace hS : St w wo6_6_1 [(go4_12_1, 24, (ic (Ao4_10_4) (co4_10_5) ((sgnv (decide (a < 0)) (val rs_26))))), (go4_11_1, 24, (ic (Ao6_2_4) (co6_2_5) (((sgnv ((decide (a < 0)) != (decide (b < 0))) (val qs_25)) - (((1 : Int))))))), (g13, 24, #[(.bool (false)), (.slice (none) (0) (0))]), (g9, 24, #[(.bool (false)), (.slice (none) (0) (0))]), (g5, 24, (ic (A_b) (c_b) (b))), (g1, 24, (ic (A_a) (c_a) (a)))] := hS
      exact ⟨4, rfl, ⟨Ao6_1_4, co6_1_5, Ao6_2_4, co6_2_5, Ao6_5_4, co6_5_5, hA, hS, (E_w'.trans Eo6_6_2), (huo6_1_6.ext Eo6_6_2), (huo6_2_6.ext Eo6_6_2), (huo6_5_6.ext Eo6_6_2)⟩, undef, rfl, fun u hu => by cases hu <;> rfl⟩
    ·
     refine .inr (.inr ⟨rfl, ?_, trivial⟩)
     ·
      intro fa w' hΦ hF hB
      obtain ⟨Ao6_1_4, co6_1_5, Ao6_2_4, co6_2_5, Ao6_5_4, co6_5_5, hA, hS, E_w', huo6_1_6, huo6_2_6, huo6_5_6⟩ := hΦ
      replace hF := hF.cons (hA.get 52 _ rfl)
      refine wop rfl rfl ?_
      refine op_store (X := (go4_12_1 :: (go4_11_1 :: (g13 :: (g9 :: (g5 :: (g1 :: X))))))) hF hS 0 rfl (by simp) rfl rfl rfl TfS.size24 rfl (Nat.le_of_ble_eq_true rfl) ?_
      intro wo6_7_1 hS Eo6_7_2
      replace hS : St w wo6_7_1 [(go4_12_1, 24, (ic (Ao6_5_4) (co6_5_5) (((sgnv (decide (a < 0)) (val rs_26)) + b)))), (go4_11_1, 24, (ic (Ao6_2_4) (co6_2_5) (((sgnv ((decide (a < 0)) != (decide (b < 0))) (val qs_25)) - (((1 : Int))))))), (g13, 24, #[(.bool (false)), (.slice (none) (0) (0))]), (g9, 24, #[(.bool (false)), (.slice (none) (0) (0))]), (g5, 24, (ic (A_b) (c_b) (b))), (g1, 24, (ic (A_a) (c_a) (a)))] := hS
      exact ⟨5, rfl, ⟨Ao6_1_4, co6_1_5, Ao6_2_4, co6_2_5, Ao6_5_4, co6_5_5, hA, hS, (E_w'.trans Eo6_7_2), (huo6_1_6.ext Eo6_7_2), (huo6_2_6.ext Eo6_7_2), (huo6_5_6.ext Eo6_7_2)⟩, undef, rfl, fun u hu => by cases hu <;> rfl⟩
   intro fa w45 hΦ hF hC
   obtain ⟨Ao6_1_4, co6_1_5, Ao6_2_4, co6_2_5, Ao6_5_4, co6_5_5, hA, hS, E_w45, huo6_1_6, huo6_2_6, huo6_5_6⟩ := hΦ
   clear hA hC
   refine x_tn ?_
   refine c_seq ?_
   refine drawn2 (N := 55) (L0 := [(0, (.agg (ic (A_a) (c_a) (a)))), (1, (.agg (ic (A_b) (c_b) (b)))), (2, (.pointer (some ⟨g1, 0, none⟩))), (3, (.pointer (some ⟨g5, 0, none⟩))), (4, (.pointer (some ⟨g9, 0, none⟩))), (5, (.pointer (some ⟨g13, 0, none⟩))), (14, (.bool (decide ((((lim b.natAbs).length : Nat) : Int) = 0)))), (7, (.slice (A27) (qs_25.length) (c28))), (8, (.slice (A30) (rs_26.length) (c31))), (9, (.pointer (some ⟨go4_11_1, 0, none⟩))), (10, (.pointer (some ⟨go4_12_1, 0, none⟩))), (46, (.bool ((decide ((sgnv (decide (a < 0)) (val rs_26)) < 0)) != (decide (b < 0)))))]) [some (.agg (ic (Ao6_2_4) (co6_2_5) (((sgnv ((decide (a < 0)) != (decide (b < 0))) (val qs_25)) - (((1 : Int))))))), some (.agg (ic (Ao6_5_4) (co6_5_5) (((sgnv (decide (a < 0)) (val rs_26)) + b)))), none, none, some (.int .i64 (0))] [2, 3] [[], [2], [2, 3]] [[0], [0, 1], [0], [1], [2]] 2 [
         fun fa w' => Frm 55 fa [] ∧ St w w' [(go4_12_1, 24, (ic (Ao6_5_4) (co6_5_5) (((sgnv (decide (a < 0)) (val rs_26)) + b)))), (go4_11_1, 24, (ic (Ao6_2_4) (co6_2_5) (((sgnv ((decide (a < 0)) != (decide (b < 0))) (val qs_25)) - (((1 : Int))))))), (g13, 24, #[(.bool (false)), (.slice (none) (0) (0))]), (g9, 24, #[(.bool (false)), (.slice (none) (0) (0))]), (g5, 24, (ic (A_b) (c_b) (b))), (g1, 24, (ic (A_a) (c_a) (a)))] ∧ Ext w45 (go4_12_1 :: (go4_11_1 :: (g13 :: (g9 :: (g5 :: (g1 :: X)))))) w' (go4_12_1 :: (go4_11_1 :: (g13 :: (g9 :: (g5 :: (g1 :: X))))))
         , fun fa w' => Frm 55 fa [] ∧ St w w' [(go4_12_1, 24, (ic (Ao6_5_4) (co6_5_5) (((sgnv (decide (a < 0)) (val rs_26)) + b)))), (go4_11_1, 24, (ic (Ao6_2_4) (co6_2_5) (((sgnv ((decide (a < 0)) != (decide (b < 0))) (val qs_25)) - (((1 : Int))))))), (g13, 24, #[(.bool (false)), (.slice (none) (0) (0))]), (g9, 24, (ic (Ao6_2_4) (co6_2_5) (((sgnv ((decide (a < 0)) != (decide (b < 0))) (val qs_25)) - (((1 : Int))))))), (g5, 24, (ic (A_b) (c_b) (b))), (g1, 24, (ic (A_a) (c_a) (a)))] ∧ Ext w45 (go4_12_1 :: (go4_11_1 :: (g13 :: (g9 :: (g5 :: (g1 :: X)))))) w' (go4_12_1 :: (go4_11_1 :: (g13 :: (g9 :: (g5 :: (g1 :: X))))))
         , fun fa w' => Frm 55 fa [] ∧ St w w' [(go4_12_1, 24, (ic (Ao6_5_4) (co6_5_5) (((sgnv (decide (a < 0)) (val rs_26)) + b)))), (go4_11_1, 24, (ic (Ao6_2_4) (co6_2_5) (((sgnv ((decide (a < 0)) != (decide (b < 0))) (val qs_25)) - (((1 : Int))))))), (g13, 24, (ic (Ao6_5_4) (co6_5_5) (((sgnv (decide (a < 0)) (val rs_26)) + b)))), (g9, 24, (ic (Ao6_2_4) (co6_2_5) (((sgnv ((decide (a < 0)) != (decide (b < 0))) (val qs_25)) - (((1 : Int))))))), (g5, 24, (ic (A_b) (c_b) (b))), (g1, 24, (ic (A_a) (c_a) (a)))] ∧ Ext w45 (go4_12_1 :: (go4_11_1 :: (g13 :: (g9 :: (g5 :: (g1 :: X)))))) w' (go4_12_1 :: (go4_11_1 :: (g13 :: (g9 :: (g5 :: (g1 :: X))))))
       ] TfS.mixed rfl rfl rfl rfl rfl rfl (hF.take (hF.take (hF.take (hF.take (hF.take (hF.take (hF.take (hF.take (hF.take (hF.take (hF.take (hF.take hF.nil rfl) rfl) rfl) rfl) rfl) rfl) rfl) rfl) rfl) rfl) rfl) rfl) rfl ⟨hF.nil, hS.drew, Ext.drew _ _⟩ ?_ ?_ ?_
   all_goals clear hF fa
   ·
    refine ⟨?_, ?_, ?_, trivial⟩
    ·
     rintro fa w' i o d v ho hd hna ⟨hA, hR⟩; exact ⟨hA.put_other v (freeOf_at (acts := [2, 3]) rfl ho hd hna), hR⟩
    ·
     rintro fa w' i o d v ho hd hna ⟨hA, hR⟩; exact ⟨hA.put_other v (freeOf_at (acts := [2, 3]) rfl ho hd hna), hR⟩
    ·
     rintro fa w' i o d v ho hd hna ⟨hA, hR⟩; exact ⟨hA.put_other v (freeOf_at (acts := [2, 3]) rfl ho hd hna), hR⟩
   ·
    refine ⟨?_, ?_, ?_, ?_, ?_, trivial⟩
    ·
     refine .inr (.inl ⟨rfl, _, _, rfl, rfl, ?_, trivial⟩)
     ·
      intro fa w' hΦ hF hB K hK
      obtain ⟨hA, hS, E_w'⟩ := hΦ
      exact fl_val rfl rfl rfl (ex_loadb TfS.row24 (hF.ev rfl) (hS.get 1 rfl) rfl) hK
    ·
     refine .inr (.inl ⟨rfl, _, _, rfl, rfl, ?_, ?_, trivial⟩)
     ·
      intro fa w' hΦ hF hB K hK
      obtain ⟨hA, hS, E_w'⟩ := hΦ
      exact fl_val rfl rfl rfl (ex_loadb TfS.row24 (hF.ev rfl) (hS.get 0 rfl) rfl) hK
     ·
      intro fa w' hΦ hF hB K hK
      obtain ⟨hA, hS, E_w'⟩ := hΦ
      exact fl_val rfl rfl rfl (ex_loadb TfS.row24 (hF.ev rfl) (hS.get 0 rfl) rfl) hK
    ·
     refine .inr (.inr ⟨rfl, ?_, trivial⟩)
     ·
      intro fa w' hΦ hF hB
      obtain ⟨hA, hS, E_w'⟩ := hΦ
      replace hF := hF.cons (hB.val 0 _ 53 _ rfl rfl rfl rfl)
      refine wop rfl rfl ?_
      refine op_store (X := (go4_12_1 :: (go4_11_1 :: (g13 :: (g9 :: (g5 :: (g1 :: X))))))) hF hS 3 rfl (by simp) rfl rfl rfl TfS.size24 rfl (Nat.le_of_ble_eq_true rfl) ?_
      intro wo7_2_1 hS Eo7_2_2
      replace hS : St w wo7_2_1 [(go4_12_1, 24, (ic (Ao6_5_4) (co6_5_5) (((sgnv (decide (a < 0)) (val rs_26)) + b)))), (go4_11_1, 24, (ic (Ao6_2_4) (co6_2_5) (((sgnv ((decide (a < 0)) != (decide (b < 0))) (val qs_25)) - (((1 : Int))))))), (g13, 24, #[(.bool (false)), (.slice (none) (0) (0))]), (g9, 24, (ic (Ao6_2_4) (co6_2_5) (((sgnv ((decide (a < 0)) != (decide (b < 0))) (val qs_25)) - (((1 : Int))))))), (g5, 24, (ic (A_b) (c_b) (b))), (g1, 24, (ic (A_a) (c_a) (a)))] := hS
      exact ⟨1, rfl, ⟨hA, hS, (E_w'.trans Eo7_2_2)⟩, undef, rfl, fun u hu => by cases hu <;> rfl⟩
    ·
     refine .inr (.inr ⟨rfl, ?_, trivial⟩)
     ·
      intro fa w' hΦ hF hB
      obtain ⟨hA, hS, E_w'⟩ := hΦ
      replace hF := hF.cons (hB.val 1 _ 54 _ rfl rfl rfl rfl)
      refine wop rfl rfl ?_
      refine op_store (X := (go4_12_1 :: (go4_11_1 :: (g13 :: (g9 :: (g5 :: (g1 :: X))))))) hF hS 2 rfl (by simp) rfl rfl rfl TfS.size24 rfl (Nat.le_of_ble_eq_true rfl) ?_
      intro wo7_3_1 hS Eo7_3_2
      replace hS : St w wo7_3_1 [(go4_12_1, 24, (ic (Ao6_5_4) (co6_5_5) (((sgnv (decide (a < 0)) (val rs_26)) + b)))), (go4_11_1, 24, (ic (Ao6_2_4) (co6_2_5) (((sgnv ((decide (a < 0)) != (decide (b < 0))) (val qs_25)) - (((1 : Int))))))), (g13, 24, (ic (Ao6_5_4) (co6_5_5) (((sgnv (decide (a < 0)) (val rs_26)) + b)))), (g9, 24, (ic (Ao6_2_4) (co6_2_5) (((sgnv ((decide (a < 0)) != (decide (b < 0))) (val qs_25)) - (((1 : Int))))))), (g5, 24, (ic (A_b) (c_b) (b))), (g1, 24, (ic (A_a) (c_a) (a)))] := hS
      exact ⟨2, rfl, ⟨hA, hS, (E_w'.trans Eo7_3_2)⟩, undef, rfl, fun u hu => by cases hu <;> rfl⟩
    ·
     refine .inl ⟨rfl, _, _, rfl, rfl, fun s fa w' hΦ hF hB K hK => ?_⟩
     exact fl_val rfl rfl rfl (ex_assign (hF.ev rfl)) hK
   intro fa w46 hΦ hF hC
   obtain ⟨hA, hS, E_w46⟩ := hΦ
   replace hF := hF.cons (hC 4 _ 6 _ rfl rfl rfl)
   clear hA hC
   refine x_tn ?_
   refine c_ret ?_
   have hsg : ¬ (a < 0 ↔ b < 0) := by omega
   refine end3 hF rfl (res_cell hF rfl TfS.row24 (hS.get 3 rfl) rfl) (res_cell hF rfl TfS.row24 (hS.get 2 rfl) rfl) (res_tmp hF rfl) ?_
   exact ⟨_, rfl, ⟨_, _, _, rfl, (IntV.fin (x := (sgnv ((decide (a < 0)) != (decide (b < 0))) (val qs_25)) - (((1 : Int)))) ⟨_, rfl, _, _, rfl, (huo6_2_6.ext E_w46)⟩ ((dm_turn hb0 hdv hdl (by omega) hsg).1) (fun x hx => by simp [hx])), (IntV.fin (x := (sgnv (decide (a < 0)) (val rs_26)) + b) ⟨_, rfl, _, _, rfl, (huo6_5_6.ext E_w46)⟩ (by rw [if_neg hb0]; exact (dm_turn hb0 hdv hdl (by omega) hsg).2) (fun x hx => by simp [hx])), (congrArg (Value.int .i64) (by rw [if_neg hb0]))⟩, hS.below⟩
  have hc44p : ¬ (¬ (((sgnv (decide (a < 0)) (val rs_26)) < 0) ↔ (b < 0))) := by first | simpa using hc44 | exact bang_t hc44 | exact bang_f hc44
  refine c_skip ?_
  refine x_tn ?_
  refine c_seq ?_
  refine drawn2 (N := 55) (L0 := [(0, (.agg (ic (A_a) (c_a) (a)))), (1, (.agg (ic (A_b) (c_b) (b)))), (2, (.pointer (some ⟨g1, 0, none⟩))), (3, (.pointer (some ⟨g5, 0, none⟩))), (4, (.pointer (some ⟨g9, 0, none⟩))), (5, (.pointer (some ⟨g13, 0, none⟩))), (14, (.bool (decide ((((lim b.natAbs).length : Nat) : Int) = 0)))), (7, (.slice (A27) (qs_25.length) (c28))), (8, (.slice (A30) (rs_26.length) (c31))), (9, (.pointer (some ⟨go4_11_1, 0, none⟩))), (10, (.pointer (some ⟨go4_12_1, 0, none⟩))), (46, (.bool ((decide ((sgnv (decide (a < 0)) (val rs_26)) < 0)) != (decide (b < 0)))))]) [some (.agg (ic (Ao4_6_4) (co4_6_5) ((sgnv ((decide (a < 0)) != (decide (b < 0))) (val qs_25))))), some (.agg (ic (Ao4_10_4) (co4_10_5) ((sgnv (decide (a < 0)) (val rs_26))))), none, none, some (.int .i64 (0))] [2, 3] [[], [2], [2, 3]] [[0], [0, 1], [0], [1], [2]] 2 [
        fun fa w' => Frm 55 fa [] ∧ St w w' [(go4_12_1, 24, (ic (Ao4_10_4) (co4_10_5) ((sgnv (decide (a < 0)) (val rs_26))))), (go4_11_1, 24, (ic (Ao4_6_4) (co4_6_5) ((sgnv ((decide (a < 0)) != (decide (b < 0))) (val qs_25))))), (g13, 24, #[(.bool (false)), (.slice (none) (0) (0))]), (g9, 24, #[(.bool (false)), (.slice (none) (0) (0))]), (g5, 24, (ic (A_b) (c_b) (b))), (g1, 24, (ic (A_a) (c_a) (a)))] ∧ Ext w42 (go4_12_1 :: (go4_11_1 :: (g13 :: (g9 :: (g5 :: (g1 :: X)))))) w' (go4_12_1 :: (go4_11_1 :: (g13 :: (g9 :: (g5 :: (g1 :: X))))))
        , fun fa w' => Frm 55 fa [] ∧ St w w' [(go4_12_1, 24, (ic (Ao4_10_4) (co4_10_5) ((sgnv (decide (a < 0)) (val rs_26))))), (go4_11_1, 24, (ic (Ao4_6_4) (co4_6_5) ((sgnv ((decide (a < 0)) != (decide (b < 0))) (val qs_25))))), (g13, 24, #[(.bool (false)), (.slice (none) (0) (0))]), (g9, 24, (ic (Ao4_6_4) (co4_6_5) ((sgnv ((decide (a < 0)) != (decide (b < 0))) (val qs_25))))), (g5, 24, (ic (A_b) (c_b) (b))), (g1, 24, (ic (A_a) (c_a) (a)))] ∧ Ext w42 (go4_12_1 :: (go4_11_1 :: (g13 :: (g9 :: (g5 :: (g1 :: X)))))) w' (go4_12_1 :: (go4_11_1 :: (g13 :: (g9 :: (g5 :: (g1 :: X))))))
        , fun fa w' => Frm 55 fa [] ∧ St w w' [(go4_12_1, 24, (ic (Ao4_10_4) (co4_10_5) ((sgnv (decide (a < 0)) (val rs_26))))), (go4_11_1, 24, (ic (Ao4_6_4) (co4_6_5) ((sgnv ((decide (a < 0)) != (decide (b < 0))) (val qs_25))))), (g13, 24, (ic (Ao4_10_4) (co4_10_5) ((sgnv (decide (a < 0)) (val rs_26))))), (g9, 24, (ic (Ao4_6_4) (co4_6_5) ((sgnv ((decide (a < 0)) != (decide (b < 0))) (val qs_25))))), (g5, 24, (ic (A_b) (c_b) (b))), (g1, 24, (ic (A_a) (c_a) (a)))] ∧ Ext w42 (go4_12_1 :: (go4_11_1 :: (g13 :: (g9 :: (g5 :: (g1 :: X)))))) w' (go4_12_1 :: (go4_11_1 :: (g13 :: (g9 :: (g5 :: (g1 :: X))))))
      ] TfS.mixed rfl rfl rfl rfl rfl rfl (hF.take (hF.take (hF.take (hF.take (hF.take (hF.take (hF.take (hF.take (hF.take (hF.take (hF.take (hF.take hF.nil rfl) rfl) rfl) rfl) rfl) rfl) rfl) rfl) rfl) rfl) rfl) rfl) rfl ⟨hF.nil, hS.drew, Ext.drew _ _⟩ ?_ ?_ ?_
  all_goals clear hF fa
  ·
   refine ⟨?_, ?_, ?_, trivial⟩
   ·
    rintro fa w' i o d v ho hd hna ⟨hA, hR⟩; exact ⟨hA.put_other v (freeOf_at (acts := [2, 3]) rfl ho hd hna), hR⟩
   ·
    rintro fa w' i o d v ho hd hna ⟨hA, hR⟩; exact ⟨hA.put_other v (freeOf_at (acts := [2, 3]) rfl ho hd hna), hR⟩
   ·
    rintro fa w' i o d v ho hd hna ⟨hA, hR⟩; exact ⟨hA.put_other v (freeOf_at (acts := [2, 3]) rfl ho hd hna), hR⟩
  ·
   refine ⟨?_, ?_, ?_, ?_, ?_, trivial⟩
   ·
    refine .inr (.inl ⟨rfl, _, _, rfl, rfl, ?_, trivial⟩)
    ·
     intro fa w' hΦ hF hB K hK
     obtain ⟨hA, hS, E_w'⟩ := hΦ
     exact fl_val rfl rfl rfl (ex_loadb TfS.row24 (hF.ev rfl) (hS.get 1 rfl) rfl) hK
   ·
    refine .inr (.inl ⟨rfl, _, _, rfl, rfl, ?_, ?_, trivial⟩)
    ·
     intro fa w' hΦ hF hB K hK
     obtain ⟨hA, hS, E_w'⟩ := hΦ
     exact fl_val rfl rfl rfl (ex_loadb TfS.row24 (hF.ev rfl) (hS.get 0 rfl) rfl) hK
    ·
     intro fa w' hΦ hF hB K hK
     obtain ⟨hA, hS, E_w'⟩ := hΦ
     exact fl_val rfl rfl rfl (ex_loadb TfS.row24 (hF.ev rfl) (hS.get 0 rfl) rfl) hK
   ·
    refine .inr (.inr ⟨rfl, ?_, trivial⟩)
    ·
     intro fa w' hΦ hF hB
     obtain ⟨hA, hS, E_w'⟩ := hΦ
     replace hF := hF.cons (hB.val 0 _ 53 _ rfl rfl rfl rfl)
     refine wop rfl rfl ?_
     refine op_store (X := (go4_12_1 :: (go4_11_1 :: (g13 :: (g9 :: (g5 :: (g1 :: X))))))) hF hS 3 rfl (by simp) rfl rfl rfl TfS.size24 rfl (Nat.le_of_ble_eq_true rfl) ?_
     intro wo7_2_1 hS Eo7_2_2
     replace hS : St w wo7_2_1 [(go4_12_1, 24, (ic (Ao4_10_4) (co4_10_5) ((sgnv (decide (a < 0)) (val rs_26))))), (go4_11_1, 24, (ic (Ao4_6_4) (co4_6_5) ((sgnv ((decide (a < 0)) != (decide (b < 0))) (val qs_25))))), (g13, 24, #[(.bool (false)), (.slice (none) (0) (0))]), (g9, 24, (ic (Ao4_6_4) (co4_6_5) ((sgnv ((decide (a < 0)) != (decide (b < 0))) (val qs_25))))), (g5, 24, (ic (A_b) (c_b) (b))), (g1, 24, (ic (A_a) (c_a) (a)))] := hS
     exact ⟨1, rfl, ⟨hA, hS, (E_w'.trans Eo7_2_2)⟩, undef, rfl, fun u hu => by cases hu <;> rfl⟩
   ·
    refine .inr (.inr ⟨rfl, ?_, trivial⟩)
    ·
     intro fa w' hΦ hF hB
     obtain ⟨hA, hS, E_w'⟩ := hΦ
     replace hF := hF.cons (hB.val 1 _ 54 _ rfl rfl rfl rfl)
     refine wop rfl rfl ?_
     refine op_store (X := (go4_12_1 :: (go4_11_1 :: (g13 :: (g9 :: (g5 :: (g1 :: X))))))) hF hS 2 rfl (by simp) rfl rfl rfl TfS.size24 rfl (Nat.le_of_ble_eq_true rfl) ?_
     intro wo7_3_1 hS Eo7_3_2
     replace hS : St w wo7_3_1 [(go4_12_1, 24, (ic (Ao4_10_4) (co4_10_5) ((sgnv (decide (a < 0)) (val rs_26))))), (go4_11_1, 24, (ic (Ao4_6_4) (co4_6_5) ((sgnv ((decide (a < 0)) != (decide (b < 0))) (val qs_25))))), (g13, 24, (ic (Ao4_10_4) (co4_10_5) ((sgnv (decide (a < 0)) (val rs_26))))), (g9, 24, (ic (Ao4_6_4) (co4_6_5) ((sgnv ((decide (a < 0)) != (decide (b < 0))) (val qs_25))))), (g5, 24, (ic (A_b) (c_b) (b))), (g1, 24, (ic (A_a) (c_a) (a)))] := hS
     exact ⟨2, rfl, ⟨hA, hS, (E_w'.trans Eo7_3_2)⟩, undef, rfl, fun u hu => by cases hu <;> rfl⟩
   ·
    refine .inl ⟨rfl, _, _, rfl, rfl, fun s fa w' hΦ hF hB K hK => ?_⟩
    exact fl_val rfl rfl rfl (ex_assign (hF.ev rfl)) hK
  intro fa w47 hΦ hF hC
  obtain ⟨hA, hS, E_w47⟩ := hΦ
  replace hF := hF.cons (hC 4 _ 6 _ rfl rfl rfl)
  clear hA hC
  refine x_tn ?_
  refine c_ret ?_
  refine end3 hF rfl (res_cell hF rfl TfS.row24 (hS.get 3 rfl) rfl) (res_cell hF rfl TfS.row24 (hS.get 2 rfl) rfl) (res_tmp hF rfl) ?_
  exact ⟨_, rfl, ⟨_, _, _, rfl, (IntV.fin (x := sgnv ((decide (a < 0)) != (decide (b < 0))) (val qs_25)) ⟨_, rfl, _, _, rfl, (huo4_6_6.ext E_w47)⟩ ((dm_keep hb0 hdv hdl (.inr (by omega))).1) (fun x hx => by simp [hx])), (IntV.fin (x := sgnv (decide (a < 0)) (val rs_26)) ⟨_, rfl, _, _, rfl, (huo4_10_6.ext E_w47)⟩ (by rw [if_neg hb0]; exact (dm_keep hb0 hdv hdl (.inr (by omega))).2) (fun x hx => by simp [hx])), (congrArg (Value.int .i64) (by rw [if_neg hb0]))⟩, hS.below⟩
 replace hF := hF.cons (t := 40) (v := .bool false) ((hF.get 40 _ rfl).trans (congrArg Value.bool hg43))
 have hg43p : ¬ ((((lim (sgnv (decide (a < 0)) (val rs_26)).natAbs).length : Nat) : Int) > 0) := by simpa using hg43
 refine st_skip hF rfl rfl rfl rfl rfl ?_
 clear hF fa; intro fa hF
 refine st_skip hF rfl rfl rfl rfl rfl ?_
 clear hF fa; intro fa hF
 refine st_skip hF rfl rfl rfl rfl rfl ?_
 clear hF fa; intro fa hF
 refine st_skip hF rfl rfl rfl rfl rfl ?_
 clear hF fa; intro fa hF
 refine st_skip hF rfl rfl rfl rfl rfl ?_
 clear hF fa; intro fa hF
 refine st_val hF rfl rfl rfl (ex_pick (hF.ev rfl) (u := undef) (fun h => by cases h) (fun _ => hF.ev rfl) rfl) ?_
 clear hF fa; intro fa hF
 replace hF : Frm 55 fa [(0, (.agg (ic (A_a) (c_a) (a)))), (1, (.agg (ic (A_b) (c_b) (b)))), (2, (.pointer (some ⟨g1, 0, none⟩))), (3, (.pointer (some ⟨g5, 0, none⟩))), (4, (.pointer (some ⟨g9, 0, none⟩))), (5, (.pointer (some ⟨g13, 0, none⟩))), (6, (.int .i64 (0))), (14, (.bool (decide ((((lim b.natAbs).length : Nat) : Int) = 0)))), (7, (.slice (A27) (qs_25.length) (c28))), (8, (.slice (A30) (rs_26.length) (c31))), (9, (.pointer (some ⟨go4_11_1, 0, none⟩))), (10, (.pointer (some ⟨go4_12_1, 0, none⟩))), (46, (.bool (false)))] := (hF.take (hF.take (hF.take (hF.take (hF.take (hF.take (hF.take (hF.take (hF.take (hF.take (hF.take (hF.take (hF.take hF.nil rfl) rfl) rfl) rfl) rfl) rfl) rfl) rfl) rfl) rfl) rfl) rfl) rfl)
 refine c_nil_then ?_
 refine c_cond hF rfl (fun hc => ?_) (fun hc => ?_)
 ·
  cases hc
 refine c_skip ?_
 refine x_tn ?_
 refine c_seq ?_
 refine drawn2 (N := 55) (L0 := [(0, (.agg (ic (A_a) (c_a) (a)))), (1, (.agg (ic (A_b) (c_b) (b)))), (2, (.pointer (some ⟨g1, 0, none⟩))), (3, (.pointer (some ⟨g5, 0, none⟩))), (4, (.pointer (some ⟨g9, 0, none⟩))), (5, (.pointer (some ⟨g13, 0, none⟩))), (14, (.bool (decide ((((lim b.natAbs).length : Nat) : Int) = 0)))), (7, (.slice (A27) (qs_25.length) (c28))), (8, (.slice (A30) (rs_26.length) (c31))), (9, (.pointer (some ⟨go4_11_1, 0, none⟩))), (10, (.pointer (some ⟨go4_12_1, 0, none⟩))), (46, (.bool (false)))]) [some (.agg (ic (Ao4_6_4) (co4_6_5) ((sgnv ((decide (a < 0)) != (decide (b < 0))) (val qs_25))))), some (.agg (ic (Ao4_10_4) (co4_10_5) ((sgnv (decide (a < 0)) (val rs_26))))), none, none, some (.int .i64 (0))] [2, 3] [[], [2], [2, 3]] [[0], [0, 1], [0], [1], [2]] 2 [
       fun fa w' => Frm 55 fa [] ∧ St w w' [(go4_12_1, 24, (ic (Ao4_10_4) (co4_10_5) ((sgnv (decide (a < 0)) (val rs_26))))), (go4_11_1, 24, (ic (Ao4_6_4) (co4_6_5) ((sgnv ((decide (a < 0)) != (decide (b < 0))) (val qs_25))))), (g13, 24, #[(.bool (false)), (.slice (none) (0) (0))]), (g9, 24, #[(.bool (false)), (.slice (none) (0) (0))]), (g5, 24, (ic (A_b) (c_b) (b))), (g1, 24, (ic (A_a) (c_a) (a)))] ∧ Ext w42 (go4_12_1 :: (go4_11_1 :: (g13 :: (g9 :: (g5 :: (g1 :: X)))))) w' (go4_12_1 :: (go4_11_1 :: (g13 :: (g9 :: (g5 :: (g1 :: X))))))
       , fun fa w' => Frm 55 fa [] ∧ St w w' [(go4_12_1, 24, (ic (Ao4_10_4) (co4_10_5) ((sgnv (decide (a < 0)) (val rs_26))))), (go4_11_1, 24, (ic (Ao4_6_4) (co4_6_5) ((sgnv ((decide (a < 0)) != (decide (b < 0))) (val qs_25))))), (g13, 24, #[(.bool (false)), (.slice (none) (0) (0))]), (g9, 24, (ic (Ao4_6_4) (co4_6_5) ((sgnv ((decide (a < 0)) != (decide (b < 0))) (val qs_25))))), (g5, 24, (ic (A_b) (c_b) (b))), (g1, 24, (ic (A_a) (c_a) (a)))] ∧ Ext w42 (go4_12_1 :: (go4_11_1 :: (g13 :: (g9 :: (g5 :: (g1 :: X)))))) w' (go4_12_1 :: (go4_11_1 :: (g13 :: (g9 :: (g5 :: (g1 :: X))))))
       , fun fa w' => Frm 55 fa [] ∧ St w w' [(go4_12_1, 24, (ic (Ao4_10_4) (co4_10_5) ((sgnv (decide (a < 0)) (val rs_26))))), (go4_11_1, 24, (ic (Ao4_6_4) (co4_6_5) ((sgnv ((decide (a < 0)) != (decide (b < 0))) (val qs_25))))), (g13, 24, (ic (Ao4_10_4) (co4_10_5) ((sgnv (decide (a < 0)) (val rs_26))))), (g9, 24, (ic (Ao4_6_4) (co4_6_5) ((sgnv ((decide (a < 0)) != (decide (b < 0))) (val qs_25))))), (g5, 24, (ic (A_b) (c_b) (b))), (g1, 24, (ic (A_a) (c_a) (a)))] ∧ Ext w42 (go4_12_1 :: (go4_11_1 :: (g13 :: (g9 :: (g5 :: (g1 :: X)))))) w' (go4_12_1 :: (go4_11_1 :: (g13 :: (g9 :: (g5 :: (g1 :: X))))))
     ] TfS.mixed rfl rfl rfl rfl rfl rfl (hF.take (hF.take (hF.take (hF.take (hF.take (hF.take (hF.take (hF.take (hF.take (hF.take (hF.take (hF.take hF.nil rfl) rfl) rfl) rfl) rfl) rfl) rfl) rfl) rfl) rfl) rfl) rfl) rfl ⟨hF.nil, hS.drew, Ext.drew _ _⟩ ?_ ?_ ?_
 all_goals clear hF fa
 ·
  refine ⟨?_, ?_, ?_, trivial⟩
  ·
   rintro fa w' i o d v ho hd hna ⟨hA, hR⟩; exact ⟨hA.put_other v (freeOf_at (acts := [2, 3]) rfl ho hd hna), hR⟩
  ·
   rintro fa w' i o d v ho hd hna ⟨hA, hR⟩; exact ⟨hA.put_other v (freeOf_at (acts := [2, 3]) rfl ho hd hna), hR⟩
  ·
   rintro fa w' i o d v ho hd hna ⟨hA, hR⟩; exact ⟨hA.put_other v (freeOf_at (acts := [2, 3]) rfl ho hd hna), hR⟩
 ·
  refine ⟨?_, ?_, ?_, ?_, ?_, trivial⟩
  ·
   refine .inr (.inl ⟨rfl, _, _, rfl, rfl, ?_, trivial⟩)
   ·
    intro fa w' hΦ hF hB K hK
    obtain ⟨hA, hS, E_w'⟩ := hΦ
    exact fl_val rfl rfl rfl (ex_loadb TfS.row24 (hF.ev rfl) (hS.get 1 rfl) rfl) hK
  ·
   refine .inr (.inl ⟨rfl, _, _, rfl, rfl, ?_, ?_, trivial⟩)
   ·
    intro fa w' hΦ hF hB K hK
    obtain ⟨hA, hS, E_w'⟩ := hΦ
    exact fl_val rfl rfl rfl (ex_loadb TfS.row24 (hF.ev rfl) (hS.get 0 rfl) rfl) hK
   ·
    intro fa w' hΦ hF hB K hK
    obtain ⟨hA, hS, E_w'⟩ := hΦ
    exact fl_val rfl rfl rfl (ex_loadb TfS.row24 (hF.ev rfl) (hS.get 0 rfl) rfl) hK
  ·
   refine .inr (.inr ⟨rfl, ?_, trivial⟩)
   ·
    intro fa w' hΦ hF hB
    obtain ⟨hA, hS, E_w'⟩ := hΦ
    replace hF := hF.cons (hB.val 0 _ 53 _ rfl rfl rfl rfl)
    refine wop rfl rfl ?_
    refine op_store (X := (go4_12_1 :: (go4_11_1 :: (g13 :: (g9 :: (g5 :: (g1 :: X))))))) hF hS 3 rfl (by simp) rfl rfl rfl TfS.size24 rfl (Nat.le_of_ble_eq_true rfl) ?_
    intro wo7_2_1 hS Eo7_2_2
    replace hS : St w wo7_2_1 [(go4_12_1, 24, (ic (Ao4_10_4) (co4_10_5) ((sgnv (decide (a < 0)) (val rs_26))))), (go4_11_1, 24, (ic (Ao4_6_4) (co4_6_5) ((sgnv ((decide (a < 0)) != (decide (b < 0))) (val qs_25))))), (g13, 24, #[(.bool (false)), (.slice (none) (0) (0))]), (g9, 24, (ic (Ao4_6_4) (co4_6_5) ((sgnv ((decide (a < 0)) != (decide (b < 0))) (val qs_25))))), (g5, 24, (ic (A_b) (c_b) (b))), (g1, 24, (ic (A_a) (c_a) (a)))] := hS
    exact ⟨1, rfl, ⟨hA, hS, (E_w'.trans Eo7_2_2)⟩, undef, rfl, fun u hu => by cases hu <;> rfl⟩
  ·
   refine .inr (.inr ⟨rfl, ?_, trivial⟩)
   ·
    intro fa w' hΦ hF hB
    obtain ⟨hA, hS, E_w'⟩ := hΦ
    replace hF := hF.cons (hB.val 1 _ 54 _ rfl rfl rfl rfl)
    refine wop rfl rfl ?_
    refine op_store (X := (go4_12_1 :: (go4_11_1 :: (g13 :: (g9 :: (g5 :: (g1 :: X))))))) hF hS 2 rfl (by simp) rfl rfl rfl TfS.size24 rfl (Nat.le_of_ble_eq_true rfl) ?_
    intro wo7_3_1 hS Eo7_3_2
    replace hS : St w wo7_3_1 [(go4_12_1, 24, (ic (Ao4_10_4) (co4_10_5) ((sgnv (decide (a < 0)) (val rs_26))))), (go4_11_1, 24, (ic (Ao4_6_4) (co4_6_5) ((sgnv ((decide (a < 0)) != (decide (b < 0))) (val qs_25))))), (g13, 24, (ic (Ao4_10_4) (co4_10_5) ((sgnv (decide (a < 0)) (val rs_26))))), (g9, 24, (ic (Ao4_6_4) (co4_6_5) ((sgnv ((decide (a < 0)) != (decide (b < 0))) (val qs_25))))), (g5, 24, (ic (A_b) (c_b) (b))), (g1, 24, (ic (A_a) (c_a) (a)))] := hS
    exact ⟨2, rfl, ⟨hA, hS, (E_w'.trans Eo7_3_2)⟩, undef, rfl, fun u hu => by cases hu <;> rfl⟩
  ·
   refine .inl ⟨rfl, _, _, rfl, rfl, fun s fa w' hΦ hF hB K hK => ?_⟩
   exact fl_val rfl rfl rfl (ex_assign (hF.ev rfl)) hK
 intro fa w48 hΦ hF hC
 obtain ⟨hA, hS, E_w48⟩ := hΦ
 replace hF := hF.cons (hC 4 _ 6 _ rfl rfl rfl)
 clear hA hC
 refine x_tn ?_
 refine c_ret ?_
 refine end3 hF rfl (res_cell hF rfl TfS.row24 (hS.get 3 rfl) rfl) (res_cell hF rfl TfS.row24 (hS.get 2 rfl) rfl) (res_tmp hF rfl) ?_
 exact ⟨_, rfl, ⟨_, _, _, rfl, (IntV.fin (x := sgnv ((decide (a < 0)) != (decide (b < 0))) (val qs_25)) ⟨_, rfl, _, _, rfl, (huo4_6_6.ext E_w48)⟩ ((dm_keep hb0 hdv hdl (.inl (by omega))).1) (fun x hx => by simp [hx])), (IntV.fin (x := sgnv (decide (a < 0)) (val rs_26)) ⟨_, rfl, _, _, rfl, (huo4_10_6.ext E_w48)⟩ (by rw [if_neg hb0]; exact (dm_keep hb0 hdv hdl (.inl (by omega))).2) (fun x hx => by simp [hx])), (congrArg (Value.int .i64) (by rw [if_neg hb0]))⟩, hS.below⟩

end Go.Proofs.Ytlaojdpcfenlkaa
