/-
  What the functions IntegerGCD#bad, IntegerGCD do, each call by call.
  Conditions: none.
-/
import Derived.Test.YtlaojdpcfenlkaaChecked
import Derived.Test.YtlaojdpcfenlkaaSwBaseM
import Derived.Test.YtlaojdpcfenlkaaWH
import Derived.Test.YtlaojdpcfenlkaaWI
import Derived.Test.YtlaojdpcfenlkaaWN
import Derived.Test.YtlaojdpcfenlkaaWP
import Derived.Test.YtlaojdpcfenlkaaWS
import Derived.Test.YtlaojdpcfenlkaaWT
import Derived.Test.YtlaojdpcfenlkaaWU
import Derived.Test.YtlaojdpcfenlkaaWY
import Derived.Test.YtlaojdpcfenlkaaWPG
namespace Go.Proofs.Ytlaojdpcfenlkaa
open Go Go.RowKit Go.Sw
set_option linter.unusedVariables false
namespace TfLG
theorem body11 : hasBody Try.prog 11 = true := by kernel_rfl
theorem body13 : hasBody Try.prog 13 = true := by kernel_rfl
theorem body14 : hasBody Try.prog 14 = true := by kernel_rfl
theorem body15 : hasBody Try.prog 15 = true := by kernel_rfl
theorem body16 : hasBody Try.prog 16 = true := by kernel_rfl
theorem body19 : hasBody Try.prog 19 = true := by kernel_rfl
theorem body21 : hasBody Try.prog 21 = true := by kernel_rfl
theorem body22 : hasBody Try.prog 22 = true := by kernel_rfl
theorem body23 : hasBody Try.prog 23 = true := by kernel_rfl
theorem body24 : hasBody Try.prog 24 = true := by kernel_rfl
theorem mixed : Try.prog.follows .mixedOrders = true := by kernel_rfl
theorem row24 : isRow Try.prog 24 2 = true := by kernel_rfl
theorem size24 : (Try.prog.info? 24).map (fun i => i.size) = some 2 := by kernel_rfl
theorem zero24 : zeroOf Try.prog 24 = some #[.bool false, .slice none 0 0] := by kernel_rfl
end TfLG
set_option maxHeartbeats 4000000 in
theorem swarflaw01_IntegerGCD_bad_ok {w : World} {X : List Nat} (hX : ∀ m ∈ X, m < w.heap.size) {v_na : Value} {na : Bool} {la : List Nat} (h_na : RawV w X v_na (na) (la)) {v_nb : Value} {nb : Bool} {lb : List Nat} (h_nb : RawV w X v_nb (nb) (lb)) {v_nc : Value} {nc : Bool} {lc : List Nat} (h_nc : RawV w X v_nc (nc) (lc)) (hbad : ((decide ((la.length : Int) ≤ 6) && validL na la) && (decide ((lb.length : Int) ≤ 6) && validL nb lb) && (decide ((lc.length : Int) ≤ 6) && validL nc lc)) = false) :
    Calls Try.prog 4 #[v_na, v_nb, v_nc] w (Ret fun r w' => (r = .bool (true)) ∧ Below w.heap.size w w') := by
 refine enter (N := 103) (fn := Try.f4) (vs := [v_na, v_nb, v_nc]) Try.func4 rfl rfl rfl ?_
 intro fa hF
 obtain ⟨_, rfl, A_la, c_la, rfl, hu_la⟩ := h_na
 have hl_la := hu_la.len; have hc_la := hu_la.cap
 obtain ⟨_, rfl, A_lb, c_lb, rfl, hu_lb⟩ := h_nb
 have hl_lb := hu_lb.len; have hc_lb := hu_lb.cap
 obtain ⟨_, rfl, A_lc, c_lc, rfl, hu_lc⟩ := h_nc
 have hl_lc := hu_lc.len; have hc_lc := hu_lc.cap
 replace hF : Frm 103 fa [(0, (.agg #[(.bool (na)), (.slice (A_la) (la.length) (c_la))])), (1, (.agg #[(.bool (nb)), (.slice (A_lb) (lb.length) (c_lb))])), (2, (.agg #[(.bool (nc)), (.slice (A_lc) (lc.length) (c_lc))]))] := hF
 have hS := St.refl w
 refine c_seq ?_
 refine c_reg ?_
 refine st rfl (op_box (X := X) hF hS rfl rfl rfl ?_)
 intro g1 w2 hg4 hS E3; refine gen_ ?_; clear hF fa; intro fa hF
 replace hS : St w w2 [(g1, 24, #[(.bool (na)), (.slice (A_la) (la.length) (c_la))])] := hS
 refine st rfl (op_box (X := (g1 :: X)) hF hS rfl rfl rfl ?_)
 intro g5 w6 hg8 hS E7; refine gen_ ?_; clear hF fa; intro fa hF
 replace hS : St w w6 [(g5, 24, #[(.bool (nb)), (.slice (A_lb) (lb.length) (c_lb))]), (g1, 24, #[(.bool (na)), (.slice (A_la) (la.length) (c_la))])] := hS
 refine st rfl (op_box (X := (g5 :: (g1 :: X))) hF hS rfl rfl rfl ?_)
 intro g9 w10 hg12 hS E11; refine gen_ ?_; clear hF fa; intro fa hF
 replace hS : St w w10 [(g9, 24, #[(.bool (nc)), (.slice (A_lc) (lc.length) (c_lc))]), (g5, 24, #[(.bool (nb)), (.slice (A_lb) (lb.length) (c_lb))]), (g1, 24, #[(.bool (na)), (.slice (A_la) (la.length) (c_la))])] := hS
 refine st_val hF rfl rfl rfl (ex_assign (hF.ev rfl)) ?_
 clear hF fa; intro fa hF
 refine c_nil_then ?_
 refine c_seq ?_
 refine c_seq ?_
 refine c_reg ?_
 have hC := law01_awake_ok (w := w10) (X := (g9 :: (g5 :: (g1 :: X)))) (hS.bnd hX) 
 refine st rfl (op_call hF rfl TfLG.body11 (args0) hC ?_)
 clear hC
 rintro _ w13 ⟨rfl, hb14⟩
 refine gen_ ?_; clear hF fa; intro fa hF
 replace hS := hS.call hb14; have E15 := Ext.call (g9 :: (g5 :: (g1 :: X))) hb14
 refine st_val hF rfl rfl rfl (ex_not (hF.ev rfl)) ?_
 clear hF fa; intro fa hF
 refine st_val hF rfl rfl rfl (ex_move (hF.ev rfl)) ?_
 clear hF fa; intro fa hF
 refine stg_val hF rfl rfl rfl rfl (ex_loadb TfLG.row24 (hF.ev rfl) (hS.get 2 rfl) rfl) ?_
 clear hF fa; intro fa hF
 have hC := ref01_Small_ok (w := w13) (X := (g9 :: (g5 :: (g1 :: X)))) (ng := na) (l := la) (hS.bnd hX) ⟨_, rfl, _, _, rfl, (hu_la.ext (((E3.trans E7).trans E11).trans E15))⟩ 6
 refine stg hF rfl rfl (op_call hF rfl TfLG.body22 (args2 (hF.ev rfl) (hF.ev rfl)) hC ?_)
 clear hC
 rintro _ w16 ⟨rfl, hb17⟩
 refine gen_ ?_; clear hF fa; intro fa hF
 replace hS := hS.call hb17; have E18 := Ext.call (g9 :: (g5 :: (g1 :: X))) hb17
 refine stg_val hF rfl rfl rfl rfl (ex_not (hF.ev rfl)) ?_
 clear hF fa; intro fa hF
 refine st_val hF rfl rfl rfl (ex_pick (hF.ev rfl) (u := undef) (fun h => by cases h) (fun _ => hF.ev rfl) rfl) ?_
 clear hF fa; intro fa hF
 refine st_val hF rfl rfl rfl (ex_move (hF.ev rfl)) ?_
 clear hF fa; intro fa hF
 rcases Bool.eq_false_or_eq_true (!(decide (((la.length : Nat) : Int) ≤ ((6 : Int))) && validL na la)) with hg19 | hg19
 ·
  replace hF := hF.cons (t := 23) (v := .bool true) ((hF.get 23 _ rfl).trans (congrArg Value.bool hg19))
  have hg19p : ¬ ((decide (((la.length : Nat) : Int) ≤ ((6 : Int))) && validL na la) = true) := by first | simpa using hg19 | exact bang_t hg19 | exact bang_f hg19
  refine st_skip hF rfl rfl rfl rfl rfl ?_
  clear hF fa; intro fa hF
  refine st_skip hF rfl rfl rfl rfl rfl ?_
  clear hF fa; intro fa hF
  refine st_skip hF rfl rfl rfl rfl rfl ?_
  clear hF fa; intro fa hF
  refine st_val hF rfl rfl rfl (ex_pick (hF.ev rfl) (fun _ => hF.ev rfl) (v := undef) (fun h => by cases h) rfl) ?_
  clear hF fa; intro fa hF
  refine st_val hF rfl rfl rfl (ex_move (hF.ev rfl)) ?_
  clear hF fa; intro fa hF
  refine st_skip hF rfl rfl rfl rfl rfl ?_
  clear hF fa; intro fa hF
  refine st_skip hF rfl rfl rfl rfl rfl ?_
  clear hF fa; intro fa hF
  refine st_skip hF rfl rfl rfl rfl rfl ?_
  clear hF fa; intro fa hF
  refine st_val hF rfl rfl rfl (ex_pick (hF.ev rfl) (fun _ => hF.ev rfl) (v := undef) (fun h => by cases h) rfl) ?_
  clear hF fa; intro fa hF
  replace hF : Frm 103 fa [(0, (.agg #[(.bool (na)), (.slice (A_la) (la.length) (c_la))])), (1, (.agg #[(.bool (nb)), (.slice (A_lb) (lb.length) (c_lb))])), (2, (.agg #[(.bool (nc)), (.slice (A_lc) (lc.length) (c_lc))])), (3, (.pointer (some ⟨g1, 0, none⟩))), (4, (.pointer (some ⟨g5, 0, none⟩))), (5, (.pointer (some ⟨g9, 0, none⟩))), (6, (.bool (false))), (32, (.bool (true)))] := (hF.take (hF.take (hF.take (hF.take (hF.take (hF.take (hF.take (hF.take hF.nil rfl) rfl) rfl) rfl) rfl) rfl) rfl) rfl)
  refine c_nil_then ?_
  refine c_cond hF rfl (fun hc => ?_) (fun hc => ?_)
  rotate_left
  ·
   cases hc
  refine c_seq ?_
  refine c_reg ?_
  have hC := law01_awake_ok (w := w16) (X := (g9 :: (g5 :: (g1 :: X)))) (hS.bnd hX) 
  refine st rfl (op_call hF rfl TfLG.body11 (args0) hC ?_)
  clear hC
  rintro _ w20 ⟨rfl, hb21⟩
  refine gen_ ?_; clear hF fa; intro fa hF
  replace hS := hS.call hb21; have E22 := Ext.call (g9 :: (g5 :: (g1 :: X))) hb21
  refine st_val hF rfl rfl rfl (ex_assign (hF.ev rfl)) ?_
  clear hF fa; intro fa hF
  refine c_nil_then ?_
  refine c_ret ?_
  refine x_tr ?_
  refine end1 hF rfl (res_tmp hF rfl) ?_
  exact ⟨_, rfl, (congrArg Value.bool (by simp_all)), hS.below⟩
 replace hF := hF.cons (t := 23) (v := .bool false) ((hF.get 23 _ rfl).trans (congrArg Value.bool hg19))
 have hg19p : ¬ (¬ ((decide (((la.length : Nat) : Int) ≤ ((6 : Int))) && validL na la) = true)) := by first | simpa using hg19 | exact bang_t hg19 | exact bang_f hg19
 refine stg_val hF rfl rfl rfl rfl (ex_loadb TfLG.row24 (hF.ev rfl) (hS.get 1 rfl) rfl) ?_
 clear hF fa; intro fa hF
 have hC := ref01_Small_ok (w := w16) (X := (g9 :: (g5 :: (g1 :: X)))) (ng := nb) (l := lb) (hS.bnd hX) ⟨_, rfl, _, _, rfl, (hu_lb.ext ((((E3.trans E7).trans E11).trans E15).trans E18))⟩ 6
 refine stg hF rfl rfl (op_call hF rfl TfLG.body22 (args2 (hF.ev rfl) (hF.ev rfl)) hC ?_)
 clear hC
 rintro _ w23 ⟨rfl, hb24⟩
 refine gen_ ?_; clear hF fa; intro fa hF
 replace hS := hS.call hb24; have E25 := Ext.call (g9 :: (g5 :: (g1 :: X))) hb24
 refine stg_val hF rfl rfl rfl rfl (ex_not (hF.ev rfl)) ?_
 clear hF fa; intro fa hF
 refine st_val hF rfl rfl rfl (ex_pick (hF.ev rfl) (u := undef) (fun h => by cases h) (fun _ => hF.ev rfl) rfl) ?_
 clear hF fa; intro fa hF
 refine st_val hF rfl rfl rfl (ex_move (hF.ev rfl)) ?_
 clear hF fa; intro fa hF
 rcases Bool.eq_false_or_eq_true (!(decide (((lb.length : Nat) : Int) ≤ ((6 : Int))) && validL nb lb)) with hg26 | hg26
 ·
  replace hF := hF.cons (t := 28) (v := .bool true) ((hF.get 28 _ rfl).trans (congrArg Value.bool hg26))
  have hg26p : ¬ ((decide (((lb.length : Nat) : Int) ≤ ((6 : Int))) && validL nb lb) = true) := by first | simpa using hg26 | exact bang_t hg26 | exact bang_f hg26
  refine st_skip hF rfl rfl rfl rfl rfl ?_
  clear hF fa; intro fa hF
  refine st_skip hF rfl rfl rfl rfl rfl ?_
  clear hF fa; intro fa hF
  refine st_skip hF rfl rfl rfl rfl rfl ?_
  clear hF fa; intro fa hF
  refine st_val hF rfl rfl rfl (ex_pick (hF.ev rfl) (fun _ => hF.ev rfl) (v := undef) (fun h => by cases h) rfl) ?_
  clear hF fa; intro fa hF
  replace hF : Frm 103 fa [(0, (.agg #[(.bool (na)), (.slice (A_la) (la.length) (c_la))])), (1, (.agg #[(.bool (nb)), (.slice (A_lb) (lb.length) (c_lb))])), (2, (.agg #[(.bool (nc)), (.slice (A_lc) (lc.length) (c_lc))])), (3, (.pointer (some ⟨g1, 0, none⟩))), (4, (.pointer (some ⟨g5, 0, none⟩))), (5, (.pointer (some ⟨g9, 0, none⟩))), (6, (.bool (false))), (32, (.bool (true)))] := (hF.take (hF.take (hF.take (hF.take (hF.take (hF.take (hF.take (hF.take hF.nil rfl) rfl) rfl) rfl) rfl) rfl) rfl) rfl)
  refine c_nil_then ?_
  refine c_cond hF rfl (fun hc => ?_) (fun hc => ?_)
  rotate_left
  ·
   cases hc
  refine c_seq ?_
  refine c_reg ?_
  have hC := law01_awake_ok (w := w23) (X := (g9 :: (g5 :: (g1 :: X)))) (hS.bnd hX) 
  refine st rfl (op_call hF rfl TfLG.body11 (args0) hC ?_)
  clear hC
  rintro _ w27 ⟨rfl, hb28⟩
  refine gen_ ?_; clear hF fa; intro fa hF
  replace hS := hS.call hb28; have E29 := Ext.call (g9 :: (g5 :: (g1 :: X))) hb28
  refine st_val hF rfl rfl rfl (ex_assign (hF.ev rfl)) ?_
  clear hF fa; intro fa hF
  refine c_nil_then ?_
  refine c_ret ?_
  refine x_tr ?_
  refine end1 hF rfl (res_tmp hF rfl) ?_
  exact ⟨_, rfl, (congrArg Value.bool (by simp_all)), hS.below⟩
 replace hF := hF.cons (t := 28) (v := .bool false) ((hF.get 28 _ rfl).trans (congrArg Value.bool hg26))
 have hg26p : ¬ (¬ ((decide (((lb.length : Nat) : Int) ≤ ((6 : Int))) && validL nb lb) = true)) := by first | simpa using hg26 | exact bang_t hg26 | exact bang_f hg26
 refine stg_val hF rfl rfl rfl rfl (ex_loadb TfLG.row24 (hF.ev rfl) (hS.get 0 rfl) rfl) ?_
 clear hF fa; intro fa hF
 have hC := ref01_Small_ok (w := w23) (X := (g9 :: (g5 :: (g1 :: X)))) (ng := nc) (l := lc) (hS.bnd hX) ⟨_, rfl, _, _, rfl, (hu_lc.ext (((((E3.trans E7).trans E11).trans E15).trans E18).trans E25))⟩ 6
 refine stg hF rfl rfl (op_call hF rfl TfLG.body22 (args2 (hF.ev rfl) (hF.ev rfl)) hC ?_)
 clear hC
 rintro _ w30 ⟨rfl, hb31⟩
 refine gen_ ?_; clear hF fa; intro fa hF
 replace hS := hS.call hb31; have E32 := Ext.call (g9 :: (g5 :: (g1 :: X))) hb31
 refine stg_val hF rfl rfl rfl rfl (ex_not (hF.ev rfl)) ?_
 clear hF fa; intro fa hF
 refine st_val hF rfl rfl rfl (ex_pick (hF.ev rfl) (u := undef) (fun h => by cases h) (fun _ => hF.ev rfl) rfl) ?_
 clear hF fa; intro fa hF
 replace hF : Frm 103 fa [(0, (.agg #[(.bool (na)), (.slice (A_la) (la.length) (c_la))])), (1, (.agg #[(.bool (nb)), (.slice (A_lb) (lb.length) (c_lb))])), (2, (.agg #[(.bool (nc)), (.slice (A_lc) (lc.length) (c_lc))])), (3, (.pointer (some ⟨g1, 0, none⟩))), (4, (.pointer (some ⟨g5, 0, none⟩))), (5, (.pointer (some ⟨g9, 0, none⟩))), (6, (.bool (false))), (32, (.bool (!(decide (((lc.length : Nat) : Int) ≤ ((6 : Int))) && validL nc lc))))] := (hF.take (hF.take (hF.take (hF.take (hF.take (hF.take (hF.take (hF.take hF.nil rfl) rfl) rfl) rfl) rfl) rfl) rfl) rfl)
 refine c_nil_then ?_
 refine c_cond hF rfl (fun hc33 => ?_) (fun hc33 => ?_)
 ·
  have hc33p : ¬ ((decide (((lc.length : Nat) : Int) ≤ ((6 : Int))) && validL nc lc) = true) := by first | simpa using hc33 | exact bang_t hc33 | exact bang_f hc33
  refine c_seq ?_
  refine c_reg ?_
  have hC := law01_awake_ok (w := w30) (X := (g9 :: (g5 :: (g1 :: X)))) (hS.bnd hX) 
  refine st rfl (op_call hF rfl TfLG.body11 (args0) hC ?_)
  clear hC
  rintro _ w34 ⟨rfl, hb35⟩
  refine gen_ ?_; clear hF fa; intro fa hF
  replace hS := hS.call hb35; have E36 := Ext.call (g9 :: (g5 :: (g1 :: X))) hb35
  refine st_val hF rfl rfl rfl (ex_assign (hF.ev rfl)) ?_
  clear hF fa; intro fa hF
  refine c_nil_then ?_
  refine c_ret ?_
  refine x_tr ?_
  refine end1 hF rfl (res_tmp hF rfl) ?_
  exact ⟨_, rfl, (congrArg Value.bool (by simp_all)), hS.below⟩
 have hc33p : ¬ (¬ ((decide (((lc.length : Nat) : Int) ≤ ((6 : Int))) && validL nc lc) = true)) := by first | simpa using hc33 | exact bang_t hc33 | exact bang_f hc33
 exact absurd hbad (by simp_all)

set_option maxHeartbeats 4000000 in
theorem law01_IntegerGCD_ok {w : World} {X : List Nat} (hX : ∀ m ∈ X, m < w.heap.size) {v_a : Value} {a : Int} (h_a : IntV w X v_a (a)) {v_b : Value} {b : Int} (h_b : IntV w X v_b (b)) {v_c : Value} {c : Int} (h_c : IntV w X v_c (c)) (hs_a : sz a ≤ 6) (hs_b : sz b ≤ 6) (hs_c : sz c ≤ 6) :
    Calls Try.prog 4 #[v_a, v_b, v_c] w (Ret fun r w' => (r = .bool (true)) ∧ Below w.heap.size w w') := by
 refine enter (N := 103) (fn := Try.f4) (vs := [v_a, v_b, v_c]) Try.func4 rfl rfl rfl ?_
 intro fa hF
 obtain ⟨_, rfl, A_a, c_a, rfl, hu_a⟩ := h_a
 have hl_a := hu_a.len; have hc_a := hu_a.cap
 obtain ⟨_, rfl, A_b, c_b, rfl, hu_b⟩ := h_b
 have hl_b := hu_b.len; have hc_b := hu_b.cap
 obtain ⟨_, rfl, A_c, c_c, rfl, hu_c⟩ := h_c
 have hl_c := hu_c.len; have hc_c := hu_c.cap
 replace hF : Frm 103 fa [(0, (.agg (ic (A_a) (c_a) (a)))), (1, (.agg (ic (A_b) (c_b) (b)))), (2, (.agg (ic (A_c) (c_c) (c))))] := hF
 have hS := St.refl w
 have hs_a0 := hs_a; have hs_b0 := hs_b; have hs_c0 := hs_c; unfold sz at hs_a0 hs_b0 hs_c0
 refine c_seq ?_
 refine c_reg ?_
 refine st rfl (op_box (X := X) hF hS rfl rfl rfl ?_)
 intro g1 w2 hg4 hS E3; refine gen_ ?_; clear hF fa; intro fa hF
 replace hS : St w w2 [(g1, 24, (ic (A_a) (c_a) (a)))] := hS
 refine st rfl (op_box (X := (g1 :: X)) hF hS rfl rfl rfl ?_)
 intro g5 w6 hg8 hS E7; refine gen_ ?_; clear hF fa; intro fa hF
 replace hS : St w w6 [(g5, 24, (ic (A_b) (c_b) (b))), (g1, 24, (ic (A_a) (c_a) (a)))] := hS
 refine st rfl (op_box (X := (g5 :: (g1 :: X))) hF hS rfl rfl rfl ?_)
 intro g9 w10 hg12 hS E11; refine gen_ ?_; clear hF fa; intro fa hF
 replace hS : St w w10 [(g9, 24, (ic (A_c) (c_c) (c))), (g5, 24, (ic (A_b) (c_b) (b))), (g1, 24, (ic (A_a) (c_a) (a)))] := hS
 refine st_val hF rfl rfl rfl (ex_assign (hF.ev rfl)) ?_
 clear hF fa; intro fa hF
 refine c_nil_then ?_
 refine c_seq ?_
 refine c_seq ?_
 refine c_reg ?_
 have hC := law01_awake_ok (w := w10) (X := (g9 :: (g5 :: (g1 :: X)))) (hS.bnd hX) 
 refine st rfl (op_call hF rfl TfLG.body11 (args0) hC ?_)
 clear hC
 rintro _ w13 ⟨rfl, hb14⟩
 refine gen_ ?_; clear hF fa; intro fa hF
 replace hS := hS.call hb14; have E15 := Ext.call (g9 :: (g5 :: (g1 :: X))) hb14
 refine st_val hF rfl rfl rfl (ex_not (hF.ev rfl)) ?_
 clear hF fa; intro fa hF
 refine st_val hF rfl rfl rfl (ex_move (hF.ev rfl)) ?_
 clear hF fa; intro fa hF
 refine stg_val hF rfl rfl rfl rfl (ex_loadb TfLG.row24 (hF.ev rfl) (hS.get 2 rfl) rfl) ?_
 clear hF fa; intro fa hF
 have hC := ref01_Small_ok (w := w13) (X := (g9 :: (g5 :: (g1 :: X)))) (ng := (decide (a < 0))) (l := (lim a.natAbs)) (hS.bnd hX) ⟨_, rfl, _, _, rfl, (hu_a.ext (((E3.trans E7).trans E11).trans E15))⟩ 6
 rw [show (decide (((((lim a.natAbs)).length : Nat) : Int) ≤ ((6 : Int))) && validL (decide (a < 0)) ((lim a.natAbs))) = true from small6 hs_a] at hC
 refine stg hF rfl rfl (op_call hF rfl TfLG.body22 (args2 (hF.ev rfl) (hF.ev rfl)) hC ?_)
 clear hC
 rintro _ w16 ⟨rfl, hb17⟩
 refine gen_ ?_; clear hF fa; intro fa hF
 replace hS := hS.call hb17; have E18 := Ext.call (g9 :: (g5 :: (g1 :: X))) hb17
 refine stg_val hF rfl rfl rfl rfl (ex_not (hF.ev rfl)) ?_
 clear hF fa; intro fa hF
 refine st_val hF rfl rfl rfl (ex_pick (hF.ev rfl) (u := undef) (fun h => by cases h) (fun _ => hF.ev rfl) rfl) ?_
 clear hF fa; intro fa hF
 refine st_val hF rfl rfl rfl (ex_move (hF.ev rfl)) ?_
 clear hF fa; intro fa hF
 refine stg_val hF rfl rfl rfl rfl (ex_loadb TfLG.row24 (hF.ev rfl) (hS.get 1 rfl) rfl) ?_
 clear hF fa; intro fa hF
 have hC := ref01_Small_ok (w := w16) (X := (g9 :: (g5 :: (g1 :: X)))) (ng := (decide (b < 0))) (l := (lim b.natAbs)) (hS.bnd hX) ⟨_, rfl, _, _, rfl, (hu_b.ext ((((E3.trans E7).trans E11).trans E15).trans E18))⟩ 6
 rw [show (decide (((((lim b.natAbs)).length : Nat) : Int) ≤ ((6 : Int))) && validL (decide (b < 0)) ((lim b.natAbs))) = true from small6 hs_b] at hC
 refine stg hF rfl rfl (op_call hF rfl TfLG.body22 (args2 (hF.ev rfl) (hF.ev rfl)) hC ?_)
 clear hC
 rintro _ w19 ⟨rfl, hb20⟩
 refine gen_ ?_; clear hF fa; intro fa hF
 replace hS := hS.call hb20; have E21 := Ext.call (g9 :: (g5 :: (g1 :: X))) hb20
 refine stg_val hF rfl rfl rfl rfl (ex_not (hF.ev rfl)) ?_
 clear hF fa; intro fa hF
 refine st_val hF rfl rfl rfl (ex_pick (hF.ev rfl) (u := undef) (fun h => by cases h) (fun _ => hF.ev rfl) rfl) ?_
 clear hF fa; intro fa hF
 refine st_val hF rfl rfl rfl (ex_move (hF.ev rfl)) ?_
 clear hF fa; intro fa hF
 refine stg_val hF rfl rfl rfl rfl (ex_loadb TfLG.row24 (hF.ev rfl) (hS.get 0 rfl) rfl) ?_
 clear hF fa; intro fa hF
 have hC := ref01_Small_ok (w := w19) (X := (g9 :: (g5 :: (g1 :: X)))) (ng := (decide (c < 0))) (l := (lim c.natAbs)) (hS.bnd hX) ⟨_, rfl, _, _, rfl, (hu_c.ext (((((E3.trans E7).trans E11).trans E15).trans E18).trans E21))⟩ 6
 rw [show (decide (((((lim c.natAbs)).length : Nat) : Int) ≤ ((6 : Int))) && validL (decide (c < 0)) ((lim c.natAbs))) = true from small6 hs_c] at hC
 refine stg hF rfl rfl (op_call hF rfl TfLG.body22 (args2 (hF.ev rfl) (hF.ev rfl)) hC ?_)
 clear hC
 rintro _ w22 ⟨rfl, hb23⟩
 refine gen_ ?_; clear hF fa; intro fa hF
 replace hS := hS.call hb23; have E24 := Ext.call (g9 :: (g5 :: (g1 :: X))) hb23
 refine stg_val hF rfl rfl rfl rfl (ex_not (hF.ev rfl)) ?_
 clear hF fa; intro fa hF
 refine st_val hF rfl rfl rfl (ex_pick (hF.ev rfl) (u := undef) (fun h => by cases h) (fun _ => hF.ev rfl) rfl) ?_
 clear hF fa; intro fa hF
 replace hF : Frm 103 fa [(0, (.agg (ic (A_a) (c_a) (a)))), (1, (.agg (ic (A_b) (c_b) (b)))), (2, (.agg (ic (A_c) (c_c) (c)))), (3, (.pointer (some ⟨g1, 0, none⟩))), (4, (.pointer (some ⟨g5, 0, none⟩))), (5, (.pointer (some ⟨g9, 0, none⟩))), (6, (.bool (false))), (32, (.bool (false)))] := (hF.take (hF.take (hF.take (hF.take (hF.take (hF.take (hF.take (hF.take hF.nil rfl) rfl) rfl) rfl) rfl) rfl) rfl) rfl)
 refine c_nil_then ?_
 refine c_cond hF rfl (fun hc => ?_) (fun hc => ?_)
 ·
  cases hc
 refine c_skip ?_
 refine x_tn ?_
 refine c_seq ?_
 refine drawn2 (N := 103) (L0 := [(0, (.agg (ic (A_a) (c_a) (a)))), (1, (.agg (ic (A_b) (c_b) (b)))), (2, (.agg (ic (A_c) (c_c) (c)))), (3, (.pointer (some ⟨g1, 0, none⟩))), (4, (.pointer (some ⟨g5, 0, none⟩))), (5, (.pointer (some ⟨g9, 0, none⟩))), (6, (.bool (false))), (32, (.bool (false)))]) [some (.agg (ic (A_a) (c_a) (a))), some (.agg (ic (A_c) (c_c) (c))), none, some (.agg (ic (A_b) (c_b) (b))), some (.agg (ic (A_c) (c_c) (c))), none, none, none, none, none] [2, 5, 6, 7, 8, 9] [[], [2], [6], [7], [2, 5], [2, 6], [2, 7], [6, 7], [2, 5, 6], [2, 5, 7], [2, 6, 7], [2, 5, 6, 7], [2, 5, 6, 7, 8], [2, 5, 6, 7, 8, 9]] [[0, 2, 3, 7], [0, 2, 3, 7], [0, 2, 3, 7], [0, 1, 2, 3, 5, 6, 7, 10], [0, 1, 2, 3, 5, 6, 7, 10], [1, 5, 6, 10], [0, 1, 3, 4, 6, 9], [0, 1, 2, 4, 5, 8], [11], [12]] 13 [
       fun fa w' => Frm 103 fa [] ∧ St w w' [(g9, 24, (ic (A_c) (c_c) (c))), (g5, 24, (ic (A_b) (c_b) (b))), (g1, 24, (ic (A_a) (c_a) (a)))] ∧ Ext w22 (g9 :: (g5 :: (g1 :: X))) w' (g9 :: (g5 :: (g1 :: X)))
       , fun fa w' => ∃ Ao3_2_4 : Option Addr, ∃ co3_2_5 : Nat, Frm 103 fa [(36, (.agg (ic (Ao3_2_4) (co3_2_5) ((a * c)))))] ∧ St w w' [(g9, 24, (ic (A_c) (c_c) (c))), (g5, 24, (ic (A_b) (c_b) (b))), (g1, 24, (ic (A_a) (c_a) (a)))] ∧ Ext w22 (g9 :: (g5 :: (g1 :: X))) w' (g9 :: (g5 :: (g1 :: X))) ∧ UC w' (g9 :: (g5 :: (g1 :: X))) Ao3_2_4 co3_2_5 (lim (a * c).natAbs)
       , fun fa w' => ∃ go3_6_1 : Nat, Frm 103 fa [(7, (.pointer (some ⟨go3_6_1, 0, none⟩)))] ∧ St w w' [(go3_6_1, 24, #[(.bool (false)), (.slice (none) (0) (0))]), (g9, 24, (ic (A_c) (c_c) (c))), (g5, 24, (ic (A_b) (c_b) (b))), (g1, 24, (ic (A_a) (c_a) (a)))] ∧ Ext w22 (g9 :: (g5 :: (g1 :: X))) w' (go3_6_1 :: (g9 :: (g5 :: (g1 :: X))))
       , fun fa w' => ∃ go3_7_1 : Nat, Frm 103 fa [(8, (.pointer (some ⟨go3_7_1, 0, none⟩)))] ∧ St w w' [(go3_7_1, 24, #[(.bool (false)), (.slice (none) (0) (0))]), (g9, 24, (ic (A_c) (c_c) (c))), (g5, 24, (ic (A_b) (c_b) (b))), (g1, 24, (ic (A_a) (c_a) (a)))] ∧ Ext w22 (g9 :: (g5 :: (g1 :: X))) w' (go3_7_1 :: (g9 :: (g5 :: (g1 :: X))))
       , fun fa w' => ∃ Ao3_2_4 : Option Addr, ∃ co3_2_5 : Nat, ∃ Ao3_5_4 : Option Addr, ∃ co3_5_5 : Nat, Frm 103 fa [(36, (.agg (ic (Ao3_2_4) (co3_2_5) ((a * c))))), (39, (.agg (ic (Ao3_5_4) (co3_5_5) ((b * c)))))] ∧ St w w' [(g9, 24, (ic (A_c) (c_c) (c))), (g5, 24, (ic (A_b) (c_b) (b))), (g1, 24, (ic (A_a) (c_a) (a)))] ∧ Ext w22 (g9 :: (g5 :: (g1 :: X))) w' (g9 :: (g5 :: (g1 :: X))) ∧ UC w' (g9 :: (g5 :: (g1 :: X))) Ao3_2_4 co3_2_5 (lim (a * c).natAbs) ∧ UC w' (g9 :: (g5 :: (g1 :: X))) Ao3_5_4 co3_5_5 (lim (b * c).natAbs)
       , fun fa w' => ∃ Ao3_2_4 : Option Addr, ∃ co3_2_5 : Nat, ∃ go3_6_1 : Nat, Frm 103 fa [(36, (.agg (ic (Ao3_2_4) (co3_2_5) ((a * c))))), (7, (.pointer (some ⟨go3_6_1, 0, none⟩)))] ∧ St w w' [(go3_6_1, 24, #[(.bool (false)), (.slice (none) (0) (0))]), (g9, 24, (ic (A_c) (c_c) (c))), (g5, 24, (ic (A_b) (c_b) (b))), (g1, 24, (ic (A_a) (c_a) (a)))] ∧ Ext w22 (g9 :: (g5 :: (g1 :: X))) w' (go3_6_1 :: (g9 :: (g5 :: (g1 :: X)))) ∧ UC w' (go3_6_1 :: (g9 :: (g5 :: (g1 :: X)))) Ao3_2_4 co3_2_5 (lim (a * c).natAbs)
       , fun fa w' => ∃ Ao3_2_4 : Option Addr, ∃ co3_2_5 : Nat, ∃ go3_7_1 : Nat, Frm 103 fa [(36, (.agg (ic (Ao3_2_4) (co3_2_5) ((a * c))))), (8, (.pointer (some ⟨go3_7_1, 0, none⟩)))] ∧ St w w' [(go3_7_1, 24, #[(.bool (false)), (.slice (none) (0) (0))]), (g9, 24, (ic (A_c) (c_c) (c))), (g5, 24, (ic (A_b) (c_b) (b))), (g1, 24, (ic (A_a) (c_a) (a)))] ∧ Ext w22 (g9 :: (g5 :: (g1 :: X))) w' (go3_7_1 :: (g9 :: (g5 :: (g1 :: X)))) ∧ UC w' (go3_7_1 :: (g9 :: (g5 :: (g1 :: X)))) Ao3_2_4 co3_2_5 (lim (a * c).natAbs)
       , fun fa w' => ∃ go3_6_1 : Nat, ∃ go3_7_1 : Nat, Frm 103 fa [(7, (.pointer (some ⟨go3_6_1, 0, none⟩))), (8, (.pointer (some ⟨go3_7_1, 0, none⟩)))] ∧ St w w' [(go3_7_1, 24, #[(.bool (false)), (.slice (none) (0) (0))]), (go3_6_1, 24, #[(.bool (false)), (.slice (none) (0) (0))]), (g9, 24, (ic (A_c) (c_c) (c))), (g5, 24, (ic (A_b) (c_b) (b))), (g1, 24, (ic (A_a) (c_a) (a)))] ∧ Ext w22 (g9 :: (g5 :: (g1 :: X))) w' (go3_7_1 :: (go3_6_1 :: (g9 :: (g5 :: (g1 :: X)))))
       , fun fa w' => ∃ Ao3_2_4 : Option Addr, ∃ co3_2_5 : Nat, ∃ Ao3_5_4 : Option Addr, ∃ co3_5_5 : Nat, ∃ go3_6_1 : Nat, Frm 103 fa [(36, (.agg (ic (Ao3_2_4) (co3_2_5) ((a * c))))), (39, (.agg (ic (Ao3_5_4) (co3_5_5) ((b * c))))), (7, (.pointer (some ⟨go3_6_1, 0, none⟩)))] ∧ St w w' [(go3_6_1, 24, #[(.bool (false)), (.slice (none) (0) (0))]), (g9, 24, (ic (A_c) (c_c) (c))), (g5, 24, (ic (A_b) (c_b) (b))), (g1, 24, (ic (A_a) (c_a) (a)))] ∧ Ext w22 (g9 :: (g5 :: (g1 :: X))) w' (go3_6_1 :: (g9 :: (g5 :: (g1 :: X)))) ∧ UC w' (go3_6_1 :: (g9 :: (g5 :: (g1 :: X)))) Ao3_2_4 co3_2_5 (lim (a * c).natAbs) ∧ UC w' (go3_6_1 :: (g9 :: (g5 :: (g1 :: X)))) Ao3_5_4 co3_5_5 (lim (b * c).natAbs)
       , fun fa w' => ∃ Ao3_2_4 : Option Addr, ∃ co3_2_5 : Nat, ∃ Ao3_5_4 : Option Addr, ∃ co3_5_5 : Nat, ∃ go3_7_1 : Nat, Frm 103 fa [(36, (.agg (ic (Ao3_2_4) (co3_2_5) ((a * c))))), (39, (.agg (ic (Ao3_5_4) (co3_5_5) ((b * c))))), (8, (.pointer (some ⟨go3_7_1, 0, none⟩)))] ∧ St w w' [(go3_7_1, 24, #[(.bool (false)), (.slice (none) (0) (0))]), (g9, 24, (ic (A_c) (c_c) (c))), (g5, 24, (ic (A_b) (c_b) (b))), (g1, 24, (ic (A_a) (c_a) (a)))] ∧ Ext w22 (g9 :: (g5 :: (g1 :: X))) w' (go3_7_1 :: (g9 :: (g5 :: (g1 :: X)))) ∧ UC w' (go3_7_1 :: (g9 :: (g5 :: (g1 :: X)))) Ao3_2_4 co3_2_5 (lim (a * c).natAbs) ∧ UC w' (go3_7_1 :: (g9 :: (g5 :: (g1 :: X)))) Ao3_5_4 co3_5_5 (lim (b * c).natAbs)
       , fun fa w' => ∃ Ao3_2_4 : Option Addr, ∃ co3_2_5 : Nat, ∃ go3_6_1 : Nat, ∃ go3_7_1 : Nat, Frm 103 fa [(36, (.agg (ic (Ao3_2_4) (co3_2_5) ((a * c))))), (7, (.pointer (some ⟨go3_6_1, 0, none⟩))), (8, (.pointer (some ⟨go3_7_1, 0, none⟩)))] ∧ St w w' [(go3_7_1, 24, #[(.bool (false)), (.slice (none) (0) (0))]), (go3_6_1, 24, #[(.bool (false)), (.slice (none) (0) (0))]), (g9, 24, (ic (A_c) (c_c) (c))), (g5, 24, (ic (A_b) (c_b) (b))), (g1, 24, (ic (A_a) (c_a) (a)))] ∧ Ext w22 (g9 :: (g5 :: (g1 :: X))) w' (go3_7_1 :: (go3_6_1 :: (g9 :: (g5 :: (g1 :: X))))) ∧ UC w' (go3_7_1 :: (go3_6_1 :: (g9 :: (g5 :: (g1 :: X))))) Ao3_2_4 co3_2_5 (lim (a * c).natAbs)
       , fun fa w' => ∃ Ao3_2_4 : Option Addr, ∃ co3_2_5 : Nat, ∃ Ao3_5_4 : Option Addr, ∃ co3_5_5 : Nat, ∃ go3_6_1 : Nat, ∃ go3_7_1 : Nat, Frm 103 fa [(36, (.agg (ic (Ao3_2_4) (co3_2_5) ((a * c))))), (39, (.agg (ic (Ao3_5_4) (co3_5_5) ((b * c))))), (7, (.pointer (some ⟨go3_6_1, 0, none⟩))), (8, (.pointer (some ⟨go3_7_1, 0, none⟩)))] ∧ St w w' [(go3_7_1, 24, #[(.bool (false)), (.slice (none) (0) (0))]), (go3_6_1, 24, #[(.bool (false)), (.slice (none) (0) (0))]), (g9, 24, (ic (A_c) (c_c) (c))), (g5, 24, (ic (A_b) (c_b) (b))), (g1, 24, (ic (A_a) (c_a) (a)))] ∧ Ext w22 (g9 :: (g5 :: (g1 :: X))) w' (go3_7_1 :: (go3_6_1 :: (g9 :: (g5 :: (g1 :: X))))) ∧ UC w' (go3_7_1 :: (go3_6_1 :: (g9 :: (g5 :: (g1 :: X))))) Ao3_2_4 co3_2_5 (lim (a * c).natAbs) ∧ UC w' (go3_7_1 :: (go3_6_1 :: (g9 :: (g5 :: (g1 :: X))))) Ao3_5_4 co3_5_5 (lim (b * c).natAbs)
       , fun fa w' => ∃ Ao3_2_4 : Option Addr, ∃ co3_2_5 : Nat, ∃ Ao3_5_4 : Option Addr, ∃ co3_5_5 : Nat, ∃ go3_6_1 : Nat, ∃ go3_7_1 : Nat, Frm 103 fa [(36, (.agg (ic (Ao3_2_4) (co3_2_5) ((a * c))))), (39, (.agg (ic (Ao3_5_4) (co3_5_5) ((b * c))))), (7, (.pointer (some ⟨go3_6_1, 0, none⟩))), (8, (.pointer (some ⟨go3_7_1, 0, none⟩)))] ∧ St w w' [(go3_7_1, 24, #[(.bool (false)), (.slice (none) (0) (0))]), (go3_6_1, 24, (ic (Ao3_2_4) (co3_2_5) ((a * c)))), (g9, 24, (ic (A_c) (c_c) (c))), (g5, 24, (ic (A_b) (c_b) (b))), (g1, 24, (ic (A_a) (c_a) (a)))] ∧ Ext w22 (g9 :: (g5 :: (g1 :: X))) w' (go3_7_1 :: (go3_6_1 :: (g9 :: (g5 :: (g1 :: X))))) ∧ UC w' (go3_7_1 :: (go3_6_1 :: (g9 :: (g5 :: (g1 :: X))))) Ao3_2_4 co3_2_5 (lim (a * c).natAbs) ∧ UC w' (go3_7_1 :: (go3_6_1 :: (g9 :: (g5 :: (g1 :: X))))) Ao3_5_4 co3_5_5 (lim (b * c).natAbs)
       , fun fa w' => ∃ Ao3_2_4 : Option Addr, ∃ co3_2_5 : Nat, ∃ Ao3_5_4 : Option Addr, ∃ co3_5_5 : Nat, ∃ go3_6_1 : Nat, ∃ go3_7_1 : Nat, Frm 103 fa [(36, (.agg (ic (Ao3_2_4) (co3_2_5) ((a * c))))), (39, (.agg (ic (Ao3_5_4) (co3_5_5) ((b * c))))), (7, (.pointer (some ⟨go3_6_1, 0, none⟩))), (8, (.pointer (some ⟨go3_7_1, 0, none⟩)))] ∧ St w w' [(go3_7_1, 24, (ic (Ao3_5_4) (co3_5_5) ((b * c)))), (go3_6_1, 24, (ic (Ao3_2_4) (co3_2_5) ((a * c)))), (g9, 24, (ic (A_c) (c_c) (c))), (g5, 24, (ic (A_b) (c_b) (b))), (g1, 24, (ic (A_a) (c_a) (a)))] ∧ Ext w22 (g9 :: (g5 :: (g1 :: X))) w' (go3_7_1 :: (go3_6_1 :: (g9 :: (g5 :: (g1 :: X))))) ∧ UC w' (go3_7_1 :: (go3_6_1 :: (g9 :: (g5 :: (g1 :: X))))) Ao3_2_4 co3_2_5 (lim (a * c).natAbs) ∧ UC w' (go3_7_1 :: (go3_6_1 :: (g9 :: (g5 :: (g1 :: X))))) Ao3_5_4 co3_5_5 (lim (b * c).natAbs)
     ] TfLG.mixed rfl rfl rfl rfl rfl rfl (hF.take (hF.take (hF.take (hF.take (hF.take (hF.take (hF.take (hF.take hF.nil rfl) rfl) rfl) rfl) rfl) rfl) rfl) rfl) rfl ⟨hF.nil, hS.drew, Ext.drew _ _⟩ ?_ ?_ ?_
 all_goals clear hF fa
 ·
  refine ⟨?_, ?_, ?_, ?_, ?_, ?_, ?_, ?_, ?_, ?_, ?_, ?_, ?_, ?_, trivial⟩
  ·
   rintro fa w' i o d v ho hd hna ⟨hA, hR⟩; exact ⟨hA.put_other v (freeOf_at (acts := [2, 5, 6, 7, 8, 9]) rfl ho hd hna), hR⟩
  ·
   rintro fa w' i o d v ho hd hna ⟨Ao3_2_4, co3_2_5, hA, hR⟩; exact ⟨Ao3_2_4, co3_2_5, hA.put_other v (freeOf_at (acts := [2, 5, 6, 7, 8, 9]) rfl ho hd hna), hR⟩
  ·
   rintro fa w' i o d v ho hd hna ⟨go3_6_1, hA, hR⟩; exact ⟨go3_6_1, hA.put_other v (freeOf_at (acts := [2, 5, 6, 7, 8, 9]) rfl ho hd hna), hR⟩
  ·
   rintro fa w' i o d v ho hd hna ⟨go3_7_1, hA, hR⟩; exact ⟨go3_7_1, hA.put_other v (freeOf_at (acts := [2, 5, 6, 7, 8, 9]) rfl ho hd hna), hR⟩
  ·
   rintro fa w' i o d v ho hd hna ⟨Ao3_2_4, co3_2_5, Ao3_5_4, co3_5_5, hA, hR⟩; exact ⟨Ao3_2_4, co3_2_5, Ao3_5_4, co3_5_5, hA.put_other v (freeOf_at (acts := [2, 5, 6, 7, 8, 9]) rfl ho hd hna), hR⟩
  ·
   rintro fa w' i o d v ho hd hna ⟨Ao3_2_4, co3_2_5, go3_6_1, hA, hR⟩; exact ⟨Ao3_2_4, co3_2_5, go3_6_1, hA.put_other v (freeOf_at (acts := [2, 5, 6, 7, 8, 9]) rfl ho hd hna), hR⟩
  ·
   rintro fa w' i o d v ho hd hna ⟨Ao3_2_4, co3_2_5, go3_7_1, hA, hR⟩; exact ⟨Ao3_2_4, co3_2_5, go3_7_1, hA.put_other v (freeOf_at (acts := [2, 5, 6, 7, 8, 9]) rfl ho hd hna), hR⟩
  ·
   rintro fa w' i o d v ho hd hna ⟨go3_6_1, go3_7_1, hA, hR⟩; exact ⟨go3_6_1, go3_7_1, hA.put_other v (freeOf_at (acts := [2, 5, 6, 7, 8, 9]) rfl ho hd hna), hR⟩
  ·
   rintro fa w' i o d v ho hd hna ⟨Ao3_2_4, co3_2_5, Ao3_5_4, co3_5_5, go3_6_1, hA, hR⟩; exact ⟨Ao3_2_4, co3_2_5, Ao3_5_4, co3_5_5, go3_6_1, hA.put_other v (freeOf_at (acts := [2, 5, 6, 7, 8, 9]) rfl ho hd hna), hR⟩
  ·
   rintro fa w' i o d v ho hd hna ⟨Ao3_2_4, co3_2_5, Ao3_5_4, co3_5_5, go3_7_1, hA, hR⟩; exact ⟨Ao3_2_4, co3_2_5, Ao3_5_4, co3_5_5, go3_7_1, hA.put_other v (freeOf_at (acts := [2, 5, 6, 7, 8, 9]) rfl ho hd hna), hR⟩
  ·
   rintro fa w' i o d v ho hd hna ⟨Ao3_2_4, co3_2_5, go3_6_1, go3_7_1, hA, hR⟩; exact ⟨Ao3_2_4, co3_2_5, go3_6_1, go3_7_1, hA.put_other v (freeOf_at (acts := [2, 5, 6, 7, 8, 9]) rfl ho hd hna), hR⟩
  ·
   rintro fa w' i o d v ho hd hna ⟨Ao3_2_4, co3_2_5, Ao3_5_4, co3_5_5, go3_6_1, go3_7_1, hA, hR⟩; exact ⟨Ao3_2_4, co3_2_5, Ao3_5_4, co3_5_5, go3_6_1, go3_7_1, hA.put_other v (freeOf_at (acts := [2, 5, 6, 7, 8, 9]) rfl ho hd hna), hR⟩
  ·
   rintro fa w' i o d v ho hd hna ⟨Ao3_2_4, co3_2_5, Ao3_5_4, co3_5_5, go3_6_1, go3_7_1, hA, hR⟩; exact ⟨Ao3_2_4, co3_2_5, Ao3_5_4, co3_5_5, go3_6_1, go3_7_1, hA.put_other v (freeOf_at (acts := [2, 5, 6, 7, 8, 9]) rfl ho hd hna), hR⟩
  ·
   rintro fa w' i o d v ho hd hna ⟨Ao3_2_4, co3_2_5, Ao3_5_4, co3_5_5, go3_6_1, go3_7_1, hA, hR⟩; exact ⟨Ao3_2_4, co3_2_5, Ao3_5_4, co3_5_5, go3_6_1, go3_7_1, hA.put_other v (freeOf_at (acts := [2, 5, 6, 7, 8, 9]) rfl ho hd hna), hR⟩
 ·
  refine ⟨?_, ?_, ?_, ?_, ?_, ?_, ?_, ?_, ?_, ?_, trivial⟩
  ·
   refine .inr (.inl ⟨rfl, _, _, rfl, rfl, ?_, ?_, ?_, ?_, trivial⟩)
   ·
    intro fa w' hΦ hF hB K hK
    obtain ⟨hA, hS, E_w'⟩ := hΦ
    exact fl_val rfl rfl rfl (ex_loadb TfLG.row24 (hF.ev rfl) (hS.get 2 rfl) rfl) hK
   ·
    intro fa w' hΦ hF hB K hK
    obtain ⟨go3_6_1, hA, hS, E_w'⟩ := hΦ
    exact fl_val rfl rfl rfl (ex_loadb TfLG.row24 (hF.ev rfl) (hS.get 3 rfl) rfl) hK
   ·
    intro fa w' hΦ hF hB K hK
    obtain ⟨go3_7_1, hA, hS, E_w'⟩ := hΦ
    exact fl_val rfl rfl rfl (ex_loadb TfLG.row24 (hF.ev rfl) (hS.get 3 rfl) rfl) hK
   ·
    intro fa w' hΦ hF hB K hK
    obtain ⟨go3_6_1, go3_7_1, hA, hS, E_w'⟩ := hΦ
    exact fl_val rfl rfl rfl (ex_loadb TfLG.row24 (hF.ev rfl) (hS.get 4 rfl) rfl) hK
  ·
   refine .inr (.inl ⟨rfl, _, _, rfl, rfl, ?_, ?_, ?_, ?_, trivial⟩)
   ·
    intro fa w' hΦ hF hB K hK
    obtain ⟨hA, hS, E_w'⟩ := hΦ
    exact fl_val rfl rfl rfl (ex_loadb TfLG.row24 (hF.ev rfl) (hS.get 0 rfl) rfl) hK
   ·
    intro fa w' hΦ hF hB K hK
    obtain ⟨go3_6_1, hA, hS, E_w'⟩ := hΦ
    exact fl_val rfl rfl rfl (ex_loadb TfLG.row24 (hF.ev rfl) (hS.get 1 rfl) rfl) hK
   ·
    intro fa w' hΦ hF hB K hK
    obtain ⟨go3_7_1, hA, hS, E_w'⟩ := hΦ
    exact fl_val rfl rfl rfl (ex_loadb TfLG.row24 (hF.ev rfl) (hS.get 1 rfl) rfl) hK
   ·
    intro fa w' hΦ hF hB K hK
    obtain ⟨go3_6_1, go3_7_1, hA, hS, E_w'⟩ := hΦ
    exact fl_val rfl rfl rfl (ex_loadb TfLG.row24 (hF.ev rfl) (hS.get 2 rfl) rfl) hK
  ·
   refine .inr (.inr ⟨rfl, ?_, ?_, ?_, ?_, trivial⟩)
   ·
    intro fa w' hΦ hF hB
    obtain ⟨hA, hS, E_w'⟩ := hΦ
    replace hF := hF.cons (hB.val 0 _ 34 _ rfl rfl rfl rfl)
    replace hF := hF.cons (hB.val 1 _ 35 _ rfl rfl rfl rfl)
    refine wop rfl rfl ?_
    have hC := ref01_Mul_ok (w := w') (X := (g9 :: (g5 :: (g1 :: X)))) (a := a) (b := c) (hS.bnd hX) (IntV.of_ (n := (lim a.natAbs).length) (b := decide (a < 0)) (x := a) ((hu_a.ext (((((((E3.trans E7).trans E11).trans E15).trans E18).trans E21).trans E24).trans E_w'))) (rfl) (rfl) (rfl)) (IntV.of_ (n := (lim c.natAbs).length) (b := decide (c < 0)) (x := c) ((hu_c.ext (((((((E3.trans E7).trans E11).trans E15).trans E18).trans E21).trans E24).trans E_w'))) (rfl) (rfl) (rfl)) (by have h1 := sz_mul a c; have h2 := sz_mul b c; have h3 := sz_gcd (x := a * c) (y := b * c) (n := 12) (by omega) (by omega); omega) (by have h1 := sz_mul a c; have h2 := sz_mul b c; have h3 := sz_gcd (x := a * c) (y := b * c) (n := 12) (by omega) (by omega); omega)
    refine op_call hF rfl TfLG.body21 (args2 (hF.ev rfl) (hF.ev rfl)) hC ?_
    clear hC
    rintro _ wo3_2_1 ⟨⟨_, rfl, Ao3_2_4, co3_2_5, rfl, huo3_2_6⟩, hbo3_2_2⟩
    clear hF; intro hF
    replace hS := hS.call hbo3_2_2; have Eo3_2_3 := Ext.call (g9 :: (g5 :: (g1 :: X))) hbo3_2_2
    have hA1 := ((hA.put_other _ rfl).cons (hF.get 36 _ rfl))
    exact ⟨1, rfl, ⟨Ao3_2_4, co3_2_5, (hA1.take hA1.nil rfl), hS, (E_w'.trans Eo3_2_3), huo3_2_6⟩, _, rfl, fun u hu => by cases hu <;> rfl⟩
   ·
    intro fa w' hΦ hF hB
    obtain ⟨go3_6_1, hA, hS, E_w'⟩ := hΦ
    replace hF := hF.cons (hB.val 0 _ 34 _ rfl rfl rfl rfl)
    replace hF := hF.cons (hB.val 1 _ 35 _ rfl rfl rfl rfl)
    refine wop rfl rfl ?_
    have hC := ref01_Mul_ok (w := w') (X := (go3_6_1 :: (g9 :: (g5 :: (g1 :: X))))) (a := a) (b := c) (hS.bnd hX) (IntV.of_ (n := (lim a.natAbs).length) (b := decide (a < 0)) (x := a) ((hu_a.ext (((((((E3.trans E7).trans E11).trans E15).trans E18).trans E21).trans E24).trans E_w'))) (rfl) (rfl) (rfl)) (IntV.of_ (n := (lim c.natAbs).length) (b := decide (c < 0)) (x := c) ((hu_c.ext (((((((E3.trans E7).trans E11).trans E15).trans E18).trans E21).trans E24).trans E_w'))) (rfl) (rfl) (rfl)) (by have h1 := sz_mul a c; have h2 := sz_mul b c; have h3 := sz_gcd (x := a * c) (y := b * c) (n := 12) (by omega) (by omega); omega) (by have h1 := sz_mul a c; have h2 := sz_mul b c; have h3 := sz_gcd (x := a * c) (y := b * c) (n := 12) (by omega) (by omega); omega)
    refine op_call hF rfl TfLG.body21 (args2 (hF.ev rfl) (hF.ev rfl)) hC ?_
    clear hC
    rintro _ wo3_2_1 ⟨⟨_, rfl, Ao3_2_4, co3_2_5, rfl, huo3_2_6⟩, hbo3_2_2⟩
    clear hF; intro hF
    replace hS := hS.call hbo3_2_2; have Eo3_2_3 := Ext.call (go3_6_1 :: (g9 :: (g5 :: (g1 :: X)))) hbo3_2_2
    have hA1 := ((hA.put_other _ rfl).cons (hF.get 36 _ rfl))
    exact ⟨5, rfl, ⟨Ao3_2_4, co3_2_5, go3_6_1, (hA1.take (hA1.take hA1.nil rfl) rfl), hS, (E_w'.trans Eo3_2_3), huo3_2_6⟩, _, rfl, fun u hu => by cases hu <;> rfl⟩
   ·
    intro fa w' hΦ hF hB
    obtain ⟨go3_7_1, hA, hS, E_w'⟩ := hΦ
    replace hF := hF.cons (hB.val 0 _ 34 _ rfl rfl rfl rfl)
    replace hF := hF.cons (hB.val 1 _ 35 _ rfl rfl rfl rfl)
    refine wop rfl rfl ?_
    have hC := ref01_Mul_ok (w := w') (X := (go3_7_1 :: (g9 :: (g5 :: (g1 :: X))))) (a := a) (b := c) (hS.bnd hX) (IntV.of_ (n := (lim a.natAbs).length) (b := decide (a < 0)) (x := a) ((hu_a.ext (((((((E3.trans E7).trans E11).trans E15).trans E18).trans E21).trans E24).trans E_w'))) (rfl) (rfl) (rfl)) (IntV.of_ (n := (lim c.natAbs).length) (b := decide (c < 0)) (x := c) ((hu_c.ext (((((((E3.trans E7).trans E11).trans E15).trans E18).trans E21).trans E24).trans E_w'))) (rfl) (rfl) (rfl)) (by have h1 := sz_mul a c; have h2 := sz_mul b c; have h3 := sz_gcd (x := a * c) (y := b * c) (n := 12) (by omega) (by omega); omega) (by have h1 := sz_mul a c; have h2 := sz_mul b c; have h3 := sz_gcd (x := a * c) (y := b * c) (n := 12) (by omega) (by omega); omega)
    refine op_call hF rfl TfLG.body21 (args2 (hF.ev rfl) (hF.ev rfl)) hC ?_
    clear hC
    rintro _ wo3_2_1 ⟨⟨_, rfl, Ao3_2_4, co3_2_5, rfl, huo3_2_6⟩, hbo3_2_2⟩
    clear hF; intro hF
    replace hS := hS.call hbo3_2_2; have Eo3_2_3 := Ext.call (go3_7_1 :: (g9 :: (g5 :: (g1 :: X)))) hbo3_2_2
    have hA1 := ((hA.put_other _ rfl).cons (hF.get 36 _ rfl))
    exact ⟨6, rfl, ⟨Ao3_2_4, co3_2_5, go3_7_1, (hA1.take (hA1.take hA1.nil rfl) rfl), hS, (E_w'.trans Eo3_2_3), huo3_2_6⟩, _, rfl, fun u hu => by cases hu <;> rfl⟩
   ·
    intro fa w' hΦ hF hB
    obtain ⟨go3_6_1, go3_7_1, hA, hS, E_w'⟩ := hΦ
    replace hF := hF.cons (hB.val 0 _ 34 _ rfl rfl rfl rfl)
    replace hF := hF.cons (hB.val 1 _ 35 _ rfl rfl rfl rfl)
    refine wop rfl rfl ?_
    have hC := ref01_Mul_ok (w := w') (X := (go3_7_1 :: (go3_6_1 :: (g9 :: (g5 :: (g1 :: X)))))) (a := a) (b := c) (hS.bnd hX) (IntV.of_ (n := (lim a.natAbs).length) (b := decide (a < 0)) (x := a) ((hu_a.ext (((((((E3.trans E7).trans E11).trans E15).trans E18).trans E21).trans E24).trans E_w'))) (rfl) (rfl) (rfl)) (IntV.of_ (n := (lim c.natAbs).length) (b := decide (c < 0)) (x := c) ((hu_c.ext (((((((E3.trans E7).trans E11).trans E15).trans E18).trans E21).trans E24).trans E_w'))) (rfl) (rfl) (rfl)) (by have h1 := sz_mul a c; have h2 := sz_mul b c; have h3 := sz_gcd (x := a * c) (y := b * c) (n := 12) (by omega) (by omega); omega) (by have h1 := sz_mul a c; have h2 := sz_mul b c; have h3 := sz_gcd (x := a * c) (y := b * c) (n := 12) (by omega) (by omega); omega)
    refine op_call hF rfl TfLG.body21 (args2 (hF.ev rfl) (hF.ev rfl)) hC ?_
    clear hC
    rintro _ wo3_2_1 ⟨⟨_, rfl, Ao3_2_4, co3_2_5, rfl, huo3_2_6⟩, hbo3_2_2⟩
    clear hF; intro hF
    replace hS := hS.call hbo3_2_2; have Eo3_2_3 := Ext.call (go3_7_1 :: (go3_6_1 :: (g9 :: (g5 :: (g1 :: X))))) hbo3_2_2
    have hA1 := ((hA.put_other _ rfl).cons (hF.get 36 _ rfl))
    exact ⟨10, rfl, ⟨Ao3_2_4, co3_2_5, go3_6_1, go3_7_1, (hA1.take (hA1.take (hA1.take hA1.nil rfl) rfl) rfl), hS, (E_w'.trans Eo3_2_3), huo3_2_6⟩, _, rfl, fun u hu => by cases hu <;> rfl⟩
  ·
   refine .inr (.inl ⟨rfl, _, _, rfl, rfl, ?_, ?_, ?_, ?_, ?_, ?_, ?_, ?_, trivial⟩)
   ·
    intro fa w' hΦ hF hB K hK
    obtain ⟨hA, hS, E_w'⟩ := hΦ
    exact fl_val rfl rfl rfl (ex_loadb TfLG.row24 (hF.ev rfl) (hS.get 1 rfl) rfl) hK
   ·
    intro fa w' hΦ hF hB K hK
    obtain ⟨Ao3_2_4, co3_2_5, hA, hS, E_w', huo3_2_6⟩ := hΦ
    exact fl_val rfl rfl rfl (ex_loadb TfLG.row24 (hF.ev rfl) (hS.get 1 rfl) rfl) hK
   ·
    intro fa w' hΦ hF hB K hK
    obtain ⟨go3_6_1, hA, hS, E_w'⟩ := hΦ
    exact fl_val rfl rfl rfl (ex_loadb TfLG.row24 (hF.ev rfl) (hS.get 2 rfl) rfl) hK
   ·
    intro fa w' hΦ hF hB K hK
    obtain ⟨go3_7_1, hA, hS, E_w'⟩ := hΦ
    exact fl_val rfl rfl rfl (ex_loadb TfLG.row24 (hF.ev rfl) (hS.get 2 rfl) rfl) hK
   ·
    intro fa w' hΦ hF hB K hK
    obtain ⟨Ao3_2_4, co3_2_5, go3_6_1, hA, hS, E_w', huo3_2_6⟩ := hΦ
    exact fl_val rfl rfl rfl (ex_loadb TfLG.row24 (hF.ev rfl) (hS.get 2 rfl) rfl) hK
   ·
    intro fa w' hΦ hF hB K hK
    obtain ⟨Ao3_2_4, co3_2_5, go3_7_1, hA, hS, E_w', huo3_2_6⟩ := hΦ
    exact fl_val rfl rfl rfl (ex_loadb TfLG.row24 (hF.ev rfl) (hS.get 2 rfl) rfl) hK
   ·
    intro fa w' hΦ hF hB K hK
    obtain ⟨go3_6_1, go3_7_1, hA, hS, E_w'⟩ := hΦ
    exact fl_val rfl rfl rfl (ex_loadb TfLG.row24 (hF.ev rfl) (hS.get 3 rfl) rfl) hK
   ·
    intro fa w' hΦ hF hB K hK
    obtain ⟨Ao3_2_4, co3_2_5, go3_6_1, go3_7_1, hA, hS, E_w', huo3_2_6⟩ := hΦ
    exact fl_val rfl rfl rfl (ex_loadb TfLG.row24 (hF.ev rfl) (hS.get 3 rfl) rfl) hK
  ·
   refine .inr (.inl ⟨rfl, _, _, rfl, rfl, ?_, ?_, ?_, ?_, ?_, ?_, ?_, ?_, trivial⟩)
   ·
    intro fa w' hΦ hF hB K hK
    obtain ⟨hA, hS, E_w'⟩ := hΦ
    exact fl_val rfl rfl rfl (ex_loadb TfLG.row24 (hF.ev rfl) (hS.get 0 rfl) rfl) hK
   ·
    intro fa w' hΦ hF hB K hK
    obtain ⟨Ao3_2_4, co3_2_5, hA, hS, E_w', huo3_2_6⟩ := hΦ
    exact fl_val rfl rfl rfl (ex_loadb TfLG.row24 (hF.ev rfl) (hS.get 0 rfl) rfl) hK
   ·
    intro fa w' hΦ hF hB K hK
    obtain ⟨go3_6_1, hA, hS, E_w'⟩ := hΦ
    exact fl_val rfl rfl rfl (ex_loadb TfLG.row24 (hF.ev rfl) (hS.get 1 rfl) rfl) hK
   ·
    intro fa w' hΦ hF hB K hK
    obtain ⟨go3_7_1, hA, hS, E_w'⟩ := hΦ
    exact fl_val rfl rfl rfl (ex_loadb TfLG.row24 (hF.ev rfl) (hS.get 1 rfl) rfl) hK
   ·
    intro fa w' hΦ hF hB K hK
    obtain ⟨Ao3_2_4, co3_2_5, go3_6_1, hA, hS, E_w', huo3_2_6⟩ := hΦ
    exact fl_val rfl rfl rfl (ex_loadb TfLG.row24 (hF.ev rfl) (hS.get 1 rfl) rfl) hK
   ·
    intro fa w' hΦ hF hB K hK
    obtain ⟨Ao3_2_4, co3_2_5, go3_7_1, hA, hS, E_w', huo3_2_6⟩ := hΦ
    exact fl_val rfl rfl rfl (ex_loadb TfLG.row24 (hF.ev rfl) (hS.get 1 rfl) rfl) hK
   ·
    intro fa w' hΦ hF hB K hK
    obtain ⟨go3_6_1, go3_7_1, hA, hS, E_w'⟩ := hΦ
    exact fl_val rfl rfl rfl (ex_loadb TfLG.row24 (hF.ev rfl) (hS.get 2 rfl) rfl) hK
   ·
    intro fa w' hΦ hF hB K hK
    obtain ⟨Ao3_2_4, co3_2_5, go3_6_1, go3_7_1, hA, hS, E_w', huo3_2_6⟩ := hΦ
    exact fl_val rfl rfl rfl (ex_loadb TfLG.row24 (hF.ev rfl) (hS.get 2 rfl) rfl) hK
  ·
   refine .inr (.inr ⟨rfl, ?_, ?_, ?_, ?_, trivial⟩)
   ·
    intro fa w' hΦ hF hB
    obtain ⟨Ao3_2_4, co3_2_5, hA, hS, E_w', huo3_2_6⟩ := hΦ
    replace hF := hF.cons (hB.val 3 _ 37 _ rfl rfl rfl rfl)
    replace hF := hF.cons (hB.val 4 _ 38 _ rfl rfl rfl rfl)
    refine wop rfl rfl ?_
    have hC := ref01_Mul_ok (w := w') (X := (g9 :: (g5 :: (g1 :: X)))) (a := b) (b := c) (hS.bnd hX) (IntV.of_ (n := (lim b.natAbs).length) (b := decide (b < 0)) (x := b) ((hu_b.ext (((((((E3.trans E7).trans E11).trans E15).trans E18).trans E21).trans E24).trans E_w'))) (rfl) (rfl) (rfl)) (IntV.of_ (n := (lim c.natAbs).length) (b := decide (c < 0)) (x := c) ((hu_c.ext (((((((E3.trans E7).trans E11).trans E15).trans E18).trans E21).trans E24).trans E_w'))) (rfl) (rfl) (rfl)) (by have h1 := sz_mul a c; have h2 := sz_mul b c; have h3 := sz_gcd (x := a * c) (y := b * c) (n := 12) (by omega) (by omega); omega) (by have h1 := sz_mul a c; have h2 := sz_mul b c; have h3 := sz_gcd (x := a * c) (y := b * c) (n := 12) (by omega) (by omega); omega)
    refine op_call hF rfl TfLG.body21 (args2 (hF.ev rfl) (hF.ev rfl)) hC ?_
    clear hC
    rintro _ wo3_5_1 ⟨⟨_, rfl, Ao3_5_4, co3_5_5, rfl, huo3_5_6⟩, hbo3_5_2⟩
    clear hF; intro hF
    replace hS := hS.call hbo3_5_2; have Eo3_5_3 := Ext.call (g9 :: (g5 :: (g1 :: X))) hbo3_5_2
    have hA1 := ((hA.put_other _ rfl).cons (hF.get 39 _ rfl))
    exact ⟨4, rfl, ⟨Ao3_2_4, co3_2_5, Ao3_5_4, co3_5_5, (hA1.take (hA1.take hA1.nil rfl) rfl), hS, (E_w'.trans Eo3_5_3), (huo3_2_6.ext Eo3_5_3), huo3_5_6⟩, _, rfl, fun u hu => by cases hu <;> rfl⟩
   ·
    intro fa w' hΦ hF hB
    obtain ⟨Ao3_2_4, co3_2_5, go3_6_1, hA, hS, E_w', huo3_2_6⟩ := hΦ
    replace hF := hF.cons (hB.val 3 _ 37 _ rfl rfl rfl rfl)
    replace hF := hF.cons (hB.val 4 _ 38 _ rfl rfl rfl rfl)
    refine wop rfl rfl ?_
    have hC := ref01_Mul_ok (w := w') (X := (go3_6_1 :: (g9 :: (g5 :: (g1 :: X))))) (a := b) (b := c) (hS.bnd hX) (IntV.of_ (n := (lim b.natAbs).length) (b := decide (b < 0)) (x := b) ((hu_b.ext (((((((E3.trans E7).trans E11).trans E15).trans E18).trans E21).trans E24).trans E_w'))) (rfl) (rfl) (rfl)) (IntV.of_ (n := (lim c.natAbs).length) (b := decide (c < 0)) (x := c) ((hu_c.ext (((((((E3.trans E7).trans E11).trans E15).trans E18).trans E21).trans E24).trans E_w'))) (rfl) (rfl) (rfl)) (by have h1 := sz_mul a c; have h2 := sz_mul b c; have h3 := sz_gcd (x := a * c) (y := b * c) (n := 12) (by omega) (by omega); omega) (by have h1 := sz_mul a c; have h2 := sz_mul b c; have h3 := sz_gcd (x := a * c) (y := b * c) (n := 12) (by omega) (by omega); omega)
    refine op_call hF rfl TfLG.body21 (args2 (hF.ev rfl) (hF.ev rfl)) hC ?_
    clear hC
    rintro _ wo3_5_1 ⟨⟨_, rfl, Ao3_5_4, co3_5_5, rfl, huo3_5_6⟩, hbo3_5_2⟩
    clear hF; intro hF
    replace hS := hS.call hbo3_5_2; have Eo3_5_3 := Ext.call (go3_6_1 :: (g9 :: (g5 :: (g1 :: X)))) hbo3_5_2
    have hA1 := ((hA.put_other _ rfl).cons (hF.get 39 _ rfl))
    exact ⟨8, rfl, ⟨Ao3_2_4, co3_2_5, Ao3_5_4, co3_5_5, go3_6_1, (hA1.take (hA1.take (hA1.take hA1.nil rfl) rfl) rfl), hS, (E_w'.trans Eo3_5_3), (huo3_2_6.ext Eo3_5_3), huo3_5_6⟩, _, rfl, fun u hu => by cases hu <;> rfl⟩
   ·
    intro fa w' hΦ hF hB
    obtain ⟨Ao3_2_4, co3_2_5, go3_7_1, hA, hS, E_w', huo3_2_6⟩ := hΦ
    replace hF := hF.cons (hB.val 3 _ 37 _ rfl rfl rfl rfl)
    replace hF := hF.cons (hB.val 4 _ 38 _ rfl rfl rfl rfl)
    refine wop rfl rfl ?_
    have hC := ref01_Mul_ok (w := w') (X := (go3_7_1 :: (g9 :: (g5 :: (g1 :: X))))) (a := b) (b := c) (hS.bnd hX) (IntV.of_ (n := (lim b.natAbs).length) (b := decide (b < 0)) (x := b) ((hu_b.ext (((((((E3.trans E7).trans E11).trans E15).trans E18).trans E21).trans E24).trans E_w'))) (rfl) (rfl) (rfl)) (IntV.of_ (n := (lim c.natAbs).length) (b := decide (c < 0)) (x := c) ((hu_c.ext (((((((E3.trans E7).trans E11).trans E15).trans E18).trans E21).trans E24).trans E_w'))) (rfl) (rfl) (rfl)) (by have h1 := sz_mul a c; have h2 := sz_mul b c; have h3 := sz_gcd (x := a * c) (y := b * c) (n := 12) (by omega) (by omega); omega) (by have h1 := sz_mul a c; have h2 := sz_mul b c; have h3 := sz_gcd (x := a * c) (y := b * c) (n := 12) (by omega) (by omega); omega)
    refine op_call hF rfl TfLG.body21 (args2 (hF.ev rfl) (hF.ev rfl)) hC ?_
    clear hC
    rintro _ wo3_5_1 ⟨⟨_, rfl, Ao3_5_4, co3_5_5, rfl, huo3_5_6⟩, hbo3_5_2⟩
    clear hF; intro hF
    replace hS := hS.call hbo3_5_2; have Eo3_5_3 := Ext.call (go3_7_1 :: (g9 :: (g5 :: (g1 :: X)))) hbo3_5_2
    have hA1 := ((hA.put_other _ rfl).cons (hF.get 39 _ rfl))
    exact ⟨9, rfl, ⟨Ao3_2_4, co3_2_5, Ao3_5_4, co3_5_5, go3_7_1, (hA1.take (hA1.take (hA1.take hA1.nil rfl) rfl) rfl), hS, (E_w'.trans Eo3_5_3), (huo3_2_6.ext Eo3_5_3), huo3_5_6⟩, _, rfl, fun u hu => by cases hu <;> rfl⟩
   ·
    intro fa w' hΦ hF hB
    obtain ⟨Ao3_2_4, co3_2_5, go3_6_1, go3_7_1, hA, hS, E_w', huo3_2_6⟩ := hΦ
    replace hF := hF.cons (hB.val 3 _ 37 _ rfl rfl rfl rfl)
    replace hF := hF.cons (hB.val 4 _ 38 _ rfl rfl rfl rfl)
    refine wop rfl rfl ?_
    have hC := ref01_Mul_ok (w := w') (X := (go3_7_1 :: (go3_6_1 :: (g9 :: (g5 :: (g1 :: X)))))) (a := b) (b := c) (hS.bnd hX) (IntV.of_ (n := (lim b.natAbs).length) (b := decide (b < 0)) (x := b) ((hu_b.ext (((((((E3.trans E7).trans E11).trans E15).trans E18).trans E21).trans E24).trans E_w'))) (rfl) (rfl) (rfl)) (IntV.of_ (n := (lim c.natAbs).length) (b := decide (c < 0)) (x := c) ((hu_c.ext (((((((E3.trans E7).trans E11).trans E15).trans E18).trans E21).trans E24).trans E_w'))) (rfl) (rfl) (rfl)) (by have h1 := sz_mul a c; have h2 := sz_mul b c; have h3 := sz_gcd (x := a * c) (y := b * c) (n := 12) (by omega) (by omega); omega) (by have h1 := sz_mul a c; have h2 := sz_mul b c; have h3 := sz_gcd (x := a * c) (y := b * c) (n := 12) (by omega) (by omega); omega)
    refine op_call hF rfl TfLG.body21 (args2 (hF.ev rfl) (hF.ev rfl)) hC ?_
    clear hC
    rintro _ wo3_5_1 ⟨⟨_, rfl, Ao3_5_4, co3_5_5, rfl, huo3_5_6⟩, hbo3_5_2⟩
    clear hF; intro hF
    replace hS := hS.call hbo3_5_2; have Eo3_5_3 := Ext.call (go3_7_1 :: (go3_6_1 :: (g9 :: (g5 :: (g1 :: X))))) hbo3_5_2
    have hA1 := ((hA.put_other _ rfl).cons (hF.get 39 _ rfl))
    exact ⟨11, rfl, ⟨Ao3_2_4, co3_2_5, Ao3_5_4, co3_5_5, go3_6_1, go3_7_1, (hA1.take (hA1.take (hA1.take (hA1.take hA1.nil rfl) rfl) rfl) rfl), hS, (E_w'.trans Eo3_5_3), (huo3_2_6.ext Eo3_5_3), huo3_5_6⟩, _, rfl, fun u hu => by cases hu <;> rfl⟩
  ·
   refine .inr (.inr ⟨rfl, ?_, ?_, ?_, ?_, ?_, ?_, trivial⟩)
   ·
    intro fa w' hΦ hF hB
    obtain ⟨hA, hS, E_w'⟩ := hΦ
    refine wop rfl rfl ?_
    refine op_alloc (X := (g9 :: (g5 :: (g1 :: X)))) hF hS rfl TfLG.zero24 ?_
    intro go3_6_1 wo3_6_2 hgo3_6_4 hS Eo3_6_3 hF
    replace hS : St w wo3_6_2 [(go3_6_1, 24, #[(.bool (false)), (.slice (none) (0) (0))]), (g9, 24, (ic (A_c) (c_c) (c))), (g5, 24, (ic (A_b) (c_b) (b))), (g1, 24, (ic (A_a) (c_a) (a)))] := hS
    have hA1 := ((hA.put_other _ rfl).cons (hF.get 7 _ rfl))
    exact ⟨2, rfl, ⟨go3_6_1, (hA1.take hA1.nil rfl), hS, (E_w'.trans Eo3_6_3)⟩, _, rfl, fun u hu => by cases hu <;> rfl⟩
   ·
    intro fa w' hΦ hF hB
    obtain ⟨Ao3_2_4, co3_2_5, hA, hS, E_w', huo3_2_6⟩ := hΦ
    refine wop rfl rfl ?_
    refine op_alloc (X := (g9 :: (g5 :: (g1 :: X)))) hF hS rfl TfLG.zero24 ?_
    intro go3_6_1 wo3_6_2 hgo3_6_4 hS Eo3_6_3 hF
    replace hS : St w wo3_6_2 [(go3_6_1, 24, #[(.bool (false)), (.slice (none) (0) (0))]), (g9, 24, (ic (A_c) (c_c) (c))), (g5, 24, (ic (A_b) (c_b) (b))), (g1, 24, (ic (A_a) (c_a) (a)))] := hS
    have hA1 := ((hA.put_other _ rfl).cons (hF.get 7 _ rfl))
    exact ⟨5, rfl, ⟨Ao3_2_4, co3_2_5, go3_6_1, (hA1.take (hA1.take hA1.nil rfl) rfl), hS, (E_w'.trans Eo3_6_3), (huo3_2_6.ext Eo3_6_3)⟩, _, rfl, fun u hu => by cases hu <;> rfl⟩
   ·
    intro fa w' hΦ hF hB
    obtain ⟨go3_7_1, hA, hS, E_w'⟩ := hΦ
    refine wop rfl rfl ?_
    refine op_alloc (X := (go3_7_1 :: (g9 :: (g5 :: (g1 :: X))))) hF hS rfl TfLG.zero24 ?_
    intro go3_6_1 wo3_6_2 hgo3_6_4 hS Eo3_6_3 hF
    replace hS : St w wo3_6_2 [(go3_6_1, 24, #[(.bool (false)), (.slice (none) (0) (0))]), (go3_7_1, 24, #[(.bool (false)), (.slice (none) (0) (0))]), (g9, 24, (ic (A_c) (c_c) (c))), (g5, 24, (ic (A_b) (c_b) (b))), (g1, 24, (ic (A_a) (c_a) (a)))] := hS
    replace hS : St w wo3_6_2 [(go3_7_1, 24, #[(.bool (false)), (.slice (none) (0) (0))]), (go3_6_1, 24, #[(.bool (false)), (.slice (none) (0) (0))]), (g9, 24, (ic (A_c) (c_c) (c))), (g5, 24, (ic (A_b) (c_b) (b))), (g1, 24, (ic (A_a) (c_a) (a)))] := hS.perm (List.Perm.swap _ _ _)
    have E25 : Ext wo3_6_2 (go3_6_1 :: (go3_7_1 :: (g9 :: (g5 :: (g1 :: X))))) wo3_6_2 (go3_7_1 :: (go3_6_1 :: (g9 :: (g5 :: (g1 :: X))))) := Ext.drop (by simp +contextual)
    have hA1 := ((hA.put_other _ rfl).cons (hF.get 7 _ rfl))
    exact ⟨7, rfl, ⟨go3_6_1, go3_7_1, (hA1.take (hA1.take hA1.nil rfl) rfl), hS, ((E_w'.trans Eo3_6_3).trans E25)⟩, _, rfl, fun u hu => by cases hu <;> rfl⟩
   ·
    intro fa w' hΦ hF hB
    obtain ⟨Ao3_2_4, co3_2_5, Ao3_5_4, co3_5_5, hA, hS, E_w', huo3_2_6, huo3_5_6⟩ := hΦ
    refine wop rfl rfl ?_
    refine op_alloc (X := (g9 :: (g5 :: (g1 :: X)))) hF hS rfl TfLG.zero24 ?_
    intro go3_6_1 wo3_6_2 hgo3_6_4 hS Eo3_6_3 hF
    replace hS : St w wo3_6_2 [(go3_6_1, 24, #[(.bool (false)), (.slice (none) (0) (0))]), (g9, 24, (ic (A_c) (c_c) (c))), (g5, 24, (ic (A_b) (c_b) (b))), (g1, 24, (ic (A_a) (c_a) (a)))] := hS
    have hA1 := ((hA.put_other _ rfl).cons (hF.get 7 _ rfl))
    exact ⟨8, rfl, ⟨Ao3_2_4, co3_2_5, Ao3_5_4, co3_5_5, go3_6_1, (hA1.take (hA1.take (hA1.take hA1.nil rfl) rfl) rfl), hS, (E_w'.trans Eo3_6_3), (huo3_2_6.ext Eo3_6_3), (huo3_5_6.ext Eo3_6_3)⟩, _, rfl, fun u hu => by cases hu <;> rfl⟩
   ·
    intro fa w' hΦ hF hB
    obtain ⟨Ao3_2_4, co3_2_5, go3_7_1, hA, hS, E_w', huo3_2_6⟩ := hΦ
    refine wop rfl rfl ?_
    refine op_alloc (X := (go3_7_1 :: (g9 :: (g5 :: (g1 :: X))))) hF hS rfl TfLG.zero24 ?_
    intro go3_6_1 wo3_6_2 hgo3_6_4 hS Eo3_6_3 hF
    replace hS : St w wo3_6_2 [(go3_6_1, 24, #[(.bool (false)), (.slice (none) (0) (0))]), (go3_7_1, 24, #[(.bool (false)), (.slice (none) (0) (0))]), (g9, 24, (ic (A_c) (c_c) (c))), (g5, 24, (ic (A_b) (c_b) (b))), (g1, 24, (ic (A_a) (c_a) (a)))] := hS
    replace hS : St w wo3_6_2 [(go3_7_1, 24, #[(.bool (false)), (.slice (none) (0) (0))]), (go3_6_1, 24, #[(.bool (false)), (.slice (none) (0) (0))]), (g9, 24, (ic (A_c) (c_c) (c))), (g5, 24, (ic (A_b) (c_b) (b))), (g1, 24, (ic (A_a) (c_a) (a)))] := hS.perm (List.Perm.swap _ _ _)
    have E26 : Ext wo3_6_2 (go3_6_1 :: (go3_7_1 :: (g9 :: (g5 :: (g1 :: X))))) wo3_6_2 (go3_7_1 :: (go3_6_1 :: (g9 :: (g5 :: (g1 :: X))))) := Ext.drop (by simp +contextual)
    have hA1 := ((hA.put_other _ rfl).cons (hF.get 7 _ rfl))
    exact ⟨10, rfl, ⟨Ao3_2_4, co3_2_5, go3_6_1, go3_7_1, (hA1.take (hA1.take (hA1.take hA1.nil rfl) rfl) rfl), hS, ((E_w'.trans Eo3_6_3).trans E26), (huo3_2_6.ext (Eo3_6_3.trans E26))⟩, _, rfl, fun u hu => by cases hu <;> rfl⟩
   ·
    intro fa w' hΦ hF hB
    obtain ⟨Ao3_2_4, co3_2_5, Ao3_5_4, co3_5_5, go3_7_1, hA, hS, E_w', huo3_2_6, huo3_5_6⟩ := hΦ
    refine wop rfl rfl ?_
    refine op_alloc (X := (go3_7_1 :: (g9 :: (g5 :: (g1 :: X))))) hF hS rfl TfLG.zero24 ?_
    intro go3_6_1 wo3_6_2 hgo3_6_4 hS Eo3_6_3 hF
    replace hS : St w wo3_6_2 [(go3_6_1, 24, #[(.bool (false)), (.slice (none) (0) (0))]), (go3_7_1, 24, #[(.bool (false)), (.slice (none) (0) (0))]), (g9, 24, (ic (A_c) (c_c) (c))), (g5, 24, (ic (A_b) (c_b) (b))), (g1, 24, (ic (A_a) (c_a) (a)))] := hS
    replace hS : St w wo3_6_2 [(go3_7_1, 24, #[(.bool (false)), (.slice (none) (0) (0))]), (go3_6_1, 24, #[(.bool (false)), (.slice (none) (0) (0))]), (g9, 24, (ic (A_c) (c_c) (c))), (g5, 24, (ic (A_b) (c_b) (b))), (g1, 24, (ic (A_a) (c_a) (a)))] := hS.perm (List.Perm.swap _ _ _)
    have E27 : Ext wo3_6_2 (go3_6_1 :: (go3_7_1 :: (g9 :: (g5 :: (g1 :: X))))) wo3_6_2 (go3_7_1 :: (go3_6_1 :: (g9 :: (g5 :: (g1 :: X))))) := Ext.drop (by simp +contextual)
    have hA1 := ((hA.put_other _ rfl).cons (hF.get 7 _ rfl))
    exact ⟨11, rfl, ⟨Ao3_2_4, co3_2_5, Ao3_5_4, co3_5_5, go3_6_1, go3_7_1, (hA1.take (hA1.take (hA1.take (hA1.take hA1.nil rfl) rfl) rfl) rfl), hS, ((E_w'.trans Eo3_6_3).trans E27), (huo3_2_6.ext (Eo3_6_3.trans E27)), (huo3_5_6.ext (Eo3_6_3.trans E27))⟩, _, rfl, fun u hu => by cases hu <;> rfl⟩
  ·
   refine .inr (.inr ⟨rfl, ?_, ?_, ?_, ?_, ?_, ?_, trivial⟩)
   ·
    intro fa w' hΦ hF hB
    obtain ⟨hA, hS, E_w'⟩ := hΦ
    refine wop rfl rfl ?_
    refine op_alloc (X := (g9 :: (g5 :: (g1 :: X)))) hF hS rfl TfLG.zero24 ?_
    intro go3_7_1 wo3_7_2 hgo3_7_4 hS Eo3_7_3 hF
    replace hS : St w wo3_7_2 [(go3_7_1, 24, #[(.bool (false)), (.slice (none) (0) (0))]), (g9, 24, (ic (A_c) (c_c) (c))), (g5, 24, (ic (A_b) (c_b) (b))), (g1, 24, (ic (A_a) (c_a) (a)))] := hS
    have hA1 := ((hA.put_other _ rfl).cons (hF.get 8 _ rfl))
    exact ⟨3, rfl, ⟨go3_7_1, (hA1.take hA1.nil rfl), hS, (E_w'.trans Eo3_7_3)⟩, _, rfl, fun u hu => by cases hu <;> rfl⟩
   ·
    intro fa w' hΦ hF hB
    obtain ⟨Ao3_2_4, co3_2_5, hA, hS, E_w', huo3_2_6⟩ := hΦ
    refine wop rfl rfl ?_
    refine op_alloc (X := (g9 :: (g5 :: (g1 :: X)))) hF hS rfl TfLG.zero24 ?_
    intro go3_7_1 wo3_7_2 hgo3_7_4 hS Eo3_7_3 hF
    replace hS : St w wo3_7_2 [(go3_7_1, 24, #[(.bool (false)), (.slice (none) (0) (0))]), (g9, 24, (ic (A_c) (c_c) (c))), (g5, 24, (ic (A_b) (c_b) (b))), (g1, 24, (ic (A_a) (c_a) (a)))] := hS
    have hA1 := ((hA.put_other _ rfl).cons (hF.get 8 _ rfl))
    exact ⟨6, rfl, ⟨Ao3_2_4, co3_2_5, go3_7_1, (hA1.take (hA1.take hA1.nil rfl) rfl), hS, (E_w'.trans Eo3_7_3), (huo3_2_6.ext Eo3_7_3)⟩, _, rfl, fun u hu => by cases hu <;> rfl⟩
   ·
    intro fa w' hΦ hF hB
    obtain ⟨go3_6_1, hA, hS, E_w'⟩ := hΦ
    refine wop rfl rfl ?_
    refine op_alloc (X := (go3_6_1 :: (g9 :: (g5 :: (g1 :: X))))) hF hS rfl TfLG.zero24 ?_
    intro go3_7_1 wo3_7_2 hgo3_7_4 hS Eo3_7_3 hF
    replace hS : St w wo3_7_2 [(go3_7_1, 24, #[(.bool (false)), (.slice (none) (0) (0))]), (go3_6_1, 24, #[(.bool (false)), (.slice (none) (0) (0))]), (g9, 24, (ic (A_c) (c_c) (c))), (g5, 24, (ic (A_b) (c_b) (b))), (g1, 24, (ic (A_a) (c_a) (a)))] := hS
    have hA1 := ((hA.put_other _ rfl).cons (hF.get 8 _ rfl))
    exact ⟨7, rfl, ⟨go3_6_1, go3_7_1, (hA1.take (hA1.take hA1.nil rfl) rfl), hS, (E_w'.trans Eo3_7_3)⟩, _, rfl, fun u hu => by cases hu <;> rfl⟩
   ·
    intro fa w' hΦ hF hB
    obtain ⟨Ao3_2_4, co3_2_5, Ao3_5_4, co3_5_5, hA, hS, E_w', huo3_2_6, huo3_5_6⟩ := hΦ
    refine wop rfl rfl ?_
    refine op_alloc (X := (g9 :: (g5 :: (g1 :: X)))) hF hS rfl TfLG.zero24 ?_
    intro go3_7_1 wo3_7_2 hgo3_7_4 hS Eo3_7_3 hF
    replace hS : St w wo3_7_2 [(go3_7_1, 24, #[(.bool (false)), (.slice (none) (0) (0))]), (g9, 24, (ic (A_c) (c_c) (c))), (g5, 24, (ic (A_b) (c_b) (b))), (g1, 24, (ic (A_a) (c_a) (a)))] := hS
    have hA1 := ((hA.put_other _ rfl).cons (hF.get 8 _ rfl))
    exact ⟨9, rfl, ⟨Ao3_2_4, co3_2_5, Ao3_5_4, co3_5_5, go3_7_1, (hA1.take (hA1.take (hA1.take hA1.nil rfl) rfl) rfl), hS, (E_w'.trans Eo3_7_3), (huo3_2_6.ext Eo3_7_3), (huo3_5_6.ext Eo3_7_3)⟩, _, rfl, fun u hu => by cases hu <;> rfl⟩
   ·
    intro fa w' hΦ hF hB
    obtain ⟨Ao3_2_4, co3_2_5, go3_6_1, hA, hS, E_w', huo3_2_6⟩ := hΦ
    refine wop rfl rfl ?_
    refine op_alloc (X := (go3_6_1 :: (g9 :: (g5 :: (g1 :: X))))) hF hS rfl TfLG.zero24 ?_
    intro go3_7_1 wo3_7_2 hgo3_7_4 hS Eo3_7_3 hF
    replace hS : St w wo3_7_2 [(go3_7_1, 24, #[(.bool (false)), (.slice (none) (0) (0))]), (go3_6_1, 24, #[(.bool (false)), (.slice (none) (0) (0))]), (g9, 24, (ic (A_c) (c_c) (c))), (g5, 24, (ic (A_b) (c_b) (b))), (g1, 24, (ic (A_a) (c_a) (a)))] := hS
    have hA1 := ((hA.put_other _ rfl).cons (hF.get 8 _ rfl))
    exact ⟨10, rfl, ⟨Ao3_2_4, co3_2_5, go3_6_1, go3_7_1, (hA1.take (hA1.take (hA1.take hA1.nil rfl) rfl) rfl), hS, (E_w'.trans Eo3_7_3), (huo3_2_6.ext Eo3_7_3)⟩, _, rfl, fun u hu => by cases hu <;> rfl⟩
   ·
    intro fa w' hΦ hF hB
    obtain ⟨Ao3_2_4, co3_2_5, Ao3_5_4, co3_5_5, go3_6_1, hA, hS, E_w', huo3_2_6, huo3_5_6⟩ := hΦ
    refine wop rfl rfl ?_
    refine op_alloc (X := (go3_6_1 :: (g9 :: (g5 :: (g1 :: X))))) hF hS rfl TfLG.zero24 ?_
    intro go3_7_1 wo3_7_2 hgo3_7_4 hS Eo3_7_3 hF
    replace hS : St w wo3_7_2 [(go3_7_1, 24, #[(.bool (false)), (.slice (none) (0) (0))]), (go3_6_1, 24, #[(.bool (false)), (.slice (none) (0) (0))]), (g9, 24, (ic (A_c) (c_c) (c))), (g5, 24, (ic (A_b) (c_b) (b))), (g1, 24, (ic (A_a) (c_a) (a)))] := hS
    have hA1 := ((hA.put_other _ rfl).cons (hF.get 8 _ rfl))
    exact ⟨11, rfl, ⟨Ao3_2_4, co3_2_5, Ao3_5_4, co3_5_5, go3_6_1, go3_7_1, (hA1.take (hA1.take (hA1.take (hA1.take hA1.nil rfl) rfl) rfl) rfl), hS, (E_w'.trans Eo3_7_3), (huo3_2_6.ext Eo3_7_3), (huo3_5_6.ext Eo3_7_3)⟩, _, rfl, fun u hu => by cases hu <;> rfl⟩
  ·
   refine .inr (.inr ⟨rfl, ?_, trivial⟩)
   ·
    intro fa w' hΦ hF hB
    obtain ⟨Ao3_2_4, co3_2_5, Ao3_5_4, co3_5_5, go3_6_1, go3_7_1, hA, hS, E_w', huo3_2_6, huo3_5_6⟩ := hΦ
    replace hF := hF.cons (hA.get 7 _ rfl)
    replace hF := hF.cons (hA.get 36 _ rfl)
    refine wop rfl rfl ?_
    refine op_store (X := (go3_7_1 :: (go3_6_1 :: (g9 :: (g5 :: (g1 :: X)))))) hF hS 1 rfl (by simp) rfl rfl rfl TfLG.size24 rfl (Nat.le_of_ble_eq_true rfl) ?_
    intro wo3_8_1 hS Eo3_8_2
    replace hS : St w wo3_8_1 [(go3_7_1, 24, #[(.bool (false)), (.slice (none) (0) (0))]), (go3_6_1, 24, (ic (Ao3_2_4) (co3_2_5) ((a * c)))), (g9, 24, (ic (A_c) (c_c) (c))), (g5, 24, (ic (A_b) (c_b) (b))), (g1, 24, (ic (A_a) (c_a) (a)))] := hS
    exact ⟨12, rfl, ⟨Ao3_2_4, co3_2_5, Ao3_5_4, co3_5_5, go3_6_1, go3_7_1, hA, hS, (E_w'.trans Eo3_8_2), (huo3_2_6.ext Eo3_8_2), (huo3_5_6.ext Eo3_8_2)⟩, undef, rfl, fun u hu => by cases hu <;> rfl⟩
  ·
   refine .inr (.inr ⟨rfl, ?_, trivial⟩)
   ·
    intro fa w' hΦ hF hB
    obtain ⟨Ao3_2_4, co3_2_5, Ao3_5_4, co3_5_5, go3_6_1, go3_7_1, hA, hS, E_w', huo3_2_6, huo3_5_6⟩ := hΦ
    replace hF := hF.cons (hA.get 8 _ rfl)
    replace hF := hF.cons (hA.get 39 _ rfl)
    refine wop rfl rfl ?_
    refine op_store (X := (go3_7_1 :: (go3_6_1 :: (g9 :: (g5 :: (g1 :: X)))))) hF hS 0 rfl (by simp) rfl rfl rfl TfLG.size24 rfl (Nat.le_of_ble_eq_true rfl) ?_
    intro wo3_9_1 hS Eo3_9_2
    replace hS : St w wo3_9_1 [(go3_7_1, 24, (ic (Ao3_5_4) (co3_5_5) ((b * c)))), (go3_6_1, 24, (ic (Ao3_2_4) (co3_2_5) ((a * c)))), (g9, 24, (ic (A_c) (c_c) (c))), (g5, 24, (ic (A_b) (c_b) (b))), (g1, 24, (ic (A_a) (c_a) (a)))] := hS
    exact ⟨13, rfl, ⟨Ao3_2_4, co3_2_5, Ao3_5_4, co3_5_5, go3_6_1, go3_7_1, hA, hS, (E_w'.trans Eo3_9_2), (huo3_2_6.ext Eo3_9_2), (huo3_5_6.ext Eo3_9_2)⟩, undef, rfl, fun u hu => by cases hu <;> rfl⟩
 intro fa w28 hΦ hF hC
 obtain ⟨Ao3_2_4, co3_2_5, Ao3_5_4, co3_5_5, go3_6_1, go3_7_1, hA, hS, E_w28, huo3_2_6, huo3_5_6⟩ := hΦ
 replace hF := hF.cons (hA.get 7 _ rfl)
 replace hF := hF.cons (hA.get 8 _ rfl)
 clear hA hC
 refine x_tn ?_
 refine c_seq ?_
 refine drawn2 (N := 103) (L0 := [(0, (.agg (ic (A_a) (c_a) (a)))), (1, (.agg (ic (A_b) (c_b) (b)))), (2, (.agg (ic (A_c) (c_c) (c)))), (3, (.pointer (some ⟨g1, 0, none⟩))), (4, (.pointer (some ⟨g5, 0, none⟩))), (5, (.pointer (some ⟨g9, 0, none⟩))), (6, (.bool (false))), (32, (.bool (false))), (7, (.pointer (some ⟨go3_6_1, 0, none⟩))), (8, (.pointer (some ⟨go3_7_1, 0, none⟩)))]) [some (.agg (ic (Ao3_2_4) (co3_2_5) ((a * c)))), none, some (.agg (ic (Ao3_5_4) (co3_5_5) ((b * c)))), none, none, none, none] [1, 3, 4, 5, 6] [[], [1], [5], [1, 3], [1, 5], [1, 3, 4], [1, 3, 5], [1, 3, 4, 5], [1, 3, 4, 5, 6]] [[0, 2], [0, 2], [0, 1, 2, 4], [1, 4], [3, 6], [0, 1, 3, 5], [7]] 8 [
       fun fa w' => Frm 103 fa [] ∧ St w w' [(go3_7_1, 24, (ic (Ao3_5_4) (co3_5_5) ((b * c)))), (go3_6_1, 24, (ic (Ao3_2_4) (co3_2_5) ((a * c)))), (g9, 24, (ic (A_c) (c_c) (c))), (g5, 24, (ic (A_b) (c_b) (b))), (g1, 24, (ic (A_a) (c_a) (a)))] ∧ Ext w28 (go3_7_1 :: (go3_6_1 :: (g9 :: (g5 :: (g1 :: X))))) w' (go3_7_1 :: (go3_6_1 :: (g9 :: (g5 :: (g1 :: X)))))
       , fun fa w' => ∃ Ao4_1_4 : Option Addr, ∃ co4_1_5 : Nat, Frm 103 fa [(41, (.agg #[(.bool ((decide ((a * c) < 0)))), (.slice (Ao4_1_4) ((((lim (a * c).natAbs))).length) (co4_1_5))]))] ∧ St w w' [(go3_7_1, 24, (ic (Ao3_5_4) (co3_5_5) ((b * c)))), (go3_6_1, 24, (ic (Ao3_2_4) (co3_2_5) ((a * c)))), (g9, 24, (ic (A_c) (c_c) (c))), (g5, 24, (ic (A_b) (c_b) (b))), (g1, 24, (ic (A_a) (c_a) (a)))] ∧ Ext w28 (go3_7_1 :: (go3_6_1 :: (g9 :: (g5 :: (g1 :: X))))) w' (go3_7_1 :: (go3_6_1 :: (g9 :: (g5 :: (g1 :: X))))) ∧ UC w' (go3_7_1 :: (go3_6_1 :: (g9 :: (g5 :: (g1 :: X))))) Ao4_1_4 co4_1_5 (((lim (a * c).natAbs)))
       , fun fa w' => ∃ go4_5_1 : Nat, Frm 103 fa [(9, (.pointer (some ⟨go4_5_1, 0, none⟩)))] ∧ St w w' [(go4_5_1, 24, #[(.bool (false)), (.slice (none) (0) (0))]), (go3_7_1, 24, (ic (Ao3_5_4) (co3_5_5) ((b * c)))), (go3_6_1, 24, (ic (Ao3_2_4) (co3_2_5) ((a * c)))), (g9, 24, (ic (A_c) (c_c) (c))), (g5, 24, (ic (A_b) (c_b) (b))), (g1, 24, (ic (A_a) (c_a) (a)))] ∧ Ext w28 (go3_7_1 :: (go3_6_1 :: (g9 :: (g5 :: (g1 :: X))))) w' (go4_5_1 :: (go3_7_1 :: (go3_6_1 :: (g9 :: (g5 :: (g1 :: X))))))
       , fun fa w' => ∃ Ao4_1_4 : Option Addr, ∃ co4_1_5 : Nat, ∃ Ao4_3_4 : Option Addr, ∃ co4_3_5 : Nat, Frm 103 fa [(41, (.agg #[(.bool ((decide ((a * c) < 0)))), (.slice (Ao4_1_4) ((((lim (a * c).natAbs))).length) (co4_1_5))])), (43, (.agg #[(.bool ((decide ((b * c) < 0)))), (.slice (Ao4_3_4) ((((lim (b * c).natAbs))).length) (co4_3_5))]))] ∧ St w w' [(go3_7_1, 24, (ic (Ao3_5_4) (co3_5_5) ((b * c)))), (go3_6_1, 24, (ic (Ao3_2_4) (co3_2_5) ((a * c)))), (g9, 24, (ic (A_c) (c_c) (c))), (g5, 24, (ic (A_b) (c_b) (b))), (g1, 24, (ic (A_a) (c_a) (a)))] ∧ Ext w28 (go3_7_1 :: (go3_6_1 :: (g9 :: (g5 :: (g1 :: X))))) w' (go3_7_1 :: (go3_6_1 :: (g9 :: (g5 :: (g1 :: X))))) ∧ UC w' (go3_7_1 :: (go3_6_1 :: (g9 :: (g5 :: (g1 :: X))))) Ao4_1_4 co4_1_5 (((lim (a * c).natAbs))) ∧ UC w' (go3_7_1 :: (go3_6_1 :: (g9 :: (g5 :: (g1 :: X))))) Ao4_3_4 co4_3_5 (((lim (b * c).natAbs)))
       , fun fa w' => ∃ Ao4_1_4 : Option Addr, ∃ co4_1_5 : Nat, ∃ go4_5_1 : Nat, Frm 103 fa [(41, (.agg #[(.bool ((decide ((a * c) < 0)))), (.slice (Ao4_1_4) ((((lim (a * c).natAbs))).length) (co4_1_5))])), (9, (.pointer (some ⟨go4_5_1, 0, none⟩)))] ∧ St w w' [(go4_5_1, 24, #[(.bool (false)), (.slice (none) (0) (0))]), (go3_7_1, 24, (ic (Ao3_5_4) (co3_5_5) ((b * c)))), (go3_6_1, 24, (ic (Ao3_2_4) (co3_2_5) ((a * c)))), (g9, 24, (ic (A_c) (c_c) (c))), (g5, 24, (ic (A_b) (c_b) (b))), (g1, 24, (ic (A_a) (c_a) (a)))] ∧ Ext w28 (go3_7_1 :: (go3_6_1 :: (g9 :: (g5 :: (g1 :: X))))) w' (go4_5_1 :: (go3_7_1 :: (go3_6_1 :: (g9 :: (g5 :: (g1 :: X)))))) ∧ UC w' (go4_5_1 :: (go3_7_1 :: (go3_6_1 :: (g9 :: (g5 :: (g1 :: X)))))) Ao4_1_4 co4_1_5 (((lim (a * c).natAbs)))
       , fun fa w' => ∃ Ao4_1_4 : Option Addr, ∃ co4_1_5 : Nat, ∃ Ao4_3_4 : Option Addr, ∃ co4_3_5 : Nat, ∃ Ao4_4_4 : Option Addr, ∃ co4_4_5 : Nat, Frm 103 fa [(41, (.agg #[(.bool ((decide ((a * c) < 0)))), (.slice (Ao4_1_4) ((((lim (a * c).natAbs))).length) (co4_1_5))])), (43, (.agg #[(.bool ((decide ((b * c) < 0)))), (.slice (Ao4_3_4) ((((lim (b * c).natAbs))).length) (co4_3_5))])), (44, (.agg (ic (Ao4_4_4) (co4_4_5) (((Nat.gcd (a * c).natAbs (b * c).natAbs : Nat) : Int)))))] ∧ St w w' [(go3_7_1, 24, (ic (Ao3_5_4) (co3_5_5) ((b * c)))), (go3_6_1, 24, (ic (Ao3_2_4) (co3_2_5) ((a * c)))), (g9, 24, (ic (A_c) (c_c) (c))), (g5, 24, (ic (A_b) (c_b) (b))), (g1, 24, (ic (A_a) (c_a) (a)))] ∧ Ext w28 (go3_7_1 :: (go3_6_1 :: (g9 :: (g5 :: (g1 :: X))))) w' (go3_7_1 :: (go3_6_1 :: (g9 :: (g5 :: (g1 :: X))))) ∧ UC w' (go3_7_1 :: (go3_6_1 :: (g9 :: (g5 :: (g1 :: X))))) Ao4_1_4 co4_1_5 (((lim (a * c).natAbs))) ∧ UC w' (go3_7_1 :: (go3_6_1 :: (g9 :: (g5 :: (g1 :: X))))) Ao4_3_4 co4_3_5 (((lim (b * c).natAbs))) ∧ UC w' (go3_7_1 :: (go3_6_1 :: (g9 :: (g5 :: (g1 :: X))))) Ao4_4_4 co4_4_5 (lim (((Nat.gcd (a * c).natAbs (b * c).natAbs : Nat) : Int)).natAbs)
       , fun fa w' => ∃ Ao4_1_4 : Option Addr, ∃ co4_1_5 : Nat, ∃ Ao4_3_4 : Option Addr, ∃ co4_3_5 : Nat, ∃ go4_5_1 : Nat, Frm 103 fa [(41, (.agg #[(.bool ((decide ((a * c) < 0)))), (.slice (Ao4_1_4) ((((lim (a * c).natAbs))).length) (co4_1_5))])), (43, (.agg #[(.bool ((decide ((b * c) < 0)))), (.slice (Ao4_3_4) ((((lim (b * c).natAbs))).length) (co4_3_5))])), (9, (.pointer (some ⟨go4_5_1, 0, none⟩)))] ∧ St w w' [(go4_5_1, 24, #[(.bool (false)), (.slice (none) (0) (0))]), (go3_7_1, 24, (ic (Ao3_5_4) (co3_5_5) ((b * c)))), (go3_6_1, 24, (ic (Ao3_2_4) (co3_2_5) ((a * c)))), (g9, 24, (ic (A_c) (c_c) (c))), (g5, 24, (ic (A_b) (c_b) (b))), (g1, 24, (ic (A_a) (c_a) (a)))] ∧ Ext w28 (go3_7_1 :: (go3_6_1 :: (g9 :: (g5 :: (g1 :: X))))) w' (go4_5_1 :: (go3_7_1 :: (go3_6_1 :: (g9 :: (g5 :: (g1 :: X)))))) ∧ UC w' (go4_5_1 :: (go3_7_1 :: (go3_6_1 :: (g9 :: (g5 :: (g1 :: X)))))) Ao4_1_4 co4_1_5 (((lim (a * c).natAbs))) ∧ UC w' (go4_5_1 :: (go3_7_1 :: (go3_6_1 :: (g9 :: (g5 :: (g1 :: X)))))) Ao4_3_4 co4_3_5 (((lim (b * c).natAbs)))
       , fun fa w' => ∃ Ao4_1_4 : Option Addr, ∃ co4_1_5 : Nat, ∃ Ao4_3_4 : Option Addr, ∃ co4_3_5 : Nat, ∃ Ao4_4_4 : Option Addr, ∃ co4_4_5 : Nat, ∃ go4_5_1 : Nat, Frm 103 fa [(41, (.agg #[(.bool ((decide ((a * c) < 0)))), (.slice (Ao4_1_4) ((((lim (a * c).natAbs))).length) (co4_1_5))])), (43, (.agg #[(.bool ((decide ((b * c) < 0)))), (.slice (Ao4_3_4) ((((lim (b * c).natAbs))).length) (co4_3_5))])), (44, (.agg (ic (Ao4_4_4) (co4_4_5) (((Nat.gcd (a * c).natAbs (b * c).natAbs : Nat) : Int))))), (9, (.pointer (some ⟨go4_5_1, 0, none⟩)))] ∧ St w w' [(go4_5_1, 24, #[(.bool (false)), (.slice (none) (0) (0))]), (go3_7_1, 24, (ic (Ao3_5_4) (co3_5_5) ((b * c)))), (go3_6_1, 24, (ic (Ao3_2_4) (co3_2_5) ((a * c)))), (g9, 24, (ic (A_c) (c_c) (c))), (g5, 24, (ic (A_b) (c_b) (b))), (g1, 24, (ic (A_a) (c_a) (a)))] ∧ Ext w28 (go3_7_1 :: (go3_6_1 :: (g9 :: (g5 :: (g1 :: X))))) w' (go4_5_1 :: (go3_7_1 :: (go3_6_1 :: (g9 :: (g5 :: (g1 :: X)))))) ∧ UC w' (go4_5_1 :: (go3_7_1 :: (go3_6_1 :: (g9 :: (g5 :: (g1 :: X)))))) Ao4_1_4 co4_1_5 (((lim (a * c).natAbs))) ∧ UC w' (go4_5_1 :: (go3_7_1 :: (go3_6_1 :: (g9 :: (g5 :: (g1 :: X)))))) Ao4_3_4 co4_3_5 (((lim (b * c).natAbs))) ∧ UC w' (go4_5_1 :: (go3_7_1 :: (go3_6_1 :: (g9 :: (g5 :: (g1 :: X)))))) Ao4_4_4 co4_4_5 (lim (((Nat.gcd (a * c).natAbs (b * c).natAbs : Nat) : Int)).natAbs)
       , fun fa w' => ∃ Ao4_1_4 : Option Addr, ∃ co4_1_5 : Nat, ∃ Ao4_3_4 : Option Addr, ∃ co4_3_5 : Nat, ∃ Ao4_4_4 : Option Addr, ∃ co4_4_5 : Nat, ∃ go4_5_1 : Nat, Frm 103 fa [(41, (.agg #[(.bool ((decide ((a * c) < 0)))), (.slice (Ao4_1_4) ((((lim (a * c).natAbs))).length) (co4_1_5))])), (43, (.agg #[(.bool ((decide ((b * c) < 0)))), (.slice (Ao4_3_4) ((((lim (b * c).natAbs))).length) (co4_3_5))])), (44, (.agg (ic (Ao4_4_4) (co4_4_5) (((Nat.gcd (a * c).natAbs (b * c).natAbs : Nat) : Int))))), (9, (.pointer (some ⟨go4_5_1, 0, none⟩)))] ∧ St w w' [(go4_5_1, 24, (ic (Ao4_4_4) (co4_4_5) (((Nat.gcd (a * c).natAbs (b * c).natAbs : Nat) : Int)))), (go3_7_1, 24, (ic (Ao3_5_4) (co3_5_5) ((b * c)))), (go3_6_1, 24, (ic (Ao3_2_4) (co3_2_5) ((a * c)))), (g9, 24, (ic (A_c) (c_c) (c))), (g5, 24, (ic (A_b) (c_b) (b))), (g1, 24, (ic (A_a) (c_a) (a)))] ∧ Ext w28 (go3_7_1 :: (go3_6_1 :: (g9 :: (g5 :: (g1 :: X))))) w' (go4_5_1 :: (go3_7_1 :: (go3_6_1 :: (g9 :: (g5 :: (g1 :: X)))))) ∧ UC w' (go4_5_1 :: (go3_7_1 :: (go3_6_1 :: (g9 :: (g5 :: (g1 :: X)))))) Ao4_1_4 co4_1_5 (((lim (a * c).natAbs))) ∧ UC w' (go4_5_1 :: (go3_7_1 :: (go3_6_1 :: (g9 :: (g5 :: (g1 :: X)))))) Ao4_3_4 co4_3_5 (((lim (b * c).natAbs))) ∧ UC w' (go4_5_1 :: (go3_7_1 :: (go3_6_1 :: (g9 :: (g5 :: (g1 :: X)))))) Ao4_4_4 co4_4_5 (lim (((Nat.gcd (a * c).natAbs (b * c).natAbs : Nat) : Int)).natAbs)
     ] TfLG.mixed rfl rfl rfl rfl rfl rfl (hF.take (hF.take (hF.take (hF.take (hF.take (hF.take (hF.take (hF.take (hF.take (hF.take hF.nil rfl) rfl) rfl) rfl) rfl) rfl) rfl) rfl) rfl) rfl) rfl ⟨hF.nil, hS.drew, Ext.drew _ _⟩ ?_ ?_ ?_
 all_goals clear hF fa
 ·
  refine ⟨?_, ?_, ?_, ?_, ?_, ?_, ?_, ?_, ?_, trivial⟩
  ·
   rintro fa w' i o d v ho hd hna ⟨hA, hR⟩; exact ⟨hA.put_other v (freeOf_at (acts := [1, 3, 4, 5, 6]) rfl ho hd hna), hR⟩
  ·
   rintro fa w' i o d v ho hd hna ⟨Ao4_1_4, co4_1_5, hA, hR⟩; exact ⟨Ao4_1_4, co4_1_5, hA.put_other v (freeOf_at (acts := [1, 3, 4, 5, 6]) rfl ho hd hna), hR⟩
  ·
   rintro fa w' i o d v ho hd hna ⟨go4_5_1, hA, hR⟩; exact ⟨go4_5_1, hA.put_other v (freeOf_at (acts := [1, 3, 4, 5, 6]) rfl ho hd hna), hR⟩
  ·
   rintro fa w' i o d v ho hd hna ⟨Ao4_1_4, co4_1_5, Ao4_3_4, co4_3_5, hA, hR⟩; exact ⟨Ao4_1_4, co4_1_5, Ao4_3_4, co4_3_5, hA.put_other v (freeOf_at (acts := [1, 3, 4, 5, 6]) rfl ho hd hna), hR⟩
  ·
   rintro fa w' i o d v ho hd hna ⟨Ao4_1_4, co4_1_5, go4_5_1, hA, hR⟩; exact ⟨Ao4_1_4, co4_1_5, go4_5_1, hA.put_other v (freeOf_at (acts := [1, 3, 4, 5, 6]) rfl ho hd hna), hR⟩
  ·
   rintro fa w' i o d v ho hd hna ⟨Ao4_1_4, co4_1_5, Ao4_3_4, co4_3_5, Ao4_4_4, co4_4_5, hA, hR⟩; exact ⟨Ao4_1_4, co4_1_5, Ao4_3_4, co4_3_5, Ao4_4_4, co4_4_5, hA.put_other v (freeOf_at (acts := [1, 3, 4, 5, 6]) rfl ho hd hna), hR⟩
  ·
   rintro fa w' i o d v ho hd hna ⟨Ao4_1_4, co4_1_5, Ao4_3_4, co4_3_5, go4_5_1, hA, hR⟩; exact ⟨Ao4_1_4, co4_1_5, Ao4_3_4, co4_3_5, go4_5_1, hA.put_other v (freeOf_at (acts := [1, 3, 4, 5, 6]) rfl ho hd hna), hR⟩
  ·
   rintro fa w' i o d v ho hd hna ⟨Ao4_1_4, co4_1_5, Ao4_3_4, co4_3_5, Ao4_4_4, co4_4_5, go4_5_1, hA, hR⟩; exact ⟨Ao4_1_4, co4_1_5, Ao4_3_4, co4_3_5, Ao4_4_4, co4_4_5, go4_5_1, hA.put_other v (freeOf_at (acts := [1, 3, 4, 5, 6]) rfl ho hd hna), hR⟩
  ·
   rintro fa w' i o d v ho hd hna ⟨Ao4_1_4, co4_1_5, Ao4_3_4, co4_3_5, Ao4_4_4, co4_4_5, go4_5_1, hA, hR⟩; exact ⟨Ao4_1_4, co4_1_5, Ao4_3_4, co4_3_5, Ao4_4_4, co4_4_5, go4_5_1, hA.put_other v (freeOf_at (acts := [1, 3, 4, 5, 6]) rfl ho hd hna), hR⟩
 ·
  refine ⟨?_, ?_, ?_, ?_, ?_, ?_, ?_, trivial⟩
  ·
   refine .inr (.inl ⟨rfl, _, _, rfl, rfl, ?_, ?_, trivial⟩)
   ·
    intro fa w' hΦ hF hB K hK
    obtain ⟨hA, hS, E_w'⟩ := hΦ
    exact fl_val rfl rfl rfl (ex_loadb TfLG.row24 (hF.ev rfl) (hS.get 1 rfl) rfl) hK
   ·
    intro fa w' hΦ hF hB K hK
    obtain ⟨go4_5_1, hA, hS, E_w'⟩ := hΦ
    exact fl_val rfl rfl rfl (ex_loadb TfLG.row24 (hF.ev rfl) (hS.get 2 rfl) rfl) hK
  ·
   refine .inr (.inr ⟨rfl, ?_, ?_, trivial⟩)
   ·
    intro fa w' hΦ hF hB
    obtain ⟨hA, hS, E_w'⟩ := hΦ
    replace hF := hF.cons (hB.val 0 _ 40 _ rfl rfl rfl rfl)
    refine wop rfl rfl ?_
    have hC := law01_cp_ok (w := w') (X := (go3_7_1 :: (go3_6_1 :: (g9 :: (g5 :: (g1 :: X)))))) (ng := (decide ((a * c) < 0))) (l := (lim (a * c).natAbs)) (hS.bnd hX) ⟨_, rfl, _, _, rfl, (huo3_2_6.ext E_w')⟩ (by have h1 := sz_mul a c; unfold sz at h1; omega)
    refine op_call hF rfl TfLG.body14 (args1 (hF.ev rfl)) hC ?_
    clear hC
    rintro _ wo4_1_1 ⟨⟨_, rfl, Ao4_1_4, co4_1_5, rfl, huo4_1_6⟩, hbo4_1_2⟩
    clear hF; intro hF
    replace hS := hS.call hbo4_1_2; have Eo4_1_3 := Ext.call (go3_7_1 :: (go3_6_1 :: (g9 :: (g5 :: (g1 :: X))))) hbo4_1_2
    have hA1 := ((hA.put_other _ rfl).cons (hF.get 41 _ rfl))
    exact ⟨1, rfl, ⟨Ao4_1_4, co4_1_5, (hA1.take hA1.nil rfl), hS, (E_w'.trans Eo4_1_3), huo4_1_6⟩, _, rfl, fun u hu => by cases hu <;> rfl⟩
   ·
    intro fa w' hΦ hF hB
    obtain ⟨go4_5_1, hA, hS, E_w'⟩ := hΦ
    replace hF := hF.cons (hB.val 0 _ 40 _ rfl rfl rfl rfl)
    refine wop rfl rfl ?_
    have hC := law01_cp_ok (w := w') (X := (go4_5_1 :: (go3_7_1 :: (go3_6_1 :: (g9 :: (g5 :: (g1 :: X))))))) (ng := (decide ((a * c) < 0))) (l := (lim (a * c).natAbs)) (hS.bnd hX) ⟨_, rfl, _, _, rfl, (huo3_2_6.ext E_w')⟩ (by have h1 := sz_mul a c; unfold sz at h1; omega)
    refine op_call hF rfl TfLG.body14 (args1 (hF.ev rfl)) hC ?_
    clear hC
    rintro _ wo4_1_1 ⟨⟨_, rfl, Ao4_1_4, co4_1_5, rfl, huo4_1_6⟩, hbo4_1_2⟩
    clear hF; intro hF
    replace hS := hS.call hbo4_1_2; have Eo4_1_3 := Ext.call (go4_5_1 :: (go3_7_1 :: (go3_6_1 :: (g9 :: (g5 :: (g1 :: X)))))) hbo4_1_2
    have hA1 := ((hA.put_other _ rfl).cons (hF.get 41 _ rfl))
    exact ⟨4, rfl, ⟨Ao4_1_4, co4_1_5, go4_5_1, (hA1.take (hA1.take hA1.nil rfl) rfl), hS, (E_w'.trans Eo4_1_3), huo4_1_6⟩, _, rfl, fun u hu => by cases hu <;> rfl⟩
  ·
   refine .inr (.inl ⟨rfl, _, _, rfl, rfl, ?_, ?_, ?_, ?_, trivial⟩)
   ·
    intro fa w' hΦ hF hB K hK
    obtain ⟨hA, hS, E_w'⟩ := hΦ
    exact fl_val rfl rfl rfl (ex_loadb TfLG.row24 (hF.ev rfl) (hS.get 0 rfl) rfl) hK
   ·
    intro fa w' hΦ hF hB K hK
    obtain ⟨Ao4_1_4, co4_1_5, hA, hS, E_w', huo4_1_6⟩ := hΦ
    exact fl_val rfl rfl rfl (ex_loadb TfLG.row24 (hF.ev rfl) (hS.get 0 rfl) rfl) hK
   ·
    intro fa w' hΦ hF hB K hK
    obtain ⟨go4_5_1, hA, hS, E_w'⟩ := hΦ
    exact fl_val rfl rfl rfl (ex_loadb TfLG.row24 (hF.ev rfl) (hS.get 1 rfl) rfl) hK
   ·
    intro fa w' hΦ hF hB K hK
    obtain ⟨Ao4_1_4, co4_1_5, go4_5_1, hA, hS, E_w', huo4_1_6⟩ := hΦ
    exact fl_val rfl rfl rfl (ex_loadb TfLG.row24 (hF.ev rfl) (hS.get 1 rfl) rfl) hK
  ·
   refine .inr (.inr ⟨rfl, ?_, ?_, trivial⟩)
   ·
    intro fa w' hΦ hF hB
    obtain ⟨Ao4_1_4, co4_1_5, hA, hS, E_w', huo4_1_6⟩ := hΦ
    replace hF := hF.cons (hB.val 2 _ 42 _ rfl rfl rfl rfl)
    refine wop rfl rfl ?_
    have hC := law01_cp_ok (w := w') (X := (go3_7_1 :: (go3_6_1 :: (g9 :: (g5 :: (g1 :: X)))))) (ng := (decide ((b * c) < 0))) (l := (lim (b * c).natAbs)) (hS.bnd hX) ⟨_, rfl, _, _, rfl, (huo3_5_6.ext E_w')⟩ (by have h2 := sz_mul b c; unfold sz at h2; omega)
    refine op_call hF rfl TfLG.body14 (args1 (hF.ev rfl)) hC ?_
    clear hC
    rintro _ wo4_3_1 ⟨⟨_, rfl, Ao4_3_4, co4_3_5, rfl, huo4_3_6⟩, hbo4_3_2⟩
    clear hF; intro hF
    replace hS := hS.call hbo4_3_2; have Eo4_3_3 := Ext.call (go3_7_1 :: (go3_6_1 :: (g9 :: (g5 :: (g1 :: X))))) hbo4_3_2
    have hA1 := ((hA.put_other _ rfl).cons (hF.get 43 _ rfl))
    exact ⟨3, rfl, ⟨Ao4_1_4, co4_1_5, Ao4_3_4, co4_3_5, (hA1.take (hA1.take hA1.nil rfl) rfl), hS, (E_w'.trans Eo4_3_3), (huo4_1_6.ext Eo4_3_3), huo4_3_6⟩, _, rfl, fun u hu => by cases hu <;> rfl⟩
   ·
    intro fa w' hΦ hF hB
    obtain ⟨Ao4_1_4, co4_1_5, go4_5_1, hA, hS, E_w', huo4_1_6⟩ := hΦ
    replace hF := hF.cons (hB.val 2 _ 42 _ rfl rfl rfl rfl)
    refine wop rfl rfl ?_
    have hC := law01_cp_ok (w := w') (X := (go4_5_1 :: (go3_7_1 :: (go3_6_1 :: (g9 :: (g5 :: (g1 :: X))))))) (ng := (decide ((b * c) < 0))) (l := (lim (b * c).natAbs)) (hS.bnd hX) ⟨_, rfl, _, _, rfl, (huo3_5_6.ext E_w')⟩ (by have h2 := sz_mul b c; unfold sz at h2; omega)
    refine op_call hF rfl TfLG.body14 (args1 (hF.ev rfl)) hC ?_
    clear hC
    rintro _ wo4_3_1 ⟨⟨_, rfl, Ao4_3_4, co4_3_5, rfl, huo4_3_6⟩, hbo4_3_2⟩
    clear hF; intro hF
    replace hS := hS.call hbo4_3_2; have Eo4_3_3 := Ext.call (go4_5_1 :: (go3_7_1 :: (go3_6_1 :: (g9 :: (g5 :: (g1 :: X)))))) hbo4_3_2
    have hA1 := ((hA.put_other _ rfl).cons (hF.get 43 _ rfl))
    exact ⟨6, rfl, ⟨Ao4_1_4, co4_1_5, Ao4_3_4, co4_3_5, go4_5_1, (hA1.take (hA1.take (hA1.take hA1.nil rfl) rfl) rfl), hS, (E_w'.trans Eo4_3_3), (huo4_1_6.ext Eo4_3_3), huo4_3_6⟩, _, rfl, fun u hu => by cases hu <;> rfl⟩
  ·
   refine .inr (.inr ⟨rfl, ?_, ?_, trivial⟩)
   ·
    intro fa w' hΦ hF hB
    obtain ⟨Ao4_1_4, co4_1_5, Ao4_3_4, co4_3_5, hA, hS, E_w', huo4_1_6, huo4_3_6⟩ := hΦ
    replace hF := hF.cons (hA.get 41 _ rfl)
    replace hF := hF.cons (hA.get 43 _ rfl)
    refine wop rfl rfl ?_
    have hC := integer_GCD_ok (w := w') (X := (go3_7_1 :: (go3_6_1 :: (g9 :: (g5 :: (g1 :: X)))))) (a := (a * c)) (b := (b * c)) (hS.bnd hX) (IntV.of_ (n := (((lim (a * c).natAbs))).length) (b := (decide ((a * c) < 0))) (x := a * c) (huo4_1_6) (rfl) (rfl) (rfl)) (IntV.of_ (n := (((lim (b * c).natAbs))).length) (b := (decide ((b * c) < 0))) (x := b * c) (huo4_3_6) (rfl) (rfl) (rfl)) (by have h1 := sz_mul a c; have h2 := sz_mul b c; have h3 := sz_gcd (x := a * c) (y := b * c) (n := 12) (by omega) (by omega); omega) (by have h1 := sz_mul a c; have h2 := sz_mul b c; have h3 := sz_gcd (x := a * c) (y := b * c) (n := 12) (by omega) (by omega); omega)
    refine op_call hF rfl TfLG.body23 (args2 (hF.ev rfl) (hF.ev rfl)) hC ?_
    clear hC
    rintro _ wo4_4_1 ⟨⟨_, rfl, Ao4_4_4, co4_4_5, rfl, huo4_4_6⟩, hbo4_4_2⟩
    clear hF; intro hF
    replace hS := hS.call hbo4_4_2; have Eo4_4_3 := Ext.call (go3_7_1 :: (go3_6_1 :: (g9 :: (g5 :: (g1 :: X))))) hbo4_4_2
    have hA1 := ((hA.put_other _ rfl).cons (hF.get 44 _ rfl))
    exact ⟨5, rfl, ⟨Ao4_1_4, co4_1_5, Ao4_3_4, co4_3_5, Ao4_4_4, co4_4_5, (hA1.take (hA1.take (hA1.take hA1.nil rfl) rfl) rfl), hS, (E_w'.trans Eo4_4_3), (huo4_1_6.ext Eo4_4_3), (huo4_3_6.ext Eo4_4_3), huo4_4_6⟩, _, rfl, fun u hu => by cases hu <;> rfl⟩
   ·
    intro fa w' hΦ hF hB
    obtain ⟨Ao4_1_4, co4_1_5, Ao4_3_4, co4_3_5, go4_5_1, hA, hS, E_w', huo4_1_6, huo4_3_6⟩ := hΦ
    replace hF := hF.cons (hA.get 41 _ rfl)
    replace hF := hF.cons (hA.get 43 _ rfl)
    refine wop rfl rfl ?_
    have hC := integer_GCD_ok (w := w') (X := (go4_5_1 :: (go3_7_1 :: (go3_6_1 :: (g9 :: (g5 :: (g1 :: X))))))) (a := (a * c)) (b := (b * c)) (hS.bnd hX) (IntV.of_ (n := (((lim (a * c).natAbs))).length) (b := (decide ((a * c) < 0))) (x := a * c) (huo4_1_6) (rfl) (rfl) (rfl)) (IntV.of_ (n := (((lim (b * c).natAbs))).length) (b := (decide ((b * c) < 0))) (x := b * c) (huo4_3_6) (rfl) (rfl) (rfl)) (by have h1 := sz_mul a c; have h2 := sz_mul b c; have h3 := sz_gcd (x := a * c) (y := b * c) (n := 12) (by omega) (by omega); omega) (by have h1 := sz_mul a c; have h2 := sz_mul b c; have h3 := sz_gcd (x := a * c) (y := b * c) (n := 12) (by omega) (by omega); omega)
    refine op_call hF rfl TfLG.body23 (args2 (hF.ev rfl) (hF.ev rfl)) hC ?_
    clear hC
    rintro _ wo4_4_1 ⟨⟨_, rfl, Ao4_4_4, co4_4_5, rfl, huo4_4_6⟩, hbo4_4_2⟩
    clear hF; intro hF
    replace hS := hS.call hbo4_4_2; have Eo4_4_3 := Ext.call (go4_5_1 :: (go3_7_1 :: (go3_6_1 :: (g9 :: (g5 :: (g1 :: X)))))) hbo4_4_2
    have hA1 := ((hA.put_other _ rfl).cons (hF.get 44 _ rfl))
    exact ⟨7, rfl, ⟨Ao4_1_4, co4_1_5, Ao4_3_4, co4_3_5, Ao4_4_4, co4_4_5, go4_5_1, (hA1.take (hA1.take (hA1.take (hA1.take hA1.nil rfl) rfl) rfl) rfl), hS, (E_w'.trans Eo4_4_3), (huo4_1_6.ext Eo4_4_3), (huo4_3_6.ext Eo4_4_3), huo4_4_6⟩, _, rfl, fun u hu => by cases hu <;> rfl⟩
  ·
   refine .inr (.inr ⟨rfl, ?_, ?_, ?_, ?_, trivial⟩)
   ·
    intro fa w' hΦ hF hB
    obtain ⟨hA, hS, E_w'⟩ := hΦ
    refine wop rfl rfl ?_
    refine op_alloc (X := (go3_7_1 :: (go3_6_1 :: (g9 :: (g5 :: (g1 :: X)))))) hF hS rfl TfLG.zero24 ?_
    intro go4_5_1 wo4_5_2 hgo4_5_4 hS Eo4_5_3 hF
    replace hS : St w wo4_5_2 [(go4_5_1, 24, #[(.bool (false)), (.slice (none) (0) (0))]), (go3_7_1, 24, (ic (Ao3_5_4) (co3_5_5) ((b * c)))), (go3_6_1, 24, (ic (Ao3_2_4) (co3_2_5) ((a * c)))), (g9, 24, (ic (A_c) (c_c) (c))), (g5, 24, (ic (A_b) (c_b) (b))), (g1, 24, (ic (A_a) (c_a) (a)))] := hS
    have hA1 := ((hA.put_other _ rfl).cons (hF.get 9 _ rfl))
    exact ⟨2, rfl, ⟨go4_5_1, (hA1.take hA1.nil rfl), hS, (E_w'.trans Eo4_5_3)⟩, _, rfl, fun u hu => by cases hu <;> rfl⟩
   ·
    intro fa w' hΦ hF hB
    obtain ⟨Ao4_1_4, co4_1_5, hA, hS, E_w', huo4_1_6⟩ := hΦ
    refine wop rfl rfl ?_
    refine op_alloc (X := (go3_7_1 :: (go3_6_1 :: (g9 :: (g5 :: (g1 :: X)))))) hF hS rfl TfLG.zero24 ?_
    intro go4_5_1 wo4_5_2 hgo4_5_4 hS Eo4_5_3 hF
    replace hS : St w wo4_5_2 [(go4_5_1, 24, #[(.bool (false)), (.slice (none) (0) (0))]), (go3_7_1, 24, (ic (Ao3_5_4) (co3_5_5) ((b * c)))), (go3_6_1, 24, (ic (Ao3_2_4) (co3_2_5) ((a * c)))), (g9, 24, (ic (A_c) (c_c) (c))), (g5, 24, (ic (A_b) (c_b) (b))), (g1, 24, (ic (A_a) (c_a) (a)))] := hS
    have hA1 := ((hA.put_other _ rfl).cons (hF.get 9 _ rfl))
    exact ⟨4, rfl, ⟨Ao4_1_4, co4_1_5, go4_5_1, (hA1.take (hA1.take hA1.nil rfl) rfl), hS, (E_w'.trans Eo4_5_3), (huo4_1_6.ext Eo4_5_3)⟩, _, rfl, fun u hu => by cases hu <;> rfl⟩
   ·
    intro fa w' hΦ hF hB
    obtain ⟨Ao4_1_4, co4_1_5, Ao4_3_4, co4_3_5, hA, hS, E_w', huo4_1_6, huo4_3_6⟩ := hΦ
    refine wop rfl rfl ?_
    refine op_alloc (X := (go3_7_1 :: (go3_6_1 :: (g9 :: (g5 :: (g1 :: X)))))) hF hS rfl TfLG.zero24 ?_
    intro go4_5_1 wo4_5_2 hgo4_5_4 hS Eo4_5_3 hF
    replace hS : St w wo4_5_2 [(go4_5_1, 24, #[(.bool (false)), (.slice (none) (0) (0))]), (go3_7_1, 24, (ic (Ao3_5_4) (co3_5_5) ((b * c)))), (go3_6_1, 24, (ic (Ao3_2_4) (co3_2_5) ((a * c)))), (g9, 24, (ic (A_c) (c_c) (c))), (g5, 24, (ic (A_b) (c_b) (b))), (g1, 24, (ic (A_a) (c_a) (a)))] := hS
    have hA1 := ((hA.put_other _ rfl).cons (hF.get 9 _ rfl))
    exact ⟨6, rfl, ⟨Ao4_1_4, co4_1_5, Ao4_3_4, co4_3_5, go4_5_1, (hA1.take (hA1.take (hA1.take hA1.nil rfl) rfl) rfl), hS, (E_w'.trans Eo4_5_3), (huo4_1_6.ext Eo4_5_3), (huo4_3_6.ext Eo4_5_3)⟩, _, rfl, fun u hu => by cases hu <;> rfl⟩
   ·
    intro fa w' hΦ hF hB
    obtain ⟨Ao4_1_4, co4_1_5, Ao4_3_4, co4_3_5, Ao4_4_4, co4_4_5, hA, hS, E_w', huo4_1_6, huo4_3_6, huo4_4_6⟩ := hΦ
    refine wop rfl rfl ?_
    refine op_alloc (X := (go3_7_1 :: (go3_6_1 :: (g9 :: (g5 :: (g1 :: X)))))) hF hS rfl TfLG.zero24 ?_
    intro go4_5_1 wo4_5_2 hgo4_5_4 hS Eo4_5_3 hF
    replace hS : St w wo4_5_2 [(go4_5_1, 24, #[(.bool (false)), (.slice (none) (0) (0))]), (go3_7_1, 24, (ic (Ao3_5_4) (co3_5_5) ((b * c)))), (go3_6_1, 24, (ic (Ao3_2_4) (co3_2_5) ((a * c)))), (g9, 24, (ic (A_c) (c_c) (c))), (g5, 24, (ic (A_b) (c_b) (b))), (g1, 24, (ic (A_a) (c_a) (a)))] := hS
    have hA1 := ((hA.put_other _ rfl).cons (hF.get 9 _ rfl))
    exact ⟨7, rfl, ⟨Ao4_1_4, co4_1_5, Ao4_3_4, co4_3_5, Ao4_4_4, co4_4_5, go4_5_1, (hA1.take (hA1.take (hA1.take (hA1.take hA1.nil rfl) rfl) rfl) rfl), hS, (E_w'.trans Eo4_5_3), (huo4_1_6.ext Eo4_5_3), (huo4_3_6.ext Eo4_5_3), (huo4_4_6.ext Eo4_5_3)⟩, _, rfl, fun u hu => by cases hu <;> rfl⟩
  ·
   refine .inr (.inr ⟨rfl, ?_, trivial⟩)
   ·
    intro fa w' hΦ hF hB
    obtain ⟨Ao4_1_4, co4_1_5, Ao4_3_4, co4_3_5, Ao4_4_4, co4_4_5, go4_5_1, hA, hS, E_w', huo4_1_6, huo4_3_6, huo4_4_6⟩ := hΦ
    replace hF := hF.cons (hA.get 9 _ rfl)
    replace hF := hF.cons (hA.get 44 _ rfl)
    refine wop rfl rfl ?_
    refine op_store (X := (go4_5_1 :: (go3_7_1 :: (go3_6_1 :: (g9 :: (g5 :: (g1 :: X))))))) hF hS 0 rfl (by simp) rfl rfl rfl TfLG.size24 rfl (Nat.le_of_ble_eq_true rfl) ?_
    intro wo4_6_1 hS Eo4_6_2
    replace hS : St w wo4_6_1 [(go4_5_1, 24, (ic (Ao4_4_4) (co4_4_5) (((Nat.gcd (a * c).natAbs (b * c).natAbs : Nat) : Int)))), (go3_7_1, 24, (ic (Ao3_5_4) (co3_5_5) ((b * c)))), (go3_6_1, 24, (ic (Ao3_2_4) (co3_2_5) ((a * c)))), (g9, 24, (ic (A_c) (c_c) (c))), (g5, 24, (ic (A_b) (c_b) (b))), (g1, 24, (ic (A_a) (c_a) (a)))] := hS
    exact ⟨8, rfl, ⟨Ao4_1_4, co4_1_5, Ao4_3_4, co4_3_5, Ao4_4_4, co4_4_5, go4_5_1, hA, hS, (E_w'.trans Eo4_6_2), (huo4_1_6.ext Eo4_6_2), (huo4_3_6.ext Eo4_6_2), (huo4_4_6.ext Eo4_6_2)⟩, undef, rfl, fun u hu => by cases hu <;> rfl⟩
 intro fa w29 hΦ hF hC
 obtain ⟨Ao4_1_4, co4_1_5, Ao4_3_4, co4_3_5, Ao4_4_4, co4_4_5, go4_5_1, hA, hS, E_w29, huo4_1_6, huo4_3_6, huo4_4_6⟩ := hΦ
 replace hF := hF.cons (hA.get 9 _ rfl)
 clear hA hC
 refine x_tn ?_
 refine c_seq ?_
 refine c_seq ?_
 refine drawn2 (N := 103) (L0 := [(0, (.agg (ic (A_a) (c_a) (a)))), (1, (.agg (ic (A_b) (c_b) (b)))), (2, (.agg (ic (A_c) (c_c) (c)))), (3, (.pointer (some ⟨g1, 0, none⟩))), (4, (.pointer (some ⟨g5, 0, none⟩))), (5, (.pointer (some ⟨g9, 0, none⟩))), (6, (.bool (false))), (32, (.bool (false))), (7, (.pointer (some ⟨go3_6_1, 0, none⟩))), (8, (.pointer (some ⟨go3_7_1, 0, none⟩))), (9, (.pointer (some ⟨go4_5_1, 0, none⟩)))]) [some (.agg (ic (Ao4_4_4) (co4_4_5) (((Nat.gcd (a * c).natAbs (b * c).natAbs : Nat) : Int)))), some (.agg (ic (Ao3_2_4) (co3_2_5) ((a * c)))), some (.agg (ic (Ao3_5_4) (co3_5_5) ((b * c)))), none, some (.bool (true)), some (.bool (false)), some (.bool (false)), some (.agg (ic (Ao4_4_4) (co4_4_5) (((Nat.gcd (a * c).natAbs (b * c).natAbs : Nat) : Int)))), some (.int .i64 (sgnI (((Nat.gcd (a * c).natAbs (b * c).natAbs : Nat) : Int)))), some (.bool (decide ((sgnI (((Nat.gcd (a * c).natAbs (b * c).natAbs : Nat) : Int))) = 0))), some (.bool (decide ((sgnI (((Nat.gcd (a * c).natAbs (b * c).natAbs : Nat) : Int))) = 0)))] [3, 4, 6, 8] [[], [3], [3, 4], [3, 4, 6], [3, 4, 6, 8]] [[0, 1], [0], [0], [0], [1], [2], [2], [3], [3], [4], [3, 4]] 4 [
       fun fa w' => Frm 103 fa [] ∧ St w w' [(go4_5_1, 24, (ic (Ao4_4_4) (co4_4_5) (((Nat.gcd (a * c).natAbs (b * c).natAbs : Nat) : Int)))), (go3_7_1, 24, (ic (Ao3_5_4) (co3_5_5) ((b * c)))), (go3_6_1, 24, (ic (Ao3_2_4) (co3_2_5) ((a * c)))), (g9, 24, (ic (A_c) (c_c) (c))), (g5, 24, (ic (A_b) (c_b) (b))), (g1, 24, (ic (A_a) (c_a) (a)))] ∧ Ext w29 (go4_5_1 :: (go3_7_1 :: (go3_6_1 :: (g9 :: (g5 :: (g1 :: X)))))) w' (go4_5_1 :: (go3_7_1 :: (go3_6_1 :: (g9 :: (g5 :: (g1 :: X))))))
       , fun fa w' => ∃ Ao5_3_4 : Option Addr, ∃ co5_3_5 : Nat, Frm 103 fa [(48, (.agg (ic (Ao5_3_4) (co5_3_5) (((Nat.gcd (a * c).natAbs (b * c).natAbs : Nat) : Int)))))] ∧ St w w' [(go4_5_1, 24, (ic (Ao4_4_4) (co4_4_5) (((Nat.gcd (a * c).natAbs (b * c).natAbs : Nat) : Int)))), (go3_7_1, 24, (ic (Ao3_5_4) (co3_5_5) ((b * c)))), (go3_6_1, 24, (ic (Ao3_2_4) (co3_2_5) ((a * c)))), (g9, 24, (ic (A_c) (c_c) (c))), (g5, 24, (ic (A_b) (c_b) (b))), (g1, 24, (ic (A_a) (c_a) (a)))] ∧ Ext w29 (go4_5_1 :: (go3_7_1 :: (go3_6_1 :: (g9 :: (g5 :: (g1 :: X)))))) w' (go4_5_1 :: (go3_7_1 :: (go3_6_1 :: (g9 :: (g5 :: (g1 :: X)))))) ∧ UC w' (go4_5_1 :: (go3_7_1 :: (go3_6_1 :: (g9 :: (g5 :: (g1 :: X)))))) Ao5_3_4 co5_3_5 (lim (((Nat.gcd (a * c).natAbs (b * c).natAbs : Nat) : Int)).natAbs)
       , fun fa w' => ∃ Ao5_3_4 : Option Addr, ∃ co5_3_5 : Nat, Frm 103 fa [(48, (.agg (ic (Ao5_3_4) (co5_3_5) (((Nat.gcd (a * c).natAbs (b * c).natAbs : Nat) : Int))))), (49, (.bool (true)))] ∧ St w w' [(go4_5_1, 24, (ic (Ao4_4_4) (co4_4_5) (((Nat.gcd (a * c).natAbs (b * c).natAbs : Nat) : Int)))), (go3_7_1, 24, (ic (Ao3_5_4) (co3_5_5) ((b * c)))), (go3_6_1, 24, (ic (Ao3_2_4) (co3_2_5) ((a * c)))), (g9, 24, (ic (A_c) (c_c) (c))), (g5, 24, (ic (A_b) (c_b) (b))), (g1, 24, (ic (A_a) (c_a) (a)))] ∧ Ext w29 (go4_5_1 :: (go3_7_1 :: (go3_6_1 :: (g9 :: (g5 :: (g1 :: X)))))) w' (go4_5_1 :: (go3_7_1 :: (go3_6_1 :: (g9 :: (g5 :: (g1 :: X)))))) ∧ UC w' (go4_5_1 :: (go3_7_1 :: (go3_6_1 :: (g9 :: (g5 :: (g1 :: X)))))) Ao5_3_4 co5_3_5 (lim (((Nat.gcd (a * c).natAbs (b * c).natAbs : Nat) : Int)).natAbs)
       , fun fa w' => ∃ Ao5_3_4 : Option Addr, ∃ co5_3_5 : Nat, Frm 103 fa [(48, (.agg (ic (Ao5_3_4) (co5_3_5) (((Nat.gcd (a * c).natAbs (b * c).natAbs : Nat) : Int))))), (49, (.bool (true))), (51, (.bool (false)))] ∧ St w w' [(go4_5_1, 24, (ic (Ao4_4_4) (co4_4_5) (((Nat.gcd (a * c).natAbs (b * c).natAbs : Nat) : Int)))), (go3_7_1, 24, (ic (Ao3_5_4) (co3_5_5) ((b * c)))), (go3_6_1, 24, (ic (Ao3_2_4) (co3_2_5) ((a * c)))), (g9, 24, (ic (A_c) (c_c) (c))), (g5, 24, (ic (A_b) (c_b) (b))), (g1, 24, (ic (A_a) (c_a) (a)))] ∧ Ext w29 (go4_5_1 :: (go3_7_1 :: (go3_6_1 :: (g9 :: (g5 :: (g1 :: X)))))) w' (go4_5_1 :: (go3_7_1 :: (go3_6_1 :: (g9 :: (g5 :: (g1 :: X)))))) ∧ UC w' (go4_5_1 :: (go3_7_1 :: (go3_6_1 :: (g9 :: (g5 :: (g1 :: X)))))) Ao5_3_4 co5_3_5 (lim (((Nat.gcd (a * c).natAbs (b * c).natAbs : Nat) : Int)).natAbs)
       , fun fa w' => ∃ Ao5_3_4 : Option Addr, ∃ co5_3_5 : Nat, Frm 103 fa [(48, (.agg (ic (Ao5_3_4) (co5_3_5) (((Nat.gcd (a * c).natAbs (b * c).natAbs : Nat) : Int))))), (49, (.bool (true))), (51, (.bool (false))), (53, (.int .i64 (sgnI (((Nat.gcd (a * c).natAbs (b * c).natAbs : Nat) : Int)))))] ∧ St w w' [(go4_5_1, 24, (ic (Ao4_4_4) (co4_4_5) (((Nat.gcd (a * c).natAbs (b * c).natAbs : Nat) : Int)))), (go3_7_1, 24, (ic (Ao3_5_4) (co3_5_5) ((b * c)))), (go3_6_1, 24, (ic (Ao3_2_4) (co3_2_5) ((a * c)))), (g9, 24, (ic (A_c) (c_c) (c))), (g5, 24, (ic (A_b) (c_b) (b))), (g1, 24, (ic (A_a) (c_a) (a)))] ∧ Ext w29 (go4_5_1 :: (go3_7_1 :: (go3_6_1 :: (g9 :: (g5 :: (g1 :: X)))))) w' (go4_5_1 :: (go3_7_1 :: (go3_6_1 :: (g9 :: (g5 :: (g1 :: X)))))) ∧ UC w' (go4_5_1 :: (go3_7_1 :: (go3_6_1 :: (g9 :: (g5 :: (g1 :: X)))))) Ao5_3_4 co5_3_5 (lim (((Nat.gcd (a * c).natAbs (b * c).natAbs : Nat) : Int)).natAbs)
     ] TfLG.mixed rfl rfl rfl rfl rfl rfl (hF.take (hF.take (hF.take (hF.take (hF.take (hF.take (hF.take (hF.take (hF.take (hF.take (hF.take hF.nil rfl) rfl) rfl) rfl) rfl) rfl) rfl) rfl) rfl) rfl) rfl) rfl ⟨hF.nil, hS.drew, Ext.drew _ _⟩ ?_ ?_ ?_
 all_goals clear hF fa
 ·
  refine ⟨?_, ?_, ?_, ?_, ?_, trivial⟩
  ·
   rintro fa w' i o d v ho hd hna ⟨hA, hR⟩; exact ⟨hA.put_other v (freeOf_at (acts := [3, 4, 6, 8]) rfl ho hd hna), hR⟩
  ·
   rintro fa w' i o d v ho hd hna ⟨Ao5_3_4, co5_3_5, hA, hR⟩; exact ⟨Ao5_3_4, co5_3_5, hA.put_other v (freeOf_at (acts := [3, 4, 6, 8]) rfl ho hd hna), hR⟩
  ·
   rintro fa w' i o d v ho hd hna ⟨Ao5_3_4, co5_3_5, hA, hR⟩; exact ⟨Ao5_3_4, co5_3_5, hA.put_other v (freeOf_at (acts := [3, 4, 6, 8]) rfl ho hd hna), hR⟩
  ·
   rintro fa w' i o d v ho hd hna ⟨Ao5_3_4, co5_3_5, hA, hR⟩; exact ⟨Ao5_3_4, co5_3_5, hA.put_other v (freeOf_at (acts := [3, 4, 6, 8]) rfl ho hd hna), hR⟩
  ·
   rintro fa w' i o d v ho hd hna ⟨Ao5_3_4, co5_3_5, hA, hR⟩; exact ⟨Ao5_3_4, co5_3_5, hA.put_other v (freeOf_at (acts := [3, 4, 6, 8]) rfl ho hd hna), hR⟩
 ·
  refine ⟨?_, ?_, ?_, ?_, ?_, ?_, ?_, ?_, ?_, ?_, ?_, trivial⟩
  ·
   refine .inr (.inl ⟨rfl, _, _, rfl, rfl, ?_, ?_, trivial⟩)
   ·
    intro fa w' hΦ hF hB K hK
    obtain ⟨hA, hS, E_w'⟩ := hΦ
    exact fl_val rfl rfl rfl (ex_loadb TfLG.row24 (hF.ev rfl) (hS.get 0 rfl) rfl) hK
   ·
    intro fa w' hΦ hF hB K hK
    obtain ⟨Ao5_3_4, co5_3_5, hA, hS, E_w', huo5_3_6⟩ := hΦ
    exact fl_val rfl rfl rfl (ex_loadb TfLG.row24 (hF.ev rfl) (hS.get 0 rfl) rfl) hK
  ·
   refine .inr (.inl ⟨rfl, _, _, rfl, rfl, ?_, trivial⟩)
   ·
    intro fa w' hΦ hF hB K hK
    obtain ⟨hA, hS, E_w'⟩ := hΦ
    exact fl_val rfl rfl rfl (ex_loadb TfLG.row24 (hF.ev rfl) (hS.get 2 rfl) rfl) hK
  ·
   refine .inr (.inl ⟨rfl, _, _, rfl, rfl, ?_, trivial⟩)
   ·
    intro fa w' hΦ hF hB K hK
    obtain ⟨hA, hS, E_w'⟩ := hΦ
    exact fl_val rfl rfl rfl (ex_loadb TfLG.row24 (hF.ev rfl) (hS.get 1 rfl) rfl) hK
  ·
   refine .inr (.inr ⟨rfl, ?_, trivial⟩)
   ·
    intro fa w' hΦ hF hB
    obtain ⟨hA, hS, E_w'⟩ := hΦ
    replace hF := hF.cons (hB.val 1 _ 46 _ rfl rfl rfl rfl)
    replace hF := hF.cons (hB.val 2 _ 47 _ rfl rfl rfl rfl)
    refine wop rfl rfl ?_
    have hC := ref01_GCD_ok (w := w') (X := (go4_5_1 :: (go3_7_1 :: (go3_6_1 :: (g9 :: (g5 :: (g1 :: X))))))) (a := (a * c)) (b := (b * c)) (hS.bnd hX) (IntV.of_ (n := (lim (a * c).natAbs).length) (b := decide ((a * c) < 0)) (x := a * c) ((huo3_2_6.ext (E_w29.trans E_w'))) (rfl) (rfl) (rfl)) (IntV.of_ (n := (lim (b * c).natAbs).length) (b := decide ((b * c) < 0)) (x := b * c) ((huo3_5_6.ext (E_w29.trans E_w'))) (rfl) (rfl) (rfl)) (by have h1 := sz_mul a c; have h2 := sz_mul b c; have h3 := sz_gcd (x := a * c) (y := b * c) (n := 12) (by omega) (by omega); omega) (by have h1 := sz_mul a c; have h2 := sz_mul b c; have h3 := sz_gcd (x := a * c) (y := b * c) (n := 12) (by omega) (by omega); omega)
    refine op_call hF rfl TfLG.body24 (args2 (hF.ev rfl) (hF.ev rfl)) hC ?_
    clear hC
    rintro _ wo5_3_1 ⟨⟨_, rfl, Ao5_3_4, co5_3_5, rfl, huo5_3_6⟩, hbo5_3_2⟩
    clear hF; intro hF
    replace hS := hS.call hbo5_3_2; have Eo5_3_3 := Ext.call (go4_5_1 :: (go3_7_1 :: (go3_6_1 :: (g9 :: (g5 :: (g1 :: X)))))) hbo5_3_2
    have hA1 := ((hA.put_other _ rfl).cons (hF.get 48 _ rfl))
    exact ⟨1, rfl, ⟨Ao5_3_4, co5_3_5, (hA1.take hA1.nil rfl), hS, (E_w'.trans Eo5_3_3), huo5_3_6⟩, _, rfl, fun u hu => by cases hu <;> rfl⟩
  ·
   refine .inr (.inr ⟨rfl, ?_, trivial⟩)
   ·
    intro fa w' hΦ hF hB
    obtain ⟨Ao5_3_4, co5_3_5, hA, hS, E_w', huo5_3_6⟩ := hΦ
    replace hF := hF.cons (hB.val 0 _ 45 _ rfl rfl rfl rfl)
    replace hF := hF.cons (hA.get 48 _ rfl)
    refine wop rfl rfl ?_
    have hC := law01_same_ok (w := w') (X := (go4_5_1 :: (go3_7_1 :: (go3_6_1 :: (g9 :: (g5 :: (g1 :: X))))))) (a := ((Nat.gcd (a * c).natAbs (b * c).natAbs : Nat) : Int)) (b := ((Nat.gcd (a * c).natAbs (b * c).natAbs : Nat) : Int)) (hS.bnd hX) (IntV.of_ (n := (lim (((Nat.gcd (a * c).natAbs (b * c).natAbs : Nat) : Int)).natAbs).length) (b := decide (((Nat.gcd (a * c).natAbs (b * c).natAbs : Nat) : Int) < 0)) (x := ((Nat.gcd (a * c).natAbs (b * c).natAbs : Nat) : Int)) ((huo4_4_6.ext E_w')) (rfl) (rfl) (rfl)) (IntV.of_ (n := (lim (((Nat.gcd (a * c).natAbs (b * c).natAbs : Nat) : Int)).natAbs).length) (b := decide (((Nat.gcd (a * c).natAbs (b * c).natAbs : Nat) : Int) < 0)) (x := ((Nat.gcd (a * c).natAbs (b * c).natAbs : Nat) : Int)) (huo5_3_6) (rfl) (rfl) (rfl))
    rw [show (decide ((((Nat.gcd (a * c).natAbs (b * c).natAbs : Nat) : Int)) = (((Nat.gcd (a * c).natAbs (b * c).natAbs : Nat) : Int)))) = true from by simp] at hC
    refine op_call hF rfl TfLG.body19 (args2 (hF.ev rfl) (hF.ev rfl)) hC ?_
    clear hC
    rintro _ wo5_4_1 ⟨rfl, hbo5_4_2⟩
    clear hF; intro hF
    replace hS := hS.call hbo5_4_2; have Eo5_4_3 := Ext.call (go4_5_1 :: (go3_7_1 :: (go3_6_1 :: (g9 :: (g5 :: (g1 :: X)))))) hbo5_4_2
    have hA1 := ((hA.put_other _ rfl).cons (hF.get 49 _ rfl))
    exact ⟨2, rfl, ⟨Ao5_3_4, co5_3_5, (hA1.take (hA1.take hA1.nil rfl) rfl), hS, (E_w'.trans Eo5_4_3), (huo5_3_6.ext Eo5_4_3)⟩, _, rfl, fun u hu => by cases hu <;> rfl⟩
  ·
   refine .inl ⟨rfl, _, _, rfl, rfl, fun s fa w' hΦ hF hB K hK => ?_⟩
   replace hF := hF.cons (hB.val 4 _ 49 _ rfl rfl rfl rfl)
   exact fl_val rfl rfl rfl (ex_not (hF.ev rfl)) hK
  ·
   refine .inr (.inr ⟨rfl, ?_, trivial⟩)
   ·
    intro fa w' hΦ hF hB
    obtain ⟨Ao5_3_4, co5_3_5, hA, hS, E_w', huo5_3_6⟩ := hΦ
    replace hF := hF.cons (hB.val 5 _ 50 _ rfl rfl rfl rfl)
    refine wop rfl rfl ?_
    refine op_val hF rfl rfl (ex_move (hF.ev rfl)) ?_; clear hF; intro hF
    have hA1 := ((hA.put_other _ rfl).cons (hF.get 51 _ rfl))
    exact ⟨3, rfl, ⟨Ao5_3_4, co5_3_5, (hA1.take (hA1.take (hA1.take hA1.nil rfl) rfl) rfl), hS, E_w', huo5_3_6⟩, _, rfl, fun u hu => by cases hu <;> rfl⟩
  ·
   refine .inr (.inl ⟨rfl, _, _, rfl, rfl, ?_, trivial⟩)
   ·
    intro fa w' hΦ hF hB K hK
    obtain ⟨Ao5_3_4, co5_3_5, hA, hS, E_w', huo5_3_6⟩ := hΦ
    replace hF := hF.cons (hB.val 6 _ 51 _ rfl rfl rfl rfl)
    exact fl_valg hF rfl rfl rfl rfl (ex_loadb TfLG.row24 (hF.ev rfl) (hS.get 0 rfl) rfl) hK
  ·
   refine .inr (.inr ⟨rfl, ?_, trivial⟩)
   ·
    intro fa w' hΦ hF hB
    obtain ⟨Ao5_3_4, co5_3_5, hA, hS, E_w', huo5_3_6⟩ := hΦ
    replace hF := hF.cons (hB.val 7 _ 52 _ rfl rfl rfl rfl)
    replace hF := hF.cons (hB.val 6 _ 51 _ rfl rfl rfl rfl)
    refine wopg hF rfl rfl rfl ?_
    have hC := ref01_Sign_ok (w := w') (X := (go4_5_1 :: (go3_7_1 :: (go3_6_1 :: (g9 :: (g5 :: (g1 :: X))))))) (a := ((Nat.gcd (a * c).natAbs (b * c).natAbs : Nat) : Int)) (hS.bnd hX) (IntV.of_ (n := (lim (((Nat.gcd (a * c).natAbs (b * c).natAbs : Nat) : Int)).natAbs).length) (b := decide (((Nat.gcd (a * c).natAbs (b * c).natAbs : Nat) : Int) < 0)) (x := ((Nat.gcd (a * c).natAbs (b * c).natAbs : Nat) : Int)) ((huo4_4_6.ext E_w')) (rfl) (rfl) (rfl))
    refine op_call hF rfl TfLG.body15 (args1 (hF.ev rfl)) hC ?_
    clear hC
    rintro _ wo5_8_1 ⟨rfl, hbo5_8_2⟩
    clear hF; intro hF
    replace hS := hS.call hbo5_8_2; have Eo5_8_3 := Ext.call (go4_5_1 :: (go3_7_1 :: (go3_6_1 :: (g9 :: (g5 :: (g1 :: X)))))) hbo5_8_2
    have hA1 := ((hA.put_other _ rfl).cons (hF.get 53 _ rfl))
    exact ⟨4, rfl, ⟨Ao5_3_4, co5_3_5, (hA1.take (hA1.take (hA1.take (hA1.take hA1.nil rfl) rfl) rfl) rfl), hS, (E_w'.trans Eo5_8_3), (huo5_3_6.ext Eo5_8_3)⟩, _, rfl, fun u hu => by cases hu <;> rfl⟩
  ·
   refine .inl ⟨rfl, _, _, rfl, rfl, fun s fa w' hΦ hF hB K hK => ?_⟩
   replace hF := hF.cons (hB.val 8 _ 53 _ rfl rfl rfl rfl)
   replace hF := hF.cons (hB.val 6 _ 51 _ rfl rfl rfl rfl)
   exact fl_valg hF rfl rfl rfl rfl (ex_eql (hF.ev rfl) (hF.ev rfl)) hK
  ·
   refine .inl ⟨rfl, _, _, rfl, rfl, fun s fa w' hΦ hF hB K hK => ?_⟩
   replace hF := hF.cons (hB.val 6 _ 51 _ rfl rfl rfl rfl)
   replace hF := hF.cons (hB.val 9 _ 54 _ rfl rfl rfl rfl)
   exact fl_val rfl rfl rfl (ex_pick (hF.ev rfl) (u := undef) (fun h => by cases h) (fun _ => hF.ev rfl) rfl) hK
 intro fa w30 hΦ hF hC
 obtain ⟨Ao5_3_4, co5_3_5, hA, hS, E_w30, huo5_3_6⟩ := hΦ
 replace hF := hF.cons (hC 10 _ 55 _ rfl rfl rfl)
 clear hA hC
 refine x_tn ?_
 refine c_cond hF rfl (fun hc31 => ?_) (fun hc31 => ?_)
 ·
  have hc31p : (sgnI (((Nat.gcd (a * c).natAbs (b * c).natAbs : Nat) : Int))) = 0 := by first | simpa using hc31 | exact bang_t hc31 | exact bang_f hc31
  obtain ⟨hx0, hy0⟩ := gcd_zero_law hc31p
  refine c_seq ?_
  refine c_reg ?_
  refine st_val hF rfl rfl rfl (ex_loadb TfLG.row24 (hF.ev rfl) (hS.get 0 rfl) rfl) ?_
  clear hF fa; intro fa hF
  have hC := ref01_Sign_ok (w := w30) (X := (go4_5_1 :: (go3_7_1 :: (go3_6_1 :: (g9 :: (g5 :: (g1 :: X))))))) (a := ((Nat.gcd (a * c).natAbs (b * c).natAbs : Nat) : Int)) (hS.bnd hX) (IntV.of_ (n := (lim (((Nat.gcd (a * c).natAbs (b * c).natAbs : Nat) : Int)).natAbs).length) (b := decide (((Nat.gcd (a * c).natAbs (b * c).natAbs : Nat) : Int) < 0)) (x := ((Nat.gcd (a * c).natAbs (b * c).natAbs : Nat) : Int)) ((huo4_4_6.ext E_w30)) (rfl) (rfl) (rfl))
  refine st rfl (op_call hF rfl TfLG.body15 (args1 (hF.ev rfl)) hC ?_)
  clear hC
  rintro _ w32 ⟨rfl, hb33⟩
  refine gen_ ?_; clear hF fa; intro fa hF
  replace hS := hS.call hb33; have E34 := Ext.call (go4_5_1 :: (go3_7_1 :: (go3_6_1 :: (g9 :: (g5 :: (g1 :: X)))))) hb33
  refine st_val hF rfl rfl rfl (ex_b (t := decide ((sgnI (((Nat.gcd (a * c).natAbs (b * c).natAbs : Nat) : Int))) = 0)) (b := true) (by rw [decide_eq_true_eq, hx0, hy0]; decide) (ex_eql (hF.ev rfl) (hF.ev rfl))) ?_
  clear hF fa; intro fa hF
  refine st_val hF rfl rfl rfl (ex_move (hF.ev rfl)) ?_
  clear hF fa; intro fa hF
  refine stg_val hF rfl rfl rfl rfl (ex_loadb TfLG.row24 (hF.ev rfl) (hS.get 2 rfl) rfl) ?_
  clear hF fa; intro fa hF
  have hC := ref01_Sign_ok (w := w32) (X := (go4_5_1 :: (go3_7_1 :: (go3_6_1 :: (g9 :: (g5 :: (g1 :: X))))))) (a := (a * c)) (hS.bnd hX) (IntV.of_ (n := (lim (a * c).natAbs).length) (b := decide ((a * c) < 0)) (x := a * c) ((huo3_2_6.ext ((E_w29.trans E_w30).trans E34))) (rfl) (rfl) (rfl))
  refine stg hF rfl rfl (op_call hF rfl TfLG.body15 (args1 (hF.ev rfl)) hC ?_)
  clear hC
  rintro _ w35 ⟨rfl, hb36⟩
  refine gen_ ?_; clear hF fa; intro fa hF
  replace hS := hS.call hb36; have E37 := Ext.call (go4_5_1 :: (go3_7_1 :: (go3_6_1 :: (g9 :: (g5 :: (g1 :: X)))))) hb36
  refine stg_val hF rfl rfl rfl rfl (ex_b (t := decide ((sgnI (a * c)) = 0)) (b := true) (by rw [decide_eq_true_eq, hx0]; decide) (ex_eql (hF.ev rfl) (hF.ev rfl))) ?_
  clear hF fa; intro fa hF
  refine st_val hF rfl rfl rfl (ex_pick (hF.ev rfl) (fun _ => hF.ev rfl) (v := undef) (fun h => by cases h) rfl) ?_
  clear hF fa; intro fa hF
  refine st_val hF rfl rfl rfl (ex_move (hF.ev rfl)) ?_
  clear hF fa; intro fa hF
  refine stg_val hF rfl rfl rfl rfl (ex_loadb TfLG.row24 (hF.ev rfl) (hS.get 1 rfl) rfl) ?_
  clear hF fa; intro fa hF
  have hC := ref01_Sign_ok (w := w35) (X := (go4_5_1 :: (go3_7_1 :: (go3_6_1 :: (g9 :: (g5 :: (g1 :: X))))))) (a := (b * c)) (hS.bnd hX) (IntV.of_ (n := (lim (b * c).natAbs).length) (b := decide ((b * c) < 0)) (x := b * c) ((huo3_5_6.ext (((E_w29.trans E_w30).trans E34).trans E37))) (rfl) (rfl) (rfl))
  refine stg hF rfl rfl (op_call hF rfl TfLG.body15 (args1 (hF.ev rfl)) hC ?_)
  clear hC
  rintro _ w38 ⟨rfl, hb39⟩
  refine gen_ ?_; clear hF fa; intro fa hF
  replace hS := hS.call hb39; have E40 := Ext.call (go4_5_1 :: (go3_7_1 :: (go3_6_1 :: (g9 :: (g5 :: (g1 :: X)))))) hb39
  refine stg_val hF rfl rfl rfl rfl (ex_b (t := decide ((sgnI (b * c)) = 0)) (b := true) (by rw [decide_eq_true_eq, hy0]; decide) (ex_eql (hF.ev rfl) (hF.ev rfl))) ?_
  clear hF fa; intro fa hF
  refine st_val hF rfl rfl rfl (ex_pick (hF.ev rfl) (fun _ => hF.ev rfl) (v := undef) (fun h => by cases h) rfl) ?_
  clear hF fa; intro fa hF
  refine st_val hF rfl rfl rfl (ex_assign (hF.ev rfl)) ?_
  clear hF fa; intro fa hF
  replace hF : Frm 103 fa [(0, (.agg (ic (A_a) (c_a) (a)))), (1, (.agg (ic (A_b) (c_b) (b)))), (2, (.agg (ic (A_c) (c_c) (c)))), (3, (.pointer (some ⟨g1, 0, none⟩))), (4, (.pointer (some ⟨g5, 0, none⟩))), (5, (.pointer (some ⟨g9, 0, none⟩))), (6, (.bool (true))), (32, (.bool (false))), (7, (.pointer (some ⟨go3_6_1, 0, none⟩))), (8, (.pointer (some ⟨go3_7_1, 0, none⟩))), (9, (.pointer (some ⟨go4_5_1, 0, none⟩))), (55, (.bool (decide ((sgnI (((Nat.gcd (a * c).natAbs (b * c).natAbs : Nat) : Int))) = 0))))] := (hF.take (hF.take (hF.take (hF.take (hF.take (hF.take (hF.take (hF.take (hF.take (hF.take (hF.take (hF.take hF.nil rfl) rfl) rfl) rfl) rfl) rfl) rfl) rfl) rfl) rfl) rfl) rfl)
  refine c_nil_then ?_
  refine c_ret ?_
  refine x_tr ?_
  refine end1 hF rfl (res_tmp hF rfl) ?_
  exact ⟨_, rfl, (congrArg Value.bool (by simp_all)), hS.below⟩
 have hc31p : ¬ ((sgnI (((Nat.gcd (a * c).natAbs (b * c).natAbs : Nat) : Int))) = 0) := by first | simpa using hc31 | exact bang_t hc31 | exact bang_f hc31
 obtain ⟨hg1, hg2, hg3, hg4⟩ := gcd_law rfl hc31p
 refine c_skip ?_
 refine x_tn ?_
 refine c_seq ?_
 refine c_reg ?_
 refine st_val hF rfl rfl rfl (ex_loadb TfLG.row24 (hF.ev rfl) (hS.get 2 rfl) rfl) ?_
 clear hF fa; intro fa hF
 refine st_val hF rfl rfl rfl (ex_loadb TfLG.row24 (hF.ev rfl) (hS.get 0 rfl) rfl) ?_
 clear hF fa; intro fa hF
 have hC := integer_DivMod_ok (w := w30) (X := (go4_5_1 :: (go3_7_1 :: (go3_6_1 :: (g9 :: (g5 :: (g1 :: X))))))) (a := (a * c)) (b := ((Nat.gcd (a * c).natAbs (b * c).natAbs : Nat) : Int)) (hS.bnd hX) (IntV.of_ (n := (lim (a * c).natAbs).length) (b := decide ((a * c) < 0)) (x := a * c) ((huo3_2_6.ext (E_w29.trans E_w30))) (rfl) (rfl) (rfl)) (IntV.of_ (n := (lim (((Nat.gcd (a * c).natAbs (b * c).natAbs : Nat) : Int)).natAbs).length) (b := decide (((Nat.gcd (a * c).natAbs (b * c).natAbs : Nat) : Int) < 0)) (x := ((Nat.gcd (a * c).natAbs (b * c).natAbs : Nat) : Int)) ((huo4_4_6.ext E_w30)) (rfl) (rfl) (rfl)) (by have h1 := sz_mul a c; have h2 := sz_mul b c; have h3 := sz_gcd (x := a * c) (y := b * c) (n := 12) (by omega) (by omega); omega) (by have h1 := sz_mul a c; have h2 := sz_mul b c; have h3 := sz_gcd (x := a * c) (y := b * c) (n := 12) (by omega) (by omega); omega)
 refine st rfl (op_call hF rfl TfLG.body13 (args2 (hF.ev rfl) (hF.ev rfl)) hC ?_)
 clear hC
 rintro _ w41 ⟨⟨_, _, _, rfl, ⟨_, rfl, A44, c45, rfl, hu46⟩, ⟨_, rfl, A47, c48, rfl, hu49⟩, rfl⟩, hb42⟩
 refine gen_ ?_; clear hF fa; intro fa hF
 replace hS := hS.call hb42; have E43 := Ext.call (go4_5_1 :: (go3_7_1 :: (go3_6_1 :: (g9 :: (g5 :: (g1 :: X)))))) hb42
 refine st_val hF rfl rfl rfl (ex_move (hF.ev rfl)) ?_
 clear hF fa; intro fa hF
 refine st_val hF rfl rfl rfl (ex_extract (hF.ev rfl) rfl) ?_
 clear hF fa; intro fa hF
 refine st_val hF rfl rfl rfl (ex_extract (hF.ev rfl) rfl) ?_
 clear hF fa; intro fa hF
 refine st_val hF rfl rfl rfl (ex_extract (hF.ev rfl) rfl) ?_
 clear hF fa; intro fa hF
 refine st rfl (op_alloc (X := (go4_5_1 :: (go3_7_1 :: (go3_6_1 :: (g9 :: (g5 :: (g1 :: X))))))) hF hS rfl TfLG.zero24 ?_)
 intro g50 w51 hg53 hS E52; refine gen_ ?_; clear hF fa; intro fa hF
 replace hS : St w w51 [(g50, 24, #[(.bool (false)), (.slice (none) (0) (0))]), (go4_5_1, 24, (ic (Ao4_4_4) (co4_4_5) (((Nat.gcd (a * c).natAbs (b * c).natAbs : Nat) : Int)))), (go3_7_1, 24, (ic (Ao3_5_4) (co3_5_5) ((b * c)))), (go3_6_1, 24, (ic (Ao3_2_4) (co3_2_5) ((a * c)))), (g9, 24, (ic (A_c) (c_c) (c))), (g5, 24, (ic (A_b) (c_b) (b))), (g1, 24, (ic (A_a) (c_a) (a)))] := hS
 refine st rfl (op_alloc (X := (g50 :: (go4_5_1 :: (go3_7_1 :: (go3_6_1 :: (g9 :: (g5 :: (g1 :: X)))))))) hF hS rfl TfLG.zero24 ?_)
 intro g54 w55 hg57 hS E56; refine gen_ ?_; clear hF fa; intro fa hF
 replace hS : St w w55 [(g54, 24, #[(.bool (false)), (.slice (none) (0) (0))]), (g50, 24, #[(.bool (false)), (.slice (none) (0) (0))]), (go4_5_1, 24, (ic (Ao4_4_4) (co4_4_5) (((Nat.gcd (a * c).natAbs (b * c).natAbs : Nat) : Int)))), (go3_7_1, 24, (ic (Ao3_5_4) (co3_5_5) ((b * c)))), (go3_6_1, 24, (ic (Ao3_2_4) (co3_2_5) ((a * c)))), (g9, 24, (ic (A_c) (c_c) (c))), (g5, 24, (ic (A_b) (c_b) (b))), (g1, 24, (ic (A_a) (c_a) (a)))] := hS
 refine st rfl (op_store (X := (g54 :: (g50 :: (go4_5_1 :: (go3_7_1 :: (go3_6_1 :: (g9 :: (g5 :: (g1 :: X))))))))) hF hS 1 rfl (by simp) rfl rfl rfl TfLG.size24 rfl (Nat.le_of_ble_eq_true rfl) ?_)
 intro w58 hS E59
 replace hS : St w w58 [(g54, 24, #[(.bool (false)), (.slice (none) (0) (0))]), (g50, 24, (ic (A44) (c45) (((a * c).fdiv (((Nat.gcd (a * c).natAbs (b * c).natAbs : Nat) : Int)))))), (go4_5_1, 24, (ic (Ao4_4_4) (co4_4_5) (((Nat.gcd (a * c).natAbs (b * c).natAbs : Nat) : Int)))), (go3_7_1, 24, (ic (Ao3_5_4) (co3_5_5) ((b * c)))), (go3_6_1, 24, (ic (Ao3_2_4) (co3_2_5) ((a * c)))), (g9, 24, (ic (A_c) (c_c) (c))), (g5, 24, (ic (A_b) (c_b) (b))), (g1, 24, (ic (A_a) (c_a) (a)))] := hS
 refine st rfl (op_store (X := (g54 :: (g50 :: (go4_5_1 :: (go3_7_1 :: (go3_6_1 :: (g9 :: (g5 :: (g1 :: X))))))))) hF hS 0 rfl (by simp) rfl rfl rfl TfLG.size24 rfl (Nat.le_of_ble_eq_true rfl) ?_)
 intro w60 hS E61
 replace hS : St w w60 [(g54, 24, (ic (A47) (c48) ((if (((Nat.gcd (a * c).natAbs (b * c).natAbs : Nat) : Int)) = 0 then 0 else (a * c).fmod (((Nat.gcd (a * c).natAbs (b * c).natAbs : Nat) : Int)))))), (g50, 24, (ic (A44) (c45) (((a * c).fdiv (((Nat.gcd (a * c).natAbs (b * c).natAbs : Nat) : Int)))))), (go4_5_1, 24, (ic (Ao4_4_4) (co4_4_5) (((Nat.gcd (a * c).natAbs (b * c).natAbs : Nat) : Int)))), (go3_7_1, 24, (ic (Ao3_5_4) (co3_5_5) ((b * c)))), (go3_6_1, 24, (ic (Ao3_2_4) (co3_2_5) ((a * c)))), (g9, 24, (ic (A_c) (c_c) (c))), (g5, 24, (ic (A_b) (c_b) (b))), (g1, 24, (ic (A_a) (c_a) (a)))] := hS
 refine st_val hF rfl rfl rfl (ex_assign (hF.ev rfl)) ?_
 clear hF fa; intro fa hF
 refine c_nil_then ?_
 refine c_seq ?_
 refine c_reg ?_
 refine st_val hF rfl rfl rfl (ex_loadb TfLG.row24 (hF.ev rfl) (hS.get 3 rfl) rfl) ?_
 clear hF fa; intro fa hF
 refine st_val hF rfl rfl rfl (ex_loadb TfLG.row24 (hF.ev rfl) (hS.get 2 rfl) rfl) ?_
 clear hF fa; intro fa hF
 have hC := integer_DivMod_ok (w := w60) (X := (g54 :: (g50 :: (go4_5_1 :: (go3_7_1 :: (go3_6_1 :: (g9 :: (g5 :: (g1 :: X))))))))) (a := (b * c)) (b := ((Nat.gcd (a * c).natAbs (b * c).natAbs : Nat) : Int)) (hS.bnd hX) (IntV.of_ (n := (lim (b * c).natAbs).length) (b := decide ((b * c) < 0)) (x := b * c) ((huo3_5_6.ext ((((((E_w29.trans E_w30).trans E43).trans E52).trans E56).trans E59).trans E61))) (rfl) (rfl) (rfl)) (IntV.of_ (n := (lim (((Nat.gcd (a * c).natAbs (b * c).natAbs : Nat) : Int)).natAbs).length) (b := decide (((Nat.gcd (a * c).natAbs (b * c).natAbs : Nat) : Int) < 0)) (x := ((Nat.gcd (a * c).natAbs (b * c).natAbs : Nat) : Int)) ((huo4_4_6.ext (((((E_w30.trans E43).trans E52).trans E56).trans E59).trans E61))) (rfl) (rfl) (rfl)) (by have h1 := sz_mul a c; have h2 := sz_mul b c; have h3 := sz_gcd (x := a * c) (y := b * c) (n := 12) (by omega) (by omega); omega) (by have h1 := sz_mul a c; have h2 := sz_mul b c; have h3 := sz_gcd (x := a * c) (y := b * c) (n := 12) (by omega) (by omega); omega)
 refine st rfl (op_call hF rfl TfLG.body13 (args2 (hF.ev rfl) (hF.ev rfl)) hC ?_)
 clear hC
 rintro _ w62 ⟨⟨_, _, _, rfl, ⟨_, rfl, A65, c66, rfl, hu67⟩, ⟨_, rfl, A68, c69, rfl, hu70⟩, rfl⟩, hb63⟩
 refine gen_ ?_; clear hF fa; intro fa hF
 replace hS := hS.call hb63; have E64 := Ext.call (g54 :: (g50 :: (go4_5_1 :: (go3_7_1 :: (go3_6_1 :: (g9 :: (g5 :: (g1 :: X)))))))) hb63
 refine st_val hF rfl rfl rfl (ex_move (hF.ev rfl)) ?_
 clear hF fa; intro fa hF
 refine st_val hF rfl rfl rfl (ex_extract (hF.ev rfl) rfl) ?_
 clear hF fa; intro fa hF
 refine st_val hF rfl rfl rfl (ex_extract (hF.ev rfl) rfl) ?_
 clear hF fa; intro fa hF
 refine st_val hF rfl rfl rfl (ex_extract (hF.ev rfl) rfl) ?_
 clear hF fa; intro fa hF
 refine st rfl (op_alloc (X := (g54 :: (g50 :: (go4_5_1 :: (go3_7_1 :: (go3_6_1 :: (g9 :: (g5 :: (g1 :: X))))))))) hF hS rfl TfLG.zero24 ?_)
 intro g71 w72 hg74 hS E73; refine gen_ ?_; clear hF fa; intro fa hF
 replace hS : St w w72 [(g71, 24, #[(.bool (false)), (.slice (none) (0) (0))]), (g54, 24, (ic (A47) (c48) ((if (((Nat.gcd (a * c).natAbs (b * c).natAbs : Nat) : Int)) = 0 then 0 else (a * c).fmod (((Nat.gcd (a * c).natAbs (b * c).natAbs : Nat) : Int)))))), (g50, 24, (ic (A44) (c45) (((a * c).fdiv (((Nat.gcd (a * c).natAbs (b * c).natAbs : Nat) : Int)))))), (go4_5_1, 24, (ic (Ao4_4_4) (co4_4_5) (((Nat.gcd (a * c).natAbs (b * c).natAbs : Nat) : Int)))), (go3_7_1, 24, (ic (Ao3_5_4) (co3_5_5) ((b * c)))), (go3_6_1, 24, (ic (Ao3_2_4) (co3_2_5) ((a * c)))), (g9, 24, (ic (A_c) (c_c) (c))), (g5, 24, (ic (A_b) (c_b) (b))), (g1, 24, (ic (A_a) (c_a) (a)))] := hS
 refine st rfl (op_alloc (X := (g71 :: (g54 :: (g50 :: (go4_5_1 :: (go3_7_1 :: (go3_6_1 :: (g9 :: (g5 :: (g1 :: X)))))))))) hF hS rfl TfLG.zero24 ?_)
 intro g75 w76 hg78 hS E77; refine gen_ ?_; clear hF fa; intro fa hF
 replace hS : St w w76 [(g75, 24, #[(.bool (false)), (.slice (none) (0) (0))]), (g71, 24, #[(.bool (false)), (.slice (none) (0) (0))]), (g54, 24, (ic (A47) (c48) ((if (((Nat.gcd (a * c).natAbs (b * c).natAbs : Nat) : Int)) = 0 then 0 else (a * c).fmod (((Nat.gcd (a * c).natAbs (b * c).natAbs : Nat) : Int)))))), (g50, 24, (ic (A44) (c45) (((a * c).fdiv (((Nat.gcd (a * c).natAbs (b * c).natAbs : Nat) : Int)))))), (go4_5_1, 24, (ic (Ao4_4_4) (co4_4_5) (((Nat.gcd (a * c).natAbs (b * c).natAbs : Nat) : Int)))), (go3_7_1, 24, (ic (Ao3_5_4) (co3_5_5) ((b * c)))), (go3_6_1, 24, (ic (Ao3_2_4) (co3_2_5) ((a * c)))), (g9, 24, (ic (A_c) (c_c) (c))), (g5, 24, (ic (A_b) (c_b) (b))), (g1, 24, (ic (A_a) (c_a) (a)))] := hS
 refine st rfl (op_store (X := (g75 :: (g71 :: (g54 :: (g50 :: (go4_5_1 :: (go3_7_1 :: (go3_6_1 :: (g9 :: (g5 :: (g1 :: X))))))))))) hF hS 1 rfl (by simp) rfl rfl rfl TfLG.size24 rfl (Nat.le_of_ble_eq_true rfl) ?_)
 intro w79 hS E80
 replace hS : St w w79 [(g75, 24, #[(.bool (false)), (.slice (none) (0) (0))]), (g71, 24, (ic (A65) (c66) (((b * c).fdiv (((Nat.gcd (a * c).natAbs (b * c).natAbs : Nat) : Int)))))), (g54, 24, (ic (A47) (c48) ((if (((Nat.gcd (a * c).natAbs (b * c).natAbs : Nat) : Int)) = 0 then 0 else (a * c).fmod (((Nat.gcd (a * c).natAbs (b * c).natAbs : Nat) : Int)))))), (g50, 24, (ic (A44) (c45) (((a * c).fdiv (((Nat.gcd (a * c).natAbs (b * c).natAbs : Nat) : Int)))))), (go4_5_1, 24, (ic (Ao4_4_4) (co4_4_5) (((Nat.gcd (a * c).natAbs (b * c).natAbs : Nat) : Int)))), (go3_7_1, 24, (ic (Ao3_5_4) (co3_5_5) ((b * c)))), (go3_6_1, 24, (ic (Ao3_2_4) (co3_2_5) ((a * c)))), (g9, 24, (ic (A_c) (c_c) (c))), (g5, 24, (ic (A_b) (c_b) (b))), (g1, 24, (ic (A_a) (c_a) (a)))] := hS
 refine st rfl (op_store (X := (g75 :: (g71 :: (g54 :: (g50 :: (go4_5_1 :: (go3_7_1 :: (go3_6_1 :: (g9 :: (g5 :: (g1 :: X))))))))))) hF hS 0 rfl (by simp) rfl rfl rfl TfLG.size24 rfl (Nat.le_of_ble_eq_true rfl) ?_)
 intro w81 hS E82
 replace hS : St w w81 [(g75, 24, (ic (A68) (c69) ((if (((Nat.gcd (a * c).natAbs (b * c).natAbs : Nat) : Int)) = 0 then 0 else (b * c).fmod (((Nat.gcd (a * c).natAbs (b * c).natAbs : Nat) : Int)))))), (g71, 24, (ic (A65) (c66) (((b * c).fdiv (((Nat.gcd (a * c).natAbs (b * c).natAbs : Nat) : Int)))))), (g54, 24, (ic (A47) (c48) ((if (((Nat.gcd (a * c).natAbs (b * c).natAbs : Nat) : Int)) = 0 then 0 else (a * c).fmod (((Nat.gcd (a * c).natAbs (b * c).natAbs : Nat) : Int)))))), (g50, 24, (ic (A44) (c45) (((a * c).fdiv (((Nat.gcd (a * c).natAbs (b * c).natAbs : Nat) : Int)))))), (go4_5_1, 24, (ic (Ao4_4_4) (co4_4_5) (((Nat.gcd (a * c).natAbs (b * c).natAbs : Nat) : Int)))), (go3_7_1, 24, (ic (Ao3_5_4) (co3_5_5) ((b * c)))), (go3_6_1, 24, (ic (Ao3_2_4) (co3_2_5) ((a * c)))), (g9, 24, (ic (A_c) (c_c) (c))), (g5, 24, (ic (A_b) (c_b) (b))), (g1, 24, (ic (A_a) (c_a) (a)))] := hS
 refine st_val hF rfl rfl rfl (ex_assign (hF.ev rfl)) ?_
 clear hF fa; intro fa hF
 replace hF : Frm 103 fa [(0, (.agg (ic (A_a) (c_a) (a)))), (1, (.agg (ic (A_b) (c_b) (b)))), (2, (.agg (ic (A_c) (c_c) (c)))), (3, (.pointer (some ⟨g1, 0, none⟩))), (4, (.pointer (some ⟨g5, 0, none⟩))), (5, (.pointer (some ⟨g9, 0, none⟩))), (6, (.bool (false))), (32, (.bool (false))), (7, (.pointer (some ⟨go3_6_1, 0, none⟩))), (8, (.pointer (some ⟨go3_7_1, 0, none⟩))), (9, (.pointer (some ⟨go4_5_1, 0, none⟩))), (55, (.bool (decide ((sgnI (((Nat.gcd (a * c).natAbs (b * c).natAbs : Nat) : Int))) = 0)))), (10, (.pointer (some ⟨g50, 0, none⟩))), (11, (.pointer (some ⟨g54, 0, none⟩))), (12, (.int .i64 ((if (((Nat.gcd (a * c).natAbs (b * c).natAbs : Nat) : Int)) = 0 then 6 else 0)))), (13, (.pointer (some ⟨g71, 0, none⟩))), (14, (.pointer (some ⟨g75, 0, none⟩))), (15, (.int .i64 ((if (((Nat.gcd (a * c).natAbs (b * c).natAbs : Nat) : Int)) = 0 then 6 else 0))))] := (hF.take (hF.take (hF.take (hF.take (hF.take (hF.take (hF.take (hF.take (hF.take (hF.take (hF.take (hF.take (hF.take (hF.take (hF.take (hF.take (hF.take (hF.take hF.nil rfl) rfl) rfl) rfl) rfl) rfl) rfl) rfl) rfl) rfl) rfl) rfl) rfl) rfl) rfl) rfl) rfl) rfl)
 refine c_nil_then ?_
 refine c_seq ?_
 refine c_reg ?_
 refine st_val hF rfl rfl rfl (ex_move (hF.ev rfl)) ?_
 clear hF fa; intro fa hF
 refine st_val hF rfl rfl rfl (ex_b (t := decide ((if (((Nat.gcd (a * c).natAbs (b * c).natAbs : Nat) : Int)) = 0 then 6 else 0) = 0)) (b := true) (by rw [decide_eq_true_eq, if_neg hg1]) (ex_eql (hF.ev rfl) (hF.ev rfl))) ?_
 clear hF fa; intro fa hF
 refine st_val hF rfl rfl rfl (ex_move (hF.ev rfl)) ?_
 clear hF fa; intro fa hF
 refine stg_val hF rfl rfl rfl rfl (ex_move (hF.ev rfl)) ?_
 clear hF fa; intro fa hF
 refine stg_val hF rfl rfl rfl rfl (ex_b (t := decide ((if (((Nat.gcd (a * c).natAbs (b * c).natAbs : Nat) : Int)) = 0 then 6 else 0) = 0)) (b := true) (by rw [decide_eq_true_eq, if_neg hg1]) (ex_eql (hF.ev rfl) (hF.ev rfl))) ?_
 clear hF fa; intro fa hF
 refine st_val hF rfl rfl rfl (ex_pick (hF.ev rfl) (fun _ => hF.ev rfl) (v := undef) (fun h => by cases h) rfl) ?_
 clear hF fa; intro fa hF
 refine st_val hF rfl rfl rfl (ex_move (hF.ev rfl)) ?_
 clear hF fa; intro fa hF
 refine stg_val hF rfl rfl rfl rfl (ex_loadb TfLG.row24 (hF.ev rfl) (hS.get 2 rfl) rfl) ?_
 clear hF fa; intro fa hF
 have hC := law01_is_ok (w := w81) (X := (g75 :: (g71 :: (g54 :: (g50 :: (go4_5_1 :: (go3_7_1 :: (go3_6_1 :: (g9 :: (g5 :: (g1 :: X))))))))))) (a := (if (((Nat.gcd (a * c).natAbs (b * c).natAbs : Nat) : Int)) = 0 then 0 else (a * c).fmod (((Nat.gcd (a * c).natAbs (b * c).natAbs : Nat) : Int)))) (hS.bnd hX) (IntV.of_ (n := (lim ((if (((Nat.gcd (a * c).natAbs (b * c).natAbs : Nat) : Int)) = 0 then 0 else (a * c).fmod (((Nat.gcd (a * c).natAbs (b * c).natAbs : Nat) : Int)))).natAbs).length) (b := decide ((if (((Nat.gcd (a * c).natAbs (b * c).natAbs : Nat) : Int)) = 0 then 0 else (a * c).fmod (((Nat.gcd (a * c).natAbs (b * c).natAbs : Nat) : Int))) < 0)) (x := (if (((Nat.gcd (a * c).natAbs (b * c).natAbs : Nat) : Int)) = 0 then 0 else (a * c).fmod (((Nat.gcd (a * c).natAbs (b * c).natAbs : Nat) : Int)))) ((hu49.ext ((((((((E52.trans E56).trans E59).trans E61).trans E64).trans E73).trans E77).trans E80).trans E82))) (rfl) (rfl) (rfl)) 0 (by omega) (by omega)
 rw [show (decide (((if (((Nat.gcd (a * c).natAbs (b * c).natAbs : Nat) : Int)) = 0 then 0 else (a * c).fmod (((Nat.gcd (a * c).natAbs (b * c).natAbs : Nat) : Int)))) = ((0 : Int)))) = true from by rw [decide_eq_true_eq, if_neg hg1]; exact hg2] at hC
 refine stg hF rfl rfl (op_call hF rfl TfLG.body16 (args2 (hF.ev rfl) (hF.ev rfl)) hC ?_)
 clear hC
 rintro _ w83 ⟨rfl, hb84⟩
 refine gen_ ?_; clear hF fa; intro fa hF
 replace hS := hS.call hb84; have E85 := Ext.call (g75 :: (g71 :: (g54 :: (g50 :: (go4_5_1 :: (go3_7_1 :: (go3_6_1 :: (g9 :: (g5 :: (g1 :: X)))))))))) hb84
 refine st_val hF rfl rfl rfl (ex_pick (hF.ev rfl) (fun _ => hF.ev rfl) (v := undef) (fun h => by cases h) rfl) ?_
 clear hF fa; intro fa hF
 refine st_val hF rfl rfl rfl (ex_move (hF.ev rfl)) ?_
 clear hF fa; intro fa hF
 refine stg_val hF rfl rfl rfl rfl (ex_loadb TfLG.row24 (hF.ev rfl) (hS.get 0 rfl) rfl) ?_
 clear hF fa; intro fa hF
 have hC := law01_is_ok (w := w83) (X := (g75 :: (g71 :: (g54 :: (g50 :: (go4_5_1 :: (go3_7_1 :: (go3_6_1 :: (g9 :: (g5 :: (g1 :: X))))))))))) (a := (if (((Nat.gcd (a * c).natAbs (b * c).natAbs : Nat) : Int)) = 0 then 0 else (b * c).fmod (((Nat.gcd (a * c).natAbs (b * c).natAbs : Nat) : Int)))) (hS.bnd hX) (IntV.of_ (n := (lim ((if (((Nat.gcd (a * c).natAbs (b * c).natAbs : Nat) : Int)) = 0 then 0 else (b * c).fmod (((Nat.gcd (a * c).natAbs (b * c).natAbs : Nat) : Int)))).natAbs).length) (b := decide ((if (((Nat.gcd (a * c).natAbs (b * c).natAbs : Nat) : Int)) = 0 then 0 else (b * c).fmod (((Nat.gcd (a * c).natAbs (b * c).natAbs : Nat) : Int))) < 0)) (x := (if (((Nat.gcd (a * c).natAbs (b * c).natAbs : Nat) : Int)) = 0 then 0 else (b * c).fmod (((Nat.gcd (a * c).natAbs (b * c).natAbs : Nat) : Int)))) ((hu70.ext ((((E73.trans E77).trans E80).trans E82).trans E85))) (rfl) (rfl) (rfl)) 0 (by omega) (by omega)
 rw [show (decide (((if (((Nat.gcd (a * c).natAbs (b * c).natAbs : Nat) : Int)) = 0 then 0 else (b * c).fmod (((Nat.gcd (a * c).natAbs (b * c).natAbs : Nat) : Int)))) = ((0 : Int)))) = true from by rw [decide_eq_true_eq, if_neg hg1]; exact hg3] at hC
 refine stg hF rfl rfl (op_call hF rfl TfLG.body16 (args2 (hF.ev rfl) (hF.ev rfl)) hC ?_)
 clear hC
 rintro _ w86 ⟨rfl, hb87⟩
 refine gen_ ?_; clear hF fa; intro fa hF
 replace hS := hS.call hb87; have E88 := Ext.call (g75 :: (g71 :: (g54 :: (g50 :: (go4_5_1 :: (go3_7_1 :: (go3_6_1 :: (g9 :: (g5 :: (g1 :: X)))))))))) hb87
 refine st_val hF rfl rfl rfl (ex_pick (hF.ev rfl) (fun _ => hF.ev rfl) (v := undef) (fun h => by cases h) rfl) ?_
 clear hF fa; intro fa hF
 refine st_val hF rfl rfl rfl (ex_move (hF.ev rfl)) ?_
 clear hF fa; intro fa hF
 refine stg_val hF rfl rfl rfl rfl (ex_loadb TfLG.row24 (hF.ev rfl) (hS.get 3 rfl) rfl) ?_
 clear hF fa; intro fa hF
 refine stg_val hF rfl rfl rfl rfl (ex_loadb TfLG.row24 (hF.ev rfl) (hS.get 1 rfl) rfl) ?_
 clear hF fa; intro fa hF
 have hC := integer_GCD_ok (w := w86) (X := (g75 :: (g71 :: (g54 :: (g50 :: (go4_5_1 :: (go3_7_1 :: (go3_6_1 :: (g9 :: (g5 :: (g1 :: X))))))))))) (a := ((a * c).fdiv (((Nat.gcd (a * c).natAbs (b * c).natAbs : Nat) : Int)))) (b := ((b * c).fdiv (((Nat.gcd (a * c).natAbs (b * c).natAbs : Nat) : Int)))) (hS.bnd hX) (IntV.of_ (n := (lim ((a * c).fdiv (((Nat.gcd (a * c).natAbs (b * c).natAbs : Nat) : Int))).natAbs).length) (b := decide (((a * c).fdiv (((Nat.gcd (a * c).natAbs (b * c).natAbs : Nat) : Int))) < 0)) (x := (a * c).fdiv (((Nat.gcd (a * c).natAbs (b * c).natAbs : Nat) : Int))) ((hu46.ext ((((((((((E52.trans E56).trans E59).trans E61).trans E64).trans E73).trans E77).trans E80).trans E82).trans E85).trans E88))) (rfl) (rfl) (rfl)) (IntV.of_ (n := (lim ((b * c).fdiv (((Nat.gcd (a * c).natAbs (b * c).natAbs : Nat) : Int))).natAbs).length) (b := decide (((b * c).fdiv (((Nat.gcd (a * c).natAbs (b * c).natAbs : Nat) : Int))) < 0)) (x := (b * c).fdiv (((Nat.gcd (a * c).natAbs (b * c).natAbs : Nat) : Int))) ((hu67.ext (((((E73.trans E77).trans E80).trans E82).trans E85).trans E88))) (rfl) (rfl) (rfl)) (by have h1 := sz_mul a c; have h2 := sz_mul b c; have h3 := sz_gcd (x := a * c) (y := b * c) (n := 12) (by omega) (by omega); have h4 := sz_fdiv (a := a * c) (b := ((Nat.gcd (a * c).natAbs (b * c).natAbs : Nat) : Int)) hg1; have h5 := sz_fdiv (a := b * c) (b := ((Nat.gcd (a * c).natAbs (b * c).natAbs : Nat) : Int)) hg1; omega) (by have h1 := sz_mul a c; have h2 := sz_mul b c; have h3 := sz_gcd (x := a * c) (y := b * c) (n := 12) (by omega) (by omega); have h4 := sz_fdiv (a := a * c) (b := ((Nat.gcd (a * c).natAbs (b * c).natAbs : Nat) : Int)) hg1; have h5 := sz_fdiv (a := b * c) (b := ((Nat.gcd (a * c).natAbs (b * c).natAbs : Nat) : Int)) hg1; omega)
 refine stg hF rfl rfl (op_call hF rfl TfLG.body23 (args2 (hF.ev rfl) (hF.ev rfl)) hC ?_)
 clear hC
 rintro _ w89 ⟨⟨_, rfl, A92, c93, rfl, hu94⟩, hb90⟩
 refine gen_ ?_; clear hF fa; intro fa hF
 replace hS := hS.call hb90; have E91 := Ext.call (g75 :: (g71 :: (g54 :: (g50 :: (go4_5_1 :: (go3_7_1 :: (go3_6_1 :: (g9 :: (g5 :: (g1 :: X)))))))))) hb90
 have hC := law01_is_ok (w := w89) (X := (g75 :: (g71 :: (g54 :: (g50 :: (go4_5_1 :: (go3_7_1 :: (go3_6_1 :: (g9 :: (g5 :: (g1 :: X))))))))))) (a := ((Nat.gcd ((a * c).fdiv (((Nat.gcd (a * c).natAbs (b * c).natAbs : Nat) : Int))).natAbs ((b * c).fdiv (((Nat.gcd (a * c).natAbs (b * c).natAbs : Nat) : Int))).natAbs : Nat) : Int)) (hS.bnd hX) (IntV.of_ (n := (lim (((Nat.gcd ((a * c).fdiv (((Nat.gcd (a * c).natAbs (b * c).natAbs : Nat) : Int))).natAbs ((b * c).fdiv (((Nat.gcd (a * c).natAbs (b * c).natAbs : Nat) : Int))).natAbs : Nat) : Int)).natAbs).length) (b := decide (((Nat.gcd ((a * c).fdiv (((Nat.gcd (a * c).natAbs (b * c).natAbs : Nat) : Int))).natAbs ((b * c).fdiv (((Nat.gcd (a * c).natAbs (b * c).natAbs : Nat) : Int))).natAbs : Nat) : Int) < 0)) (x := ((Nat.gcd ((a * c).fdiv (((Nat.gcd (a * c).natAbs (b * c).natAbs : Nat) : Int))).natAbs ((b * c).fdiv (((Nat.gcd (a * c).natAbs (b * c).natAbs : Nat) : Int))).natAbs : Nat) : Int)) (hu94) (rfl) (rfl) (rfl)) 1 (by omega) (by omega)
 rw [show (decide ((((Nat.gcd ((a * c).fdiv (((Nat.gcd (a * c).natAbs (b * c).natAbs : Nat) : Int))).natAbs ((b * c).fdiv (((Nat.gcd (a * c).natAbs (b * c).natAbs : Nat) : Int))).natAbs : Nat) : Int)) = ((1 : Int)))) = true from by rw [decide_eq_true_eq, hg4]; rfl] at hC
 refine stg hF rfl rfl (op_call hF rfl TfLG.body16 (args2 (hF.ev rfl) (hF.ev rfl)) hC ?_)
 clear hC
 rintro _ w95 ⟨rfl, hb96⟩
 refine gen_ ?_; clear hF fa; intro fa hF
 replace hS := hS.call hb96; have E97 := Ext.call (g75 :: (g71 :: (g54 :: (g50 :: (go4_5_1 :: (go3_7_1 :: (go3_6_1 :: (g9 :: (g5 :: (g1 :: X)))))))))) hb96
 refine st_val hF rfl rfl rfl (ex_pick (hF.ev rfl) (fun _ => hF.ev rfl) (v := undef) (fun h => by cases h) rfl) ?_
 clear hF fa; intro fa hF
 refine st_val hF rfl rfl rfl (ex_assign (hF.ev rfl)) ?_
 clear hF fa; intro fa hF
 replace hF : Frm 103 fa [(0, (.agg (ic (A_a) (c_a) (a)))), (1, (.agg (ic (A_b) (c_b) (b)))), (2, (.agg (ic (A_c) (c_c) (c)))), (3, (.pointer (some ⟨g1, 0, none⟩))), (4, (.pointer (some ⟨g5, 0, none⟩))), (5, (.pointer (some ⟨g9, 0, none⟩))), (6, (.bool (true))), (32, (.bool (false))), (7, (.pointer (some ⟨go3_6_1, 0, none⟩))), (8, (.pointer (some ⟨go3_7_1, 0, none⟩))), (9, (.pointer (some ⟨go4_5_1, 0, none⟩))), (55, (.bool (decide ((sgnI (((Nat.gcd (a * c).natAbs (b * c).natAbs : Nat) : Int))) = 0)))), (10, (.pointer (some ⟨g50, 0, none⟩))), (11, (.pointer (some ⟨g54, 0, none⟩))), (12, (.int .i64 ((if (((Nat.gcd (a * c).natAbs (b * c).natAbs : Nat) : Int)) = 0 then 6 else 0)))), (13, (.pointer (some ⟨g71, 0, none⟩))), (14, (.pointer (some ⟨g75, 0, none⟩))), (15, (.int .i64 ((if (((Nat.gcd (a * c).natAbs (b * c).natAbs : Nat) : Int)) = 0 then 6 else 0))))] := (hF.take (hF.take (hF.take (hF.take (hF.take (hF.take (hF.take (hF.take (hF.take (hF.take (hF.take (hF.take (hF.take (hF.take (hF.take (hF.take (hF.take (hF.take hF.nil rfl) rfl) rfl) rfl) rfl) rfl) rfl) rfl) rfl) rfl) rfl) rfl) rfl) rfl) rfl) rfl) rfl) rfl)
 refine c_nil_then ?_
 refine c_ret ?_
 refine end1 hF rfl (res_tmp hF rfl) ?_
 exact ⟨_, rfl, (congrArg Value.bool (by simp_all)), hS.below⟩

end Go.Proofs.Ytlaojdpcfenlkaa
