/-
  What the functions IntegerMul#bad, IntegerMul do, each call by call.
  Conditions: none.
-/
import Derived.Test.YtlaojdpcfenlkaaChecked
import Derived.Test.YtlaojdpcfenlkaaSwBaseK
import Derived.Test.YtlaojdpcfenlkaaWI
import Derived.Test.YtlaojdpcfenlkaaWP
import Derived.Test.YtlaojdpcfenlkaaWT
import Derived.Test.YtlaojdpcfenlkaaWY
namespace Go.Proofs.Ytlaojdpcfenlkaa
open Go Go.RowKit Go.Sw
set_option linter.unusedVariables false
namespace TfLM
theorem body11 : hasBody Try.prog 11 = true := by kernel_rfl
theorem body12 : hasBody Try.prog 12 = true := by kernel_rfl
theorem body14 : hasBody Try.prog 14 = true := by kernel_rfl
theorem body19 : hasBody Try.prog 19 = true := by kernel_rfl
theorem body21 : hasBody Try.prog 21 = true := by kernel_rfl
theorem body27 : hasBody Try.prog 27 = true := by kernel_rfl
theorem el24 : Sw.elemOf Try.prog 24 = some (#[.bool false, .slice none 0 0], 2, 32) := by kernel_rfl
theorem mixed : Try.prog.follows .mixedOrders = true := by kernel_rfl
theorem row24 : isRow Try.prog 24 2 = true := by kernel_rfl
theorem sl47 : sliceOf Try.prog 47 = some (24, 2) := by kernel_rfl
end TfLM
set_option maxHeartbeats 4000000 in
theorem swarflaw01_IntegerMul_bad_ok {w : World} {X : List Nat} (hX : ∀ m ∈ X, m < w.heap.size) {v_na : Value} {na : Bool} {la : List Nat} (h_na : RawV w X v_na (na) (la)) {v_nb : Value} {nb : Bool} {lb : List Nat} (h_nb : RawV w X v_nb (nb) (lb)) (hbad : ([(na, la), (nb, lb)].all fun p => decide ((p.2.length : Int) ≤ 16) && validL p.1 p.2) = false) :
    Calls Try.prog 6 #[v_na, v_nb] w (Ret fun r w' => (r = .bool (true)) ∧ Below w.heap.size w w') := by
 refine enter (N := 24) (fn := Try.f6) (vs := [v_na, v_nb]) Try.func6 rfl rfl rfl ?_
 intro fa hF
 obtain ⟨_, rfl, A_la, c_la, rfl, hu_la⟩ := h_na
 have hl_la := hu_la.len; have hc_la := hu_la.cap
 obtain ⟨_, rfl, A_lb, c_lb, rfl, hu_lb⟩ := h_nb
 have hl_lb := hu_lb.len; have hc_lb := hu_lb.cap
 replace hF : Frm 24 fa [(0, (.agg #[(.bool (na)), (.slice (A_la) (la.length) (c_la))])), (1, (.agg #[(.bool (nb)), (.slice (A_lb) (lb.length) (c_lb))]))] := hF
 have hS := St.refl w
 refine c_seq ?_
 refine c_reg ?_
 refine st rfl (op_box (X := X) hF hS rfl rfl rfl ?_)
 intro g1 w2 hg4 hS E3; refine gen_ ?_; clear hF fa; intro fa hF
 replace hS : St w w2 [(g1, 24, #[(.bool (na)), (.slice (A_la) (la.length) (c_la))])] := hS
 refine st rfl (op_box (X := (g1 :: X)) hF hS rfl rfl rfl ?_)
 intro g5 w6 hg8 hS E7; refine gen_ ?_; clear hF fa; intro fa hF
 replace hS : St w w6 [(g5, 24, #[(.bool (nb)), (.slice (A_lb) (lb.length) (c_lb))]), (g1, 24, #[(.bool (na)), (.slice (A_la) (la.length) (c_la))])] := hS
 refine st_val hF rfl rfl rfl (ex_assign (hF.ev rfl)) ?_
 clear hF fa; intro fa hF
 refine c_nil_then ?_
 refine c_seq ?_
 refine c_seq ?_
 refine c_reg ?_
 have hC := law01_awake_ok (w := w6) (X := (g5 :: (g1 :: X))) (hS.bnd hX) 
 refine st rfl (op_call hF rfl TfLM.body11 (args0) hC ?_)
 clear hC
 rintro _ w9 ⟨rfl, hb10⟩
 refine gen_ ?_; clear hF fa; intro fa hF
 replace hS := hS.call hb10; have E11 := Ext.call (g5 :: (g1 :: X)) hb10
 refine st_val hF rfl rfl rfl (ex_not (hF.ev rfl)) ?_
 clear hF fa; intro fa hF
 refine st_val hF rfl rfl rfl (ex_move (hF.ev rfl)) ?_
 clear hF fa; intro fa hF
 refine stg_val hF rfl rfl rfl rfl (ex_loadb TfLM.row24 (hF.ev rfl) (hS.get 1 rfl) rfl) ?_
 clear hF fa; intro fa hF
 refine stg_val hF rfl rfl rfl rfl (ex_loadb TfLM.row24 (hF.ev rfl) (hS.get 0 rfl) rfl) ?_
 clear hF fa; intro fa hF
 refine stg hF rfl rfl (op_lit (X := (g5 :: (g1 :: X))) hF hS (hS.bnd hX) rfl TfLM.sl47 TfLM.el24 rfl rfl (lits2 (hF.ev rfl) (hF.ev rfl)) fill_r2 ?_)
 intro g12 w13 hg15 hS E14 hc16; refine gen_ ?_; clear hF fa; intro fa hF
 have hC := law01_small_ok (w := w13) (X := (g5 :: (g1 :: X))) (zs := ([(na, la), (nb, lb)])) (hS.bnd hX) (RL.raw2 hc16 ⟨_, rfl, _, _, rfl, (hu_la.ext (((E3.trans E7).trans E11).trans E14))⟩ ⟨_, rfl, _, _, rfl, (hu_lb.ext (((E3.trans E7).trans E11).trans E14))⟩)
 rw [show ((([(na, la), (nb, lb)]).all fun p => decide ((p.2.length : Int) ≤ 16) && validL p.1 p.2)) = false from hbad] at hC
 refine stg hF rfl rfl (op_call hF rfl TfLM.body12 (args1 (hF.ev rfl)) hC ?_)
 clear hC
 rintro _ w17 ⟨rfl, hb18⟩
 refine gen_ ?_; clear hF fa; intro fa hF
 replace hS := hS.call hb18; have E19 := Ext.call (g5 :: (g1 :: X)) hb18
 refine stg_val hF rfl rfl rfl rfl (ex_not (hF.ev rfl)) ?_
 clear hF fa; intro fa hF
 refine st_val hF rfl rfl rfl (ex_pick (hF.ev rfl) (u := undef) (fun h => by cases h) (fun _ => hF.ev rfl) rfl) ?_
 clear hF fa; intro fa hF
 refine c_nil_then ?_
 refine c_cond hF rfl (fun hc => ?_) (fun hc => ?_)
 rotate_left
 ·
  cases hc
 refine c_seq ?_
 refine c_reg ?_
 have hC := law01_awake_ok (w := w17) (X := (g5 :: (g1 :: X))) (hS.bnd hX) 
 refine st rfl (op_call hF rfl TfLM.body11 (args0) hC ?_)
 clear hC
 rintro _ w20 ⟨rfl, hb21⟩
 refine gen_ ?_; clear hF fa; intro fa hF
 replace hS := hS.call hb21; have E22 := Ext.call (g5 :: (g1 :: X)) hb21
 refine st_val hF rfl rfl rfl (ex_assign (hF.ev rfl)) ?_
 clear hF fa; intro fa hF
 refine c_nil_then ?_
 refine c_ret ?_
 refine x_tr ?_
 refine end1 hF rfl (res_tmp hF rfl) ?_
 exact ⟨_, rfl, (congrArg Value.bool (by simp_all)), hS.below⟩

set_option maxHeartbeats 4000000 in
theorem law01_IntegerMul_ok {w : World} {X : List Nat} (hX : ∀ m ∈ X, m < w.heap.size) {v_a : Value} {a : Int} (h_a : IntV w X v_a (a)) {v_b : Value} {b : Int} (h_b : IntV w X v_b (b)) (hs_a : sz a ≤ 16) (hs_b : sz b ≤ 16) :
    Calls Try.prog 6 #[v_a, v_b] w (Ret fun r w' => (r = .bool (true)) ∧ Below w.heap.size w w') := by
 refine enter (N := 24) (fn := Try.f6) (vs := [v_a, v_b]) Try.func6 rfl rfl rfl ?_
 intro fa hF
 obtain ⟨_, rfl, A_a, c_a, rfl, hu_a⟩ := h_a
 have hl_a := hu_a.len; have hc_a := hu_a.cap
 obtain ⟨_, rfl, A_b, c_b, rfl, hu_b⟩ := h_b
 have hl_b := hu_b.len; have hc_b := hu_b.cap
 replace hF : Frm 24 fa [(0, (.agg (ic (A_a) (c_a) (a)))), (1, (.agg (ic (A_b) (c_b) (b))))] := hF
 have hS := St.refl w
 have hs_a0 := hs_a; have hs_b0 := hs_b; unfold sz at hs_a0 hs_b0
 refine c_seq ?_
 refine c_reg ?_
 refine st rfl (op_box (X := X) hF hS rfl rfl rfl ?_)
 intro g1 w2 hg4 hS E3; refine gen_ ?_; clear hF fa; intro fa hF
 replace hS : St w w2 [(g1, 24, (ic (A_a) (c_a) (a)))] := hS
 refine st rfl (op_box (X := (g1 :: X)) hF hS rfl rfl rfl ?_)
 intro g5 w6 hg8 hS E7; refine gen_ ?_; clear hF fa; intro fa hF
 replace hS : St w w6 [(g5, 24, (ic (A_b) (c_b) (b))), (g1, 24, (ic (A_a) (c_a) (a)))] := hS
 refine st_val hF rfl rfl rfl (ex_assign (hF.ev rfl)) ?_
 clear hF fa; intro fa hF
 refine c_nil_then ?_
 refine c_seq ?_
 refine c_seq ?_
 refine c_reg ?_
 have hC := law01_awake_ok (w := w6) (X := (g5 :: (g1 :: X))) (hS.bnd hX) 
 refine st rfl (op_call hF rfl TfLM.body11 (args0) hC ?_)
 clear hC
 rintro _ w9 ⟨rfl, hb10⟩
 refine gen_ ?_; clear hF fa; intro fa hF
 replace hS := hS.call hb10; have E11 := Ext.call (g5 :: (g1 :: X)) hb10
 refine st_val hF rfl rfl rfl (ex_not (hF.ev rfl)) ?_
 clear hF fa; intro fa hF
 refine st_val hF rfl rfl rfl (ex_move (hF.ev rfl)) ?_
 clear hF fa; intro fa hF
 refine stg_val hF rfl rfl rfl rfl (ex_loadb TfLM.row24 (hF.ev rfl) (hS.get 1 rfl) rfl) ?_
 clear hF fa; intro fa hF
 refine stg_val hF rfl rfl rfl rfl (ex_loadb TfLM.row24 (hF.ev rfl) (hS.get 0 rfl) rfl) ?_
 clear hF fa; intro fa hF
 refine stg hF rfl rfl (op_lit (X := (g5 :: (g1 :: X))) hF hS (hS.bnd hX) rfl TfLM.sl47 TfLM.el24 rfl rfl (lits2 (hF.ev rfl) (hF.ev rfl)) fill_r2 ?_)
 intro g12 w13 hg15 hS E14 hc16; refine gen_ ?_; clear hF fa; intro fa hF
 have hC := law01_small_ok (w := w13) (X := (g5 :: (g1 :: X))) (zs := ([(decide (a < 0), (lim a.natAbs)), (decide (b < 0), (lim b.natAbs))])) (hS.bnd hX) (RL.raw2 hc16 ⟨_, rfl, _, _, rfl, (hu_a.ext (((E3.trans E7).trans E11).trans E14))⟩ ⟨_, rfl, _, _, rfl, (hu_b.ext (((E3.trans E7).trans E11).trans E14))⟩)
 rw [show ((([(decide (a < 0), (lim a.natAbs)), (decide (b < 0), (lim b.natAbs))]).all fun p => decide ((p.2.length : Int) ≤ 16) && validL p.1 p.2)) = true from small2 hs_a hs_b] at hC
 refine stg hF rfl rfl (op_call hF rfl TfLM.body12 (args1 (hF.ev rfl)) hC ?_)
 clear hC
 rintro _ w17 ⟨rfl, hb18⟩
 refine gen_ ?_; clear hF fa; intro fa hF
 replace hS := hS.call hb18; have E19 := Ext.call (g5 :: (g1 :: X)) hb18
 refine stg_val hF rfl rfl rfl rfl (ex_not (hF.ev rfl)) ?_
 clear hF fa; intro fa hF
 refine st_val hF rfl rfl rfl (ex_pick (hF.ev rfl) (u := undef) (fun h => by cases h) (fun _ => hF.ev rfl) rfl) ?_
 clear hF fa; intro fa hF
 refine c_nil_then ?_
 refine c_cond hF rfl (fun hc => ?_) (fun hc => ?_)
 ·
  cases hc
 refine c_skip ?_
 refine x_tn ?_
 refine c_seq ?_
 refine drawn2 (N := 24) (L0 := [(0, (.agg (ic (A_a) (c_a) (a)))), (1, (.agg (ic (A_b) (c_b) (b)))), (2, (.pointer (some ⟨g1, 0, none⟩))), (3, (.pointer (some ⟨g5, 0, none⟩))), (13, (.bool (false)))]) [some (.agg (ic (A_a) (c_a) (a))), none, some (.agg (ic (A_b) (c_b) (b))), none, none, some (.agg (ic (A_a) (c_a) (a))), some (.agg (ic (A_b) (c_b) (b))), none, some (.bool (true)), some (.bool (true))] [1, 3, 4, 7, 8] [[], [1], [1, 3], [1, 3, 4], [1, 3, 4, 7], [1, 3, 4, 7, 8]] [[0], [0], [0, 1], [1], [2], [0, 1, 2, 3], [0, 1, 2, 3], [3], [4], [5]] 5 [
       fun fa w' => Frm 24 fa [] ∧ St w w' [(g5, 24, (ic (A_b) (c_b) (b))), (g1, 24, (ic (A_a) (c_a) (a)))] ∧ Ext w17 (g5 :: (g1 :: X)) w' (g5 :: (g1 :: X))
       , fun fa w' => ∃ Ao3_1_4 : Option Addr, ∃ co3_1_5 : Nat, Frm 24 fa [(16, (.agg #[(.bool ((decide (a < 0)))), (.slice (Ao3_1_4) ((((lim a.natAbs))).length) (co3_1_5))]))] ∧ St w w' [(g5, 24, (ic (A_b) (c_b) (b))), (g1, 24, (ic (A_a) (c_a) (a)))] ∧ Ext w17 (g5 :: (g1 :: X)) w' (g5 :: (g1 :: X)) ∧ UC w' (g5 :: (g1 :: X)) Ao3_1_4 co3_1_5 (((lim a.natAbs)))
       , fun fa w' => ∃ Ao3_1_4 : Option Addr, ∃ co3_1_5 : Nat, ∃ Ao3_3_4 : Option Addr, ∃ co3_3_5 : Nat, Frm 24 fa [(16, (.agg #[(.bool ((decide (a < 0)))), (.slice (Ao3_1_4) ((((lim a.natAbs))).length) (co3_1_5))])), (18, (.agg #[(.bool ((decide (b < 0)))), (.slice (Ao3_3_4) ((((lim b.natAbs))).length) (co3_3_5))]))] ∧ St w w' [(g5, 24, (ic (A_b) (c_b) (b))), (g1, 24, (ic (A_a) (c_a) (a)))] ∧ Ext w17 (g5 :: (g1 :: X)) w' (g5 :: (g1 :: X)) ∧ UC w' (g5 :: (g1 :: X)) Ao3_1_4 co3_1_5 (((lim a.natAbs))) ∧ UC w' (g5 :: (g1 :: X)) Ao3_3_4 co3_3_5 (((lim b.natAbs)))
       , fun fa w' => ∃ Ao3_1_4 : Option Addr, ∃ co3_1_5 : Nat, ∃ Ao3_3_4 : Option Addr, ∃ co3_3_5 : Nat, ∃ Ao3_4_4 : Option Addr, ∃ co3_4_5 : Nat, Frm 24 fa [(16, (.agg #[(.bool ((decide (a < 0)))), (.slice (Ao3_1_4) ((((lim a.natAbs))).length) (co3_1_5))])), (18, (.agg #[(.bool ((decide (b < 0)))), (.slice (Ao3_3_4) ((((lim b.natAbs))).length) (co3_3_5))])), (19, (.agg (ic (Ao3_4_4) (co3_4_5) ((a * b)))))] ∧ St w w' [(g5, 24, (ic (A_b) (c_b) (b))), (g1, 24, (ic (A_a) (c_a) (a)))] ∧ Ext w17 (g5 :: (g1 :: X)) w' (g5 :: (g1 :: X)) ∧ UC w' (g5 :: (g1 :: X)) Ao3_1_4 co3_1_5 (((lim a.natAbs))) ∧ UC w' (g5 :: (g1 :: X)) Ao3_3_4 co3_3_5 (((lim b.natAbs))) ∧ UC w' (g5 :: (g1 :: X)) Ao3_4_4 co3_4_5 (lim (a * b).natAbs)
       , fun fa w' => ∃ Ao3_1_4 : Option Addr, ∃ co3_1_5 : Nat, ∃ Ao3_3_4 : Option Addr, ∃ co3_3_5 : Nat, ∃ Ao3_4_4 : Option Addr, ∃ co3_4_5 : Nat, ∃ Ao3_7_4 : Option Addr, ∃ co3_7_5 : Nat, Frm 24 fa [(16, (.agg #[(.bool ((decide (a < 0)))), (.slice (Ao3_1_4) ((((lim a.natAbs))).length) (co3_1_5))])), (18, (.agg #[(.bool ((decide (b < 0)))), (.slice (Ao3_3_4) ((((lim b.natAbs))).length) (co3_3_5))])), (19, (.agg (ic (Ao3_4_4) (co3_4_5) ((a * b))))), (22, (.agg (ic (Ao3_7_4) (co3_7_5) ((a * b)))))] ∧ St w w' [(g5, 24, (ic (A_b) (c_b) (b))), (g1, 24, (ic (A_a) (c_a) (a)))] ∧ Ext w17 (g5 :: (g1 :: X)) w' (g5 :: (g1 :: X)) ∧ UC w' (g5 :: (g1 :: X)) Ao3_1_4 co3_1_5 (((lim a.natAbs))) ∧ UC w' (g5 :: (g1 :: X)) Ao3_3_4 co3_3_5 (((lim b.natAbs))) ∧ UC w' (g5 :: (g1 :: X)) Ao3_4_4 co3_4_5 (lim (a * b).natAbs) ∧ UC w' (g5 :: (g1 :: X)) Ao3_7_4 co3_7_5 (lim (a * b).natAbs)
       , fun fa w' => ∃ Ao3_1_4 : Option Addr, ∃ co3_1_5 : Nat, ∃ Ao3_3_4 : Option Addr, ∃ co3_3_5 : Nat, ∃ Ao3_4_4 : Option Addr, ∃ co3_4_5 : Nat, ∃ Ao3_7_4 : Option Addr, ∃ co3_7_5 : Nat, Frm 24 fa [(16, (.agg #[(.bool ((decide (a < 0)))), (.slice (Ao3_1_4) ((((lim a.natAbs))).length) (co3_1_5))])), (18, (.agg #[(.bool ((decide (b < 0)))), (.slice (Ao3_3_4) ((((lim b.natAbs))).length) (co3_3_5))])), (19, (.agg (ic (Ao3_4_4) (co3_4_5) ((a * b))))), (22, (.agg (ic (Ao3_7_4) (co3_7_5) ((a * b))))), (23, (.bool (true)))] ∧ St w w' [(g5, 24, (ic (A_b) (c_b) (b))), (g1, 24, (ic (A_a) (c_a) (a)))] ∧ Ext w17 (g5 :: (g1 :: X)) w' (g5 :: (g1 :: X)) ∧ UC w' (g5 :: (g1 :: X)) Ao3_1_4 co3_1_5 (((lim a.natAbs))) ∧ UC w' (g5 :: (g1 :: X)) Ao3_3_4 co3_3_5 (((lim b.natAbs))) ∧ UC w' (g5 :: (g1 :: X)) Ao3_4_4 co3_4_5 (lim (a * b).natAbs) ∧ UC w' (g5 :: (g1 :: X)) Ao3_7_4 co3_7_5 (lim (a * b).natAbs)
     ] TfLM.mixed rfl rfl rfl rfl rfl rfl (hF.take (hF.take (hF.take (hF.take (hF.take hF.nil rfl) rfl) rfl) rfl) rfl) rfl ⟨hF.nil, hS.drew, Ext.drew _ _⟩ ?_ ?_ ?_
 all_goals clear hF fa
 ·
  refine ⟨?_, ?_, ?_, ?_, ?_, ?_, trivial⟩
  ·
   rintro fa w' i o d v ho hd hna ⟨hA, hR⟩; exact ⟨hA.put_other v (freeOf_at (acts := [1, 3, 4, 7, 8]) rfl ho hd hna), hR⟩
  ·
   rintro fa w' i o d v ho hd hna ⟨Ao3_1_4, co3_1_5, hA, hR⟩; exact ⟨Ao3_1_4, co3_1_5, hA.put_other v (freeOf_at (acts := [1, 3, 4, 7, 8]) rfl ho hd hna), hR⟩
  ·
   rintro fa w' i o d v ho hd hna ⟨Ao3_1_4, co3_1_5, Ao3_3_4, co3_3_5, hA, hR⟩; exact ⟨Ao3_1_4, co3_1_5, Ao3_3_4, co3_3_5, hA.put_other v (freeOf_at (acts := [1, 3, 4, 7, 8]) rfl ho hd hna), hR⟩
  ·
   rintro fa w' i o d v ho hd hna ⟨Ao3_1_4, co3_1_5, Ao3_3_4, co3_3_5, Ao3_4_4, co3_4_5, hA, hR⟩; exact ⟨Ao3_1_4, co3_1_5, Ao3_3_4, co3_3_5, Ao3_4_4, co3_4_5, hA.put_other v (freeOf_at (acts := [1, 3, 4, 7, 8]) rfl ho hd hna), hR⟩
  ·
   rintro fa w' i o d v ho hd hna ⟨Ao3_1_4, co3_1_5, Ao3_3_4, co3_3_5, Ao3_4_4, co3_4_5, Ao3_7_4, co3_7_5, hA, hR⟩; exact ⟨Ao3_1_4, co3_1_5, Ao3_3_4, co3_3_5, Ao3_4_4, co3_4_5, Ao3_7_4, co3_7_5, hA.put_other v (freeOf_at (acts := [1, 3, 4, 7, 8]) rfl ho hd hna), hR⟩
  ·
   rintro fa w' i o d v ho hd hna ⟨Ao3_1_4, co3_1_5, Ao3_3_4, co3_3_5, Ao3_4_4, co3_4_5, Ao3_7_4, co3_7_5, hA, hR⟩; exact ⟨Ao3_1_4, co3_1_5, Ao3_3_4, co3_3_5, Ao3_4_4, co3_4_5, Ao3_7_4, co3_7_5, hA.put_other v (freeOf_at (acts := [1, 3, 4, 7, 8]) rfl ho hd hna), hR⟩
 ·
  refine ⟨?_, ?_, ?_, ?_, ?_, ?_, ?_, ?_, ?_, ?_, trivial⟩
  ·
   refine .inr (.inl ⟨rfl, _, _, rfl, rfl, ?_, trivial⟩)
   ·
    intro fa w' hΦ hF hB K hK
    obtain ⟨hA, hS, E_w'⟩ := hΦ
    exact fl_val rfl rfl rfl (ex_loadb TfLM.row24 (hF.ev rfl) (hS.get 1 rfl) rfl) hK
  ·
   refine .inr (.inr ⟨rfl, ?_, trivial⟩)
   ·
    intro fa w' hΦ hF hB
    obtain ⟨hA, hS, E_w'⟩ := hΦ
    replace hF := hF.cons (hB.val 0 _ 15 _ rfl rfl rfl rfl)
    refine wop rfl rfl ?_
    have hC := law01_cp_ok (w := w') (X := (g5 :: (g1 :: X))) (ng := (decide (a < 0))) (l := (lim a.natAbs)) (hS.bnd hX) ⟨_, rfl, _, _, rfl, (hu_a.ext (((((E3.trans E7).trans E11).trans E14).trans E19).trans E_w'))⟩ (by omega)
    refine op_call hF rfl TfLM.body14 (args1 (hF.ev rfl)) hC ?_
    clear hC
    rintro _ wo3_1_1 ⟨⟨_, rfl, Ao3_1_4, co3_1_5, rfl, huo3_1_6⟩, hbo3_1_2⟩
    clear hF; intro hF
    replace hS := hS.call hbo3_1_2; have Eo3_1_3 := Ext.call (g5 :: (g1 :: X)) hbo3_1_2
    have hA1 := ((hA.put_other _ rfl).cons (hF.get 16 _ rfl))
    exact ⟨1, rfl, ⟨Ao3_1_4, co3_1_5, (hA1.take hA1.nil rfl), hS, (E_w'.trans Eo3_1_3), huo3_1_6⟩, _, rfl, fun u hu => by cases hu <;> rfl⟩
  ·
   refine .inr (.inl ⟨rfl, _, _, rfl, rfl, ?_, ?_, trivial⟩)
   ·
    intro fa w' hΦ hF hB K hK
    obtain ⟨hA, hS, E_w'⟩ := hΦ
    exact fl_val rfl rfl rfl (ex_loadb TfLM.row24 (hF.ev rfl) (hS.get 0 rfl) rfl) hK
   ·
    intro fa w' hΦ hF hB K hK
    obtain ⟨Ao3_1_4, co3_1_5, hA, hS, E_w', huo3_1_6⟩ := hΦ
    exact fl_val rfl rfl rfl (ex_loadb TfLM.row24 (hF.ev rfl) (hS.get 0 rfl) rfl) hK
  ·
   refine .inr (.inr ⟨rfl, ?_, trivial⟩)
   ·
    intro fa w' hΦ hF hB
    obtain ⟨Ao3_1_4, co3_1_5, hA, hS, E_w', huo3_1_6⟩ := hΦ
    replace hF := hF.cons (hB.val 2 _ 17 _ rfl rfl rfl rfl)
    refine wop rfl rfl ?_
    have hC := law01_cp_ok (w := w') (X := (g5 :: (g1 :: X))) (ng := (decide (b < 0))) (l := (lim b.natAbs)) (hS.bnd hX) ⟨_, rfl, _, _, rfl, (hu_b.ext (((((E3.trans E7).trans E11).trans E14).trans E19).trans E_w'))⟩ (by omega)
    refine op_call hF rfl TfLM.body14 (args1 (hF.ev rfl)) hC ?_
    clear hC
    rintro _ wo3_3_1 ⟨⟨_, rfl, Ao3_3_4, co3_3_5, rfl, huo3_3_6⟩, hbo3_3_2⟩
    clear hF; intro hF
    replace hS := hS.call hbo3_3_2; have Eo3_3_3 := Ext.call (g5 :: (g1 :: X)) hbo3_3_2
    have hA1 := ((hA.put_other _ rfl).cons (hF.get 18 _ rfl))
    exact ⟨2, rfl, ⟨Ao3_1_4, co3_1_5, Ao3_3_4, co3_3_5, (hA1.take (hA1.take hA1.nil rfl) rfl), hS, (E_w'.trans Eo3_3_3), (huo3_1_6.ext Eo3_3_3), huo3_3_6⟩, _, rfl, fun u hu => by cases hu <;> rfl⟩
  ·
   refine .inr (.inr ⟨rfl, ?_, trivial⟩)
   ·
    intro fa w' hΦ hF hB
    obtain ⟨Ao3_1_4, co3_1_5, Ao3_3_4, co3_3_5, hA, hS, E_w', huo3_1_6, huo3_3_6⟩ := hΦ
    replace hF := hF.cons (hA.get 16 _ rfl)
    replace hF := hF.cons (hA.get 18 _ rfl)
    refine wop rfl rfl ?_
    have hC := integer_Mul_ok (w := w') (X := (g5 :: (g1 :: X))) (a := a) (b := b) (hS.bnd hX) (IntV.of_ (n := (((lim a.natAbs))).length) (b := (decide (a < 0))) (x := a) (huo3_1_6) (rfl) (rfl) (rfl)) (IntV.of_ (n := (((lim b.natAbs))).length) (b := (decide (b < 0))) (x := b) (huo3_3_6) (rfl) (rfl) (rfl)) (by omega) (by omega)
    refine op_call hF rfl TfLM.body27 (args2 (hF.ev rfl) (hF.ev rfl)) hC ?_
    clear hC
    rintro _ wo3_4_1 ⟨⟨_, rfl, Ao3_4_4, co3_4_5, rfl, huo3_4_6⟩, hbo3_4_2⟩
    clear hF; intro hF
    replace hS := hS.call hbo3_4_2; have Eo3_4_3 := Ext.call (g5 :: (g1 :: X)) hbo3_4_2
    have hA1 := ((hA.put_other _ rfl).cons (hF.get 19 _ rfl))
    exact ⟨3, rfl, ⟨Ao3_1_4, co3_1_5, Ao3_3_4, co3_3_5, Ao3_4_4, co3_4_5, (hA1.take (hA1.take (hA1.take hA1.nil rfl) rfl) rfl), hS, (E_w'.trans Eo3_4_3), (huo3_1_6.ext Eo3_4_3), (huo3_3_6.ext Eo3_4_3), huo3_4_6⟩, _, rfl, fun u hu => by cases hu <;> rfl⟩
  ·
   refine .inr (.inl ⟨rfl, _, _, rfl, rfl, ?_, ?_, ?_, ?_, trivial⟩)
   ·
    intro fa w' hΦ hF hB K hK
    obtain ⟨hA, hS, E_w'⟩ := hΦ
    exact fl_val rfl rfl rfl (ex_loadb TfLM.row24 (hF.ev rfl) (hS.get 1 rfl) rfl) hK
   ·
    intro fa w' hΦ hF hB K hK
    obtain ⟨Ao3_1_4, co3_1_5, hA, hS, E_w', huo3_1_6⟩ := hΦ
    exact fl_val rfl rfl rfl (ex_loadb TfLM.row24 (hF.ev rfl) (hS.get 1 rfl) rfl) hK
   ·
    intro fa w' hΦ hF hB K hK
    obtain ⟨Ao3_1_4, co3_1_5, Ao3_3_4, co3_3_5, hA, hS, E_w', huo3_1_6, huo3_3_6⟩ := hΦ
    exact fl_val rfl rfl rfl (ex_loadb TfLM.row24 (hF.ev rfl) (hS.get 1 rfl) rfl) hK
   ·
    intro fa w' hΦ hF hB K hK
    obtain ⟨Ao3_1_4, co3_1_5, Ao3_3_4, co3_3_5, Ao3_4_4, co3_4_5, hA, hS, E_w', huo3_1_6, huo3_3_6, huo3_4_6⟩ := hΦ
    exact fl_val rfl rfl rfl (ex_loadb TfLM.row24 (hF.ev rfl) (hS.get 1 rfl) rfl) hK
  ·
   refine .inr (.inl ⟨rfl, _, _, rfl, rfl, ?_, ?_, ?_, ?_, trivial⟩)
   ·
    intro fa w' hΦ hF hB K hK
    obtain ⟨hA, hS, E_w'⟩ := hΦ
    exact fl_val rfl rfl rfl (ex_loadb TfLM.row24 (hF.ev rfl) (hS.get 0 rfl) rfl) hK
   ·
    intro fa w' hΦ hF hB K hK
    obtain ⟨Ao3_1_4, co3_1_5, hA, hS, E_w', huo3_1_6⟩ := hΦ
    exact fl_val rfl rfl rfl (ex_loadb TfLM.row24 (hF.ev rfl) (hS.get 0 rfl) rfl) hK
   ·
    intro fa w' hΦ hF hB K hK
    obtain ⟨Ao3_1_4, co3_1_5, Ao3_3_4, co3_3_5, hA, hS, E_w', huo3_1_6, huo3_3_6⟩ := hΦ
    exact fl_val rfl rfl rfl (ex_loadb TfLM.row24 (hF.ev rfl) (hS.get 0 rfl) rfl) hK
   ·
    intro fa w' hΦ hF hB K hK
    obtain ⟨Ao3_1_4, co3_1_5, Ao3_3_4, co3_3_5, Ao3_4_4, co3_4_5, hA, hS, E_w', huo3_1_6, huo3_3_6, huo3_4_6⟩ := hΦ
    exact fl_val rfl rfl rfl (ex_loadb TfLM.row24 (hF.ev rfl) (hS.get 0 rfl) rfl) hK
  ·
   refine .inr (.inr ⟨rfl, ?_, trivial⟩)
   ·
    intro fa w' hΦ hF hB
    obtain ⟨Ao3_1_4, co3_1_5, Ao3_3_4, co3_3_5, Ao3_4_4, co3_4_5, hA, hS, E_w', huo3_1_6, huo3_3_6, huo3_4_6⟩ := hΦ
    replace hF := hF.cons (hB.val 5 _ 20 _ rfl rfl rfl rfl)
    replace hF := hF.cons (hB.val 6 _ 21 _ rfl rfl rfl rfl)
    refine wop rfl rfl ?_
    have hC := ref01_Mul_ok (w := w') (X := (g5 :: (g1 :: X))) (a := a) (b := b) (hS.bnd hX) (IntV.of_ (n := (lim a.natAbs).length) (b := decide (a < 0)) (x := a) ((hu_a.ext (((((E3.trans E7).trans E11).trans E14).trans E19).trans E_w'))) (rfl) (rfl) (rfl)) (IntV.of_ (n := (lim b.natAbs).length) (b := decide (b < 0)) (x := b) ((hu_b.ext (((((E3.trans E7).trans E11).trans E14).trans E19).trans E_w'))) (rfl) (rfl) (rfl)) (by omega) (by omega)
    refine op_call hF rfl TfLM.body21 (args2 (hF.ev rfl) (hF.ev rfl)) hC ?_
    clear hC
    rintro _ wo3_7_1 ⟨⟨_, rfl, Ao3_7_4, co3_7_5, rfl, huo3_7_6⟩, hbo3_7_2⟩
    clear hF; intro hF
    replace hS := hS.call hbo3_7_2; have Eo3_7_3 := Ext.call (g5 :: (g1 :: X)) hbo3_7_2
    have hA1 := ((hA.put_other _ rfl).cons (hF.get 22 _ rfl))
    exact ⟨4, rfl, ⟨Ao3_1_4, co3_1_5, Ao3_3_4, co3_3_5, Ao3_4_4, co3_4_5, Ao3_7_4, co3_7_5, (hA1.take (hA1.take (hA1.take (hA1.take hA1.nil rfl) rfl) rfl) rfl), hS, (E_w'.trans Eo3_7_3), (huo3_1_6.ext Eo3_7_3), (huo3_3_6.ext Eo3_7_3), (huo3_4_6.ext Eo3_7_3), huo3_7_6⟩, _, rfl, fun u hu => by cases hu <;> rfl⟩
  ·
   refine .inr (.inr ⟨rfl, ?_, trivial⟩)
   ·
    intro fa w' hΦ hF hB
    obtain ⟨Ao3_1_4, co3_1_5, Ao3_3_4, co3_3_5, Ao3_4_4, co3_4_5, Ao3_7_4, co3_7_5, hA, hS, E_w', huo3_1_6, huo3_3_6, huo3_4_6, huo3_7_6⟩ := hΦ
    replace hF := hF.cons (hA.get 19 _ rfl)
    replace hF := hF.cons (hA.get 22 _ rfl)
    refine wop rfl rfl ?_
    have hC := law01_same_ok (w := w') (X := (g5 :: (g1 :: X))) (a := (a * b)) (b := (a * b)) (hS.bnd hX) (IntV.of_ (n := (lim (a * b).natAbs).length) (b := decide ((a * b) < 0)) (x := a * b) (huo3_4_6) (rfl) (rfl) (rfl)) (IntV.of_ (n := (lim (a * b).natAbs).length) (b := decide ((a * b) < 0)) (x := a * b) (huo3_7_6) (rfl) (rfl) (rfl))
    rw [show (decide ((a * b) = (a * b))) = true from by simp] at hC
    refine op_call hF rfl TfLM.body19 (args2 (hF.ev rfl) (hF.ev rfl)) hC ?_
    clear hC
    rintro _ wo3_8_1 ⟨rfl, hbo3_8_2⟩
    clear hF; intro hF
    replace hS := hS.call hbo3_8_2; have Eo3_8_3 := Ext.call (g5 :: (g1 :: X)) hbo3_8_2
    have hA1 := ((hA.put_other _ rfl).cons (hF.get 23 _ rfl))
    exact ⟨5, rfl, ⟨Ao3_1_4, co3_1_5, Ao3_3_4, co3_3_5, Ao3_4_4, co3_4_5, Ao3_7_4, co3_7_5, (hA1.take (hA1.take (hA1.take (hA1.take (hA1.take hA1.nil rfl) rfl) rfl) rfl) rfl), hS, (E_w'.trans Eo3_8_3), (huo3_1_6.ext Eo3_8_3), (huo3_3_6.ext Eo3_8_3), (huo3_4_6.ext Eo3_8_3), (huo3_7_6.ext Eo3_8_3)⟩, _, rfl, fun u hu => by cases hu <;> rfl⟩
  ·
   refine .inl ⟨rfl, _, _, rfl, rfl, fun s fa w' hΦ hF hB K hK => ?_⟩
   replace hF := hF.cons (hB.val 8 _ 23 _ rfl rfl rfl rfl)
   exact fl_val rfl rfl rfl (ex_assign (hF.ev rfl)) hK
 intro fa w20 hΦ hF hC
 obtain ⟨Ao3_1_4, co3_1_5, Ao3_3_4, co3_3_5, Ao3_4_4, co3_4_5, Ao3_7_4, co3_7_5, hA, hS, E_w20, huo3_1_6, huo3_3_6, huo3_4_6, huo3_7_6⟩ := hΦ
 replace hF := hF.cons (hC 9 _ 4 _ rfl rfl rfl)
 clear hA hC
 refine x_tn ?_
 refine c_ret ?_
 refine end1 hF rfl (res_tmp hF rfl) ?_
 exact ⟨_, rfl, (congrArg Value.bool (by simp_all)), hS.below⟩

end Go.Proofs.Ytlaojdpcfenlkaa
