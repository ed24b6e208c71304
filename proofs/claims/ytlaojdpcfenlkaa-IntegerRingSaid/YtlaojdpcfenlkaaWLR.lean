/-
  What the functions IntegerRing#bad, IntegerRing do, each call by call.
  Conditions: none.
-/
import Derived.Test.YtlaojdpcfenlkaaChecked
import Derived.Test.YtlaojdpcfenlkaaSwBaseK
import Derived.Test.YtlaojdpcfenlkaaWH
import Derived.Test.YtlaojdpcfenlkaaWI
import Derived.Test.YtlaojdpcfenlkaaWJ
import Derived.Test.YtlaojdpcfenlkaaWP
import Derived.Test.YtlaojdpcfenlkaaWT
import Derived.Test.YtlaojdpcfenlkaaWY
namespace Go.Proofs.Ytlaojdpcfenlkaa
open Go Go.RowKit Go.Sw
set_option linter.unusedVariables false
namespace TfLR
theorem body11 : hasBody Try.prog 11 = true := by kernel_rfl
theorem body12 : hasBody Try.prog 12 = true := by kernel_rfl
theorem body19 : hasBody Try.prog 19 = true := by kernel_rfl
theorem body27 : hasBody Try.prog 27 = true := by kernel_rfl
theorem body28 : hasBody Try.prog 28 = true := by kernel_rfl
theorem body33 : hasBody Try.prog 33 = true := by kernel_rfl
theorem body34 : hasBody Try.prog 34 = true := by kernel_rfl
theorem el24 : Sw.elemOf Try.prog 24 = some (#[.bool false, .slice none 0 0], 2, 32) := by kernel_rfl
theorem mixed : Try.prog.follows .mixedOrders = true := by kernel_rfl
theorem row24 : isRow Try.prog 24 2 = true := by kernel_rfl
theorem sl47 : sliceOf Try.prog 47 = some (24, 2) := by kernel_rfl
end TfLR
set_option maxHeartbeats 4000000 in
theorem swarflaw01_IntegerRing_bad_ok {w : World} {X : List Nat} (hX : ∀ m ∈ X, m < w.heap.size) {v_na : Value} {na : Bool} {la : List Nat} (h_na : RawV w X v_na (na) (la)) {v_nb : Value} {nb : Bool} {lb : List Nat} (h_nb : RawV w X v_nb (nb) (lb)) {v_nc : Value} {nc : Bool} {lc : List Nat} (h_nc : RawV w X v_nc (nc) (lc)) (hbad : ([(na, la), (nb, lb), (nc, lc)].all fun p => decide ((p.2.length : Int) ≤ 16) && validL p.1 p.2) = false) :
    Calls Try.prog 8 #[v_na, v_nb, v_nc] w (Ret fun r w' => (r = .bool (true)) ∧ Below w.heap.size w w') := by
 refine enter (N := 59) (fn := Try.f8) (vs := [v_na, v_nb, v_nc]) Try.func8 rfl rfl rfl ?_
 intro fa hF
 obtain ⟨_, rfl, A_la, c_la, rfl, hu_la⟩ := h_na
 have hl_la := hu_la.len; have hc_la := hu_la.cap
 obtain ⟨_, rfl, A_lb, c_lb, rfl, hu_lb⟩ := h_nb
 have hl_lb := hu_lb.len; have hc_lb := hu_lb.cap
 obtain ⟨_, rfl, A_lc, c_lc, rfl, hu_lc⟩ := h_nc
 have hl_lc := hu_lc.len; have hc_lc := hu_lc.cap
 replace hF : Frm 59 fa [(0, (.agg #[(.bool (na)), (.slice (A_la) (la.length) (c_la))])), (1, (.agg #[(.bool (nb)), (.slice (A_lb) (lb.length) (c_lb))])), (2, (.agg #[(.bool (nc)), (.slice (A_lc) (lc.length) (c_lc))]))] := hF
 have hS := St.refl w
 refine c_seq ?_
 refine c_reg ?_
 refine st rfl (op_box (X := X) hF hS rfl rfl rfl ?_)
 intro g1 w2 hg4 hS E3; refine gen_ ?_; clear hF fa; intro fa hF
 replace hS : St w w2 [(g1, 24, #[(.bool (na)), (.slice (A_la) (la.length) (c_la))])] := hS
 refine st rfl (op_box (X := (g1 :: X)) hF hS rfl rfl rfl ?_)
 intro g5 w6 hg8 hS E7; refine gen_ ?_; clear hF fa; intro fa hF
 replace hS : St w w6 [(g5, 24, #[(.bool (nb)), (.slice (A_lb) (lb.length) (c_lb))]), (g1, 24, #[(.bool (na)), (.slice (A_la) (la.length) (c_la))])] := hS
 refine st rfl (op_box (X := (g5 :: (g1 :: X))) hF hS rfl rfl rfl ?_)
 intro g9 w10 hg12 hS E11; refine gen_ ?_; clear hF fa; intro fa hF
 replace hS : St w w10 [(g9, 24, #[(.bool (nc)), (.slice (A_lc) (lc.length) (c_lc))]), (g5, 24, #[(.bool (nb)), (.slice (A_lb) (lb.length) (c_lb))]), (g1, 24, #[(.bool (na)), (.slice (A_la) (la.length) (c_la))])] := hS
 refine st_val hF rfl rfl rfl (ex_assign (hF.ev rfl)) ?_
 clear hF fa; intro fa hF
 refine c_nil_then ?_
 refine c_seq ?_
 refine c_seq ?_
 refine c_reg ?_
 have hC := law01_awake_ok (w := w10) (X := (g9 :: (g5 :: (g1 :: X)))) (hS.bnd hX) 
 refine st rfl (op_call hF rfl TfLR.body11 (args0) hC ?_)
 clear hC
 rintro _ w13 ⟨rfl, hb14⟩
 refine gen_ ?_; clear hF fa; intro fa hF
 replace hS := hS.call hb14; have E15 := Ext.call (g9 :: (g5 :: (g1 :: X))) hb14
 refine st_val hF rfl rfl rfl (ex_not (hF.ev rfl)) ?_
 clear hF fa; intro fa hF
 refine st_val hF rfl rfl rfl (ex_move (hF.ev rfl)) ?_
 clear hF fa; intro fa hF
 refine stg_val hF rfl rfl rfl rfl (ex_loadb TfLR.row24 (hF.ev rfl) (hS.get 2 rfl) rfl) ?_
 clear hF fa; intro fa hF
 refine stg_val hF rfl rfl rfl rfl (ex_loadb TfLR.row24 (hF.ev rfl) (hS.get 1 rfl) rfl) ?_
 clear hF fa; intro fa hF
 refine stg_val hF rfl rfl rfl rfl (ex_loadb TfLR.row24 (hF.ev rfl) (hS.get 0 rfl) rfl) ?_
 clear hF fa; intro fa hF
 refine stg hF rfl rfl (op_lit (X := (g9 :: (g5 :: (g1 :: X)))) hF hS (hS.bnd hX) rfl TfLR.sl47 TfLR.el24 rfl rfl (lits3 (hF.ev rfl) (hF.ev rfl) (hF.ev rfl)) fill_r3 ?_)
 intro g16 w17 hg19 hS E18 hc20; refine gen_ ?_; clear hF fa; intro fa hF
 have hC := law01_small_ok (w := w17) (X := (g9 :: (g5 :: (g1 :: X)))) (zs := ([(na, la), (nb, lb), (nc, lc)])) (hS.bnd hX) (RL.raw3 hc20 ⟨_, rfl, _, _, rfl, (hu_la.ext ((((E3.trans E7).trans E11).trans E15).trans E18))⟩ ⟨_, rfl, _, _, rfl, (hu_lb.ext ((((E3.trans E7).trans E11).trans E15).trans E18))⟩ ⟨_, rfl, _, _, rfl, (hu_lc.ext ((((E3.trans E7).trans E11).trans E15).trans E18))⟩)
 rw [show ((([(na, la), (nb, lb), (nc, lc)]).all fun p => decide ((p.2.length : Int) ≤ 16) && validL p.1 p.2)) = false from hbad] at hC
 refine stg hF rfl rfl (op_call hF rfl TfLR.body12 (args1 (hF.ev rfl)) hC ?_)
 clear hC
 rintro _ w21 ⟨rfl, hb22⟩
 refine gen_ ?_; clear hF fa; intro fa hF
 replace hS := hS.call hb22; have E23 := Ext.call (g9 :: (g5 :: (g1 :: X))) hb22
 refine stg_val hF rfl rfl rfl rfl (ex_not (hF.ev rfl)) ?_
 clear hF fa; intro fa hF
 refine st_val hF rfl rfl rfl (ex_pick (hF.ev rfl) (u := undef) (fun h => by cases h) (fun _ => hF.ev rfl) rfl) ?_
 clear hF fa; intro fa hF
 refine c_nil_then ?_
 refine c_cond hF rfl (fun hc => ?_) (fun hc => ?_)
 rotate_left
 ·
  cases hc
 refine c_seq ?_
 refine c_reg ?_
 have hC := law01_awake_ok (w := w21) (X := (g9 :: (g5 :: (g1 :: X)))) (hS.bnd hX) 
 refine st rfl (op_call hF rfl TfLR.body11 (args0) hC ?_)
 clear hC
 rintro _ w24 ⟨rfl, hb25⟩
 refine gen_ ?_; clear hF fa; intro fa hF
 replace hS := hS.call hb25; have E26 := Ext.call (g9 :: (g5 :: (g1 :: X))) hb25
 refine st_val hF rfl rfl rfl (ex_assign (hF.ev rfl)) ?_
 clear hF fa; intro fa hF
 refine c_nil_then ?_
 refine c_ret ?_
 refine x_tr ?_
 refine end1 hF rfl (res_tmp hF rfl) ?_
 exact ⟨_, rfl, (congrArg Value.bool (by simp_all)), hS.below⟩

set_option maxHeartbeats 4000000 in
theorem law01_IntegerRing_ok {w : World} {X : List Nat} (hX : ∀ m ∈ X, m < w.heap.size) {v_a : Value} {a : Int} (h_a : IntV w X v_a (a)) {v_b : Value} {b : Int} (h_b : IntV w X v_b (b)) {v_c : Value} {c : Int} (h_c : IntV w X v_c (c)) (hs_a : sz a ≤ 16) (hs_b : sz b ≤ 16) (hs_c : sz c ≤ 16) :
    Calls Try.prog 8 #[v_a, v_b, v_c] w (Ret fun r w' => (r = .bool (true)) ∧ Below w.heap.size w w') := by
 refine enter (N := 59) (fn := Try.f8) (vs := [v_a, v_b, v_c]) Try.func8 rfl rfl rfl ?_
 intro fa hF
 obtain ⟨_, rfl, A_a, c_a, rfl, hu_a⟩ := h_a
 have hl_a := hu_a.len; have hc_a := hu_a.cap
 obtain ⟨_, rfl, A_b, c_b, rfl, hu_b⟩ := h_b
 have hl_b := hu_b.len; have hc_b := hu_b.cap
 obtain ⟨_, rfl, A_c, c_c, rfl, hu_c⟩ := h_c
 have hl_c := hu_c.len; have hc_c := hu_c.cap
 replace hF : Frm 59 fa [(0, (.agg (ic (A_a) (c_a) (a)))), (1, (.agg (ic (A_b) (c_b) (b)))), (2, (.agg (ic (A_c) (c_c) (c))))] := hF
 have hS := St.refl w
 have hs_a0 := hs_a; have hs_b0 := hs_b; have hs_c0 := hs_c; unfold sz at hs_a0 hs_b0 hs_c0
 refine c_seq ?_
 refine c_reg ?_
 refine st rfl (op_box (X := X) hF hS rfl rfl rfl ?_)
 intro g1 w2 hg4 hS E3; refine gen_ ?_; clear hF fa; intro fa hF
 replace hS : St w w2 [(g1, 24, (ic (A_a) (c_a) (a)))] := hS
 refine st rfl (op_box (X := (g1 :: X)) hF hS rfl rfl rfl ?_)
 intro g5 w6 hg8 hS E7; refine gen_ ?_; clear hF fa; intro fa hF
 replace hS : St w w6 [(g5, 24, (ic (A_b) (c_b) (b))), (g1, 24, (ic (A_a) (c_a) (a)))] := hS
 refine st rfl (op_box (X := (g5 :: (g1 :: X))) hF hS rfl rfl rfl ?_)
 intro g9 w10 hg12 hS E11; refine gen_ ?_; clear hF fa; intro fa hF
 replace hS : St w w10 [(g9, 24, (ic (A_c) (c_c) (c))), (g5, 24, (ic (A_b) (c_b) (b))), (g1, 24, (ic (A_a) (c_a) (a)))] := hS
 refine st_val hF rfl rfl rfl (ex_assign (hF.ev rfl)) ?_
 clear hF fa; intro fa hF
 refine c_nil_then ?_
 refine c_seq ?_
 refine c_seq ?_
 refine c_reg ?_
 have hC := law01_awake_ok (w := w10) (X := (g9 :: (g5 :: (g1 :: X)))) (hS.bnd hX) 
 refine st rfl (op_call hF rfl TfLR.body11 (args0) hC ?_)
 clear hC
 rintro _ w13 ⟨rfl, hb14⟩
 refine gen_ ?_; clear hF fa; intro fa hF
 replace hS := hS.call hb14; have E15 := Ext.call (g9 :: (g5 :: (g1 :: X))) hb14
 refine st_val hF rfl rfl rfl (ex_not (hF.ev rfl)) ?_
 clear hF fa; intro fa hF
 refine st_val hF rfl rfl rfl (ex_move (hF.ev rfl)) ?_
 clear hF fa; intro fa hF
 refine stg_val hF rfl rfl rfl rfl (ex_loadb TfLR.row24 (hF.ev rfl) (hS.get 2 rfl) rfl) ?_
 clear hF fa; intro fa hF
 refine stg_val hF rfl rfl rfl rfl (ex_loadb TfLR.row24 (hF.ev rfl) (hS.get 1 rfl) rfl) ?_
 clear hF fa; intro fa hF
 refine stg_val hF rfl rfl rfl rfl (ex_loadb TfLR.row24 (hF.ev rfl) (hS.get 0 rfl) rfl) ?_
 clear hF fa; intro fa hF
 refine stg hF rfl rfl (op_lit (X := (g9 :: (g5 :: (g1 :: X)))) hF hS (hS.bnd hX) rfl TfLR.sl47 TfLR.el24 rfl rfl (lits3 (hF.ev rfl) (hF.ev rfl) (hF.ev rfl)) fill_r3 ?_)
 intro g16 w17 hg19 hS E18 hc20; refine gen_ ?_; clear hF fa; intro fa hF
 have hC := law01_small_ok (w := w17) (X := (g9 :: (g5 :: (g1 :: X)))) (zs := ([(decide (a < 0), (lim a.natAbs)), (decide (b < 0), (lim b.natAbs)), (decide (c < 0), (lim c.natAbs))])) (hS.bnd hX) (RL.raw3 hc20 ⟨_, rfl, _, _, rfl, (hu_a.ext ((((E3.trans E7).trans E11).trans E15).trans E18))⟩ ⟨_, rfl, _, _, rfl, (hu_b.ext ((((E3.trans E7).trans E11).trans E15).trans E18))⟩ ⟨_, rfl, _, _, rfl, (hu_c.ext ((((E3.trans E7).trans E11).trans E15).trans E18))⟩)
 rw [show ((([(decide (a < 0), (lim a.natAbs)), (decide (b < 0), (lim b.natAbs)), (decide (c < 0), (lim c.natAbs))]).all fun p => decide ((p.2.length : Int) ≤ 16) && validL p.1 p.2)) = true from small3 hs_a hs_b hs_c] at hC
 refine stg hF rfl rfl (op_call hF rfl TfLR.body12 (args1 (hF.ev rfl)) hC ?_)
 clear hC
 rintro _ w21 ⟨rfl, hb22⟩
 refine gen_ ?_; clear hF fa; intro fa hF
 replace hS := hS.call hb22; have E23 := Ext.call (g9 :: (g5 :: (g1 :: X))) hb22
 refine stg_val hF rfl rfl rfl rfl (ex_not (hF.ev rfl)) ?_
 clear hF fa; intro fa hF
 refine st_val hF rfl rfl rfl (ex_pick (hF.ev rfl) (u := undef) (fun h => by cases h) (fun _ => hF.ev rfl) rfl) ?_
 clear hF fa; intro fa hF
 refine c_nil_then ?_
 refine c_cond hF rfl (fun hc => ?_) (fun hc => ?_)
 ·
  cases hc
 refine c_skip ?_
 refine x_tn ?_
 refine c_seq ?_
 refine c_reg ?_
 refine st_val hF rfl rfl rfl (ex_loadb TfLR.row24 (hF.ev rfl) (hS.get 2 rfl) rfl) ?_
 clear hF fa; intro fa hF
 refine st_val hF rfl rfl rfl (ex_loadb TfLR.row24 (hF.ev rfl) (hS.get 1 rfl) rfl) ?_
 clear hF fa; intro fa hF
 have hC := integer_Cmp_ok (w := w21) (X := (g9 :: (g5 :: (g1 :: X)))) (a := a) (b := b) (hS.bnd hX) (IntV.of_ (n := (lim a.natAbs).length) (b := decide (a < 0)) (x := a) ((hu_a.ext (((((E3.trans E7).trans E11).trans E15).trans E18).trans E23))) (rfl) (rfl) (rfl)) (IntV.of_ (n := (lim b.natAbs).length) (b := decide (b < 0)) (x := b) ((hu_b.ext (((((E3.trans E7).trans E11).trans E15).trans E18).trans E23))) (rfl) (rfl) (rfl))
 refine st rfl (op_call hF rfl TfLR.body34 (args2 (hF.ev rfl) (hF.ev rfl)) hC ?_)
 clear hC
 rintro _ w24 ⟨rfl, hb25⟩
 refine gen_ ?_; clear hF fa; intro fa hF
 replace hS := hS.call hb25; have E26 := Ext.call (g9 :: (g5 :: (g1 :: X))) hb25
 refine st_val hF rfl rfl rfl (ex_assign (hF.ev rfl)) ?_
 clear hF fa; intro fa hF
 replace hF : Frm 59 fa [(0, (.agg (ic (A_a) (c_a) (a)))), (1, (.agg (ic (A_b) (c_b) (b)))), (2, (.agg (ic (A_c) (c_c) (c)))), (3, (.pointer (some ⟨g1, 0, none⟩))), (4, (.pointer (some ⟨g5, 0, none⟩))), (5, (.pointer (some ⟨g9, 0, none⟩))), (6, (.bool (false))), (17, (.bool (false))), (7, (.int .i64 (cmpI a b)))] := (hF.take (hF.take (hF.take (hF.take (hF.take (hF.take (hF.take (hF.take (hF.take hF.nil rfl) rfl) rfl) rfl) rfl) rfl) rfl) rfl) rfl)
 refine c_nil_then ?_
 refine c_seq ?_
 refine c_seq ?_
 refine drawn2 (N := 59) (L0 := [(0, (.agg (ic (A_a) (c_a) (a)))), (1, (.agg (ic (A_b) (c_b) (b)))), (2, (.agg (ic (A_c) (c_c) (c)))), (3, (.pointer (some ⟨g1, 0, none⟩))), (4, (.pointer (some ⟨g5, 0, none⟩))), (5, (.pointer (some ⟨g9, 0, none⟩))), (6, (.bool (false))), (17, (.bool (false))), (7, (.int .i64 (cmpI a b)))]) [some (.agg (ic (A_a) (c_a) (a))), some (.agg (ic (A_b) (c_b) (b))), none, some (.agg (ic (A_c) (c_c) (c))), none, some (.agg (ic (A_a) (c_a) (a))), some (.agg (ic (A_c) (c_c) (c))), none, some (.agg (ic (A_b) (c_b) (b))), some (.agg (ic (A_c) (c_c) (c))), none, none, some (.bool (true)), some (.bool (false)), some (.bool (false)), some (.agg (ic (A_a) (c_a) (a))), some (.agg (ic (A_c) (c_c) (c))), none, some (.agg (ic (A_b) (c_b) (b))), some (.agg (ic (A_c) (c_c) (c))), none, some (.int .i64 (cmpI (a + c) (b + c))), some (.int .i64 (cmpI a b)), some (.bool (false)), some (.bool (false))] [2, 4, 7, 10, 11, 12, 14, 17, 20, 21] [[], [2], [2, 4], [2, 4, 7], [2, 4, 7, 10], [2, 4, 7, 10, 11], [2, 4, 7, 10, 11, 12], [2, 4, 7, 10, 11, 12, 14], [2, 4, 7, 10, 11, 12, 14, 17], [2, 4, 7, 10, 11, 12, 14, 17, 20], [2, 4, 7, 10, 11, 12, 14, 17, 20, 21]] [[0], [0], [0], [0, 1], [1], [0, 1, 2], [0, 1, 2], [2], [0, 1, 2, 3], [0, 1, 2, 3], [3], [4], [5], [6], [6], [7], [7], [7], [7, 8], [7, 8], [8], [9], [7, 8, 9, 10], [10], [7, 8, 9, 10]] 10 [
       fun fa w' => Frm 59 fa [] ∧ St w w' [(g9, 24, (ic (A_c) (c_c) (c))), (g5, 24, (ic (A_b) (c_b) (b))), (g1, 24, (ic (A_a) (c_a) (a)))] ∧ Ext w24 (g9 :: (g5 :: (g1 :: X))) w' (g9 :: (g5 :: (g1 :: X)))
       , fun fa w' => ∃ Ao4_2_4 : Option Addr, ∃ co4_2_5 : Nat, Frm 59 fa [(24, (.agg (ic (Ao4_2_4) (co4_2_5) ((a + b)))))] ∧ St w w' [(g9, 24, (ic (A_c) (c_c) (c))), (g5, 24, (ic (A_b) (c_b) (b))), (g1, 24, (ic (A_a) (c_a) (a)))] ∧ Ext w24 (g9 :: (g5 :: (g1 :: X))) w' (g9 :: (g5 :: (g1 :: X))) ∧ UC w' (g9 :: (g5 :: (g1 :: X))) Ao4_2_4 co4_2_5 (lim (a + b).natAbs)
       , fun fa w' => ∃ Ao4_2_4 : Option Addr, ∃ co4_2_5 : Nat, ∃ Ao4_4_4 : Option Addr, ∃ co4_4_5 : Nat, Frm 59 fa [(24, (.agg (ic (Ao4_2_4) (co4_2_5) ((a + b))))), (26, (.agg (ic (Ao4_4_4) (co4_4_5) (((a + b) * c)))))] ∧ St w w' [(g9, 24, (ic (A_c) (c_c) (c))), (g5, 24, (ic (A_b) (c_b) (b))), (g1, 24, (ic (A_a) (c_a) (a)))] ∧ Ext w24 (g9 :: (g5 :: (g1 :: X))) w' (g9 :: (g5 :: (g1 :: X))) ∧ UC w' (g9 :: (g5 :: (g1 :: X))) Ao4_2_4 co4_2_5 (lim (a + b).natAbs) ∧ UC w' (g9 :: (g5 :: (g1 :: X))) Ao4_4_4 co4_4_5 (lim ((a + b) * c).natAbs)
       , fun fa w' => ∃ Ao4_2_4 : Option Addr, ∃ co4_2_5 : Nat, ∃ Ao4_4_4 : Option Addr, ∃ co4_4_5 : Nat, ∃ Ao4_7_4 : Option Addr, ∃ co4_7_5 : Nat, Frm 59 fa [(24, (.agg (ic (Ao4_2_4) (co4_2_5) ((a + b))))), (26, (.agg (ic (Ao4_4_4) (co4_4_5) (((a + b) * c))))), (29, (.agg (ic (Ao4_7_4) (co4_7_5) ((a * c)))))] ∧ St w w' [(g9, 24, (ic (A_c) (c_c) (c))), (g5, 24, (ic (A_b) (c_b) (b))), (g1, 24, (ic (A_a) (c_a) (a)))] ∧ Ext w24 (g9 :: (g5 :: (g1 :: X))) w' (g9 :: (g5 :: (g1 :: X))) ∧ UC w' (g9 :: (g5 :: (g1 :: X))) Ao4_2_4 co4_2_5 (lim (a + b).natAbs) ∧ UC w' (g9 :: (g5 :: (g1 :: X))) Ao4_4_4 co4_4_5 (lim ((a + b) * c).natAbs) ∧ UC w' (g9 :: (g5 :: (g1 :: X))) Ao4_7_4 co4_7_5 (lim (a * c).natAbs)
       , fun fa w' => ∃ Ao4_2_4 : Option Addr, ∃ co4_2_5 : Nat, ∃ Ao4_4_4 : Option Addr, ∃ co4_4_5 : Nat, ∃ Ao4_7_4 : Option Addr, ∃ co4_7_5 : Nat, ∃ Ao4_10_4 : Option Addr, ∃ co4_10_5 : Nat, Frm 59 fa [(24, (.agg (ic (Ao4_2_4) (co4_2_5) ((a + b))))), (26, (.agg (ic (Ao4_4_4) (co4_4_5) (((a + b) * c))))), (29, (.agg (ic (Ao4_7_4) (co4_7_5) ((a * c))))), (32, (.agg (ic (Ao4_10_4) (co4_10_5) ((b * c)))))] ∧ St w w' [(g9, 24, (ic (A_c) (c_c) (c))), (g5, 24, (ic (A_b) (c_b) (b))), (g1, 24, (ic (A_a) (c_a) (a)))] ∧ Ext w24 (g9 :: (g5 :: (g1 :: X))) w' (g9 :: (g5 :: (g1 :: X))) ∧ UC w' (g9 :: (g5 :: (g1 :: X))) Ao4_2_4 co4_2_5 (lim (a + b).natAbs) ∧ UC w' (g9 :: (g5 :: (g1 :: X))) Ao4_4_4 co4_4_5 (lim ((a + b) * c).natAbs) ∧ UC w' (g9 :: (g5 :: (g1 :: X))) Ao4_7_4 co4_7_5 (lim (a * c).natAbs) ∧ UC w' (g9 :: (g5 :: (g1 :: X))) Ao4_10_4 co4_10_5 (lim (b * c).natAbs)
       , fun fa w' => ∃ Ao4_2_4 : Option Addr, ∃ co4_2_5 : Nat, ∃ Ao4_4_4 : Option Addr, ∃ co4_4_5 : Nat, ∃ Ao4_7_4 : Option Addr, ∃ co4_7_5 : Nat, ∃ Ao4_10_4 : Option Addr, ∃ co4_10_5 : Nat, ∃ Ao4_11_4 : Option Addr, ∃ co4_11_5 : Nat, Frm 59 fa [(24, (.agg (ic (Ao4_2_4) (co4_2_5) ((a + b))))), (26, (.agg (ic (Ao4_4_4) (co4_4_5) (((a + b) * c))))), (29, (.agg (ic (Ao4_7_4) (co4_7_5) ((a * c))))), (32, (.agg (ic (Ao4_10_4) (co4_10_5) ((b * c))))), (33, (.agg (ic (Ao4_11_4) (co4_11_5) (((a * c) + (b * c))))))] ∧ St w w' [(g9, 24, (ic (A_c) (c_c) (c))), (g5, 24, (ic (A_b) (c_b) (b))), (g1, 24, (ic (A_a) (c_a) (a)))] ∧ Ext w24 (g9 :: (g5 :: (g1 :: X))) w' (g9 :: (g5 :: (g1 :: X))) ∧ UC w' (g9 :: (g5 :: (g1 :: X))) Ao4_2_4 co4_2_5 (lim (a + b).natAbs) ∧ UC w' (g9 :: (g5 :: (g1 :: X))) Ao4_4_4 co4_4_5 (lim ((a + b) * c).natAbs) ∧ UC w' (g9 :: (g5 :: (g1 :: X))) Ao4_7_4 co4_7_5 (lim (a * c).natAbs) ∧ UC w' (g9 :: (g5 :: (g1 :: X))) Ao4_10_4 co4_10_5 (lim (b * c).natAbs) ∧ UC w' (g9 :: (g5 :: (g1 :: X))) Ao4_11_4 co4_11_5 (lim ((a * c) + (b * c)).natAbs)
       , fun fa w' => ∃ Ao4_2_4 : Option Addr, ∃ co4_2_5 : Nat, ∃ Ao4_4_4 : Option Addr, ∃ co4_4_5 : Nat, ∃ Ao4_7_4 : Option Addr, ∃ co4_7_5 : Nat, ∃ Ao4_10_4 : Option Addr, ∃ co4_10_5 : Nat, ∃ Ao4_11_4 : Option Addr, ∃ co4_11_5 : Nat, Frm 59 fa [(24, (.agg (ic (Ao4_2_4) (co4_2_5) ((a + b))))), (26, (.agg (ic (Ao4_4_4) (co4_4_5) (((a + b) * c))))), (29, (.agg (ic (Ao4_7_4) (co4_7_5) ((a * c))))), (32, (.agg (ic (Ao4_10_4) (co4_10_5) ((b * c))))), (33, (.agg (ic (Ao4_11_4) (co4_11_5) (((a * c) + (b * c)))))), (34, (.bool (true)))] ∧ St w w' [(g9, 24, (ic (A_c) (c_c) (c))), (g5, 24, (ic (A_b) (c_b) (b))), (g1, 24, (ic (A_a) (c_a) (a)))] ∧ Ext w24 (g9 :: (g5 :: (g1 :: X))) w' (g9 :: (g5 :: (g1 :: X))) ∧ UC w' (g9 :: (g5 :: (g1 :: X))) Ao4_2_4 co4_2_5 (lim (a + b).natAbs) ∧ UC w' (g9 :: (g5 :: (g1 :: X))) Ao4_4_4 co4_4_5 (lim ((a + b) * c).natAbs) ∧ UC w' (g9 :: (g5 :: (g1 :: X))) Ao4_7_4 co4_7_5 (lim (a * c).natAbs) ∧ UC w' (g9 :: (g5 :: (g1 :: X))) Ao4_10_4 co4_10_5 (lim (b * c).natAbs) ∧ UC w' (g9 :: (g5 :: (g1 :: X))) Ao4_11_4 co4_11_5 (lim ((a * c) + (b * c)).natAbs)
       , fun fa w' => ∃ Ao4_2_4 : Option Addr, ∃ co4_2_5 : Nat, ∃ Ao4_4_4 : Option Addr, ∃ co4_4_5 : Nat, ∃ Ao4_7_4 : Option Addr, ∃ co4_7_5 : Nat, ∃ Ao4_10_4 : Option Addr, ∃ co4_10_5 : Nat, ∃ Ao4_11_4 : Option Addr, ∃ co4_11_5 : Nat, Frm 59 fa [(24, (.agg (ic (Ao4_2_4) (co4_2_5) ((a + b))))), (26, (.agg (ic (Ao4_4_4) (co4_4_5) (((a + b) * c))))), (29, (.agg (ic (Ao4_7_4) (co4_7_5) ((a * c))))), (32, (.agg (ic (Ao4_10_4) (co4_10_5) ((b * c))))), (33, (.agg (ic (Ao4_11_4) (co4_11_5) (((a * c) + (b * c)))))), (34, (.bool (true))), (36, (.bool (false)))] ∧ St w w' [(g9, 24, (ic (A_c) (c_c) (c))), (g5, 24, (ic (A_b) (c_b) (b))), (g1, 24, (ic (A_a) (c_a) (a)))] ∧ Ext w24 (g9 :: (g5 :: (g1 :: X))) w' (g9 :: (g5 :: (g1 :: X))) ∧ UC w' (g9 :: (g5 :: (g1 :: X))) Ao4_2_4 co4_2_5 (lim (a + b).natAbs) ∧ UC w' (g9 :: (g5 :: (g1 :: X))) Ao4_4_4 co4_4_5 (lim ((a + b) * c).natAbs) ∧ UC w' (g9 :: (g5 :: (g1 :: X))) Ao4_7_4 co4_7_5 (lim (a * c).natAbs) ∧ UC w' (g9 :: (g5 :: (g1 :: X))) Ao4_10_4 co4_10_5 (lim (b * c).natAbs) ∧ UC w' (g9 :: (g5 :: (g1 :: X))) Ao4_11_4 co4_11_5 (lim ((a * c) + (b * c)).natAbs)
       , fun fa w' => ∃ Ao4_2_4 : Option Addr, ∃ co4_2_5 : Nat, ∃ Ao4_4_4 : Option Addr, ∃ co4_4_5 : Nat, ∃ Ao4_7_4 : Option Addr, ∃ co4_7_5 : Nat, ∃ Ao4_10_4 : Option Addr, ∃ co4_10_5 : Nat, ∃ Ao4_11_4 : Option Addr, ∃ co4_11_5 : Nat, ∃ Ao4_17_4 : Option Addr, ∃ co4_17_5 : Nat, Frm 59 fa [(24, (.agg (ic (Ao4_2_4) (co4_2_5) ((a + b))))), (26, (.agg (ic (Ao4_4_4) (co4_4_5) (((a + b) * c))))), (29, (.agg (ic (Ao4_7_4) (co4_7_5) ((a * c))))), (32, (.agg (ic (Ao4_10_4) (co4_10_5) ((b * c))))), (33, (.agg (ic (Ao4_11_4) (co4_11_5) (((a * c) + (b * c)))))), (34, (.bool (true))), (36, (.bool (false))), (39, (.agg (ic (Ao4_17_4) (co4_17_5) ((a + c)))))] ∧ St w w' [(g9, 24, (ic (A_c) (c_c) (c))), (g5, 24, (ic (A_b) (c_b) (b))), (g1, 24, (ic (A_a) (c_a) (a)))] ∧ Ext w24 (g9 :: (g5 :: (g1 :: X))) w' (g9 :: (g5 :: (g1 :: X))) ∧ UC w' (g9 :: (g5 :: (g1 :: X))) Ao4_2_4 co4_2_5 (lim (a + b).natAbs) ∧ UC w' (g9 :: (g5 :: (g1 :: X))) Ao4_4_4 co4_4_5 (lim ((a + b) * c).natAbs) ∧ UC w' (g9 :: (g5 :: (g1 :: X))) Ao4_7_4 co4_7_5 (lim (a * c).natAbs) ∧ UC w' (g9 :: (g5 :: (g1 :: X))) Ao4_10_4 co4_10_5 (lim (b * c).natAbs) ∧ UC w' (g9 :: (g5 :: (g1 :: X))) Ao4_11_4 co4_11_5 (lim ((a * c) + (b * c)).natAbs) ∧ UC w' (g9 :: (g5 :: (g1 :: X))) Ao4_17_4 co4_17_5 (lim (a + c).natAbs)
       , fun fa w' => ∃ Ao4_2_4 : Option Addr, ∃ co4_2_5 : Nat, ∃ Ao4_4_4 : Option Addr, ∃ co4_4_5 : Nat, ∃ Ao4_7_4 : Option Addr, ∃ co4_7_5 : Nat, ∃ Ao4_10_4 : Option Addr, ∃ co4_10_5 : Nat, ∃ Ao4_11_4 : Option Addr, ∃ co4_11_5 : Nat, ∃ Ao4_17_4 : Option Addr, ∃ co4_17_5 : Nat, ∃ Ao4_20_4 : Option Addr, ∃ co4_20_5 : Nat, Frm 59 fa [(24, (.agg (ic (Ao4_2_4) (co4_2_5) ((a + b))))), (26, (.agg (ic (Ao4_4_4) (co4_4_5) (((a + b) * c))))), (29, (.agg (ic (Ao4_7_4) (co4_7_5) ((a * c))))), (32, (.agg (ic (Ao4_10_4) (co4_10_5) ((b * c))))), (33, (.agg (ic (Ao4_11_4) (co4_11_5) (((a * c) + (b * c)))))), (34, (.bool (true))), (36, (.bool (false))), (39, (.agg (ic (Ao4_17_4) (co4_17_5) ((a + c))))), (42, (.agg (ic (Ao4_20_4) (co4_20_5) ((b + c)))))] ∧ St w w' [(g9, 24, (ic (A_c) (c_c) (c))), (g5, 24, (ic (A_b) (c_b) (b))), (g1, 24, (ic (A_a) (c_a) (a)))] ∧ Ext w24 (g9 :: (g5 :: (g1 :: X))) w' (g9 :: (g5 :: (g1 :: X))) ∧ UC w' (g9 :: (g5 :: (g1 :: X))) Ao4_2_4 co4_2_5 (lim (a + b).natAbs) ∧ UC w' (g9 :: (g5 :: (g1 :: X))) Ao4_4_4 co4_4_5 (lim ((a + b) * c).natAbs) ∧ UC w' (g9 :: (g5 :: (g1 :: X))) Ao4_7_4 co4_7_5 (lim (a * c).natAbs) ∧ UC w' (g9 :: (g5 :: (g1 :: X))) Ao4_10_4 co4_10_5 (lim (b * c).natAbs) ∧ UC w' (g9 :: (g5 :: (g1 :: X))) Ao4_11_4 co4_11_5 (lim ((a * c) + (b * c)).natAbs) ∧ UC w' (g9 :: (g5 :: (g1 :: X))) Ao4_17_4 co4_17_5 (lim (a + c).natAbs) ∧ UC w' (g9 :: (g5 :: (g1 :: X))) Ao4_20_4 co4_20_5 (lim (b + c).natAbs)
       , fun fa w' => ∃ Ao4_2_4 : Option Addr, ∃ co4_2_5 : Nat, ∃ Ao4_4_4 : Option Addr, ∃ co4_4_5 : Nat, ∃ Ao4_7_4 : Option Addr, ∃ co4_7_5 : Nat, ∃ Ao4_10_4 : Option Addr, ∃ co4_10_5 : Nat, ∃ Ao4_11_4 : Option Addr, ∃ co4_11_5 : Nat, ∃ Ao4_17_4 : Option Addr, ∃ co4_17_5 : Nat, ∃ Ao4_20_4 : Option Addr, ∃ co4_20_5 : Nat, Frm 59 fa [(24, (.agg (ic (Ao4_2_4) (co4_2_5) ((a + b))))), (26, (.agg (ic (Ao4_4_4) (co4_4_5) (((a + b) * c))))), (29, (.agg (ic (Ao4_7_4) (co4_7_5) ((a * c))))), (32, (.agg (ic (Ao4_10_4) (co4_10_5) ((b * c))))), (33, (.agg (ic (Ao4_11_4) (co4_11_5) (((a * c) + (b * c)))))), (34, (.bool (true))), (36, (.bool (false))), (39, (.agg (ic (Ao4_17_4) (co4_17_5) ((a + c))))), (42, (.agg (ic (Ao4_20_4) (co4_20_5) ((b + c))))), (43, (.int .i64 (cmpI (a + c) (b + c))))] ∧ St w w' [(g9, 24, (ic (A_c) (c_c) (c))), (g5, 24, (ic (A_b) (c_b) (b))), (g1, 24, (ic (A_a) (c_a) (a)))] ∧ Ext w24 (g9 :: (g5 :: (g1 :: X))) w' (g9 :: (g5 :: (g1 :: X))) ∧ UC w' (g9 :: (g5 :: (g1 :: X))) Ao4_2_4 co4_2_5 (lim (a + b).natAbs) ∧ UC w' (g9 :: (g5 :: (g1 :: X))) Ao4_4_4 co4_4_5 (lim ((a + b) * c).natAbs) ∧ UC w' (g9 :: (g5 :: (g1 :: X))) Ao4_7_4 co4_7_5 (lim (a * c).natAbs) ∧ UC w' (g9 :: (g5 :: (g1 :: X))) Ao4_10_4 co4_10_5 (lim (b * c).natAbs) ∧ UC w' (g9 :: (g5 :: (g1 :: X))) Ao4_11_4 co4_11_5 (lim ((a * c) + (b * c)).natAbs) ∧ UC w' (g9 :: (g5 :: (g1 :: X))) Ao4_17_4 co4_17_5 (lim (a + c).natAbs) ∧ UC w' (g9 :: (g5 :: (g1 :: X))) Ao4_20_4 co4_20_5 (lim (b + c).natAbs)
     ] TfLR.mixed rfl rfl rfl rfl rfl rfl (hF.take (hF.take (hF.take (hF.take (hF.take (hF.take (hF.take (hF.take (hF.take hF.nil rfl) rfl) rfl) rfl) rfl) rfl) rfl) rfl) rfl) rfl ⟨hF.nil, hS.drew, Ext.drew _ _⟩ ?_ ?_ ?_
 all_goals clear hF fa
 ·
  refine ⟨?_, ?_, ?_, ?_, ?_, ?_, ?_, ?_, ?_, ?_, ?_, trivial⟩
  ·
   rintro fa w' i o d v ho hd hna ⟨hA, hR⟩; exact ⟨hA.put_other v (freeOf_at (acts := [2, 4, 7, 10, 11, 12, 14, 17, 20, 21]) rfl ho hd hna), hR⟩
  ·
   rintro fa w' i o d v ho hd hna ⟨Ao4_2_4, co4_2_5, hA, hR⟩; exact ⟨Ao4_2_4, co4_2_5, hA.put_other v (freeOf_at (acts := [2, 4, 7, 10, 11, 12, 14, 17, 20, 21]) rfl ho hd hna), hR⟩
  ·
   rintro fa w' i o d v ho hd hna ⟨Ao4_2_4, co4_2_5, Ao4_4_4, co4_4_5, hA, hR⟩; exact ⟨Ao4_2_4, co4_2_5, Ao4_4_4, co4_4_5, hA.put_other v (freeOf_at (acts := [2, 4, 7, 10, 11, 12, 14, 17, 20, 21]) rfl ho hd hna), hR⟩
  ·
   rintro fa w' i o d v ho hd hna ⟨Ao4_2_4, co4_2_5, Ao4_4_4, co4_4_5, Ao4_7_4, co4_7_5, hA, hR⟩; exact ⟨Ao4_2_4, co4_2_5, Ao4_4_4, co4_4_5, Ao4_7_4, co4_7_5, hA.put_other v (freeOf_at (acts := [2, 4, 7, 10, 11, 12, 14, 17, 20, 21]) rfl ho hd hna), hR⟩
  ·
   rintro fa w' i o d v ho hd hna ⟨Ao4_2_4, co4_2_5, Ao4_4_4, co4_4_5, Ao4_7_4, co4_7_5, Ao4_10_4, co4_10_5, hA, hR⟩; exact ⟨Ao4_2_4, co4_2_5, Ao4_4_4, co4_4_5, Ao4_7_4, co4_7_5, Ao4_10_4, co4_10_5, hA.put_other v (freeOf_at (acts := [2, 4, 7, 10, 11, 12, 14, 17, 20, 21]) rfl ho hd hna), hR⟩
  ·
   rintro fa w' i o d v ho hd hna ⟨Ao4_2_4, co4_2_5, Ao4_4_4, co4_4_5, Ao4_7_4, co4_7_5, Ao4_10_4, co4_10_5, Ao4_11_4, co4_11_5, hA, hR⟩; exact ⟨Ao4_2_4, co4_2_5, Ao4_4_4, co4_4_5, Ao4_7_4, co4_7_5, Ao4_10_4, co4_10_5, Ao4_11_4, co4_11_5, hA.put_other v (freeOf_at (acts := [2, 4, 7, 10, 11, 12, 14, 17, 20, 21]) rfl ho hd hna), hR⟩
  ·
   rintro fa w' i o d v ho hd hna ⟨Ao4_2_4, co4_2_5, Ao4_4_4, co4_4_5, Ao4_7_4, co4_7_5, Ao4_10_4, co4_10_5, Ao4_11_4, co4_11_5, hA, hR⟩; exact ⟨Ao4_2_4, co4_2_5, Ao4_4_4, co4_4_5, Ao4_7_4, co4_7_5, Ao4_10_4, co4_10_5, Ao4_11_4, co4_11_5, hA.put_other v (freeOf_at (acts := [2, 4, 7, 10, 11, 12, 14, 17, 20, 21]) rfl ho hd hna), hR⟩
  ·
   rintro fa w' i o d v ho hd hna ⟨Ao4_2_4, co4_2_5, Ao4_4_4, co4_4_5, Ao4_7_4, co4_7_5, Ao4_10_4, co4_10_5, Ao4_11_4, co4_11_5, hA, hR⟩; exact ⟨Ao4_2_4, co4_2_5, Ao4_4_4, co4_4_5, Ao4_7_4, co4_7_5, Ao4_10_4, co4_10_5, Ao4_11_4, co4_11_5, hA.put_other v (freeOf_at (acts := [2, 4, 7, 10, 11, 12, 14, 17, 20, 21]) rfl ho hd hna), hR⟩
  ·
   rintro fa w' i o d v ho hd hna ⟨Ao4_2_4, co4_2_5, Ao4_4_4, co4_4_5, Ao4_7_4, co4_7_5, Ao4_10_4, co4_10_5, Ao4_11_4, co4_11_5, Ao4_17_4, co4_17_5, hA, hR⟩; exact ⟨Ao4_2_4, co4_2_5, Ao4_4_4, co4_4_5, Ao4_7_4, co4_7_5, Ao4_10_4, co4_10_5, Ao4_11_4, co4_11_5, Ao4_17_4, co4_17_5, hA.put_other v (freeOf_at (acts := [2, 4, 7, 10, 11, 12, 14, 17, 20, 21]) rfl ho hd hna), hR⟩
  ·
   rintro fa w' i o d v ho hd hna ⟨Ao4_2_4, co4_2_5, Ao4_4_4, co4_4_5, Ao4_7_4, co4_7_5, Ao4_10_4, co4_10_5, Ao4_11_4, co4_11_5, Ao4_17_4, co4_17_5, Ao4_20_4, co4_20_5, hA, hR⟩; exact ⟨Ao4_2_4, co4_2_5, Ao4_4_4, co4_4_5, Ao4_7_4, co4_7_5, Ao4_10_4, co4_10_5, Ao4_11_4, co4_11_5, Ao4_17_4, co4_17_5, Ao4_20_4, co4_20_5, hA.put_other v (freeOf_at (acts := [2, 4, 7, 10, 11, 12, 14, 17, 20, 21]) rfl ho hd hna), hR⟩
  ·
   rintro fa w' i o d v ho hd hna ⟨Ao4_2_4, co4_2_5, Ao4_4_4, co4_4_5, Ao4_7_4, co4_7_5, Ao4_10_4, co4_10_5, Ao4_11_4, co4_11_5, Ao4_17_4, co4_17_5, Ao4_20_4, co4_20_5, hA, hR⟩; exact ⟨Ao4_2_4, co4_2_5, Ao4_4_4, co4_4_5, Ao4_7_4, co4_7_5, Ao4_10_4, co4_10_5, Ao4_11_4, co4_11_5, Ao4_17_4, co4_17_5, Ao4_20_4, co4_20_5, hA.put_other v (freeOf_at (acts := [2, 4, 7, 10, 11, 12, 14, 17, 20, 21]) rfl ho hd hna), hR⟩
 ·
  refine ⟨?_, ?_, ?_, ?_, ?_, ?_, ?_, ?_, ?_, ?_, ?_, ?_, ?_, ?_, ?_, ?_, ?_, ?_, ?_, ?_, ?_, ?_, ?_, ?_, ?_, trivial⟩
  ·
   refine .inr (.inl ⟨rfl, _, _, rfl, rfl, ?_, trivial⟩)
   ·
    intro fa w' hΦ hF hB K hK
    obtain ⟨hA, hS, E_w'⟩ := hΦ
    exact fl_val rfl rfl rfl (ex_loadb TfLR.row24 (hF.ev rfl) (hS.get 2 rfl) rfl) hK
  ·
   refine .inr (.inl ⟨rfl, _, _, rfl, rfl, ?_, trivial⟩)
   ·
    intro fa w' hΦ hF hB K hK
    obtain ⟨hA, hS, E_w'⟩ := hΦ
    exact fl_val rfl rfl rfl (ex_loadb TfLR.row24 (hF.ev rfl) (hS.get 1 rfl) rfl) hK
  ·
   refine .inr (.inr ⟨rfl, ?_, trivial⟩)
   ·
    intro fa w' hΦ hF hB
    obtain ⟨hA, hS, E_w'⟩ := hΦ
    replace hF := hF.cons (hB.val 0 _ 22 _ rfl rfl rfl rfl)
    replace hF := hF.cons (hB.val 1 _ 23 _ rfl rfl rfl rfl)
    refine wop rfl rfl ?_
    have hC := integer_Add_ok (w := w') (X := (g9 :: (g5 :: (g1 :: X)))) (a := a) (b := b) (hS.bnd hX) (IntV.of_ (n := (lim a.natAbs).length) (b := decide (a < 0)) (x := a) ((hu_a.ext (((((((E3.trans E7).trans E11).trans E15).trans E18).trans E23).trans E26).trans E_w'))) (rfl) (rfl) (rfl)) (IntV.of_ (n := (lim b.natAbs).length) (b := decide (b < 0)) (x := b) ((hu_b.ext (((((((E3.trans E7).trans E11).trans E15).trans E18).trans E23).trans E26).trans E_w'))) (rfl) (rfl) (rfl)) (by have h1 := sz_add a b; have h2 := sz_mul a c; have h3 := sz_mul b c; have h4 := sz_add a c; have h5 := sz_add b c; omega) (by have h1 := sz_add a b; have h2 := sz_mul a c; have h3 := sz_mul b c; have h4 := sz_add a c; have h5 := sz_add b c; omega)
    refine op_call hF rfl TfLR.body28 (args2 (hF.ev rfl) (hF.ev rfl)) hC ?_
    clear hC
    rintro _ wo4_2_1 ⟨⟨_, rfl, Ao4_2_4, co4_2_5, rfl, huo4_2_6⟩, hbo4_2_2⟩
    clear hF; intro hF
    replace hS := hS.call hbo4_2_2; have Eo4_2_3 := Ext.call (g9 :: (g5 :: (g1 :: X))) hbo4_2_2
    have hA1 := ((hA.put_other _ rfl).cons (hF.get 24 _ rfl))
    exact ⟨1, rfl, ⟨Ao4_2_4, co4_2_5, (hA1.take hA1.nil rfl), hS, (E_w'.trans Eo4_2_3), huo4_2_6⟩, _, rfl, fun u hu => by cases hu <;> rfl⟩
  ·
   refine .inr (.inl ⟨rfl, _, _, rfl, rfl, ?_, ?_, trivial⟩)
   ·
    intro fa w' hΦ hF hB K hK
    obtain ⟨hA, hS, E_w'⟩ := hΦ
    exact fl_val rfl rfl rfl (ex_loadb TfLR.row24 (hF.ev rfl) (hS.get 0 rfl) rfl) hK
   ·
    intro fa w' hΦ hF hB K hK
    obtain ⟨Ao4_2_4, co4_2_5, hA, hS, E_w', huo4_2_6⟩ := hΦ
    exact fl_val rfl rfl rfl (ex_loadb TfLR.row24 (hF.ev rfl) (hS.get 0 rfl) rfl) hK
  ·
   refine .inr (.inr ⟨rfl, ?_, trivial⟩)
   ·
    intro fa w' hΦ hF hB
    obtain ⟨Ao4_2_4, co4_2_5, hA, hS, E_w', huo4_2_6⟩ := hΦ
    replace hF := hF.cons (hA.get 24 _ rfl)
    replace hF := hF.cons (hB.val 3 _ 25 _ rfl rfl rfl rfl)
    refine wop rfl rfl ?_
    have hC := integer_Mul_ok (w := w') (X := (g9 :: (g5 :: (g1 :: X)))) (a := (a + b)) (b := c) (hS.bnd hX) (IntV.of_ (n := (lim (a + b).natAbs).length) (b := decide ((a + b) < 0)) (x := a + b) (huo4_2_6) (rfl) (rfl) (rfl)) (IntV.of_ (n := (lim c.natAbs).length) (b := decide (c < 0)) (x := c) ((hu_c.ext (((((((E3.trans E7).trans E11).trans E15).trans E18).trans E23).trans E26).trans E_w'))) (rfl) (rfl) (rfl)) (by have h1 := sz_add a b; have h2 := sz_mul a c; have h3 := sz_mul b c; have h4 := sz_add a c; have h5 := sz_add b c; omega) (by have h1 := sz_add a b; have h2 := sz_mul a c; have h3 := sz_mul b c; have h4 := sz_add a c; have h5 := sz_add b c; omega)
    refine op_call hF rfl TfLR.body27 (args2 (hF.ev rfl) (hF.ev rfl)) hC ?_
    clear hC
    rintro _ wo4_4_1 ⟨⟨_, rfl, Ao4_4_4, co4_4_5, rfl, huo4_4_6⟩, hbo4_4_2⟩
    clear hF; intro hF
    replace hS := hS.call hbo4_4_2; have Eo4_4_3 := Ext.call (g9 :: (g5 :: (g1 :: X))) hbo4_4_2
    have hA1 := ((hA.put_other _ rfl).cons (hF.get 26 _ rfl))
    exact ⟨2, rfl, ⟨Ao4_2_4, co4_2_5, Ao4_4_4, co4_4_5, (hA1.take (hA1.take hA1.nil rfl) rfl), hS, (E_w'.trans Eo4_4_3), (huo4_2_6.ext Eo4_4_3), huo4_4_6⟩, _, rfl, fun u hu => by cases hu <;> rfl⟩
  ·
   refine .inr (.inl ⟨rfl, _, _, rfl, rfl, ?_, ?_, ?_, trivial⟩)
   ·
    intro fa w' hΦ hF hB K hK
    obtain ⟨hA, hS, E_w'⟩ := hΦ
    exact fl_val rfl rfl rfl (ex_loadb TfLR.row24 (hF.ev rfl) (hS.get 2 rfl) rfl) hK
   ·
    intro fa w' hΦ hF hB K hK
    obtain ⟨Ao4_2_4, co4_2_5, hA, hS, E_w', huo4_2_6⟩ := hΦ
    exact fl_val rfl rfl rfl (ex_loadb TfLR.row24 (hF.ev rfl) (hS.get 2 rfl) rfl) hK
   ·
    intro fa w' hΦ hF hB K hK
    obtain ⟨Ao4_2_4, co4_2_5, Ao4_4_4, co4_4_5, hA, hS, E_w', huo4_2_6, huo4_4_6⟩ := hΦ
    exact fl_val rfl rfl rfl (ex_loadb TfLR.row24 (hF.ev rfl) (hS.get 2 rfl) rfl) hK
  ·
   refine .inr (.inl ⟨rfl, _, _, rfl, rfl, ?_, ?_, ?_, trivial⟩)
   ·
    intro fa w' hΦ hF hB K hK
    obtain ⟨hA, hS, E_w'⟩ := hΦ
    exact fl_val rfl rfl rfl (ex_loadb TfLR.row24 (hF.ev rfl) (hS.get 0 rfl) rfl) hK
   ·
    intro fa w' hΦ hF hB K hK
    obtain ⟨Ao4_2_4, co4_2_5, hA, hS, E_w', huo4_2_6⟩ := hΦ
    exact fl_val rfl rfl rfl (ex_loadb TfLR.row24 (hF.ev rfl) (hS.get 0 rfl) rfl) hK
   ·
    intro fa w' hΦ hF hB K hK
    obtain ⟨Ao4_2_4, co4_2_5, Ao4_4_4, co4_4_5, hA, hS, E_w', huo4_2_6, huo4_4_6⟩ := hΦ
    exact fl_val rfl rfl rfl (ex_loadb TfLR.row24 (hF.ev rfl) (hS.get 0 rfl) rfl) hK
  ·
   refine .inr (.inr ⟨rfl, ?_, trivial⟩)
   ·
    intro fa w' hΦ hF hB
    obtain ⟨Ao4_2_4, co4_2_5, Ao4_4_4, co4_4_5, hA, hS, E_w', huo4_2_6, huo4_4_6⟩ := hΦ
    replace hF := hF.cons (hB.val 5 _ 27 _ rfl rfl rfl rfl)
    replace hF := hF.cons (hB.val 6 _ 28 _ rfl rfl rfl rfl)
    refine wop rfl rfl ?_
    have hC := integer_Mul_ok (w := w') (X := (g9 :: (g5 :: (g1 :: X)))) (a := a) (b := c) (hS.bnd hX) (IntV.of_ (n := (lim a.natAbs).length) (b := decide (a < 0)) (x := a) ((hu_a.ext (((((((E3.trans E7).trans E11).trans E15).trans E18).trans E23).trans E26).trans E_w'))) (rfl) (rfl) (rfl)) (IntV.of_ (n := (lim c.natAbs).length) (b := decide (c < 0)) (x := c) ((hu_c.ext (((((((E3.trans E7).trans E11).trans E15).trans E18).trans E23).trans E26).trans E_w'))) (rfl) (rfl) (rfl)) (by have h1 := sz_add a b; have h2 := sz_mul a c; have h3 := sz_mul b c; have h4 := sz_add a c; have h5 := sz_add b c; omega) (by have h1 := sz_add a b; have h2 := sz_mul a c; have h3 := sz_mul b c; have h4 := sz_add a c; have h5 := sz_add b c; omega)
    refine op_call hF rfl TfLR.body27 (args2 (hF.ev rfl) (hF.ev rfl)) hC ?_
    clear hC
    rintro _ wo4_7_1 ⟨⟨_, rfl, Ao4_7_4, co4_7_5, rfl, huo4_7_6⟩, hbo4_7_2⟩
    clear hF; intro hF
    replace hS := hS.call hbo4_7_2; have Eo4_7_3 := Ext.call (g9 :: (g5 :: (g1 :: X))) hbo4_7_2
    have hA1 := ((hA.put_other _ rfl).cons (hF.get 29 _ rfl))
    exact ⟨3, rfl, ⟨Ao4_2_4, co4_2_5, Ao4_4_4, co4_4_5, Ao4_7_4, co4_7_5, (hA1.take (hA1.take (hA1.take hA1.nil rfl) rfl) rfl), hS, (E_w'.trans Eo4_7_3), (huo4_2_6.ext Eo4_7_3), (huo4_4_6.ext Eo4_7_3), huo4_7_6⟩, _, rfl, fun u hu => by cases hu <;> rfl⟩
  ·
   refine .inr (.inl ⟨rfl, _, _, rfl, rfl, ?_, ?_, ?_, ?_, trivial⟩)
   ·
    intro fa w' hΦ hF hB K hK
    obtain ⟨hA, hS, E_w'⟩ := hΦ
    exact fl_val rfl rfl rfl (ex_loadb TfLR.row24 (hF.ev rfl) (hS.get 1 rfl) rfl) hK
   ·
    intro fa w' hΦ hF hB K hK
    obtain ⟨Ao4_2_4, co4_2_5, hA, hS, E_w', huo4_2_6⟩ := hΦ
    exact fl_val rfl rfl rfl (ex_loadb TfLR.row24 (hF.ev rfl) (hS.get 1 rfl) rfl) hK
   ·
    intro fa w' hΦ hF hB K hK
    obtain ⟨Ao4_2_4, co4_2_5, Ao4_4_4, co4_4_5, hA, hS, E_w', huo4_2_6, huo4_4_6⟩ := hΦ
    exact fl_val rfl rfl rfl (ex_loadb TfLR.row24 (hF.ev rfl) (hS.get 1 rfl) rfl) hK
   ·
    intro fa w' hΦ hF hB K hK
    obtain ⟨Ao4_2_4, co4_2_5, Ao4_4_4, co4_4_5, Ao4_7_4, co4_7_5, hA, hS, E_w', huo4_2_6, huo4_4_6, huo4_7_6⟩ := hΦ
    exact fl_val rfl rfl rfl (ex_loadb TfLR.row24 (hF.ev rfl) (hS.get 1 rfl) rfl) hK
  ·
   refine .inr (.inl ⟨rfl, _, _, rfl, rfl, ?_, ?_, ?_, ?_, trivial⟩)
   ·
    intro fa w' hΦ hF hB K hK
    obtain ⟨hA, hS, E_w'⟩ := hΦ
    exact fl_val rfl rfl rfl (ex_loadb TfLR.row24 (hF.ev rfl) (hS.get 0 rfl) rfl) hK
   ·
    intro fa w' hΦ hF hB K hK
    obtain ⟨Ao4_2_4, co4_2_5, hA, hS, E_w', huo4_2_6⟩ := hΦ
    exact fl_val rfl rfl rfl (ex_loadb TfLR.row24 (hF.ev rfl) (hS.get 0 rfl) rfl) hK
   ·
    intro fa w' hΦ hF hB K hK
    obtain ⟨Ao4_2_4, co4_2_5, Ao4_4_4, co4_4_5, hA, hS, E_w', huo4_2_6, huo4_4_6⟩ := hΦ
    exact fl_val rfl rfl rfl (ex_loadb TfLR.row24 (hF.ev rfl) (hS.get 0 rfl) rfl) hK
   ·
    intro fa w' hΦ hF hB K hK
    obtain ⟨Ao4_2_4, co4_2_5, Ao4_4_4, co4_4_5, Ao4_7_4, co4_7_5, hA, hS, E_w', huo4_2_6, huo4_4_6, huo4_7_6⟩ := hΦ
    exact fl_val rfl rfl rfl (ex_loadb TfLR.row24 (hF.ev rfl) (hS.get 0 rfl) rfl) hK
  ·
   refine .inr (.inr ⟨rfl, ?_, trivial⟩)
   ·
    intro fa w' hΦ hF hB
    obtain ⟨Ao4_2_4, co4_2_5, Ao4_4_4, co4_4_5, Ao4_7_4, co4_7_5, hA, hS, E_w', huo4_2_6, huo4_4_6, huo4_7_6⟩ := hΦ
    replace hF := hF.cons (hB.val 8 _ 30 _ rfl rfl rfl rfl)
    replace hF := hF.cons (hB.val 9 _ 31 _ rfl rfl rfl rfl)
    refine wop rfl rfl ?_
    have hC := integer_Mul_ok (w := w') (X := (g9 :: (g5 :: (g1 :: X)))) (a := b) (b := c) (hS.bnd hX) (IntV.of_ (n := (lim b.natAbs).length) (b := decide (b < 0)) (x := b) ((hu_b.ext (((((((E3.trans E7).trans E11).trans E15).trans E18).trans E23).trans E26).trans E_w'))) (rfl) (rfl) (rfl)) (IntV.of_ (n := (lim c.natAbs).length) (b := decide (c < 0)) (x := c) ((hu_c.ext (((((((E3.trans E7).trans E11).trans E15).trans E18).trans E23).trans E26).trans E_w'))) (rfl) (rfl) (rfl)) (by have h1 := sz_add a b; have h2 := sz_mul a c; have h3 := sz_mul b c; have h4 := sz_add a c; have h5 := sz_add b c; omega) (by have h1 := sz_add a b; have h2 := sz_mul a c; have h3 := sz_mul b c; have h4 := sz_add a c; have h5 := sz_add b c; omega)
    refine op_call hF rfl TfLR.body27 (args2 (hF.ev rfl) (hF.ev rfl)) hC ?_
    clear hC
    rintro _ wo4_10_1 ⟨⟨_, rfl, Ao4_10_4, co4_10_5, rfl, huo4_10_6⟩, hbo4_10_2⟩
    clear hF; intro hF
    replace hS := hS.call hbo4_10_2; have Eo4_10_3 := Ext.call (g9 :: (g5 :: (g1 :: X))) hbo4_10_2
    have hA1 := ((hA.put_other _ rfl).cons (hF.get 32 _ rfl))
    exact ⟨4, rfl, ⟨Ao4_2_4, co4_2_5, Ao4_4_4, co4_4_5, Ao4_7_4, co4_7_5, Ao4_10_4, co4_10_5, (hA1.take (hA1.take (hA1.take (hA1.take hA1.nil rfl) rfl) rfl) rfl), hS, (E_w'.trans Eo4_10_3), (huo4_2_6.ext Eo4_10_3), (huo4_4_6.ext Eo4_10_3), (huo4_7_6.ext Eo4_10_3), huo4_10_6⟩, _, rfl, fun u hu => by cases hu <;> rfl⟩
  ·
   refine .inr (.inr ⟨rfl, ?_, trivial⟩)
   ·
    intro fa w' hΦ hF hB
    obtain ⟨Ao4_2_4, co4_2_5, Ao4_4_4, co4_4_5, Ao4_7_4, co4_7_5, Ao4_10_4, co4_10_5, hA, hS, E_w', huo4_2_6, huo4_4_6, huo4_7_6, huo4_10_6⟩ := hΦ
    replace hF := hF.cons (hA.get 29 _ rfl)
    replace hF := hF.cons (hA.get 32 _ rfl)
    refine wop rfl rfl ?_
    have hC := integer_Add_ok (w := w') (X := (g9 :: (g5 :: (g1 :: X)))) (a := (a * c)) (b := (b * c)) (hS.bnd hX) (IntV.of_ (n := (lim (a * c).natAbs).length) (b := decide ((a * c) < 0)) (x := a * c) (huo4_7_6) (rfl) (rfl) (rfl)) (IntV.of_ (n := (lim (b * c).natAbs).length) (b := decide ((b * c) < 0)) (x := b * c) (huo4_10_6) (rfl) (rfl) (rfl)) (by have h1 := sz_add a b; have h2 := sz_mul a c; have h3 := sz_mul b c; have h4 := sz_add a c; have h5 := sz_add b c; omega) (by have h1 := sz_add a b; have h2 := sz_mul a c; have h3 := sz_mul b c; have h4 := sz_add a c; have h5 := sz_add b c; omega)
    refine op_call hF rfl TfLR.body28 (args2 (hF.ev rfl) (hF.ev rfl)) hC ?_
    clear hC
    rintro _ wo4_11_1 ⟨⟨_, rfl, Ao4_11_4, co4_11_5, rfl, huo4_11_6⟩, hbo4_11_2⟩
    clear hF; intro hF
    replace hS := hS.call hbo4_11_2; have Eo4_11_3 := Ext.call (g9 :: (g5 :: (g1 :: X))) hbo4_11_2
    have hA1 := ((hA.put_other _ rfl).cons (hF.get 33 _ rfl))
    exact ⟨5, rfl, ⟨Ao4_2_4, co4_2_5, Ao4_4_4, co4_4_5, Ao4_7_4, co4_7_5, Ao4_10_4, co4_10_5, Ao4_11_4, co4_11_5, (hA1.take (hA1.take (hA1.take (hA1.take (hA1.take hA1.nil rfl) rfl) rfl) rfl) rfl), hS, (E_w'.trans Eo4_11_3), (huo4_2_6.ext Eo4_11_3), (huo4_4_6.ext Eo4_11_3), (huo4_7_6.ext Eo4_11_3), (huo4_10_6.ext Eo4_11_3), huo4_11_6⟩, _, rfl, fun u hu => by cases hu <;> rfl⟩
  ·
   refine .inr (.inr ⟨rfl, ?_, trivial⟩)
   ·
    intro fa w' hΦ hF hB
    obtain ⟨Ao4_2_4, co4_2_5, Ao4_4_4, co4_4_5, Ao4_7_4, co4_7_5, Ao4_10_4, co4_10_5, Ao4_11_4, co4_11_5, hA, hS, E_w', huo4_2_6, huo4_4_6, huo4_7_6, huo4_10_6, huo4_11_6⟩ := hΦ
    replace hF := hF.cons (hA.get 26 _ rfl)
    replace hF := hF.cons (hA.get 33 _ rfl)
    refine wop rfl rfl ?_
    have hC := law01_same_ok (w := w') (X := (g9 :: (g5 :: (g1 :: X)))) (a := ((a + b) * c)) (b := ((a * c) + (b * c))) (hS.bnd hX) (IntV.of_ (n := (lim ((a + b) * c).natAbs).length) (b := decide (((a + b) * c) < 0)) (x := (a + b) * c) (huo4_4_6) (rfl) (rfl) (rfl)) (IntV.of_ (n := (lim ((a * c) + (b * c)).natAbs).length) (b := decide (((a * c) + (b * c)) < 0)) (x := (a * c) + (b * c)) (huo4_11_6) (rfl) (rfl) (rfl))
    rw [show (decide (((a + b) * c) = ((a * c) + (b * c)))) = true from by rw [decide_eq_true_eq, Int.add_mul]] at hC
    refine op_call hF rfl TfLR.body19 (args2 (hF.ev rfl) (hF.ev rfl)) hC ?_
    clear hC
    rintro _ wo4_12_1 ⟨rfl, hbo4_12_2⟩
    clear hF; intro hF
    replace hS := hS.call hbo4_12_2; have Eo4_12_3 := Ext.call (g9 :: (g5 :: (g1 :: X))) hbo4_12_2
    have hA1 := ((hA.put_other _ rfl).cons (hF.get 34 _ rfl))
    exact ⟨6, rfl, ⟨Ao4_2_4, co4_2_5, Ao4_4_4, co4_4_5, Ao4_7_4, co4_7_5, Ao4_10_4, co4_10_5, Ao4_11_4, co4_11_5, (hA1.take (hA1.take (hA1.take (hA1.take (hA1.take (hA1.take hA1.nil rfl) rfl) rfl) rfl) rfl) rfl), hS, (E_w'.trans Eo4_12_3), (huo4_2_6.ext Eo4_12_3), (huo4_4_6.ext Eo4_12_3), (huo4_7_6.ext Eo4_12_3), (huo4_10_6.ext Eo4_12_3), (huo4_11_6.ext Eo4_12_3)⟩, _, rfl, fun u hu => by cases hu <;> rfl⟩
  ·
   refine .inl ⟨rfl, _, _, rfl, rfl, fun s fa w' hΦ hF hB K hK => ?_⟩
   replace hF := hF.cons (hB.val 12 _ 34 _ rfl rfl rfl rfl)
   exact fl_val rfl rfl rfl (ex_not (hF.ev rfl)) hK
  ·
   refine .inr (.inr ⟨rfl, ?_, trivial⟩)
   ·
    intro fa w' hΦ hF hB
    obtain ⟨Ao4_2_4, co4_2_5, Ao4_4_4, co4_4_5, Ao4_7_4, co4_7_5, Ao4_10_4, co4_10_5, Ao4_11_4, co4_11_5, hA, hS, E_w', huo4_2_6, huo4_4_6, huo4_7_6, huo4_10_6, huo4_11_6⟩ := hΦ
    replace hF := hF.cons (hB.val 13 _ 35 _ rfl rfl rfl rfl)
    refine wop rfl rfl ?_
    refine op_val hF rfl rfl (ex_move (hF.ev rfl)) ?_; clear hF; intro hF
    have hA1 := ((hA.put_other _ rfl).cons (hF.get 36 _ rfl))
    exact ⟨7, rfl, ⟨Ao4_2_4, co4_2_5, Ao4_4_4, co4_4_5, Ao4_7_4, co4_7_5, Ao4_10_4, co4_10_5, Ao4_11_4, co4_11_5, (hA1.take (hA1.take (hA1.take (hA1.take (hA1.take (hA1.take (hA1.take hA1.nil rfl) rfl) rfl) rfl) rfl) rfl) rfl), hS, E_w', huo4_2_6, huo4_4_6, huo4_7_6, huo4_10_6, huo4_11_6⟩, _, rfl, fun u hu => by cases hu <;> rfl⟩
  ·
   refine .inr (.inl ⟨rfl, _, _, rfl, rfl, ?_, trivial⟩)
   ·
    intro fa w' hΦ hF hB K hK
    obtain ⟨Ao4_2_4, co4_2_5, Ao4_4_4, co4_4_5, Ao4_7_4, co4_7_5, Ao4_10_4, co4_10_5, Ao4_11_4, co4_11_5, hA, hS, E_w', huo4_2_6, huo4_4_6, huo4_7_6, huo4_10_6, huo4_11_6⟩ := hΦ
    replace hF := hF.cons (hB.val 14 _ 36 _ rfl rfl rfl rfl)
    exact fl_valg hF rfl rfl rfl rfl (ex_loadb TfLR.row24 (hF.ev rfl) (hS.get 2 rfl) rfl) hK
  ·
   refine .inr (.inl ⟨rfl, _, _, rfl, rfl, ?_, trivial⟩)
   ·
    intro fa w' hΦ hF hB K hK
    obtain ⟨Ao4_2_4, co4_2_5, Ao4_4_4, co4_4_5, Ao4_7_4, co4_7_5, Ao4_10_4, co4_10_5, Ao4_11_4, co4_11_5, hA, hS, E_w', huo4_2_6, huo4_4_6, huo4_7_6, huo4_10_6, huo4_11_6⟩ := hΦ
    replace hF := hF.cons (hB.val 14 _ 36 _ rfl rfl rfl rfl)
    exact fl_valg hF rfl rfl rfl rfl (ex_loadb TfLR.row24 (hF.ev rfl) (hS.get 0 rfl) rfl) hK
  ·
   refine .inr (.inr ⟨rfl, ?_, trivial⟩)
   ·
    intro fa w' hΦ hF hB
    obtain ⟨Ao4_2_4, co4_2_5, Ao4_4_4, co4_4_5, Ao4_7_4, co4_7_5, Ao4_10_4, co4_10_5, Ao4_11_4, co4_11_5, hA, hS, E_w', huo4_2_6, huo4_4_6, huo4_7_6, huo4_10_6, huo4_11_6⟩ := hΦ
    replace hF := hF.cons (hB.val 15 _ 37 _ rfl rfl rfl rfl)
    replace hF := hF.cons (hB.val 16 _ 38 _ rfl rfl rfl rfl)
    replace hF := hF.cons (hB.val 14 _ 36 _ rfl rfl rfl rfl)
    refine wopg hF rfl rfl rfl ?_
    have hC := integer_Add_ok (w := w') (X := (g9 :: (g5 :: (g1 :: X)))) (a := a) (b := c) (hS.bnd hX) (IntV.of_ (n := (lim a.natAbs).length) (b := decide (a < 0)) (x := a) ((hu_a.ext (((((((E3.trans E7).trans E11).trans E15).trans E18).trans E23).trans E26).trans E_w'))) (rfl) (rfl) (rfl)) (IntV.of_ (n := (lim c.natAbs).length) (b := decide (c < 0)) (x := c) ((hu_c.ext (((((((E3.trans E7).trans E11).trans E15).trans E18).trans E23).trans E26).trans E_w'))) (rfl) (rfl) (rfl)) (by have h1 := sz_add a b; have h2 := sz_mul a c; have h3 := sz_mul b c; have h4 := sz_add a c; have h5 := sz_add b c; omega) (by have h1 := sz_add a b; have h2 := sz_mul a c; have h3 := sz_mul b c; have h4 := sz_add a c; have h5 := sz_add b c; omega)
    refine op_call hF rfl TfLR.body28 (args2 (hF.ev rfl) (hF.ev rfl)) hC ?_
    clear hC
    rintro _ wo4_17_1 ⟨⟨_, rfl, Ao4_17_4, co4_17_5, rfl, huo4_17_6⟩, hbo4_17_2⟩
    clear hF; intro hF
    replace hS := hS.call hbo4_17_2; have Eo4_17_3 := Ext.call (g9 :: (g5 :: (g1 :: X))) hbo4_17_2
    have hA1 := ((hA.put_other _ rfl).cons (hF.get 39 _ rfl))
    exact ⟨8, rfl, ⟨Ao4_2_4, co4_2_5, Ao4_4_4, co4_4_5, Ao4_7_4, co4_7_5, Ao4_10_4, co4_10_5, Ao4_11_4, co4_11_5, Ao4_17_4, co4_17_5, (hA1.take (hA1.take (hA1.take (hA1.take (hA1.take (hA1.take (hA1.take (hA1.take hA1.nil rfl) rfl) rfl) rfl) rfl) rfl) rfl) rfl), hS, (E_w'.trans Eo4_17_3), (huo4_2_6.ext Eo4_17_3), (huo4_4_6.ext Eo4_17_3), (huo4_7_6.ext Eo4_17_3), (huo4_10_6.ext Eo4_17_3), (huo4_11_6.ext Eo4_17_3), huo4_17_6⟩, _, rfl, fun u hu => by cases hu <;> rfl⟩
  ·
   refine .inr (.inl ⟨rfl, _, _, rfl, rfl, ?_, ?_, trivial⟩)
   ·
    intro fa w' hΦ hF hB K hK
    obtain ⟨Ao4_2_4, co4_2_5, Ao4_4_4, co4_4_5, Ao4_7_4, co4_7_5, Ao4_10_4, co4_10_5, Ao4_11_4, co4_11_5, hA, hS, E_w', huo4_2_6, huo4_4_6, huo4_7_6, huo4_10_6, huo4_11_6⟩ := hΦ
    replace hF := hF.cons (hB.val 14 _ 36 _ rfl rfl rfl rfl)
    exact fl_valg hF rfl rfl rfl rfl (ex_loadb TfLR.row24 (hF.ev rfl) (hS.get 1 rfl) rfl) hK
   ·
    intro fa w' hΦ hF hB K hK
    obtain ⟨Ao4_2_4, co4_2_5, Ao4_4_4, co4_4_5, Ao4_7_4, co4_7_5, Ao4_10_4, co4_10_5, Ao4_11_4, co4_11_5, Ao4_17_4, co4_17_5, hA, hS, E_w', huo4_2_6, huo4_4_6, huo4_7_6, huo4_10_6, huo4_11_6, huo4_17_6⟩ := hΦ
    replace hF := hF.cons (hB.val 14 _ 36 _ rfl rfl rfl rfl)
    exact fl_valg hF rfl rfl rfl rfl (ex_loadb TfLR.row24 (hF.ev rfl) (hS.get 1 rfl) rfl) hK
  ·
   refine .inr (.inl ⟨rfl, _, _, rfl, rfl, ?_, ?_, trivial⟩)
   ·
    intro fa w' hΦ hF hB K hK
    obtain ⟨Ao4_2_4, co4_2_5, Ao4_4_4, co4_4_5, Ao4_7_4, co4_7_5, Ao4_10_4, co4_10_5, Ao4_11_4, co4_11_5, hA, hS, E_w', huo4_2_6, huo4_4_6, huo4_7_6, huo4_10_6, huo4_11_6⟩ := hΦ
    replace hF := hF.cons (hB.val 14 _ 36 _ rfl rfl rfl rfl)
    exact fl_valg hF rfl rfl rfl rfl (ex_loadb TfLR.row24 (hF.ev rfl) (hS.get 0 rfl) rfl) hK
   ·
    intro fa w' hΦ hF hB K hK
    obtain ⟨Ao4_2_4, co4_2_5, Ao4_4_4, co4_4_5, Ao4_7_4, co4_7_5, Ao4_10_4, co4_10_5, Ao4_11_4, co4_11_5, Ao4_17_4, co4_17_5, hA, hS, E_w', huo4_2_6, huo4_4_6, huo4_7_6, huo4_10_6, huo4_11_6, huo4_17_6⟩ := hΦ
    replace hF := hF.cons (hB.val 14 _ 36 _ rfl rfl rfl rfl)
    exact fl_valg hF rfl rfl rfl rfl (ex_loadb TfLR.row24 (hF.ev rfl) (hS.get 0 rfl) rfl) hK
  ·
   refine .inr (.inr ⟨rfl, ?_, trivial⟩)
   ·
    intro fa w' hΦ hF hB
    obtain ⟨Ao4_2_4, co4_2_5, Ao4_4_4, co4_4_5, Ao4_7_4, co4_7_5, Ao4_10_4, co4_10_5, Ao4_11_4, co4_11_5, Ao4_17_4, co4_17_5, hA, hS, E_w', huo4_2_6, huo4_4_6, huo4_7_6, huo4_10_6, huo4_11_6, huo4_17_6⟩ := hΦ
    replace hF := hF.cons (hB.val 18 _ 40 _ rfl rfl rfl rfl)
    replace hF := hF.cons (hB.val 19 _ 41 _ rfl rfl rfl rfl)
    replace hF := hF.cons (hB.val 14 _ 36 _ rfl rfl rfl rfl)
    refine wopg hF rfl rfl rfl ?_
    have hC := integer_Add_ok (w := w') (X := (g9 :: (g5 :: (g1 :: X)))) (a := b) (b := c) (hS.bnd hX) (IntV.of_ (n := (lim b.natAbs).length) (b := decide (b < 0)) (x := b) ((hu_b.ext (((((((E3.trans E7).trans E11).trans E15).trans E18).trans E23).trans E26).trans E_w'))) (rfl) (rfl) (rfl)) (IntV.of_ (n := (lim c.natAbs).length) (b := decide (c < 0)) (x := c) ((hu_c.ext (((((((E3.trans E7).trans E11).trans E15).trans E18).trans E23).trans E26).trans E_w'))) (rfl) (rfl) (rfl)) (by have h1 := sz_add a b; have h2 := sz_mul a c; have h3 := sz_mul b c; have h4 := sz_add a c; have h5 := sz_add b c; omega) (by have h1 := sz_add a b; have h2 := sz_mul a c; have h3 := sz_mul b c; have h4 := sz_add a c; have h5 := sz_add b c; omega)
    refine op_call hF rfl TfLR.body28 (args2 (hF.ev rfl) (hF.ev rfl)) hC ?_
    clear hC
    rintro _ wo4_20_1 ⟨⟨_, rfl, Ao4_20_4, co4_20_5, rfl, huo4_20_6⟩, hbo4_20_2⟩
    clear hF; intro hF
    replace hS := hS.call hbo4_20_2; have Eo4_20_3 := Ext.call (g9 :: (g5 :: (g1 :: X))) hbo4_20_2
    have hA1 := ((hA.put_other _ rfl).cons (hF.get 42 _ rfl))
    exact ⟨9, rfl, ⟨Ao4_2_4, co4_2_5, Ao4_4_4, co4_4_5, Ao4_7_4, co4_7_5, Ao4_10_4, co4_10_5, Ao4_11_4, co4_11_5, Ao4_17_4, co4_17_5, Ao4_20_4, co4_20_5, (hA1.take (hA1.take (hA1.take (hA1.take (hA1.take (hA1.take (hA1.take (hA1.take (hA1.take hA1.nil rfl) rfl) rfl) rfl) rfl) rfl) rfl) rfl) rfl), hS, (E_w'.trans Eo4_20_3), (huo4_2_6.ext Eo4_20_3), (huo4_4_6.ext Eo4_20_3), (huo4_7_6.ext Eo4_20_3), (huo4_10_6.ext Eo4_20_3), (huo4_11_6.ext Eo4_20_3), (huo4_17_6.ext Eo4_20_3), huo4_20_6⟩, _, rfl, fun u hu => by cases hu <;> rfl⟩
  ·
   refine .inr (.inr ⟨rfl, ?_, trivial⟩)
   ·
    intro fa w' hΦ hF hB
    obtain ⟨Ao4_2_4, co4_2_5, Ao4_4_4, co4_4_5, Ao4_7_4, co4_7_5, Ao4_10_4, co4_10_5, Ao4_11_4, co4_11_5, Ao4_17_4, co4_17_5, Ao4_20_4, co4_20_5, hA, hS, E_w', huo4_2_6, huo4_4_6, huo4_7_6, huo4_10_6, huo4_11_6, huo4_17_6, huo4_20_6⟩ := hΦ
    replace hF := hF.cons (hA.get 39 _ rfl)
    replace hF := hF.cons (hA.get 42 _ rfl)
    replace hF := hF.cons (hB.val 14 _ 36 _ rfl rfl rfl rfl)
    refine wopg hF rfl rfl rfl ?_
    have hC := integer_Cmp_ok (w := w') (X := (g9 :: (g5 :: (g1 :: X)))) (a := (a + c)) (b := (b + c)) (hS.bnd hX) (IntV.of_ (n := (lim (a + c).natAbs).length) (b := decide ((a + c) < 0)) (x := a + c) (huo4_17_6) (rfl) (rfl) (rfl)) (IntV.of_ (n := (lim (b + c).natAbs).length) (b := decide ((b + c) < 0)) (x := b + c) (huo4_20_6) (rfl) (rfl) (rfl))
    refine op_call hF rfl TfLR.body34 (args2 (hF.ev rfl) (hF.ev rfl)) hC ?_
    clear hC
    rintro _ wo4_21_1 ⟨rfl, hbo4_21_2⟩
    clear hF; intro hF
    replace hS := hS.call hbo4_21_2; have Eo4_21_3 := Ext.call (g9 :: (g5 :: (g1 :: X))) hbo4_21_2
    have hA1 := ((hA.put_other _ rfl).cons (hF.get 43 _ rfl))
    exact ⟨10, rfl, ⟨Ao4_2_4, co4_2_5, Ao4_4_4, co4_4_5, Ao4_7_4, co4_7_5, Ao4_10_4, co4_10_5, Ao4_11_4, co4_11_5, Ao4_17_4, co4_17_5, Ao4_20_4, co4_20_5, (hA1.take (hA1.take (hA1.take (hA1.take (hA1.take (hA1.take (hA1.take (hA1.take (hA1.take (hA1.take hA1.nil rfl) rfl) rfl) rfl) rfl) rfl) rfl) rfl) rfl) rfl), hS, (E_w'.trans Eo4_21_3), (huo4_2_6.ext Eo4_21_3), (huo4_4_6.ext Eo4_21_3), (huo4_7_6.ext Eo4_21_3), (huo4_10_6.ext Eo4_21_3), (huo4_11_6.ext Eo4_21_3), (huo4_17_6.ext Eo4_21_3), (huo4_20_6.ext Eo4_21_3)⟩, _, rfl, fun u hu => by cases hu <;> rfl⟩
  ·
   refine .inl ⟨rfl, _, _, rfl, rfl, fun s fa w' hΦ hF hB K hK => ?_⟩
   replace hF := hF.cons (hB.val 14 _ 36 _ rfl rfl rfl rfl)
   exact fl_valg hF rfl rfl rfl rfl (ex_move (hF.ev rfl)) hK
  ·
   refine .inl ⟨rfl, _, _, rfl, rfl, fun s fa w' hΦ hF hB K hK => ?_⟩
   replace hF := hF.cons (hB.val 21 _ 43 _ rfl rfl rfl rfl)
   replace hF := hF.cons (hB.val 22 _ 44 _ rfl rfl rfl rfl)
   replace hF := hF.cons (hB.val 14 _ 36 _ rfl rfl rfl rfl)
   exact fl_valg hF rfl rfl rfl rfl (ex_b (t := !decide ((cmpI (a + c) (b + c)) = (cmpI a b))) (b := false) (by rw [cmpI_add]; simp) (ex_neq (hF.ev rfl) (hF.ev rfl))) hK
  ·
   refine .inl ⟨rfl, _, _, rfl, rfl, fun s fa w' hΦ hF hB K hK => ?_⟩
   replace hF := hF.cons (hB.val 14 _ 36 _ rfl rfl rfl rfl)
   replace hF := hF.cons (hB.val 23 _ 45 _ rfl rfl rfl rfl)
   exact fl_val rfl rfl rfl (ex_pick (hF.ev rfl) (u := undef) (fun h => by cases h) (fun _ => hF.ev rfl) rfl) hK
 intro fa w27 hΦ hF hC
 obtain ⟨Ao4_2_4, co4_2_5, Ao4_4_4, co4_4_5, Ao4_7_4, co4_7_5, Ao4_10_4, co4_10_5, Ao4_11_4, co4_11_5, Ao4_17_4, co4_17_5, Ao4_20_4, co4_20_5, hA, hS, E_w27, huo4_2_6, huo4_4_6, huo4_7_6, huo4_10_6, huo4_11_6, huo4_17_6, huo4_20_6⟩ := hΦ
 replace hF := hF.cons (hC 24 _ 46 _ rfl rfl rfl)
 clear hA hC
 refine x_tn ?_
 refine c_cond hF rfl (fun hc => ?_) (fun hc => ?_)
 ·
  cases hc
 refine c_skip ?_
 refine x_tn ?_
 refine c_seq ?_
 refine drawn2 (N := 59) (L0 := [(0, (.agg (ic (A_a) (c_a) (a)))), (1, (.agg (ic (A_b) (c_b) (b)))), (2, (.agg (ic (A_c) (c_c) (c)))), (3, (.pointer (some ⟨g1, 0, none⟩))), (4, (.pointer (some ⟨g5, 0, none⟩))), (5, (.pointer (some ⟨g9, 0, none⟩))), (17, (.bool (false))), (7, (.int .i64 (cmpI a b))), (46, (.bool (false)))]) [some (.agg (ic (A_a) (c_a) (a))), some (.agg (ic (A_c) (c_c) (c))), none, some (.agg (ic (A_b) (c_b) (b))), some (.agg (ic (A_c) (c_c) (c))), none, some (.int .i64 (cmpI (a * c) (b * c))), some (.int .i64 (cmpI a b)), some (.agg (ic (A_c) (c_c) (c))), some (.int .i64 (sgnI c)), some (.int .i64 (cmpI (a * c) (b * c))), some (.bool (true)), some (.bool (true))] [2, 5, 6, 9] [[], [2], [2, 5], [2, 5, 6], [2, 5, 6, 9]] [[0], [0], [0], [0, 1], [0, 1], [1], [2], [0, 1, 2, 3, 4], [0, 1, 2, 3], [3], [4], [3, 4], [4]] 4 [
       fun fa w' => Frm 59 fa [] ∧ St w w' [(g9, 24, (ic (A_c) (c_c) (c))), (g5, 24, (ic (A_b) (c_b) (b))), (g1, 24, (ic (A_a) (c_a) (a)))] ∧ Ext w27 (g9 :: (g5 :: (g1 :: X))) w' (g9 :: (g5 :: (g1 :: X)))
       , fun fa w' => ∃ Ao6_2_4 : Option Addr, ∃ co6_2_5 : Nat, Frm 59 fa [(49, (.agg (ic (Ao6_2_4) (co6_2_5) ((a * c)))))] ∧ St w w' [(g9, 24, (ic (A_c) (c_c) (c))), (g5, 24, (ic (A_b) (c_b) (b))), (g1, 24, (ic (A_a) (c_a) (a)))] ∧ Ext w27 (g9 :: (g5 :: (g1 :: X))) w' (g9 :: (g5 :: (g1 :: X))) ∧ UC w' (g9 :: (g5 :: (g1 :: X))) Ao6_2_4 co6_2_5 (lim (a * c).natAbs)
       , fun fa w' => ∃ Ao6_2_4 : Option Addr, ∃ co6_2_5 : Nat, ∃ Ao6_5_4 : Option Addr, ∃ co6_5_5 : Nat, Frm 59 fa [(49, (.agg (ic (Ao6_2_4) (co6_2_5) ((a * c))))), (52, (.agg (ic (Ao6_5_4) (co6_5_5) ((b * c)))))] ∧ St w w' [(g9, 24, (ic (A_c) (c_c) (c))), (g5, 24, (ic (A_b) (c_b) (b))), (g1, 24, (ic (A_a) (c_a) (a)))] ∧ Ext w27 (g9 :: (g5 :: (g1 :: X))) w' (g9 :: (g5 :: (g1 :: X))) ∧ UC w' (g9 :: (g5 :: (g1 :: X))) Ao6_2_4 co6_2_5 (lim (a * c).natAbs) ∧ UC w' (g9 :: (g5 :: (g1 :: X))) Ao6_5_4 co6_5_5 (lim (b * c).natAbs)
       , fun fa w' => ∃ Ao6_2_4 : Option Addr, ∃ co6_2_5 : Nat, ∃ Ao6_5_4 : Option Addr, ∃ co6_5_5 : Nat, Frm 59 fa [(49, (.agg (ic (Ao6_2_4) (co6_2_5) ((a * c))))), (52, (.agg (ic (Ao6_5_4) (co6_5_5) ((b * c))))), (53, (.int .i64 (cmpI (a * c) (b * c))))] ∧ St w w' [(g9, 24, (ic (A_c) (c_c) (c))), (g5, 24, (ic (A_b) (c_b) (b))), (g1, 24, (ic (A_a) (c_a) (a)))] ∧ Ext w27 (g9 :: (g5 :: (g1 :: X))) w' (g9 :: (g5 :: (g1 :: X))) ∧ UC w' (g9 :: (g5 :: (g1 :: X))) Ao6_2_4 co6_2_5 (lim (a * c).natAbs) ∧ UC w' (g9 :: (g5 :: (g1 :: X))) Ao6_5_4 co6_5_5 (lim (b * c).natAbs)
       , fun fa w' => ∃ Ao6_2_4 : Option Addr, ∃ co6_2_5 : Nat, ∃ Ao6_5_4 : Option Addr, ∃ co6_5_5 : Nat, Frm 59 fa [(49, (.agg (ic (Ao6_2_4) (co6_2_5) ((a * c))))), (52, (.agg (ic (Ao6_5_4) (co6_5_5) ((b * c))))), (53, (.int .i64 (cmpI (a * c) (b * c)))), (56, (.int .i64 (sgnI c)))] ∧ St w w' [(g9, 24, (ic (A_c) (c_c) (c))), (g5, 24, (ic (A_b) (c_b) (b))), (g1, 24, (ic (A_a) (c_a) (a)))] ∧ Ext w27 (g9 :: (g5 :: (g1 :: X))) w' (g9 :: (g5 :: (g1 :: X))) ∧ UC w' (g9 :: (g5 :: (g1 :: X))) Ao6_2_4 co6_2_5 (lim (a * c).natAbs) ∧ UC w' (g9 :: (g5 :: (g1 :: X))) Ao6_5_4 co6_5_5 (lim (b * c).natAbs)
     ] TfLR.mixed rfl rfl rfl rfl rfl rfl (hF.take (hF.take (hF.take (hF.take (hF.take (hF.take (hF.take (hF.take (hF.take hF.nil rfl) rfl) rfl) rfl) rfl) rfl) rfl) rfl) rfl) rfl ⟨hF.nil, hS.drew, Ext.drew _ _⟩ ?_ ?_ ?_
 all_goals clear hF fa
 ·
  refine ⟨?_, ?_, ?_, ?_, ?_, trivial⟩
  ·
   rintro fa w' i o d v ho hd hna ⟨hA, hR⟩; exact ⟨hA.put_other v (freeOf_at (acts := [2, 5, 6, 9]) rfl ho hd hna), hR⟩
  ·
   rintro fa w' i o d v ho hd hna ⟨Ao6_2_4, co6_2_5, hA, hR⟩; exact ⟨Ao6_2_4, co6_2_5, hA.put_other v (freeOf_at (acts := [2, 5, 6, 9]) rfl ho hd hna), hR⟩
  ·
   rintro fa w' i o d v ho hd hna ⟨Ao6_2_4, co6_2_5, Ao6_5_4, co6_5_5, hA, hR⟩; exact ⟨Ao6_2_4, co6_2_5, Ao6_5_4, co6_5_5, hA.put_other v (freeOf_at (acts := [2, 5, 6, 9]) rfl ho hd hna), hR⟩
  ·
   rintro fa w' i o d v ho hd hna ⟨Ao6_2_4, co6_2_5, Ao6_5_4, co6_5_5, hA, hR⟩; exact ⟨Ao6_2_4, co6_2_5, Ao6_5_4, co6_5_5, hA.put_other v (freeOf_at (acts := [2, 5, 6, 9]) rfl ho hd hna), hR⟩
  ·
   rintro fa w' i o d v ho hd hna ⟨Ao6_2_4, co6_2_5, Ao6_5_4, co6_5_5, hA, hR⟩; exact ⟨Ao6_2_4, co6_2_5, Ao6_5_4, co6_5_5, hA.put_other v (freeOf_at (acts := [2, 5, 6, 9]) rfl ho hd hna), hR⟩
 ·
  refine ⟨?_, ?_, ?_, ?_, ?_, ?_, ?_, ?_, ?_, ?_, ?_, ?_, ?_, trivial⟩
  ·
   refine .inr (.inl ⟨rfl, _, _, rfl, rfl, ?_, trivial⟩)
   ·
    intro fa w' hΦ hF hB K hK
    obtain ⟨hA, hS, E_w'⟩ := hΦ
    exact fl_val rfl rfl rfl (ex_loadb TfLR.row24 (hF.ev rfl) (hS.get 2 rfl) rfl) hK
  ·
   refine .inr (.inl ⟨rfl, _, _, rfl, rfl, ?_, trivial⟩)
   ·
    intro fa w' hΦ hF hB K hK
    obtain ⟨hA, hS, E_w'⟩ := hΦ
    exact fl_val rfl rfl rfl (ex_loadb TfLR.row24 (hF.ev rfl) (hS.get 0 rfl) rfl) hK
  ·
   refine .inr (.inr ⟨rfl, ?_, trivial⟩)
   ·
    intro fa w' hΦ hF hB
    obtain ⟨hA, hS, E_w'⟩ := hΦ
    replace hF := hF.cons (hB.val 0 _ 47 _ rfl rfl rfl rfl)
    replace hF := hF.cons (hB.val 1 _ 48 _ rfl rfl rfl rfl)
    refine wop rfl rfl ?_
    have hC := integer_Mul_ok (w := w') (X := (g9 :: (g5 :: (g1 :: X)))) (a := a) (b := c) (hS.bnd hX) (IntV.of_ (n := (lim a.natAbs).length) (b := decide (a < 0)) (x := a) ((hu_a.ext ((((((((E3.trans E7).trans E11).trans E15).trans E18).trans E23).trans E26).trans E_w27).trans E_w'))) (rfl) (rfl) (rfl)) (IntV.of_ (n := (lim c.natAbs).length) (b := decide (c < 0)) (x := c) ((hu_c.ext ((((((((E3.trans E7).trans E11).trans E15).trans E18).trans E23).trans E26).trans E_w27).trans E_w'))) (rfl) (rfl) (rfl)) (by have h1 := sz_add a b; have h2 := sz_mul a c; have h3 := sz_mul b c; have h4 := sz_add a c; have h5 := sz_add b c; omega) (by have h1 := sz_add a b; have h2 := sz_mul a c; have h3 := sz_mul b c; have h4 := sz_add a c; have h5 := sz_add b c; omega)
    refine op_call hF rfl TfLR.body27 (args2 (hF.ev rfl) (hF.ev rfl)) hC ?_
    clear hC
    rintro _ wo6_2_1 ⟨⟨_, rfl, Ao6_2_4, co6_2_5, rfl, huo6_2_6⟩, hbo6_2_2⟩
    clear hF; intro hF
    replace hS := hS.call hbo6_2_2; have Eo6_2_3 := Ext.call (g9 :: (g5 :: (g1 :: X))) hbo6_2_2
    have hA1 := ((hA.put_other _ rfl).cons (hF.get 49 _ rfl))
    exact ⟨1, rfl, ⟨Ao6_2_4, co6_2_5, (hA1.take hA1.nil rfl), hS, (E_w'.trans Eo6_2_3), huo6_2_6⟩, _, rfl, fun u hu => by cases hu <;> rfl⟩
  ·
   refine .inr (.inl ⟨rfl, _, _, rfl, rfl, ?_, ?_, trivial⟩)
   ·
    intro fa w' hΦ hF hB K hK
    obtain ⟨hA, hS, E_w'⟩ := hΦ
    exact fl_val rfl rfl rfl (ex_loadb TfLR.row24 (hF.ev rfl) (hS.get 1 rfl) rfl) hK
   ·
    intro fa w' hΦ hF hB K hK
    obtain ⟨Ao6_2_4, co6_2_5, hA, hS, E_w', huo6_2_6⟩ := hΦ
    exact fl_val rfl rfl rfl (ex_loadb TfLR.row24 (hF.ev rfl) (hS.get 1 rfl) rfl) hK
  ·
   refine .inr (.inl ⟨rfl, _, _, rfl, rfl, ?_, ?_, trivial⟩)
   ·
    intro fa w' hΦ hF hB K hK
    obtain ⟨hA, hS, E_w'⟩ := hΦ
    exact fl_val rfl rfl rfl (ex_loadb TfLR.row24 (hF.ev rfl) (hS.get 0 rfl) rfl) hK
   ·
    intro fa w' hΦ hF hB K hK
    obtain ⟨Ao6_2_4, co6_2_5, hA, hS, E_w', huo6_2_6⟩ := hΦ
    exact fl_val rfl rfl rfl (ex_loadb TfLR.row24 (hF.ev rfl) (hS.get 0 rfl) rfl) hK
  ·
   refine .inr (.inr ⟨rfl, ?_, trivial⟩)
   ·
    intro fa w' hΦ hF hB
    obtain ⟨Ao6_2_4, co6_2_5, hA, hS, E_w', huo6_2_6⟩ := hΦ
    replace hF := hF.cons (hB.val 3 _ 50 _ rfl rfl rfl rfl)
    replace hF := hF.cons (hB.val 4 _ 51 _ rfl rfl rfl rfl)
    refine wop rfl rfl ?_
    have hC := integer_Mul_ok (w := w') (X := (g9 :: (g5 :: (g1 :: X)))) (a := b) (b := c) (hS.bnd hX) (IntV.of_ (n := (lim b.natAbs).length) (b := decide (b < 0)) (x := b) ((hu_b.ext ((((((((E3.trans E7).trans E11).trans E15).trans E18).trans E23).trans E26).trans E_w27).trans E_w'))) (rfl) (rfl) (rfl)) (IntV.of_ (n := (lim c.natAbs).length) (b := decide (c < 0)) (x := c) ((hu_c.ext ((((((((E3.trans E7).trans E11).trans E15).trans E18).trans E23).trans E26).trans E_w27).trans E_w'))) (rfl) (rfl) (rfl)) (by have h1 := sz_add a b; have h2 := sz_mul a c; have h3 := sz_mul b c; have h4 := sz_add a c; have h5 := sz_add b c; omega) (by have h1 := sz_add a b; have h2 := sz_mul a c; have h3 := sz_mul b c; have h4 := sz_add a c; have h5 := sz_add b c; omega)
    refine op_call hF rfl TfLR.body27 (args2 (hF.ev rfl) (hF.ev rfl)) hC ?_
    clear hC
    rintro _ wo6_5_1 ⟨⟨_, rfl, Ao6_5_4, co6_5_5, rfl, huo6_5_6⟩, hbo6_5_2⟩
    clear hF; intro hF
    replace hS := hS.call hbo6_5_2; have Eo6_5_3 := Ext.call (g9 :: (g5 :: (g1 :: X))) hbo6_5_2
    have hA1 := ((hA.put_other _ rfl).cons (hF.get 52 _ rfl))
    exact ⟨2, rfl, ⟨Ao6_2_4, co6_2_5, Ao6_5_4, co6_5_5, (hA1.take (hA1.take hA1.nil rfl) rfl), hS, (E_w'.trans Eo6_5_3), (huo6_2_6.ext Eo6_5_3), huo6_5_6⟩, _, rfl, fun u hu => by cases hu <;> rfl⟩
  ·
   refine .inr (.inr ⟨rfl, ?_, trivial⟩)
   ·
    intro fa w' hΦ hF hB
    obtain ⟨Ao6_2_4, co6_2_5, Ao6_5_4, co6_5_5, hA, hS, E_w', huo6_2_6, huo6_5_6⟩ := hΦ
    replace hF := hF.cons (hA.get 49 _ rfl)
    replace hF := hF.cons (hA.get 52 _ rfl)
    refine wop rfl rfl ?_
    have hC := integer_Cmp_ok (w := w') (X := (g9 :: (g5 :: (g1 :: X)))) (a := (a * c)) (b := (b * c)) (hS.bnd hX) (IntV.of_ (n := (lim (a * c).natAbs).length) (b := decide ((a * c) < 0)) (x := a * c) (huo6_2_6) (rfl) (rfl) (rfl)) (IntV.of_ (n := (lim (b * c).natAbs).length) (b := decide ((b * c) < 0)) (x := b * c) (huo6_5_6) (rfl) (rfl) (rfl))
    refine op_call hF rfl TfLR.body34 (args2 (hF.ev rfl) (hF.ev rfl)) hC ?_
    clear hC
    rintro _ wo6_6_1 ⟨rfl, hbo6_6_2⟩
    clear hF; intro hF
    replace hS := hS.call hbo6_6_2; have Eo6_6_3 := Ext.call (g9 :: (g5 :: (g1 :: X))) hbo6_6_2
    have hA1 := ((hA.put_other _ rfl).cons (hF.get 53 _ rfl))
    exact ⟨3, rfl, ⟨Ao6_2_4, co6_2_5, Ao6_5_4, co6_5_5, (hA1.take (hA1.take (hA1.take hA1.nil rfl) rfl) rfl), hS, (E_w'.trans Eo6_6_3), (huo6_2_6.ext Eo6_6_3), (huo6_5_6.ext Eo6_6_3)⟩, _, rfl, fun u hu => by cases hu <;> rfl⟩
  ·
   refine .inl ⟨rfl, _, _, rfl, rfl, fun s fa w' hΦ hF hB K hK => ?_⟩
   exact fl_val rfl rfl rfl (ex_move (hF.ev rfl)) hK
  ·
   refine .inr (.inl ⟨rfl, _, _, rfl, rfl, ?_, ?_, ?_, ?_, trivial⟩)
   ·
    intro fa w' hΦ hF hB K hK
    obtain ⟨hA, hS, E_w'⟩ := hΦ
    exact fl_val rfl rfl rfl (ex_loadb TfLR.row24 (hF.ev rfl) (hS.get 0 rfl) rfl) hK
   ·
    intro fa w' hΦ hF hB K hK
    obtain ⟨Ao6_2_4, co6_2_5, hA, hS, E_w', huo6_2_6⟩ := hΦ
    exact fl_val rfl rfl rfl (ex_loadb TfLR.row24 (hF.ev rfl) (hS.get 0 rfl) rfl) hK
   ·
    intro fa w' hΦ hF hB K hK
    obtain ⟨Ao6_2_4, co6_2_5, Ao6_5_4, co6_5_5, hA, hS, E_w', huo6_2_6, huo6_5_6⟩ := hΦ
    exact fl_val rfl rfl rfl (ex_loadb TfLR.row24 (hF.ev rfl) (hS.get 0 rfl) rfl) hK
   ·
    intro fa w' hΦ hF hB K hK
    obtain ⟨Ao6_2_4, co6_2_5, Ao6_5_4, co6_5_5, hA, hS, E_w', huo6_2_6, huo6_5_6⟩ := hΦ
    exact fl_val rfl rfl rfl (ex_loadb TfLR.row24 (hF.ev rfl) (hS.get 0 rfl) rfl) hK
  ·
   refine .inr (.inr ⟨rfl, ?_, trivial⟩)
   ·
    intro fa w' hΦ hF hB
    obtain ⟨Ao6_2_4, co6_2_5, Ao6_5_4, co6_5_5, hA, hS, E_w', huo6_2_6, huo6_5_6⟩ := hΦ
    replace hF := hF.cons (hB.val 8 _ 55 _ rfl rfl rfl rfl)
    refine wop rfl rfl ?_
    have hC := integer_Sign_ok (w := w') (X := (g9 :: (g5 :: (g1 :: X)))) (a := c) (hS.bnd hX) (IntV.of_ (n := (lim c.natAbs).length) (b := decide (c < 0)) (x := c) ((hu_c.ext ((((((((E3.trans E7).trans E11).trans E15).trans E18).trans E23).trans E26).trans E_w27).trans E_w'))) (rfl) (rfl) (rfl))
    refine op_call hF rfl TfLR.body33 (args1 (hF.ev rfl)) hC ?_
    clear hC
    rintro _ wo6_9_1 ⟨rfl, hbo6_9_2⟩
    clear hF; intro hF
    replace hS := hS.call hbo6_9_2; have Eo6_9_3 := Ext.call (g9 :: (g5 :: (g1 :: X))) hbo6_9_2
    have hA1 := ((hA.put_other _ rfl).cons (hF.get 56 _ rfl))
    exact ⟨4, rfl, ⟨Ao6_2_4, co6_2_5, Ao6_5_4, co6_5_5, (hA1.take (hA1.take (hA1.take (hA1.take hA1.nil rfl) rfl) rfl) rfl), hS, (E_w'.trans Eo6_9_3), (huo6_2_6.ext Eo6_9_3), (huo6_5_6.ext Eo6_9_3)⟩, _, rfl, fun u hu => by cases hu <;> rfl⟩
  ·
   refine .inl ⟨rfl, _, _, rfl, rfl, fun s fa w' hΦ hF hB K hK => ?_⟩
   replace hF := hF.cons (hB.val 7 _ 54 _ rfl rfl rfl rfl)
   replace hF := hF.cons (hB.val 9 _ 56 _ rfl rfl rfl rfl)
   exact fl_val rfl rfl rfl (ex_mul (hF.ev rfl) (hF.ev rfl) (show _ = cmpI (a * c) (b * c) from by rw [cmpI_mul]; exact wi64 (by have := cmpI_bound (a * c) (b * c); omega) (by have := cmpI_bound (a * c) (b * c); omega))) hK
  ·
   refine .inl ⟨rfl, _, _, rfl, rfl, fun s fa w' hΦ hF hB K hK => ?_⟩
   replace hF := hF.cons (hB.val 6 _ 53 _ rfl rfl rfl rfl)
   replace hF := hF.cons (hB.val 10 _ 57 _ rfl rfl rfl rfl)
   exact fl_val rfl rfl rfl (ex_b (t := decide ((cmpI (a * c) (b * c)) = (cmpI (a * c) (b * c)))) (b := true) (by simp) (ex_eql (hF.ev rfl) (hF.ev rfl))) hK
  ·
   refine .inl ⟨rfl, _, _, rfl, rfl, fun s fa w' hΦ hF hB K hK => ?_⟩
   replace hF := hF.cons (hB.val 11 _ 58 _ rfl rfl rfl rfl)
   exact fl_val rfl rfl rfl (ex_assign (hF.ev rfl)) hK
 intro fa w28 hΦ hF hC
 obtain ⟨Ao6_2_4, co6_2_5, Ao6_5_4, co6_5_5, hA, hS, E_w28, huo6_2_6, huo6_5_6⟩ := hΦ
 replace hF := hF.cons (hC 12 _ 6 _ rfl rfl rfl)
 clear hA hC
 refine x_tn ?_
 refine c_ret ?_
 refine end1 hF rfl (res_tmp hF rfl) ?_
 exact ⟨_, rfl, (congrArg Value.bool (by simp_all)), hS.below⟩

end Go.Proofs.Ytlaojdpcfenlkaa
