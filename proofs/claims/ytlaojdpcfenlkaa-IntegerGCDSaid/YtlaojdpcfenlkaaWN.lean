/-
  What the functions Valid, Valid, Small do, each call by call.
  Conditions: none.
-/
import Derived.Test.YtlaojdpcfenlkaaChecked
import Derived.Test.YtlaojdpcfenlkaaSwBaseK
import Derived.Test.YtlaojdpcfenlkaaWA
namespace Go.Proofs.Ytlaojdpcfenlkaa
open Go Go.RowKit Go.Sw
set_option linter.unusedVariables false
namespace TfN
theorem body18 : hasBody Try.prog 18 = true := by kernel_rfl
theorem body43 : hasBody Try.prog 43 = true := by kernel_rfl
theorem mixed : Try.prog.follows .mixedOrders = true := by kernel_rfl
theorem off24_0 : fieldOff Try.prog 24 0 = some 0 := by kernel_rfl
theorem off24_1 : fieldOff Try.prog 24 1 = some 1 := by kernel_rfl
theorem one22 : isOne Try.prog 22 = true := by kernel_rfl
theorem one4 : isOne Try.prog 4 = true := by kernel_rfl
theorem one46 : isOne Try.prog 46 = true := by kernel_rfl
theorem row24 : isRow Try.prog 24 2 = true := by kernel_rfl
theorem sl22 : sliceOf Try.prog 22 = some (46, 1) := by kernel_rfl
theorem sls22 : (sliceOf Try.prog 22).isSome = true := by kernel_rfl
end TfN
set_option maxHeartbeats 4000000 in
theorem integer_Valid_ok {w : World} {X : List Nat} (hX : ∀ m ∈ X, m < w.heap.size) {v_ng : Value} {ng : Bool} {l : List Nat} (h_ng : RawV w X v_ng (ng) (l)) :
    Calls Try.prog 35 #[v_ng] w (Ret fun r w' => (r = .bool (validL ng l)) ∧ Below w.heap.size w w') := by
 refine enter (N := 31) (fn := Try.f35) (vs := [v_ng]) Try.func35 rfl rfl rfl ?_
 intro fa hF
 obtain ⟨_, rfl, A_l, c_l, rfl, hu_l⟩ := h_ng
 have hl_l := hu_l.len; have hc_l := hu_l.cap
 replace hF : Frm 31 fa [(0, (.agg #[(.bool (ng)), (.slice (A_l) (l.length) (c_l))]))] := hF
 have hS := St.refl w
 refine c_seq ?_
 refine c_reg ?_
 refine st rfl (op_box (X := X) hF hS rfl rfl rfl ?_)
 intro g1 w2 hg4 hS E3; refine gen_ ?_; clear hF fa; intro fa hF
 replace hS : St w w2 [(g1, 24, #[(.bool (ng)), (.slice (A_l) (l.length) (c_l))])] := hS
 refine st_val hF rfl rfl rfl (ex_assign (hF.ev rfl)) ?_
 clear hF fa; intro fa hF
 refine c_nil_then ?_
 refine c_seq ?_
 refine c_seq ?_
 refine c_reg ?_
 refine st_val hF rfl rfl rfl (ex_field_addr TfN.off24_1 (hF.ev rfl)) ?_
 clear hF fa; intro fa hF
 refine st_val hF rfl rfl rfl (ex_load1b TfN.one22 (hF.ev rfl) (hS.get 0 rfl) rfl) ?_
 clear hF fa; intro fa hF
 refine st_val hF rfl rfl rfl (ex_len TfN.sls22 (hF.ev rfl)) ?_
 clear hF fa; intro fa hF
 refine st_val hF rfl rfl rfl (ex_move (hF.ev rfl)) ?_
 clear hF fa; intro fa hF
 refine c_nil_then ?_
 refine c_block ?_
 refine c_loop (fun mu fa w' => ∃ k : Nat, Frm 31 fa [(0, (.agg #[(.bool (ng)), (.slice (A_l) (l.length) (c_l))])), (1, (.pointer (some ⟨g1, 0, none⟩))), (7, (.slice (A_l) (l.length) (c_l))), (8, (.int .i64 (((l.length : Nat) : Int)))), (9, (.int .i64 (((k : Nat) : Int))))] ∧ w2 = w' ∧ (k ≤ l.length) ∧ (∀ j, j < k → l.getD j 0 < 1000000000) ∧ l.length - k = mu) ?_ ?_
 ·
  exact ⟨_, 0, (hF.take (hF.take (hF.take (hF.take (hF.take hF.nil (lk_int rfl (by omega))) rfl) rfl) rfl) rfl), rfl, (by omega), (by intro j hj; omega), rfl⟩
 clear hF fa; intro n0_ fa w' hI
 obtain ⟨k, hF, rfl, hk, hz, rfl⟩ := hI
 refine c_seq ?_
 refine c_reg ?_
 refine st_val hF rfl rfl rfl (ex_lss (hF.ev rfl) (hF.ev rfl)) ?_
 clear hF fa; intro fa hF
 refine c_nil_then ?_
 refine c_seq ?_
 refine c_cond hF rfl (fun hc5 => ?_) (fun hc5 => ?_)
 ·
  have hc5p : ((k : Nat) : Int) < ((l.length : Nat) : Int) := by first | simpa using hc5 | exact bang_t hc5 | exact bang_f hc5
  refine c_skip ?_
  refine x_tn ?_
  refine c_seq ?_
  refine c_block ?_
  refine c_seq ?_
  refine c_reg ?_
  obtain ⟨ad6, hA7, hq8⟩ := (hu_l.ext E3).cl.at_ (us_get (l := l) (i := k) (by omega))
  refine st_val hF rfl rfl rfl (ex_idx (j := k) TfN.sl22 (hF.ev rfl) hA7 (hF.ev rfl) (by omega) (by omega)) ?_
  clear hF fa; intro fa hF
  refine st_val hF rfl rfl rfl (ex_load1 TfN.one46 (hF.ev rfl) hq8) ?_
  clear hF fa; intro fa hF
  refine st_val hF rfl rfl rfl (ex_assign (hF.ev rfl)) ?_
  clear hF fa; intro fa hF
  refine c_nil_then ?_
  refine c_seq ?_
  refine c_reg ?_
  refine st_val hF rfl rfl rfl (ex_move (hF.ev rfl)) ?_
  clear hF fa; intro fa hF
  refine st_val hF rfl rfl rfl (ex_geq (hF.ev rfl) (hF.ev rfl)) ?_
  clear hF fa; intro fa hF
  refine c_nil_then ?_
  refine c_cond hF rfl (fun hc9 => ?_) (fun hc9 => ?_)
  ·
   have hc9p : ((l.getD (k) 0 : Nat) : Int) ≥ 1000000000 := by first | simpa using hc9 | exact bang_t hc9 | exact bang_f hc9
   refine c_seq ?_
   refine c_reg ?_
   refine st_val hF rfl rfl rfl (ex_assign (hF.ev rfl)) ?_
   clear hF fa; intro fa hF
   refine c_nil_then ?_
   refine c_ret ?_
   refine x_br ?_
   refine x_tr ?_
   refine x_tr ?_
   refine x_br ?_
   refine x_tr ?_
   refine end1 hF rfl (res_tmp hF rfl) ?_
   exact ⟨_, rfl, (congrArg Value.bool (validL_bad (k := k) (by omega) (by omega))), hS.below⟩
  have hc9p : ¬ (((l.getD (k) 0 : Nat) : Int) ≥ 1000000000) := by first | simpa using hc9 | exact bang_t hc9 | exact bang_f hc9
  refine c_skip ?_
  refine x_bn ?_
  refine x_tn ?_
  refine c_reg ?_
  refine st_val hF rfl rfl rfl (ex_add (hF.ev rfl) (hF.ev rfl) (wi64 (by omega) (by omega))) ?_
  clear hF fa; intro fa hF
  refine st_val hF rfl rfl rfl (ex_move (hF.ev rfl)) ?_
  clear hF fa; intro fa hF
  refine c_nil ?_
  refine x_tn ?_
  exact ⟨_, (by omega), (k + 1), (hF.take (hF.take (hF.take (hF.take (hF.take hF.nil (lk_int rfl (by omega))) rfl) rfl) rfl) rfl), rfl, (by omega), (lt_step (P := fun j => l.getD j 0 < 1000000000) hz (by omega)), rfl⟩
 have hc5p : ¬ (((k : Nat) : Int) < ((l.length : Nat) : Int)) := by first | simpa using hc5 | exact bang_t hc5 | exact bang_f hc5
 refine c_exit ?_
 refine x_te ?_
 refine x_te ?_
 refine x_bh ?_
 refine x_tn ?_
 refine c_seq ?_
 refine c_seq ?_
 refine c_reg ?_
 refine st_val hF rfl rfl rfl (ex_field_addr TfN.off24_1 (hF.ev rfl)) ?_
 clear hF fa; intro fa hF
 refine st_val hF rfl rfl rfl (ex_load1b TfN.one22 (hF.ev rfl) (hS.get 0 rfl) rfl) ?_
 clear hF fa; intro fa hF
 refine st_val hF rfl rfl rfl (ex_len TfN.sls22 (hF.ev rfl)) ?_
 clear hF fa; intro fa hF
 refine st_val hF rfl rfl rfl (ex_assign (hF.ev rfl)) ?_
 clear hF fa; intro fa hF
 refine c_nil_then ?_
 refine c_seq ?_
 refine c_reg ?_
 refine st_val hF rfl rfl rfl (ex_move (hF.ev rfl)) ?_
 clear hF fa; intro fa hF
 refine st_val hF rfl rfl rfl (ex_gtr (hF.ev rfl) (hF.ev rfl)) ?_
 clear hF fa; intro fa hF
 refine c_nil_then ?_
 refine c_cond hF rfl (fun hc10 => ?_) (fun hc10 => ?_)
 ·
  have hc10p : ((l.length : Nat) : Int) > 0 := by first | simpa using hc10 | exact bang_t hc10 | exact bang_f hc10
  refine c_seq ?_
  refine c_reg ?_
  refine st_val hF rfl rfl rfl (ex_field_addr TfN.off24_1 (hF.ev rfl)) ?_
  clear hF fa; intro fa hF
  refine st_val hF rfl rfl rfl (ex_load1b TfN.one22 (hF.ev rfl) (hS.get 0 rfl) rfl) ?_
  clear hF fa; intro fa hF
  refine st_val hF rfl rfl rfl (ex_move (hF.ev rfl)) ?_
  clear hF fa; intro fa hF
  refine st_val hF rfl rfl rfl (ex_sub (hF.ev rfl) (hF.ev rfl) (wi64 (by omega) (by omega))) ?_
  clear hF fa; intro fa hF
  obtain ⟨ad11, hA12, hq13⟩ := (hu_l.ext E3).cl.at_ (us_get (l := l) (i := l.length - 1) (by omega))
  refine st_val hF rfl rfl rfl (ex_idx (j := l.length - 1) TfN.sl22 (hF.ev rfl) hA12 (hF.ev rfl) (by omega) (by omega)) ?_
  clear hF fa; intro fa hF
  refine st_val hF rfl rfl rfl (ex_load1 TfN.one46 (hF.ev rfl) hq13) ?_
  clear hF fa; intro fa hF
  refine st_val hF rfl rfl rfl (ex_neq (hF.ev rfl) (hF.ev rfl)) ?_
  clear hF fa; intro fa hF
  refine st_val hF rfl rfl rfl (ex_assign (hF.ev rfl)) ?_
  clear hF fa; intro fa hF
  replace hF : Frm 31 fa [(0, (.agg #[(.bool (ng)), (.slice (A_l) (l.length) (c_l))])), (1, (.pointer (some ⟨g1, 0, none⟩))), (7, (.slice (A_l) (l.length) (c_l))), (8, (.int .i64 (((l.length : Nat) : Int)))), (9, (.int .i64 (((k : Nat) : Int)))), (10, (.bool (decide (((k : Nat) : Int) < ((l.length : Nat) : Int))))), (5, (.int .i64 (((l.length : Nat) : Int)))), (20, (.bool (decide (((l.length : Nat) : Int) > 0)))), (2, (.bool (!decide (((l.getD (l.length - 1) 0 : Nat) : Int) = 0))))] := (hF.take (hF.take (hF.take (hF.take (hF.take (hF.take (hF.take (hF.take (hF.take hF.nil rfl) rfl) rfl) rfl) rfl) rfl) rfl) rfl) rfl)
  refine c_nil_then ?_
  refine c_ret ?_
  refine x_tr ?_
  refine end1 hF rfl (res_tmp hF rfl) ?_
  exact ⟨_, rfl, (congrArg Value.bool (validL_pos (validL_all (fun j hj => hz j (by omega))) (by omega))), hS.below⟩
 have hc10p : ¬ (((l.length : Nat) : Int) > 0) := by first | simpa using hc10 | exact bang_t hc10 | exact bang_f hc10
 refine c_skip ?_
 refine x_tn ?_
 refine c_seq ?_
 refine c_reg ?_
 refine st_val hF rfl rfl rfl (ex_field_addr TfN.off24_0 (hF.ev rfl)) ?_
 clear hF fa; intro fa hF
 refine st_val hF rfl rfl rfl (ex_load1b TfN.one4 (hF.ev rfl) (hS.get 0 rfl) rfl) ?_
 clear hF fa; intro fa hF
 refine st_val hF rfl rfl rfl (ex_not (hF.ev rfl)) ?_
 clear hF fa; intro fa hF
 refine st_val hF rfl rfl rfl (ex_assign (hF.ev rfl)) ?_
 clear hF fa; intro fa hF
 refine c_nil_then ?_
 refine c_ret ?_
 refine end1 hF rfl (res_tmp hF rfl) ?_
 exact ⟨_, rfl, (congrArg Value.bool (validL_nil (by omega))), hS.below⟩

set_option maxHeartbeats 4000000 in
theorem ref01_Valid_ok {w : World} {X : List Nat} (hX : ∀ m ∈ X, m < w.heap.size) {v_ng : Value} {ng : Bool} {l : List Nat} (h_ng : RawV w X v_ng (ng) (l)) :
    Calls Try.prog 18 #[v_ng] w (Ret fun r w' => (r = .bool (validL ng l)) ∧ Below w.heap.size w w') := by
 refine enter (N := 36) (fn := Try.f18) (vs := [v_ng]) Try.func18 rfl rfl rfl ?_
 intro fa hF
 obtain ⟨_, rfl, A_l, c_l, rfl, hu_l⟩ := h_ng
 have hl_l := hu_l.len; have hc_l := hu_l.cap
 replace hF : Frm 36 fa [(0, (.agg #[(.bool (ng)), (.slice (A_l) (l.length) (c_l))]))] := hF
 have hS := St.refl w
 refine c_seq ?_
 refine c_reg ?_
 refine st rfl (op_box (X := X) hF hS rfl rfl rfl ?_)
 intro g1 w2 hg4 hS E3; refine gen_ ?_; clear hF fa; intro fa hF
 replace hS : St w w2 [(g1, 24, #[(.bool (ng)), (.slice (A_l) (l.length) (c_l))])] := hS
 refine st_val hF rfl rfl rfl (ex_assign (hF.ev rfl)) ?_
 clear hF fa; intro fa hF
 refine c_nil_then ?_
 refine c_seq ?_
 refine c_seq ?_
 refine c_reg ?_
 refine st_val hF rfl rfl rfl (ex_assign (hF.ev rfl)) ?_
 clear hF fa; intro fa hF
 refine c_nil_then ?_
 refine c_block ?_
 refine c_loop (fun mu fa w' => ∃ k : Nat, Frm 36 fa [(0, (.agg #[(.bool (ng)), (.slice (A_l) (l.length) (c_l))])), (1, (.pointer (some ⟨g1, 0, none⟩))), (3, (.int .i64 (((k : Nat) : Int))))] ∧ w2 = w' ∧ (k ≤ l.length) ∧ (∀ j, j < k → l.getD j 0 < 1000000000) ∧ l.length - k = mu) ?_ ?_
 ·
  exact ⟨_, 0, (hF.take (hF.take (hF.take hF.nil (lk_int rfl (by omega))) rfl) rfl), rfl, (by omega), (by intro j hj; omega), rfl⟩
 clear hF fa; intro n0_ fa w' hI
 obtain ⟨k, hF, rfl, hk, hz, rfl⟩ := hI
 refine c_seq ?_
 refine c_seq ?_
 refine c_reg ?_
 refine st_val hF rfl rfl rfl (ex_move (hF.ev rfl)) ?_
 clear hF fa; intro fa hF
 refine st_val hF rfl rfl rfl (ex_field_addr TfN.off24_1 (hF.ev rfl)) ?_
 clear hF fa; intro fa hF
 refine st_val hF rfl rfl rfl (ex_load1b TfN.one22 (hF.ev rfl) (hS.get 0 rfl) rfl) ?_
 clear hF fa; intro fa hF
 refine st_val hF rfl rfl rfl (ex_len TfN.sls22 (hF.ev rfl)) ?_
 clear hF fa; intro fa hF
 refine st_val hF rfl rfl rfl (ex_lss (hF.ev rfl) (hF.ev rfl)) ?_
 clear hF fa; intro fa hF
 refine c_nil_then ?_
 refine c_cond hF rfl (fun hc5 => ?_) (fun hc5 => ?_)
 ·
  have hc5p : ((k : Nat) : Int) < ((l.length : Nat) : Int) := by first | simpa using hc5 | exact bang_t hc5 | exact bang_f hc5
  refine c_skip ?_
  refine x_tn ?_
  refine c_seq ?_
  refine c_block ?_
  refine c_seq ?_
  refine c_reg ?_
  refine st_val hF rfl rfl rfl (ex_field_addr TfN.off24_1 (hF.ev rfl)) ?_
  clear hF fa; intro fa hF
  refine st_val hF rfl rfl rfl (ex_load1b TfN.one22 (hF.ev rfl) (hS.get 0 rfl) rfl) ?_
  clear hF fa; intro fa hF
  refine st_val hF rfl rfl rfl (ex_move (hF.ev rfl)) ?_
  clear hF fa; intro fa hF
  obtain ⟨ad6, hA7, hq8⟩ := (hu_l.ext E3).cl.at_ (us_get (l := l) (i := k) (by omega))
  refine st_val hF rfl rfl rfl (ex_idx (j := k) TfN.sl22 (hF.ev rfl) hA7 (hF.ev rfl) (by omega) (by omega)) ?_
  clear hF fa; intro fa hF
  refine st_val hF rfl rfl rfl (ex_load1 TfN.one46 (hF.ev rfl) hq8) ?_
  clear hF fa; intro fa hF
  refine st_val hF rfl rfl rfl (ex_geq (hF.ev rfl) (hF.ev rfl)) ?_
  clear hF fa; intro fa hF
  refine c_nil_then ?_
  refine c_cond hF rfl (fun hc9 => ?_) (fun hc9 => ?_)
  ·
   have hc9p : ((l.getD (k) 0 : Nat) : Int) ≥ 1000000000 := by first | simpa using hc9 | exact bang_t hc9 | exact bang_f hc9
   refine c_seq ?_
   refine c_reg ?_
   refine st_val hF rfl rfl rfl (ex_assign (hF.ev rfl)) ?_
   clear hF fa; intro fa hF
   refine c_nil_then ?_
   refine c_ret ?_
   refine x_br ?_
   refine x_tr ?_
   refine x_tr ?_
   refine x_br ?_
   refine x_tr ?_
   refine end1 hF rfl (res_tmp hF rfl) ?_
   exact ⟨_, rfl, (congrArg Value.bool (validL_bad (k := k) (by omega) (by omega))), hS.below⟩
  have hc9p : ¬ (((l.getD (k) 0 : Nat) : Int) ≥ 1000000000) := by first | simpa using hc9 | exact bang_t hc9 | exact bang_f hc9
  refine c_skip ?_
  refine x_bn ?_
  refine x_tn ?_
  refine c_reg ?_
  refine st_val hF rfl rfl rfl (ex_move (hF.ev rfl)) ?_
  clear hF fa; intro fa hF
  refine st_val hF rfl rfl rfl (ex_add (hF.ev rfl) (hF.ev rfl) (wi64 (by omega) (by omega))) ?_
  clear hF fa; intro fa hF
  refine st_val hF rfl rfl rfl (ex_assign (hF.ev rfl)) ?_
  clear hF fa; intro fa hF
  refine c_nil ?_
  refine x_tn ?_
  exact ⟨_, (by omega), (k + 1), (hF.take (hF.take (hF.take hF.nil (lk_int rfl (by omega))) rfl) rfl), rfl, (by omega), (lt_step (P := fun j => l.getD j 0 < 1000000000) hz (by omega)), rfl⟩
 have hc5p : ¬ (((k : Nat) : Int) < ((l.length : Nat) : Int)) := by first | simpa using hc5 | exact bang_t hc5 | exact bang_f hc5
 refine c_exit ?_
 refine x_te ?_
 refine x_te ?_
 refine x_bh ?_
 refine x_tn ?_
 refine c_seq ?_
 rcases Bool.eq_false_or_eq_true (decide ((((trimz l).length : Nat) : Int) = ((l.length : Nat) : Int))) with hk10 | hk10
 ·
  have hk10p := hk10; simp at hk10p
  rcases Bool.eq_false_or_eq_true (!ng) with hk11 | hk11
  ·
   have hk11p := hk11; simp at hk11p
   refine drawn2 (N := 36) (L0 := [(0, (.agg #[(.bool (ng)), (.slice (A_l) (l.length) (c_l))])), (1, (.pointer (some ⟨g1, 0, none⟩))), (3, (.int .i64 (((k : Nat) : Int)))), (8, (.bool (decide (((k : Nat) : Int) < ((l.length : Nat) : Int)))))]) [some (.pointer (some ⟨g1, 1, none⟩)), some (.slice (A_l) (l.length) (c_l)), none, some (.int .i64 ((((trimz l).length : Nat) : Int))), some (.pointer (some ⟨g1, 1, none⟩)), some (.slice (A_l) (l.length) (c_l)), some (.int .i64 (((l.length : Nat) : Int))), some (.bool (true)), some (.bool (true)), some (.pointer (some ⟨g1, 0, none⟩)), some (.bool (ng)), some (.bool (true)), some (.bool (true)), some undef, some undef, some undef, some undef, some (.bool (true)), some (.bool (true)), some (.bool (true))] [2] [[], [2]] [[0, 1], [0], [0], [1], [0, 1], [0, 1], [0, 1], [0, 1], [1], [0, 1], [0, 1], [0, 1], [0, 1], [0, 1], [0, 1], [0, 1], [0, 1], [0, 1], [0, 1], [1]] 1 [
         fun fa w' => Frm 36 fa [] ∧ St w w' [(g1, 24, #[(.bool (ng)), (.slice (A_l) (l.length) (c_l))])] ∧ Ext w2 (g1 :: X) w' (g1 :: X)
         , fun fa w' => ∃ Ao6_2_4 : Option Addr, ∃ co6_2_5 : Nat, Frm 36 fa [(19, (.slice (Ao6_2_4) ((trimz l).length) (co6_2_5)))] ∧ St w w' [(g1, 24, #[(.bool (ng)), (.slice (A_l) (l.length) (c_l))])] ∧ Ext w2 (g1 :: X) w' (g1 :: X) ∧ UC w' (g1 :: X) Ao6_2_4 co6_2_5 (trimz l)
       ] TfN.mixed rfl rfl rfl rfl rfl rfl (hF.take (hF.take (hF.take (hF.take hF.nil rfl) rfl) rfl) rfl) rfl ⟨hF.nil, hS.drew, Ext.drew _ _⟩ ?_ ?_ ?_
   all_goals clear hF fa
   ·
    refine ⟨?_, ?_, trivial⟩
    ·
     rintro fa w' i o d v ho hd hna ⟨hA, hR⟩; exact ⟨hA.put_other v (freeOf_at (acts := [2]) rfl ho hd hna), hR⟩
    ·
     rintro fa w' i o d v ho hd hna ⟨Ao6_2_4, co6_2_5, hA, hR⟩; exact ⟨Ao6_2_4, co6_2_5, hA.put_other v (freeOf_at (acts := [2]) rfl ho hd hna), hR⟩
   ·
    refine ⟨?_, ?_, ?_, ?_, ?_, ?_, ?_, ?_, ?_, ?_, ?_, ?_, ?_, ?_, ?_, ?_, ?_, ?_, ?_, ?_, trivial⟩
    ·
     refine .inl ⟨rfl, _, _, rfl, rfl, fun s fa w' hΦ hF hB K hK => ?_⟩
     exact fl_val rfl rfl rfl (ex_field_addr TfN.off24_1 (hF.ev rfl)) hK
    ·
     refine .inr (.inl ⟨rfl, _, _, rfl, rfl, ?_, trivial⟩)
     ·
      intro fa w' hΦ hF hB K hK
      obtain ⟨hA, hS, E_w'⟩ := hΦ
      replace hF := hF.cons (hB.val 0 _ 17 _ rfl rfl rfl rfl)
      exact fl_val rfl rfl rfl (ex_load1b TfN.one22 (hF.ev rfl) (hS.get 0 rfl) rfl) hK
    ·
     refine .inr (.inr ⟨rfl, ?_, trivial⟩)
     ·
      intro fa w' hΦ hF hB
      obtain ⟨hA, hS, E_w'⟩ := hΦ
      replace hF := hF.cons (hB.val 1 _ 18 _ rfl rfl rfl rfl)
      refine wop rfl rfl ?_
      have hC := ref01_trim_ok (w := w') (X := (g1 :: X)) (l := l) (hS.bnd hX) ⟨_, (l.length), _, rfl, (rfl), (hu_l.ext (E3.trans E_w'))⟩
      refine op_call hF rfl TfN.body43 (args1 (hF.ev rfl)) hC ?_
      clear hC
      rintro _ wo6_2_1 ⟨⟨Ao6_2_4, _, co6_2_5, rfl, rfl, huo6_2_6⟩, hbo6_2_2⟩
      clear hF; intro hF
      replace hS := hS.call hbo6_2_2; have Eo6_2_3 := Ext.call (g1 :: X) hbo6_2_2
      have hA1 := ((hA.put_other _ rfl).cons (hF.get 19 _ rfl))
      exact ⟨1, rfl, ⟨Ao6_2_4, co6_2_5, (hA1.take hA1.nil rfl), hS, (E_w'.trans Eo6_2_3), huo6_2_6⟩, _, rfl, fun u hu => by cases hu <;> rfl⟩
    ·
     refine .inr (.inl ⟨rfl, _, _, rfl, rfl, ?_, trivial⟩)
     ·
      intro fa w' hΦ hF hB K hK
      obtain ⟨Ao6_2_4, co6_2_5, hA, hS, E_w', huo6_2_6⟩ := hΦ
      replace hF := hF.cons (hA.get 19 _ rfl)
      exact fl_val rfl rfl rfl (ex_len TfN.sls22 (hF.ev rfl)) hK
    ·
     refine .inl ⟨rfl, _, _, rfl, rfl, fun s fa w' hΦ hF hB K hK => ?_⟩
     exact fl_val rfl rfl rfl (ex_field_addr TfN.off24_1 (hF.ev rfl)) hK
    ·
     refine .inr (.inl ⟨rfl, _, _, rfl, rfl, ?_, ?_, trivial⟩)
     ·
      intro fa w' hΦ hF hB K hK
      obtain ⟨hA, hS, E_w'⟩ := hΦ
      replace hF := hF.cons (hB.val 4 _ 21 _ rfl rfl rfl rfl)
      exact fl_val rfl rfl rfl (ex_load1b TfN.one22 (hF.ev rfl) (hS.get 0 rfl) rfl) hK
     ·
      intro fa w' hΦ hF hB K hK
      obtain ⟨Ao6_2_4, co6_2_5, hA, hS, E_w', huo6_2_6⟩ := hΦ
      replace hF := hF.cons (hB.val 4 _ 21 _ rfl rfl rfl rfl)
      exact fl_val rfl rfl rfl (ex_load1b TfN.one22 (hF.ev rfl) (hS.get 0 rfl) rfl) hK
    ·
     refine .inl ⟨rfl, _, _, rfl, rfl, fun s fa w' hΦ hF hB K hK => ?_⟩
     replace hF := hF.cons (hB.val 5 _ 22 _ rfl rfl rfl rfl)
     exact fl_val rfl rfl rfl (ex_len TfN.sls22 (hF.ev rfl)) hK
    ·
     refine .inl ⟨rfl, _, _, rfl, rfl, fun s fa w' hΦ hF hB K hK => ?_⟩
     replace hF := hF.cons (hB.val 3 _ 20 _ rfl rfl rfl rfl)
     replace hF := hF.cons (hB.val 6 _ 23 _ rfl rfl rfl rfl)
     exact fl_val rfl rfl rfl (ex_b hk10 (ex_eql (hF.ev rfl) (hF.ev rfl))) hK
    ·
     refine .inl ⟨rfl, _, _, rfl, rfl, fun s fa w' hΦ hF hB K hK => ?_⟩
     replace hF := hF.cons (hB.val 7 _ 24 _ rfl rfl rfl rfl)
     exact fl_val rfl rfl rfl (ex_move (hF.ev rfl)) hK
    ·
     refine .inl ⟨rfl, _, _, rfl, rfl, fun s fa w' hΦ hF hB K hK => ?_⟩
     replace hF := hF.cons (hB.val 8 _ 25 _ rfl rfl rfl rfl)
     exact fl_valg hF rfl rfl rfl rfl (ex_field_addr TfN.off24_0 (hF.ev rfl)) hK
    ·
     refine .inr (.inl ⟨rfl, _, _, rfl, rfl, ?_, ?_, trivial⟩)
     ·
      intro fa w' hΦ hF hB K hK
      obtain ⟨hA, hS, E_w'⟩ := hΦ
      replace hF := hF.cons (hB.val 9 _ 26 _ rfl rfl rfl rfl)
      replace hF := hF.cons (hB.val 8 _ 25 _ rfl rfl rfl rfl)
      exact fl_valg hF rfl rfl rfl rfl (ex_load1b TfN.one4 (hF.ev rfl) (hS.get 0 rfl) rfl) hK
     ·
      intro fa w' hΦ hF hB K hK
      obtain ⟨Ao6_2_4, co6_2_5, hA, hS, E_w', huo6_2_6⟩ := hΦ
      replace hF := hF.cons (hB.val 9 _ 26 _ rfl rfl rfl rfl)
      replace hF := hF.cons (hB.val 8 _ 25 _ rfl rfl rfl rfl)
      exact fl_valg hF rfl rfl rfl rfl (ex_load1b TfN.one4 (hF.ev rfl) (hS.get 0 rfl) rfl) hK
    ·
     refine .inl ⟨rfl, _, _, rfl, rfl, fun s fa w' hΦ hF hB K hK => ?_⟩
     replace hF := hF.cons (hB.val 10 _ 27 _ rfl rfl rfl rfl)
     replace hF := hF.cons (hB.val 8 _ 25 _ rfl rfl rfl rfl)
     exact fl_valg hF rfl rfl rfl rfl (ex_b hk11 (ex_not (hF.ev rfl))) hK
    ·
     refine .inl ⟨rfl, _, _, rfl, rfl, fun s fa w' hΦ hF hB K hK => ?_⟩
     replace hF := hF.cons (hB.val 11 _ 28 _ rfl rfl rfl rfl)
     replace hF := hF.cons (hB.val 8 _ 25 _ rfl rfl rfl rfl)
     exact fl_valg hF rfl rfl rfl rfl (ex_move (hF.ev rfl)) hK
    ·
     refine .inl ⟨rfl, _, _, rfl, rfl, fun s fa w' hΦ hF hB K hK => ?_⟩
     replace hF := hF.cons (hB.val 12 _ 29 _ rfl rfl rfl rfl)
     exact fl_skip hF rfl rfl rfl rfl rfl hK
    ·
     refine .inl ⟨rfl, _, _, rfl, rfl, fun s fa w' hΦ hF hB K hK => ?_⟩
     replace hF := hF.cons (hB.val 13 _ 30 _ rfl rfl rfl rfl)
     replace hF := hF.cons (hB.val 12 _ 29 _ rfl rfl rfl rfl)
     exact fl_skip hF rfl rfl rfl rfl rfl hK
    ·
     refine .inl ⟨rfl, _, _, rfl, rfl, fun s fa w' hΦ hF hB K hK => ?_⟩
     replace hF := hF.cons (hB.val 14 _ 31 _ rfl rfl rfl rfl)
     replace hF := hF.cons (hB.val 12 _ 29 _ rfl rfl rfl rfl)
     exact fl_skip hF rfl rfl rfl rfl rfl hK
    ·
     refine .inl ⟨rfl, _, _, rfl, rfl, fun s fa w' hΦ hF hB K hK => ?_⟩
     replace hF := hF.cons (hB.val 15 _ 32 _ rfl rfl rfl rfl)
     replace hF := hF.cons (hB.val 12 _ 29 _ rfl rfl rfl rfl)
     exact fl_skip hF rfl rfl rfl rfl rfl hK
    ·
     refine .inl ⟨rfl, _, _, rfl, rfl, fun s fa w' hΦ hF hB K hK => ?_⟩
     replace hF := hF.cons (hB.val 12 _ 29 _ rfl rfl rfl rfl)
     replace hF := hF.cons (hB.val 16 _ 33 _ rfl rfl rfl rfl)
     replace hF := hF.cons (hB.val 8 _ 25 _ rfl rfl rfl rfl)
     exact fl_valg hF rfl rfl rfl rfl (ex_pick (hF.ev rfl) (fun _ => hF.ev rfl) (v := undef) (fun h => by cases h) rfl) hK
    ·
     refine .inl ⟨rfl, _, _, rfl, rfl, fun s fa w' hΦ hF hB K hK => ?_⟩
     replace hF := hF.cons (hB.val 8 _ 25 _ rfl rfl rfl rfl)
     replace hF := hF.cons (hB.val 17 _ 34 _ rfl rfl rfl rfl)
     exact fl_val rfl rfl rfl (ex_pick (hF.ev rfl) (fun _ => hF.ev rfl) (v := undef) (fun h => by cases h) rfl) hK
    ·
     refine .inl ⟨rfl, _, _, rfl, rfl, fun s fa w' hΦ hF hB K hK => ?_⟩
     replace hF := hF.cons (hB.val 18 _ 35 _ rfl rfl rfl rfl)
     exact fl_val rfl rfl rfl (ex_assign (hF.ev rfl)) hK
   intro fa w12 hΦ hF hC
   obtain ⟨Ao6_2_4, co6_2_5, hA, hS, E_w12, huo6_2_6⟩ := hΦ
   replace hF := hF.cons (hC 19 _ 2 _ rfl rfl rfl)
   clear hA hC
   refine x_tn ?_
   refine c_ret ?_
   refine end1 hF rfl (res_tmp hF rfl) ?_
   exact ⟨_, rfl, (congrArg Value.bool (by rw [validL_of (validL_all (fun j hj => hz j (by omega))), dec_len]; simp_all)), hS.below⟩
  have hk11p := hk11; simp at hk11p
  refine drawn2 (N := 36) (L0 := [(0, (.agg #[(.bool (ng)), (.slice (A_l) (l.length) (c_l))])), (1, (.pointer (some ⟨g1, 0, none⟩))), (3, (.int .i64 (((k : Nat) : Int)))), (8, (.bool (decide (((k : Nat) : Int) < ((l.length : Nat) : Int)))))]) [some (.pointer (some ⟨g1, 1, none⟩)), some (.slice (A_l) (l.length) (c_l)), none, some (.int .i64 ((((trimz l).length : Nat) : Int))), some (.pointer (some ⟨g1, 1, none⟩)), some (.slice (A_l) (l.length) (c_l)), some (.int .i64 (((l.length : Nat) : Int))), some (.bool (true)), some (.bool (true)), some (.pointer (some ⟨g1, 0, none⟩)), some (.bool (ng)), some (.bool (false)), some (.bool (false)), some (.pointer (some ⟨g1, 1, none⟩)), some (.slice (A_l) (l.length) (c_l)), some (.int .i64 (((l.length : Nat) : Int))), some (.bool (decide (((l.length : Nat) : Int) > 0))), some (.bool (decide (((l.length : Nat) : Int) > 0))), some (.bool (decide (((l.length : Nat) : Int) > 0))), some (.bool (decide (((l.length : Nat) : Int) > 0)))] [2] [[], [2]] [[0, 1], [0], [0], [1], [0, 1], [0, 1], [0, 1], [0, 1], [1], [0, 1], [0, 1], [0, 1], [0, 1], [0, 1], [0, 1], [0, 1], [0, 1], [0, 1], [0, 1], [1]] 1 [
        fun fa w' => Frm 36 fa [] ∧ St w w' [(g1, 24, #[(.bool (ng)), (.slice (A_l) (l.length) (c_l))])] ∧ Ext w2 (g1 :: X) w' (g1 :: X)
        , fun fa w' => ∃ Ao6_2_4 : Option Addr, ∃ co6_2_5 : Nat, Frm 36 fa [(19, (.slice (Ao6_2_4) ((trimz l).length) (co6_2_5)))] ∧ St w w' [(g1, 24, #[(.bool (ng)), (.slice (A_l) (l.length) (c_l))])] ∧ Ext w2 (g1 :: X) w' (g1 :: X) ∧ UC w' (g1 :: X) Ao6_2_4 co6_2_5 (trimz l)
      ] TfN.mixed rfl rfl rfl rfl rfl rfl (hF.take (hF.take (hF.take (hF.take hF.nil rfl) rfl) rfl) rfl) rfl ⟨hF.nil, hS.drew, Ext.drew _ _⟩ ?_ ?_ ?_
  all_goals clear hF fa
  ·
   refine ⟨?_, ?_, trivial⟩
   ·
    rintro fa w' i o d v ho hd hna ⟨hA, hR⟩; exact ⟨hA.put_other v (freeOf_at (acts := [2]) rfl ho hd hna), hR⟩
   ·
    rintro fa w' i o d v ho hd hna ⟨Ao6_2_4, co6_2_5, hA, hR⟩; exact ⟨Ao6_2_4, co6_2_5, hA.put_other v (freeOf_at (acts := [2]) rfl ho hd hna), hR⟩
  ·
   refine ⟨?_, ?_, ?_, ?_, ?_, ?_, ?_, ?_, ?_, ?_, ?_, ?_, ?_, ?_, ?_, ?_, ?_, ?_, ?_, ?_, trivial⟩
   ·
    refine .inl ⟨rfl, _, _, rfl, rfl, fun s fa w' hΦ hF hB K hK => ?_⟩
    exact fl_val rfl rfl rfl (ex_field_addr TfN.off24_1 (hF.ev rfl)) hK
   ·
    refine .inr (.inl ⟨rfl, _, _, rfl, rfl, ?_, trivial⟩)
    ·
     intro fa w' hΦ hF hB K hK
     obtain ⟨hA, hS, E_w'⟩ := hΦ
     replace hF := hF.cons (hB.val 0 _ 17 _ rfl rfl rfl rfl)
     exact fl_val rfl rfl rfl (ex_load1b TfN.one22 (hF.ev rfl) (hS.get 0 rfl) rfl) hK
   ·
    refine .inr (.inr ⟨rfl, ?_, trivial⟩)
    ·
     intro fa w' hΦ hF hB
     obtain ⟨hA, hS, E_w'⟩ := hΦ
     replace hF := hF.cons (hB.val 1 _ 18 _ rfl rfl rfl rfl)
     refine wop rfl rfl ?_
     have hC := ref01_trim_ok (w := w') (X := (g1 :: X)) (l := l) (hS.bnd hX) ⟨_, (l.length), _, rfl, (rfl), (hu_l.ext (E3.trans E_w'))⟩
     refine op_call hF rfl TfN.body43 (args1 (hF.ev rfl)) hC ?_
     clear hC
     rintro _ wo6_2_1 ⟨⟨Ao6_2_4, _, co6_2_5, rfl, rfl, huo6_2_6⟩, hbo6_2_2⟩
     clear hF; intro hF
     replace hS := hS.call hbo6_2_2; have Eo6_2_3 := Ext.call (g1 :: X) hbo6_2_2
     have hA1 := ((hA.put_other _ rfl).cons (hF.get 19 _ rfl))
     exact ⟨1, rfl, ⟨Ao6_2_4, co6_2_5, (hA1.take hA1.nil rfl), hS, (E_w'.trans Eo6_2_3), huo6_2_6⟩, _, rfl, fun u hu => by cases hu <;> rfl⟩
   ·
    refine .inr (.inl ⟨rfl, _, _, rfl, rfl, ?_, trivial⟩)
    ·
     intro fa w' hΦ hF hB K hK
     obtain ⟨Ao6_2_4, co6_2_5, hA, hS, E_w', huo6_2_6⟩ := hΦ
     replace hF := hF.cons (hA.get 19 _ rfl)
     exact fl_val rfl rfl rfl (ex_len TfN.sls22 (hF.ev rfl)) hK
   ·
    refine .inl ⟨rfl, _, _, rfl, rfl, fun s fa w' hΦ hF hB K hK => ?_⟩
    exact fl_val rfl rfl rfl (ex_field_addr TfN.off24_1 (hF.ev rfl)) hK
   ·
    refine .inr (.inl ⟨rfl, _, _, rfl, rfl, ?_, ?_, trivial⟩)
    ·
     intro fa w' hΦ hF hB K hK
     obtain ⟨hA, hS, E_w'⟩ := hΦ
     replace hF := hF.cons (hB.val 4 _ 21 _ rfl rfl rfl rfl)
     exact fl_val rfl rfl rfl (ex_load1b TfN.one22 (hF.ev rfl) (hS.get 0 rfl) rfl) hK
    ·
     intro fa w' hΦ hF hB K hK
     obtain ⟨Ao6_2_4, co6_2_5, hA, hS, E_w', huo6_2_6⟩ := hΦ
     replace hF := hF.cons (hB.val 4 _ 21 _ rfl rfl rfl rfl)
     exact fl_val rfl rfl rfl (ex_load1b TfN.one22 (hF.ev rfl) (hS.get 0 rfl) rfl) hK
   ·
    refine .inl ⟨rfl, _, _, rfl, rfl, fun s fa w' hΦ hF hB K hK => ?_⟩
    replace hF := hF.cons (hB.val 5 _ 22 _ rfl rfl rfl rfl)
    exact fl_val rfl rfl rfl (ex_len TfN.sls22 (hF.ev rfl)) hK
   ·
    refine .inl ⟨rfl, _, _, rfl, rfl, fun s fa w' hΦ hF hB K hK => ?_⟩
    replace hF := hF.cons (hB.val 3 _ 20 _ rfl rfl rfl rfl)
    replace hF := hF.cons (hB.val 6 _ 23 _ rfl rfl rfl rfl)
    exact fl_val rfl rfl rfl (ex_b hk10 (ex_eql (hF.ev rfl) (hF.ev rfl))) hK
   ·
    refine .inl ⟨rfl, _, _, rfl, rfl, fun s fa w' hΦ hF hB K hK => ?_⟩
    replace hF := hF.cons (hB.val 7 _ 24 _ rfl rfl rfl rfl)
    exact fl_val rfl rfl rfl (ex_move (hF.ev rfl)) hK
   ·
    refine .inl ⟨rfl, _, _, rfl, rfl, fun s fa w' hΦ hF hB K hK => ?_⟩
    replace hF := hF.cons (hB.val 8 _ 25 _ rfl rfl rfl rfl)
    exact fl_valg hF rfl rfl rfl rfl (ex_field_addr TfN.off24_0 (hF.ev rfl)) hK
   ·
    refine .inr (.inl ⟨rfl, _, _, rfl, rfl, ?_, ?_, trivial⟩)
    ·
     intro fa w' hΦ hF hB K hK
     obtain ⟨hA, hS, E_w'⟩ := hΦ
     replace hF := hF.cons (hB.val 9 _ 26 _ rfl rfl rfl rfl)
     replace hF := hF.cons (hB.val 8 _ 25 _ rfl rfl rfl rfl)
     exact fl_valg hF rfl rfl rfl rfl (ex_load1b TfN.one4 (hF.ev rfl) (hS.get 0 rfl) rfl) hK
    ·
     intro fa w' hΦ hF hB K hK
     obtain ⟨Ao6_2_4, co6_2_5, hA, hS, E_w', huo6_2_6⟩ := hΦ
     replace hF := hF.cons (hB.val 9 _ 26 _ rfl rfl rfl rfl)
     replace hF := hF.cons (hB.val 8 _ 25 _ rfl rfl rfl rfl)
     exact fl_valg hF rfl rfl rfl rfl (ex_load1b TfN.one4 (hF.ev rfl) (hS.get 0 rfl) rfl) hK
   ·
    refine .inl ⟨rfl, _, _, rfl, rfl, fun s fa w' hΦ hF hB K hK => ?_⟩
    replace hF := hF.cons (hB.val 10 _ 27 _ rfl rfl rfl rfl)
    replace hF := hF.cons (hB.val 8 _ 25 _ rfl rfl rfl rfl)
    exact fl_valg hF rfl rfl rfl rfl (ex_b hk11 (ex_not (hF.ev rfl))) hK
   ·
    refine .inl ⟨rfl, _, _, rfl, rfl, fun s fa w' hΦ hF hB K hK => ?_⟩
    replace hF := hF.cons (hB.val 11 _ 28 _ rfl rfl rfl rfl)
    replace hF := hF.cons (hB.val 8 _ 25 _ rfl rfl rfl rfl)
    exact fl_valg hF rfl rfl rfl rfl (ex_move (hF.ev rfl)) hK
   ·
    refine .inl ⟨rfl, _, _, rfl, rfl, fun s fa w' hΦ hF hB K hK => ?_⟩
    replace hF := hF.cons (hB.val 12 _ 29 _ rfl rfl rfl rfl)
    exact fl_valg hF rfl rfl rfl rfl (ex_field_addr TfN.off24_1 (hF.ev rfl)) hK
   ·
    refine .inr (.inl ⟨rfl, _, _, rfl, rfl, ?_, ?_, trivial⟩)
    ·
     intro fa w' hΦ hF hB K hK
     obtain ⟨hA, hS, E_w'⟩ := hΦ
     replace hF := hF.cons (hB.val 13 _ 30 _ rfl rfl rfl rfl)
     replace hF := hF.cons (hB.val 12 _ 29 _ rfl rfl rfl rfl)
     exact fl_valg hF rfl rfl rfl rfl (ex_load1b TfN.one22 (hF.ev rfl) (hS.get 0 rfl) rfl) hK
    ·
     intro fa w' hΦ hF hB K hK
     obtain ⟨Ao6_2_4, co6_2_5, hA, hS, E_w', huo6_2_6⟩ := hΦ
     replace hF := hF.cons (hB.val 13 _ 30 _ rfl rfl rfl rfl)
     replace hF := hF.cons (hB.val 12 _ 29 _ rfl rfl rfl rfl)
     exact fl_valg hF rfl rfl rfl rfl (ex_load1b TfN.one22 (hF.ev rfl) (hS.get 0 rfl) rfl) hK
   ·
    refine .inl ⟨rfl, _, _, rfl, rfl, fun s fa w' hΦ hF hB K hK => ?_⟩
    replace hF := hF.cons (hB.val 14 _ 31 _ rfl rfl rfl rfl)
    replace hF := hF.cons (hB.val 12 _ 29 _ rfl rfl rfl rfl)
    exact fl_valg hF rfl rfl rfl rfl (ex_len TfN.sls22 (hF.ev rfl)) hK
   ·
    refine .inl ⟨rfl, _, _, rfl, rfl, fun s fa w' hΦ hF hB K hK => ?_⟩
    replace hF := hF.cons (hB.val 15 _ 32 _ rfl rfl rfl rfl)
    replace hF := hF.cons (hB.val 12 _ 29 _ rfl rfl rfl rfl)
    exact fl_valg hF rfl rfl rfl rfl (ex_gtr (hF.ev rfl) (hF.ev rfl)) hK
   ·
    refine .inl ⟨rfl, _, _, rfl, rfl, fun s fa w' hΦ hF hB K hK => ?_⟩
    replace hF := hF.cons (hB.val 12 _ 29 _ rfl rfl rfl rfl)
    replace hF := hF.cons (hB.val 16 _ 33 _ rfl rfl rfl rfl)
    replace hF := hF.cons (hB.val 8 _ 25 _ rfl rfl rfl rfl)
    exact fl_valg hF rfl rfl rfl rfl (ex_pick (hF.ev rfl) (u := undef) (fun h => by cases h) (fun _ => hF.ev rfl) rfl) hK
   ·
    refine .inl ⟨rfl, _, _, rfl, rfl, fun s fa w' hΦ hF hB K hK => ?_⟩
    replace hF := hF.cons (hB.val 8 _ 25 _ rfl rfl rfl rfl)
    replace hF := hF.cons (hB.val 17 _ 34 _ rfl rfl rfl rfl)
    exact fl_val rfl rfl rfl (ex_pick (hF.ev rfl) (fun _ => hF.ev rfl) (v := undef) (fun h => by cases h) rfl) hK
   ·
    refine .inl ⟨rfl, _, _, rfl, rfl, fun s fa w' hΦ hF hB K hK => ?_⟩
    replace hF := hF.cons (hB.val 18 _ 35 _ rfl rfl rfl rfl)
    exact fl_val rfl rfl rfl (ex_assign (hF.ev rfl)) hK
  intro fa w13 hΦ hF hC
  obtain ⟨Ao6_2_4, co6_2_5, hA, hS, E_w13, huo6_2_6⟩ := hΦ
  replace hF := hF.cons (hC 19 _ 2 _ rfl rfl rfl)
  clear hA hC
  refine x_tn ?_
  refine c_ret ?_
  refine end1 hF rfl (res_tmp hF rfl) ?_
  exact ⟨_, rfl, (congrArg Value.bool (by rw [validL_of (validL_all (fun j hj => hz j (by omega))), dec_len]; simp_all)), hS.below⟩
 have hk10p := hk10; simp at hk10p
 rcases Bool.eq_false_or_eq_true (!ng) with hk14 | hk14
 ·
  have hk14p := hk14; simp at hk14p
  refine drawn2 (N := 36) (L0 := [(0, (.agg #[(.bool (ng)), (.slice (A_l) (l.length) (c_l))])), (1, (.pointer (some ⟨g1, 0, none⟩))), (3, (.int .i64 (((k : Nat) : Int)))), (8, (.bool (decide (((k : Nat) : Int) < ((l.length : Nat) : Int)))))]) [some (.pointer (some ⟨g1, 1, none⟩)), some (.slice (A_l) (l.length) (c_l)), none, some (.int .i64 ((((trimz l).length : Nat) : Int))), some (.pointer (some ⟨g1, 1, none⟩)), some (.slice (A_l) (l.length) (c_l)), some (.int .i64 (((l.length : Nat) : Int))), some (.bool (false)), some (.bool (false)), some undef, some undef, some undef, some undef, some undef, some undef, some undef, some undef, some undef, some (.bool (false)), some (.bool (false))] [2] [[], [2]] [[0, 1], [0], [0], [1], [0, 1], [0, 1], [0, 1], [0, 1], [1], [0, 1], [0, 1], [0, 1], [0, 1], [0, 1], [0, 1], [0, 1], [0, 1], [0, 1], [0, 1], [1]] 1 [
        fun fa w' => Frm 36 fa [] ∧ St w w' [(g1, 24, #[(.bool (ng)), (.slice (A_l) (l.length) (c_l))])] ∧ Ext w2 (g1 :: X) w' (g1 :: X)
        , fun fa w' => ∃ Ao6_2_4 : Option Addr, ∃ co6_2_5 : Nat, Frm 36 fa [(19, (.slice (Ao6_2_4) ((trimz l).length) (co6_2_5)))] ∧ St w w' [(g1, 24, #[(.bool (ng)), (.slice (A_l) (l.length) (c_l))])] ∧ Ext w2 (g1 :: X) w' (g1 :: X) ∧ UC w' (g1 :: X) Ao6_2_4 co6_2_5 (trimz l)
      ] TfN.mixed rfl rfl rfl rfl rfl rfl (hF.take (hF.take (hF.take (hF.take hF.nil rfl) rfl) rfl) rfl) rfl ⟨hF.nil, hS.drew, Ext.drew _ _⟩ ?_ ?_ ?_
  all_goals clear hF fa
  ·
   refine ⟨?_, ?_, trivial⟩
   ·
    rintro fa w' i o d v ho hd hna ⟨hA, hR⟩; exact ⟨hA.put_other v (freeOf_at (acts := [2]) rfl ho hd hna), hR⟩
   ·
    rintro fa w' i o d v ho hd hna ⟨Ao6_2_4, co6_2_5, hA, hR⟩; exact ⟨Ao6_2_4, co6_2_5, hA.put_other v (freeOf_at (acts := [2]) rfl ho hd hna), hR⟩
  ·
   refine ⟨?_, ?_, ?_, ?_, ?_, ?_, ?_, ?_, ?_, ?_, ?_, ?_, ?_, ?_, ?_, ?_, ?_, ?_, ?_, ?_, trivial⟩
   ·
    refine .inl ⟨rfl, _, _, rfl, rfl, fun s fa w' hΦ hF hB K hK => ?_⟩
    exact fl_val rfl rfl rfl (ex_field_addr TfN.off24_1 (hF.ev rfl)) hK
   ·
    refine .inr (.inl ⟨rfl, _, _, rfl, rfl, ?_, trivial⟩)
    ·
     intro fa w' hΦ hF hB K hK
     obtain ⟨hA, hS, E_w'⟩ := hΦ
     replace hF := hF.cons (hB.val 0 _ 17 _ rfl rfl rfl rfl)
     exact fl_val rfl rfl rfl (ex_load1b TfN.one22 (hF.ev rfl) (hS.get 0 rfl) rfl) hK
   ·
    refine .inr (.inr ⟨rfl, ?_, trivial⟩)
    ·
     intro fa w' hΦ hF hB
     obtain ⟨hA, hS, E_w'⟩ := hΦ
     replace hF := hF.cons (hB.val 1 _ 18 _ rfl rfl rfl rfl)
     refine wop rfl rfl ?_
     have hC := ref01_trim_ok (w := w') (X := (g1 :: X)) (l := l) (hS.bnd hX) ⟨_, (l.length), _, rfl, (rfl), (hu_l.ext (E3.trans E_w'))⟩
     refine op_call hF rfl TfN.body43 (args1 (hF.ev rfl)) hC ?_
     clear hC
     rintro _ wo6_2_1 ⟨⟨Ao6_2_4, _, co6_2_5, rfl, rfl, huo6_2_6⟩, hbo6_2_2⟩
     clear hF; intro hF
     replace hS := hS.call hbo6_2_2; have Eo6_2_3 := Ext.call (g1 :: X) hbo6_2_2
     have hA1 := ((hA.put_other _ rfl).cons (hF.get 19 _ rfl))
     exact ⟨1, rfl, ⟨Ao6_2_4, co6_2_5, (hA1.take hA1.nil rfl), hS, (E_w'.trans Eo6_2_3), huo6_2_6⟩, _, rfl, fun u hu => by cases hu <;> rfl⟩
   ·
    refine .inr (.inl ⟨rfl, _, _, rfl, rfl, ?_, trivial⟩)
    ·
     intro fa w' hΦ hF hB K hK
     obtain ⟨Ao6_2_4, co6_2_5, hA, hS, E_w', huo6_2_6⟩ := hΦ
     replace hF := hF.cons (hA.get 19 _ rfl)
     exact fl_val rfl rfl rfl (ex_len TfN.sls22 (hF.ev rfl)) hK
   ·
    refine .inl ⟨rfl, _, _, rfl, rfl, fun s fa w' hΦ hF hB K hK => ?_⟩
    exact fl_val rfl rfl rfl (ex_field_addr TfN.off24_1 (hF.ev rfl)) hK
   ·
    refine .inr (.inl ⟨rfl, _, _, rfl, rfl, ?_, ?_, trivial⟩)
    ·
     intro fa w' hΦ hF hB K hK
     obtain ⟨hA, hS, E_w'⟩ := hΦ
     replace hF := hF.cons (hB.val 4 _ 21 _ rfl rfl rfl rfl)
     exact fl_val rfl rfl rfl (ex_load1b TfN.one22 (hF.ev rfl) (hS.get 0 rfl) rfl) hK
    ·
     intro fa w' hΦ hF hB K hK
     obtain ⟨Ao6_2_4, co6_2_5, hA, hS, E_w', huo6_2_6⟩ := hΦ
     replace hF := hF.cons (hB.val 4 _ 21 _ rfl rfl rfl rfl)
     exact fl_val rfl rfl rfl (ex_load1b TfN.one22 (hF.ev rfl) (hS.get 0 rfl) rfl) hK
   ·
    refine .inl ⟨rfl, _, _, rfl, rfl, fun s fa w' hΦ hF hB K hK => ?_⟩
    replace hF := hF.cons (hB.val 5 _ 22 _ rfl rfl rfl rfl)
    exact fl_val rfl rfl rfl (ex_len TfN.sls22 (hF.ev rfl)) hK
   ·
    refine .inl ⟨rfl, _, _, rfl, rfl, fun s fa w' hΦ hF hB K hK => ?_⟩
    replace hF := hF.cons (hB.val 3 _ 20 _ rfl rfl rfl rfl)
    replace hF := hF.cons (hB.val 6 _ 23 _ rfl rfl rfl rfl)
    exact fl_val rfl rfl rfl (ex_b hk10 (ex_eql (hF.ev rfl) (hF.ev rfl))) hK
   ·
    refine .inl ⟨rfl, _, _, rfl, rfl, fun s fa w' hΦ hF hB K hK => ?_⟩
    replace hF := hF.cons (hB.val 7 _ 24 _ rfl rfl rfl rfl)
    exact fl_val rfl rfl rfl (ex_move (hF.ev rfl)) hK
   ·
    refine .inl ⟨rfl, _, _, rfl, rfl, fun s fa w' hΦ hF hB K hK => ?_⟩
    replace hF := hF.cons (hB.val 8 _ 25 _ rfl rfl rfl rfl)
    exact fl_skip hF rfl rfl rfl rfl rfl hK
   ·
    refine .inl ⟨rfl, _, _, rfl, rfl, fun s fa w' hΦ hF hB K hK => ?_⟩
    replace hF := hF.cons (hB.val 9 _ 26 _ rfl rfl rfl rfl)
    replace hF := hF.cons (hB.val 8 _ 25 _ rfl rfl rfl rfl)
    exact fl_skip hF rfl rfl rfl rfl rfl hK
   ·
    refine .inl ⟨rfl, _, _, rfl, rfl, fun s fa w' hΦ hF hB K hK => ?_⟩
    replace hF := hF.cons (hB.val 10 _ 27 _ rfl rfl rfl rfl)
    replace hF := hF.cons (hB.val 8 _ 25 _ rfl rfl rfl rfl)
    exact fl_skip hF rfl rfl rfl rfl rfl hK
   ·
    refine .inl ⟨rfl, _, _, rfl, rfl, fun s fa w' hΦ hF hB K hK => ?_⟩
    replace hF := hF.cons (hB.val 11 _ 28 _ rfl rfl rfl rfl)
    replace hF := hF.cons (hB.val 8 _ 25 _ rfl rfl rfl rfl)
    exact fl_skip hF rfl rfl rfl rfl rfl hK
   ·
    refine .inl ⟨rfl, _, _, rfl, rfl, fun s fa w' hΦ hF hB K hK => ?_⟩
    replace hF := hF.cons (hB.val 12 _ 29 _ rfl rfl rfl rfl)
    exact fl_skip_u hF rfl rfl rfl rfl hK
   ·
    refine .inl ⟨rfl, _, _, rfl, rfl, fun s fa w' hΦ hF hB K hK => ?_⟩
    replace hF := hF.cons (hB.val 13 _ 30 _ rfl rfl rfl rfl)
    replace hF := hF.cons (hB.val 12 _ 29 _ rfl rfl rfl rfl)
    exact fl_skip_u hF rfl rfl rfl rfl hK
   ·
    refine .inl ⟨rfl, _, _, rfl, rfl, fun s fa w' hΦ hF hB K hK => ?_⟩
    replace hF := hF.cons (hB.val 14 _ 31 _ rfl rfl rfl rfl)
    replace hF := hF.cons (hB.val 12 _ 29 _ rfl rfl rfl rfl)
    exact fl_skip_u hF rfl rfl rfl rfl hK
   ·
    refine .inl ⟨rfl, _, _, rfl, rfl, fun s fa w' hΦ hF hB K hK => ?_⟩
    replace hF := hF.cons (hB.val 15 _ 32 _ rfl rfl rfl rfl)
    replace hF := hF.cons (hB.val 12 _ 29 _ rfl rfl rfl rfl)
    exact fl_skip_u hF rfl rfl rfl rfl hK
   ·
    refine .inl ⟨rfl, _, _, rfl, rfl, fun s fa w' hΦ hF hB K hK => ?_⟩
    replace hF := hF.cons (hB.val 12 _ 29 _ rfl rfl rfl rfl)
    replace hF := hF.cons (hB.val 16 _ 33 _ rfl rfl rfl rfl)
    replace hF := hF.cons (hB.val 8 _ 25 _ rfl rfl rfl rfl)
    exact fl_skip hF rfl rfl rfl rfl rfl hK
   ·
    refine .inl ⟨rfl, _, _, rfl, rfl, fun s fa w' hΦ hF hB K hK => ?_⟩
    replace hF := hF.cons (hB.val 8 _ 25 _ rfl rfl rfl rfl)
    replace hF := hF.cons (hB.val 17 _ 34 _ rfl rfl rfl rfl)
    exact fl_val rfl rfl rfl (ex_pick (hF.ev rfl) (u := undef) (fun h => by cases h) (fun _ => hF.ev rfl) rfl) hK
   ·
    refine .inl ⟨rfl, _, _, rfl, rfl, fun s fa w' hΦ hF hB K hK => ?_⟩
    replace hF := hF.cons (hB.val 18 _ 35 _ rfl rfl rfl rfl)
    exact fl_val rfl rfl rfl (ex_assign (hF.ev rfl)) hK
  intro fa w15 hΦ hF hC
  obtain ⟨Ao6_2_4, co6_2_5, hA, hS, E_w15, huo6_2_6⟩ := hΦ
  replace hF := hF.cons (hC 19 _ 2 _ rfl rfl rfl)
  clear hA hC
  refine x_tn ?_
  refine c_ret ?_
  refine end1 hF rfl (res_tmp hF rfl) ?_
  exact ⟨_, rfl, (congrArg Value.bool (by rw [validL_of (validL_all (fun j hj => hz j (by omega))), dec_len]; simp_all)), hS.below⟩
 have hk14p := hk14; simp at hk14p
 refine drawn2 (N := 36) (L0 := [(0, (.agg #[(.bool (ng)), (.slice (A_l) (l.length) (c_l))])), (1, (.pointer (some ⟨g1, 0, none⟩))), (3, (.int .i64 (((k : Nat) : Int)))), (8, (.bool (decide (((k : Nat) : Int) < ((l.length : Nat) : Int)))))]) [some (.pointer (some ⟨g1, 1, none⟩)), some (.slice (A_l) (l.length) (c_l)), none, some (.int .i64 ((((trimz l).length : Nat) : Int))), some (.pointer (some ⟨g1, 1, none⟩)), some (.slice (A_l) (l.length) (c_l)), some (.int .i64 (((l.length : Nat) : Int))), some (.bool (false)), some (.bool (false)), some undef, some undef, some undef, some undef, some undef, some undef, some undef, some undef, some undef, some (.bool (false)), some (.bool (false))] [2] [[], [2]] [[0, 1], [0], [0], [1], [0, 1], [0, 1], [0, 1], [0, 1], [1], [0, 1], [0, 1], [0, 1], [0, 1], [0, 1], [0, 1], [0, 1], [0, 1], [0, 1], [0, 1], [1]] 1 [
       fun fa w' => Frm 36 fa [] ∧ St w w' [(g1, 24, #[(.bool (ng)), (.slice (A_l) (l.length) (c_l))])] ∧ Ext w2 (g1 :: X) w' (g1 :: X)
       , fun fa w' => ∃ Ao6_2_4 : Option Addr, ∃ co6_2_5 : Nat, Frm 36 fa [(19, (.slice (Ao6_2_4) ((trimz l).length) (co6_2_5)))] ∧ St w w' [(g1, 24, #[(.bool (ng)), (.slice (A_l) (l.length) (c_l))])] ∧ Ext w2 (g1 :: X) w' (g1 :: X) ∧ UC w' (g1 :: X) Ao6_2_4 co6_2_5 (trimz l)
     ] TfN.mixed rfl rfl rfl rfl rfl rfl (hF.take (hF.take (hF.take (hF.take hF.nil rfl) rfl) rfl) rfl) rfl ⟨hF.nil, hS.drew, Ext.drew _ _⟩ ?_ ?_ ?_
 all_goals clear hF fa
 ·
  refine ⟨?_, ?_, trivial⟩
  ·
   rintro fa w' i o d v ho hd hna ⟨hA, hR⟩; exact ⟨hA.put_other v (freeOf_at (acts := [2]) rfl ho hd hna), hR⟩
  ·
   rintro fa w' i o d v ho hd hna ⟨Ao6_2_4, co6_2_5, hA, hR⟩; exact ⟨Ao6_2_4, co6_2_5, hA.put_other v (freeOf_at (acts := [2]) rfl ho hd hna), hR⟩
 ·
  refine ⟨?_, ?_, ?_, ?_, ?_, ?_, ?_, ?_, ?_, ?_, ?_, ?_, ?_, ?_, ?_, ?_, ?_, ?_, ?_, ?_, trivial⟩
  ·
   refine .inl ⟨rfl, _, _, rfl, rfl, fun s fa w' hΦ hF hB K hK => ?_⟩
   exact fl_val rfl rfl rfl (ex_field_addr TfN.off24_1 (hF.ev rfl)) hK
  ·
   refine .inr (.inl ⟨rfl, _, _, rfl, rfl, ?_, trivial⟩)
   ·
    intro fa w' hΦ hF hB K hK
    obtain ⟨hA, hS, E_w'⟩ := hΦ
    replace hF := hF.cons (hB.val 0 _ 17 _ rfl rfl rfl rfl)
    exact fl_val rfl rfl rfl (ex_load1b TfN.one22 (hF.ev rfl) (hS.get 0 rfl) rfl) hK
  ·
   refine .inr (.inr ⟨rfl, ?_, trivial⟩)
   ·
    intro fa w' hΦ hF hB
    obtain ⟨hA, hS, E_w'⟩ := hΦ
    replace hF := hF.cons (hB.val 1 _ 18 _ rfl rfl rfl rfl)
    refine wop rfl rfl ?_
    have hC := ref01_trim_ok (w := w') (X := (g1 :: X)) (l := l) (hS.bnd hX) ⟨_, (l.length), _, rfl, (rfl), (hu_l.ext (E3.trans E_w'))⟩
    refine op_call hF rfl TfN.body43 (args1 (hF.ev rfl)) hC ?_
    clear hC
    rintro _ wo6_2_1 ⟨⟨Ao6_2_4, _, co6_2_5, rfl, rfl, huo6_2_6⟩, hbo6_2_2⟩
    clear hF; intro hF
    replace hS := hS.call hbo6_2_2; have Eo6_2_3 := Ext.call (g1 :: X) hbo6_2_2
    have hA1 := ((hA.put_other _ rfl).cons (hF.get 19 _ rfl))
    exact ⟨1, rfl, ⟨Ao6_2_4, co6_2_5, (hA1.take hA1.nil rfl), hS, (E_w'.trans Eo6_2_3), huo6_2_6⟩, _, rfl, fun u hu => by cases hu <;> rfl⟩
  ·
   refine .inr (.inl ⟨rfl, _, _, rfl, rfl, ?_, trivial⟩)
   ·
    intro fa w' hΦ hF hB K hK
    obtain ⟨Ao6_2_4, co6_2_5, hA, hS, E_w', huo6_2_6⟩ := hΦ
    replace hF := hF.cons (hA.get 19 _ rfl)
    exact fl_val rfl rfl rfl (ex_len TfN.sls22 (hF.ev rfl)) hK
  ·
   refine .inl ⟨rfl, _, _, rfl, rfl, fun s fa w' hΦ hF hB K hK => ?_⟩
   exact fl_val rfl rfl rfl (ex_field_addr TfN.off24_1 (hF.ev rfl)) hK
  ·
   refine .inr (.inl ⟨rfl, _, _, rfl, rfl, ?_, ?_, trivial⟩)
   ·
    intro fa w' hΦ hF hB K hK
    obtain ⟨hA, hS, E_w'⟩ := hΦ
    replace hF := hF.cons (hB.val 4 _ 21 _ rfl rfl rfl rfl)
    exact fl_val rfl rfl rfl (ex_load1b TfN.one22 (hF.ev rfl) (hS.get 0 rfl) rfl) hK
   ·
    intro fa w' hΦ hF hB K hK
    obtain ⟨Ao6_2_4, co6_2_5, hA, hS, E_w', huo6_2_6⟩ := hΦ
    replace hF := hF.cons (hB.val 4 _ 21 _ rfl rfl rfl rfl)
    exact fl_val rfl rfl rfl (ex_load1b TfN.one22 (hF.ev rfl) (hS.get 0 rfl) rfl) hK
  ·
   refine .inl ⟨rfl, _, _, rfl, rfl, fun s fa w' hΦ hF hB K hK => ?_⟩
   replace hF := hF.cons (hB.val 5 _ 22 _ rfl rfl rfl rfl)
   exact fl_val rfl rfl rfl (ex_len TfN.sls22 (hF.ev rfl)) hK
  ·
   refine .inl ⟨rfl, _, _, rfl, rfl, fun s fa w' hΦ hF hB K hK => ?_⟩
   replace hF := hF.cons (hB.val 3 _ 20 _ rfl rfl rfl rfl)
   replace hF := hF.cons (hB.val 6 _ 23 _ rfl rfl rfl rfl)
   exact fl_val rfl rfl rfl (ex_b hk10 (ex_eql (hF.ev rfl) (hF.ev rfl))) hK
  ·
   refine .inl ⟨rfl, _, _, rfl, rfl, fun s fa w' hΦ hF hB K hK => ?_⟩
   replace hF := hF.cons (hB.val 7 _ 24 _ rfl rfl rfl rfl)
   exact fl_val rfl rfl rfl (ex_move (hF.ev rfl)) hK
  ·
   refine .inl ⟨rfl, _, _, rfl, rfl, fun s fa w' hΦ hF hB K hK => ?_⟩
   replace hF := hF.cons (hB.val 8 _ 25 _ rfl rfl rfl rfl)
   exact fl_skip hF rfl rfl rfl rfl rfl hK
  ·
   refine .inl ⟨rfl, _, _, rfl, rfl, fun s fa w' hΦ hF hB K hK => ?_⟩
   replace hF := hF.cons (hB.val 9 _ 26 _ rfl rfl rfl rfl)
   replace hF := hF.cons (hB.val 8 _ 25 _ rfl rfl rfl rfl)
   exact fl_skip hF rfl rfl rfl rfl rfl hK
  ·
   refine .inl ⟨rfl, _, _, rfl, rfl, fun s fa w' hΦ hF hB K hK => ?_⟩
   replace hF := hF.cons (hB.val 10 _ 27 _ rfl rfl rfl rfl)
   replace hF := hF.cons (hB.val 8 _ 25 _ rfl rfl rfl rfl)
   exact fl_skip hF rfl rfl rfl rfl rfl hK
  ·
   refine .inl ⟨rfl, _, _, rfl, rfl, fun s fa w' hΦ hF hB K hK => ?_⟩
   replace hF := hF.cons (hB.val 11 _ 28 _ rfl rfl rfl rfl)
   replace hF := hF.cons (hB.val 8 _ 25 _ rfl rfl rfl rfl)
   exact fl_skip hF rfl rfl rfl rfl rfl hK
  ·
   refine .inl ⟨rfl, _, _, rfl, rfl, fun s fa w' hΦ hF hB K hK => ?_⟩
   replace hF := hF.cons (hB.val 12 _ 29 _ rfl rfl rfl rfl)
   exact fl_skip_u hF rfl rfl rfl rfl hK
  ·
   refine .inl ⟨rfl, _, _, rfl, rfl, fun s fa w' hΦ hF hB K hK => ?_⟩
   replace hF := hF.cons (hB.val 13 _ 30 _ rfl rfl rfl rfl)
   replace hF := hF.cons (hB.val 12 _ 29 _ rfl rfl rfl rfl)
   exact fl_skip_u hF rfl rfl rfl rfl hK
  ·
   refine .inl ⟨rfl, _, _, rfl, rfl, fun s fa w' hΦ hF hB K hK => ?_⟩
   replace hF := hF.cons (hB.val 14 _ 31 _ rfl rfl rfl rfl)
   replace hF := hF.cons (hB.val 12 _ 29 _ rfl rfl rfl rfl)
   exact fl_skip_u hF rfl rfl rfl rfl hK
  ·
   refine .inl ⟨rfl, _, _, rfl, rfl, fun s fa w' hΦ hF hB K hK => ?_⟩
   replace hF := hF.cons (hB.val 15 _ 32 _ rfl rfl rfl rfl)
   replace hF := hF.cons (hB.val 12 _ 29 _ rfl rfl rfl rfl)
   exact fl_skip_u hF rfl rfl rfl rfl hK
  ·
   refine .inl ⟨rfl, _, _, rfl, rfl, fun s fa w' hΦ hF hB K hK => ?_⟩
   replace hF := hF.cons (hB.val 12 _ 29 _ rfl rfl rfl rfl)
   replace hF := hF.cons (hB.val 16 _ 33 _ rfl rfl rfl rfl)
   replace hF := hF.cons (hB.val 8 _ 25 _ rfl rfl rfl rfl)
   exact fl_skip hF rfl rfl rfl rfl rfl hK
  ·
   refine .inl ⟨rfl, _, _, rfl, rfl, fun s fa w' hΦ hF hB K hK => ?_⟩
   replace hF := hF.cons (hB.val 8 _ 25 _ rfl rfl rfl rfl)
   replace hF := hF.cons (hB.val 17 _ 34 _ rfl rfl rfl rfl)
   exact fl_val rfl rfl rfl (ex_pick (hF.ev rfl) (u := undef) (fun h => by cases h) (fun _ => hF.ev rfl) rfl) hK
  ·
   refine .inl ⟨rfl, _, _, rfl, rfl, fun s fa w' hΦ hF hB K hK => ?_⟩
   replace hF := hF.cons (hB.val 18 _ 35 _ rfl rfl rfl rfl)
   exact fl_val rfl rfl rfl (ex_assign (hF.ev rfl)) hK
 intro fa w16 hΦ hF hC
 obtain ⟨Ao6_2_4, co6_2_5, hA, hS, E_w16, huo6_2_6⟩ := hΦ
 replace hF := hF.cons (hC 19 _ 2 _ rfl rfl rfl)
 clear hA hC
 refine x_tn ?_
 refine c_ret ?_
 refine end1 hF rfl (res_tmp hF rfl) ?_
 exact ⟨_, rfl, (congrArg Value.bool (by rw [validL_of (validL_all (fun j hj => hz j (by omega))), dec_len]; simp_all)), hS.below⟩

set_option maxHeartbeats 4000000 in
theorem ref01_Small_ok {w : World} {X : List Nat} (hX : ∀ m ∈ X, m < w.heap.size) {v_ng : Value} {ng : Bool} {l : List Nat} (h_ng : RawV w X v_ng (ng) (l)) (n : Int) :
    Calls Try.prog 22 #[v_ng, (.int .i64 n)] w (Ret fun r w' => (r = .bool (decide (((l.length : Nat) : Int) ≤ n) && validL ng l)) ∧ Below w.heap.size w w') := by
 refine enter (N := 14) (fn := Try.f22) (vs := [v_ng, (.int .i64 n)]) Try.func22 rfl rfl rfl ?_
 intro fa hF
 obtain ⟨_, rfl, A_l, c_l, rfl, hu_l⟩ := h_ng
 have hl_l := hu_l.len; have hc_l := hu_l.cap
 replace hF : Frm 14 fa [(0, (.agg #[(.bool (ng)), (.slice (A_l) (l.length) (c_l))])), (1, (.int .i64 (n)))] := hF
 have hS := St.refl w
 refine c_seq ?_
 refine c_reg ?_
 refine st rfl (op_box (X := X) hF hS rfl rfl rfl ?_)
 intro g1 w2 hg4 hS E3; refine gen_ ?_; clear hF fa; intro fa hF
 replace hS : St w w2 [(g1, 24, #[(.bool (ng)), (.slice (A_l) (l.length) (c_l))])] := hS
 refine st_val hF rfl rfl rfl (ex_assign (hF.ev rfl)) ?_
 clear hF fa; intro fa hF
 refine c_nil_then ?_
 refine c_seq ?_
 refine c_reg ?_
 refine st_val hF rfl rfl rfl (ex_field_addr TfN.off24_1 (hF.ev rfl)) ?_
 clear hF fa; intro fa hF
 refine st_val hF rfl rfl rfl (ex_load1b TfN.one22 (hF.ev rfl) (hS.get 0 rfl) rfl) ?_
 clear hF fa; intro fa hF
 refine st_val hF rfl rfl rfl (ex_len TfN.sls22 (hF.ev rfl)) ?_
 clear hF fa; intro fa hF
 refine st_val hF rfl rfl rfl (ex_move (hF.ev rfl)) ?_
 clear hF fa; intro fa hF
 refine st_val hF rfl rfl rfl (ex_leq (hF.ev rfl) (hF.ev rfl)) ?_
 clear hF fa; intro fa hF
 refine st_val hF rfl rfl rfl (ex_move (hF.ev rfl)) ?_
 clear hF fa; intro fa hF
 rcases Bool.eq_false_or_eq_true (decide (((l.length : Nat) : Int) ≤ n)) with hg5 | hg5
 ·
  replace hF := hF.cons (t := 10) (v := .bool true) ((hF.get 10 _ rfl).trans (congrArg Value.bool hg5))
  have hg5p : ((l.length : Nat) : Int) ≤ n := by simpa using hg5
  refine stg_val hF rfl rfl rfl rfl (ex_loadb TfN.row24 (hF.ev rfl) (hS.get 0 rfl) rfl) ?_
  clear hF fa; intro fa hF
  have hC := ref01_Valid_ok (w := w2) (X := (g1 :: X)) (ng := ng) (l := l) (hS.bnd hX) ⟨_, rfl, _, _, rfl, (hu_l.ext E3)⟩
  refine stg hF rfl rfl (op_call hF rfl TfN.body18 (args1 (hF.ev rfl)) hC ?_)
  clear hC
  rintro _ w6 ⟨rfl, hb7⟩
  refine gen_ ?_; clear hF fa; intro fa hF
  replace hS := hS.call hb7; have E8 := Ext.call (g1 :: X) hb7
  refine st_val hF rfl rfl rfl (ex_pick (hF.ev rfl) (fun _ => hF.ev rfl) (v := undef) (fun h => by cases h) rfl) ?_
  clear hF fa; intro fa hF
  refine st_val hF rfl rfl rfl (ex_assign (hF.ev rfl)) ?_
  clear hF fa; intro fa hF
  refine c_nil_then ?_
  refine c_ret ?_
  refine end1 hF rfl (res_tmp hF rfl) ?_
  exact ⟨_, rfl, (congrArg Value.bool (by simp_all)), hS.below⟩
 replace hF := hF.cons (t := 10) (v := .bool false) ((hF.get 10 _ rfl).trans (congrArg Value.bool hg5))
 have hg5p : ¬ (((l.length : Nat) : Int) ≤ n) := by simpa using hg5
 refine st_skip hF rfl rfl rfl rfl rfl ?_
 clear hF fa; intro fa hF
 refine st_skip hF rfl rfl rfl rfl rfl ?_
 clear hF fa; intro fa hF
 refine st_val hF rfl rfl rfl (ex_pick (hF.ev rfl) (u := undef) (fun h => by cases h) (fun _ => hF.ev rfl) rfl) ?_
 clear hF fa; intro fa hF
 refine st_val hF rfl rfl rfl (ex_assign (hF.ev rfl)) ?_
 clear hF fa; intro fa hF
 refine c_nil_then ?_
 refine c_ret ?_
 refine end1 hF rfl (res_tmp hF rfl) ?_
 exact ⟨_, rfl, (congrArg Value.bool (by rw [decide_eq_false (p := ((l.length : Nat) : Int) ≤ n) (by omega)]; rfl)), hS.below⟩

end Go.Proofs.Ytlaojdpcfenlkaa
