/-
  What the functions trim, trim, signed, compare, compare do, each call by call.
  Conditions: none.
-/
import Derived.Test.YtlaojdpcfenlkaaChecked
import Derived.Test.YtlaojdpcfenlkaaSwBaseK
namespace Go.Proofs.Ytlaojdpcfenlkaa
open Go Go.RowKit Go.Sw
set_option linter.unusedVariables false
namespace TfA
theorem body59 : hasBody Try.prog 59 = true := by kernel_rfl
theorem mixed : Try.prog.follows .mixedOrders = true := by kernel_rfl
theorem one46 : isOne Try.prog 46 = true := by kernel_rfl
theorem row24 : isRow Try.prog 24 2 = true := by kernel_rfl
theorem size24 : (Try.prog.info? 24).map (fun i => i.size) = some 2 := by kernel_rfl
theorem sl22 : sliceOf Try.prog 22 = some (46, 1) := by kernel_rfl
theorem sls22 : (sliceOf Try.prog 22).isSome = true := by kernel_rfl
theorem two24 : two1 Try.prog 24 = true := by kernel_rfl
theorem zero24 : zeroOf Try.prog 24 = some #[.bool false, .slice none 0 0] := by kernel_rfl
end TfA
set_option maxHeartbeats 4000000 in
theorem integer_trim_ok {w : World} {X : List Nat} (hX : ∀ m ∈ X, m < w.heap.size) {v_l : Value} {l : List Nat} (h_l : UL w X v_l (l)) :
    Calls Try.prog 59 #[v_l] w (Ret fun r w' => (UL w' X r (trimz l)) ∧ Below w.heap.size w w') := by
 refine enter (N := 21) (fn := Try.f59) (vs := [v_l]) Try.func59 rfl rfl rfl ?_
 intro fa hF
 obtain ⟨A_l, _, c_l, rfl, rfl, hu_l⟩ := h_l
 have hl_l := hu_l.len; have hc_l := hu_l.cap
 replace hF : Frm 21 fa [(0, (.slice (A_l) (l.length) (c_l)))] := hF
 have hS := St.refl w
 refine c_seq ?_
 refine c_reg ?_
 refine st_val hF rfl rfl rfl (ex_assign (hF.ev rfl)) ?_
 clear hF fa; intro fa hF
 refine c_nil_then ?_
 refine c_seq ?_
 refine c_block ?_
 refine c_loop (fun mu fa w' => ∃ k : Nat, Frm 21 fa [(2, (.slice (none) (0) (0))), (0, (.slice (A_l) (k) (c_l)))] ∧ w = w' ∧ (k ≤ l.length) ∧ (∀ j, k ≤ j → l.getD j 0 = 0) ∧ k = mu) ?_ ?_
 ·
  exact ⟨_, l.length, (hF.take (hF.take hF.nil (lk_slice rfl (by omega))) rfl), rfl, (by omega), (by intro j hj; simp [List.getD, hj]), rfl⟩
 clear hF fa; intro n0_ fa w' hI
 obtain ⟨k, hF, rfl, hk, hz, rfl⟩ := hI
 have hx := hu_l.take k
 have hxl : (l.take k).length = k := by simp; omega
 refine c_seq ?_
 refine c_seq ?_
 refine c_reg ?_
 refine st_val hF rfl rfl rfl (ex_move (hF.ev rfl)) ?_
 clear hF fa; intro fa hF
 refine st_val hF rfl rfl rfl (ex_len TfA.sls22 (hF.ev rfl)) ?_
 clear hF fa; intro fa hF
 refine st_val hF rfl rfl rfl (ex_gtr (hF.ev rfl) (hF.ev rfl)) ?_
 clear hF fa; intro fa hF
 refine st_val hF rfl rfl rfl (ex_move (hF.ev rfl)) ?_
 clear hF fa; intro fa hF
 rcases Bool.eq_false_or_eq_true (decide (((k : Nat) : Int) > 0)) with hg1 | hg1
 ·
  replace hF := hF.cons (t := 6) (v := .bool true) ((hF.get 6 _ rfl).trans (congrArg Value.bool hg1))
  have hg1p : ((k : Nat) : Int) > 0 := by simpa using hg1
  refine stg_val hF rfl rfl rfl rfl (ex_move (hF.ev rfl)) ?_
  clear hF fa; intro fa hF
  refine stg_val hF rfl rfl rfl rfl (ex_move (hF.ev rfl)) ?_
  clear hF fa; intro fa hF
  refine stg_val hF rfl rfl rfl rfl (ex_len TfA.sls22 (hF.ev rfl)) ?_
  clear hF fa; intro fa hF
  refine stg_val hF rfl rfl rfl rfl (ex_sub (hF.ev rfl) (hF.ev rfl) (wi64 (by omega) (by omega))) ?_
  clear hF fa; intro fa hF
  obtain ⟨ad2, hA3, hq4⟩ := hx.cl.at_ (us_get (l := l.take k) (i := k - 1) (by omega))
  refine stg_val hF rfl rfl rfl rfl (ex_idx (j := k - 1) TfA.sl22 (hF.ev rfl) hA3 (hF.ev rfl) (by omega) (by omega)) ?_
  clear hF fa; intro fa hF
  refine stg_val hF rfl rfl rfl rfl (ex_load1 TfA.one46 (hF.ev rfl) hq4) ?_
  clear hF fa; intro fa hF
  refine stg_val hF rfl rfl rfl rfl (ex_eql (hF.ev rfl) (hF.ev rfl)) ?_
  clear hF fa; intro fa hF
  refine st_val hF rfl rfl rfl (ex_pick (hF.ev rfl) (fun _ => hF.ev rfl) (v := undef) (fun h => by cases h) rfl) ?_
  clear hF fa; intro fa hF
  refine c_nil_then ?_
  refine c_cond hF rfl (fun hc5 => ?_) (fun hc5 => ?_)
  ·
   have hc5p : (((l.take k).getD (k - 1) 0 : Nat) : Int) = 0 := by first | simpa using hc5 | exact bang_t hc5 | exact bang_f hc5
   refine c_skip ?_
   refine x_tn ?_
   refine c_block ?_
   refine c_reg ?_
   refine st_val hF rfl rfl rfl (ex_move (hF.ev rfl)) ?_
   clear hF fa; intro fa hF
   refine st_val hF rfl rfl rfl (ex_move (hF.ev rfl)) ?_
   clear hF fa; intro fa hF
   refine st_val hF rfl rfl rfl (ex_len TfA.sls22 (hF.ev rfl)) ?_
   clear hF fa; intro fa hF
   refine st_val hF rfl rfl rfl (ex_sub (hF.ev rfl) (hF.ev rfl) (wi64 (by omega) (by omega))) ?_
   clear hF fa; intro fa hF
   have hl6 := hx.len
   have hu7 := hx.take (k - 1)
   refine st_val hF rfl rfl rfl (ex_slice_h (j := k - 1) TfA.sl22 (hF.ev rfl) (hF.ev rfl) (by omega) (by omega)) ?_
   clear hF fa; intro fa hF
   refine st_val hF rfl rfl rfl (ex_assign (hF.ev rfl)) ?_
   clear hF fa; intro fa hF
   replace hF : Frm 21 fa [(2, (.slice (none) (0) (0))), (0, (.slice (A_l) (k - 1) (c_l))), (14, (.bool (decide ((((l.take k).getD (k - 1) 0 : Nat) : Int) = 0))))] := (hF.take (hF.take (hF.take hF.nil rfl) rfl) rfl)
   refine c_nil ?_
   refine x_bn ?_
   refine x_tn ?_
   exact ⟨_, (by omega), (k - 1), (hF.take (hF.take hF.nil (lk_slice rfl (by omega))) rfl), rfl, (by omega), (zero_step hz (take_zero (by omega) (by omega))), rfl⟩
  have hc5p : ¬ ((((l.take k).getD (k - 1) 0 : Nat) : Int) = 0) := by first | simpa using hc5 | exact bang_t hc5 | exact bang_f hc5
  refine c_exit ?_
  refine x_te ?_
  refine x_te ?_
  refine x_bh ?_
  refine x_tn ?_
  refine c_seq ?_
  refine c_reg ?_
  refine st_val hF rfl rfl rfl (ex_move (hF.ev rfl)) ?_
  clear hF fa; intro fa hF
  refine st_val hF rfl rfl rfl (ex_assign (hF.ev rfl)) ?_
  clear hF fa; intro fa hF
  replace hF : Frm 21 fa [(2, (.slice (A_l) (k) (c_l))), (0, (.slice (A_l) (k) (c_l))), (14, (.bool (decide ((((l.take k).getD (k - 1) 0 : Nat) : Int) = 0))))] := (hF.take (hF.take (hF.take hF.nil rfl) rfl) rfl)
  refine c_nil_then ?_
  refine c_ret ?_
  have hlast : k = 0 ∨ l.getD (k - 1) 0 ≠ 0 := take_last hk (by omega)
  have ht := trimz_take l k hk hz hlast
  refine end1 hF rfl (res_tmp hF rfl) ?_
  exact ⟨_, rfl, (UL.fin (L := l.take k) ⟨_, _, _, rfl, (by simp; omega), hx⟩ (ht) (fun x hx => by simp [hx])), hS.below⟩
 replace hF := hF.cons (t := 6) (v := .bool false) ((hF.get 6 _ rfl).trans (congrArg Value.bool hg1))
 have hg1p : ¬ (((k : Nat) : Int) > 0) := by simpa using hg1
 refine st_skip hF rfl rfl rfl rfl rfl ?_
 clear hF fa; intro fa hF
 refine st_skip hF rfl rfl rfl rfl rfl ?_
 clear hF fa; intro fa hF
 refine st_skip hF rfl rfl rfl rfl rfl ?_
 clear hF fa; intro fa hF
 refine st_skip hF rfl rfl rfl rfl rfl ?_
 clear hF fa; intro fa hF
 refine st_skip hF rfl rfl rfl rfl rfl ?_
 clear hF fa; intro fa hF
 refine st_skip hF rfl rfl rfl rfl rfl ?_
 clear hF fa; intro fa hF
 refine st_skip hF rfl rfl rfl rfl rfl ?_
 clear hF fa; intro fa hF
 refine st_val hF rfl rfl rfl (ex_pick (hF.ev rfl) (u := undef) (fun h => by cases h) (fun _ => hF.ev rfl) rfl) ?_
 clear hF fa; intro fa hF
 refine c_nil_then ?_
 refine c_cond hF rfl (fun hc => ?_) (fun hc => ?_)
 ·
  cases hc
 refine c_exit ?_
 refine x_te ?_
 refine x_te ?_
 refine x_bh ?_
 refine x_tn ?_
 refine c_seq ?_
 refine c_reg ?_
 refine st_val hF rfl rfl rfl (ex_move (hF.ev rfl)) ?_
 clear hF fa; intro fa hF
 refine st_val hF rfl rfl rfl (ex_assign (hF.ev rfl)) ?_
 clear hF fa; intro fa hF
 replace hF : Frm 21 fa [(2, (.slice (A_l) (k) (c_l))), (0, (.slice (A_l) (k) (c_l))), (14, (.bool (false)))] := (hF.take (hF.take (hF.take hF.nil rfl) rfl) rfl)
 refine c_nil_then ?_
 refine c_ret ?_
 have hlast : k = 0 ∨ l.getD (k - 1) 0 ≠ 0 := take_last hk (by omega)
 have ht := trimz_take l k hk hz hlast
 refine end1 hF rfl (res_tmp hF rfl) ?_
 exact ⟨_, rfl, (UL.fin (L := l.take k) ⟨_, _, _, rfl, (by simp; omega), hx⟩ (ht) (fun x hx => by simp [hx])), hS.below⟩

set_option maxHeartbeats 4000000 in
theorem ref01_trim_ok {w : World} {X : List Nat} (hX : ∀ m ∈ X, m < w.heap.size) {v_l : Value} {l : List Nat} (h_l : UL w X v_l (l)) :
    Calls Try.prog 43 #[v_l] w (Ret fun r w' => (UL w' X r (trimz l)) ∧ Below w.heap.size w w') := by
 refine enter (N := 21) (fn := Try.f43) (vs := [v_l]) Try.func43 rfl rfl rfl ?_
 intro fa hF
 obtain ⟨A_l, _, c_l, rfl, rfl, hu_l⟩ := h_l
 have hl_l := hu_l.len; have hc_l := hu_l.cap
 replace hF : Frm 21 fa [(0, (.slice (A_l) (l.length) (c_l)))] := hF
 have hS := St.refl w
 refine c_seq ?_
 refine c_reg ?_
 refine st_val hF rfl rfl rfl (ex_assign (hF.ev rfl)) ?_
 clear hF fa; intro fa hF
 refine c_nil_then ?_
 refine c_seq ?_
 refine c_block ?_
 refine c_loop (fun mu fa w' => ∃ k : Nat, Frm 21 fa [(2, (.slice (none) (0) (0))), (0, (.slice (A_l) (k) (c_l)))] ∧ w = w' ∧ (k ≤ l.length) ∧ (∀ j, k ≤ j → l.getD j 0 = 0) ∧ k = mu) ?_ ?_
 ·
  exact ⟨_, l.length, (hF.take (hF.take hF.nil (lk_slice rfl (by omega))) rfl), rfl, (by omega), (by intro j hj; simp [List.getD, hj]), rfl⟩
 clear hF fa; intro n0_ fa w' hI
 obtain ⟨k, hF, rfl, hk, hz, rfl⟩ := hI
 have hx := hu_l.take k
 have hxl : (l.take k).length = k := by simp; omega
 refine c_seq ?_
 refine c_seq ?_
 refine c_reg ?_
 refine st_val hF rfl rfl rfl (ex_move (hF.ev rfl)) ?_
 clear hF fa; intro fa hF
 refine st_val hF rfl rfl rfl (ex_len TfA.sls22 (hF.ev rfl)) ?_
 clear hF fa; intro fa hF
 refine st_val hF rfl rfl rfl (ex_gtr (hF.ev rfl) (hF.ev rfl)) ?_
 clear hF fa; intro fa hF
 refine st_val hF rfl rfl rfl (ex_move (hF.ev rfl)) ?_
 clear hF fa; intro fa hF
 rcases Bool.eq_false_or_eq_true (decide (((k : Nat) : Int) > 0)) with hg1 | hg1
 ·
  replace hF := hF.cons (t := 6) (v := .bool true) ((hF.get 6 _ rfl).trans (congrArg Value.bool hg1))
  have hg1p : ((k : Nat) : Int) > 0 := by simpa using hg1
  refine stg_val hF rfl rfl rfl rfl (ex_move (hF.ev rfl)) ?_
  clear hF fa; intro fa hF
  refine stg_val hF rfl rfl rfl rfl (ex_move (hF.ev rfl)) ?_
  clear hF fa; intro fa hF
  refine stg_val hF rfl rfl rfl rfl (ex_len TfA.sls22 (hF.ev rfl)) ?_
  clear hF fa; intro fa hF
  refine stg_val hF rfl rfl rfl rfl (ex_sub (hF.ev rfl) (hF.ev rfl) (wi64 (by omega) (by omega))) ?_
  clear hF fa; intro fa hF
  obtain ⟨ad2, hA3, hq4⟩ := hx.cl.at_ (us_get (l := l.take k) (i := k - 1) (by omega))
  refine stg_val hF rfl rfl rfl rfl (ex_idx (j := k - 1) TfA.sl22 (hF.ev rfl) hA3 (hF.ev rfl) (by omega) (by omega)) ?_
  clear hF fa; intro fa hF
  refine stg_val hF rfl rfl rfl rfl (ex_load1 TfA.one46 (hF.ev rfl) hq4) ?_
  clear hF fa; intro fa hF
  refine stg_val hF rfl rfl rfl rfl (ex_eql (hF.ev rfl) (hF.ev rfl)) ?_
  clear hF fa; intro fa hF
  refine st_val hF rfl rfl rfl (ex_pick (hF.ev rfl) (fun _ => hF.ev rfl) (v := undef) (fun h => by cases h) rfl) ?_
  clear hF fa; intro fa hF
  refine c_nil_then ?_
  refine c_cond hF rfl (fun hc5 => ?_) (fun hc5 => ?_)
  ·
   have hc5p : (((l.take k).getD (k - 1) 0 : Nat) : Int) = 0 := by first | simpa using hc5 | exact bang_t hc5 | exact bang_f hc5
   refine c_skip ?_
   refine x_tn ?_
   refine c_block ?_
   refine c_reg ?_
   refine st_val hF rfl rfl rfl (ex_move (hF.ev rfl)) ?_
   clear hF fa; intro fa hF
   refine st_val hF rfl rfl rfl (ex_move (hF.ev rfl)) ?_
   clear hF fa; intro fa hF
   refine st_val hF rfl rfl rfl (ex_len TfA.sls22 (hF.ev rfl)) ?_
   clear hF fa; intro fa hF
   refine st_val hF rfl rfl rfl (ex_sub (hF.ev rfl) (hF.ev rfl) (wi64 (by omega) (by omega))) ?_
   clear hF fa; intro fa hF
   have hl6 := hx.len
   have hu7 := hx.take (k - 1)
   refine st_val hF rfl rfl rfl (ex_slice_h (j := k - 1) TfA.sl22 (hF.ev rfl) (hF.ev rfl) (by omega) (by omega)) ?_
   clear hF fa; intro fa hF
   refine st_val hF rfl rfl rfl (ex_assign (hF.ev rfl)) ?_
   clear hF fa; intro fa hF
   replace hF : Frm 21 fa [(2, (.slice (none) (0) (0))), (0, (.slice (A_l) (k - 1) (c_l))), (14, (.bool (decide ((((l.take k).getD (k - 1) 0 : Nat) : Int) = 0))))] := (hF.take (hF.take (hF.take hF.nil rfl) rfl) rfl)
   refine c_nil ?_
   refine x_bn ?_
   refine x_tn ?_
   exact ⟨_, (by omega), (k - 1), (hF.take (hF.take hF.nil (lk_slice rfl (by omega))) rfl), rfl, (by omega), (zero_step hz (take_zero (by omega) (by omega))), rfl⟩
  have hc5p : ¬ ((((l.take k).getD (k - 1) 0 : Nat) : Int) = 0) := by first | simpa using hc5 | exact bang_t hc5 | exact bang_f hc5
  refine c_exit ?_
  refine x_te ?_
  refine x_te ?_
  refine x_bh ?_
  refine x_tn ?_
  refine c_seq ?_
  refine c_reg ?_
  refine st_val hF rfl rfl rfl (ex_move (hF.ev rfl)) ?_
  clear hF fa; intro fa hF
  refine st_val hF rfl rfl rfl (ex_assign (hF.ev rfl)) ?_
  clear hF fa; intro fa hF
  replace hF : Frm 21 fa [(2, (.slice (A_l) (k) (c_l))), (0, (.slice (A_l) (k) (c_l))), (14, (.bool (decide ((((l.take k).getD (k - 1) 0 : Nat) : Int) = 0))))] := (hF.take (hF.take (hF.take hF.nil rfl) rfl) rfl)
  refine c_nil_then ?_
  refine c_ret ?_
  have hlast : k = 0 ∨ l.getD (k - 1) 0 ≠ 0 := take_last hk (by omega)
  have ht := trimz_take l k hk hz hlast
  refine end1 hF rfl (res_tmp hF rfl) ?_
  exact ⟨_, rfl, (UL.fin (L := l.take k) ⟨_, _, _, rfl, (by simp; omega), hx⟩ (ht) (fun x hx => by simp [hx])), hS.below⟩
 replace hF := hF.cons (t := 6) (v := .bool false) ((hF.get 6 _ rfl).trans (congrArg Value.bool hg1))
 have hg1p : ¬ (((k : Nat) : Int) > 0) := by simpa using hg1
 refine st_skip hF rfl rfl rfl rfl rfl ?_
 clear hF fa; intro fa hF
 refine st_skip hF rfl rfl rfl rfl rfl ?_
 clear hF fa; intro fa hF
 refine st_skip hF rfl rfl rfl rfl rfl ?_
 clear hF fa; intro fa hF
 refine st_skip hF rfl rfl rfl rfl rfl ?_
 clear hF fa; intro fa hF
 refine st_skip hF rfl rfl rfl rfl rfl ?_
 clear hF fa; intro fa hF
 refine st_skip hF rfl rfl rfl rfl rfl ?_
 clear hF fa; intro fa hF
 refine st_skip hF rfl rfl rfl rfl rfl ?_
 clear hF fa; intro fa hF
 refine st_val hF rfl rfl rfl (ex_pick (hF.ev rfl) (u := undef) (fun h => by cases h) (fun _ => hF.ev rfl) rfl) ?_
 clear hF fa; intro fa hF
 refine c_nil_then ?_
 refine c_cond hF rfl (fun hc => ?_) (fun hc => ?_)
 ·
  cases hc
 refine c_exit ?_
 refine x_te ?_
 refine x_te ?_
 refine x_bh ?_
 refine x_tn ?_
 refine c_seq ?_
 refine c_reg ?_
 refine st_val hF rfl rfl rfl (ex_move (hF.ev rfl)) ?_
 clear hF fa; intro fa hF
 refine st_val hF rfl rfl rfl (ex_assign (hF.ev rfl)) ?_
 clear hF fa; intro fa hF
 replace hF : Frm 21 fa [(2, (.slice (A_l) (k) (c_l))), (0, (.slice (A_l) (k) (c_l))), (14, (.bool (false)))] := (hF.take (hF.take (hF.take hF.nil rfl) rfl) rfl)
 refine c_nil_then ?_
 refine c_ret ?_
 have hlast : k = 0 ∨ l.getD (k - 1) 0 ≠ 0 := take_last hk (by omega)
 have ht := trimz_take l k hk hz hlast
 refine end1 hF rfl (res_tmp hF rfl) ?_
 exact ⟨_, rfl, (UL.fin (L := l.take k) ⟨_, _, _, rfl, (by simp; omega), hx⟩ (ht) (fun x hx => by simp [hx])), hS.below⟩

set_option maxHeartbeats 4000000 in
theorem integer_signed_ok {w : World} {X : List Nat} (hX : ∀ m ∈ X, m < w.heap.size) (neg : Bool) {v_l : Value} {l : List Nat} (h_l : UL w X v_l (l)) (hb : Lb l) :
    Calls Try.prog 41 #[(.bool neg), v_l] w (Ret fun r w' => (IntV w' X r (sgnv neg (val l))) ∧ Below w.heap.size w w') := by
 refine enter (N := 30) (fn := Try.f41) (vs := [(.bool neg), v_l]) Try.func41 rfl rfl rfl ?_
 intro fa hF
 obtain ⟨A_l, _, c_l, rfl, rfl, hu_l⟩ := h_l
 have hl_l := hu_l.len; have hc_l := hu_l.cap
 replace hF : Frm 30 fa [(0, (.bool (neg))), (1, (.slice (A_l) (l.length) (c_l)))] := hF
 have hS := St.refl w
 refine c_seq ?_
 refine c_reg ?_
 refine st rfl (op_alloc (X := X) hF hS rfl TfA.zero24 ?_)
 intro g1 w2 hg4 hS E3; refine gen_ ?_; clear hF fa; intro fa hF
 replace hS : St w w2 [(g1, 24, #[(.bool (false)), (.slice (none) (0) (0))])] := hS
 refine c_nil_then ?_
 refine c_seq ?_
 refine c_reg ?_
 refine st_val hF rfl rfl rfl (ex_move (hF.ev rfl)) ?_
 clear hF fa; intro fa hF
 refine st_val hF rfl rfl rfl (ex_len TfA.sls22 (hF.ev rfl)) ?_
 clear hF fa; intro fa hF
 refine st_val hF rfl rfl rfl (ex_assign (hF.ev rfl)) ?_
 clear hF fa; intro fa hF
 refine c_nil_then ?_
 refine c_seq ?_
 refine c_block ?_
 refine c_loop (fun mu fa w' => ∃ k : Nat, Frm 30 fa [(0, (.bool (neg))), (1, (.slice (A_l) (l.length) (c_l))), (4, (.pointer (some ⟨g1, 0, none⟩))), (5, (.int .i64 (((k : Nat) : Int))))] ∧ w2 = w' ∧ (k ≤ l.length) ∧ (∀ j, k ≤ j → l.getD j 0 = 0) ∧ k = mu) ?_ ?_
 ·
  exact ⟨_, l.length, (hF.take (hF.take (hF.take (hF.take hF.nil (lk_int rfl (by omega))) rfl) rfl) rfl), rfl, (by omega), (by intro j hj; simp [List.getD, hj]), rfl⟩
 clear hF fa; intro n0_ fa w' hI
 obtain ⟨k, hF, rfl, hk, hz, rfl⟩ := hI
 refine c_seq ?_
 refine c_seq ?_
 refine c_reg ?_
 refine st_val hF rfl rfl rfl (ex_move (hF.ev rfl)) ?_
 clear hF fa; intro fa hF
 refine st_val hF rfl rfl rfl (ex_gtr (hF.ev rfl) (hF.ev rfl)) ?_
 clear hF fa; intro fa hF
 refine st_val hF rfl rfl rfl (ex_move (hF.ev rfl)) ?_
 clear hF fa; intro fa hF
 rcases Bool.eq_false_or_eq_true (decide (((k : Nat) : Int) > 0)) with hg5 | hg5
 ·
  replace hF := hF.cons (t := 10) (v := .bool true) ((hF.get 10 _ rfl).trans (congrArg Value.bool hg5))
  have hg5p : ((k : Nat) : Int) > 0 := by simpa using hg5
  refine stg_val hF rfl rfl rfl rfl (ex_move (hF.ev rfl)) ?_
  clear hF fa; intro fa hF
  refine stg_val hF rfl rfl rfl rfl (ex_move (hF.ev rfl)) ?_
  clear hF fa; intro fa hF
  refine stg_val hF rfl rfl rfl rfl (ex_sub (hF.ev rfl) (hF.ev rfl) (wi64 (by omega) (by omega))) ?_
  clear hF fa; intro fa hF
  obtain ⟨ad6, hA7, hq8⟩ := (hu_l.ext E3).cl.at_ (us_get (l := l) (i := k - 1) (by omega))
  refine stg_val hF rfl rfl rfl rfl (ex_idx (j := k - 1) TfA.sl22 (hF.ev rfl) hA7 (hF.ev rfl) (by omega) (by omega)) ?_
  clear hF fa; intro fa hF
  refine stg_val hF rfl rfl rfl rfl (ex_load1 TfA.one46 (hF.ev rfl) hq8) ?_
  clear hF fa; intro fa hF
  refine stg_val hF rfl rfl rfl rfl (ex_eql (hF.ev rfl) (hF.ev rfl)) ?_
  clear hF fa; intro fa hF
  refine st_val hF rfl rfl rfl (ex_pick (hF.ev rfl) (fun _ => hF.ev rfl) (v := undef) (fun h => by cases h) rfl) ?_
  clear hF fa; intro fa hF
  refine c_nil_then ?_
  refine c_cond hF rfl (fun hc9 => ?_) (fun hc9 => ?_)
  ·
   have hc9p : ((l.getD (k - 1) 0 : Nat) : Int) = 0 := by first | simpa using hc9 | exact bang_t hc9 | exact bang_f hc9
   refine c_skip ?_
   refine x_tn ?_
   refine c_block ?_
   refine c_reg ?_
   refine st_val hF rfl rfl rfl (ex_move (hF.ev rfl)) ?_
   clear hF fa; intro fa hF
   refine st_val hF rfl rfl rfl (ex_sub (hF.ev rfl) (hF.ev rfl) (wi64 (by omega) (by omega))) ?_
   clear hF fa; intro fa hF
   refine st_val hF rfl rfl rfl (ex_assign (hF.ev rfl)) ?_
   clear hF fa; intro fa hF
   replace hF : Frm 30 fa [(0, (.bool (neg))), (1, (.slice (A_l) (l.length) (c_l))), (4, (.pointer (some ⟨g1, 0, none⟩))), (5, (.int .i64 (((k : Nat) : Int) - 1))), (17, (.bool (decide (((l.getD (k - 1) 0 : Nat) : Int) = 0))))] := (hF.take (hF.take (hF.take (hF.take (hF.take hF.nil rfl) rfl) rfl) rfl) rfl)
   refine c_nil ?_
   refine x_bn ?_
   refine x_tn ?_
   exact ⟨_, (by omega), (k - 1), (hF.take (hF.take (hF.take (hF.take hF.nil (lk_int rfl (by omega))) rfl) rfl) rfl), rfl, (by omega), (zero_step hz (by omega)), rfl⟩
  have hc9p : ¬ (((l.getD (k - 1) 0 : Nat) : Int) = 0) := by first | simpa using hc9 | exact bang_t hc9 | exact bang_f hc9
  refine c_exit ?_
  refine x_te ?_
  refine x_te ?_
  refine x_bh ?_
  refine x_tn ?_
  refine c_seq ?_
  refine c_reg ?_
  refine st_val hF rfl rfl rfl (ex_move (hF.ev rfl)) ?_
  clear hF fa; intro fa hF
  refine st_val hF rfl rfl rfl (ex_move (hF.ev rfl)) ?_
  clear hF fa; intro fa hF
  rcases Bool.eq_false_or_eq_true (neg) with hg10 | hg10
  ·
   replace hF := hF.cons (t := 21) (v := .bool true) ((hF.get 21 _ rfl).trans (congrArg Value.bool hg10))
   have hg10p : (neg) = true := by simpa using hg10
   refine stg_val hF rfl rfl rfl rfl (ex_move (hF.ev rfl)) ?_
   clear hF fa; intro fa hF
   refine stg_val hF rfl rfl rfl rfl (ex_gtr (hF.ev rfl) (hF.ev rfl)) ?_
   clear hF fa; intro fa hF
   refine st_val hF rfl rfl rfl (ex_pick (hF.ev rfl) (fun _ => hF.ev rfl) (v := undef) (fun h => by cases h) rfl) ?_
   clear hF fa; intro fa hF
   refine st_val hF rfl rfl rfl (ex_move (hF.ev rfl)) ?_
   clear hF fa; intro fa hF
   refine st_val hF rfl rfl rfl (ex_move (hF.ev rfl)) ?_
   clear hF fa; intro fa hF
   refine st_val hF rfl rfl rfl (ex_move (hF.ev rfl)) ?_
   clear hF fa; intro fa hF
   have hl11 := (hu_l.ext E3).len
   have hu12 := (hu_l.ext E3).take_cap (n := k) (m := k) (by omega) (by omega)
   refine st_val hF rfl rfl rfl (ex_slice_hm (j := k) (m := k) TfA.sl22 (hF.ev rfl) (hF.ev rfl) (hF.ev rfl) (by omega) (by omega) (by omega) (by omega)) ?_
   clear hF fa; intro fa hF
   refine st_val hF rfl rfl rfl (ex_build2 TfA.two24 (hF.ev rfl) (hF.ev rfl) rfl rfl) ?_
   clear hF fa; intro fa hF
   refine st rfl (op_store (X := (g1 :: X)) hF hS 0 rfl (by simp) rfl rfl rfl TfA.size24 rfl (Nat.le_of_ble_eq_true rfl) ?_)
   intro w13 hS E14
   replace hS : St w w13 [(g1, 24, #[(.bool (decide (((k : Nat) : Int) > 0))), (.slice (A_l) (k) (k))])] := hS
   replace hF : Frm 30 fa [(0, (.bool (neg))), (1, (.slice (A_l) (l.length) (c_l))), (4, (.pointer (some ⟨g1, 0, none⟩))), (5, (.int .i64 (((k : Nat) : Int)))), (17, (.bool (decide (((l.getD (k - 1) 0 : Nat) : Int) = 0))))] := (hF.take (hF.take (hF.take (hF.take (hF.take hF.nil rfl) rfl) rfl) rfl) rfl)
   refine c_nil_then ?_
   refine c_ret ?_
   have hlast : k = 0 ∨ l.getD (k - 1) 0 ≠ 0 := by omega
   have ht := trimz_take l k hk hz hlast
   have he := trimz_empty ht hk
   have hl := lim_val l hb
   have hv : (0 < val l) = (k > 0) := trimz_pos ht hk
   refine end1 hF rfl (res_cell hF rfl TfA.row24 (hS.get 0 rfl) rfl) ?_
   exact ⟨_, rfl, (RawV.fin (L := l.take (k)) ⟨_, _, _, rfl, (by simp; omega), (hu12.ext E14)⟩ (by rw [neg_sgnv]; simp_all) (by rw [ht, natAbs_sgnv, hl]) (fun x hx => by simp [hx])), hS.below⟩
  replace hF := hF.cons (t := 21) (v := .bool false) ((hF.get 21 _ rfl).trans (congrArg Value.bool hg10))
  have hg10p : ¬ ((neg) = true) := by simpa using hg10
  refine st_skip hF rfl rfl rfl rfl rfl ?_
  clear hF fa; intro fa hF
  refine st_skip hF rfl rfl rfl rfl rfl ?_
  clear hF fa; intro fa hF
  refine st_val hF rfl rfl rfl (ex_pick (hF.ev rfl) (u := undef) (fun h => by cases h) (fun _ => hF.ev rfl) rfl) ?_
  clear hF fa; intro fa hF
  refine st_val hF rfl rfl rfl (ex_move (hF.ev rfl)) ?_
  clear hF fa; intro fa hF
  refine st_val hF rfl rfl rfl (ex_move (hF.ev rfl)) ?_
  clear hF fa; intro fa hF
  refine st_val hF rfl rfl rfl (ex_move (hF.ev rfl)) ?_
  clear hF fa; intro fa hF
  have hl15 := (hu_l.ext E3).len
  have hu16 := (hu_l.ext E3).take_cap (n := k) (m := k) (by omega) (by omega)
  refine st_val hF rfl rfl rfl (ex_slice_hm (j := k) (m := k) TfA.sl22 (hF.ev rfl) (hF.ev rfl) (hF.ev rfl) (by omega) (by omega) (by omega) (by omega)) ?_
  clear hF fa; intro fa hF
  refine st_val hF rfl rfl rfl (ex_build2 TfA.two24 (hF.ev rfl) (hF.ev rfl) rfl rfl) ?_
  clear hF fa; intro fa hF
  refine st rfl (op_store (X := (g1 :: X)) hF hS 0 rfl (by simp) rfl rfl rfl TfA.size24 rfl (Nat.le_of_ble_eq_true rfl) ?_)
  intro w17 hS E18
  replace hS : St w w17 [(g1, 24, #[(.bool (false)), (.slice (A_l) (k) (k))])] := hS
  replace hF : Frm 30 fa [(0, (.bool (neg))), (1, (.slice (A_l) (l.length) (c_l))), (4, (.pointer (some ⟨g1, 0, none⟩))), (5, (.int .i64 (((k : Nat) : Int)))), (17, (.bool (decide (((l.getD (k - 1) 0 : Nat) : Int) = 0))))] := (hF.take (hF.take (hF.take (hF.take (hF.take hF.nil rfl) rfl) rfl) rfl) rfl)
  refine c_nil_then ?_
  refine c_ret ?_
  have hlast : k = 0 ∨ l.getD (k - 1) 0 ≠ 0 := by omega
  have ht := trimz_take l k hk hz hlast
  have he := trimz_empty ht hk
  have hl := lim_val l hb
  have hv : (0 < val l) = (k > 0) := trimz_pos ht hk
  refine end1 hF rfl (res_cell hF rfl TfA.row24 (hS.get 0 rfl) rfl) ?_
  exact ⟨_, rfl, (RawV.fin (L := l.take (k)) ⟨_, _, _, rfl, (by simp; omega), (hu16.ext E18)⟩ (by rw [neg_sgnv]; simp_all) (by rw [ht, natAbs_sgnv, hl]) (fun x hx => by simp [hx])), hS.below⟩
 replace hF := hF.cons (t := 10) (v := .bool false) ((hF.get 10 _ rfl).trans (congrArg Value.bool hg5))
 have hg5p : ¬ (((k : Nat) : Int) > 0) := by simpa using hg5
 refine st_skip hF rfl rfl rfl rfl rfl ?_
 clear hF fa; intro fa hF
 refine st_skip hF rfl rfl rfl rfl rfl ?_
 clear hF fa; intro fa hF
 refine st_skip hF rfl rfl rfl rfl rfl ?_
 clear hF fa; intro fa hF
 refine st_skip hF rfl rfl rfl rfl rfl ?_
 clear hF fa; intro fa hF
 refine st_skip hF rfl rfl rfl rfl rfl ?_
 clear hF fa; intro fa hF
 refine st_skip hF rfl rfl rfl rfl rfl ?_
 clear hF fa; intro fa hF
 refine st_val hF rfl rfl rfl (ex_pick (hF.ev rfl) (u := undef) (fun h => by cases h) (fun _ => hF.ev rfl) rfl) ?_
 clear hF fa; intro fa hF
 refine c_nil_then ?_
 refine c_cond hF rfl (fun hc => ?_) (fun hc => ?_)
 ·
  cases hc
 refine c_exit ?_
 refine x_te ?_
 refine x_te ?_
 refine x_bh ?_
 refine x_tn ?_
 refine c_seq ?_
 refine c_reg ?_
 refine st_val hF rfl rfl rfl (ex_move (hF.ev rfl)) ?_
 clear hF fa; intro fa hF
 refine st_val hF rfl rfl rfl (ex_move (hF.ev rfl)) ?_
 clear hF fa; intro fa hF
 rcases Bool.eq_false_or_eq_true (neg) with hg19 | hg19
 ·
  replace hF := hF.cons (t := 21) (v := .bool true) ((hF.get 21 _ rfl).trans (congrArg Value.bool hg19))
  have hg19p : (neg) = true := by simpa using hg19
  refine stg_val hF rfl rfl rfl rfl (ex_move (hF.ev rfl)) ?_
  clear hF fa; intro fa hF
  refine stg_val hF rfl rfl rfl rfl (ex_gtr (hF.ev rfl) (hF.ev rfl)) ?_
  clear hF fa; intro fa hF
  refine st_val hF rfl rfl rfl (ex_pick (hF.ev rfl) (fun _ => hF.ev rfl) (v := undef) (fun h => by cases h) rfl) ?_
  clear hF fa; intro fa hF
  refine st_val hF rfl rfl rfl (ex_move (hF.ev rfl)) ?_
  clear hF fa; intro fa hF
  refine st_val hF rfl rfl rfl (ex_move (hF.ev rfl)) ?_
  clear hF fa; intro fa hF
  refine st_val hF rfl rfl rfl (ex_move (hF.ev rfl)) ?_
  clear hF fa; intro fa hF
  have hl20 := (hu_l.ext E3).len
  have hu21 := (hu_l.ext E3).take_cap (n := k) (m := k) (by omega) (by omega)
  refine st_val hF rfl rfl rfl (ex_slice_hm (j := k) (m := k) TfA.sl22 (hF.ev rfl) (hF.ev rfl) (hF.ev rfl) (by omega) (by omega) (by omega) (by omega)) ?_
  clear hF fa; intro fa hF
  refine st_val hF rfl rfl rfl (ex_build2 TfA.two24 (hF.ev rfl) (hF.ev rfl) rfl rfl) ?_
  clear hF fa; intro fa hF
  refine st rfl (op_store (X := (g1 :: X)) hF hS 0 rfl (by simp) rfl rfl rfl TfA.size24 rfl (Nat.le_of_ble_eq_true rfl) ?_)
  intro w22 hS E23
  replace hS : St w w22 [(g1, 24, #[(.bool (decide (((k : Nat) : Int) > 0))), (.slice (A_l) (k) (k))])] := hS
  replace hF : Frm 30 fa [(0, (.bool (neg))), (1, (.slice (A_l) (l.length) (c_l))), (4, (.pointer (some ⟨g1, 0, none⟩))), (5, (.int .i64 (((k : Nat) : Int)))), (17, (.bool (false)))] := (hF.take (hF.take (hF.take (hF.take (hF.take hF.nil rfl) rfl) rfl) rfl) rfl)
  refine c_nil_then ?_
  refine c_ret ?_
  have hlast : k = 0 ∨ l.getD (k - 1) 0 ≠ 0 := by omega
  have ht := trimz_take l k hk hz hlast
  have he := trimz_empty ht hk
  have hl := lim_val l hb
  have hv : (0 < val l) = (k > 0) := trimz_pos ht hk
  refine end1 hF rfl (res_cell hF rfl TfA.row24 (hS.get 0 rfl) rfl) ?_
  exact ⟨_, rfl, (RawV.fin (L := l.take (k)) ⟨_, _, _, rfl, (by simp; omega), (hu21.ext E23)⟩ (by rw [neg_sgnv]; simp_all) (by rw [ht, natAbs_sgnv, hl]) (fun x hx => by simp [hx])), hS.below⟩
 replace hF := hF.cons (t := 21) (v := .bool false) ((hF.get 21 _ rfl).trans (congrArg Value.bool hg19))
 have hg19p : ¬ ((neg) = true) := by simpa using hg19
 refine st_skip hF rfl rfl rfl rfl rfl ?_
 clear hF fa; intro fa hF
 refine st_skip hF rfl rfl rfl rfl rfl ?_
 clear hF fa; intro fa hF
 refine st_val hF rfl rfl rfl (ex_pick (hF.ev rfl) (u := undef) (fun h => by cases h) (fun _ => hF.ev rfl) rfl) ?_
 clear hF fa; intro fa hF
 refine st_val hF rfl rfl rfl (ex_move (hF.ev rfl)) ?_
 clear hF fa; intro fa hF
 refine st_val hF rfl rfl rfl (ex_move (hF.ev rfl)) ?_
 clear hF fa; intro fa hF
 refine st_val hF rfl rfl rfl (ex_move (hF.ev rfl)) ?_
 clear hF fa; intro fa hF
 have hl24 := (hu_l.ext E3).len
 have hu25 := (hu_l.ext E3).take_cap (n := k) (m := k) (by omega) (by omega)
 refine st_val hF rfl rfl rfl (ex_slice_hm (j := k) (m := k) TfA.sl22 (hF.ev rfl) (hF.ev rfl) (hF.ev rfl) (by omega) (by omega) (by omega) (by omega)) ?_
 clear hF fa; intro fa hF
 refine st_val hF rfl rfl rfl (ex_build2 TfA.two24 (hF.ev rfl) (hF.ev rfl) rfl rfl) ?_
 clear hF fa; intro fa hF
 refine st rfl (op_store (X := (g1 :: X)) hF hS 0 rfl (by simp) rfl rfl rfl TfA.size24 rfl (Nat.le_of_ble_eq_true rfl) ?_)
 intro w26 hS E27
 replace hS : St w w26 [(g1, 24, #[(.bool (false)), (.slice (A_l) (k) (k))])] := hS
 replace hF : Frm 30 fa [(0, (.bool (neg))), (1, (.slice (A_l) (l.length) (c_l))), (4, (.pointer (some ⟨g1, 0, none⟩))), (5, (.int .i64 (((k : Nat) : Int)))), (17, (.bool (false)))] := (hF.take (hF.take (hF.take (hF.take (hF.take hF.nil rfl) rfl) rfl) rfl) rfl)
 refine c_nil_then ?_
 refine c_ret ?_
 have hlast : k = 0 ∨ l.getD (k - 1) 0 ≠ 0 := by omega
 have ht := trimz_take l k hk hz hlast
 have he := trimz_empty ht hk
 have hl := lim_val l hb
 have hv : (0 < val l) = (k > 0) := trimz_pos ht hk
 refine end1 hF rfl (res_cell hF rfl TfA.row24 (hS.get 0 rfl) rfl) ?_
 exact ⟨_, rfl, (RawV.fin (L := l.take (k)) ⟨_, _, _, rfl, (by simp; omega), (hu25.ext E27)⟩ (by rw [neg_sgnv]; simp_all) (by rw [ht, natAbs_sgnv, hl]) (fun x hx => by simp [hx])), hS.below⟩

set_option maxHeartbeats 4000000 in
theorem integer_compare_ok {w : World} {X : List Nat} (hX : ∀ m ∈ X, m < w.heap.size) {v_a : Value} {a : List Nat} (h_a : UL w X v_a (a)) {v_b : Value} {b : List Nat} (h_b : UL w X v_b (b)) (ha : Lb a) (hb : Lb b) :
    Calls Try.prog 56 #[v_a, v_b] w (Ret fun r w' => (r = .int .i64 (cmpN (val a) (val b))) ∧ Below w.heap.size w w') := by
 refine enter (N := 45) (fn := Try.f56) (vs := [v_a, v_b]) Try.func56 rfl rfl rfl ?_
 intro fa hF
 obtain ⟨A_a, _, c_a, rfl, rfl, hu_a⟩ := h_a
 have hl_a := hu_a.len; have hc_a := hu_a.cap
 obtain ⟨A_b, _, c_b, rfl, rfl, hu_b⟩ := h_b
 have hl_b := hu_b.len; have hc_b := hu_b.cap
 replace hF : Frm 45 fa [(0, (.slice (A_a) (a.length) (c_a))), (1, (.slice (A_b) (b.length) (c_b)))] := hF
 have hS := St.refl w
 have hca := can_trimz ha; have hcb := can_trimz hb
 have hva := val_trimz a; have hvb := val_trimz b
 have hla := trimz_length_le a; have hlb := trimz_length_le b
 refine c_seq ?_
 refine c_reg ?_
 refine st_val hF rfl rfl rfl (ex_assign (hF.ev rfl)) ?_
 clear hF fa; intro fa hF
 refine c_nil_then ?_
 refine c_seq ?_
 refine c_reg ?_
 refine st_val hF rfl rfl rfl (ex_move (hF.ev rfl)) ?_
 clear hF fa; intro fa hF
 have hC := integer_trim_ok (w := w) (X := X) (l := a) (hS.bnd hX) ⟨_, (a.length), _, rfl, (rfl), hu_a⟩
 refine st rfl (op_call hF rfl TfA.body59 (args1 (hF.ev rfl)) hC ?_)
 clear hC
 rintro _ w1 ⟨⟨A4, _, c5, rfl, rfl, hu6⟩, hb2⟩
 refine gen_ ?_; clear hF fa; intro fa hF
 replace hS := hS.call hb2; have E3 := Ext.call X hb2
 refine st_val hF rfl rfl rfl (ex_move (hF.ev rfl)) ?_
 clear hF fa; intro fa hF
 have hC := integer_trim_ok (w := w1) (X := X) (l := b) (hS.bnd hX) ⟨_, (b.length), _, rfl, (rfl), (hu_b.ext E3)⟩
 refine st rfl (op_call hF rfl TfA.body59 (args1 (hF.ev rfl)) hC ?_)
 clear hC
 rintro _ w7 ⟨⟨A10, _, c11, rfl, rfl, hu12⟩, hb8⟩
 refine gen_ ?_; clear hF fa; intro fa hF
 replace hS := hS.call hb8; have E9 := Ext.call X hb8
 refine st_val hF rfl rfl rfl (ex_assign (hF.ev rfl)) ?_
 clear hF fa; intro fa hF
 refine st_val hF rfl rfl rfl (ex_assign (hF.ev rfl)) ?_
 clear hF fa; intro fa hF
 refine c_nil_then ?_
 refine c_seq ?_
 refine c_seq ?_
 refine c_reg ?_
 refine st_val hF rfl rfl rfl (ex_move (hF.ev rfl)) ?_
 clear hF fa; intro fa hF
 refine st_val hF rfl rfl rfl (ex_len TfA.sls22 (hF.ev rfl)) ?_
 clear hF fa; intro fa hF
 refine st_val hF rfl rfl rfl (ex_move (hF.ev rfl)) ?_
 clear hF fa; intro fa hF
 refine st_val hF rfl rfl rfl (ex_len TfA.sls22 (hF.ev rfl)) ?_
 clear hF fa; intro fa hF
 refine st_val hF rfl rfl rfl (ex_neq (hF.ev rfl) (hF.ev rfl)) ?_
 clear hF fa; intro fa hF
 refine c_nil_then ?_
 refine c_cond hF rfl (fun hc13 => ?_) (fun hc13 => ?_)
 ·
  have hc13p : ¬ ((((trimz a).length : Nat) : Int) = (((trimz b).length : Nat) : Int)) := by first | simpa using hc13 | exact bang_t hc13 | exact bang_f hc13
  refine c_seq ?_
  refine c_seq ?_
  refine c_reg ?_
  refine st_val hF rfl rfl rfl (ex_move (hF.ev rfl)) ?_
  clear hF fa; intro fa hF
  refine st_val hF rfl rfl rfl (ex_len TfA.sls22 (hF.ev rfl)) ?_
  clear hF fa; intro fa hF
  refine st_val hF rfl rfl rfl (ex_move (hF.ev rfl)) ?_
  clear hF fa; intro fa hF
  refine st_val hF rfl rfl rfl (ex_len TfA.sls22 (hF.ev rfl)) ?_
  clear hF fa; intro fa hF
  refine st_val hF rfl rfl rfl (ex_lss (hF.ev rfl) (hF.ev rfl)) ?_
  clear hF fa; intro fa hF
  replace hF : Frm 45 fa [(0, (.slice (A4) ((trimz a).length) (c5))), (1, (.slice (A10) ((trimz b).length) (c11))), (4, (.int .i64 (0))), (14, (.bool (!decide ((((trimz a).length : Nat) : Int) = (((trimz b).length : Nat) : Int))))), (19, (.bool (decide ((((trimz a).length : Nat) : Int) < (((trimz b).length : Nat) : Int)))))] := (hF.take (hF.take (hF.take (hF.take (hF.take hF.nil rfl) rfl) rfl) rfl) rfl)
  refine c_nil_then ?_
  refine c_cond hF rfl (fun hc14 => ?_) (fun hc14 => ?_)
  ·
   have hc14p : (((trimz a).length : Nat) : Int) < (((trimz b).length : Nat) : Int) := by first | simpa using hc14 | exact bang_t hc14 | exact bang_f hc14
   refine c_seq ?_
   refine c_reg ?_
   refine st_val hF rfl rfl rfl (ex_assign (hF.ev rfl)) ?_
   clear hF fa; intro fa hF
   refine c_nil_then ?_
   refine c_ret ?_
   refine x_tr ?_
   refine x_tr ?_
   refine end1 hF rfl (res_tmp hF rfl) ?_
   exact ⟨_, rfl, (congrArg (Value.int .i64) (by rw [← hva, ← hvb]; exact (cmpN_lt (val_lt_of_length hca hcb (by omega))).symm)), hS.below⟩
  have hc14p : ¬ ((((trimz a).length : Nat) : Int) < (((trimz b).length : Nat) : Int)) := by first | simpa using hc14 | exact bang_t hc14 | exact bang_f hc14
  refine c_skip ?_
  refine x_tn ?_
  refine c_seq ?_
  refine c_reg ?_
  refine st_val hF rfl rfl rfl (ex_assign (hF.ev rfl)) ?_
  clear hF fa; intro fa hF
  refine c_nil_then ?_
  refine c_ret ?_
  refine x_tr ?_
  refine end1 hF rfl (res_tmp hF rfl) ?_
  exact ⟨_, rfl, (congrArg (Value.int .i64) (by rw [← hva, ← hvb]; exact (cmpN_gt (val_lt_of_length hcb hca (by omega))).symm)), hS.below⟩
 have hc13p : ¬ (¬ ((((trimz a).length : Nat) : Int) = (((trimz b).length : Nat) : Int))) := by first | simpa using hc13 | exact bang_t hc13 | exact bang_f hc13
 refine c_skip ?_
 refine x_tn ?_
 refine c_seq ?_
 refine c_seq ?_
 refine c_reg ?_
 refine st_val hF rfl rfl rfl (ex_move (hF.ev rfl)) ?_
 clear hF fa; intro fa hF
 refine st_val hF rfl rfl rfl (ex_len TfA.sls22 (hF.ev rfl)) ?_
 clear hF fa; intro fa hF
 refine st_val hF rfl rfl rfl (ex_sub (hF.ev rfl) (hF.ev rfl) (wi64 (by omega) (by omega))) ?_
 clear hF fa; intro fa hF
 refine st_val hF rfl rfl rfl (ex_assign (hF.ev rfl)) ?_
 clear hF fa; intro fa hF
 refine c_nil_then ?_
 refine c_block ?_
 refine c_loop (fun mu fa w' => ∃ k : Nat, Frm 45 fa [(0, (.slice (A4) ((trimz a).length) (c5))), (1, (.slice (A10) ((trimz b).length) (c11))), (14, (.bool (!decide ((((trimz a).length : Nat) : Int) = (((trimz b).length : Nat) : Int))))), (5, (.int .i64 (((k : Nat) : Int) - 1)))] ∧ St w w' [] ∧ Ext w7 X w' X ∧ (k ≤ (trimz a).length) ∧ (∀ j, k ≤ j → (trimz a).getD j 0 = (trimz b).getD j 0) ∧ k = mu) ?_ ?_
 ·
  exact ⟨_, (trimz a).length, (hF.take (hF.take (hF.take (hF.take hF.nil (lk_int rfl (by omega))) rfl) rfl) rfl), hS, Ext.refl _ _, (by omega), (by intro j hj; simp only [List.getD]; rw [List.getElem?_eq_none hj, List.getElem?_eq_none (by omega)]), rfl⟩
 clear hF fa; intro n0_ fa w' hI
 clear hS
 obtain ⟨k, hF, hS, E16, hk, hz, rfl⟩ := hI
 rename World => w15
 refine c_seq ?_
 refine c_seq ?_
 refine c_reg ?_
 refine st_val hF rfl rfl rfl (ex_move (hF.ev rfl)) ?_
 clear hF fa; intro fa hF
 refine st_val hF rfl rfl rfl (ex_geq (hF.ev rfl) (hF.ev rfl)) ?_
 clear hF fa; intro fa hF
 replace hF : Frm 45 fa [(0, (.slice (A4) ((trimz a).length) (c5))), (1, (.slice (A10) ((trimz b).length) (c11))), (14, (.bool (!decide ((((trimz a).length : Nat) : Int) = (((trimz b).length : Nat) : Int))))), (5, (.int .i64 (((k : Nat) : Int) - 1))), (24, (.bool (decide ((((k : Nat) : Int) - 1) ≥ 0))))] := (hF.take (hF.take (hF.take (hF.take (hF.take hF.nil rfl) rfl) rfl) rfl) rfl)
 refine c_nil_then ?_
 refine c_cond hF rfl (fun hc17 => ?_) (fun hc17 => ?_)
 ·
  have hc17p : (((k : Nat) : Int) - 1) ≥ 0 := by first | simpa using hc17 | exact bang_t hc17 | exact bang_f hc17
  refine c_skip ?_
  refine x_tn ?_
  refine c_seq ?_
  refine c_block ?_
  refine c_seq ?_
  refine c_seq ?_
  obtain ⟨ad_29, hA_29, hq_29⟩ := (hu6.ext (E9.trans E16)).cl.at2 (us_get (l := (trimz a)) (i := k - 1) (by omega))
  obtain ⟨ad_33, hA_33, hq_33⟩ := (hu12.ext E16).cl.at2 (us_get (l := (trimz b)) (i := k - 1) (by omega))
  refine drawn2 (N := 45) (L0 := [(0, (.slice (A4) ((trimz a).length) (c5))), (1, (.slice (A10) ((trimz b).length) (c11))), (14, (.bool (!decide ((((trimz a).length : Nat) : Int) = (((trimz b).length : Nat) : Int))))), (5, (.int .i64 (((k : Nat) : Int) - 1))), (24, (.bool (decide ((((k : Nat) : Int) - 1) ≥ 0))))]) [some (.slice (A4) ((trimz a).length) (c5)), some (.int .i64 (((k : Nat) : Int) - 1)), some (.pointer (some (ad_29.add (k - 1)))), some (.int .u32 ((((trimz a).getD (k - 1) 0 : Nat) : Int))), some (.slice (A10) ((trimz b).length) (c11)), some (.int .i64 (((k : Nat) : Int) - 1)), some (.pointer (some (ad_33.add (k - 1)))), some (.int .u32 ((((trimz b).getD (k - 1) 0 : Nat) : Int))), some (.bool (decide ((((trimz a).getD (k - 1) 0 : Nat) : Int) < (((trimz b).getD (k - 1) 0 : Nat) : Int))))] [] [[]] [[0], [0], [0], [0], [0], [0], [0], [0], [0]] 0 [
        fun fa w' => Frm 45 fa [] ∧ St w w' [] ∧ Ext w15 X w' X
      ] TfA.mixed rfl rfl rfl rfl rfl rfl (hF.take (hF.take (hF.take (hF.take (hF.take hF.nil rfl) rfl) rfl) rfl) rfl) rfl ⟨hF.nil, hS.drew, Ext.drew _ _⟩ ?_ ?_ ?_
  all_goals clear hF fa
  ·
   refine ⟨?_, trivial⟩
   ·
    rintro fa w' i o d v ho hd hna ⟨hA, hR⟩; exact ⟨hA.put_other v (freeOf_at (acts := []) rfl ho hd hna), hR⟩
  ·
   refine ⟨?_, ?_, ?_, ?_, ?_, ?_, ?_, ?_, ?_, trivial⟩
   ·
    refine .inl ⟨rfl, _, _, rfl, rfl, fun s fa w' hΦ hF hB K hK => ?_⟩
    exact fl_val rfl rfl rfl (ex_move (hF.ev rfl)) hK
   ·
    refine .inl ⟨rfl, _, _, rfl, rfl, fun s fa w' hΦ hF hB K hK => ?_⟩
    exact fl_val rfl rfl rfl (ex_move (hF.ev rfl)) hK
   ·
    refine .inl ⟨rfl, _, _, rfl, rfl, fun s fa w' hΦ hF hB K hK => ?_⟩
    replace hF := hF.cons (hB.val 0 _ 27 _ rfl rfl rfl rfl)
    replace hF := hF.cons (hB.val 1 _ 28 _ rfl rfl rfl rfl)
    exact fl_val rfl rfl rfl (ex_idx (j := k - 1) TfA.sl22 (hF.ev rfl) hA_29 (hF.ev rfl) (by omega) (by omega)) hK
   ·
    refine .inr (.inl ⟨rfl, _, _, rfl, rfl, ?_, trivial⟩)
    ·
     intro fa w' hΦ hF hB K hK
     obtain ⟨hA, hS, E_w'⟩ := hΦ
     replace hF := hF.cons (hB.val 2 _ 29 _ rfl rfl rfl rfl)
     exact fl_val rfl rfl rfl (ex_load1 TfA.one46 (hF.ev rfl) (hq_29 E_w')) hK
   ·
    refine .inl ⟨rfl, _, _, rfl, rfl, fun s fa w' hΦ hF hB K hK => ?_⟩
    exact fl_val rfl rfl rfl (ex_move (hF.ev rfl)) hK
   ·
    refine .inl ⟨rfl, _, _, rfl, rfl, fun s fa w' hΦ hF hB K hK => ?_⟩
    exact fl_val rfl rfl rfl (ex_move (hF.ev rfl)) hK
   ·
    refine .inl ⟨rfl, _, _, rfl, rfl, fun s fa w' hΦ hF hB K hK => ?_⟩
    replace hF := hF.cons (hB.val 4 _ 31 _ rfl rfl rfl rfl)
    replace hF := hF.cons (hB.val 5 _ 32 _ rfl rfl rfl rfl)
    exact fl_val rfl rfl rfl (ex_idx (j := k - 1) TfA.sl22 (hF.ev rfl) hA_33 (hF.ev rfl) (by omega) (by omega)) hK
   ·
    refine .inr (.inl ⟨rfl, _, _, rfl, rfl, ?_, trivial⟩)
    ·
     intro fa w' hΦ hF hB K hK
     obtain ⟨hA, hS, E_w'⟩ := hΦ
     replace hF := hF.cons (hB.val 6 _ 33 _ rfl rfl rfl rfl)
     exact fl_val rfl rfl rfl (ex_load1 TfA.one46 (hF.ev rfl) (hq_33 E_w')) hK
   ·
    refine .inl ⟨rfl, _, _, rfl, rfl, fun s fa w' hΦ hF hB K hK => ?_⟩
    replace hF := hF.cons (hB.val 3 _ 30 _ rfl rfl rfl rfl)
    replace hF := hF.cons (hB.val 7 _ 34 _ rfl rfl rfl rfl)
    exact fl_val rfl rfl rfl (ex_lss (hF.ev rfl) (hF.ev rfl)) hK
  intro fa w18 hΦ hF hC
  obtain ⟨hA, hS, E_w18⟩ := hΦ
  replace hF := hF.cons (hC 8 _ 35 _ rfl rfl rfl)
  clear hA hC
  refine x_tn ?_
  refine c_cond hF rfl (fun hc19 => ?_) (fun hc19 => ?_)
  ·
   have hc19p : (((trimz a).getD (k - 1) 0 : Nat) : Int) < (((trimz b).getD (k - 1) 0 : Nat) : Int) := by first | simpa using hc19 | exact bang_t hc19 | exact bang_f hc19
   refine c_seq ?_
   refine c_reg ?_
   refine st_val hF rfl rfl rfl (ex_assign (hF.ev rfl)) ?_
   clear hF fa; intro fa hF
   refine c_nil_then ?_
   refine c_ret ?_
   refine x_tr ?_
   refine x_br ?_
   refine x_tr ?_
   refine x_tr ?_
   refine x_br ?_
   refine x_tr ?_
   refine end1 hF rfl (res_tmp hF rfl) ?_
   exact ⟨_, rfl, (congrArg (Value.int .i64) (by rw [← hva, ← hvb]; exact (cmpN_lt (val_lt_of_limb (k - 1) hca.1 hcb.1 (by omega) (by omega) (fun j hj => hz j (by omega)) (by omega))).symm)), hS.below⟩
  have hc19p : ¬ ((((trimz a).getD (k - 1) 0 : Nat) : Int) < (((trimz b).getD (k - 1) 0 : Nat) : Int)) := by first | simpa using hc19 | exact bang_t hc19 | exact bang_f hc19
  refine c_skip ?_
  refine x_tn ?_
  refine c_seq ?_
  obtain ⟨ad_38, hA_38, hq_38⟩ := (hu6.ext ((E9.trans E16).trans E_w18)).cl.at2 (us_get (l := (trimz a)) (i := k - 1) (by omega))
  obtain ⟨ad_42, hA_42, hq_42⟩ := (hu12.ext (E16.trans E_w18)).cl.at2 (us_get (l := (trimz b)) (i := k - 1) (by omega))
  refine drawn2 (N := 45) (L0 := [(0, (.slice (A4) ((trimz a).length) (c5))), (1, (.slice (A10) ((trimz b).length) (c11))), (14, (.bool (!decide ((((trimz a).length : Nat) : Int) = (((trimz b).length : Nat) : Int))))), (5, (.int .i64 (((k : Nat) : Int) - 1))), (24, (.bool (decide ((((k : Nat) : Int) - 1) ≥ 0)))), (35, (.bool (decide ((((trimz a).getD (k - 1) 0 : Nat) : Int) < (((trimz b).getD (k - 1) 0 : Nat) : Int)))))]) [some (.slice (A4) ((trimz a).length) (c5)), some (.int .i64 (((k : Nat) : Int) - 1)), some (.pointer (some (ad_38.add (k - 1)))), some (.int .u32 ((((trimz a).getD (k - 1) 0 : Nat) : Int))), some (.slice (A10) ((trimz b).length) (c11)), some (.int .i64 (((k : Nat) : Int) - 1)), some (.pointer (some (ad_42.add (k - 1)))), some (.int .u32 ((((trimz b).getD (k - 1) 0 : Nat) : Int))), some (.bool (decide ((((trimz a).getD (k - 1) 0 : Nat) : Int) > (((trimz b).getD (k - 1) 0 : Nat) : Int))))] [] [[]] [[0], [0], [0], [0], [0], [0], [0], [0], [0]] 0 [
        fun fa w' => Frm 45 fa [] ∧ St w w' [] ∧ Ext w18 X w' X
      ] TfA.mixed rfl rfl rfl rfl rfl rfl (hF.take (hF.take (hF.take (hF.take (hF.take (hF.take hF.nil rfl) rfl) rfl) rfl) rfl) rfl) rfl ⟨hF.nil, hS.drew, Ext.drew _ _⟩ ?_ ?_ ?_
  all_goals clear hF fa
  ·
   refine ⟨?_, trivial⟩
   ·
    rintro fa w' i o d v ho hd hna ⟨hA, hR⟩; exact ⟨hA.put_other v (freeOf_at (acts := []) rfl ho hd hna), hR⟩
  ·
   refine ⟨?_, ?_, ?_, ?_, ?_, ?_, ?_, ?_, ?_, trivial⟩
   ·
    refine .inl ⟨rfl, _, _, rfl, rfl, fun s fa w' hΦ hF hB K hK => ?_⟩
    exact fl_val rfl rfl rfl (ex_move (hF.ev rfl)) hK
   ·
    refine .inl ⟨rfl, _, _, rfl, rfl, fun s fa w' hΦ hF hB K hK => ?_⟩
    exact fl_val rfl rfl rfl (ex_move (hF.ev rfl)) hK
   ·
    refine .inl ⟨rfl, _, _, rfl, rfl, fun s fa w' hΦ hF hB K hK => ?_⟩
    replace hF := hF.cons (hB.val 0 _ 36 _ rfl rfl rfl rfl)
    replace hF := hF.cons (hB.val 1 _ 37 _ rfl rfl rfl rfl)
    exact fl_val rfl rfl rfl (ex_idx (j := k - 1) TfA.sl22 (hF.ev rfl) hA_38 (hF.ev rfl) (by omega) (by omega)) hK
   ·
    refine .inr (.inl ⟨rfl, _, _, rfl, rfl, ?_, trivial⟩)
    ·
     intro fa w' hΦ hF hB K hK
     obtain ⟨hA, hS, E_w'⟩ := hΦ
     replace hF := hF.cons (hB.val 2 _ 38 _ rfl rfl rfl rfl)
     exact fl_val rfl rfl rfl (ex_load1 TfA.one46 (hF.ev rfl) (hq_38 E_w')) hK
   ·
    refine .inl ⟨rfl, _, _, rfl, rfl, fun s fa w' hΦ hF hB K hK => ?_⟩
    exact fl_val rfl rfl rfl (ex_move (hF.ev rfl)) hK
   ·
    refine .inl ⟨rfl, _, _, rfl, rfl, fun s fa w' hΦ hF hB K hK => ?_⟩
    exact fl_val rfl rfl rfl (ex_move (hF.ev rfl)) hK
   ·
    refine .inl ⟨rfl, _, _, rfl, rfl, fun s fa w' hΦ hF hB K hK => ?_⟩
    replace hF := hF.cons (hB.val 4 _ 40 _ rfl rfl rfl rfl)
    replace hF := hF.cons (hB.val 5 _ 41 _ rfl rfl rfl rfl)
    exact fl_val rfl rfl rfl (ex_idx (j := k - 1) TfA.sl22 (hF.ev rfl) hA_42 (hF.ev rfl) (by omega) (by omega)) hK
   ·
    refine .inr (.inl ⟨rfl, _, _, rfl, rfl, ?_, trivial⟩)
    ·
     intro fa w' hΦ hF hB K hK
     obtain ⟨hA, hS, E_w'⟩ := hΦ
     replace hF := hF.cons (hB.val 6 _ 42 _ rfl rfl rfl rfl)
     exact fl_val rfl rfl rfl (ex_load1 TfA.one46 (hF.ev rfl) (hq_42 E_w')) hK
   ·
    refine .inl ⟨rfl, _, _, rfl, rfl, fun s fa w' hΦ hF hB K hK => ?_⟩
    replace hF := hF.cons (hB.val 3 _ 39 _ rfl rfl rfl rfl)
    replace hF := hF.cons (hB.val 7 _ 43 _ rfl rfl rfl rfl)
    exact fl_val rfl rfl rfl (ex_gtr (hF.ev rfl) (hF.ev rfl)) hK
  intro fa w20 hΦ hF hC
  obtain ⟨hA, hS, E_w20⟩ := hΦ
  replace hF := hF.cons (hC 8 _ 44 _ rfl rfl rfl)
  clear hA hC
  refine x_tn ?_
  refine c_cond hF rfl (fun hc21 => ?_) (fun hc21 => ?_)
  ·
   have hc21p : (((trimz a).getD (k - 1) 0 : Nat) : Int) > (((trimz b).getD (k - 1) 0 : Nat) : Int) := by first | simpa using hc21 | exact bang_t hc21 | exact bang_f hc21
   refine c_seq ?_
   refine c_reg ?_
   refine st_val hF rfl rfl rfl (ex_assign (hF.ev rfl)) ?_
   clear hF fa; intro fa hF
   refine c_nil_then ?_
   refine c_ret ?_
   refine x_br ?_
   refine x_tr ?_
   refine x_tr ?_
   refine x_br ?_
   refine x_tr ?_
   refine end1 hF rfl (res_tmp hF rfl) ?_
   exact ⟨_, rfl, (congrArg (Value.int .i64) (by rw [← hva, ← hvb]; exact (cmpN_gt (val_lt_of_limb (k - 1) hcb.1 hca.1 (by omega) (by omega) (fun j hj => (hz j (by omega)).symm) (by omega))).symm)), hS.below⟩
  have hc21p : ¬ ((((trimz a).getD (k - 1) 0 : Nat) : Int) > (((trimz b).getD (k - 1) 0 : Nat) : Int)) := by first | simpa using hc21 | exact bang_t hc21 | exact bang_f hc21
  refine c_skip ?_
  refine x_bn ?_
  refine x_tn ?_
  refine c_reg ?_
  refine st_val hF rfl rfl rfl (ex_move (hF.ev rfl)) ?_
  clear hF fa; intro fa hF
  refine st_val hF rfl rfl rfl (ex_sub (hF.ev rfl) (hF.ev rfl) (wi64 (by omega) (by omega))) ?_
  clear hF fa; intro fa hF
  refine st_val hF rfl rfl rfl (ex_assign (hF.ev rfl)) ?_
  clear hF fa; intro fa hF
  refine c_nil ?_
  refine x_tn ?_
  exact ⟨_, (by omega), (k - 1), (hF.take (hF.take (hF.take (hF.take hF.nil (lk_int rfl (by omega))) rfl) rfl) rfl), hS, ((E16.trans E_w18).trans E_w20), (by omega), (agree_step hz (by omega)), rfl⟩
 have hc17p : ¬ ((((k : Nat) : Int) - 1) ≥ 0) := by first | simpa using hc17 | exact bang_t hc17 | exact bang_f hc17
 refine c_exit ?_
 refine x_te ?_
 refine x_te ?_
 refine x_bh ?_
 refine x_tn ?_
 refine c_seq ?_
 refine c_reg ?_
 refine st_val hF rfl rfl rfl (ex_assign (hF.ev rfl)) ?_
 clear hF fa; intro fa hF
 refine c_nil_then ?_
 refine c_ret ?_
 refine end1 hF rfl (res_tmp hF rfl) ?_
 exact ⟨_, rfl, (congrArg (Value.int .i64) (by rw [← hva, ← hvb]; exact (cmpN_eq (congrArg val (eq_of_limbs (by omega) (fun j => hz j (by omega))))).symm)), hS.below⟩

set_option maxHeartbeats 4000000 in
theorem ref01_compare_ok {w : World} {X : List Nat} (hX : ∀ m ∈ X, m < w.heap.size) {v_a : Value} {a : List Nat} (h_a : UL w X v_a (a)) {v_b : Value} {b : List Nat} (h_b : UL w X v_b (b)) (ha : CanL a) (hb : CanL b) :
    Calls Try.prog 42 #[v_a, v_b] w (Ret fun r w' => (r = .int .i64 (cmpN (val a) (val b))) ∧ Below w.heap.size w w') := by
 refine enter (N := 41) (fn := Try.f42) (vs := [v_a, v_b]) Try.func42 rfl rfl rfl ?_
 intro fa hF
 obtain ⟨A_a, _, c_a, rfl, rfl, hu_a⟩ := h_a
 have hl_a := hu_a.len; have hc_a := hu_a.cap
 obtain ⟨A_b, _, c_b, rfl, rfl, hu_b⟩ := h_b
 have hl_b := hu_b.len; have hc_b := hu_b.cap
 replace hF : Frm 41 fa [(0, (.slice (A_a) (a.length) (c_a))), (1, (.slice (A_b) (b.length) (c_b)))] := hF
 have hS := St.refl w
 refine c_seq ?_
 refine c_reg ?_
 refine st_val hF rfl rfl rfl (ex_assign (hF.ev rfl)) ?_
 clear hF fa; intro fa hF
 refine c_nil_then ?_
 refine c_seq ?_
 refine c_seq ?_
 refine c_reg ?_
 refine st_val hF rfl rfl rfl (ex_move (hF.ev rfl)) ?_
 clear hF fa; intro fa hF
 refine st_val hF rfl rfl rfl (ex_len TfA.sls22 (hF.ev rfl)) ?_
 clear hF fa; intro fa hF
 refine st_val hF rfl rfl rfl (ex_move (hF.ev rfl)) ?_
 clear hF fa; intro fa hF
 refine st_val hF rfl rfl rfl (ex_len TfA.sls22 (hF.ev rfl)) ?_
 clear hF fa; intro fa hF
 refine st_val hF rfl rfl rfl (ex_neq (hF.ev rfl) (hF.ev rfl)) ?_
 clear hF fa; intro fa hF
 refine c_nil_then ?_
 refine c_cond hF rfl (fun hc1 => ?_) (fun hc1 => ?_)
 ·
  have hc1p : ¬ (((a.length : Nat) : Int) = ((b.length : Nat) : Int)) := by first | simpa using hc1 | exact bang_t hc1 | exact bang_f hc1
  refine c_seq ?_
  refine c_seq ?_
  refine c_reg ?_
  refine st_val hF rfl rfl rfl (ex_move (hF.ev rfl)) ?_
  clear hF fa; intro fa hF
  refine st_val hF rfl rfl rfl (ex_len TfA.sls22 (hF.ev rfl)) ?_
  clear hF fa; intro fa hF
  refine st_val hF rfl rfl rfl (ex_move (hF.ev rfl)) ?_
  clear hF fa; intro fa hF
  refine st_val hF rfl rfl rfl (ex_len TfA.sls22 (hF.ev rfl)) ?_
  clear hF fa; intro fa hF
  refine st_val hF rfl rfl rfl (ex_lss (hF.ev rfl) (hF.ev rfl)) ?_
  clear hF fa; intro fa hF
  refine c_nil_then ?_
  refine c_cond hF rfl (fun hc2 => ?_) (fun hc2 => ?_)
  ·
   have hc2p : ((a.length : Nat) : Int) < ((b.length : Nat) : Int) := by first | simpa using hc2 | exact bang_t hc2 | exact bang_f hc2
   refine c_seq ?_
   refine c_reg ?_
   refine st_val hF rfl rfl rfl (ex_assign (hF.ev rfl)) ?_
   clear hF fa; intro fa hF
   refine c_nil_then ?_
   refine c_ret ?_
   refine x_tr ?_
   refine x_tr ?_
   refine end1 hF rfl (res_tmp hF rfl) ?_
   exact ⟨_, rfl, (congrArg (Value.int .i64) ((cmpN_lt (val_lt_of_length ha hb (by omega))).symm)), hS.below⟩
  have hc2p : ¬ (((a.length : Nat) : Int) < ((b.length : Nat) : Int)) := by first | simpa using hc2 | exact bang_t hc2 | exact bang_f hc2
  refine c_skip ?_
  refine x_tn ?_
  refine c_seq ?_
  refine c_reg ?_
  refine st_val hF rfl rfl rfl (ex_assign (hF.ev rfl)) ?_
  clear hF fa; intro fa hF
  refine c_nil_then ?_
  refine c_ret ?_
  refine x_tr ?_
  refine end1 hF rfl (res_tmp hF rfl) ?_
  exact ⟨_, rfl, (congrArg (Value.int .i64) ((cmpN_gt (val_lt_of_length hb ha (by omega))).symm)), hS.below⟩
 have hc1p : ¬ (¬ (((a.length : Nat) : Int) = ((b.length : Nat) : Int))) := by first | simpa using hc1 | exact bang_t hc1 | exact bang_f hc1
 refine c_skip ?_
 refine x_tn ?_
 refine c_seq ?_
 refine c_seq ?_
 refine c_reg ?_
 refine st_val hF rfl rfl rfl (ex_move (hF.ev rfl)) ?_
 clear hF fa; intro fa hF
 refine st_val hF rfl rfl rfl (ex_len TfA.sls22 (hF.ev rfl)) ?_
 clear hF fa; intro fa hF
 refine st_val hF rfl rfl rfl (ex_sub (hF.ev rfl) (hF.ev rfl) (wi64 (by omega) (by omega))) ?_
 clear hF fa; intro fa hF
 refine st_val hF rfl rfl rfl (ex_assign (hF.ev rfl)) ?_
 clear hF fa; intro fa hF
 refine c_nil_then ?_
 refine c_block ?_
 refine c_loop (fun mu fa w' => ∃ k : Nat, Frm 41 fa [(0, (.slice (A_a) (a.length) (c_a))), (1, (.slice (A_b) (b.length) (c_b))), (10, (.bool (!decide (((a.length : Nat) : Int) = ((b.length : Nat) : Int))))), (5, (.int .i64 (((k : Nat) : Int) - 1)))] ∧ St w w' [] ∧ Ext w X w' X ∧ (k ≤ (a).length) ∧ (∀ j, k ≤ j → (a).getD j 0 = (b).getD j 0) ∧ k = mu) ?_ ?_
 ·
  exact ⟨_, (a).length, (hF.take (hF.take (hF.take (hF.take hF.nil (lk_int rfl (by omega))) rfl) rfl) rfl), hS, Ext.refl _ _, (by omega), (by intro j hj; simp only [List.getD]; rw [List.getElem?_eq_none hj, List.getElem?_eq_none (by omega)]), rfl⟩
 clear hF fa; intro n0_ fa w' hI
 clear hS
 obtain ⟨k, hF, hS, E4, hk, hz, rfl⟩ := hI
 rename World => w3
 refine c_seq ?_
 refine c_seq ?_
 refine c_reg ?_
 refine st_val hF rfl rfl rfl (ex_move (hF.ev rfl)) ?_
 clear hF fa; intro fa hF
 refine st_val hF rfl rfl rfl (ex_geq (hF.ev rfl) (hF.ev rfl)) ?_
 clear hF fa; intro fa hF
 refine c_nil_then ?_
 refine c_cond hF rfl (fun hc5 => ?_) (fun hc5 => ?_)
 ·
  have hc5p : (((k : Nat) : Int) - 1) ≥ 0 := by first | simpa using hc5 | exact bang_t hc5 | exact bang_f hc5
  refine c_skip ?_
  refine x_tn ?_
  refine c_seq ?_
  refine c_block ?_
  refine c_seq ?_
  refine c_seq ?_
  obtain ⟨ad_25, hA_25, hq_25⟩ := (hu_a.ext E4).cl.at2 (us_get (l := a) (i := k - 1) (by omega))
  obtain ⟨ad_29, hA_29, hq_29⟩ := (hu_b.ext E4).cl.at2 (us_get (l := b) (i := k - 1) (by omega))
  refine drawn2 (N := 41) (L0 := [(0, (.slice (A_a) (a.length) (c_a))), (1, (.slice (A_b) (b.length) (c_b))), (10, (.bool (!decide (((a.length : Nat) : Int) = ((b.length : Nat) : Int))))), (5, (.int .i64 (((k : Nat) : Int) - 1))), (20, (.bool (decide ((((k : Nat) : Int) - 1) ≥ 0))))]) [some (.slice (A_a) (a.length) (c_a)), some (.int .i64 (((k : Nat) : Int) - 1)), some (.pointer (some (ad_25.add (k - 1)))), some (.int .u32 (((a.getD (k - 1) 0 : Nat) : Int))), some (.slice (A_b) (b.length) (c_b)), some (.int .i64 (((k : Nat) : Int) - 1)), some (.pointer (some (ad_29.add (k - 1)))), some (.int .u32 (((b.getD (k - 1) 0 : Nat) : Int))), some (.bool (decide (((a.getD (k - 1) 0 : Nat) : Int) < ((b.getD (k - 1) 0 : Nat) : Int))))] [] [[]] [[0], [0], [0], [0], [0], [0], [0], [0], [0]] 0 [
        fun fa w' => Frm 41 fa [] ∧ St w w' [] ∧ Ext w3 X w' X
      ] TfA.mixed rfl rfl rfl rfl rfl rfl (hF.take (hF.take (hF.take (hF.take (hF.take hF.nil rfl) rfl) rfl) rfl) rfl) rfl ⟨hF.nil, hS.drew, Ext.drew _ _⟩ ?_ ?_ ?_
  all_goals clear hF fa
  ·
   refine ⟨?_, trivial⟩
   ·
    rintro fa w' i o d v ho hd hna ⟨hA, hR⟩; exact ⟨hA.put_other v (freeOf_at (acts := []) rfl ho hd hna), hR⟩
  ·
   refine ⟨?_, ?_, ?_, ?_, ?_, ?_, ?_, ?_, ?_, trivial⟩
   ·
    refine .inl ⟨rfl, _, _, rfl, rfl, fun s fa w' hΦ hF hB K hK => ?_⟩
    exact fl_val rfl rfl rfl (ex_move (hF.ev rfl)) hK
   ·
    refine .inl ⟨rfl, _, _, rfl, rfl, fun s fa w' hΦ hF hB K hK => ?_⟩
    exact fl_val rfl rfl rfl (ex_move (hF.ev rfl)) hK
   ·
    refine .inl ⟨rfl, _, _, rfl, rfl, fun s fa w' hΦ hF hB K hK => ?_⟩
    replace hF := hF.cons (hB.val 0 _ 23 _ rfl rfl rfl rfl)
    replace hF := hF.cons (hB.val 1 _ 24 _ rfl rfl rfl rfl)
    exact fl_val rfl rfl rfl (ex_idx (j := k - 1) TfA.sl22 (hF.ev rfl) hA_25 (hF.ev rfl) (by omega) (by omega)) hK
   ·
    refine .inr (.inl ⟨rfl, _, _, rfl, rfl, ?_, trivial⟩)
    ·
     intro fa w' hΦ hF hB K hK
     obtain ⟨hA, hS, E_w'⟩ := hΦ
     replace hF := hF.cons (hB.val 2 _ 25 _ rfl rfl rfl rfl)
     exact fl_val rfl rfl rfl (ex_load1 TfA.one46 (hF.ev rfl) (hq_25 E_w')) hK
   ·
    refine .inl ⟨rfl, _, _, rfl, rfl, fun s fa w' hΦ hF hB K hK => ?_⟩
    exact fl_val rfl rfl rfl (ex_move (hF.ev rfl)) hK
   ·
    refine .inl ⟨rfl, _, _, rfl, rfl, fun s fa w' hΦ hF hB K hK => ?_⟩
    exact fl_val rfl rfl rfl (ex_move (hF.ev rfl)) hK
   ·
    refine .inl ⟨rfl, _, _, rfl, rfl, fun s fa w' hΦ hF hB K hK => ?_⟩
    replace hF := hF.cons (hB.val 4 _ 27 _ rfl rfl rfl rfl)
    replace hF := hF.cons (hB.val 5 _ 28 _ rfl rfl rfl rfl)
    exact fl_val rfl rfl rfl (ex_idx (j := k - 1) TfA.sl22 (hF.ev rfl) hA_29 (hF.ev rfl) (by omega) (by omega)) hK
   ·
    refine .inr (.inl ⟨rfl, _, _, rfl, rfl, ?_, trivial⟩)
    ·
     intro fa w' hΦ hF hB K hK
     obtain ⟨hA, hS, E_w'⟩ := hΦ
     replace hF := hF.cons (hB.val 6 _ 29 _ rfl rfl rfl rfl)
     exact fl_val rfl rfl rfl (ex_load1 TfA.one46 (hF.ev rfl) (hq_29 E_w')) hK
   ·
    refine .inl ⟨rfl, _, _, rfl, rfl, fun s fa w' hΦ hF hB K hK => ?_⟩
    replace hF := hF.cons (hB.val 3 _ 26 _ rfl rfl rfl rfl)
    replace hF := hF.cons (hB.val 7 _ 30 _ rfl rfl rfl rfl)
    exact fl_val rfl rfl rfl (ex_lss (hF.ev rfl) (hF.ev rfl)) hK
  intro fa w6 hΦ hF hC
  obtain ⟨hA, hS, E_w6⟩ := hΦ
  replace hF := hF.cons (hC 8 _ 31 _ rfl rfl rfl)
  clear hA hC
  refine x_tn ?_
  refine c_cond hF rfl (fun hc7 => ?_) (fun hc7 => ?_)
  ·
   have hc7p : ((a.getD (k - 1) 0 : Nat) : Int) < ((b.getD (k - 1) 0 : Nat) : Int) := by first | simpa using hc7 | exact bang_t hc7 | exact bang_f hc7
   refine c_seq ?_
   refine c_reg ?_
   refine st_val hF rfl rfl rfl (ex_assign (hF.ev rfl)) ?_
   clear hF fa; intro fa hF
   refine c_nil_then ?_
   refine c_ret ?_
   refine x_tr ?_
   refine x_br ?_
   refine x_tr ?_
   refine x_tr ?_
   refine x_br ?_
   refine x_tr ?_
   refine end1 hF rfl (res_tmp hF rfl) ?_
   exact ⟨_, rfl, (congrArg (Value.int .i64) ((cmpN_lt (val_lt_of_limb (k - 1) ha.1 hb.1 (by omega) (by omega) (fun j hj => hz j (by omega)) (by omega))).symm)), hS.below⟩
  have hc7p : ¬ (((a.getD (k - 1) 0 : Nat) : Int) < ((b.getD (k - 1) 0 : Nat) : Int)) := by first | simpa using hc7 | exact bang_t hc7 | exact bang_f hc7
  refine c_skip ?_
  refine x_tn ?_
  refine c_seq ?_
  obtain ⟨ad_34, hA_34, hq_34⟩ := (hu_a.ext (E4.trans E_w6)).cl.at2 (us_get (l := a) (i := k - 1) (by omega))
  obtain ⟨ad_38, hA_38, hq_38⟩ := (hu_b.ext (E4.trans E_w6)).cl.at2 (us_get (l := b) (i := k - 1) (by omega))
  refine drawn2 (N := 41) (L0 := [(0, (.slice (A_a) (a.length) (c_a))), (1, (.slice (A_b) (b.length) (c_b))), (10, (.bool (!decide (((a.length : Nat) : Int) = ((b.length : Nat) : Int))))), (5, (.int .i64 (((k : Nat) : Int) - 1))), (20, (.bool (decide ((((k : Nat) : Int) - 1) ≥ 0)))), (31, (.bool (decide (((a.getD (k - 1) 0 : Nat) : Int) < ((b.getD (k - 1) 0 : Nat) : Int)))))]) [some (.slice (A_a) (a.length) (c_a)), some (.int .i64 (((k : Nat) : Int) - 1)), some (.pointer (some (ad_34.add (k - 1)))), some (.int .u32 (((a.getD (k - 1) 0 : Nat) : Int))), some (.slice (A_b) (b.length) (c_b)), some (.int .i64 (((k : Nat) : Int) - 1)), some (.pointer (some (ad_38.add (k - 1)))), some (.int .u32 (((b.getD (k - 1) 0 : Nat) : Int))), some (.bool (decide (((a.getD (k - 1) 0 : Nat) : Int) > ((b.getD (k - 1) 0 : Nat) : Int))))] [] [[]] [[0], [0], [0], [0], [0], [0], [0], [0], [0]] 0 [
        fun fa w' => Frm 41 fa [] ∧ St w w' [] ∧ Ext w6 X w' X
      ] TfA.mixed rfl rfl rfl rfl rfl rfl (hF.take (hF.take (hF.take (hF.take (hF.take (hF.take hF.nil rfl) rfl) rfl) rfl) rfl) rfl) rfl ⟨hF.nil, hS.drew, Ext.drew _ _⟩ ?_ ?_ ?_
  all_goals clear hF fa
  ·
   refine ⟨?_, trivial⟩
   ·
    rintro fa w' i o d v ho hd hna ⟨hA, hR⟩; exact ⟨hA.put_other v (freeOf_at (acts := []) rfl ho hd hna), hR⟩
  ·
   refine ⟨?_, ?_, ?_, ?_, ?_, ?_, ?_, ?_, ?_, trivial⟩
   ·
    refine .inl ⟨rfl, _, _, rfl, rfl, fun s fa w' hΦ hF hB K hK => ?_⟩
    exact fl_val rfl rfl rfl (ex_move (hF.ev rfl)) hK
   ·
    refine .inl ⟨rfl, _, _, rfl, rfl, fun s fa w' hΦ hF hB K hK => ?_⟩
    exact fl_val rfl rfl rfl (ex_move (hF.ev rfl)) hK
   ·
    refine .inl ⟨rfl, _, _, rfl, rfl, fun s fa w' hΦ hF hB K hK => ?_⟩
    replace hF := hF.cons (hB.val 0 _ 32 _ rfl rfl rfl rfl)
    replace hF := hF.cons (hB.val 1 _ 33 _ rfl rfl rfl rfl)
    exact fl_val rfl rfl rfl (ex_idx (j := k - 1) TfA.sl22 (hF.ev rfl) hA_34 (hF.ev rfl) (by omega) (by omega)) hK
   ·
    refine .inr (.inl ⟨rfl, _, _, rfl, rfl, ?_, trivial⟩)
    ·
     intro fa w' hΦ hF hB K hK
     obtain ⟨hA, hS, E_w'⟩ := hΦ
     replace hF := hF.cons (hB.val 2 _ 34 _ rfl rfl rfl rfl)
     exact fl_val rfl rfl rfl (ex_load1 TfA.one46 (hF.ev rfl) (hq_34 E_w')) hK
   ·
    refine .inl ⟨rfl, _, _, rfl, rfl, fun s fa w' hΦ hF hB K hK => ?_⟩
    exact fl_val rfl rfl rfl (ex_move (hF.ev rfl)) hK
   ·
    refine .inl ⟨rfl, _, _, rfl, rfl, fun s fa w' hΦ hF hB K hK => ?_⟩
    exact fl_val rfl rfl rfl (ex_move (hF.ev rfl)) hK
   ·
    refine .inl ⟨rfl, _, _, rfl, rfl, fun s fa w' hΦ hF hB K hK => ?_⟩
    replace hF := hF.cons (hB.val 4 _ 36 _ rfl rfl rfl rfl)
    replace hF := hF.cons (hB.val 5 _ 37 _ rfl rfl rfl rfl)
    exact fl_val rfl rfl rfl (ex_idx (j := k - 1) TfA.sl22 (hF.ev rfl) hA_38 (hF.ev rfl) (by omega) (by omega)) hK
   ·
    refine .inr (.inl ⟨rfl, _, _, rfl, rfl, ?_, trivial⟩)
    ·
     intro fa w' hΦ hF hB K hK
     obtain ⟨hA, hS, E_w'⟩ := hΦ
     replace hF := hF.cons (hB.val 6 _ 38 _ rfl rfl rfl rfl)
     exact fl_val rfl rfl rfl (ex_load1 TfA.one46 (hF.ev rfl) (hq_38 E_w')) hK
   ·
    refine .inl ⟨rfl, _, _, rfl, rfl, fun s fa w' hΦ hF hB K hK => ?_⟩
    replace hF := hF.cons (hB.val 3 _ 35 _ rfl rfl rfl rfl)
    replace hF := hF.cons (hB.val 7 _ 39 _ rfl rfl rfl rfl)
    exact fl_val rfl rfl rfl (ex_gtr (hF.ev rfl) (hF.ev rfl)) hK
  intro fa w8 hΦ hF hC
  obtain ⟨hA, hS, E_w8⟩ := hΦ
  replace hF := hF.cons (hC 8 _ 40 _ rfl rfl rfl)
  clear hA hC
  refine x_tn ?_
  refine c_cond hF rfl (fun hc9 => ?_) (fun hc9 => ?_)
  ·
   have hc9p : ((a.getD (k - 1) 0 : Nat) : Int) > ((b.getD (k - 1) 0 : Nat) : Int) := by first | simpa using hc9 | exact bang_t hc9 | exact bang_f hc9
   refine c_seq ?_
   refine c_reg ?_
   refine st_val hF rfl rfl rfl (ex_assign (hF.ev rfl)) ?_
   clear hF fa; intro fa hF
   refine c_nil_then ?_
   refine c_ret ?_
   refine x_br ?_
   refine x_tr ?_
   refine x_tr ?_
   refine x_br ?_
   refine x_tr ?_
   refine end1 hF rfl (res_tmp hF rfl) ?_
   exact ⟨_, rfl, (congrArg (Value.int .i64) ((cmpN_gt (val_lt_of_limb (k - 1) hb.1 ha.1 (by omega) (by omega) (fun j hj => (hz j (by omega)).symm) (by omega))).symm)), hS.below⟩
  have hc9p : ¬ (((a.getD (k - 1) 0 : Nat) : Int) > ((b.getD (k - 1) 0 : Nat) : Int)) := by first | simpa using hc9 | exact bang_t hc9 | exact bang_f hc9
  refine c_skip ?_
  refine x_bn ?_
  refine x_tn ?_
  refine c_reg ?_
  refine st_val hF rfl rfl rfl (ex_move (hF.ev rfl)) ?_
  clear hF fa; intro fa hF
  refine st_val hF rfl rfl rfl (ex_sub (hF.ev rfl) (hF.ev rfl) (wi64 (by omega) (by omega))) ?_
  clear hF fa; intro fa hF
  refine st_val hF rfl rfl rfl (ex_assign (hF.ev rfl)) ?_
  clear hF fa; intro fa hF
  refine c_nil ?_
  refine x_tn ?_
  exact ⟨_, (by omega), (k - 1), (hF.take (hF.take (hF.take (hF.take hF.nil (lk_int rfl (by omega))) rfl) rfl) rfl), hS, ((E4.trans E_w6).trans E_w8), (by omega), (agree_step hz (by omega)), rfl⟩
 have hc5p : ¬ ((((k : Nat) : Int) - 1) ≥ 0) := by first | simpa using hc5 | exact bang_t hc5 | exact bang_f hc5
 refine c_exit ?_
 refine x_te ?_
 refine x_te ?_
 refine x_bh ?_
 refine x_tn ?_
 refine c_seq ?_
 refine c_reg ?_
 refine st_val hF rfl rfl rfl (ex_assign (hF.ev rfl)) ?_
 clear hF fa; intro fa hF
 refine c_nil_then ?_
 refine c_ret ?_
 refine end1 hF rfl (res_tmp hF rfl) ?_
 exact ⟨_, rfl, (congrArg (Value.int .i64) ((cmpN_eq (congrArg val (eq_of_limbs (by omega) (fun j => hz j (by omega))))).symm)), hS.below⟩

end Go.Proofs.Ytlaojdpcfenlkaa
