/-
  What the functions signed, FromInt64, FromInt64, Sign, Sign, Cmp, Cmp, Same, Neg, Neg do, each call by call.
  Conditions: none.
-/
import Derived.Test.YtlaojdpcfenlkaaChecked
import Derived.Test.YtlaojdpcfenlkaaSwBaseK
import Derived.Test.YtlaojdpcfenlkaaWA
import Derived.Test.YtlaojdpcfenlkaaWG
namespace Go.Proofs.Ytlaojdpcfenlkaa
open Go Go.RowKit Go.Sw
set_option linter.unusedVariables false
namespace TfH
theorem body41 : hasBody Try.prog 41 = true := by kernel_rfl
theorem body42 : hasBody Try.prog 42 = true := by kernel_rfl
theorem body43 : hasBody Try.prog 43 = true := by kernel_rfl
theorem body45 : hasBody Try.prog 45 = true := by kernel_rfl
theorem body50 : hasBody Try.prog 50 = true := by kernel_rfl
theorem body53 : hasBody Try.prog 53 = true := by kernel_rfl
theorem body56 : hasBody Try.prog 56 = true := by kernel_rfl
theorem el46 : Sw.elemOf Try.prog 46 = some (#[.int .u32 0], 1, 4) := by kernel_rfl
theorem mixed : Try.prog.follows .mixedOrders = true := by kernel_rfl
theorem off24_0 : fieldOff Try.prog 24 0 = some 0 := by kernel_rfl
theorem off24_1 : fieldOff Try.prog 24 1 = some 1 := by kernel_rfl
theorem one22 : isOne Try.prog 22 = true := by kernel_rfl
theorem one4 : isOne Try.prog 4 = true := by kernel_rfl
theorem row24 : isRow Try.prog 24 2 = true := by kernel_rfl
theorem size24 : (Try.prog.info? 24).map (fun i => i.size) = some 2 := by kernel_rfl
theorem sl22 : sliceOf Try.prog 22 = some (46, 1) := by kernel_rfl
theorem sls22 : (sliceOf Try.prog 22).isSome = true := by kernel_rfl
theorem two24 : two1 Try.prog 24 = true := by kernel_rfl
theorem und4 : Try.prog.underlying 4 = some TypeDesc.bool := by kernel_rfl
theorem und54 : Try.prog.underlying 54 = some (TypeDesc.int .u64) := by kernel_rfl
theorem unds2 : (Try.prog.underlying 2).isSome = true := by kernel_rfl
theorem zero24 : zeroOf Try.prog 24 = some #[.bool false, .slice none 0 0] := by kernel_rfl
end TfH
set_option maxHeartbeats 4000000 in
theorem ref01_signed_ok {w : World} {X : List Nat} (hX : ∀ m ∈ X, m < w.heap.size) (neg : Bool) {v_l : Value} {l : List Nat} (h_l : UL w X v_l (l)) (hb : Lb l) :
    Calls Try.prog 45 #[(.bool neg), v_l] w (Ret fun r w' => (IntV w' X r (sgnv neg (val l))) ∧ Below w.heap.size w w') := by
 refine enter (N := 15) (fn := Try.f45) (vs := [(.bool neg), v_l]) Try.func45 rfl rfl rfl ?_
 intro fa hF
 obtain ⟨A_l, _, c_l, rfl, rfl, hu_l⟩ := h_l
 have hl_l := hu_l.len; have hc_l := hu_l.cap
 replace hF : Frm 15 fa [(0, (.bool (neg))), (1, (.slice (A_l) (l.length) (c_l)))] := hF
 have hS := St.refl w
 refine c_seq ?_
 refine c_reg ?_
 refine st rfl (op_alloc (X := X) hF hS rfl TfH.zero24 ?_)
 intro g1 w2 hg4 hS E3; refine gen_ ?_; clear hF fa; intro fa hF
 replace hS : St w w2 [(g1, 24, #[(.bool (false)), (.slice (none) (0) (0))])] := hS
 refine c_nil_then ?_
 refine c_seq ?_
 refine c_reg ?_
 refine st_val hF rfl rfl rfl (ex_move (hF.ev rfl)) ?_
 clear hF fa; intro fa hF
 have hC := ref01_trim_ok (w := w2) (X := (g1 :: X)) (l := l) (hS.bnd hX) ⟨_, (l.length), _, rfl, (rfl), (hu_l.ext E3)⟩
 refine st rfl (op_call hF rfl TfH.body43 (args1 (hF.ev rfl)) hC ?_)
 clear hC
 rintro _ w5 ⟨⟨A8, _, c9, rfl, rfl, hu10⟩, hb6⟩
 refine gen_ ?_; clear hF fa; intro fa hF
 replace hS := hS.call hb6; have E7 := Ext.call (g1 :: X) hb6
 refine st_val hF rfl rfl rfl (ex_assign (hF.ev rfl)) ?_
 clear hF fa; intro fa hF
 refine c_nil_then ?_
 refine c_seq ?_
 refine c_reg ?_
 refine st_val hF rfl rfl rfl (ex_move (hF.ev rfl)) ?_
 clear hF fa; intro fa hF
 refine st_val hF rfl rfl rfl (ex_move (hF.ev rfl)) ?_
 clear hF fa; intro fa hF
 rcases Bool.eq_false_or_eq_true (neg) with hg11 | hg11
 ·
  replace hF := hF.cons (t := 8) (v := .bool true) ((hF.get 8 _ rfl).trans (congrArg Value.bool hg11))
  have hg11p : (neg) = true := by simpa using hg11
  refine stg_val hF rfl rfl rfl rfl (ex_move (hF.ev rfl)) ?_
  clear hF fa; intro fa hF
  refine stg_val hF rfl rfl rfl rfl (ex_len TfH.sls22 (hF.ev rfl)) ?_
  clear hF fa; intro fa hF
  refine stg_val hF rfl rfl rfl rfl (ex_gtr (hF.ev rfl) (hF.ev rfl)) ?_
  clear hF fa; intro fa hF
  refine st_val hF rfl rfl rfl (ex_pick (hF.ev rfl) (fun _ => hF.ev rfl) (v := undef) (fun h => by cases h) rfl) ?_
  clear hF fa; intro fa hF
  refine st_val hF rfl rfl rfl (ex_move (hF.ev rfl)) ?_
  clear hF fa; intro fa hF
  refine st_val hF rfl rfl rfl (ex_build2 TfH.two24 (hF.ev rfl) (hF.ev rfl) rfl rfl) ?_
  clear hF fa; intro fa hF
  refine st rfl (op_store (X := (g1 :: X)) hF hS 0 rfl (by simp) rfl rfl rfl TfH.size24 rfl (Nat.le_of_ble_eq_true rfl) ?_)
  intro w12 hS E13
  replace hS : St w w12 [(g1, 24, #[(.bool (decide ((((trimz l).length : Nat) : Int) > 0))), (.slice (A8) ((trimz l).length) (c9))])] := hS
  refine c_nil_then ?_
  refine c_ret ?_
  refine end1 hF rfl (res_cell hF rfl TfH.row24 (hS.get 0 rfl) rfl) ?_
  exact ⟨_, rfl, (RawV.fin (L := (trimz l)) ⟨_, _, _, rfl, (rfl), (hu10.ext E13)⟩ (by have h0 := lim_len_pos (val l); rw [lim_val l hb] at h0; rw [neg_sgnv]; simp_all) (by exact trimz_sgnv hb) (fun x hx => by simp [hx])), hS.below⟩
 replace hF := hF.cons (t := 8) (v := .bool false) ((hF.get 8 _ rfl).trans (congrArg Value.bool hg11))
 have hg11p : ¬ ((neg) = true) := by simpa using hg11
 refine st_skip hF rfl rfl rfl rfl rfl ?_
 clear hF fa; intro fa hF
 refine st_skip hF rfl rfl rfl rfl rfl ?_
 clear hF fa; intro fa hF
 refine st_skip hF rfl rfl rfl rfl rfl ?_
 clear hF fa; intro fa hF
 refine st_val hF rfl rfl rfl (ex_pick (hF.ev rfl) (u := undef) (fun h => by cases h) (fun _ => hF.ev rfl) rfl) ?_
 clear hF fa; intro fa hF
 refine st_val hF rfl rfl rfl (ex_move (hF.ev rfl)) ?_
 clear hF fa; intro fa hF
 refine st_val hF rfl rfl rfl (ex_build2 TfH.two24 (hF.ev rfl) (hF.ev rfl) rfl rfl) ?_
 clear hF fa; intro fa hF
 refine st rfl (op_store (X := (g1 :: X)) hF hS 0 rfl (by simp) rfl rfl rfl TfH.size24 rfl (Nat.le_of_ble_eq_true rfl) ?_)
 intro w14 hS E15
 replace hS : St w w14 [(g1, 24, #[(.bool (false)), (.slice (A8) ((trimz l).length) (c9))])] := hS
 refine c_nil_then ?_
 refine c_ret ?_
 refine end1 hF rfl (res_cell hF rfl TfH.row24 (hS.get 0 rfl) rfl) ?_
 exact ⟨_, rfl, (RawV.fin (L := (trimz l)) ⟨_, _, _, rfl, (rfl), (hu10.ext E15)⟩ (by have h0 := lim_len_pos (val l); rw [lim_val l hb] at h0; rw [neg_sgnv]; simp_all) (by exact trimz_sgnv hb) (fun x hx => by simp [hx])), hS.below⟩

set_option maxHeartbeats 4000000 in
theorem ref01_FromInt64_ok {w : World} {X : List Nat} (hX : ∀ m ∈ X, m < w.heap.size) (n : Int) (hn1 : -9223372036854775808 ≤ n) (hn2 : n ≤ 9223372036854775807) :
    Calls Try.prog 26 #[(.int .i64 n)] w (Ret fun r w' => (IntV w' X r (n)) ∧ Below w.heap.size w w') := by
 refine enter (N := 14) (fn := Try.f26) (vs := [(.int .i64 n)]) Try.func26 rfl rfl rfl ?_
 intro fa hF
 replace hF : Frm 14 fa [(0, (.int .i64 (n)))] := hF
 have hS := St.refl w
 refine c_seq ?_
 refine c_reg ?_
 refine st rfl (op_alloc (X := X) hF hS rfl TfH.zero24 ?_)
 intro g1 w2 hg4 hS E3; refine gen_ ?_; clear hF fa; intro fa hF
 replace hS : St w w2 [(g1, 24, #[(.bool (false)), (.slice (none) (0) (0))])] := hS
 refine c_nil_then ?_
 refine c_seq ?_
 refine c_seq ?_
 refine c_reg ?_
 refine st_val hF rfl rfl rfl (ex_move (hF.ev rfl)) ?_
 clear hF fa; intro fa hF
 refine st_val hF rfl rfl rfl (ex_lss (hF.ev rfl) (hF.ev rfl)) ?_
 clear hF fa; intro fa hF
 refine c_nil_then ?_
 refine c_cond hF rfl (fun hc5 => ?_) (fun hc5 => ?_)
 ·
  have hc5p : n < 0 := by first | simpa using hc5 | exact bang_t hc5 | exact bang_f hc5
  refine c_seq ?_
  refine c_reg ?_
  refine st_val hF rfl rfl rfl (ex_move (hF.ev rfl)) ?_
  clear hF fa; intro fa hF
  refine st_val hF rfl rfl rfl (ex_conv TfH.unds2 TfH.und54 (hF.ev rfl) (show _ = n % 18446744073709551616 from by rw [IntKind.wrap_u64])) ?_
  clear hF fa; intro fa hF
  refine st_val hF rfl rfl rfl (ex_neg (hF.ev rfl) (show _ = ((n.natAbs : Nat) : Int) from by rw [IntKind.wrap_u64]; omega)) ?_
  clear hF fa; intro fa hF
  have hC := ref01_limbs_ok (w := w2) (X := (g1 :: X)) (hS.bnd hX) (n.natAbs) (by omega)
  refine st rfl (op_call hF rfl TfH.body53 (args1 (hF.ev (ev_int (b := ((n.natAbs : Nat) : Int)) rfl (by first | rfl | omega)))) hC ?_)
  clear hC
  rintro _ w6 ⟨⟨A9, _, c10, rfl, rfl, hu11⟩, hb7⟩
  refine gen_ ?_; clear hF fa; intro fa hF
  replace hS := hS.call hb7; have E8 := Ext.call (g1 :: X) hb7
  have hC := ref01_signed_ok (w := w6) (X := (g1 :: X)) (l := (lim (n.natAbs))) (hS.bnd hX) true ⟨_, ((lim (n.natAbs)).length), _, rfl, (rfl), hu11⟩ (lb_lim _)
  refine st rfl (op_call hF rfl TfH.body45 (args2 (hF.ev rfl) (hF.ev rfl)) hC ?_)
  clear hC
  rintro _ w12 ⟨⟨_, rfl, A15, c16, rfl, hu17⟩, hb13⟩
  refine gen_ ?_; clear hF fa; intro fa hF
  replace hS := hS.call hb13; have E14 := Ext.call (g1 :: X) hb13
  refine st rfl (op_store (X := (g1 :: X)) hF hS 0 rfl (by simp) rfl rfl rfl TfH.size24 rfl (Nat.le_of_ble_eq_true rfl) ?_)
  intro w18 hS E19
  replace hS : St w w18 [(g1, 24, (ic (A15) (c16) ((sgnv true (val ((lim (n.natAbs))))))))] := hS
  refine c_nil_then ?_
  refine c_ret ?_
  refine x_tr ?_
  refine end1 hF rfl (res_cell hF rfl TfH.row24 (hS.get 0 rfl) rfl) ?_
  exact ⟨_, rfl, (IntV.fin (x := sgnv true (val ((lim (n.natAbs))))) ⟨_, rfl, _, _, rfl, (hu17.ext E19)⟩ (by rw [val_lim]; first | exact sgnv_t (by omega) | exact sgnv_f (by omega)) (fun x hx => by simp [hx])), hS.below⟩
 have hc5p : ¬ (n < 0) := by first | simpa using hc5 | exact bang_t hc5 | exact bang_f hc5
 refine c_skip ?_
 refine x_tn ?_
 refine c_seq ?_
 refine c_reg ?_
 refine st_val hF rfl rfl rfl (ex_move (hF.ev rfl)) ?_
 clear hF fa; intro fa hF
 refine st_val hF rfl rfl rfl (ex_conv TfH.unds2 TfH.und54 (hF.ev rfl) (show _ = ((n.natAbs : Nat) : Int) from by rw [IntKind.wrap_u64]; omega)) ?_
 clear hF fa; intro fa hF
 have hC := ref01_limbs_ok (w := w2) (X := (g1 :: X)) (hS.bnd hX) (n.natAbs) (by omega)
 refine st rfl (op_call hF rfl TfH.body53 (args1 (hF.ev (ev_int (b := ((n.natAbs : Nat) : Int)) rfl (by first | rfl | omega)))) hC ?_)
 clear hC
 rintro _ w20 ⟨⟨A23, _, c24, rfl, rfl, hu25⟩, hb21⟩
 refine gen_ ?_; clear hF fa; intro fa hF
 replace hS := hS.call hb21; have E22 := Ext.call (g1 :: X) hb21
 have hC := ref01_signed_ok (w := w20) (X := (g1 :: X)) (l := (lim (n.natAbs))) (hS.bnd hX) false ⟨_, ((lim (n.natAbs)).length), _, rfl, (rfl), hu25⟩ (lb_lim _)
 refine st rfl (op_call hF rfl TfH.body45 (args2 (hF.ev rfl) (hF.ev rfl)) hC ?_)
 clear hC
 rintro _ w26 ⟨⟨_, rfl, A29, c30, rfl, hu31⟩, hb27⟩
 refine gen_ ?_; clear hF fa; intro fa hF
 replace hS := hS.call hb27; have E28 := Ext.call (g1 :: X) hb27
 refine st rfl (op_store (X := (g1 :: X)) hF hS 0 rfl (by simp) rfl rfl rfl TfH.size24 rfl (Nat.le_of_ble_eq_true rfl) ?_)
 intro w32 hS E33
 replace hS : St w w32 [(g1, 24, (ic (A29) (c30) ((sgnv false (val ((lim (n.natAbs))))))))] := hS
 refine c_nil_then ?_
 refine c_ret ?_
 refine end1 hF rfl (res_cell hF rfl TfH.row24 (hS.get 0 rfl) rfl) ?_
 exact ⟨_, rfl, (IntV.fin (x := sgnv false (val ((lim (n.natAbs))))) ⟨_, rfl, _, _, rfl, (hu31.ext E33)⟩ (by rw [val_lim]; first | exact sgnv_t (by omega) | exact sgnv_f (by omega)) (fun x hx => by simp [hx])), hS.below⟩

set_option maxHeartbeats 4000000 in
theorem integer_FromInt64_ok {w : World} {X : List Nat} (hX : ∀ m ∈ X, m < w.heap.size) (n : Int) (hn1 : -9223372036854775808 ≤ n) (hn2 : n ≤ 9223372036854775807) :
    Calls Try.prog 37 #[(.int .i64 n)] w (Ret fun r w' => (IntV w' X r (n)) ∧ Below w.heap.size w w') := by
 refine enter (N := 15) (fn := Try.f37) (vs := [(.int .i64 n)]) Try.func37 rfl rfl rfl ?_
 intro fa hF
 replace hF : Frm 15 fa [(0, (.int .i64 (n)))] := hF
 have hS := St.refl w
 refine c_seq ?_
 refine c_reg ?_
 refine st rfl (op_alloc (X := X) hF hS rfl TfH.zero24 ?_)
 intro g1 w2 hg4 hS E3; refine gen_ ?_; clear hF fa; intro fa hF
 replace hS : St w w2 [(g1, 24, #[(.bool (false)), (.slice (none) (0) (0))])] := hS
 refine c_nil_then ?_
 refine c_seq ?_
 refine c_reg ?_
 refine st_val hF rfl rfl rfl (ex_move (hF.ev rfl)) ?_
 clear hF fa; intro fa hF
 refine st_val hF rfl rfl rfl (ex_conv TfH.unds2 TfH.und54 (hF.ev rfl) (show _ = n % 18446744073709551616 from by rw [IntKind.wrap_u64])) ?_
 clear hF fa; intro fa hF
 refine st_val hF rfl rfl rfl (ex_assign (hF.ev rfl)) ?_
 clear hF fa; intro fa hF
 refine c_nil_then ?_
 refine c_cut (fun fa w' => Frm 15 fa [(0, (.int .i64 (n))), (2, (.pointer (some ⟨g1, 0, none⟩))), (3, (.int .u64 (((n.natAbs : Nat) : Int))))] ∧ w2 = w') ?_ ?_
 ·
  refine c_seq ?_
  refine c_reg ?_
  refine st_val hF rfl rfl rfl (ex_move (hF.ev rfl)) ?_
  clear hF fa; intro fa hF
  refine st_val hF rfl rfl rfl (ex_lss (hF.ev rfl) (hF.ev rfl)) ?_
  clear hF fa; intro fa hF
  refine c_nil_then ?_
  refine c_cond hF rfl (fun hc5 => ?_) (fun hc5 => ?_)
  ·
   have hc5p : n < 0 := by first | simpa using hc5 | exact bang_t hc5 | exact bang_f hc5
   refine c_reg ?_
   refine st_val hF rfl rfl rfl (ex_move (hF.ev rfl)) ?_
   clear hF fa; intro fa hF
   refine st_val hF rfl rfl rfl (ex_neg (hF.ev rfl) (show _ = ((n.natAbs : Nat) : Int) from by rw [IntKind.wrap_u64]; omega)) ?_
   clear hF fa; intro fa hF
   refine st_val hF rfl rfl rfl (ex_assign (hF.ev rfl)) ?_
   clear hF fa; intro fa hF
   refine c_nil ?_
   refine x_tn ?_
   exact ⟨(hF.take (hF.take (hF.take hF.nil rfl) rfl) rfl), rfl⟩
  have hc5p : ¬ (n < 0) := by first | simpa using hc5 | exact bang_t hc5 | exact bang_f hc5
  refine c_skip ?_
  refine x_tn ?_
  exact ⟨(hF.take (hF.take (hF.take hF.nil (lk_int rfl (by omega))) rfl) rfl), rfl⟩
 clear hF fa
 rintro fa _ ⟨hF, rfl⟩
 refine c_seq ?_
 refine c_reg ?_
 refine st_val hF rfl rfl rfl (ex_move (hF.ev rfl)) ?_
 clear hF fa; intro fa hF
 refine st_val hF rfl rfl rfl (ex_lss (hF.ev rfl) (hF.ev rfl)) ?_
 clear hF fa; intro fa hF
 refine st_val hF rfl rfl rfl (ex_move (hF.ev rfl)) ?_
 clear hF fa; intro fa hF
 have hC := integer_split_ok (w := w2) (X := (g1 :: X)) (hS.bnd hX) (n.natAbs) (by omega)
 refine st rfl (op_call hF rfl TfH.body50 (args1 (hF.ev (ev_int (b := ((n.natAbs : Nat) : Int)) rfl (by first | rfl | omega)))) hC ?_)
 clear hC
 rintro _ w6 ⟨⟨A9, _, c10, rfl, rfl, hu11⟩, hb7⟩
 refine gen_ ?_; clear hF fa; intro fa hF
 replace hS := hS.call hb7; have E8 := Ext.call (g1 :: X) hb7
 have hC := integer_signed_ok (w := w6) (X := (g1 :: X)) (l := ([(n.natAbs) % 1000000000, (n.natAbs) / 1000000000 % 1000000000, (n.natAbs) / 1000000000 / 1000000000])) (hS.bnd hX) (decide (n < 0)) ⟨_, (([(n.natAbs) % 1000000000, (n.natAbs) / 1000000000 % 1000000000, (n.natAbs) / 1000000000 / 1000000000]).length), _, rfl, (rfl), hu11⟩ (Lb.cons (by omega) (Lb.cons (by omega) (Lb.cons (by omega) Lb.nil)))
 refine st rfl (op_call hF rfl TfH.body41 (args2 (hF.ev rfl) (hF.ev rfl)) hC ?_)
 clear hC
 rintro _ w12 ⟨⟨_, rfl, A15, c16, rfl, hu17⟩, hb13⟩
 refine gen_ ?_; clear hF fa; intro fa hF
 replace hS := hS.call hb13; have E14 := Ext.call (g1 :: X) hb13
 refine st rfl (op_store (X := (g1 :: X)) hF hS 0 rfl (by simp) rfl rfl rfl TfH.size24 rfl (Nat.le_of_ble_eq_true rfl) ?_)
 intro w18 hS E19
 replace hS : St w w18 [(g1, 24, (ic (A15) (c16) ((sgnv (decide (n < 0)) (val (([(n.natAbs) % 1000000000, (n.natAbs) / 1000000000 % 1000000000, (n.natAbs) / 1000000000 / 1000000000])))))))] := hS
 refine c_nil_then ?_
 refine c_ret ?_
 refine end1 hF rfl (res_cell hF rfl TfH.row24 (hS.get 0 rfl) rfl) ?_
 exact ⟨_, rfl, (IntV.fin (x := sgnv (decide (n < 0)) (val (([(n.natAbs) % 1000000000, (n.natAbs) / 1000000000 % 1000000000, (n.natAbs) / 1000000000 / 1000000000])))) ⟨_, rfl, _, _, rfl, (hu17.ext E19)⟩ (by rw [show val [n.natAbs % 1000000000, n.natAbs / 1000000000 % 1000000000, n.natAbs / 1000000000 / 1000000000] = n.natAbs by simp only [val]; omega]; exact sgnv_of n) (fun x hx => by simp [hx])), hS.below⟩

set_option maxHeartbeats 4000000 in
theorem ref01_Sign_ok {w : World} {X : List Nat} (hX : ∀ m ∈ X, m < w.heap.size) {v_a : Value} {a : Int} (h_a : IntV w X v_a (a)) :
    Calls Try.prog 15 #[v_a] w (Ret fun r w' => (r = .int .i64 (sgnI a)) ∧ Below w.heap.size w w') := by
 refine enter (N := 9) (fn := Try.f15) (vs := [v_a]) Try.func15 rfl rfl rfl ?_
 intro fa hF
 obtain ⟨_, rfl, A_a, c_a, rfl, hu_a⟩ := h_a
 have hl_a := hu_a.len; have hc_a := hu_a.cap
 replace hF : Frm 9 fa [(0, (.agg (ic (A_a) (c_a) (a))))] := hF
 have hS := St.refl w
 refine c_seq ?_
 refine c_reg ?_
 refine st rfl (op_box (X := X) hF hS rfl rfl rfl ?_)
 intro g1 w2 hg4 hS E3; refine gen_ ?_; clear hF fa; intro fa hF
 replace hS : St w w2 [(g1, 24, (ic (A_a) (c_a) (a)))] := hS
 refine st_val hF rfl rfl rfl (ex_assign (hF.ev rfl)) ?_
 clear hF fa; intro fa hF
 refine c_nil_then ?_
 refine c_seq ?_
 refine c_seq ?_
 refine c_reg ?_
 refine st_val hF rfl rfl rfl (ex_field_addr TfH.off24_1 (hF.ev rfl)) ?_
 clear hF fa; intro fa hF
 refine st_val hF rfl rfl rfl (ex_load1b TfH.one22 (hF.ev rfl) (hS.get 0 rfl) rfl) ?_
 clear hF fa; intro fa hF
 refine st_val hF rfl rfl rfl (ex_len TfH.sls22 (hF.ev rfl)) ?_
 clear hF fa; intro fa hF
 refine st_val hF rfl rfl rfl (ex_eql (hF.ev rfl) (hF.ev rfl)) ?_
 clear hF fa; intro fa hF
 refine c_nil_then ?_
 refine c_cond hF rfl (fun hc5 => ?_) (fun hc5 => ?_)
 ·
  have hc5p : (((lim a.natAbs).length : Nat) : Int) = 0 := by first | simpa using hc5 | exact bang_t hc5 | exact bang_f hc5
  refine c_seq ?_
  refine c_reg ?_
  refine st_val hF rfl rfl rfl (ex_assign (hF.ev rfl)) ?_
  clear hF fa; intro fa hF
  refine c_nil_then ?_
  refine c_ret ?_
  refine x_tr ?_
  have h0 := lim_len_zero (n := a.natAbs)
  refine end1 hF rfl (res_tmp hF rfl) ?_
  exact ⟨_, rfl, (congrArg (Value.int .i64) (by unfold sgnI; split <;> (try split) <;> omega)), hS.below⟩
 have hc5p : ¬ ((((lim a.natAbs).length : Nat) : Int) = 0) := by first | simpa using hc5 | exact bang_t hc5 | exact bang_f hc5
 refine c_skip ?_
 refine x_tn ?_
 refine c_seq ?_
 refine c_seq ?_
 refine c_reg ?_
 refine st_val hF rfl rfl rfl (ex_field_addr TfH.off24_0 (hF.ev rfl)) ?_
 clear hF fa; intro fa hF
 refine st_val hF rfl rfl rfl (ex_load1b TfH.one4 (hF.ev rfl) (hS.get 0 rfl) rfl) ?_
 clear hF fa; intro fa hF
 refine c_nil_then ?_
 refine c_cond hF rfl (fun hc6 => ?_) (fun hc6 => ?_)
 ·
  have hc6p : a < 0 := by first | simpa using hc6 | exact bang_t hc6 | exact bang_f hc6
  refine c_seq ?_
  refine c_reg ?_
  refine st_val hF rfl rfl rfl (ex_assign (hF.ev rfl)) ?_
  clear hF fa; intro fa hF
  refine c_nil_then ?_
  refine c_ret ?_
  refine x_tr ?_
  have h0 := lim_len_zero (n := a.natAbs)
  refine end1 hF rfl (res_tmp hF rfl) ?_
  exact ⟨_, rfl, (congrArg (Value.int .i64) (by unfold sgnI; split <;> (try split) <;> omega)), hS.below⟩
 have hc6p : ¬ (a < 0) := by first | simpa using hc6 | exact bang_t hc6 | exact bang_f hc6
 refine c_skip ?_
 refine x_tn ?_
 refine c_seq ?_
 refine c_reg ?_
 refine st_val hF rfl rfl rfl (ex_assign (hF.ev rfl)) ?_
 clear hF fa; intro fa hF
 refine c_nil_then ?_
 refine c_ret ?_
 have h0 := lim_len_zero (n := a.natAbs)
 refine end1 hF rfl (res_tmp hF rfl) ?_
 exact ⟨_, rfl, (congrArg (Value.int .i64) (by unfold sgnI; split <;> (try split) <;> omega)), hS.below⟩

set_option maxHeartbeats 4000000 in
theorem integer_Sign_ok {w : World} {X : List Nat} (hX : ∀ m ∈ X, m < w.heap.size) {v_a : Value} {a : Int} (h_a : IntV w X v_a (a)) :
    Calls Try.prog 33 #[v_a] w (Ret fun r w' => (r = .int .i64 (sgnI a)) ∧ Below w.heap.size w w') := by
 refine enter (N := 11) (fn := Try.f33) (vs := [v_a]) Try.func33 rfl rfl rfl ?_
 intro fa hF
 obtain ⟨_, rfl, A_a, c_a, rfl, hu_a⟩ := h_a
 have hl_a := hu_a.len; have hc_a := hu_a.cap
 replace hF : Frm 11 fa [(0, (.agg (ic (A_a) (c_a) (a))))] := hF
 have hS := St.refl w
 refine c_seq ?_
 refine c_reg ?_
 refine st rfl (op_box (X := X) hF hS rfl rfl rfl ?_)
 intro g1 w2 hg4 hS E3; refine gen_ ?_; clear hF fa; intro fa hF
 replace hS : St w w2 [(g1, 24, (ic (A_a) (c_a) (a)))] := hS
 refine st_val hF rfl rfl rfl (ex_assign (hF.ev rfl)) ?_
 clear hF fa; intro fa hF
 refine c_nil_then ?_
 refine c_seq ?_
 refine c_block ?_
 refine c_seq ?_
 refine c_reg ?_
 refine st_val hF rfl rfl rfl (ex_field_addr TfH.off24_0 (hF.ev rfl)) ?_
 clear hF fa; intro fa hF
 refine st_val hF rfl rfl rfl (ex_load1b TfH.one4 (hF.ev rfl) (hS.get 0 rfl) rfl) ?_
 clear hF fa; intro fa hF
 refine st_val hF rfl rfl rfl (ex_assign (hF.ev rfl)) ?_
 clear hF fa; intro fa hF
 refine c_nil_then ?_
 refine c_cond hF rfl (fun hc5 => ?_) (fun hc5 => ?_)
 ·
  have hc5p : a < 0 := by first | simpa using hc5 | exact bang_t hc5 | exact bang_f hc5
  refine c_seq ?_
  refine c_reg ?_
  refine st_val hF rfl rfl rfl (ex_assign (hF.ev rfl)) ?_
  clear hF fa; intro fa hF
  refine c_nil_then ?_
  refine c_ret ?_
  refine x_br ?_
  refine x_tr ?_
  have h0 := lim_len_zero (n := a.natAbs)
  refine end1 hF rfl (res_tmp hF rfl) ?_
  exact ⟨_, rfl, (congrArg (Value.int .i64) (by unfold sgnI; split <;> (try split) <;> omega)), hS.below⟩
 have hc5p : ¬ (a < 0) := by first | simpa using hc5 | exact bang_t hc5 | exact bang_f hc5
 refine c_seq ?_
 refine c_reg ?_
 refine st_val hF rfl rfl rfl (ex_field_addr TfH.off24_1 (hF.ev rfl)) ?_
 clear hF fa; intro fa hF
 refine st_val hF rfl rfl rfl (ex_load1b TfH.one22 (hF.ev rfl) (hS.get 0 rfl) rfl) ?_
 clear hF fa; intro fa hF
 refine st_val hF rfl rfl rfl (ex_len TfH.sls22 (hF.ev rfl)) ?_
 clear hF fa; intro fa hF
 refine st_val hF rfl rfl rfl (ex_gtr (hF.ev rfl) (hF.ev rfl)) ?_
 clear hF fa; intro fa hF
 refine st_val hF rfl rfl rfl (ex_assign (hF.ev rfl)) ?_
 clear hF fa; intro fa hF
 refine c_nil_then ?_
 refine c_cond hF rfl (fun hc6 => ?_) (fun hc6 => ?_)
 ·
  have hc6p : (((lim a.natAbs).length : Nat) : Int) > 0 := by first | simpa using hc6 | exact bang_t hc6 | exact bang_f hc6
  refine c_seq ?_
  refine c_reg ?_
  refine st_val hF rfl rfl rfl (ex_assign (hF.ev rfl)) ?_
  clear hF fa; intro fa hF
  refine c_nil_then ?_
  refine c_ret ?_
  refine x_br ?_
  refine x_tr ?_
  have h0 := lim_len_zero (n := a.natAbs)
  refine end1 hF rfl (res_tmp hF rfl) ?_
  exact ⟨_, rfl, (congrArg (Value.int .i64) (by unfold sgnI; split <;> (try split) <;> omega)), hS.below⟩
 have hc6p : ¬ ((((lim a.natAbs).length : Nat) : Int) > 0) := by first | simpa using hc6 | exact bang_t hc6 | exact bang_f hc6
 refine c_skip ?_
 refine x_bn ?_
 refine x_tn ?_
 refine c_seq ?_
 refine c_reg ?_
 refine st_val hF rfl rfl rfl (ex_assign (hF.ev rfl)) ?_
 clear hF fa; intro fa hF
 refine c_nil_then ?_
 refine c_ret ?_
 have h0 := lim_len_zero (n := a.natAbs)
 refine end1 hF rfl (res_tmp hF rfl) ?_
 exact ⟨_, rfl, (congrArg (Value.int .i64) (by unfold sgnI; split <;> (try split) <;> omega)), hS.below⟩

set_option maxHeartbeats 4000000 in
theorem ref01_Cmp_ok {w : World} {X : List Nat} (hX : ∀ m ∈ X, m < w.heap.size) {v_a : Value} {a : Int} (h_a : IntV w X v_a (a)) {v_b : Value} {b : Int} (h_b : IntV w X v_b (b)) :
    Calls Try.prog 17 #[v_a, v_b] w (Ret fun r w' => (r = .int .i64 (cmpI a b)) ∧ Below w.heap.size w w') := by
 refine enter (N := 24) (fn := Try.f17) (vs := [v_a, v_b]) Try.func17 rfl rfl rfl ?_
 intro fa hF
 obtain ⟨_, rfl, A_a, c_a, rfl, hu_a⟩ := h_a
 have hl_a := hu_a.len; have hc_a := hu_a.cap
 obtain ⟨_, rfl, A_b, c_b, rfl, hu_b⟩ := h_b
 have hl_b := hu_b.len; have hc_b := hu_b.cap
 replace hF : Frm 24 fa [(0, (.agg (ic (A_a) (c_a) (a)))), (1, (.agg (ic (A_b) (c_b) (b))))] := hF
 have hS := St.refl w
 refine c_seq ?_
 refine c_reg ?_
 refine st rfl (op_box (X := X) hF hS rfl rfl rfl ?_)
 intro g1 w2 hg4 hS E3; refine gen_ ?_; clear hF fa; intro fa hF
 replace hS : St w w2 [(g1, 24, (ic (A_a) (c_a) (a)))] := hS
 refine st rfl (op_box (X := (g1 :: X)) hF hS rfl rfl rfl ?_)
 intro g5 w6 hg8 hS E7; refine gen_ ?_; clear hF fa; intro fa hF
 replace hS : St w w6 [(g5, 24, (ic (A_b) (c_b) (b))), (g1, 24, (ic (A_a) (c_a) (a)))] := hS
 refine st_val hF rfl rfl rfl (ex_assign (hF.ev rfl)) ?_
 clear hF fa; intro fa hF
 refine c_nil_then ?_
 refine c_seq ?_
 refine c_seq ?_
 refine c_reg ?_
 refine st_val hF rfl rfl rfl (ex_field_addr TfH.off24_0 (hF.ev rfl)) ?_
 clear hF fa; intro fa hF
 refine st_val hF rfl rfl rfl (ex_load1b TfH.one4 (hF.ev rfl) (hS.get 1 rfl) rfl) ?_
 clear hF fa; intro fa hF
 refine st_val hF rfl rfl rfl (ex_field_addr TfH.off24_0 (hF.ev rfl)) ?_
 clear hF fa; intro fa hF
 refine st_val hF rfl rfl rfl (ex_load1b TfH.one4 (hF.ev rfl) (hS.get 0 rfl) rfl) ?_
 clear hF fa; intro fa hF
 refine st_val hF rfl rfl rfl (ex_neb TfH.und4 (hF.ev rfl) (hF.ev rfl)) ?_
 clear hF fa; intro fa hF
 refine c_nil_then ?_
 refine c_cond hF rfl (fun hc9 => ?_) (fun hc9 => ?_)
 ·
  have hc9p : ¬ ((a < 0) ↔ (b < 0)) := by first | simpa using hc9 | exact bang_t hc9 | exact bang_f hc9
  refine c_seq ?_
  refine c_seq ?_
  refine c_reg ?_
  refine st_val hF rfl rfl rfl (ex_field_addr TfH.off24_0 (hF.ev rfl)) ?_
  clear hF fa; intro fa hF
  refine st_val hF rfl rfl rfl (ex_load1b TfH.one4 (hF.ev rfl) (hS.get 1 rfl) rfl) ?_
  clear hF fa; intro fa hF
  refine c_nil_then ?_
  refine c_cond hF rfl (fun hc10 => ?_) (fun hc10 => ?_)
  ·
   have hc10p : a < 0 := by first | simpa using hc10 | exact bang_t hc10 | exact bang_f hc10
   refine c_seq ?_
   refine c_reg ?_
   refine st_val hF rfl rfl rfl (ex_assign (hF.ev rfl)) ?_
   clear hF fa; intro fa hF
   refine c_nil_then ?_
   refine c_ret ?_
   refine x_tr ?_
   refine x_tr ?_
   refine end1 hF rfl (res_tmp hF rfl) ?_
   exact ⟨_, rfl, (congrArg (Value.int .i64) ((cmpI_lt (by omega)).symm)), hS.below⟩
  have hc10p : ¬ (a < 0) := by first | simpa using hc10 | exact bang_t hc10 | exact bang_f hc10
  refine c_skip ?_
  refine x_tn ?_
  refine c_seq ?_
  refine c_reg ?_
  refine st_val hF rfl rfl rfl (ex_assign (hF.ev rfl)) ?_
  clear hF fa; intro fa hF
  refine c_nil_then ?_
  refine c_ret ?_
  refine x_tr ?_
  refine end1 hF rfl (res_tmp hF rfl) ?_
  exact ⟨_, rfl, (congrArg (Value.int .i64) ((cmpI_gt (by omega)).symm)), hS.below⟩
 have hc9p : ¬ (¬ ((a < 0) ↔ (b < 0))) := by first | simpa using hc9 | exact bang_t hc9 | exact bang_f hc9
 refine c_skip ?_
 refine x_tn ?_
 refine c_seq ?_
 refine c_seq ?_
 refine c_reg ?_
 refine st_val hF rfl rfl rfl (ex_field_addr TfH.off24_0 (hF.ev rfl)) ?_
 clear hF fa; intro fa hF
 refine st_val hF rfl rfl rfl (ex_load1b TfH.one4 (hF.ev rfl) (hS.get 1 rfl) rfl) ?_
 clear hF fa; intro fa hF
 refine c_nil_then ?_
 refine c_cond hF rfl (fun hc11 => ?_) (fun hc11 => ?_)
 ·
  have hc11p : a < 0 := by first | simpa using hc11 | exact bang_t hc11 | exact bang_f hc11
  refine c_seq ?_
  refine c_reg ?_
  refine st_val hF rfl rfl rfl (ex_field_addr TfH.off24_1 (hF.ev rfl)) ?_
  clear hF fa; intro fa hF
  refine st_val hF rfl rfl rfl (ex_load1b TfH.one22 (hF.ev rfl) (hS.get 0 rfl) rfl) ?_
  clear hF fa; intro fa hF
  refine st_val hF rfl rfl rfl (ex_field_addr TfH.off24_1 (hF.ev rfl)) ?_
  clear hF fa; intro fa hF
  refine st_val hF rfl rfl rfl (ex_load1b TfH.one22 (hF.ev rfl) (hS.get 1 rfl) rfl) ?_
  clear hF fa; intro fa hF
  have hC := ref01_compare_ok (w := w6) (X := (g5 :: (g1 :: X))) (a := (lim b.natAbs)) (b := (lim a.natAbs)) (hS.bnd hX) ⟨_, ((lim b.natAbs).length), _, rfl, (rfl), (hu_b.ext (E3.trans E7))⟩ ⟨_, ((lim a.natAbs).length), _, rfl, (rfl), (hu_a.ext (E3.trans E7))⟩ (CanL.lim _) (CanL.lim _)
  refine st rfl (op_call hF rfl TfH.body42 (args2 (hF.ev rfl) (hF.ev rfl)) hC ?_)
  clear hC
  rintro _ w12 ⟨rfl, hb13⟩
  refine gen_ ?_; clear hF fa; intro fa hF
  replace hS := hS.call hb13; have E14 := Ext.call (g5 :: (g1 :: X)) hb13
  refine st_val hF rfl rfl rfl (ex_assign (hF.ev rfl)) ?_
  clear hF fa; intro fa hF
  refine c_nil_then ?_
  refine c_ret ?_
  refine x_tr ?_
  refine end1 hF rfl (res_tmp hF rfl) ?_
  exact ⟨_, rfl, (congrArg (Value.int .i64) (by rw [val_lim, val_lim]; exact (cmpI_neg (by omega) (by omega)).symm)), hS.below⟩
 have hc11p : ¬ (a < 0) := by first | simpa using hc11 | exact bang_t hc11 | exact bang_f hc11
 refine c_skip ?_
 refine x_tn ?_
 refine c_seq ?_
 refine c_reg ?_
 refine st_val hF rfl rfl rfl (ex_field_addr TfH.off24_1 (hF.ev rfl)) ?_
 clear hF fa; intro fa hF
 refine st_val hF rfl rfl rfl (ex_load1b TfH.one22 (hF.ev rfl) (hS.get 1 rfl) rfl) ?_
 clear hF fa; intro fa hF
 refine st_val hF rfl rfl rfl (ex_field_addr TfH.off24_1 (hF.ev rfl)) ?_
 clear hF fa; intro fa hF
 refine st_val hF rfl rfl rfl (ex_load1b TfH.one22 (hF.ev rfl) (hS.get 0 rfl) rfl) ?_
 clear hF fa; intro fa hF
 have hC := ref01_compare_ok (w := w6) (X := (g5 :: (g1 :: X))) (a := (lim a.natAbs)) (b := (lim b.natAbs)) (hS.bnd hX) ⟨_, ((lim a.natAbs).length), _, rfl, (rfl), (hu_a.ext (E3.trans E7))⟩ ⟨_, ((lim b.natAbs).length), _, rfl, (rfl), (hu_b.ext (E3.trans E7))⟩ (CanL.lim _) (CanL.lim _)
 refine st rfl (op_call hF rfl TfH.body42 (args2 (hF.ev rfl) (hF.ev rfl)) hC ?_)
 clear hC
 rintro _ w15 ⟨rfl, hb16⟩
 refine gen_ ?_; clear hF fa; intro fa hF
 replace hS := hS.call hb16; have E17 := Ext.call (g5 :: (g1 :: X)) hb16
 refine st_val hF rfl rfl rfl (ex_assign (hF.ev rfl)) ?_
 clear hF fa; intro fa hF
 refine c_nil_then ?_
 refine c_ret ?_
 refine end1 hF rfl (res_tmp hF rfl) ?_
 exact ⟨_, rfl, (congrArg (Value.int .i64) (by rw [val_lim, val_lim]; exact (cmpI_pos (by omega) (by omega)).symm)), hS.below⟩

set_option maxHeartbeats 4000000 in
theorem integer_Cmp_ok {w : World} {X : List Nat} (hX : ∀ m ∈ X, m < w.heap.size) {v_a : Value} {a : Int} (h_a : IntV w X v_a (a)) {v_b : Value} {b : Int} (h_b : IntV w X v_b (b)) :
    Calls Try.prog 34 #[v_a, v_b] w (Ret fun r w' => (r = .int .i64 (cmpI a b)) ∧ Below w.heap.size w w') := by
 refine enter (N := 24) (fn := Try.f34) (vs := [v_a, v_b]) Try.func34 rfl rfl rfl ?_
 intro fa hF
 obtain ⟨_, rfl, A_a, c_a, rfl, hu_a⟩ := h_a
 have hl_a := hu_a.len; have hc_a := hu_a.cap
 obtain ⟨_, rfl, A_b, c_b, rfl, hu_b⟩ := h_b
 have hl_b := hu_b.len; have hc_b := hu_b.cap
 replace hF : Frm 24 fa [(0, (.agg (ic (A_a) (c_a) (a)))), (1, (.agg (ic (A_b) (c_b) (b))))] := hF
 have hS := St.refl w
 refine c_seq ?_
 refine c_reg ?_
 refine st rfl (op_box (X := X) hF hS rfl rfl rfl ?_)
 intro g1 w2 hg4 hS E3; refine gen_ ?_; clear hF fa; intro fa hF
 replace hS : St w w2 [(g1, 24, (ic (A_a) (c_a) (a)))] := hS
 refine st rfl (op_box (X := (g1 :: X)) hF hS rfl rfl rfl ?_)
 intro g5 w6 hg8 hS E7; refine gen_ ?_; clear hF fa; intro fa hF
 replace hS : St w w6 [(g5, 24, (ic (A_b) (c_b) (b))), (g1, 24, (ic (A_a) (c_a) (a)))] := hS
 refine st_val hF rfl rfl rfl (ex_assign (hF.ev rfl)) ?_
 clear hF fa; intro fa hF
 refine c_nil_then ?_
 refine c_seq ?_
 refine c_seq ?_
 refine c_reg ?_
 refine st_val hF rfl rfl rfl (ex_field_addr TfH.off24_0 (hF.ev rfl)) ?_
 clear hF fa; intro fa hF
 refine st_val hF rfl rfl rfl (ex_load1b TfH.one4 (hF.ev rfl) (hS.get 1 rfl) rfl) ?_
 clear hF fa; intro fa hF
 refine st_val hF rfl rfl rfl (ex_field_addr TfH.off24_0 (hF.ev rfl)) ?_
 clear hF fa; intro fa hF
 refine st_val hF rfl rfl rfl (ex_load1b TfH.one4 (hF.ev rfl) (hS.get 0 rfl) rfl) ?_
 clear hF fa; intro fa hF
 refine st_val hF rfl rfl rfl (ex_neb TfH.und4 (hF.ev rfl) (hF.ev rfl)) ?_
 clear hF fa; intro fa hF
 refine c_nil_then ?_
 refine c_cond hF rfl (fun hc9 => ?_) (fun hc9 => ?_)
 ·
  have hc9p : ¬ ((a < 0) ↔ (b < 0)) := by first | simpa using hc9 | exact bang_t hc9 | exact bang_f hc9
  refine c_seq ?_
  refine c_seq ?_
  refine c_reg ?_
  refine st_val hF rfl rfl rfl (ex_field_addr TfH.off24_0 (hF.ev rfl)) ?_
  clear hF fa; intro fa hF
  refine st_val hF rfl rfl rfl (ex_load1b TfH.one4 (hF.ev rfl) (hS.get 1 rfl) rfl) ?_
  clear hF fa; intro fa hF
  refine c_nil_then ?_
  refine c_cond hF rfl (fun hc10 => ?_) (fun hc10 => ?_)
  ·
   have hc10p : a < 0 := by first | simpa using hc10 | exact bang_t hc10 | exact bang_f hc10
   refine c_seq ?_
   refine c_reg ?_
   refine st_val hF rfl rfl rfl (ex_assign (hF.ev rfl)) ?_
   clear hF fa; intro fa hF
   refine c_nil_then ?_
   refine c_ret ?_
   refine x_tr ?_
   refine x_tr ?_
   refine end1 hF rfl (res_tmp hF rfl) ?_
   exact ⟨_, rfl, (congrArg (Value.int .i64) ((cmpI_lt (by omega)).symm)), hS.below⟩
  have hc10p : ¬ (a < 0) := by first | simpa using hc10 | exact bang_t hc10 | exact bang_f hc10
  refine c_skip ?_
  refine x_tn ?_
  refine c_seq ?_
  refine c_reg ?_
  refine st_val hF rfl rfl rfl (ex_assign (hF.ev rfl)) ?_
  clear hF fa; intro fa hF
  refine c_nil_then ?_
  refine c_ret ?_
  refine x_tr ?_
  refine end1 hF rfl (res_tmp hF rfl) ?_
  exact ⟨_, rfl, (congrArg (Value.int .i64) ((cmpI_gt (by omega)).symm)), hS.below⟩
 have hc9p : ¬ (¬ ((a < 0) ↔ (b < 0))) := by first | simpa using hc9 | exact bang_t hc9 | exact bang_f hc9
 refine c_skip ?_
 refine x_tn ?_
 refine c_seq ?_
 refine c_seq ?_
 refine c_reg ?_
 refine st_val hF rfl rfl rfl (ex_field_addr TfH.off24_0 (hF.ev rfl)) ?_
 clear hF fa; intro fa hF
 refine st_val hF rfl rfl rfl (ex_load1b TfH.one4 (hF.ev rfl) (hS.get 1 rfl) rfl) ?_
 clear hF fa; intro fa hF
 refine c_nil_then ?_
 refine c_cond hF rfl (fun hc11 => ?_) (fun hc11 => ?_)
 ·
  have hc11p : a < 0 := by first | simpa using hc11 | exact bang_t hc11 | exact bang_f hc11
  refine c_seq ?_
  refine c_reg ?_
  refine st_val hF rfl rfl rfl (ex_field_addr TfH.off24_1 (hF.ev rfl)) ?_
  clear hF fa; intro fa hF
  refine st_val hF rfl rfl rfl (ex_load1b TfH.one22 (hF.ev rfl) (hS.get 0 rfl) rfl) ?_
  clear hF fa; intro fa hF
  refine st_val hF rfl rfl rfl (ex_field_addr TfH.off24_1 (hF.ev rfl)) ?_
  clear hF fa; intro fa hF
  refine st_val hF rfl rfl rfl (ex_load1b TfH.one22 (hF.ev rfl) (hS.get 1 rfl) rfl) ?_
  clear hF fa; intro fa hF
  have hC := integer_compare_ok (w := w6) (X := (g5 :: (g1 :: X))) (a := (lim b.natAbs)) (b := (lim a.natAbs)) (hS.bnd hX) ⟨_, ((lim b.natAbs).length), _, rfl, (rfl), (hu_b.ext (E3.trans E7))⟩ ⟨_, ((lim a.natAbs).length), _, rfl, (rfl), (hu_a.ext (E3.trans E7))⟩ (lb_lim _) (lb_lim _)
  refine st rfl (op_call hF rfl TfH.body56 (args2 (hF.ev rfl) (hF.ev rfl)) hC ?_)
  clear hC
  rintro _ w12 ⟨rfl, hb13⟩
  refine gen_ ?_; clear hF fa; intro fa hF
  replace hS := hS.call hb13; have E14 := Ext.call (g5 :: (g1 :: X)) hb13
  refine st_val hF rfl rfl rfl (ex_assign (hF.ev rfl)) ?_
  clear hF fa; intro fa hF
  refine c_nil_then ?_
  refine c_ret ?_
  refine x_tr ?_
  refine end1 hF rfl (res_tmp hF rfl) ?_
  exact ⟨_, rfl, (congrArg (Value.int .i64) (by rw [val_lim, val_lim]; exact (cmpI_neg (by omega) (by omega)).symm)), hS.below⟩
 have hc11p : ¬ (a < 0) := by first | simpa using hc11 | exact bang_t hc11 | exact bang_f hc11
 refine c_skip ?_
 refine x_tn ?_
 refine c_seq ?_
 refine c_reg ?_
 refine st_val hF rfl rfl rfl (ex_field_addr TfH.off24_1 (hF.ev rfl)) ?_
 clear hF fa; intro fa hF
 refine st_val hF rfl rfl rfl (ex_load1b TfH.one22 (hF.ev rfl) (hS.get 1 rfl) rfl) ?_
 clear hF fa; intro fa hF
 refine st_val hF rfl rfl rfl (ex_field_addr TfH.off24_1 (hF.ev rfl)) ?_
 clear hF fa; intro fa hF
 refine st_val hF rfl rfl rfl (ex_load1b TfH.one22 (hF.ev rfl) (hS.get 0 rfl) rfl) ?_
 clear hF fa; intro fa hF
 have hC := integer_compare_ok (w := w6) (X := (g5 :: (g1 :: X))) (a := (lim a.natAbs)) (b := (lim b.natAbs)) (hS.bnd hX) ⟨_, ((lim a.natAbs).length), _, rfl, (rfl), (hu_a.ext (E3.trans E7))⟩ ⟨_, ((lim b.natAbs).length), _, rfl, (rfl), (hu_b.ext (E3.trans E7))⟩ (lb_lim _) (lb_lim _)
 refine st rfl (op_call hF rfl TfH.body56 (args2 (hF.ev rfl) (hF.ev rfl)) hC ?_)
 clear hC
 rintro _ w15 ⟨rfl, hb16⟩
 refine gen_ ?_; clear hF fa; intro fa hF
 replace hS := hS.call hb16; have E17 := Ext.call (g5 :: (g1 :: X)) hb16
 refine st_val hF rfl rfl rfl (ex_assign (hF.ev rfl)) ?_
 clear hF fa; intro fa hF
 refine c_nil_then ?_
 refine c_ret ?_
 refine end1 hF rfl (res_tmp hF rfl) ?_
 exact ⟨_, rfl, (congrArg (Value.int .i64) (by rw [val_lim, val_lim]; exact (cmpI_pos (by omega) (by omega)).symm)), hS.below⟩

set_option maxHeartbeats 4000000 in
theorem ref01_Same_ok {w : World} {X : List Nat} (hX : ∀ m ∈ X, m < w.heap.size) {v_a : Value} {a : Int} (h_a : IntV w X v_a (a)) {v_b : Value} {b : Int} (h_b : IntV w X v_b (b)) :
    Calls Try.prog 44 #[v_a, v_b] w (Ret fun r w' => (r = .bool (decide (a = b))) ∧ Below w.heap.size w w') := by
 refine enter (N := 18) (fn := Try.f44) (vs := [v_a, v_b]) Try.func44 rfl rfl rfl ?_
 intro fa hF
 obtain ⟨_, rfl, A_a, c_a, rfl, hu_a⟩ := h_a
 have hl_a := hu_a.len; have hc_a := hu_a.cap
 obtain ⟨_, rfl, A_b, c_b, rfl, hu_b⟩ := h_b
 have hl_b := hu_b.len; have hc_b := hu_b.cap
 replace hF : Frm 18 fa [(0, (.agg (ic (A_a) (c_a) (a)))), (1, (.agg (ic (A_b) (c_b) (b))))] := hF
 have hS := St.refl w
 refine c_seq ?_
 refine c_reg ?_
 refine st rfl (op_box (X := X) hF hS rfl rfl rfl ?_)
 intro g1 w2 hg4 hS E3; refine gen_ ?_; clear hF fa; intro fa hF
 replace hS : St w w2 [(g1, 24, (ic (A_a) (c_a) (a)))] := hS
 refine st rfl (op_box (X := (g1 :: X)) hF hS rfl rfl rfl ?_)
 intro g5 w6 hg8 hS E7; refine gen_ ?_; clear hF fa; intro fa hF
 replace hS : St w w6 [(g5, 24, (ic (A_b) (c_b) (b))), (g1, 24, (ic (A_a) (c_a) (a)))] := hS
 refine st_val hF rfl rfl rfl (ex_assign (hF.ev rfl)) ?_
 clear hF fa; intro fa hF
 refine c_nil_then ?_
 refine c_seq ?_
 refine c_reg ?_
 refine st_val hF rfl rfl rfl (ex_field_addr TfH.off24_0 (hF.ev rfl)) ?_
 clear hF fa; intro fa hF
 refine st_val hF rfl rfl rfl (ex_load1b TfH.one4 (hF.ev rfl) (hS.get 1 rfl) rfl) ?_
 clear hF fa; intro fa hF
 refine st_val hF rfl rfl rfl (ex_field_addr TfH.off24_0 (hF.ev rfl)) ?_
 clear hF fa; intro fa hF
 refine st_val hF rfl rfl rfl (ex_load1b TfH.one4 (hF.ev rfl) (hS.get 0 rfl) rfl) ?_
 clear hF fa; intro fa hF
 refine st_val hF rfl rfl rfl (ex_eqb TfH.und4 (hF.ev rfl) (hF.ev rfl)) ?_
 clear hF fa; intro fa hF
 refine st_val hF rfl rfl rfl (ex_move (hF.ev rfl)) ?_
 clear hF fa; intro fa hF
 rcases Bool.eq_false_or_eq_true ((decide (a < 0)) == (decide (b < 0))) with hg9 | hg9
 ·
  replace hF := hF.cons (t := 10) (v := .bool true) ((hF.get 10 _ rfl).trans (congrArg Value.bool hg9))
  have hg9p : ((a < 0) ↔ (b < 0)) := by simpa using hg9
  refine stg_val hF rfl rfl rfl rfl (ex_field_addr TfH.off24_1 (hF.ev rfl)) ?_
  clear hF fa; intro fa hF
  refine stg_val hF rfl rfl rfl rfl (ex_load1b TfH.one22 (hF.ev rfl) (hS.get 1 rfl) rfl) ?_
  clear hF fa; intro fa hF
  refine stg_val hF rfl rfl rfl rfl (ex_field_addr TfH.off24_1 (hF.ev rfl)) ?_
  clear hF fa; intro fa hF
  refine stg_val hF rfl rfl rfl rfl (ex_load1b TfH.one22 (hF.ev rfl) (hS.get 0 rfl) rfl) ?_
  clear hF fa; intro fa hF
  have hC := ref01_compare_ok (w := w6) (X := (g5 :: (g1 :: X))) (a := (lim a.natAbs)) (b := (lim b.natAbs)) (hS.bnd hX) ⟨_, ((lim a.natAbs).length), _, rfl, (rfl), (hu_a.ext (E3.trans E7))⟩ ⟨_, ((lim b.natAbs).length), _, rfl, (rfl), (hu_b.ext (E3.trans E7))⟩ (CanL.lim _) (CanL.lim _)
  refine stg hF rfl rfl (op_call hF rfl TfH.body42 (args2 (hF.ev rfl) (hF.ev rfl)) hC ?_)
  clear hC
  rintro _ w10 ⟨rfl, hb11⟩
  refine gen_ ?_; clear hF fa; intro fa hF
  replace hS := hS.call hb11; have E12 := Ext.call (g5 :: (g1 :: X)) hb11
  refine stg_val hF rfl rfl rfl rfl (ex_eql (hF.ev rfl) (hF.ev rfl)) ?_
  clear hF fa; intro fa hF
  refine st_val hF rfl rfl rfl (ex_pick (hF.ev rfl) (fun _ => hF.ev rfl) (v := undef) (fun h => by cases h) rfl) ?_
  clear hF fa; intro fa hF
  refine st_val hF rfl rfl rfl (ex_assign (hF.ev rfl)) ?_
  clear hF fa; intro fa hF
  replace hF : Frm 18 fa [(0, (.agg (ic (A_a) (c_a) (a)))), (1, (.agg (ic (A_b) (c_b) (b)))), (2, (.pointer (some ⟨g1, 0, none⟩))), (3, (.pointer (some ⟨g5, 0, none⟩))), (4, (.bool (decide ((cmpN (val ((lim a.natAbs))) (val ((lim b.natAbs)))) = 0))))] := (hF.take (hF.take (hF.take (hF.take (hF.take hF.nil rfl) rfl) rfl) rfl) rfl)
  refine c_nil_then ?_
  refine c_ret ?_
  refine end1 hF rfl (res_tmp hF rfl) ?_
  exact ⟨_, rfl, (congrArg Value.bool (by rw [val_lim, val_lim, decide_eq_decide, cmpN_eq0]; omega)), hS.below⟩
 replace hF := hF.cons (t := 10) (v := .bool false) ((hF.get 10 _ rfl).trans (congrArg Value.bool hg9))
 have hg9p : ¬ (((a < 0) ↔ (b < 0))) := by simpa using hg9
 refine st_skip hF rfl rfl rfl rfl rfl ?_
 clear hF fa; intro fa hF
 refine st_skip hF rfl rfl rfl rfl rfl ?_
 clear hF fa; intro fa hF
 refine st_skip hF rfl rfl rfl rfl rfl ?_
 clear hF fa; intro fa hF
 refine st_skip hF rfl rfl rfl rfl rfl ?_
 clear hF fa; intro fa hF
 refine st_skip hF rfl rfl rfl rfl rfl ?_
 clear hF fa; intro fa hF
 refine st_skip hF rfl rfl rfl rfl rfl ?_
 clear hF fa; intro fa hF
 refine st_val hF rfl rfl rfl (ex_pick (hF.ev rfl) (u := undef) (fun h => by cases h) (fun _ => hF.ev rfl) rfl) ?_
 clear hF fa; intro fa hF
 refine st_val hF rfl rfl rfl (ex_assign (hF.ev rfl)) ?_
 clear hF fa; intro fa hF
 replace hF : Frm 18 fa [(0, (.agg (ic (A_a) (c_a) (a)))), (1, (.agg (ic (A_b) (c_b) (b)))), (2, (.pointer (some ⟨g1, 0, none⟩))), (3, (.pointer (some ⟨g5, 0, none⟩))), (4, (.bool (false)))] := (hF.take (hF.take (hF.take (hF.take (hF.take hF.nil rfl) rfl) rfl) rfl) rfl)
 refine c_nil_then ?_
 refine c_ret ?_
 refine end1 hF rfl (res_tmp hF rfl) ?_
 exact ⟨_, rfl, (congrArg Value.bool (by symm; rw [decide_eq_false_iff_not]; omega)), hS.below⟩

set_option maxHeartbeats 4000000 in
theorem ref01_Neg_ok {w : World} {X : List Nat} (hX : ∀ m ∈ X, m < w.heap.size) {v_a : Value} {a : Int} (h_a : IntV w X v_a (a)) (hs_a : sz a ≤ 1000000000) :
    Calls Try.prog 32 #[v_a] w (Ret fun r w' => (IntV w' X r (-a)) ∧ Below w.heap.size w w') := by
 refine enter (N := 9) (fn := Try.f32) (vs := [v_a]) Try.func32 rfl rfl rfl ?_
 intro fa hF
 obtain ⟨_, rfl, A_a, c_a, rfl, hu_a⟩ := h_a
 have hl_a := hu_a.len; have hc_a := hu_a.cap
 replace hF : Frm 9 fa [(0, (.agg (ic (A_a) (c_a) (a))))] := hF
 have hS := St.refl w
 have hz_a : (lim a.natAbs).length ≤ 1000000000 := by have h0 := hs_a; unfold sz at h0; omega
 refine c_seq ?_
 refine c_reg ?_
 refine st rfl (op_box (X := X) hF hS rfl rfl rfl ?_)
 intro g1 w2 hg4 hS E3; refine gen_ ?_; clear hF fa; intro fa hF
 replace hS : St w w2 [(g1, 24, (ic (A_a) (c_a) (a)))] := hS
 refine st rfl (op_alloc (X := (g1 :: X)) hF hS rfl TfH.zero24 ?_)
 intro g5 w6 hg8 hS E7; refine gen_ ?_; clear hF fa; intro fa hF
 replace hS : St w w6 [(g5, 24, #[(.bool (false)), (.slice (none) (0) (0))]), (g1, 24, (ic (A_a) (c_a) (a)))] := hS
 refine c_nil_then ?_
 refine c_seq ?_
 refine c_reg ?_
 refine st_val hF rfl rfl rfl (ex_field_addr TfH.off24_0 (hF.ev rfl)) ?_
 clear hF fa; intro fa hF
 refine st_val hF rfl rfl rfl (ex_load1b TfH.one4 (hF.ev rfl) (hS.get 1 rfl) rfl) ?_
 clear hF fa; intro fa hF
 refine st_val hF rfl rfl rfl (ex_not (hF.ev rfl)) ?_
 clear hF fa; intro fa hF
 refine st_val hF rfl rfl rfl (ex_field_addr TfH.off24_1 (hF.ev rfl)) ?_
 clear hF fa; intro fa hF
 refine st_val hF rfl rfl rfl (ex_load1b TfH.one22 (hF.ev rfl) (hS.get 1 rfl) rfl) ?_
 clear hF fa; intro fa hF
 have hC := ref01_signed_ok (w := w6) (X := (g5 :: (g1 :: X))) (l := (lim a.natAbs)) (hS.bnd hX) (!(decide (a < 0))) ⟨_, ((lim a.natAbs).length), _, rfl, (rfl), (hu_a.ext (E3.trans E7))⟩ (lb_lim _)
 refine st rfl (op_call hF rfl TfH.body45 (args2 (hF.ev rfl) (hF.ev rfl)) hC ?_)
 clear hC
 rintro _ w9 ⟨⟨_, rfl, A12, c13, rfl, hu14⟩, hb10⟩
 refine gen_ ?_; clear hF fa; intro fa hF
 replace hS := hS.call hb10; have E11 := Ext.call (g5 :: (g1 :: X)) hb10
 refine st rfl (op_store (X := (g5 :: (g1 :: X))) hF hS 0 rfl (by simp) rfl rfl rfl TfH.size24 rfl (Nat.le_of_ble_eq_true rfl) ?_)
 intro w15 hS E16
 replace hS : St w w15 [(g5, 24, (ic (A12) (c13) ((sgnv (!(decide (a < 0))) (val ((lim a.natAbs))))))), (g1, 24, (ic (A_a) (c_a) (a)))] := hS
 refine c_nil_then ?_
 refine c_ret ?_
 refine end1 hF rfl (res_cell hF rfl TfH.row24 (hS.get 0 rfl) rfl) ?_
 exact ⟨_, rfl, (IntV.fin (x := sgnv (!(decide (a < 0))) (val ((lim a.natAbs)))) ⟨_, rfl, _, _, rfl, (hu14.ext E16)⟩ (by rw [val_lim]; exact sgnv_neg a) (fun x hx => by simp [hx])), hS.below⟩

set_option maxHeartbeats 4000000 in
theorem integer_Neg_ok {w : World} {X : List Nat} (hX : ∀ m ∈ X, m < w.heap.size) {v_a : Value} {a : Int} (h_a : IntV w X v_a (a)) (hs_a : sz a ≤ 1000000000) :
    Calls Try.prog 31 #[v_a] w (Ret fun r w' => (IntV w' X r (-a)) ∧ Below w.heap.size w w') := by
 refine enter (N := 10) (fn := Try.f31) (vs := [v_a]) Try.func31 rfl rfl rfl ?_
 intro fa hF
 obtain ⟨_, rfl, A_a, c_a, rfl, hu_a⟩ := h_a
 have hl_a := hu_a.len; have hc_a := hu_a.cap
 replace hF : Frm 10 fa [(0, (.agg (ic (A_a) (c_a) (a))))] := hF
 have hS := St.refl w
 have hz_a : (lim a.natAbs).length ≤ 1000000000 := by have h0 := hs_a; unfold sz at h0; omega
 refine c_seq ?_
 refine c_reg ?_
 refine st rfl (op_box (X := X) hF hS rfl rfl rfl ?_)
 intro g1 w2 hg4 hS E3; refine gen_ ?_; clear hF fa; intro fa hF
 replace hS : St w w2 [(g1, 24, (ic (A_a) (c_a) (a)))] := hS
 refine st rfl (op_alloc (X := (g1 :: X)) hF hS rfl TfH.zero24 ?_)
 intro g5 w6 hg8 hS E7; refine gen_ ?_; clear hF fa; intro fa hF
 replace hS : St w w6 [(g5, 24, #[(.bool (false)), (.slice (none) (0) (0))]), (g1, 24, (ic (A_a) (c_a) (a)))] := hS
 refine c_nil_then ?_
 refine c_seq ?_
 refine drawn2 (N := 10) (L0 := [(0, (.agg (ic (A_a) (c_a) (a)))), (1, (.pointer (some ⟨g1, 0, none⟩))), (2, (.pointer (some ⟨g5, 0, none⟩)))]) [some (.pointer (some ⟨g1, 0, none⟩)), some (.bool (decide (a < 0))), some (.bool (!(decide (a < 0)))), some (.pointer (some ⟨g1, 1, none⟩)), some (.slice (A_a) ((lim a.natAbs).length) (c_a)), none, none, none] [5, 6, 7] [[], [5], [5, 6], [5, 6, 7]] [[0, 1, 2], [0, 1, 2], [0, 1], [0, 1, 2], [0], [0], [1], [2]] 3 [
       fun fa w' => Frm 10 fa [] ∧ St w w' [(g5, 24, #[(.bool (false)), (.slice (none) (0) (0))]), (g1, 24, (ic (A_a) (c_a) (a)))] ∧ Ext w6 (g5 :: (g1 :: X)) w' (g5 :: (g1 :: X))
       , fun fa w' => ∃ Ao1_5_7 : Option Addr, ∃ co1_5_8 : Nat, Frm 10 fa [(8, (.slice (Ao1_5_7) (((lim a.natAbs)).length) (co1_5_8)))] ∧ St w w' [(g5, 24, #[(.bool (false)), (.slice (none) (0) (0))]), (g1, 24, (ic (A_a) (c_a) (a)))] ∧ Ext w6 (g5 :: (g1 :: X)) w' (g5 :: (g1 :: X)) ∧ UC w' (g5 :: (g1 :: X)) Ao1_5_7 co1_5_8 ((lim a.natAbs))
       , fun fa w' => ∃ Ao1_5_7 : Option Addr, ∃ co1_5_8 : Nat, ∃ Ao1_6_4 : Option Addr, ∃ co1_6_5 : Nat, Frm 10 fa [(8, (.slice (Ao1_5_7) (((lim a.natAbs)).length) (co1_5_8))), (9, (.agg (ic (Ao1_6_4) (co1_6_5) ((sgnv (!(decide (a < 0))) (val ((lim a.natAbs))))))))] ∧ St w w' [(g5, 24, #[(.bool (false)), (.slice (none) (0) (0))]), (g1, 24, (ic (A_a) (c_a) (a)))] ∧ Ext w6 (g5 :: (g1 :: X)) w' (g5 :: (g1 :: X)) ∧ UC w' (g5 :: (g1 :: X)) Ao1_5_7 co1_5_8 ((lim a.natAbs)) ∧ UC w' (g5 :: (g1 :: X)) Ao1_6_4 co1_6_5 (lim (sgnv (!(decide (a < 0))) (val ((lim a.natAbs)))).natAbs)
       , fun fa w' => ∃ Ao1_5_7 : Option Addr, ∃ co1_5_8 : Nat, ∃ Ao1_6_4 : Option Addr, ∃ co1_6_5 : Nat, Frm 10 fa [(8, (.slice (Ao1_5_7) (((lim a.natAbs)).length) (co1_5_8))), (9, (.agg (ic (Ao1_6_4) (co1_6_5) ((sgnv (!(decide (a < 0))) (val ((lim a.natAbs))))))))] ∧ St w w' [(g5, 24, (ic (Ao1_6_4) (co1_6_5) ((sgnv (!(decide (a < 0))) (val ((lim a.natAbs))))))), (g1, 24, (ic (A_a) (c_a) (a)))] ∧ Ext w6 (g5 :: (g1 :: X)) w' (g5 :: (g1 :: X)) ∧ UC w' (g5 :: (g1 :: X)) Ao1_5_7 co1_5_8 ((lim a.natAbs)) ∧ UC w' (g5 :: (g1 :: X)) Ao1_6_4 co1_6_5 (lim (sgnv (!(decide (a < 0))) (val ((lim a.natAbs)))).natAbs)
     ] TfH.mixed rfl rfl rfl rfl rfl rfl (hF.take (hF.take (hF.take hF.nil rfl) rfl) rfl) rfl ⟨hF.nil, hS.drew, Ext.drew _ _⟩ ?_ ?_ ?_
 all_goals clear hF fa
 ·
  refine ⟨?_, ?_, ?_, ?_, trivial⟩
  ·
   rintro fa w' i o d v ho hd hna ⟨hA, hR⟩; exact ⟨hA.put_other v (freeOf_at (acts := [5, 6, 7]) rfl ho hd hna), hR⟩
  ·
   rintro fa w' i o d v ho hd hna ⟨Ao1_5_7, co1_5_8, hA, hR⟩; exact ⟨Ao1_5_7, co1_5_8, hA.put_other v (freeOf_at (acts := [5, 6, 7]) rfl ho hd hna), hR⟩
  ·
   rintro fa w' i o d v ho hd hna ⟨Ao1_5_7, co1_5_8, Ao1_6_4, co1_6_5, hA, hR⟩; exact ⟨Ao1_5_7, co1_5_8, Ao1_6_4, co1_6_5, hA.put_other v (freeOf_at (acts := [5, 6, 7]) rfl ho hd hna), hR⟩
  ·
   rintro fa w' i o d v ho hd hna ⟨Ao1_5_7, co1_5_8, Ao1_6_4, co1_6_5, hA, hR⟩; exact ⟨Ao1_5_7, co1_5_8, Ao1_6_4, co1_6_5, hA.put_other v (freeOf_at (acts := [5, 6, 7]) rfl ho hd hna), hR⟩
 ·
  refine ⟨?_, ?_, ?_, ?_, ?_, ?_, ?_, ?_, trivial⟩
  ·
   refine .inl ⟨rfl, _, _, rfl, rfl, fun s fa w' hΦ hF hB K hK => ?_⟩
   exact fl_val rfl rfl rfl (ex_field_addr TfH.off24_0 (hF.ev rfl)) hK
  ·
   refine .inr (.inl ⟨rfl, _, _, rfl, rfl, ?_, ?_, ?_, trivial⟩)
   ·
    intro fa w' hΦ hF hB K hK
    obtain ⟨hA, hS, E_w'⟩ := hΦ
    replace hF := hF.cons (hB.val 0 _ 3 _ rfl rfl rfl rfl)
    exact fl_val rfl rfl rfl (ex_load1b TfH.one4 (hF.ev rfl) (hS.get 1 rfl) rfl) hK
   ·
    intro fa w' hΦ hF hB K hK
    obtain ⟨Ao1_5_7, co1_5_8, hA, hS, E_w', huo1_5_9⟩ := hΦ
    replace hF := hF.cons (hB.val 0 _ 3 _ rfl rfl rfl rfl)
    exact fl_val rfl rfl rfl (ex_load1b TfH.one4 (hF.ev rfl) (hS.get 1 rfl) rfl) hK
   ·
    intro fa w' hΦ hF hB K hK
    obtain ⟨Ao1_5_7, co1_5_8, Ao1_6_4, co1_6_5, hA, hS, E_w', huo1_5_9, huo1_6_6⟩ := hΦ
    replace hF := hF.cons (hB.val 0 _ 3 _ rfl rfl rfl rfl)
    exact fl_val rfl rfl rfl (ex_load1b TfH.one4 (hF.ev rfl) (hS.get 1 rfl) rfl) hK
  ·
   refine .inl ⟨rfl, _, _, rfl, rfl, fun s fa w' hΦ hF hB K hK => ?_⟩
   replace hF := hF.cons (hB.val 1 _ 4 _ rfl rfl rfl rfl)
   exact fl_val rfl rfl rfl (ex_not (hF.ev rfl)) hK
  ·
   refine .inl ⟨rfl, _, _, rfl, rfl, fun s fa w' hΦ hF hB K hK => ?_⟩
   exact fl_val rfl rfl rfl (ex_field_addr TfH.off24_1 (hF.ev rfl)) hK
  ·
   refine .inr (.inl ⟨rfl, _, _, rfl, rfl, ?_, trivial⟩)
   ·
    intro fa w' hΦ hF hB K hK
    obtain ⟨hA, hS, E_w'⟩ := hΦ
    replace hF := hF.cons (hB.val 3 _ 6 _ rfl rfl rfl rfl)
    exact fl_val rfl rfl rfl (ex_load1b TfH.one22 (hF.ev rfl) (hS.get 1 rfl) rfl) hK
  ·
   refine .inr (.inr ⟨rfl, ?_, trivial⟩)
   ·
    intro fa w' hΦ hF hB
    obtain ⟨hA, hS, E_w'⟩ := hΦ
    replace hF := hF.cons (hB.val 4 _ 7 _ rfl rfl rfl rfl)
    refine wop rfl rfl ?_
    refine op_append (X := X) (F := [(g5, 24, #[(.bool (false)), (.slice (none) (0) (0))]), (g1, 24, (ic (A_a) (c_a) (a)))]) (So := []) (l := us ([])) (m := us ((lim a.natAbs))) hF hS rfl TfH.sl22 TfH.el46 rfl rfl rfl (by simp) (OwV.nil 46) (hu_a.ext ((E3.trans E7).trans E_w')).cl (us_one _) (by simp; omega) (by simp; omega) ?_
    intro vo1_5_1 Soo1_5_2 wo1_5_3 hOo1_5_4 hS Eo1_5_5 huno1_5_6 hF
    clear huno1_5_6
    rw [← us_append] at hOo1_5_4
    simp only [List.nil_append] at hOo1_5_4
    replace Eo1_5_5 : Ext w' (g5 :: (g1 :: X)) wo1_5_3 (g5 :: (g1 :: (bl Soo1_5_2 ++ X))) := Eo1_5_5
    replace hS : St w wo1_5_3 ([(g5, 24, #[(.bool (false)), (.slice (none) (0) (0))]), (g1, 24, (ic (A_a) (c_a) (a)))] ++ Soo1_5_2) := hS
    obtain ⟨Ao1_5_7, co1_5_8, hvo1_5_10, huo1_5_9⟩ := UC.thaw (F := [(g5, 24, #[(.bool (false)), (.slice (none) (0) (0))]), (g1, 24, (ic (A_a) (c_a) (a)))]) hOo1_5_4 hS hX
    subst hvo1_5_10
    have Eo1_5_11 : Ext wo1_5_3 (g5 :: (g1 :: (bl Soo1_5_2 ++ X))) wo1_5_3 (g5 :: (g1 :: X)) := Ext.drop (by simp +contextual)
    replace huo1_5_9 : UC wo1_5_3 (g5 :: (g1 :: X)) Ao1_5_7 co1_5_8 ((lim a.natAbs)) := huo1_5_9
    replace hS : St w wo1_5_3 [(g5, 24, #[(.bool (false)), (.slice (none) (0) (0))]), (g1, 24, (ic (A_a) (c_a) (a)))] := hS.drop (List.sublist_append_left _ _)
    have hA1 := ((hA.put_other _ rfl).cons (hF.get 8 _ rfl))
    exact ⟨1, rfl, ⟨Ao1_5_7, co1_5_8, (hA1.take hA1.nil rfl), hS, ((E_w'.trans Eo1_5_5).trans Eo1_5_11), huo1_5_9⟩, _, rfl, fun u hu => by cases hu <;> rfl⟩
  ·
   refine .inr (.inr ⟨rfl, ?_, trivial⟩)
   ·
    intro fa w' hΦ hF hB
    obtain ⟨Ao1_5_7, co1_5_8, hA, hS, E_w', huo1_5_9⟩ := hΦ
    replace hF := hF.cons (hB.val 2 _ 5 _ rfl rfl rfl rfl)
    replace hF := hF.cons (hA.get 8 _ rfl)
    refine wop rfl rfl ?_
    have hC := integer_signed_ok (w := w') (X := (g5 :: (g1 :: X))) (l := (lim a.natAbs)) (hS.bnd hX) (!(decide (a < 0))) ⟨_, (((lim a.natAbs)).length), _, rfl, (rfl), huo1_5_9⟩ (lb_lim _)
    refine op_call hF rfl TfH.body41 (args2 (hF.ev rfl) (hF.ev rfl)) hC ?_
    clear hC
    rintro _ wo1_6_1 ⟨⟨_, rfl, Ao1_6_4, co1_6_5, rfl, huo1_6_6⟩, hbo1_6_2⟩
    clear hF; intro hF
    replace hS := hS.call hbo1_6_2; have Eo1_6_3 := Ext.call (g5 :: (g1 :: X)) hbo1_6_2
    have hA1 := ((hA.put_other _ rfl).cons (hF.get 9 _ rfl))
    exact ⟨2, rfl, ⟨Ao1_5_7, co1_5_8, Ao1_6_4, co1_6_5, (hA1.take (hA1.take hA1.nil rfl) rfl), hS, (E_w'.trans Eo1_6_3), (huo1_5_9.ext Eo1_6_3), huo1_6_6⟩, _, rfl, fun u hu => by cases hu <;> rfl⟩
  ·
   refine .inr (.inr ⟨rfl, ?_, trivial⟩)
   ·
    intro fa w' hΦ hF hB
    obtain ⟨Ao1_5_7, co1_5_8, Ao1_6_4, co1_6_5, hA, hS, E_w', huo1_5_9, huo1_6_6⟩ := hΦ
    replace hF := hF.cons (hA.get 9 _ rfl)
    refine wop rfl rfl ?_
    refine op_store (X := (g5 :: (g1 :: X))) hF hS 0 rfl (by simp) rfl rfl rfl TfH.size24 rfl (Nat.le_of_ble_eq_true rfl) ?_
    intro wo1_7_1 hS Eo1_7_2
    replace hS : St w wo1_7_1 [(g5, 24, (ic (Ao1_6_4) (co1_6_5) ((sgnv (!(decide (a < 0))) (val ((lim a.natAbs))))))), (g1, 24, (ic (A_a) (c_a) (a)))] := hS
    exact ⟨3, rfl, ⟨Ao1_5_7, co1_5_8, Ao1_6_4, co1_6_5, hA, hS, (E_w'.trans Eo1_7_2), (huo1_5_9.ext Eo1_7_2), (huo1_6_6.ext Eo1_7_2)⟩, undef, rfl, fun u hu => by cases hu <;> rfl⟩
 intro fa w9 hΦ hF hC
 obtain ⟨Ao1_5_7, co1_5_8, Ao1_6_4, co1_6_5, hA, hS, E_w9, huo1_5_9, huo1_6_6⟩ := hΦ
 clear hA hC
 refine x_tn ?_
 refine c_ret ?_
 refine end1 hF rfl (res_cell hF rfl TfH.row24 (hS.get 0 rfl) rfl) ?_
 exact ⟨_, rfl, (IntV.fin (x := sgnv (!(decide (a < 0))) (val ((lim a.natAbs)))) ⟨_, rfl, _, _, rfl, huo1_6_6⟩ (by rw [val_lim]; exact sgnv_neg a) (fun x hx => by simp [hx])), hS.below⟩

end Go.Proofs.Ytlaojdpcfenlkaa
