/-
  What the functions times do, each call by call.
  Conditions: none.
-/
import Derived.Test.YtlaojdpcfenlkaaChecked
import Derived.Test.YtlaojdpcfenlkaaSwBaseK
namespace Go.Proofs.Ytlaojdpcfenlkaa
open Go Go.RowKit Go.Sw
set_option linter.unusedVariables false
namespace TfE
theorem el46 : Sw.elemOf Try.prog 46 = some (#[.int .u32 0], 1, 4) := by kernel_rfl
theorem one46 : isOne Try.prog 46 = true := by kernel_rfl
theorem size46 : (Try.prog.info? 46).map (fun i => i.size) = some 1 := by kernel_rfl
theorem sl22 : sliceOf Try.prog 22 = some (46, 1) := by kernel_rfl
theorem sls22 : (sliceOf Try.prog 22).isSome = true := by kernel_rfl
theorem und46 : Try.prog.underlying 46 = some (TypeDesc.int .u32) := by kernel_rfl
theorem und54 : Try.prog.underlying 54 = some (TypeDesc.int .u64) := by kernel_rfl
theorem unds46 : (Try.prog.underlying 46).isSome = true := by kernel_rfl
theorem unds54 : (Try.prog.underlying 54).isSome = true := by kernel_rfl
end TfE
set_option maxHeartbeats 4000000 in
theorem integer_times_ok {w : World} {X : List Nat} (hX : ∀ m ∈ X, m < w.heap.size) {v_a : Value} {a : List Nat} (h_a : UL w X v_a (a)) {v_b : Value} {b : List Nat} (h_b : UL w X v_b (b)) (hn_a : a.length ≤ 1000000000000) (hn_b : b.length ≤ 1000000000000) (hb_a : Lb a) (hb_b : Lb b) :
    Calls Try.prog 54 #[v_a, v_b] w (Ret fun r w' => (∃ o : List Nat, OwnL 46 w w' r (o) ∧ Lb o ∧ val o = val a * val b ∧ o.length = a.length + b.length) ∧ Below w.heap.size w w') := by
 refine enter (N := 68) (fn := Try.f54) (vs := [v_a, v_b]) Try.func54 rfl rfl rfl ?_
 intro fa hF
 obtain ⟨A_a, _, c_a, rfl, rfl, hu_a⟩ := h_a
 have hl_a := hu_a.len; have hc_a := hu_a.cap
 obtain ⟨A_b, _, c_b, rfl, rfl, hu_b⟩ := h_b
 have hl_b := hu_b.len; have hc_b := hu_b.cap
 replace hF : Frm 68 fa [(0, (.slice (A_a) (a.length) (c_a))), (1, (.slice (A_b) (b.length) (c_b)))] := hF
 have hS := St.refl w
 refine c_seq ?_
 refine c_reg ?_
 refine st_val hF rfl rfl rfl (ex_assign (hF.ev rfl)) ?_
 clear hF fa; intro fa hF
 refine c_nil_then ?_
 refine c_seq ?_
 refine c_reg ?_
 refine st_val hF rfl rfl rfl (ex_move (hF.ev rfl)) ?_
 clear hF fa; intro fa hF
 refine st_val hF rfl rfl rfl (ex_len TfE.sls22 (hF.ev rfl)) ?_
 clear hF fa; intro fa hF
 refine st_val hF rfl rfl rfl (ex_move (hF.ev rfl)) ?_
 clear hF fa; intro fa hF
 refine st_val hF rfl rfl rfl (ex_len TfE.sls22 (hF.ev rfl)) ?_
 clear hF fa; intro fa hF
 refine st_val hF rfl rfl rfl (ex_add (hF.ev rfl) (hF.ev rfl) (wi64 (by omega) (by omega))) ?_
 clear hF fa; intro fa hF
 refine st rfl (op_make (X := X) (nl := a.length + b.length) (nc := a.length + b.length) hF hS rfl TfE.sl22 TfE.el46 rfl rfl (by omega) (by omega) (by omega) (by omega) (by omega) (made_us _) ?_)
 intro g1 w2 hg4 hS E3; refine gen_ ?_; clear hF fa; intro fa hF
 replace hS : St w w2 [(g1, 46, (us (List.replicate ((a.length + b.length) * 1) 0)).toArray)] := hS
 rw [Nat.mul_one] at hS
 refine st_val hF rfl rfl rfl (ex_assign (hF.ev rfl)) ?_
 clear hF fa; intro fa hF
 refine c_nil_then ?_
 refine c_seq ?_
 refine c_seq ?_
 refine c_reg ?_
 refine st_val hF rfl rfl rfl (ex_move (hF.ev rfl)) ?_
 clear hF fa; intro fa hF
 refine st_val hF rfl rfl rfl (ex_len TfE.sls22 (hF.ev rfl)) ?_
 clear hF fa; intro fa hF
 refine st_val hF rfl rfl rfl (ex_move (hF.ev rfl)) ?_
 clear hF fa; intro fa hF
 refine c_nil_then ?_
 refine c_block ?_
 refine c_loop (fun mu fa w' => ∃ o : List Nat, ∃ i : Nat, Frm 68 fa [(0, (.slice (A_a) (a.length) (c_a))), (1, (.slice (A_b) (b.length) (c_b))), (4, (.slice (none) (0) (0))), (5, (.slice (some ⟨g1, 0, none⟩) (a.length + b.length) (a.length + b.length))), (18, (.slice (A_a) (a.length) (c_a))), (19, (.int .i64 (((a.length : Nat) : Int)))), (20, (.int .i64 (((i : Nat) : Int))))] ∧ St w w' [(g1, 46, (us (o)).toArray)] ∧ Ext w2 (g1 :: X) w' (g1 :: X) ∧ (i ≤ a.length) ∧ (o.length = a.length + b.length) ∧ (Lb o) ∧ (val (o.take (i + b.length)) = val (a.take i) * val b) ∧ a.length - i = mu) ?_ ?_
 ·
  exact ⟨_, List.replicate (a.length + b.length) 0, 0, (hF.take (hF.take (hF.take (hF.take (hF.take (hF.take (hF.take hF.nil (lk_int rfl (by omega))) rfl) rfl) rfl) rfl) rfl) rfl), hS, Ext.refl _ _, (by omega), (by simp), (lb_zeros _), (by simp [val_zeros, List.take_replicate, val]), rfl⟩
 clear hF fa; intro n0_ fa w' hI
 clear hS
 obtain ⟨o, i, hF, hS, E6, hi, ho, hbo, hv, rfl⟩ := hI
 rename World => w5
 refine c_seq ?_
 refine c_reg ?_
 refine st_val hF rfl rfl rfl (ex_lss (hF.ev rfl) (hF.ev rfl)) ?_
 clear hF fa; intro fa hF
 refine c_nil_then ?_
 refine c_seq ?_
 refine c_cond hF rfl (fun hc7 => ?_) (fun hc7 => ?_)
 ·
  have hc7p : ((i : Nat) : Int) < ((a.length : Nat) : Int) := by first | simpa using hc7 | exact bang_t hc7 | exact bang_f hc7
  refine c_skip ?_
  refine x_tn ?_
  refine c_seq ?_
  refine c_block ?_
  refine c_seq ?_
  refine c_reg ?_
  refine st_val hF rfl rfl rfl (ex_move (hF.ev rfl)) ?_
  clear hF fa; intro fa hF
  obtain ⟨ad8, hA9, hq10⟩ := (hu_a.ext (E3.trans E6)).cl.at_ (us_get (l := a) (i := i) (by omega))
  refine st_val hF rfl rfl rfl (ex_idx (j := i) TfE.sl22 (hF.ev rfl) hA9 (hF.ev rfl) (by omega) (by omega)) ?_
  clear hF fa; intro fa hF
  refine st_val hF rfl rfl rfl (ex_load1 TfE.one46 (hF.ev rfl) hq10) ?_
  clear hF fa; intro fa hF
  refine st_val hF rfl rfl rfl (ex_assign (hF.ev rfl)) ?_
  clear hF fa; intro fa hF
  refine st_val hF rfl rfl rfl (ex_assign (hF.ev rfl)) ?_
  clear hF fa; intro fa hF
  refine c_nil_then ?_
  refine c_seq ?_
  refine c_reg ?_
  refine st_val hF rfl rfl rfl (ex_assign (hF.ev rfl)) ?_
  clear hF fa; intro fa hF
  refine c_nil_then ?_
  refine c_seq ?_
  refine c_seq ?_
  refine c_reg ?_
  refine st_val hF rfl rfl rfl (ex_move (hF.ev rfl)) ?_
  clear hF fa; intro fa hF
  refine st_val hF rfl rfl rfl (ex_len TfE.sls22 (hF.ev rfl)) ?_
  clear hF fa; intro fa hF
  refine st_val hF rfl rfl rfl (ex_move (hF.ev rfl)) ?_
  clear hF fa; intro fa hF
  refine c_nil_then ?_
  refine c_block ?_
  refine c_loop (fun mu fa w' => ∃ o2 : List Nat, ∃ cr : Nat, ∃ k : Nat, Frm 68 fa [(0, (.slice (A_a) (a.length) (c_a))), (1, (.slice (A_b) (b.length) (c_b))), (4, (.slice (none) (0) (0))), (5, (.slice (some ⟨g1, 0, none⟩) (a.length + b.length) (a.length + b.length))), (18, (.slice (A_a) (a.length) (c_a))), (19, (.int .i64 (((a.length : Nat) : Int)))), (20, (.int .i64 (((i : Nat) : Int)))), (21, (.bool (decide (((i : Nat) : Int) < ((a.length : Nat) : Int))))), (6, (.int .i64 (((i : Nat) : Int)))), (7, (.int .u32 (((a.getD (i) 0 : Nat) : Int)))), (25, (.slice (A_b) (b.length) (c_b))), (26, (.int .i64 (((b.length : Nat) : Int)))), (8, (.int .u64 (((cr : Nat) : Int)))), (27, (.int .i64 (((k : Nat) : Int))))] ∧ St w w' [(g1, 46, (us (o2)).toArray)] ∧ Ext w5 (g1 :: X) w' (g1 :: X) ∧ (k ≤ b.length) ∧ (o2.length = a.length + b.length) ∧ (Lb o2) ∧ (cr < 1000000000) ∧ (val (o2.take (i + b.length)) + 1000000000 ^ (i + k) * cr = val (a.take i) * val b + 1000000000 ^ i * (a.getD i 0 * val (b.take k))) ∧ b.length - k = mu) ?_ ?_
  ·
   exact ⟨_, o, 0, 0, (hF.take (hF.take (hF.take (hF.take (hF.take (hF.take (hF.take (hF.take (hF.take (hF.take (hF.take (hF.take (hF.take (hF.take hF.nil (lk_int rfl (by omega))) (lk_int rfl (by omega))) rfl) rfl) rfl) rfl) rfl) rfl) rfl) rfl) rfl) rfl) rfl) rfl), hS, Ext.refl _ _, (by omega), (ho), (hbo), (by omega), (by simp [val, hv]), rfl⟩
  clear hF fa; intro n1_ fa w' hI
  clear hS
  obtain ⟨o2, cr, k, hF, hS, E12, hk, ho2, hbo2, hcr, hv2, rfl⟩ := hI
  rename World => w11
  have hak := hb_a.getD i; have hbk := hb_b.getD k; have hok := hbo2.getD (i + k)
  have hca := carry_lt hak hbk hok hcr
  have hca1 := hca.1; have hca2 := hca.2
  refine c_seq ?_
  refine c_reg ?_
  refine st_val hF rfl rfl rfl (ex_lss (hF.ev rfl) (hF.ev rfl)) ?_
  clear hF fa; intro fa hF
  refine c_nil_then ?_
  refine c_seq ?_
  refine c_cond hF rfl (fun hc13 => ?_) (fun hc13 => ?_)
  ·
   have hc13p : ((k : Nat) : Int) < ((b.length : Nat) : Int) := by first | simpa using hc13 | exact bang_t hc13 | exact bang_f hc13
   refine c_skip ?_
   refine x_tn ?_
   refine c_seq ?_
   refine c_block ?_
   refine c_seq ?_
   refine c_reg ?_
   refine st_val hF rfl rfl rfl (ex_move (hF.ev rfl)) ?_
   clear hF fa; intro fa hF
   obtain ⟨ad14, hA15, hq16⟩ := (hu_b.ext ((E3.trans E6).trans E12)).cl.at_ (us_get (l := b) (i := k) (by omega))
   refine st_val hF rfl rfl rfl (ex_idx (j := k) TfE.sl22 (hF.ev rfl) hA15 (hF.ev rfl) (by omega) (by omega)) ?_
   clear hF fa; intro fa hF
   refine st_val hF rfl rfl rfl (ex_load1 TfE.one46 (hF.ev rfl) hq16) ?_
   clear hF fa; intro fa hF
   refine st_val hF rfl rfl rfl (ex_assign (hF.ev rfl)) ?_
   clear hF fa; intro fa hF
   refine st_val hF rfl rfl rfl (ex_assign (hF.ev rfl)) ?_
   clear hF fa; intro fa hF
   replace hF : Frm 68 fa [(0, (.slice (A_a) (a.length) (c_a))), (1, (.slice (A_b) (b.length) (c_b))), (4, (.slice (none) (0) (0))), (5, (.slice (some ⟨g1, 0, none⟩) (a.length + b.length) (a.length + b.length))), (18, (.slice (A_a) (a.length) (c_a))), (19, (.int .i64 (((a.length : Nat) : Int)))), (20, (.int .i64 (((i : Nat) : Int)))), (21, (.bool (decide (((i : Nat) : Int) < ((a.length : Nat) : Int))))), (6, (.int .i64 (((i : Nat) : Int)))), (7, (.int .u32 (((a.getD (i) 0 : Nat) : Int)))), (25, (.slice (A_b) (b.length) (c_b))), (26, (.int .i64 (((b.length : Nat) : Int)))), (8, (.int .u64 (((cr : Nat) : Int)))), (27, (.int .i64 (((k : Nat) : Int)))), (28, (.bool (decide (((k : Nat) : Int) < ((b.length : Nat) : Int))))), (9, (.int .i64 (((k : Nat) : Int)))), (10, (.int .u32 (((b.getD (k) 0 : Nat) : Int))))] := (hF.take (hF.take (hF.take (hF.take (hF.take (hF.take (hF.take (hF.take (hF.take (hF.take (hF.take (hF.take (hF.take (hF.take (hF.take (hF.take (hF.take hF.nil rfl) rfl) rfl) rfl) rfl) rfl) rfl) rfl) rfl) rfl) rfl) rfl) rfl) rfl) rfl) rfl) rfl)
   refine c_nil_then ?_
   refine c_seq ?_
   refine c_reg ?_
   refine st_val hF rfl rfl rfl (ex_move (hF.ev rfl)) ?_
   clear hF fa; intro fa hF
   refine st_val hF rfl rfl rfl (ex_move (hF.ev rfl)) ?_
   clear hF fa; intro fa hF
   refine st_val hF rfl rfl rfl (ex_move (hF.ev rfl)) ?_
   clear hF fa; intro fa hF
   refine st_val hF rfl rfl rfl (ex_add (hF.ev rfl) (hF.ev rfl) (wi64 (by omega) (by omega))) ?_
   clear hF fa; intro fa hF
   refine st_val hF rfl rfl rfl (ex_idxo (j := i + k) TfE.sl22 (hF.ev rfl) (hF.ev rfl) (by omega) (by omega)) ?_
   clear hF fa; intro fa hF
   refine st_val hF rfl rfl rfl (ex_load1b TfE.one46 (hF.ev rfl) (hS.get 0 rfl) (us_arr (by first | omega | (simp; omega)))) ?_
   clear hF fa; intro fa hF
   refine st_val hF rfl rfl rfl (ex_conv TfE.unds46 TfE.und54 (hF.ev rfl) (wu64n (by omega))) ?_
   clear hF fa; intro fa hF
   refine st_val hF rfl rfl rfl (ex_move (hF.ev rfl)) ?_
   clear hF fa; intro fa hF
   refine st_val hF rfl rfl rfl (ex_conv TfE.unds46 TfE.und54 (hF.ev rfl) (wu64n (by omega))) ?_
   clear hF fa; intro fa hF
   refine st_val hF rfl rfl rfl (ex_move (hF.ev rfl)) ?_
   clear hF fa; intro fa hF
   refine st_val hF rfl rfl rfl (ex_conv TfE.unds46 TfE.und54 (hF.ev rfl) (wu64n (by omega))) ?_
   clear hF fa; intro fa hF
   refine st_val hF rfl rfl rfl (ex_mul (hF.ev rfl) (hF.ev rfl) (wu64 (by omega) (by omega))) ?_
   clear hF fa; intro fa hF
   refine st_val hF rfl rfl rfl (ex_add (hF.ev rfl) (hF.ev rfl) (wu64 (by omega) (by omega))) ?_
   clear hF fa; intro fa hF
   refine st_val hF rfl rfl rfl (ex_move (hF.ev rfl)) ?_
   clear hF fa; intro fa hF
   refine st_val hF rfl rfl rfl (ex_add (hF.ev rfl) (hF.ev rfl) (wu64 (by omega) (by omega))) ?_
   clear hF fa; intro fa hF
   refine st_val hF rfl rfl rfl (ex_assign (hF.ev rfl)) ?_
   clear hF fa; intro fa hF
   replace hF : Frm 68 fa [(0, (.slice (A_a) (a.length) (c_a))), (1, (.slice (A_b) (b.length) (c_b))), (4, (.slice (none) (0) (0))), (5, (.slice (some ⟨g1, 0, none⟩) (a.length + b.length) (a.length + b.length))), (18, (.slice (A_a) (a.length) (c_a))), (19, (.int .i64 (((a.length : Nat) : Int)))), (20, (.int .i64 (((i : Nat) : Int)))), (21, (.bool (decide (((i : Nat) : Int) < ((a.length : Nat) : Int))))), (6, (.int .i64 (((i : Nat) : Int)))), (7, (.int .u32 (((a.getD (i) 0 : Nat) : Int)))), (25, (.slice (A_b) (b.length) (c_b))), (26, (.int .i64 (((b.length : Nat) : Int)))), (8, (.int .u64 (((cr : Nat) : Int)))), (27, (.int .i64 (((k : Nat) : Int)))), (28, (.bool (decide (((k : Nat) : Int) < ((b.length : Nat) : Int))))), (9, (.int .i64 (((k : Nat) : Int)))), (10, (.int .u32 (((b.getD (k) 0 : Nat) : Int)))), (11, (.int .u64 ((((o2.getD (i + k) 0 : Nat) : Int) + (((a.getD (i) 0 : Nat) : Int) * ((b.getD (k) 0 : Nat) : Int))) + ((cr : Nat) : Int))))] := (hF.take (hF.take (hF.take (hF.take (hF.take (hF.take (hF.take (hF.take (hF.take (hF.take (hF.take (hF.take (hF.take (hF.take (hF.take (hF.take (hF.take (hF.take hF.nil rfl) rfl) rfl) rfl) rfl) rfl) rfl) rfl) rfl) rfl) rfl) rfl) rfl) rfl) rfl) rfl) rfl) rfl)
   refine c_nil_then ?_
   refine c_reg ?_
   refine st_val hF rfl rfl rfl (ex_move (hF.ev rfl)) ?_
   clear hF fa; intro fa hF
   refine st_val hF rfl rfl rfl (ex_move (hF.ev rfl)) ?_
   clear hF fa; intro fa hF
   refine st_val hF rfl rfl rfl (ex_move (hF.ev rfl)) ?_
   clear hF fa; intro fa hF
   refine st_val hF rfl rfl rfl (ex_add (hF.ev rfl) (hF.ev rfl) (wi64 (by omega) (by omega))) ?_
   clear hF fa; intro fa hF
   refine st_val hF rfl rfl rfl (ex_move (hF.ev rfl)) ?_
   clear hF fa; intro fa hF
   refine st_val hF rfl rfl rfl (ex_rem (hF.ev rfl) (hF.ev rfl) (by omega) (r_any (x := ((o2.getD (i + k) 0) + ((a.getD (i) 0) * (b.getD (k) 0))) + cr) (y := 1000000000) (by omega) (by omega))) ?_
   clear hF fa; intro fa hF
   refine st_val hF rfl rfl rfl (ex_conv TfE.unds54 TfE.und46 (hF.ev rfl) (wu32n (by omega))) ?_
   clear hF fa; intro fa hF
   refine st_val hF rfl rfl rfl (ex_move (hF.ev rfl)) ?_
   clear hF fa; intro fa hF
   refine st_val hF rfl rfl rfl (ex_quo (hF.ev rfl) (hF.ev rfl) (by omega) (q_u64 (x := ((o2.getD (i + k) 0) + ((a.getD (i) 0) * (b.getD (k) 0))) + cr) (y := 1000000000) (by omega) (by omega) (by omega))) ?_
   clear hF fa; intro fa hF
   refine st_val hF rfl rfl rfl (ex_idxo (j := i + k) TfE.sl22 (hF.ev rfl) (hF.ev rfl) (by omega) (by omega)) ?_
   clear hF fa; intro fa hF
   refine st rfl (op_store (vs := #[.int .u32 (((((o2.getD (i + k) 0) + ((a.getD (i) 0) * (b.getD (k) 0))) + cr) % 1000000000 : Nat) : Int)]) (v := .int .u32 (((((o2.getD (i + k) 0) + ((a.getD (i) 0) * (b.getD (k) 0))) + cr) % 1000000000 : Nat) : Int)) (X := (g1 :: X)) hF hS 0 rfl (by simp) rfl (ev_int rfl (by omega)) rfl TfE.size46 rfl (us_fit (by first | omega | (simp; omega))) ?_)
   intro w17 hS E18
   rw [splice_us (by first | omega | (simp; omega))] at hS
   replace hS : St w w17 [(g1, 46, (us (o2.set (i + k) ((((o2.getD (i + k) 0) + ((a.getD (i) 0) * (b.getD (k) 0))) + cr) % 1000000000))).toArray)] := hS
   refine st_val hF rfl rfl rfl (ex_assign (hF.ev rfl)) ?_
   clear hF fa; intro fa hF
   refine c_nil ?_
   refine x_bn ?_
   refine x_tn ?_
   refine c_reg ?_
   refine st_val hF rfl rfl rfl (ex_add (hF.ev rfl) (hF.ev rfl) (wi64 (by omega) (by omega))) ?_
   clear hF fa; intro fa hF
   refine st_val hF rfl rfl rfl (ex_move (hF.ev rfl)) ?_
   clear hF fa; intro fa hF
   refine c_nil ?_
   refine x_tn ?_
   exact ⟨_, (by omega), o2.set (i + k) ((((o2.getD (i + k) 0) + ((a.getD (i) 0) * (b.getD (k) 0))) + cr) % 1000000000), (((o2.getD (i + k) 0) + ((a.getD (i) 0) * (b.getD (k) 0))) + cr) / 1000000000, (k + 1), (hF.take (hF.take (hF.take (hF.take (hF.take (hF.take (hF.take (hF.take (hF.take (hF.take (hF.take (hF.take (hF.take (hF.take hF.nil (lk_int rfl (by omega))) (lk_int rfl (by omega))) rfl) rfl) rfl) rfl) rfl) rfl) rfl) rfl) rfl) rfl) rfl) rfl), hS, (E12.trans E18), (by omega), (by simp; omega), (lb_set hbo2 (by omega)), (by omega), (times_step (by omega) (by omega) hv2 (by omega) rfl rfl), rfl⟩
  have hc13p : ¬ (((k : Nat) : Int) < ((b.length : Nat) : Int)) := by first | simpa using hc13 | exact bang_t hc13 | exact bang_f hc13
  refine c_exit ?_
  refine x_te ?_
  refine x_te ?_
  refine x_bh ?_
  refine x_tn ?_
  refine c_reg ?_
  refine st_val hF rfl rfl rfl (ex_move (hF.ev rfl)) ?_
  clear hF fa; intro fa hF
  refine st_val hF rfl rfl rfl (ex_move (hF.ev rfl)) ?_
  clear hF fa; intro fa hF
  refine st_val hF rfl rfl rfl (ex_move (hF.ev rfl)) ?_
  clear hF fa; intro fa hF
  refine st_val hF rfl rfl rfl (ex_len TfE.sls22 (hF.ev rfl)) ?_
  clear hF fa; intro fa hF
  refine st_val hF rfl rfl rfl (ex_add (hF.ev rfl) (hF.ev rfl) (wi64 (by omega) (by omega))) ?_
  clear hF fa; intro fa hF
  refine st_val hF rfl rfl rfl (ex_move (hF.ev rfl)) ?_
  clear hF fa; intro fa hF
  refine st_val hF rfl rfl rfl (ex_conv TfE.unds54 TfE.und46 (hF.ev rfl) (wu32n (by omega))) ?_
  clear hF fa; intro fa hF
  refine st_val hF rfl rfl rfl (ex_idxo (j := i + b.length) TfE.sl22 (hF.ev rfl) (hF.ev rfl) (by omega) (by omega)) ?_
  clear hF fa; intro fa hF
  refine st rfl (op_store (vs := #[.int .u32 ((cr : Nat) : Int)]) (v := .int .u32 ((cr : Nat) : Int)) (X := (g1 :: X)) hF hS 0 rfl (by simp) rfl (ev_int rfl (by omega)) rfl TfE.size46 rfl (us_fit (by first | omega | (simp; omega))) ?_)
  intro w19 hS E20
  rw [splice_us (by first | omega | (simp; omega))] at hS
  replace hS : St w w19 [(g1, 46, (us (o2.set (i + b.length) (cr))).toArray)] := hS
  replace hF : Frm 68 fa [(0, (.slice (A_a) (a.length) (c_a))), (1, (.slice (A_b) (b.length) (c_b))), (4, (.slice (none) (0) (0))), (5, (.slice (some ⟨g1, 0, none⟩) (a.length + b.length) (a.length + b.length))), (18, (.slice (A_a) (a.length) (c_a))), (19, (.int .i64 (((a.length : Nat) : Int)))), (20, (.int .i64 (((i : Nat) : Int)))), (21, (.bool (decide (((i : Nat) : Int) < ((a.length : Nat) : Int))))), (6, (.int .i64 (((i : Nat) : Int)))), (7, (.int .u32 (((a.getD (i) 0 : Nat) : Int)))), (25, (.slice (A_b) (b.length) (c_b))), (26, (.int .i64 (((b.length : Nat) : Int)))), (8, (.int .u64 (((cr : Nat) : Int)))), (27, (.int .i64 (((k : Nat) : Int)))), (28, (.bool (decide (((k : Nat) : Int) < ((b.length : Nat) : Int)))))] := (hF.take (hF.take (hF.take (hF.take (hF.take (hF.take (hF.take (hF.take (hF.take (hF.take (hF.take (hF.take (hF.take (hF.take (hF.take hF.nil rfl) rfl) rfl) rfl) rfl) rfl) rfl) rfl) rfl) rfl) rfl) rfl) rfl) rfl) rfl)
  refine c_nil ?_
  refine x_bn ?_
  refine x_tn ?_
  refine c_reg ?_
  refine st_val hF rfl rfl rfl (ex_add (hF.ev rfl) (hF.ev rfl) (wi64 (by omega) (by omega))) ?_
  clear hF fa; intro fa hF
  refine st_val hF rfl rfl rfl (ex_move (hF.ev rfl)) ?_
  clear hF fa; intro fa hF
  refine c_nil ?_
  refine x_tn ?_
  exact ⟨_, (by omega), o2.set (i + b.length) (cr), (i + 1), (hF.take (hF.take (hF.take (hF.take (hF.take (hF.take (hF.take hF.nil (lk_int rfl (by omega))) rfl) rfl) rfl) rfl) rfl) rfl), hS, ((E6.trans E12).trans E20), (by omega), (by simp; omega), (lb_set hbo2 (by omega)), (times_row (by omega) (by rw [show k = b.length by omega] at hv2; exact hv2)), rfl⟩
 have hc7p : ¬ (((i : Nat) : Int) < ((a.length : Nat) : Int)) := by first | simpa using hc7 | exact bang_t hc7 | exact bang_f hc7
 refine c_exit ?_
 refine x_te ?_
 refine x_te ?_
 refine x_bh ?_
 refine x_tn ?_
 refine c_seq ?_
 refine c_reg ?_
 refine st_val hF rfl rfl rfl (ex_move (hF.ev rfl)) ?_
 clear hF fa; intro fa hF
 refine st_val hF rfl rfl rfl (ex_assign (hF.ev rfl)) ?_
 clear hF fa; intro fa hF
 refine c_nil_then ?_
 refine c_ret ?_
 rw [val_take_all (l := o) (by omega), val_take_all (l := a) (by omega)] at hv
 refine end1 hF rfl (res_tmp hF rfl) ?_
 exact ⟨_, rfl, ⟨o, (Own.mk_ (L := o) (hS.get 0 rfl) (hS.base 0 rfl) (by omega) (by omega) (rfl)), (hbo), (hv), (ho)⟩, hS.below⟩

end Go.Proofs.Ytlaojdpcfenlkaa
