/-
  What the functions subtract, restore do, each call by call.
  Conditions: none.
-/
import Derived.Test.YtlaojdpcfenlkaaChecked
import Derived.Test.YtlaojdpcfenlkaaSwBaseK
namespace Go.Proofs.Ytlaojdpcfenlkaa
open Go Go.RowKit Go.Sw
set_option linter.unusedVariables false
namespace TfQ
theorem one46 : isOne Try.prog 46 = true := by kernel_rfl
theorem size46 : (Try.prog.info? 46).map (fun i => i.size) = some 1 := by kernel_rfl
theorem sl22 : sliceOf Try.prog 22 = some (46, 1) := by kernel_rfl
theorem sls22 : (sliceOf Try.prog 22).isSome = true := by kernel_rfl
theorem und46 : Try.prog.underlying 46 = some (TypeDesc.int .u32) := by kernel_rfl
theorem und54 : Try.prog.underlying 54 = some (TypeDesc.int .u64) := by kernel_rfl
theorem unds46 : (Try.prog.underlying 46).isSome = true := by kernel_rfl
theorem unds54 : (Try.prog.underlying 54).isSome = true := by kernel_rfl
end TfQ
set_option maxHeartbeats 4000000 in
theorem integer_subtract_ok {w0 w : World} {X : List Nat} {So : List Bx} {R : List Value} {g_U c_U : Nat} {U : List Nat} (hX : ∀ m ∈ X, m < w0.heap.size) (hS : St w0 w ((g_U, 46, (us U ++ R).toArray) :: So)) (k m : Nat) {v_v : Value} {v : List Nat} (h_v : UL w (g_U :: (bl So ++ X)) v_v (v)) (bw : Nat) (hU : U.length ≤ 1000000000000) (hkm : k + m ≤ U.length) (hvm : v.length ≤ m) (hb_U : Lb U) (hb_v : Lb v) (hbw : bw < 1000000000) :
    Calls Try.prog 61 #[(.slice (some ⟨g_U, k, none⟩) m c_U), v_v, (.int .u64 ((bw : Nat) : Int))] w (Ret fun r w' => ∃ o : List Nat, ∃ cy : Nat, r = .bool (decide (0 < cy)) ∧ o.length = U.length ∧ Lb o ∧ o.take k = U.take k ∧ o.drop (k + m) = U.drop (k + m) ∧ val (win o k m) + val v * bw = val (win U k m) + 1000000000 ^ m * cy ∧ St w0 w' ((g_U, 46, (us o ++ R).toArray) :: So) ∧ Ext w (g_U :: (bl So ++ X)) w' (g_U :: (bl So ++ X))) := by
 refine enter (N := 62) (fn := Try.f61) (vs := [(.slice (some ⟨g_U, k, none⟩) m c_U), v_v, (.int .u64 ((bw : Nat) : Int))]) Try.func61 rfl rfl rfl ?_
 intro fa hF
 obtain ⟨A_v, _, c_v, rfl, rfl, hu_v⟩ := h_v
 have hl_v := hu_v.len; have hc_v := hu_v.cap
 replace hF : Frm 62 fa [(0, (.slice (some ⟨g_U, k, none⟩) (m) (c_U))), (1, (.slice (A_v) (v.length) (c_v))), (2, (.int .u64 (((bw : Nat) : Int))))] := hF
 replace hS : St w0 w ([(g_U, 46, (us (U) ++ R).toArray)] ++ So) := hS
 refine c_seq ?_
 refine c_reg ?_
 refine st_val hF rfl rfl rfl (ex_assign (hF.ev rfl)) ?_
 clear hF fa; intro fa hF
 refine c_nil_then ?_
 refine c_seq ?_
 refine c_reg ?_
 refine st_val hF rfl rfl rfl (ex_assign (hF.ev rfl)) ?_
 clear hF fa; intro fa hF
 refine st_val hF rfl rfl rfl (ex_assign (hF.ev rfl)) ?_
 clear hF fa; intro fa hF
 refine c_nil_then ?_
 refine c_seq ?_
 refine c_seq ?_
 refine c_reg ?_
 refine st_val hF rfl rfl rfl (ex_move (hF.ev rfl)) ?_
 clear hF fa; intro fa hF
 refine st_val hF rfl rfl rfl (ex_len TfQ.sls22 (hF.ev rfl)) ?_
 clear hF fa; intro fa hF
 refine st_val hF rfl rfl rfl (ex_move (hF.ev rfl)) ?_
 clear hF fa; intro fa hF
 refine c_nil_then ?_
 refine c_block ?_
 refine c_loop (fun mu fa w' => ∃ o : List Nat, ∃ cr : Nat, ∃ br : Nat, ∃ i : Nat, Frm 62 fa [(0, (.slice (some ⟨g_U, k, none⟩) (m) (c_U))), (1, (.slice (A_v) (v.length) (c_v))), (2, (.int .u64 (((bw : Nat) : Int)))), (6, (.bool (false))), (14, (.int .i64 (((m : Nat) : Int)))), (7, (.int .u64 (((cr : Nat) : Int)))), (8, (.int .u64 (((br : Nat) : Int)))), (15, (.int .i64 (((i : Nat) : Int))))] ∧ St w0 w' ([(g_U, 46, (us (o) ++ R).toArray)] ++ So) ∧ Ext w (g_U :: (bl So ++ X)) w' (g_U :: (bl So ++ X)) ∧ (i ≤ m) ∧ (o.length = U.length) ∧ (Lb o) ∧ (o.take k = U.take k) ∧ (o.drop (k + i) = U.drop (k + i)) ∧ (cr < 1000000000) ∧ (br ≤ 1) ∧ (val (win o k i) + val (v.take i) * bw = val (win U k i) + 1000000000 ^ i * (cr + br)) ∧ m - i = mu) ?_ ?_
 ·
  exact ⟨_, U, 0, 0, 0, (hF.take (hF.take (hF.take (hF.take (hF.take (hF.take (hF.take (hF.take hF.nil (lk_int rfl (by omega))) (lk_int rfl (by omega))) (lk_int rfl (by omega))) rfl) rfl) rfl) rfl) rfl), hS, Ext.refl _ _, (by omega), (rfl), (hb_U), (rfl), (rfl), (by omega), (by omega), (by simp [win_zero, val]), rfl⟩
 clear hF fa; intro n0_ fa w' hI
 clear hS
 obtain ⟨o, cr, br, i, hF, hS, E2, hi, ho, hbo, htk, hdr, hcr, hbr, hv, rfl⟩ := hI
 rename World => w1
 have hox := drop_getD hdr
 have hoi := hbo.getD (k + i); have hvi := hb_v.getD i
 have hgn := fun h => getD_none (l := v) (k := i) h
 have hmul : v.getD i 0 * bw ≤ 999999999 * 999999999 := Nat.mul_le_mul (by omega) (by omega)
 refine c_seq ?_
 refine c_reg ?_
 refine st_val hF rfl rfl rfl (ex_lss (hF.ev rfl) (hF.ev rfl)) ?_
 clear hF fa; intro fa hF
 refine c_nil_then ?_
 refine c_seq ?_
 refine c_cond hF rfl (fun hc3 => ?_) (fun hc3 => ?_)
 ·
  have hc3p : ((i : Nat) : Int) < ((m : Nat) : Int) := by first | simpa using hc3 | exact bang_t hc3 | exact bang_f hc3
  refine c_skip ?_
  refine x_tn ?_
  refine c_seq ?_
  refine c_block ?_
  refine c_seq ?_
  refine c_reg ?_
  refine st_val hF rfl rfl rfl (ex_move (hF.ev rfl)) ?_
  clear hF fa; intro fa hF
  refine st_val hF rfl rfl rfl (ex_assign (hF.ev rfl)) ?_
  clear hF fa; intro fa hF
  refine c_nil_then ?_
  refine c_seq ?_
  refine c_reg ?_
  refine st_val hF rfl rfl rfl (ex_move (hF.ev rfl)) ?_
  clear hF fa; intro fa hF
  refine st_val hF rfl rfl rfl (ex_assign (hF.ev rfl)) ?_
  clear hF fa; intro fa hF
  refine c_nil_then ?_
  refine c_seq ?_
  refine c_seq ?_
  refine c_reg ?_
  refine st_val hF rfl rfl rfl (ex_move (hF.ev rfl)) ?_
  clear hF fa; intro fa hF
  refine st_val hF rfl rfl rfl (ex_move (hF.ev rfl)) ?_
  clear hF fa; intro fa hF
  refine st_val hF rfl rfl rfl (ex_len TfQ.sls22 (hF.ev rfl)) ?_
  clear hF fa; intro fa hF
  refine st_val hF rfl rfl rfl (ex_lss (hF.ev rfl) (hF.ev rfl)) ?_
  clear hF fa; intro fa hF
  refine c_nil_then ?_
  refine c_cond hF rfl (fun hc4 => ?_) (fun hc4 => ?_)
  ·
   have hc4p : ((i : Nat) : Int) < ((v.length : Nat) : Int) := by first | simpa using hc4 | exact bang_t hc4 | exact bang_f hc4
   refine c_reg ?_
   refine st_val hF rfl rfl rfl (ex_move (hF.ev rfl)) ?_
   clear hF fa; intro fa hF
   refine st_val hF rfl rfl rfl (ex_move (hF.ev rfl)) ?_
   clear hF fa; intro fa hF
   refine st_val hF rfl rfl rfl (ex_move (hF.ev rfl)) ?_
   clear hF fa; intro fa hF
   obtain ⟨ad5, hA6, hq7⟩ := (hu_v.ext E2).cl.at_ (us_get (l := v) (i := i) (by omega))
   refine st_val hF rfl rfl rfl (ex_idx (j := i) TfQ.sl22 (hF.ev rfl) hA6 (hF.ev rfl) (by omega) (by omega)) ?_
   clear hF fa; intro fa hF
   refine st_val hF rfl rfl rfl (ex_load1 TfQ.one46 (hF.ev rfl) hq7) ?_
   clear hF fa; intro fa hF
   refine st_val hF rfl rfl rfl (ex_conv TfQ.unds46 TfQ.und54 (hF.ev rfl) (wu64n (by omega))) ?_
   clear hF fa; intro fa hF
   refine st_val hF rfl rfl rfl (ex_move (hF.ev rfl)) ?_
   clear hF fa; intro fa hF
   refine st_val hF rfl rfl rfl (ex_mul (hF.ev rfl) (hF.ev rfl) (wu64 (by omega) (by omega))) ?_
   clear hF fa; intro fa hF
   refine st_val hF rfl rfl rfl (ex_add (hF.ev rfl) (hF.ev rfl) (wu64 (by omega) (by omega))) ?_
   clear hF fa; intro fa hF
   refine st_val hF rfl rfl rfl (ex_assign (hF.ev rfl)) ?_
   clear hF fa; intro fa hF
   replace hF : Frm 62 fa [(0, (.slice (some ⟨g_U, k, none⟩) (m) (c_U))), (1, (.slice (A_v) (v.length) (c_v))), (2, (.int .u64 (((bw : Nat) : Int)))), (6, (.bool (false))), (14, (.int .i64 (((m : Nat) : Int)))), (7, (.int .u64 (((cr : Nat) : Int)))), (8, (.int .u64 (((br : Nat) : Int)))), (15, (.int .i64 (((i : Nat) : Int)))), (16, (.bool (decide (((i : Nat) : Int) < ((m : Nat) : Int))))), (9, (.int .i64 (((i : Nat) : Int)))), (10, (.int .u64 (((cr : Nat) : Int) + (((v.getD (i) 0 : Nat) : Int) * ((bw : Nat) : Int))))), (22, (.bool (decide (((i : Nat) : Int) < ((v.length : Nat) : Int)))))] := (hF.take (hF.take (hF.take (hF.take (hF.take (hF.take (hF.take (hF.take (hF.take (hF.take (hF.take (hF.take hF.nil rfl) rfl) rfl) rfl) rfl) rfl) rfl) rfl) rfl) rfl) rfl) rfl)
   refine c_nil_then ?_
   refine c_seq ?_
   refine c_reg ?_
   refine st_val hF rfl rfl rfl (ex_move (hF.ev rfl)) ?_
   clear hF fa; intro fa hF
   refine st_val hF rfl rfl rfl (ex_quo (hF.ev rfl) (hF.ev rfl) (by omega) (q_u64 (x := cr + ((v.getD (i) 0) * bw)) (y := 1000000000) (by omega) (by omega) (by omega))) ?_
   clear hF fa; intro fa hF
   refine st_val hF rfl rfl rfl (ex_assign (hF.ev rfl)) ?_
   clear hF fa; intro fa hF
   refine c_nil_then ?_
   refine c_seq ?_
   refine c_reg ?_
   refine st_val hF rfl rfl rfl (ex_move (hF.ev rfl)) ?_
   clear hF fa; intro fa hF
   refine st_val hF rfl rfl rfl (ex_rem (hF.ev rfl) (hF.ev rfl) (by omega) (r_any (x := cr + ((v.getD (i) 0) * bw)) (y := 1000000000) (by omega) (by omega))) ?_
   clear hF fa; intro fa hF
   refine st_val hF rfl rfl rfl (ex_move (hF.ev rfl)) ?_
   clear hF fa; intro fa hF
   refine st_val hF rfl rfl rfl (ex_add (hF.ev rfl) (hF.ev rfl) (wu64 (by omega) (by omega))) ?_
   clear hF fa; intro fa hF
   refine st_val hF rfl rfl rfl (ex_assign (hF.ev rfl)) ?_
   clear hF fa; intro fa hF
   refine c_nil_then ?_
   refine c_seq ?_
   refine c_reg ?_
   refine st_val hF rfl rfl rfl (ex_assign (hF.ev rfl)) ?_
   clear hF fa; intro fa hF
   refine c_nil_then ?_
   refine c_seq ?_
   refine c_reg ?_
   refine st_val hF rfl rfl rfl (ex_move (hF.ev rfl)) ?_
   clear hF fa; intro fa hF
   refine st_val hF rfl rfl rfl (ex_move (hF.ev rfl)) ?_
   clear hF fa; intro fa hF
   refine st_val hF rfl rfl rfl (ex_idxw (o := k) (j := i) TfQ.sl22 (hF.ev rfl) (hF.ev rfl) (by omega) (by omega)) ?_
   clear hF fa; intro fa hF
   refine st_val hF rfl rfl rfl (ex_load1b TfQ.one46 (hF.ev rfl) (hS.get 0 rfl) (us_arr2 (by first | omega | (simp; omega)))) ?_
   clear hF fa; intro fa hF
   refine st_val hF rfl rfl rfl (ex_conv TfQ.unds46 TfQ.und54 (hF.ev rfl) (wu64n (by omega))) ?_
   clear hF fa; intro fa hF
   refine st_val hF rfl rfl rfl (ex_assign (hF.ev rfl)) ?_
   clear hF fa; intro fa hF
   refine c_nil_then ?_
   refine c_seq ?_
   refine c_seq ?_
   refine c_reg ?_
   refine st_val hF rfl rfl rfl (ex_move (hF.ev rfl)) ?_
   clear hF fa; intro fa hF
   refine st_val hF rfl rfl rfl (ex_move (hF.ev rfl)) ?_
   clear hF fa; intro fa hF
   refine st_val hF rfl rfl rfl (ex_lss (hF.ev rfl) (hF.ev rfl)) ?_
   clear hF fa; intro fa hF
   replace hF : Frm 62 fa [(0, (.slice (some ⟨g_U, k, none⟩) (m) (c_U))), (1, (.slice (A_v) (v.length) (c_v))), (2, (.int .u64 (((bw : Nat) : Int)))), (6, (.bool (false))), (14, (.int .i64 (((m : Nat) : Int)))), (7, (.int .u64 ((((cr + ((v.getD (i) 0) * bw)) / 1000000000 : Nat) : Int)))), (8, (.int .u64 (0))), (15, (.int .i64 (((i : Nat) : Int)))), (16, (.bool (decide (((i : Nat) : Int) < ((m : Nat) : Int))))), (9, (.int .i64 (((i : Nat) : Int)))), (10, (.int .u64 (((cr : Nat) : Int) + (((v.getD (i) 0 : Nat) : Int) * ((bw : Nat) : Int))))), (22, (.bool (decide (((i : Nat) : Int) < ((v.length : Nat) : Int))))), (11, (.int .u64 ((((cr + ((v.getD (i) 0) * bw)) % 1000000000 : Nat) : Int) + ((br : Nat) : Int)))), (12, (.int .u64 (((o.getD (k + i) 0 : Nat) : Int)))), (45, (.bool (decide (((o.getD (k + i) 0 : Nat) : Int) < ((((cr + ((v.getD (i) 0) * bw)) % 1000000000 : Nat) : Int) + ((br : Nat) : Int))))))] := (hF.take (hF.take (hF.take (hF.take (hF.take (hF.take (hF.take (hF.take (hF.take (hF.take (hF.take (hF.take (hF.take (hF.take (hF.take hF.nil rfl) rfl) rfl) rfl) rfl) rfl) rfl) rfl) rfl) rfl) rfl) rfl) rfl) rfl) rfl)
   refine c_nil_then ?_
   refine c_cond hF rfl (fun hc8 => ?_) (fun hc8 => ?_)
   ·
    have hc8p : ((o.getD (k + i) 0 : Nat) : Int) < ((((cr + ((v.getD (i) 0) * bw)) % 1000000000 : Nat) : Int) + ((br : Nat) : Int)) := by first | simpa using hc8 | exact bang_t hc8 | exact bang_f hc8
    refine c_reg ?_
    refine st_val hF rfl rfl rfl (ex_move (hF.ev rfl)) ?_
    clear hF fa; intro fa hF
    refine st_val hF rfl rfl rfl (ex_add (hF.ev rfl) (hF.ev rfl) (wu64 (by omega) (by omega))) ?_
    clear hF fa; intro fa hF
    refine st_val hF rfl rfl rfl (ex_assign (hF.ev rfl)) ?_
    clear hF fa; intro fa hF
    refine st_val hF rfl rfl rfl (ex_assign (hF.ev rfl)) ?_
    clear hF fa; intro fa hF
    refine c_nil_then ?_
    refine c_reg ?_
    refine st_val hF rfl rfl rfl (ex_move (hF.ev rfl)) ?_
    clear hF fa; intro fa hF
    refine st_val hF rfl rfl rfl (ex_move (hF.ev rfl)) ?_
    clear hF fa; intro fa hF
    refine st_val hF rfl rfl rfl (ex_move (hF.ev rfl)) ?_
    clear hF fa; intro fa hF
    refine st_val hF rfl rfl rfl (ex_move (hF.ev rfl)) ?_
    clear hF fa; intro fa hF
    refine st_val hF rfl rfl rfl (ex_sub (hF.ev rfl) (hF.ev rfl) (wu64 (by omega) (by omega))) ?_
    clear hF fa; intro fa hF
    refine st_val hF rfl rfl rfl (ex_conv TfQ.unds54 TfQ.und46 (hF.ev rfl) (wu32 (by omega) (by omega))) ?_
    clear hF fa; intro fa hF
    refine st_val hF rfl rfl rfl (ex_idxw (o := k) (j := i) TfQ.sl22 (hF.ev rfl) (hF.ev rfl) (by omega) (by omega)) ?_
    clear hF fa; intro fa hF
    refine st rfl (op_store (vs := #[.int .u32 ((((o.getD (k + i) 0) + 1000000000) - (((cr + ((v.getD (i) 0) * bw)) % 1000000000) + br) : Nat) : Int)]) (v := .int .u32 ((((o.getD (k + i) 0) + 1000000000) - (((cr + ((v.getD (i) 0) * bw)) % 1000000000) + br) : Nat) : Int)) (X := (g_U :: (bl So ++ X))) hF hS 0 rfl (by simp) rfl (ev_int rfl (by omega)) rfl TfQ.size46 rfl (us_fit2 (by first | omega | (simp; omega))) ?_)
    intro w9 hS E10
    rw [splice_us2 (by first | omega | (simp; omega))] at hS
    replace hS : St w0 w9 ([(g_U, 46, (us (o.set (k + i) (((o.getD (k + i) 0) + 1000000000) - (((cr + ((v.getD (i) 0) * bw)) % 1000000000) + br))) ++ R).toArray)] ++ So) := hS
    refine c_nil ?_
    refine x_bn ?_
    refine x_tn ?_
    refine c_reg ?_
    refine st_val hF rfl rfl rfl (ex_add (hF.ev rfl) (hF.ev rfl) (wi64 (by omega) (by omega))) ?_
    clear hF fa; intro fa hF
    refine st_val hF rfl rfl rfl (ex_move (hF.ev rfl)) ?_
    clear hF fa; intro fa hF
    refine c_nil ?_
    refine x_tn ?_
    exact ⟨_, (by omega), o.set (k + i) (((o.getD (k + i) 0) + 1000000000) - (((cr + ((v.getD (i) 0) * bw)) % 1000000000) + br)), (cr + ((v.getD (i) 0) * bw)) / 1000000000, 1, (i + 1), (hF.take (hF.take (hF.take (hF.take (hF.take (hF.take (hF.take (hF.take hF.nil (lk_int rfl (by omega))) (lk_int rfl (by omega))) (lk_int rfl (by omega))) rfl) rfl) rfl) rfl) rfl), hS, (E2.trans E10), (by omega), (by simp; omega), (lb_set hbo (by omega)), (by rw [set_take]; exact htk), (by rw [set_drop]; exact drop_next hdr), (by omega), (by omega), (sub_step (x := o.getD (k + i) 0) (by omega) hv hox.symm (by first | rfl | (rw [hgn (by omega)]; omega)) (by omega)), rfl⟩
   have hc8p : ¬ (((o.getD (k + i) 0 : Nat) : Int) < ((((cr + ((v.getD (i) 0) * bw)) % 1000000000 : Nat) : Int) + ((br : Nat) : Int))) := by first | simpa using hc8 | exact bang_t hc8 | exact bang_f hc8
   refine c_skip ?_
   refine x_tn ?_
   refine c_reg ?_
   refine st_val hF rfl rfl rfl (ex_move (hF.ev rfl)) ?_
   clear hF fa; intro fa hF
   refine st_val hF rfl rfl rfl (ex_move (hF.ev rfl)) ?_
   clear hF fa; intro fa hF
   refine st_val hF rfl rfl rfl (ex_move (hF.ev rfl)) ?_
   clear hF fa; intro fa hF
   refine st_val hF rfl rfl rfl (ex_move (hF.ev rfl)) ?_
   clear hF fa; intro fa hF
   refine st_val hF rfl rfl rfl (ex_sub (hF.ev rfl) (hF.ev rfl) (wu64 (by omega) (by omega))) ?_
   clear hF fa; intro fa hF
   refine st_val hF rfl rfl rfl (ex_conv TfQ.unds54 TfQ.und46 (hF.ev rfl) (wu32 (by omega) (by omega))) ?_
   clear hF fa; intro fa hF
   refine st_val hF rfl rfl rfl (ex_idxw (o := k) (j := i) TfQ.sl22 (hF.ev rfl) (hF.ev rfl) (by omega) (by omega)) ?_
   clear hF fa; intro fa hF
   refine st rfl (op_store (vs := #[.int .u32 (((o.getD (k + i) 0) - (((cr + ((v.getD (i) 0) * bw)) % 1000000000) + br) : Nat) : Int)]) (v := .int .u32 (((o.getD (k + i) 0) - (((cr + ((v.getD (i) 0) * bw)) % 1000000000) + br) : Nat) : Int)) (X := (g_U :: (bl So ++ X))) hF hS 0 rfl (by simp) rfl (ev_int rfl (by omega)) rfl TfQ.size46 rfl (us_fit2 (by first | omega | (simp; omega))) ?_)
   intro w11 hS E12
   rw [splice_us2 (by first | omega | (simp; omega))] at hS
   replace hS : St w0 w11 ([(g_U, 46, (us (o.set (k + i) ((o.getD (k + i) 0) - (((cr + ((v.getD (i) 0) * bw)) % 1000000000) + br))) ++ R).toArray)] ++ So) := hS
   refine c_nil ?_
   refine x_bn ?_
   refine x_tn ?_
   refine c_reg ?_
   refine st_val hF rfl rfl rfl (ex_add (hF.ev rfl) (hF.ev rfl) (wi64 (by omega) (by omega))) ?_
   clear hF fa; intro fa hF
   refine st_val hF rfl rfl rfl (ex_move (hF.ev rfl)) ?_
   clear hF fa; intro fa hF
   refine c_nil ?_
   refine x_tn ?_
   exact ⟨_, (by omega), o.set (k + i) ((o.getD (k + i) 0) - (((cr + ((v.getD (i) 0) * bw)) % 1000000000) + br)), (cr + ((v.getD (i) 0) * bw)) / 1000000000, 0, (i + 1), (hF.take (hF.take (hF.take (hF.take (hF.take (hF.take (hF.take (hF.take hF.nil (lk_int rfl (by omega))) (lk_int rfl (by omega))) (lk_int rfl (by omega))) rfl) rfl) rfl) rfl) rfl), hS, (E2.trans E12), (by omega), (by simp; omega), (lb_set hbo (by omega)), (by rw [set_take]; exact htk), (by rw [set_drop]; exact drop_next hdr), (by omega), (by omega), (sub_step (x := o.getD (k + i) 0) (by omega) hv hox.symm (by first | rfl | (rw [hgn (by omega)]; omega)) (by omega)), rfl⟩
  have hc4p : ¬ (((i : Nat) : Int) < ((v.length : Nat) : Int)) := by first | simpa using hc4 | exact bang_t hc4 | exact bang_f hc4
  refine c_skip ?_
  refine x_tn ?_
  refine c_seq ?_
  refine c_reg ?_
  refine st_val hF rfl rfl rfl (ex_move (hF.ev rfl)) ?_
  clear hF fa; intro fa hF
  refine st_val hF rfl rfl rfl (ex_quo (hF.ev rfl) (hF.ev rfl) (by omega) (q_u64 (x := cr) (y := 1000000000) (by omega) (by omega) (by omega))) ?_
  clear hF fa; intro fa hF
  refine st_val hF rfl rfl rfl (ex_assign (hF.ev rfl)) ?_
  clear hF fa; intro fa hF
  refine c_nil_then ?_
  refine c_seq ?_
  refine c_reg ?_
  refine st_val hF rfl rfl rfl (ex_move (hF.ev rfl)) ?_
  clear hF fa; intro fa hF
  refine st_val hF rfl rfl rfl (ex_rem (hF.ev rfl) (hF.ev rfl) (by omega) (r_any (x := cr) (y := 1000000000) (by omega) (by omega))) ?_
  clear hF fa; intro fa hF
  refine st_val hF rfl rfl rfl (ex_move (hF.ev rfl)) ?_
  clear hF fa; intro fa hF
  refine st_val hF rfl rfl rfl (ex_add (hF.ev rfl) (hF.ev rfl) (wu64 (by omega) (by omega))) ?_
  clear hF fa; intro fa hF
  refine st_val hF rfl rfl rfl (ex_assign (hF.ev rfl)) ?_
  clear hF fa; intro fa hF
  replace hF : Frm 62 fa [(0, (.slice (some ⟨g_U, k, none⟩) (m) (c_U))), (1, (.slice (A_v) (v.length) (c_v))), (2, (.int .u64 (((bw : Nat) : Int)))), (6, (.bool (false))), (14, (.int .i64 (((m : Nat) : Int)))), (7, (.int .u64 (((cr / 1000000000 : Nat) : Int)))), (8, (.int .u64 (((br : Nat) : Int)))), (15, (.int .i64 (((i : Nat) : Int)))), (16, (.bool (decide (((i : Nat) : Int) < ((m : Nat) : Int))))), (9, (.int .i64 (((i : Nat) : Int)))), (10, (.int .u64 (((cr : Nat) : Int)))), (22, (.bool (decide (((i : Nat) : Int) < ((v.length : Nat) : Int))))), (11, (.int .u64 (((cr % 1000000000 : Nat) : Int) + ((br : Nat) : Int))))] := (hF.take (hF.take (hF.take (hF.take (hF.take (hF.take (hF.take (hF.take (hF.take (hF.take (hF.take (hF.take (hF.take hF.nil rfl) rfl) rfl) rfl) rfl) rfl) rfl) rfl) rfl) rfl) rfl) rfl) rfl)
  refine c_nil_then ?_
  refine c_seq ?_
  refine c_reg ?_
  refine st_val hF rfl rfl rfl (ex_assign (hF.ev rfl)) ?_
  clear hF fa; intro fa hF
  refine c_nil_then ?_
  refine c_seq ?_
  refine c_reg ?_
  refine st_val hF rfl rfl rfl (ex_move (hF.ev rfl)) ?_
  clear hF fa; intro fa hF
  refine st_val hF rfl rfl rfl (ex_move (hF.ev rfl)) ?_
  clear hF fa; intro fa hF
  refine st_val hF rfl rfl rfl (ex_idxw (o := k) (j := i) TfQ.sl22 (hF.ev rfl) (hF.ev rfl) (by omega) (by omega)) ?_
  clear hF fa; intro fa hF
  refine st_val hF rfl rfl rfl (ex_load1b TfQ.one46 (hF.ev rfl) (hS.get 0 rfl) (us_arr2 (by first | omega | (simp; omega)))) ?_
  clear hF fa; intro fa hF
  refine st_val hF rfl rfl rfl (ex_conv TfQ.unds46 TfQ.und54 (hF.ev rfl) (wu64n (by omega))) ?_
  clear hF fa; intro fa hF
  refine st_val hF rfl rfl rfl (ex_assign (hF.ev rfl)) ?_
  clear hF fa; intro fa hF
  refine c_nil_then ?_
  refine c_seq ?_
  refine c_seq ?_
  refine c_reg ?_
  refine st_val hF rfl rfl rfl (ex_move (hF.ev rfl)) ?_
  clear hF fa; intro fa hF
  refine st_val hF rfl rfl rfl (ex_move (hF.ev rfl)) ?_
  clear hF fa; intro fa hF
  refine st_val hF rfl rfl rfl (ex_lss (hF.ev rfl) (hF.ev rfl)) ?_
  clear hF fa; intro fa hF
  refine c_nil_then ?_
  refine c_cond hF rfl (fun hc13 => ?_) (fun hc13 => ?_)
  ·
   have hc13p : ((o.getD (k + i) 0 : Nat) : Int) < (((cr % 1000000000 : Nat) : Int) + ((br : Nat) : Int)) := by first | simpa using hc13 | exact bang_t hc13 | exact bang_f hc13
   refine c_reg ?_
   refine st_val hF rfl rfl rfl (ex_move (hF.ev rfl)) ?_
   clear hF fa; intro fa hF
   refine st_val hF rfl rfl rfl (ex_add (hF.ev rfl) (hF.ev rfl) (wu64 (by omega) (by omega))) ?_
   clear hF fa; intro fa hF
   refine st_val hF rfl rfl rfl (ex_assign (hF.ev rfl)) ?_
   clear hF fa; intro fa hF
   refine st_val hF rfl rfl rfl (ex_assign (hF.ev rfl)) ?_
   clear hF fa; intro fa hF
   refine c_nil_then ?_
   refine c_reg ?_
   refine st_val hF rfl rfl rfl (ex_move (hF.ev rfl)) ?_
   clear hF fa; intro fa hF
   refine st_val hF rfl rfl rfl (ex_move (hF.ev rfl)) ?_
   clear hF fa; intro fa hF
   refine st_val hF rfl rfl rfl (ex_move (hF.ev rfl)) ?_
   clear hF fa; intro fa hF
   refine st_val hF rfl rfl rfl (ex_move (hF.ev rfl)) ?_
   clear hF fa; intro fa hF
   refine st_val hF rfl rfl rfl (ex_sub (hF.ev rfl) (hF.ev rfl) (wu64 (by omega) (by omega))) ?_
   clear hF fa; intro fa hF
   refine st_val hF rfl rfl rfl (ex_conv TfQ.unds54 TfQ.und46 (hF.ev rfl) (wu32 (by omega) (by omega))) ?_
   clear hF fa; intro fa hF
   refine st_val hF rfl rfl rfl (ex_idxw (o := k) (j := i) TfQ.sl22 (hF.ev rfl) (hF.ev rfl) (by omega) (by omega)) ?_
   clear hF fa; intro fa hF
   refine st rfl (op_store (vs := #[.int .u32 ((((o.getD (k + i) 0) + 1000000000) - ((cr % 1000000000) + br) : Nat) : Int)]) (v := .int .u32 ((((o.getD (k + i) 0) + 1000000000) - ((cr % 1000000000) + br) : Nat) : Int)) (X := (g_U :: (bl So ++ X))) hF hS 0 rfl (by simp) rfl (ev_int rfl (by omega)) rfl TfQ.size46 rfl (us_fit2 (by first | omega | (simp; omega))) ?_)
   intro w14 hS E15
   rw [splice_us2 (by first | omega | (simp; omega))] at hS
   replace hS : St w0 w14 ([(g_U, 46, (us (o.set (k + i) (((o.getD (k + i) 0) + 1000000000) - ((cr % 1000000000) + br))) ++ R).toArray)] ++ So) := hS
   replace hF : Frm 62 fa [(0, (.slice (some ⟨g_U, k, none⟩) (m) (c_U))), (1, (.slice (A_v) (v.length) (c_v))), (2, (.int .u64 (((bw : Nat) : Int)))), (6, (.bool (false))), (14, (.int .i64 (((m : Nat) : Int)))), (7, (.int .u64 (((cr / 1000000000 : Nat) : Int)))), (8, (.int .u64 (1))), (15, (.int .i64 (((i : Nat) : Int)))), (16, (.bool (decide (((i : Nat) : Int) < ((m : Nat) : Int))))), (9, (.int .i64 (((i : Nat) : Int)))), (10, (.int .u64 (((cr : Nat) : Int)))), (22, (.bool (decide (((i : Nat) : Int) < ((v.length : Nat) : Int))))), (11, (.int .u64 (((cr % 1000000000 : Nat) : Int) + ((br : Nat) : Int)))), (12, (.int .u64 (((o.getD (k + i) 0 : Nat) : Int) + 1000000000))), (45, (.bool (decide (((o.getD (k + i) 0 : Nat) : Int) < (((cr % 1000000000 : Nat) : Int) + ((br : Nat) : Int))))))] := (hF.take (hF.take (hF.take (hF.take (hF.take (hF.take (hF.take (hF.take (hF.take (hF.take (hF.take (hF.take (hF.take (hF.take (hF.take hF.nil rfl) rfl) rfl) rfl) rfl) rfl) rfl) rfl) rfl) rfl) rfl) rfl) rfl) rfl) rfl)
   refine c_nil ?_
   refine x_bn ?_
   refine x_tn ?_
   refine c_reg ?_
   refine st_val hF rfl rfl rfl (ex_add (hF.ev rfl) (hF.ev rfl) (wi64 (by omega) (by omega))) ?_
   clear hF fa; intro fa hF
   refine st_val hF rfl rfl rfl (ex_move (hF.ev rfl)) ?_
   clear hF fa; intro fa hF
   refine c_nil ?_
   refine x_tn ?_
   exact ⟨_, (by omega), o.set (k + i) (((o.getD (k + i) 0) + 1000000000) - ((cr % 1000000000) + br)), cr / 1000000000, 1, (i + 1), (hF.take (hF.take (hF.take (hF.take (hF.take (hF.take (hF.take (hF.take hF.nil (lk_int rfl (by omega))) (lk_int rfl (by omega))) (lk_int rfl (by omega))) rfl) rfl) rfl) rfl) rfl), hS, (E2.trans E15), (by omega), (by simp; omega), (lb_set hbo (by omega)), (by rw [set_take]; exact htk), (by rw [set_drop]; exact drop_next hdr), (by omega), (by omega), (sub_step (x := o.getD (k + i) 0) (by omega) hv hox.symm (by first | rfl | (rw [hgn (by omega)]; omega)) (by omega)), rfl⟩
  have hc13p : ¬ (((o.getD (k + i) 0 : Nat) : Int) < (((cr % 1000000000 : Nat) : Int) + ((br : Nat) : Int))) := by first | simpa using hc13 | exact bang_t hc13 | exact bang_f hc13
  refine c_skip ?_
  refine x_tn ?_
  refine c_reg ?_
  refine st_val hF rfl rfl rfl (ex_move (hF.ev rfl)) ?_
  clear hF fa; intro fa hF
  refine st_val hF rfl rfl rfl (ex_move (hF.ev rfl)) ?_
  clear hF fa; intro fa hF
  refine st_val hF rfl rfl rfl (ex_move (hF.ev rfl)) ?_
  clear hF fa; intro fa hF
  refine st_val hF rfl rfl rfl (ex_move (hF.ev rfl)) ?_
  clear hF fa; intro fa hF
  refine st_val hF rfl rfl rfl (ex_sub (hF.ev rfl) (hF.ev rfl) (wu64 (by omega) (by omega))) ?_
  clear hF fa; intro fa hF
  refine st_val hF rfl rfl rfl (ex_conv TfQ.unds54 TfQ.und46 (hF.ev rfl) (wu32 (by omega) (by omega))) ?_
  clear hF fa; intro fa hF
  refine st_val hF rfl rfl rfl (ex_idxw (o := k) (j := i) TfQ.sl22 (hF.ev rfl) (hF.ev rfl) (by omega) (by omega)) ?_
  clear hF fa; intro fa hF
  refine st rfl (op_store (vs := #[.int .u32 (((o.getD (k + i) 0) - ((cr % 1000000000) + br) : Nat) : Int)]) (v := .int .u32 (((o.getD (k + i) 0) - ((cr % 1000000000) + br) : Nat) : Int)) (X := (g_U :: (bl So ++ X))) hF hS 0 rfl (by simp) rfl (ev_int rfl (by omega)) rfl TfQ.size46 rfl (us_fit2 (by first | omega | (simp; omega))) ?_)
  intro w16 hS E17
  rw [splice_us2 (by first | omega | (simp; omega))] at hS
  replace hS : St w0 w16 ([(g_U, 46, (us (o.set (k + i) ((o.getD (k + i) 0) - ((cr % 1000000000) + br))) ++ R).toArray)] ++ So) := hS
  replace hF : Frm 62 fa [(0, (.slice (some ⟨g_U, k, none⟩) (m) (c_U))), (1, (.slice (A_v) (v.length) (c_v))), (2, (.int .u64 (((bw : Nat) : Int)))), (6, (.bool (false))), (14, (.int .i64 (((m : Nat) : Int)))), (7, (.int .u64 (((cr / 1000000000 : Nat) : Int)))), (8, (.int .u64 (0))), (15, (.int .i64 (((i : Nat) : Int)))), (16, (.bool (decide (((i : Nat) : Int) < ((m : Nat) : Int))))), (9, (.int .i64 (((i : Nat) : Int)))), (10, (.int .u64 (((cr : Nat) : Int)))), (22, (.bool (decide (((i : Nat) : Int) < ((v.length : Nat) : Int))))), (11, (.int .u64 (((cr % 1000000000 : Nat) : Int) + ((br : Nat) : Int)))), (12, (.int .u64 (((o.getD (k + i) 0 : Nat) : Int)))), (45, (.bool (decide (((o.getD (k + i) 0 : Nat) : Int) < (((cr % 1000000000 : Nat) : Int) + ((br : Nat) : Int))))))] := (hF.take (hF.take (hF.take (hF.take (hF.take (hF.take (hF.take (hF.take (hF.take (hF.take (hF.take (hF.take (hF.take (hF.take (hF.take hF.nil rfl) rfl) rfl) rfl) rfl) rfl) rfl) rfl) rfl) rfl) rfl) rfl) rfl) rfl) rfl)
  refine c_nil ?_
  refine x_bn ?_
  refine x_tn ?_
  refine c_reg ?_
  refine st_val hF rfl rfl rfl (ex_add (hF.ev rfl) (hF.ev rfl) (wi64 (by omega) (by omega))) ?_
  clear hF fa; intro fa hF
  refine st_val hF rfl rfl rfl (ex_move (hF.ev rfl)) ?_
  clear hF fa; intro fa hF
  refine c_nil ?_
  refine x_tn ?_
  exact ⟨_, (by omega), o.set (k + i) ((o.getD (k + i) 0) - ((cr % 1000000000) + br)), cr / 1000000000, 0, (i + 1), (hF.take (hF.take (hF.take (hF.take (hF.take (hF.take (hF.take (hF.take hF.nil (lk_int rfl (by omega))) (lk_int rfl (by omega))) (lk_int rfl (by omega))) rfl) rfl) rfl) rfl) rfl), hS, (E2.trans E17), (by omega), (by simp; omega), (lb_set hbo (by omega)), (by rw [set_take]; exact htk), (by rw [set_drop]; exact drop_next hdr), (by omega), (by omega), (sub_step (x := o.getD (k + i) 0) (by omega) hv hox.symm (by first | rfl | (rw [hgn (by omega)]; omega)) (by omega)), rfl⟩
 have hc3p : ¬ (((i : Nat) : Int) < ((m : Nat) : Int)) := by first | simpa using hc3 | exact bang_t hc3 | exact bang_f hc3
 refine c_exit ?_
 refine x_te ?_
 refine x_te ?_
 refine x_bh ?_
 refine x_tn ?_
 refine c_seq ?_
 refine c_reg ?_
 refine st_val hF rfl rfl rfl (ex_move (hF.ev rfl)) ?_
 clear hF fa; intro fa hF
 refine st_val hF rfl rfl rfl (ex_gtr (hF.ev rfl) (hF.ev rfl)) ?_
 clear hF fa; intro fa hF
 refine st_val hF rfl rfl rfl (ex_move (hF.ev rfl)) ?_
 clear hF fa; intro fa hF
 rcases Bool.eq_false_or_eq_true (decide (((br : Nat) : Int) > 0)) with hg18 | hg18
 ·
  replace hF := hF.cons (t := 58) (v := .bool true) ((hF.get 58 _ rfl).trans (congrArg Value.bool hg18))
  have hg18p : ((br : Nat) : Int) > 0 := by simpa using hg18
  refine st_skip hF rfl rfl rfl rfl rfl ?_
  clear hF fa; intro fa hF
  refine st_skip hF rfl rfl rfl rfl rfl ?_
  clear hF fa; intro fa hF
  refine st_val hF rfl rfl rfl (ex_pick (hF.ev rfl) (fun _ => hF.ev rfl) (v := undef) (fun h => by cases h) rfl) ?_
  clear hF fa; intro fa hF
  refine st_val hF rfl rfl rfl (ex_assign (hF.ev rfl)) ?_
  clear hF fa; intro fa hF
  refine c_nil_then ?_
  refine c_ret ?_
  refine end1 hF rfl (res_tmp hF rfl) ?_
  exact ⟨_, rfl, o, (cr + br), (congrArg Value.bool (by symm; rw [decide_eq_true_eq]; omega)), (ho), (hbo), (htk), (by rw [show m = i by omega]; exact hdr), (by have h1 := hv; rw [val_take_all (l := v) (by omega), show i = m by omega] at h1; exact h1), hS, E2⟩
 replace hF := hF.cons (t := 58) (v := .bool false) ((hF.get 58 _ rfl).trans (congrArg Value.bool hg18))
 have hg18p : ¬ (((br : Nat) : Int) > 0) := by simpa using hg18
 refine stg_val hF rfl rfl rfl rfl (ex_move (hF.ev rfl)) ?_
 clear hF fa; intro fa hF
 refine stg_val hF rfl rfl rfl rfl (ex_gtr (hF.ev rfl) (hF.ev rfl)) ?_
 clear hF fa; intro fa hF
 refine st_val hF rfl rfl rfl (ex_pick (hF.ev rfl) (u := undef) (fun h => by cases h) (fun _ => hF.ev rfl) rfl) ?_
 clear hF fa; intro fa hF
 refine st_val hF rfl rfl rfl (ex_assign (hF.ev rfl)) ?_
 clear hF fa; intro fa hF
 refine c_nil_then ?_
 refine c_ret ?_
 refine end1 hF rfl (res_tmp hF rfl) ?_
 exact ⟨_, rfl, o, (cr + br), (congrArg Value.bool (by rw [decide_eq_decide]; omega)), (ho), (hbo), (htk), (by rw [show m = i by omega]; exact hdr), (by have h1 := hv; rw [val_take_all (l := v) (by omega), show i = m by omega] at h1; exact h1), hS, E2⟩

set_option maxHeartbeats 4000000 in
theorem integer_restore_ok {w0 w : World} {X : List Nat} {So : List Bx} {R : List Value} {g_U c_U : Nat} {U : List Nat} (hX : ∀ m ∈ X, m < w0.heap.size) (hS : St w0 w ((g_U, 46, (us U ++ R).toArray) :: So)) (k m : Nat) {v_v : Value} {v : List Nat} (h_v : UL w (g_U :: (bl So ++ X)) v_v (v)) (hU : U.length ≤ 1000000000000) (hkm : k + m ≤ U.length) (hvm : v.length ≤ m) (hb_U : Lb U) (hb_v : Lb v) :
    Calls Try.prog 62 #[(.slice (some ⟨g_U, k, none⟩) m c_U), v_v] w (Ret fun r w' => ∃ o : List Nat, ∃ cy : Nat, r = .tuple #[] ∧ o.length = U.length ∧ Lb o ∧ o.take k = U.take k ∧ o.drop (k + m) = U.drop (k + m) ∧ val (win o k m) + 1000000000 ^ m * cy = val (win U k m) + val v ∧ cy ≤ 1 ∧ St w0 w' ((g_U, 46, (us o ++ R).toArray) :: So) ∧ Ext w (g_U :: (bl So ++ X)) w' (g_U :: (bl So ++ X))) := by
 refine enter (N := 37) (fn := Try.f62) (vs := [(.slice (some ⟨g_U, k, none⟩) m c_U), v_v]) Try.func62 rfl rfl rfl ?_
 intro fa hF
 obtain ⟨A_v, _, c_v, rfl, rfl, hu_v⟩ := h_v
 have hl_v := hu_v.len; have hc_v := hu_v.cap
 replace hF : Frm 37 fa [(0, (.slice (some ⟨g_U, k, none⟩) (m) (c_U))), (1, (.slice (A_v) (v.length) (c_v)))] := hF
 replace hS : St w0 w ([(g_U, 46, (us (U) ++ R).toArray)] ++ So) := hS
 refine c_seq ?_
 refine c_reg ?_
 refine st_val hF rfl rfl rfl (ex_assign (hF.ev rfl)) ?_
 clear hF fa; intro fa hF
 refine c_nil_then ?_
 refine c_seq ?_
 refine c_reg ?_
 refine st_val hF rfl rfl rfl (ex_move (hF.ev rfl)) ?_
 clear hF fa; intro fa hF
 refine st_val hF rfl rfl rfl (ex_len TfQ.sls22 (hF.ev rfl)) ?_
 clear hF fa; intro fa hF
 refine st_val hF rfl rfl rfl (ex_move (hF.ev rfl)) ?_
 clear hF fa; intro fa hF
 refine c_nil_then ?_
 refine c_block ?_
 refine c_loop (fun mu fa w' => ∃ o : List Nat, ∃ cr : Nat, ∃ i : Nat, Frm 37 fa [(0, (.slice (some ⟨g_U, k, none⟩) (m) (c_U))), (1, (.slice (A_v) (v.length) (c_v))), (8, (.int .i64 (((m : Nat) : Int)))), (4, (.int .u32 (((cr : Nat) : Int)))), (9, (.int .i64 (((i : Nat) : Int))))] ∧ St w0 w' ([(g_U, 46, (us (o) ++ R).toArray)] ++ So) ∧ Ext w (g_U :: (bl So ++ X)) w' (g_U :: (bl So ++ X)) ∧ (i ≤ m) ∧ (o.length = U.length) ∧ (Lb o) ∧ (o.take k = U.take k) ∧ (o.drop (k + i) = U.drop (k + i)) ∧ (cr ≤ 1) ∧ (val (win o k i) + 1000000000 ^ i * cr = val (win U k i) + val (v.take i)) ∧ m - i = mu) ?_ ?_
 ·
  exact ⟨_, U, 0, 0, (hF.take (hF.take (hF.take (hF.take (hF.take hF.nil (lk_int rfl (by omega))) (lk_int rfl (by omega))) rfl) rfl) rfl), hS, Ext.refl _ _, (by omega), (rfl), (hb_U), (rfl), (rfl), (by omega), (by simp [win_zero, val]), rfl⟩
 clear hF fa; intro n0_ fa w' hI
 clear hS
 obtain ⟨o, cr, i, hF, hS, E2, hi, ho, hbo, htk, hdr, hcr, hv, rfl⟩ := hI
 rename World => w1
 have hox := drop_getD hdr
 have hoi := hbo.getD (k + i); have hvi := hb_v.getD i
 have hgn := fun h => getD_none (l := v) (k := i) h
 refine c_seq ?_
 refine c_reg ?_
 refine st_val hF rfl rfl rfl (ex_lss (hF.ev rfl) (hF.ev rfl)) ?_
 clear hF fa; intro fa hF
 refine c_nil_then ?_
 refine c_seq ?_
 refine c_cond hF rfl (fun hc3 => ?_) (fun hc3 => ?_)
 ·
  have hc3p : ((i : Nat) : Int) < ((m : Nat) : Int) := by first | simpa using hc3 | exact bang_t hc3 | exact bang_f hc3
  refine c_skip ?_
  refine x_tn ?_
  refine c_seq ?_
  refine c_block ?_
  refine c_seq ?_
  refine c_reg ?_
  refine st_val hF rfl rfl rfl (ex_move (hF.ev rfl)) ?_
  clear hF fa; intro fa hF
  refine st_val hF rfl rfl rfl (ex_assign (hF.ev rfl)) ?_
  clear hF fa; intro fa hF
  refine c_nil_then ?_
  refine c_seq ?_
  refine c_reg ?_
  refine st_val hF rfl rfl rfl (ex_move (hF.ev rfl)) ?_
  clear hF fa; intro fa hF
  refine st_val hF rfl rfl rfl (ex_move (hF.ev rfl)) ?_
  clear hF fa; intro fa hF
  refine st_val hF rfl rfl rfl (ex_idxw (o := k) (j := i) TfQ.sl22 (hF.ev rfl) (hF.ev rfl) (by omega) (by omega)) ?_
  clear hF fa; intro fa hF
  refine st_val hF rfl rfl rfl (ex_load1b TfQ.one46 (hF.ev rfl) (hS.get 0 rfl) (us_arr2 (by first | omega | (simp; omega)))) ?_
  clear hF fa; intro fa hF
  refine st_val hF rfl rfl rfl (ex_move (hF.ev rfl)) ?_
  clear hF fa; intro fa hF
  refine st_val hF rfl rfl rfl (ex_add (hF.ev rfl) (hF.ev rfl) (wu32 (by omega) (by omega))) ?_
  clear hF fa; intro fa hF
  refine st_val hF rfl rfl rfl (ex_assign (hF.ev rfl)) ?_
  clear hF fa; intro fa hF
  refine c_nil_then ?_
  refine c_seq ?_
  refine c_seq ?_
  refine c_reg ?_
  refine st_val hF rfl rfl rfl (ex_move (hF.ev rfl)) ?_
  clear hF fa; intro fa hF
  refine st_val hF rfl rfl rfl (ex_move (hF.ev rfl)) ?_
  clear hF fa; intro fa hF
  refine st_val hF rfl rfl rfl (ex_len TfQ.sls22 (hF.ev rfl)) ?_
  clear hF fa; intro fa hF
  refine st_val hF rfl rfl rfl (ex_lss (hF.ev rfl) (hF.ev rfl)) ?_
  clear hF fa; intro fa hF
  refine c_nil_then ?_
  refine c_cond hF rfl (fun hc4 => ?_) (fun hc4 => ?_)
  ·
   have hc4p : ((i : Nat) : Int) < ((v.length : Nat) : Int) := by first | simpa using hc4 | exact bang_t hc4 | exact bang_f hc4
   refine c_reg ?_
   refine st_val hF rfl rfl rfl (ex_move (hF.ev rfl)) ?_
   clear hF fa; intro fa hF
   refine st_val hF rfl rfl rfl (ex_move (hF.ev rfl)) ?_
   clear hF fa; intro fa hF
   refine st_val hF rfl rfl rfl (ex_move (hF.ev rfl)) ?_
   clear hF fa; intro fa hF
   obtain ⟨ad5, hA6, hq7⟩ := (hu_v.ext E2).cl.at_ (us_get (l := v) (i := i) (by omega))
   refine st_val hF rfl rfl rfl (ex_idx (j := i) TfQ.sl22 (hF.ev rfl) hA6 (hF.ev rfl) (by omega) (by omega)) ?_
   clear hF fa; intro fa hF
   refine st_val hF rfl rfl rfl (ex_load1 TfQ.one46 (hF.ev rfl) hq7) ?_
   clear hF fa; intro fa hF
   refine st_val hF rfl rfl rfl (ex_add (hF.ev rfl) (hF.ev rfl) (wu32 (by omega) (by omega))) ?_
   clear hF fa; intro fa hF
   refine st_val hF rfl rfl rfl (ex_assign (hF.ev rfl)) ?_
   clear hF fa; intro fa hF
   replace hF : Frm 37 fa [(0, (.slice (some ⟨g_U, k, none⟩) (m) (c_U))), (1, (.slice (A_v) (v.length) (c_v))), (8, (.int .i64 (((m : Nat) : Int)))), (4, (.int .u32 (((cr : Nat) : Int)))), (9, (.int .i64 (((i : Nat) : Int)))), (10, (.bool (decide (((i : Nat) : Int) < ((m : Nat) : Int))))), (5, (.int .i64 (((i : Nat) : Int)))), (6, (.int .u32 ((((o.getD (k + i) 0 : Nat) : Int) + ((cr : Nat) : Int)) + ((v.getD (i) 0 : Nat) : Int)))), (21, (.bool (decide (((i : Nat) : Int) < ((v.length : Nat) : Int)))))] := (hF.take (hF.take (hF.take (hF.take (hF.take (hF.take (hF.take (hF.take (hF.take hF.nil rfl) rfl) rfl) rfl) rfl) rfl) rfl) rfl) rfl)
   refine c_nil_then ?_
   refine c_seq ?_
   refine c_reg ?_
   refine st_val hF rfl rfl rfl (ex_assign (hF.ev rfl)) ?_
   clear hF fa; intro fa hF
   refine c_nil_then ?_
   refine c_seq ?_
   refine c_seq ?_
   refine c_reg ?_
   refine st_val hF rfl rfl rfl (ex_move (hF.ev rfl)) ?_
   clear hF fa; intro fa hF
   refine st_val hF rfl rfl rfl (ex_geq (hF.ev rfl) (hF.ev rfl)) ?_
   clear hF fa; intro fa hF
   refine c_nil_then ?_
   refine c_cond hF rfl (fun hc8 => ?_) (fun hc8 => ?_)
   ·
    have hc8p : ((((o.getD (k + i) 0 : Nat) : Int) + ((cr : Nat) : Int)) + ((v.getD (i) 0 : Nat) : Int)) ≥ 1000000000 := by first | simpa using hc8 | exact bang_t hc8 | exact bang_f hc8
    refine c_reg ?_
    refine st_val hF rfl rfl rfl (ex_move (hF.ev rfl)) ?_
    clear hF fa; intro fa hF
    refine st_val hF rfl rfl rfl (ex_sub (hF.ev rfl) (hF.ev rfl) (wu32 (by omega) (by omega))) ?_
    clear hF fa; intro fa hF
    refine st_val hF rfl rfl rfl (ex_assign (hF.ev rfl)) ?_
    clear hF fa; intro fa hF
    refine st_val hF rfl rfl rfl (ex_assign (hF.ev rfl)) ?_
    clear hF fa; intro fa hF
    refine c_nil_then ?_
    refine c_reg ?_
    refine st_val hF rfl rfl rfl (ex_move (hF.ev rfl)) ?_
    clear hF fa; intro fa hF
    refine st_val hF rfl rfl rfl (ex_move (hF.ev rfl)) ?_
    clear hF fa; intro fa hF
    refine st_val hF rfl rfl rfl (ex_move (hF.ev rfl)) ?_
    clear hF fa; intro fa hF
    refine st_val hF rfl rfl rfl (ex_idxw (o := k) (j := i) TfQ.sl22 (hF.ev rfl) (hF.ev rfl) (by omega) (by omega)) ?_
    clear hF fa; intro fa hF
    refine st rfl (op_store (vs := #[.int .u32 (((((o.getD (k + i) 0) + cr) + (v.getD (i) 0)) - 1000000000 : Nat) : Int)]) (v := .int .u32 (((((o.getD (k + i) 0) + cr) + (v.getD (i) 0)) - 1000000000 : Nat) : Int)) (X := (g_U :: (bl So ++ X))) hF hS 0 rfl (by simp) rfl (ev_int rfl (by omega)) rfl TfQ.size46 rfl (us_fit2 (by first | omega | (simp; omega))) ?_)
    intro w9 hS E10
    rw [splice_us2 (by first | omega | (simp; omega))] at hS
    replace hS : St w0 w9 ([(g_U, 46, (us (o.set (k + i) ((((o.getD (k + i) 0) + cr) + (v.getD (i) 0)) - 1000000000)) ++ R).toArray)] ++ So) := hS
    refine c_nil ?_
    refine x_bn ?_
    refine x_tn ?_
    refine c_reg ?_
    refine st_val hF rfl rfl rfl (ex_add (hF.ev rfl) (hF.ev rfl) (wi64 (by omega) (by omega))) ?_
    clear hF fa; intro fa hF
    refine st_val hF rfl rfl rfl (ex_move (hF.ev rfl)) ?_
    clear hF fa; intro fa hF
    refine c_nil ?_
    refine x_tn ?_
    exact ⟨_, (by omega), o.set (k + i) ((((o.getD (k + i) 0) + cr) + (v.getD (i) 0)) - 1000000000), 1, (i + 1), (hF.take (hF.take (hF.take (hF.take (hF.take hF.nil (lk_int rfl (by omega))) (lk_int rfl (by omega))) rfl) rfl) rfl), hS, (E2.trans E10), (by omega), (by simp; omega), (lb_set hbo (by omega)), (by rw [set_take]; exact htk), (by rw [set_drop]; exact drop_next hdr), (by omega), (add_step (x := o.getD (k + i) 0) (by omega) hv hox.symm (by first | omega | (rw [hgn (by omega)]; omega))), rfl⟩
   have hc8p : ¬ (((((o.getD (k + i) 0 : Nat) : Int) + ((cr : Nat) : Int)) + ((v.getD (i) 0 : Nat) : Int)) ≥ 1000000000) := by first | simpa using hc8 | exact bang_t hc8 | exact bang_f hc8
   refine c_skip ?_
   refine x_tn ?_
   refine c_reg ?_
   refine st_val hF rfl rfl rfl (ex_move (hF.ev rfl)) ?_
   clear hF fa; intro fa hF
   refine st_val hF rfl rfl rfl (ex_move (hF.ev rfl)) ?_
   clear hF fa; intro fa hF
   refine st_val hF rfl rfl rfl (ex_move (hF.ev rfl)) ?_
   clear hF fa; intro fa hF
   refine st_val hF rfl rfl rfl (ex_idxw (o := k) (j := i) TfQ.sl22 (hF.ev rfl) (hF.ev rfl) (by omega) (by omega)) ?_
   clear hF fa; intro fa hF
   refine st rfl (op_store (vs := #[.int .u32 ((((o.getD (k + i) 0) + cr) + (v.getD (i) 0) : Nat) : Int)]) (v := .int .u32 ((((o.getD (k + i) 0) + cr) + (v.getD (i) 0) : Nat) : Int)) (X := (g_U :: (bl So ++ X))) hF hS 0 rfl (by simp) rfl (ev_int rfl (by omega)) rfl TfQ.size46 rfl (us_fit2 (by first | omega | (simp; omega))) ?_)
   intro w11 hS E12
   rw [splice_us2 (by first | omega | (simp; omega))] at hS
   replace hS : St w0 w11 ([(g_U, 46, (us (o.set (k + i) (((o.getD (k + i) 0) + cr) + (v.getD (i) 0))) ++ R).toArray)] ++ So) := hS
   refine c_nil ?_
   refine x_bn ?_
   refine x_tn ?_
   refine c_reg ?_
   refine st_val hF rfl rfl rfl (ex_add (hF.ev rfl) (hF.ev rfl) (wi64 (by omega) (by omega))) ?_
   clear hF fa; intro fa hF
   refine st_val hF rfl rfl rfl (ex_move (hF.ev rfl)) ?_
   clear hF fa; intro fa hF
   refine c_nil ?_
   refine x_tn ?_
   exact ⟨_, (by omega), o.set (k + i) (((o.getD (k + i) 0) + cr) + (v.getD (i) 0)), 0, (i + 1), (hF.take (hF.take (hF.take (hF.take (hF.take hF.nil (lk_int rfl (by omega))) (lk_int rfl (by omega))) rfl) rfl) rfl), hS, (E2.trans E12), (by omega), (by simp; omega), (lb_set hbo (by omega)), (by rw [set_take]; exact htk), (by rw [set_drop]; exact drop_next hdr), (by omega), (add_step (x := o.getD (k + i) 0) (by omega) hv hox.symm (by first | omega | (rw [hgn (by omega)]; omega))), rfl⟩
  have hc4p : ¬ (((i : Nat) : Int) < ((v.length : Nat) : Int)) := by first | simpa using hc4 | exact bang_t hc4 | exact bang_f hc4
  refine c_skip ?_
  refine x_tn ?_
  refine c_seq ?_
  refine c_reg ?_
  refine st_val hF rfl rfl rfl (ex_assign (hF.ev rfl)) ?_
  clear hF fa; intro fa hF
  refine c_nil_then ?_
  refine c_seq ?_
  refine c_seq ?_
  refine c_reg ?_
  refine st_val hF rfl rfl rfl (ex_move (hF.ev rfl)) ?_
  clear hF fa; intro fa hF
  refine st_val hF rfl rfl rfl (ex_geq (hF.ev rfl) (hF.ev rfl)) ?_
  clear hF fa; intro fa hF
  replace hF : Frm 37 fa [(0, (.slice (some ⟨g_U, k, none⟩) (m) (c_U))), (1, (.slice (A_v) (v.length) (c_v))), (8, (.int .i64 (((m : Nat) : Int)))), (4, (.int .u32 (0))), (9, (.int .i64 (((i : Nat) : Int)))), (10, (.bool (decide (((i : Nat) : Int) < ((m : Nat) : Int))))), (5, (.int .i64 (((i : Nat) : Int)))), (6, (.int .u32 (((o.getD (k + i) 0 : Nat) : Int) + ((cr : Nat) : Int)))), (21, (.bool (decide (((i : Nat) : Int) < ((v.length : Nat) : Int))))), (29, (.bool (decide ((((o.getD (k + i) 0 : Nat) : Int) + ((cr : Nat) : Int)) ≥ 1000000000))))] := (hF.take (hF.take (hF.take (hF.take (hF.take (hF.take (hF.take (hF.take (hF.take (hF.take hF.nil rfl) rfl) rfl) rfl) rfl) rfl) rfl) rfl) rfl) rfl)
  refine c_nil_then ?_
  refine c_cond hF rfl (fun hc13 => ?_) (fun hc13 => ?_)
  ·
   have hc13p : (((o.getD (k + i) 0 : Nat) : Int) + ((cr : Nat) : Int)) ≥ 1000000000 := by first | simpa using hc13 | exact bang_t hc13 | exact bang_f hc13
   refine c_reg ?_
   refine st_val hF rfl rfl rfl (ex_move (hF.ev rfl)) ?_
   clear hF fa; intro fa hF
   refine st_val hF rfl rfl rfl (ex_sub (hF.ev rfl) (hF.ev rfl) (wu32 (by omega) (by omega))) ?_
   clear hF fa; intro fa hF
   refine st_val hF rfl rfl rfl (ex_assign (hF.ev rfl)) ?_
   clear hF fa; intro fa hF
   refine st_val hF rfl rfl rfl (ex_assign (hF.ev rfl)) ?_
   clear hF fa; intro fa hF
   refine c_nil_then ?_
   refine c_reg ?_
   refine st_val hF rfl rfl rfl (ex_move (hF.ev rfl)) ?_
   clear hF fa; intro fa hF
   refine st_val hF rfl rfl rfl (ex_move (hF.ev rfl)) ?_
   clear hF fa; intro fa hF
   refine st_val hF rfl rfl rfl (ex_move (hF.ev rfl)) ?_
   clear hF fa; intro fa hF
   refine st_val hF rfl rfl rfl (ex_idxw (o := k) (j := i) TfQ.sl22 (hF.ev rfl) (hF.ev rfl) (by omega) (by omega)) ?_
   clear hF fa; intro fa hF
   refine st rfl (op_store (vs := #[.int .u32 ((((o.getD (k + i) 0) + cr) - 1000000000 : Nat) : Int)]) (v := .int .u32 ((((o.getD (k + i) 0) + cr) - 1000000000 : Nat) : Int)) (X := (g_U :: (bl So ++ X))) hF hS 0 rfl (by simp) rfl (ev_int rfl (by omega)) rfl TfQ.size46 rfl (us_fit2 (by first | omega | (simp; omega))) ?_)
   intro w14 hS E15
   rw [splice_us2 (by first | omega | (simp; omega))] at hS
   replace hS : St w0 w14 ([(g_U, 46, (us (o.set (k + i) (((o.getD (k + i) 0) + cr) - 1000000000)) ++ R).toArray)] ++ So) := hS
   refine c_nil ?_
   refine x_bn ?_
   refine x_tn ?_
   refine c_reg ?_
   refine st_val hF rfl rfl rfl (ex_add (hF.ev rfl) (hF.ev rfl) (wi64 (by omega) (by omega))) ?_
   clear hF fa; intro fa hF
   refine st_val hF rfl rfl rfl (ex_move (hF.ev rfl)) ?_
   clear hF fa; intro fa hF
   refine c_nil ?_
   refine x_tn ?_
   exact ⟨_, (by omega), o.set (k + i) (((o.getD (k + i) 0) + cr) - 1000000000), 1, (i + 1), (hF.take (hF.take (hF.take (hF.take (hF.take hF.nil (lk_int rfl (by omega))) (lk_int rfl (by omega))) rfl) rfl) rfl), hS, (E2.trans E15), (by omega), (by simp; omega), (lb_set hbo (by omega)), (by rw [set_take]; exact htk), (by rw [set_drop]; exact drop_next hdr), (by omega), (add_step (x := o.getD (k + i) 0) (by omega) hv hox.symm (by first | omega | (rw [hgn (by omega)]; omega))), rfl⟩
  have hc13p : ¬ ((((o.getD (k + i) 0 : Nat) : Int) + ((cr : Nat) : Int)) ≥ 1000000000) := by first | simpa using hc13 | exact bang_t hc13 | exact bang_f hc13
  refine c_skip ?_
  refine x_tn ?_
  refine c_reg ?_
  refine st_val hF rfl rfl rfl (ex_move (hF.ev rfl)) ?_
  clear hF fa; intro fa hF
  refine st_val hF rfl rfl rfl (ex_move (hF.ev rfl)) ?_
  clear hF fa; intro fa hF
  refine st_val hF rfl rfl rfl (ex_move (hF.ev rfl)) ?_
  clear hF fa; intro fa hF
  refine st_val hF rfl rfl rfl (ex_idxw (o := k) (j := i) TfQ.sl22 (hF.ev rfl) (hF.ev rfl) (by omega) (by omega)) ?_
  clear hF fa; intro fa hF
  refine st rfl (op_store (vs := #[.int .u32 (((o.getD (k + i) 0) + cr : Nat) : Int)]) (v := .int .u32 (((o.getD (k + i) 0) + cr : Nat) : Int)) (X := (g_U :: (bl So ++ X))) hF hS 0 rfl (by simp) rfl (ev_int rfl (by omega)) rfl TfQ.size46 rfl (us_fit2 (by first | omega | (simp; omega))) ?_)
  intro w16 hS E17
  rw [splice_us2 (by first | omega | (simp; omega))] at hS
  replace hS : St w0 w16 ([(g_U, 46, (us (o.set (k + i) ((o.getD (k + i) 0) + cr)) ++ R).toArray)] ++ So) := hS
  refine c_nil ?_
  refine x_bn ?_
  refine x_tn ?_
  refine c_reg ?_
  refine st_val hF rfl rfl rfl (ex_add (hF.ev rfl) (hF.ev rfl) (wi64 (by omega) (by omega))) ?_
  clear hF fa; intro fa hF
  refine st_val hF rfl rfl rfl (ex_move (hF.ev rfl)) ?_
  clear hF fa; intro fa hF
  refine c_nil ?_
  refine x_tn ?_
  exact ⟨_, (by omega), o.set (k + i) ((o.getD (k + i) 0) + cr), 0, (i + 1), (hF.take (hF.take (hF.take (hF.take (hF.take hF.nil (lk_int rfl (by omega))) (lk_int rfl (by omega))) rfl) rfl) rfl), hS, (E2.trans E17), (by omega), (by simp; omega), (lb_set hbo (by omega)), (by rw [set_take]; exact htk), (by rw [set_drop]; exact drop_next hdr), (by omega), (add_step (x := o.getD (k + i) 0) (by omega) hv hox.symm (by first | omega | (rw [hgn (by omega)]; omega))), rfl⟩
 have hc3p : ¬ (((i : Nat) : Int) < ((m : Nat) : Int)) := by first | simpa using hc3 | exact bang_t hc3 | exact bang_f hc3
 refine c_exit ?_
 refine x_te ?_
 refine x_te ?_
 refine x_bh ?_
 refine end0 hF rfl ?_
 exact ⟨_, rfl, o, cr, rfl, (ho), (hbo), (htk), (by rw [show m = i by omega]; exact hdr), (by have h1 := hv; rw [val_take_all (l := v) (by omega), show i = m by omega] at h1; exact h1), (hcr), hS, E2⟩

end Go.Proofs.Ytlaojdpcfenlkaa
