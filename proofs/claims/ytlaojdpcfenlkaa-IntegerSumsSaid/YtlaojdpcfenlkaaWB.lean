/-
  What the functions plus do, each call by call.
  Conditions: none.
-/
import Derived.Test.YtlaojdpcfenlkaaChecked
import Derived.Test.YtlaojdpcfenlkaaSwBaseK
import Derived.Test.YtlaojdpcfenlkaaWA
namespace Go.Proofs.Ytlaojdpcfenlkaa
open Go Go.RowKit Go.Sw
set_option linter.unusedVariables false
namespace TfB
theorem body43 : hasBody Try.prog 43 = true := by kernel_rfl
theorem el46 : Sw.elemOf Try.prog 46 = some (#[.int .u32 0], 1, 4) := by kernel_rfl
theorem one46 : isOne Try.prog 46 = true := by kernel_rfl
theorem size46 : (Try.prog.info? 46).map (fun i => i.size) = some 1 := by kernel_rfl
theorem sl22 : sliceOf Try.prog 22 = some (46, 1) := by kernel_rfl
theorem sls22 : (sliceOf Try.prog 22).isSome = true := by kernel_rfl
end TfB
set_option maxHeartbeats 4000000 in
theorem ref01_plus_ok {w : World} {X : List Nat} (hX : ∀ m ∈ X, m < w.heap.size) {v_x : Value} {x : List Nat} (h_x : UL w X v_x (x)) {v_y : Value} {y : List Nat} (h_y : UL w X v_y (y)) (hn_x : x.length ≤ 1000000000000) (hn_y : y.length ≤ 1000000000000) (hb_x : Lb x) (hb_y : Lb y) :
    Calls Try.prog 46 #[v_x, v_y] w (Ret fun r w' => (UL w' X r (lim (val x + val y))) ∧ Below w.heap.size w w') := by
 refine enter (N := 55) (fn := Try.f46) (vs := [v_x, v_y]) Try.func46 rfl rfl rfl ?_
 intro fa hF
 obtain ⟨A_x, _, c_x, rfl, rfl, hu_x⟩ := h_x
 have hl_x := hu_x.len; have hc_x := hu_x.cap
 obtain ⟨A_y, _, c_y, rfl, rfl, hu_y⟩ := h_y
 have hl_y := hu_y.len; have hc_y := hu_y.cap
 replace hF : Frm 55 fa [(0, (.slice (A_x) (x.length) (c_x))), (1, (.slice (A_y) (y.length) (c_y)))] := hF
 have hS := St.refl w
 refine c_seq ?_
 refine c_reg ?_
 refine st_val hF rfl rfl rfl (ex_assign (hF.ev rfl)) ?_
 clear hF fa; intro fa hF
 refine c_nil_then ?_
 refine c_seq ?_
 refine c_seq ?_
 refine c_reg ?_
 refine st_val hF rfl rfl rfl (ex_move (hF.ev rfl)) ?_
 clear hF fa; intro fa hF
 refine st_val hF rfl rfl rfl (ex_len TfB.sls22 (hF.ev rfl)) ?_
 clear hF fa; intro fa hF
 refine st_val hF rfl rfl rfl (ex_move (hF.ev rfl)) ?_
 clear hF fa; intro fa hF
 refine st_val hF rfl rfl rfl (ex_len TfB.sls22 (hF.ev rfl)) ?_
 clear hF fa; intro fa hF
 refine st_val hF rfl rfl rfl (ex_lss (hF.ev rfl) (hF.ev rfl)) ?_
 clear hF fa; intro fa hF
 refine c_nil_then ?_
 refine c_cond hF rfl (fun hc1 => ?_) (fun hc1 => ?_)
 ·
  have hc1p : ((x.length : Nat) : Int) < ((y.length : Nat) : Int) := by first | simpa using hc1 | exact bang_t hc1 | exact bang_f hc1
  refine c_reg ?_
  refine st_val hF rfl rfl rfl (ex_move (hF.ev rfl)) ?_
  clear hF fa; intro fa hF
  refine st_val hF rfl rfl rfl (ex_move (hF.ev rfl)) ?_
  clear hF fa; intro fa hF
  refine st_val hF rfl rfl rfl (ex_assign (hF.ev rfl)) ?_
  clear hF fa; intro fa hF
  refine st_val hF rfl rfl rfl (ex_assign (hF.ev rfl)) ?_
  clear hF fa; intro fa hF
  refine c_nil_then ?_
  refine c_seq ?_
  refine c_reg ?_
  refine st_val hF rfl rfl rfl (ex_move (hF.ev rfl)) ?_
  clear hF fa; intro fa hF
  refine st_val hF rfl rfl rfl (ex_len TfB.sls22 (hF.ev rfl)) ?_
  clear hF fa; intro fa hF
  refine st_val hF rfl rfl rfl (ex_add (hF.ev rfl) (hF.ev rfl) (wi64 (by omega) (by omega))) ?_
  clear hF fa; intro fa hF
  refine st rfl (op_make (X := X) (nl := y.length + 1) (nc := y.length + 1) hF hS rfl TfB.sl22 TfB.el46 rfl rfl (by omega) (by omega) (by omega) (by omega) (by omega) (made_us _) ?_)
  intro g2 w3 hg5 hS E4; refine gen_ ?_; clear hF fa; intro fa hF
  replace hS : St w w3 [(g2, 46, (us (List.replicate ((y.length + 1) * 1) 0)).toArray)] := hS
  rw [Nat.mul_one] at hS
  refine st_val hF rfl rfl rfl (ex_assign (hF.ev rfl)) ?_
  clear hF fa; intro fa hF
  refine c_nil_then ?_
  refine c_seq ?_
  refine c_reg ?_
  refine st_val hF rfl rfl rfl (ex_assign (hF.ev rfl)) ?_
  clear hF fa; intro fa hF
  refine c_nil_then ?_
  refine c_seq ?_
  refine c_seq ?_
  refine c_reg ?_
  refine st_val hF rfl rfl rfl (ex_assign (hF.ev rfl)) ?_
  clear hF fa; intro fa hF
  refine c_nil_then ?_
  refine c_block ?_
  refine c_loop (fun mu fa w' => ∃ o : List Nat, ∃ cr : Nat, ∃ k : Nat, Frm 55 fa [(0, (.slice (A_y) (y.length) (c_y))), (1, (.slice (A_x) (x.length) (c_x))), (4, (.slice (none) (0) (0))), (12, (.bool (decide (((x.length : Nat) : Int) < ((y.length : Nat) : Int))))), (5, (.slice (some ⟨g2, 0, none⟩) (y.length + 1) (y.length + 1))), (6, (.int .u32 (((cr : Nat) : Int)))), (7, (.int .i64 (((k : Nat) : Int))))] ∧ St w w' [(g2, 46, (us (o)).toArray)] ∧ Ext w3 (g2 :: X) w' (g2 :: X) ∧ (k ≤ y.length) ∧ (o.length = y.length + 1) ∧ (Lb o) ∧ (cr ≤ 1) ∧ (val (o.take k) + 1000000000 ^ k * cr = val (y.take k) + val (x.take k)) ∧ y.length - k = mu) ?_ ?_
  ·
   exact ⟨_, List.replicate (y.length + 1) 0, 0, 0, (hF.take (hF.take (hF.take (hF.take (hF.take (hF.take (hF.take hF.nil (lk_int rfl (by omega))) (lk_int rfl (by omega))) rfl) rfl) rfl) rfl) rfl), hS, Ext.refl _ _, (by omega), (by simp), (lb_zeros _), (by omega), (by simp [val]), rfl⟩
  clear hF fa; intro n0_ fa w' hI
  clear hS
  obtain ⟨o, cr, k, hF, hS, E7, hk, ho, hbo, hcr, hv, rfl⟩ := hI
  rename World => w6
  have hxk := hb_y.getD k; have hyk := hb_x.getD k
  refine c_seq ?_
  refine c_seq ?_
  refine c_reg ?_
  refine st_val hF rfl rfl rfl (ex_move (hF.ev rfl)) ?_
  clear hF fa; intro fa hF
  refine st_val hF rfl rfl rfl (ex_move (hF.ev rfl)) ?_
  clear hF fa; intro fa hF
  refine st_val hF rfl rfl rfl (ex_len TfB.sls22 (hF.ev rfl)) ?_
  clear hF fa; intro fa hF
  refine st_val hF rfl rfl rfl (ex_lss (hF.ev rfl) (hF.ev rfl)) ?_
  clear hF fa; intro fa hF
  replace hF : Frm 55 fa [(0, (.slice (A_y) (y.length) (c_y))), (1, (.slice (A_x) (x.length) (c_x))), (4, (.slice (none) (0) (0))), (12, (.bool (decide (((x.length : Nat) : Int) < ((y.length : Nat) : Int))))), (5, (.slice (some ⟨g2, 0, none⟩) (y.length + 1) (y.length + 1))), (6, (.int .u32 (((cr : Nat) : Int)))), (7, (.int .i64 (((k : Nat) : Int)))), (22, (.bool (decide (((k : Nat) : Int) < ((y.length : Nat) : Int)))))] := (hF.take (hF.take (hF.take (hF.take (hF.take (hF.take (hF.take (hF.take hF.nil rfl) rfl) rfl) rfl) rfl) rfl) rfl) rfl)
  refine c_nil_then ?_
  refine c_cond hF rfl (fun hc8 => ?_) (fun hc8 => ?_)
  ·
   have hc8p : ((k : Nat) : Int) < ((y.length : Nat) : Int) := by first | simpa using hc8 | exact bang_t hc8 | exact bang_f hc8
   refine c_skip ?_
   refine x_tn ?_
   refine c_seq ?_
   refine c_block ?_
   refine c_seq ?_
   refine c_reg ?_
   refine st_val hF rfl rfl rfl (ex_move (hF.ev rfl)) ?_
   clear hF fa; intro fa hF
   refine st_val hF rfl rfl rfl (ex_move (hF.ev rfl)) ?_
   clear hF fa; intro fa hF
   refine st_val hF rfl rfl rfl (ex_move (hF.ev rfl)) ?_
   clear hF fa; intro fa hF
   obtain ⟨ad9, hA10, hq11⟩ := (hu_y.ext (E4.trans E7)).cl.at_ (us_get (l := y) (i := k) (by omega))
   refine st_val hF rfl rfl rfl (ex_idx (j := k) TfB.sl22 (hF.ev rfl) hA10 (hF.ev rfl) (by omega) (by omega)) ?_
   clear hF fa; intro fa hF
   refine st_val hF rfl rfl rfl (ex_load1 TfB.one46 (hF.ev rfl) hq11) ?_
   clear hF fa; intro fa hF
   refine st_val hF rfl rfl rfl (ex_add (hF.ev rfl) (hF.ev rfl) (wu32 (by omega) (by omega))) ?_
   clear hF fa; intro fa hF
   refine st_val hF rfl rfl rfl (ex_assign (hF.ev rfl)) ?_
   clear hF fa; intro fa hF
   refine c_nil_then ?_
   refine c_seq ?_
   refine c_seq ?_
   refine c_reg ?_
   refine st_val hF rfl rfl rfl (ex_move (hF.ev rfl)) ?_
   clear hF fa; intro fa hF
   refine st_val hF rfl rfl rfl (ex_move (hF.ev rfl)) ?_
   clear hF fa; intro fa hF
   refine st_val hF rfl rfl rfl (ex_len TfB.sls22 (hF.ev rfl)) ?_
   clear hF fa; intro fa hF
   refine st_val hF rfl rfl rfl (ex_lss (hF.ev rfl) (hF.ev rfl)) ?_
   clear hF fa; intro fa hF
   refine c_nil_then ?_
   refine c_cond hF rfl (fun hc12 => ?_) (fun hc12 => ?_)
   ·
    have hc12p : ((k : Nat) : Int) < ((x.length : Nat) : Int) := by first | simpa using hc12 | exact bang_t hc12 | exact bang_f hc12
    refine c_reg ?_
    refine st_val hF rfl rfl rfl (ex_move (hF.ev rfl)) ?_
    clear hF fa; intro fa hF
    refine st_val hF rfl rfl rfl (ex_move (hF.ev rfl)) ?_
    clear hF fa; intro fa hF
    refine st_val hF rfl rfl rfl (ex_move (hF.ev rfl)) ?_
    clear hF fa; intro fa hF
    obtain ⟨ad13, hA14, hq15⟩ := (hu_x.ext (E4.trans E7)).cl.at_ (us_get (l := x) (i := k) (by omega))
    refine st_val hF rfl rfl rfl (ex_idx (j := k) TfB.sl22 (hF.ev rfl) hA14 (hF.ev rfl) (by omega) (by omega)) ?_
    clear hF fa; intro fa hF
    refine st_val hF rfl rfl rfl (ex_load1 TfB.one46 (hF.ev rfl) hq15) ?_
    clear hF fa; intro fa hF
    refine st_val hF rfl rfl rfl (ex_add (hF.ev rfl) (hF.ev rfl) (wu32 (by omega) (by omega))) ?_
    clear hF fa; intro fa hF
    refine st_val hF rfl rfl rfl (ex_assign (hF.ev rfl)) ?_
    clear hF fa; intro fa hF
    replace hF : Frm 55 fa [(0, (.slice (A_y) (y.length) (c_y))), (1, (.slice (A_x) (x.length) (c_x))), (4, (.slice (none) (0) (0))), (12, (.bool (decide (((x.length : Nat) : Int) < ((y.length : Nat) : Int))))), (5, (.slice (some ⟨g2, 0, none⟩) (y.length + 1) (y.length + 1))), (6, (.int .u32 ((((cr : Nat) : Int) + ((y.getD (k) 0 : Nat) : Int)) + ((x.getD (k) 0 : Nat) : Int)))), (7, (.int .i64 (((k : Nat) : Int)))), (22, (.bool (decide (((k : Nat) : Int) < ((y.length : Nat) : Int))))), (34, (.bool (decide (((k : Nat) : Int) < ((x.length : Nat) : Int)))))] := (hF.take (hF.take (hF.take (hF.take (hF.take (hF.take (hF.take (hF.take (hF.take hF.nil rfl) rfl) rfl) rfl) rfl) rfl) rfl) rfl) rfl)
    refine c_nil_then ?_
    refine c_seq ?_
    refine c_reg ?_
    refine st_val hF rfl rfl rfl (ex_move (hF.ev rfl)) ?_
    clear hF fa; intro fa hF
    refine st_val hF rfl rfl rfl (ex_move (hF.ev rfl)) ?_
    clear hF fa; intro fa hF
    refine st_val hF rfl rfl rfl (ex_move (hF.ev rfl)) ?_
    clear hF fa; intro fa hF
    refine st_val hF rfl rfl rfl (ex_rem (hF.ev rfl) (hF.ev rfl) (by omega) (r_any (x := (cr + (y.getD (k) 0)) + (x.getD (k) 0)) (y := 1000000000) (by omega) (by omega))) ?_
    clear hF fa; intro fa hF
    refine st_val hF rfl rfl rfl (ex_idxo (j := k) TfB.sl22 (hF.ev rfl) (hF.ev rfl) (by omega) (by omega)) ?_
    clear hF fa; intro fa hF
    refine st rfl (op_store (vs := #[.int .u32 ((((cr + (y.getD (k) 0)) + (x.getD (k) 0)) % 1000000000 : Nat) : Int)]) (v := .int .u32 ((((cr + (y.getD (k) 0)) + (x.getD (k) 0)) % 1000000000 : Nat) : Int)) (X := (g2 :: X)) hF hS 0 rfl (by simp) rfl (ev_int rfl (by omega)) rfl TfB.size46 rfl (us_fit (by first | omega | (simp; omega))) ?_)
    intro w16 hS E17
    rw [splice_us (by first | omega | (simp; omega))] at hS
    replace hS : St w w16 [(g2, 46, (us (o.set (k) (((cr + (y.getD (k) 0)) + (x.getD (k) 0)) % 1000000000))).toArray)] := hS
    refine c_nil_then ?_
    refine c_reg ?_
    refine st_val hF rfl rfl rfl (ex_move (hF.ev rfl)) ?_
    clear hF fa; intro fa hF
    refine st_val hF rfl rfl rfl (ex_quo (hF.ev rfl) (hF.ev rfl) (by omega) (q_u32 (x := (cr + (y.getD (k) 0)) + (x.getD (k) 0)) (y := 1000000000) (by omega) (by omega) (by omega))) ?_
    clear hF fa; intro fa hF
    refine st_val hF rfl rfl rfl (ex_assign (hF.ev rfl)) ?_
    clear hF fa; intro fa hF
    refine c_nil ?_
    refine x_bn ?_
    refine x_tn ?_
    refine c_reg ?_
    refine st_val hF rfl rfl rfl (ex_move (hF.ev rfl)) ?_
    clear hF fa; intro fa hF
    refine st_val hF rfl rfl rfl (ex_add (hF.ev rfl) (hF.ev rfl) (wi64 (by omega) (by omega))) ?_
    clear hF fa; intro fa hF
    refine st_val hF rfl rfl rfl (ex_assign (hF.ev rfl)) ?_
    clear hF fa; intro fa hF
    refine c_nil ?_
    refine x_tn ?_
    exact ⟨_, (by omega), o.set (k) (((cr + (y.getD (k) 0)) + (x.getD (k) 0)) % 1000000000), ((cr + (y.getD (k) 0)) + (x.getD (k) 0)) / 1000000000, (k + 1), (hF.take (hF.take (hF.take (hF.take (hF.take (hF.take (hF.take hF.nil (lk_int rfl (by omega))) (lk_int rfl (by omega))) rfl) rfl) rfl) rfl) rfl), hS, (E7.trans E17), (by omega), (by simp; omega), (lb_set hbo (by omega)), (by omega), (plus_step (by omega) hv (s := _) (by first | rfl | omega | (have := getD_none (l := x) (k := k) (by omega); omega) | (have := getD_none (l := y) (k := k) (by omega); omega)) rfl rfl), rfl⟩
   have hc12p : ¬ (((k : Nat) : Int) < ((x.length : Nat) : Int)) := by first | simpa using hc12 | exact bang_t hc12 | exact bang_f hc12
   refine c_skip ?_
   refine x_tn ?_
   refine c_seq ?_
   refine c_reg ?_
   refine st_val hF rfl rfl rfl (ex_move (hF.ev rfl)) ?_
   clear hF fa; intro fa hF
   refine st_val hF rfl rfl rfl (ex_move (hF.ev rfl)) ?_
   clear hF fa; intro fa hF
   refine st_val hF rfl rfl rfl (ex_move (hF.ev rfl)) ?_
   clear hF fa; intro fa hF
   refine st_val hF rfl rfl rfl (ex_rem (hF.ev rfl) (hF.ev rfl) (by omega) (r_any (x := cr + (y.getD (k) 0)) (y := 1000000000) (by omega) (by omega))) ?_
   clear hF fa; intro fa hF
   refine st_val hF rfl rfl rfl (ex_idxo (j := k) TfB.sl22 (hF.ev rfl) (hF.ev rfl) (by omega) (by omega)) ?_
   clear hF fa; intro fa hF
   refine st rfl (op_store (vs := #[.int .u32 (((cr + (y.getD (k) 0)) % 1000000000 : Nat) : Int)]) (v := .int .u32 (((cr + (y.getD (k) 0)) % 1000000000 : Nat) : Int)) (X := (g2 :: X)) hF hS 0 rfl (by simp) rfl (ev_int rfl (by omega)) rfl TfB.size46 rfl (us_fit (by first | omega | (simp; omega))) ?_)
   intro w18 hS E19
   rw [splice_us (by first | omega | (simp; omega))] at hS
   replace hS : St w w18 [(g2, 46, (us (o.set (k) ((cr + (y.getD (k) 0)) % 1000000000))).toArray)] := hS
   replace hF : Frm 55 fa [(0, (.slice (A_y) (y.length) (c_y))), (1, (.slice (A_x) (x.length) (c_x))), (4, (.slice (none) (0) (0))), (12, (.bool (decide (((x.length : Nat) : Int) < ((y.length : Nat) : Int))))), (5, (.slice (some ⟨g2, 0, none⟩) (y.length + 1) (y.length + 1))), (6, (.int .u32 (((cr : Nat) : Int) + ((y.getD (k) 0 : Nat) : Int)))), (7, (.int .i64 (((k : Nat) : Int)))), (22, (.bool (decide (((k : Nat) : Int) < ((y.length : Nat) : Int))))), (34, (.bool (decide (((k : Nat) : Int) < ((x.length : Nat) : Int)))))] := (hF.take (hF.take (hF.take (hF.take (hF.take (hF.take (hF.take (hF.take (hF.take hF.nil rfl) rfl) rfl) rfl) rfl) rfl) rfl) rfl) rfl)
   refine c_nil_then ?_
   refine c_reg ?_
   refine st_val hF rfl rfl rfl (ex_move (hF.ev rfl)) ?_
   clear hF fa; intro fa hF
   refine st_val hF rfl rfl rfl (ex_quo (hF.ev rfl) (hF.ev rfl) (by omega) (q_u32 (x := cr + (y.getD (k) 0)) (y := 1000000000) (by omega) (by omega) (by omega))) ?_
   clear hF fa; intro fa hF
   refine st_val hF rfl rfl rfl (ex_assign (hF.ev rfl)) ?_
   clear hF fa; intro fa hF
   refine c_nil ?_
   refine x_bn ?_
   refine x_tn ?_
   refine c_reg ?_
   refine st_val hF rfl rfl rfl (ex_move (hF.ev rfl)) ?_
   clear hF fa; intro fa hF
   refine st_val hF rfl rfl rfl (ex_add (hF.ev rfl) (hF.ev rfl) (wi64 (by omega) (by omega))) ?_
   clear hF fa; intro fa hF
   refine st_val hF rfl rfl rfl (ex_assign (hF.ev rfl)) ?_
   clear hF fa; intro fa hF
   refine c_nil ?_
   refine x_tn ?_
   exact ⟨_, (by omega), o.set (k) ((cr + (y.getD (k) 0)) % 1000000000), (cr + (y.getD (k) 0)) / 1000000000, (k + 1), (hF.take (hF.take (hF.take (hF.take (hF.take (hF.take (hF.take hF.nil (lk_int rfl (by omega))) (lk_int rfl (by omega))) rfl) rfl) rfl) rfl) rfl), hS, (E7.trans E19), (by omega), (by simp; omega), (lb_set hbo (by omega)), (by omega), (plus_step (by omega) hv (s := _) (by first | rfl | omega | (have := getD_none (l := x) (k := k) (by omega); omega) | (have := getD_none (l := y) (k := k) (by omega); omega)) rfl rfl), rfl⟩
  have hc8p : ¬ (((k : Nat) : Int) < ((y.length : Nat) : Int)) := by first | simpa using hc8 | exact bang_t hc8 | exact bang_f hc8
  refine c_exit ?_
  refine x_te ?_
  refine x_te ?_
  refine x_bh ?_
  refine x_tn ?_
  refine c_seq ?_
  refine c_reg ?_
  refine st_val hF rfl rfl rfl (ex_move (hF.ev rfl)) ?_
  clear hF fa; intro fa hF
  refine st_val hF rfl rfl rfl (ex_move (hF.ev rfl)) ?_
  clear hF fa; intro fa hF
  refine st_val hF rfl rfl rfl (ex_len TfB.sls22 (hF.ev rfl)) ?_
  clear hF fa; intro fa hF
  refine st_val hF rfl rfl rfl (ex_move (hF.ev rfl)) ?_
  clear hF fa; intro fa hF
  refine st_val hF rfl rfl rfl (ex_idxo (j := y.length) TfB.sl22 (hF.ev rfl) (hF.ev rfl) (by omega) (by omega)) ?_
  clear hF fa; intro fa hF
  refine st rfl (op_store (vs := #[.int .u32 ((cr : Nat) : Int)]) (v := .int .u32 ((cr : Nat) : Int)) (X := (g2 :: X)) hF hS 0 rfl (by simp) rfl (ev_int rfl (by omega)) rfl TfB.size46 rfl (us_fit (by first | omega | (simp; omega))) ?_)
  intro w20 hS E21
  rw [splice_us (by first | omega | (simp; omega))] at hS
  replace hS : St w w20 [(g2, 46, (us (o.set (y.length) (cr))).toArray)] := hS
  refine c_nil_then ?_
  refine c_seq ?_
  refine c_reg ?_
  refine st_val hF rfl rfl rfl (ex_move (hF.ev rfl)) ?_
  clear hF fa; intro fa hF
  obtain ⟨hS1, hn1⟩ := hS.out hX 0 rfl
  have hu22 := UC.of_box (L := o.set (y.length) (cr)) (hS.get 0 rfl) hn1 (by simp; omega)
  have E23 : Ext w20 (g2 :: X) w20 X := Ext.drop (by simp +contextual)
  replace hu22 : UC w20 X (some ⟨g2, 0, none⟩) (o.set (y.length) (cr)).length (o.set (y.length) (cr)) := hu22
  replace hS : St w w20 [] := hS1; clear hn1
  have hC := ref01_trim_ok (w := w20) (X := X) (l := (o.set (y.length) (cr))) (hS.bnd hX) (UL.cap (n := y.length + 1) (c := y.length + 1) hu22 (by simp; omega) (by simp; omega))
  refine st rfl (op_call hF rfl TfB.body43 (args1 (hF.ev rfl)) hC ?_)
  clear hC
  rintro _ w24 ⟨⟨A27, _, c28, rfl, rfl, hu29⟩, hb25⟩
  refine gen_ ?_; clear hF fa; intro fa hF
  replace hS := hS.call hb25; have E26 := Ext.call X hb25
  refine st_val hF rfl rfl rfl (ex_assign (hF.ev rfl)) ?_
  clear hF fa; intro fa hF
  refine c_nil_then ?_
  refine c_ret ?_
  refine end1 hF rfl (res_tmp hF rfl) ?_
  exact ⟨_, rfl, (UL.fin (L := (trimz (o.set (y.length) (cr)))) ⟨_, _, _, rfl, (rfl), hu29⟩ (by have h1 := plus_end ho (by omega) (by omega) hv; rw [← lim_val _ (lb_set hbo (show cr < 1000000000 by omega)), h1] <;> rw [Nat.add_comm]) (fun x hx => by simp [hx])), hS.below⟩
 have hc1p : ¬ (((x.length : Nat) : Int) < ((y.length : Nat) : Int)) := by first | simpa using hc1 | exact bang_t hc1 | exact bang_f hc1
 refine c_skip ?_
 refine x_tn ?_
 refine c_seq ?_
 refine c_reg ?_
 refine st_val hF rfl rfl rfl (ex_move (hF.ev rfl)) ?_
 clear hF fa; intro fa hF
 refine st_val hF rfl rfl rfl (ex_len TfB.sls22 (hF.ev rfl)) ?_
 clear hF fa; intro fa hF
 refine st_val hF rfl rfl rfl (ex_add (hF.ev rfl) (hF.ev rfl) (wi64 (by omega) (by omega))) ?_
 clear hF fa; intro fa hF
 refine st rfl (op_make (X := X) (nl := x.length + 1) (nc := x.length + 1) hF hS rfl TfB.sl22 TfB.el46 rfl rfl (by omega) (by omega) (by omega) (by omega) (by omega) (made_us _) ?_)
 intro g30 w31 hg33 hS E32; refine gen_ ?_; clear hF fa; intro fa hF
 replace hS : St w w31 [(g30, 46, (us (List.replicate ((x.length + 1) * 1) 0)).toArray)] := hS
 rw [Nat.mul_one] at hS
 refine st_val hF rfl rfl rfl (ex_assign (hF.ev rfl)) ?_
 clear hF fa; intro fa hF
 refine c_nil_then ?_
 refine c_seq ?_
 refine c_reg ?_
 refine st_val hF rfl rfl rfl (ex_assign (hF.ev rfl)) ?_
 clear hF fa; intro fa hF
 refine c_nil_then ?_
 refine c_seq ?_
 refine c_seq ?_
 refine c_reg ?_
 refine st_val hF rfl rfl rfl (ex_assign (hF.ev rfl)) ?_
 clear hF fa; intro fa hF
 refine c_nil_then ?_
 refine c_block ?_
 refine c_loop (fun mu fa w' => ∃ o : List Nat, ∃ cr : Nat, ∃ k : Nat, Frm 55 fa [(0, (.slice (A_x) (x.length) (c_x))), (1, (.slice (A_y) (y.length) (c_y))), (4, (.slice (none) (0) (0))), (12, (.bool (decide (((x.length : Nat) : Int) < ((y.length : Nat) : Int))))), (5, (.slice (some ⟨g30, 0, none⟩) (x.length + 1) (x.length + 1))), (6, (.int .u32 (((cr : Nat) : Int)))), (7, (.int .i64 (((k : Nat) : Int))))] ∧ St w w' [(g30, 46, (us (o)).toArray)] ∧ Ext w31 (g30 :: X) w' (g30 :: X) ∧ (k ≤ x.length) ∧ (o.length = x.length + 1) ∧ (Lb o) ∧ (cr ≤ 1) ∧ (val (o.take k) + 1000000000 ^ k * cr = val (x.take k) + val (y.take k)) ∧ x.length - k = mu) ?_ ?_
 ·
  exact ⟨_, List.replicate (x.length + 1) 0, 0, 0, (hF.take (hF.take (hF.take (hF.take (hF.take (hF.take (hF.take hF.nil (lk_int rfl (by omega))) (lk_int rfl (by omega))) rfl) rfl) rfl) rfl) rfl), hS, Ext.refl _ _, (by omega), (by simp), (lb_zeros _), (by omega), (by simp [val]), rfl⟩
 clear hF fa; intro n0_ fa w' hI
 clear hS
 obtain ⟨o, cr, k, hF, hS, E35, hk, ho, hbo, hcr, hv, rfl⟩ := hI
 rename World => w34
 have hxk := hb_x.getD k; have hyk := hb_y.getD k
 refine c_seq ?_
 refine c_seq ?_
 refine c_reg ?_
 refine st_val hF rfl rfl rfl (ex_move (hF.ev rfl)) ?_
 clear hF fa; intro fa hF
 refine st_val hF rfl rfl rfl (ex_move (hF.ev rfl)) ?_
 clear hF fa; intro fa hF
 refine st_val hF rfl rfl rfl (ex_len TfB.sls22 (hF.ev rfl)) ?_
 clear hF fa; intro fa hF
 refine st_val hF rfl rfl rfl (ex_lss (hF.ev rfl) (hF.ev rfl)) ?_
 clear hF fa; intro fa hF
 refine c_nil_then ?_
 refine c_cond hF rfl (fun hc36 => ?_) (fun hc36 => ?_)
 ·
  have hc36p : ((k : Nat) : Int) < ((x.length : Nat) : Int) := by first | simpa using hc36 | exact bang_t hc36 | exact bang_f hc36
  refine c_skip ?_
  refine x_tn ?_
  refine c_seq ?_
  refine c_block ?_
  refine c_seq ?_
  refine c_reg ?_
  refine st_val hF rfl rfl rfl (ex_move (hF.ev rfl)) ?_
  clear hF fa; intro fa hF
  refine st_val hF rfl rfl rfl (ex_move (hF.ev rfl)) ?_
  clear hF fa; intro fa hF
  refine st_val hF rfl rfl rfl (ex_move (hF.ev rfl)) ?_
  clear hF fa; intro fa hF
  obtain ⟨ad37, hA38, hq39⟩ := (hu_x.ext (E32.trans E35)).cl.at_ (us_get (l := x) (i := k) (by omega))
  refine st_val hF rfl rfl rfl (ex_idx (j := k) TfB.sl22 (hF.ev rfl) hA38 (hF.ev rfl) (by omega) (by omega)) ?_
  clear hF fa; intro fa hF
  refine st_val hF rfl rfl rfl (ex_load1 TfB.one46 (hF.ev rfl) hq39) ?_
  clear hF fa; intro fa hF
  refine st_val hF rfl rfl rfl (ex_add (hF.ev rfl) (hF.ev rfl) (wu32 (by omega) (by omega))) ?_
  clear hF fa; intro fa hF
  refine st_val hF rfl rfl rfl (ex_assign (hF.ev rfl)) ?_
  clear hF fa; intro fa hF
  replace hF : Frm 55 fa [(0, (.slice (A_x) (x.length) (c_x))), (1, (.slice (A_y) (y.length) (c_y))), (4, (.slice (none) (0) (0))), (12, (.bool (decide (((x.length : Nat) : Int) < ((y.length : Nat) : Int))))), (5, (.slice (some ⟨g30, 0, none⟩) (x.length + 1) (x.length + 1))), (6, (.int .u32 (((cr : Nat) : Int) + ((x.getD (k) 0 : Nat) : Int)))), (7, (.int .i64 (((k : Nat) : Int)))), (22, (.bool (decide (((k : Nat) : Int) < ((x.length : Nat) : Int)))))] := (hF.take (hF.take (hF.take (hF.take (hF.take (hF.take (hF.take (hF.take hF.nil rfl) rfl) rfl) rfl) rfl) rfl) rfl) rfl)
  refine c_nil_then ?_
  refine c_seq ?_
  refine c_seq ?_
  refine c_reg ?_
  refine st_val hF rfl rfl rfl (ex_move (hF.ev rfl)) ?_
  clear hF fa; intro fa hF
  refine st_val hF rfl rfl rfl (ex_move (hF.ev rfl)) ?_
  clear hF fa; intro fa hF
  refine st_val hF rfl rfl rfl (ex_len TfB.sls22 (hF.ev rfl)) ?_
  clear hF fa; intro fa hF
  refine st_val hF rfl rfl rfl (ex_lss (hF.ev rfl) (hF.ev rfl)) ?_
  clear hF fa; intro fa hF
  refine c_nil_then ?_
  refine c_cond hF rfl (fun hc40 => ?_) (fun hc40 => ?_)
  ·
   have hc40p : ((k : Nat) : Int) < ((y.length : Nat) : Int) := by first | simpa using hc40 | exact bang_t hc40 | exact bang_f hc40
   refine c_reg ?_
   refine st_val hF rfl rfl rfl (ex_move (hF.ev rfl)) ?_
   clear hF fa; intro fa hF
   refine st_val hF rfl rfl rfl (ex_move (hF.ev rfl)) ?_
   clear hF fa; intro fa hF
   refine st_val hF rfl rfl rfl (ex_move (hF.ev rfl)) ?_
   clear hF fa; intro fa hF
   obtain ⟨ad41, hA42, hq43⟩ := (hu_y.ext (E32.trans E35)).cl.at_ (us_get (l := y) (i := k) (by omega))
   refine st_val hF rfl rfl rfl (ex_idx (j := k) TfB.sl22 (hF.ev rfl) hA42 (hF.ev rfl) (by omega) (by omega)) ?_
   clear hF fa; intro fa hF
   refine st_val hF rfl rfl rfl (ex_load1 TfB.one46 (hF.ev rfl) hq43) ?_
   clear hF fa; intro fa hF
   refine st_val hF rfl rfl rfl (ex_add (hF.ev rfl) (hF.ev rfl) (wu32 (by omega) (by omega))) ?_
   clear hF fa; intro fa hF
   refine st_val hF rfl rfl rfl (ex_assign (hF.ev rfl)) ?_
   clear hF fa; intro fa hF
   refine c_nil_then ?_
   refine c_seq ?_
   refine c_reg ?_
   refine st_val hF rfl rfl rfl (ex_move (hF.ev rfl)) ?_
   clear hF fa; intro fa hF
   refine st_val hF rfl rfl rfl (ex_move (hF.ev rfl)) ?_
   clear hF fa; intro fa hF
   refine st_val hF rfl rfl rfl (ex_move (hF.ev rfl)) ?_
   clear hF fa; intro fa hF
   refine st_val hF rfl rfl rfl (ex_rem (hF.ev rfl) (hF.ev rfl) (by omega) (r_any (x := (cr + (x.getD (k) 0)) + (y.getD (k) 0)) (y := 1000000000) (by omega) (by omega))) ?_
   clear hF fa; intro fa hF
   refine st_val hF rfl rfl rfl (ex_idxo (j := k) TfB.sl22 (hF.ev rfl) (hF.ev rfl) (by omega) (by omega)) ?_
   clear hF fa; intro fa hF
   refine st rfl (op_store (vs := #[.int .u32 ((((cr + (x.getD (k) 0)) + (y.getD (k) 0)) % 1000000000 : Nat) : Int)]) (v := .int .u32 ((((cr + (x.getD (k) 0)) + (y.getD (k) 0)) % 1000000000 : Nat) : Int)) (X := (g30 :: X)) hF hS 0 rfl (by simp) rfl (ev_int rfl (by omega)) rfl TfB.size46 rfl (us_fit (by first | omega | (simp; omega))) ?_)
   intro w44 hS E45
   rw [splice_us (by first | omega | (simp; omega))] at hS
   replace hS : St w w44 [(g30, 46, (us (o.set (k) (((cr + (x.getD (k) 0)) + (y.getD (k) 0)) % 1000000000))).toArray)] := hS
   replace hF : Frm 55 fa [(0, (.slice (A_x) (x.length) (c_x))), (1, (.slice (A_y) (y.length) (c_y))), (4, (.slice (none) (0) (0))), (12, (.bool (decide (((x.length : Nat) : Int) < ((y.length : Nat) : Int))))), (5, (.slice (some ⟨g30, 0, none⟩) (x.length + 1) (x.length + 1))), (6, (.int .u32 ((((cr : Nat) : Int) + ((x.getD (k) 0 : Nat) : Int)) + ((y.getD (k) 0 : Nat) : Int)))), (7, (.int .i64 (((k : Nat) : Int)))), (22, (.bool (decide (((k : Nat) : Int) < ((x.length : Nat) : Int))))), (34, (.bool (decide (((k : Nat) : Int) < ((y.length : Nat) : Int)))))] := (hF.take (hF.take (hF.take (hF.take (hF.take (hF.take (hF.take (hF.take (hF.take hF.nil rfl) rfl) rfl) rfl) rfl) rfl) rfl) rfl) rfl)
   refine c_nil_then ?_
   refine c_reg ?_
   refine st_val hF rfl rfl rfl (ex_move (hF.ev rfl)) ?_
   clear hF fa; intro fa hF
   refine st_val hF rfl rfl rfl (ex_quo (hF.ev rfl) (hF.ev rfl) (by omega) (q_u32 (x := (cr + (x.getD (k) 0)) + (y.getD (k) 0)) (y := 1000000000) (by omega) (by omega) (by omega))) ?_
   clear hF fa; intro fa hF
   refine st_val hF rfl rfl rfl (ex_assign (hF.ev rfl)) ?_
   clear hF fa; intro fa hF
   refine c_nil ?_
   refine x_bn ?_
   refine x_tn ?_
   refine c_reg ?_
   refine st_val hF rfl rfl rfl (ex_move (hF.ev rfl)) ?_
   clear hF fa; intro fa hF
   refine st_val hF rfl rfl rfl (ex_add (hF.ev rfl) (hF.ev rfl) (wi64 (by omega) (by omega))) ?_
   clear hF fa; intro fa hF
   refine st_val hF rfl rfl rfl (ex_assign (hF.ev rfl)) ?_
   clear hF fa; intro fa hF
   refine c_nil ?_
   refine x_tn ?_
   exact ⟨_, (by omega), o.set (k) (((cr + (x.getD (k) 0)) + (y.getD (k) 0)) % 1000000000), ((cr + (x.getD (k) 0)) + (y.getD (k) 0)) / 1000000000, (k + 1), (hF.take (hF.take (hF.take (hF.take (hF.take (hF.take (hF.take hF.nil (lk_int rfl (by omega))) (lk_int rfl (by omega))) rfl) rfl) rfl) rfl) rfl), hS, (E35.trans E45), (by omega), (by simp; omega), (lb_set hbo (by omega)), (by omega), (plus_step (by omega) hv (s := _) (by first | rfl | omega | (have := getD_none (l := x) (k := k) (by omega); omega) | (have := getD_none (l := y) (k := k) (by omega); omega)) rfl rfl), rfl⟩
  have hc40p : ¬ (((k : Nat) : Int) < ((y.length : Nat) : Int)) := by first | simpa using hc40 | exact bang_t hc40 | exact bang_f hc40
  refine c_skip ?_
  refine x_tn ?_
  refine c_seq ?_
  refine c_reg ?_
  refine st_val hF rfl rfl rfl (ex_move (hF.ev rfl)) ?_
  clear hF fa; intro fa hF
  refine st_val hF rfl rfl rfl (ex_move (hF.ev rfl)) ?_
  clear hF fa; intro fa hF
  refine st_val hF rfl rfl rfl (ex_move (hF.ev rfl)) ?_
  clear hF fa; intro fa hF
  refine st_val hF rfl rfl rfl (ex_rem (hF.ev rfl) (hF.ev rfl) (by omega) (r_any (x := cr + (x.getD (k) 0)) (y := 1000000000) (by omega) (by omega))) ?_
  clear hF fa; intro fa hF
  refine st_val hF rfl rfl rfl (ex_idxo (j := k) TfB.sl22 (hF.ev rfl) (hF.ev rfl) (by omega) (by omega)) ?_
  clear hF fa; intro fa hF
  refine st rfl (op_store (vs := #[.int .u32 (((cr + (x.getD (k) 0)) % 1000000000 : Nat) : Int)]) (v := .int .u32 (((cr + (x.getD (k) 0)) % 1000000000 : Nat) : Int)) (X := (g30 :: X)) hF hS 0 rfl (by simp) rfl (ev_int rfl (by omega)) rfl TfB.size46 rfl (us_fit (by first | omega | (simp; omega))) ?_)
  intro w46 hS E47
  rw [splice_us (by first | omega | (simp; omega))] at hS
  replace hS : St w w46 [(g30, 46, (us (o.set (k) ((cr + (x.getD (k) 0)) % 1000000000))).toArray)] := hS
  refine c_nil_then ?_
  refine c_reg ?_
  refine st_val hF rfl rfl rfl (ex_move (hF.ev rfl)) ?_
  clear hF fa; intro fa hF
  refine st_val hF rfl rfl rfl (ex_quo (hF.ev rfl) (hF.ev rfl) (by omega) (q_u32 (x := cr + (x.getD (k) 0)) (y := 1000000000) (by omega) (by omega) (by omega))) ?_
  clear hF fa; intro fa hF
  refine st_val hF rfl rfl rfl (ex_assign (hF.ev rfl)) ?_
  clear hF fa; intro fa hF
  refine c_nil ?_
  refine x_bn ?_
  refine x_tn ?_
  refine c_reg ?_
  refine st_val hF rfl rfl rfl (ex_move (hF.ev rfl)) ?_
  clear hF fa; intro fa hF
  refine st_val hF rfl rfl rfl (ex_add (hF.ev rfl) (hF.ev rfl) (wi64 (by omega) (by omega))) ?_
  clear hF fa; intro fa hF
  refine st_val hF rfl rfl rfl (ex_assign (hF.ev rfl)) ?_
  clear hF fa; intro fa hF
  replace hF : Frm 55 fa [(0, (.slice (A_x) (x.length) (c_x))), (1, (.slice (A_y) (y.length) (c_y))), (4, (.slice (none) (0) (0))), (12, (.bool (decide (((x.length : Nat) : Int) < ((y.length : Nat) : Int))))), (5, (.slice (some ⟨g30, 0, none⟩) (x.length + 1) (x.length + 1))), (6, (.int .u32 ((((cr + (x.getD (k) 0)) / 1000000000 : Nat) : Int)))), (7, (.int .i64 (((k : Nat) : Int) + 1))), (22, (.bool (decide (((k : Nat) : Int) < ((x.length : Nat) : Int))))), (34, (.bool (decide (((k : Nat) : Int) < ((y.length : Nat) : Int)))))] := (hF.take (hF.take (hF.take (hF.take (hF.take (hF.take (hF.take (hF.take (hF.take hF.nil rfl) rfl) rfl) rfl) rfl) rfl) rfl) rfl) rfl)
  refine c_nil ?_
  refine x_tn ?_
  exact ⟨_, (by omega), o.set (k) ((cr + (x.getD (k) 0)) % 1000000000), (cr + (x.getD (k) 0)) / 1000000000, (k + 1), (hF.take (hF.take (hF.take (hF.take (hF.take (hF.take (hF.take hF.nil (lk_int rfl (by omega))) (lk_int rfl (by omega))) rfl) rfl) rfl) rfl) rfl), hS, (E35.trans E47), (by omega), (by simp; omega), (lb_set hbo (by omega)), (by omega), (plus_step (by omega) hv (s := _) (by first | rfl | omega | (have := getD_none (l := x) (k := k) (by omega); omega) | (have := getD_none (l := y) (k := k) (by omega); omega)) rfl rfl), rfl⟩
 have hc36p : ¬ (((k : Nat) : Int) < ((x.length : Nat) : Int)) := by first | simpa using hc36 | exact bang_t hc36 | exact bang_f hc36
 refine c_exit ?_
 refine x_te ?_
 refine x_te ?_
 refine x_bh ?_
 refine x_tn ?_
 refine c_seq ?_
 refine c_reg ?_
 refine st_val hF rfl rfl rfl (ex_move (hF.ev rfl)) ?_
 clear hF fa; intro fa hF
 refine st_val hF rfl rfl rfl (ex_move (hF.ev rfl)) ?_
 clear hF fa; intro fa hF
 refine st_val hF rfl rfl rfl (ex_len TfB.sls22 (hF.ev rfl)) ?_
 clear hF fa; intro fa hF
 refine st_val hF rfl rfl rfl (ex_move (hF.ev rfl)) ?_
 clear hF fa; intro fa hF
 refine st_val hF rfl rfl rfl (ex_idxo (j := x.length) TfB.sl22 (hF.ev rfl) (hF.ev rfl) (by omega) (by omega)) ?_
 clear hF fa; intro fa hF
 refine st rfl (op_store (vs := #[.int .u32 ((cr : Nat) : Int)]) (v := .int .u32 ((cr : Nat) : Int)) (X := (g30 :: X)) hF hS 0 rfl (by simp) rfl (ev_int rfl (by omega)) rfl TfB.size46 rfl (us_fit (by first | omega | (simp; omega))) ?_)
 intro w48 hS E49
 rw [splice_us (by first | omega | (simp; omega))] at hS
 replace hS : St w w48 [(g30, 46, (us (o.set (x.length) (cr))).toArray)] := hS
 replace hF : Frm 55 fa [(0, (.slice (A_x) (x.length) (c_x))), (1, (.slice (A_y) (y.length) (c_y))), (4, (.slice (none) (0) (0))), (12, (.bool (decide (((x.length : Nat) : Int) < ((y.length : Nat) : Int))))), (5, (.slice (some ⟨g30, 0, none⟩) (x.length + 1) (x.length + 1))), (6, (.int .u32 (((cr : Nat) : Int)))), (7, (.int .i64 (((k : Nat) : Int)))), (22, (.bool (decide (((k : Nat) : Int) < ((x.length : Nat) : Int)))))] := (hF.take (hF.take (hF.take (hF.take (hF.take (hF.take (hF.take (hF.take hF.nil rfl) rfl) rfl) rfl) rfl) rfl) rfl) rfl)
 refine c_nil_then ?_
 refine c_seq ?_
 refine c_reg ?_
 refine st_val hF rfl rfl rfl (ex_move (hF.ev rfl)) ?_
 clear hF fa; intro fa hF
 obtain ⟨hS1, hn1⟩ := hS.out hX 0 rfl
 have hu50 := UC.of_box (L := o.set (x.length) (cr)) (hS.get 0 rfl) hn1 (by simp; omega)
 have E51 : Ext w48 (g30 :: X) w48 X := Ext.drop (by simp +contextual)
 replace hu50 : UC w48 X (some ⟨g30, 0, none⟩) (o.set (x.length) (cr)).length (o.set (x.length) (cr)) := hu50
 replace hS : St w w48 [] := hS1; clear hn1
 have hC := ref01_trim_ok (w := w48) (X := X) (l := (o.set (x.length) (cr))) (hS.bnd hX) (UL.cap (n := x.length + 1) (c := x.length + 1) hu50 (by simp; omega) (by simp; omega))
 refine st rfl (op_call hF rfl TfB.body43 (args1 (hF.ev rfl)) hC ?_)
 clear hC
 rintro _ w52 ⟨⟨A55, _, c56, rfl, rfl, hu57⟩, hb53⟩
 refine gen_ ?_; clear hF fa; intro fa hF
 replace hS := hS.call hb53; have E54 := Ext.call X hb53
 refine st_val hF rfl rfl rfl (ex_assign (hF.ev rfl)) ?_
 clear hF fa; intro fa hF
 refine c_nil_then ?_
 refine c_ret ?_
 refine end1 hF rfl (res_tmp hF rfl) ?_
 exact ⟨_, rfl, (UL.fin (L := (trimz (o.set (x.length) (cr)))) ⟨_, _, _, rfl, (rfl), hu57⟩ (by have h1 := plus_end ho (by omega) (by omega) hv; rw [← lim_val _ (lb_set hbo (show cr < 1000000000 by omega)), h1] <;> rw [Nat.add_comm]) (fun x hx => by simp [hx])), hS.below⟩

end Go.Proofs.Ytlaojdpcfenlkaa
