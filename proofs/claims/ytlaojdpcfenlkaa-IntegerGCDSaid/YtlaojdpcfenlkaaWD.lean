/-
  What the functions minus, minus do, each call by call.
  Conditions: none.
-/
import Derived.Test.YtlaojdpcfenlkaaChecked
import Derived.Test.YtlaojdpcfenlkaaSwBaseK
import Derived.Test.YtlaojdpcfenlkaaWA
namespace Go.Proofs.Ytlaojdpcfenlkaa
open Go Go.RowKit Go.Sw
set_option linter.unusedVariables false
namespace TfD
theorem body43 : hasBody Try.prog 43 = true := by kernel_rfl
theorem el46 : Sw.elemOf Try.prog 46 = some (#[.int .u32 0], 1, 4) := by kernel_rfl
theorem one46 : isOne Try.prog 46 = true := by kernel_rfl
theorem size46 : (Try.prog.info? 46).map (fun i => i.size) = some 1 := by kernel_rfl
theorem sl22 : sliceOf Try.prog 22 = some (46, 1) := by kernel_rfl
theorem sls22 : (sliceOf Try.prog 22).isSome = true := by kernel_rfl
end TfD
set_option maxHeartbeats 4000000 in
theorem ref01_minus_ok {w : World} {X : List Nat} (hX : ∀ m ∈ X, m < w.heap.size) {v_x : Value} {x : List Nat} (h_x : UL w X v_x (x)) {v_y : Value} {y : List Nat} (h_y : UL w X v_y (y)) (hn_x : x.length ≤ 1000000000000) (hn_y : y.length ≤ 1000000000000) (hb_x : Lb x) (hb_y : Lb y) (hl : y.length ≤ x.length) (hle : val y ≤ val x) :
    Calls Try.prog 47 #[v_x, v_y] w (Ret fun r w' => (UL w' X r (lim (val x - val y))) ∧ Below w.heap.size w w') := by
 refine enter (N := 45) (fn := Try.f47) (vs := [v_x, v_y]) Try.func47 rfl rfl rfl ?_
 intro fa hF
 obtain ⟨A_x, _, c_x, rfl, rfl, hu_x⟩ := h_x
 have hl_x := hu_x.len; have hc_x := hu_x.cap
 obtain ⟨A_y, _, c_y, rfl, rfl, hu_y⟩ := h_y
 have hl_y := hu_y.len; have hc_y := hu_y.cap
 replace hF : Frm 45 fa [(0, (.slice (A_x) (x.length) (c_x))), (1, (.slice (A_y) (y.length) (c_y)))] := hF
 have hS := St.refl w
 refine c_seq ?_
 refine c_reg ?_
 refine st_val hF rfl rfl rfl (ex_assign (hF.ev rfl)) ?_
 clear hF fa; intro fa hF
 refine c_nil_then ?_
 refine c_seq ?_
 refine c_reg ?_
 refine st_val hF rfl rfl rfl (ex_move (hF.ev rfl)) ?_
 clear hF fa; intro fa hF
 refine st_val hF rfl rfl rfl (ex_len TfD.sls22 (hF.ev rfl)) ?_
 clear hF fa; intro fa hF
 refine st rfl (op_make (X := X) (nl := x.length) (nc := x.length) hF hS rfl TfD.sl22 TfD.el46 rfl rfl (by omega) (by omega) (by omega) (by omega) (by omega) (made_us _) ?_)
 intro g1 w2 hg4 hS E3; refine gen_ ?_; clear hF fa; intro fa hF
 replace hS : St w w2 [(g1, 46, (us (List.replicate ((x.length) * 1) 0)).toArray)] := hS
 rw [Nat.mul_one] at hS
 refine st_val hF rfl rfl rfl (ex_assign (hF.ev rfl)) ?_
 clear hF fa; intro fa hF
 refine c_nil_then ?_
 refine c_seq ?_
 refine c_reg ?_
 refine st_val hF rfl rfl rfl (ex_assign (hF.ev rfl)) ?_
 clear hF fa; intro fa hF
 refine c_nil_then ?_
 refine c_seq ?_
 refine c_seq ?_
 refine c_reg ?_
 refine st_val hF rfl rfl rfl (ex_assign (hF.ev rfl)) ?_
 clear hF fa; intro fa hF
 refine c_nil_then ?_
 refine c_block ?_
 refine c_loop (fun mu fa w' => ∃ o : List Nat, ∃ br : Nat, ∃ k : Nat, Frm 45 fa [(0, (.slice (A_x) (x.length) (c_x))), (1, (.slice (A_y) (y.length) (c_y))), (4, (.slice (none) (0) (0))), (5, (.slice (some ⟨g1, 0, none⟩) (x.length) (x.length))), (6, (.int .u32 (((br : Nat) : Int)))), (7, (.int .i64 (((k : Nat) : Int))))] ∧ St w w' [(g1, 46, (us (o)).toArray)] ∧ Ext w2 (g1 :: X) w' (g1 :: X) ∧ (k ≤ x.length) ∧ (o.length = x.length) ∧ (Lb o) ∧ (br ≤ 1) ∧ (val (o.take k) + val (y.take k) = val (x.take k) + 1000000000 ^ k * br) ∧ x.length - k = mu) ?_ ?_
 ·
  exact ⟨_, List.replicate x.length 0, 0, 0, (hF.take (hF.take (hF.take (hF.take (hF.take (hF.take hF.nil (lk_int rfl (by omega))) (lk_int rfl (by omega))) rfl) rfl) rfl) rfl), hS, Ext.refl _ _, (by omega), (by simp), (lb_zeros _), (by omega), (by simp [val]), rfl⟩
 clear hF fa; intro n0_ fa w' hI
 clear hS
 obtain ⟨o, br, k, hF, hS, E6, hk, ho, hbo, hbr, hv, rfl⟩ := hI
 rename World => w5
 have hxk := hb_x.getD k; have hyk := hb_y.getD k
 refine c_seq ?_
 refine c_seq ?_
 refine c_reg ?_
 refine st_val hF rfl rfl rfl (ex_move (hF.ev rfl)) ?_
 clear hF fa; intro fa hF
 refine st_val hF rfl rfl rfl (ex_move (hF.ev rfl)) ?_
 clear hF fa; intro fa hF
 refine st_val hF rfl rfl rfl (ex_len TfD.sls22 (hF.ev rfl)) ?_
 clear hF fa; intro fa hF
 refine st_val hF rfl rfl rfl (ex_lss (hF.ev rfl) (hF.ev rfl)) ?_
 clear hF fa; intro fa hF
 refine c_nil_then ?_
 refine c_cond hF rfl (fun hc7 => ?_) (fun hc7 => ?_)
 ·
  have hc7p : ((k : Nat) : Int) < ((x.length : Nat) : Int) := by first | simpa using hc7 | exact bang_t hc7 | exact bang_f hc7
  refine c_skip ?_
  refine x_tn ?_
  refine c_seq ?_
  refine c_block ?_
  refine c_seq ?_
  refine c_reg ?_
  refine st_val hF rfl rfl rfl (ex_move (hF.ev rfl)) ?_
  clear hF fa; intro fa hF
  refine st_val hF rfl rfl rfl (ex_move (hF.ev rfl)) ?_
  clear hF fa; intro fa hF
  obtain ⟨ad8, hA9, hq10⟩ := (hu_x.ext (E3.trans E6)).cl.at_ (us_get (l := x) (i := k) (by omega))
  refine st_val hF rfl rfl rfl (ex_idx (j := k) TfD.sl22 (hF.ev rfl) hA9 (hF.ev rfl) (by omega) (by omega)) ?_
  clear hF fa; intro fa hF
  refine st_val hF rfl rfl rfl (ex_load1 TfD.one46 (hF.ev rfl) hq10) ?_
  clear hF fa; intro fa hF
  refine st_val hF rfl rfl rfl (ex_add (hF.ev rfl) (hF.ev rfl) (wu32 (by omega) (by omega))) ?_
  clear hF fa; intro fa hF
  refine st_val hF rfl rfl rfl (ex_move (hF.ev rfl)) ?_
  clear hF fa; intro fa hF
  refine st_val hF rfl rfl rfl (ex_sub (hF.ev rfl) (hF.ev rfl) (wu32 (by omega) (by omega))) ?_
  clear hF fa; intro fa hF
  refine st_val hF rfl rfl rfl (ex_assign (hF.ev rfl)) ?_
  clear hF fa; intro fa hF
  replace hF : Frm 45 fa [(0, (.slice (A_x) (x.length) (c_x))), (1, (.slice (A_y) (y.length) (c_y))), (4, (.slice (none) (0) (0))), (5, (.slice (some ⟨g1, 0, none⟩) (x.length) (x.length))), (6, (.int .u32 (((br : Nat) : Int)))), (7, (.int .i64 (((k : Nat) : Int)))), (15, (.bool (decide (((k : Nat) : Int) < ((x.length : Nat) : Int))))), (8, (.int .u32 ((((x.getD (k) 0 : Nat) : Int) + 1000000000) - ((br : Nat) : Int))))] := (hF.take (hF.take (hF.take (hF.take (hF.take (hF.take (hF.take (hF.take hF.nil rfl) rfl) rfl) rfl) rfl) rfl) rfl) rfl)
  refine c_nil_then ?_
  refine c_seq ?_
  refine c_seq ?_
  refine c_reg ?_
  refine st_val hF rfl rfl rfl (ex_move (hF.ev rfl)) ?_
  clear hF fa; intro fa hF
  refine st_val hF rfl rfl rfl (ex_move (hF.ev rfl)) ?_
  clear hF fa; intro fa hF
  refine st_val hF rfl rfl rfl (ex_len TfD.sls22 (hF.ev rfl)) ?_
  clear hF fa; intro fa hF
  refine st_val hF rfl rfl rfl (ex_lss (hF.ev rfl) (hF.ev rfl)) ?_
  clear hF fa; intro fa hF
  refine c_nil_then ?_
  refine c_cond hF rfl (fun hc11 => ?_) (fun hc11 => ?_)
  ·
   have hc11p : ((k : Nat) : Int) < ((y.length : Nat) : Int) := by first | simpa using hc11 | exact bang_t hc11 | exact bang_f hc11
   refine c_reg ?_
   refine st_val hF rfl rfl rfl (ex_move (hF.ev rfl)) ?_
   clear hF fa; intro fa hF
   refine st_val hF rfl rfl rfl (ex_move (hF.ev rfl)) ?_
   clear hF fa; intro fa hF
   refine st_val hF rfl rfl rfl (ex_move (hF.ev rfl)) ?_
   clear hF fa; intro fa hF
   obtain ⟨ad12, hA13, hq14⟩ := (hu_y.ext (E3.trans E6)).cl.at_ (us_get (l := y) (i := k) (by omega))
   refine st_val hF rfl rfl rfl (ex_idx (j := k) TfD.sl22 (hF.ev rfl) hA13 (hF.ev rfl) (by omega) (by omega)) ?_
   clear hF fa; intro fa hF
   refine st_val hF rfl rfl rfl (ex_load1 TfD.one46 (hF.ev rfl) hq14) ?_
   clear hF fa; intro fa hF
   refine st_val hF rfl rfl rfl (ex_sub (hF.ev rfl) (hF.ev rfl) (wu32 (by omega) (by omega))) ?_
   clear hF fa; intro fa hF
   refine st_val hF rfl rfl rfl (ex_assign (hF.ev rfl)) ?_
   clear hF fa; intro fa hF
   refine c_nil_then ?_
   refine c_seq ?_
   refine c_reg ?_
   refine st_val hF rfl rfl rfl (ex_assign (hF.ev rfl)) ?_
   clear hF fa; intro fa hF
   refine c_nil_then ?_
   refine c_seq ?_
   refine c_seq ?_
   refine c_reg ?_
   refine st_val hF rfl rfl rfl (ex_move (hF.ev rfl)) ?_
   clear hF fa; intro fa hF
   refine st_val hF rfl rfl rfl (ex_geq (hF.ev rfl) (hF.ev rfl)) ?_
   clear hF fa; intro fa hF
   refine c_nil_then ?_
   refine c_cond hF rfl (fun hc15 => ?_) (fun hc15 => ?_)
   ·
    have hc15p : (((((x.getD (k) 0 : Nat) : Int) + 1000000000) - ((br : Nat) : Int)) - ((y.getD (k) 0 : Nat) : Int)) ≥ 1000000000 := by first | simpa using hc15 | exact bang_t hc15 | exact bang_f hc15
    refine c_reg ?_
    refine st_val hF rfl rfl rfl (ex_move (hF.ev rfl)) ?_
    clear hF fa; intro fa hF
    refine st_val hF rfl rfl rfl (ex_sub (hF.ev rfl) (hF.ev rfl) (wu32 (by omega) (by omega))) ?_
    clear hF fa; intro fa hF
    refine st_val hF rfl rfl rfl (ex_assign (hF.ev rfl)) ?_
    clear hF fa; intro fa hF
    refine st_val hF rfl rfl rfl (ex_assign (hF.ev rfl)) ?_
    clear hF fa; intro fa hF
    replace hF : Frm 45 fa [(0, (.slice (A_x) (x.length) (c_x))), (1, (.slice (A_y) (y.length) (c_y))), (4, (.slice (none) (0) (0))), (5, (.slice (some ⟨g1, 0, none⟩) (x.length) (x.length))), (6, (.int .u32 (0))), (7, (.int .i64 (((k : Nat) : Int)))), (15, (.bool (decide (((k : Nat) : Int) < ((x.length : Nat) : Int))))), (8, (.int .u32 ((((((x.getD (k) 0 : Nat) : Int) + 1000000000) - ((br : Nat) : Int)) - ((y.getD (k) 0 : Nat) : Int)) - 1000000000))), (28, (.bool (decide (((k : Nat) : Int) < ((y.length : Nat) : Int))))), (36, (.bool (decide ((((((x.getD (k) 0 : Nat) : Int) + 1000000000) - ((br : Nat) : Int)) - ((y.getD (k) 0 : Nat) : Int)) ≥ 1000000000))))] := (hF.take (hF.take (hF.take (hF.take (hF.take (hF.take (hF.take (hF.take (hF.take (hF.take hF.nil rfl) rfl) rfl) rfl) rfl) rfl) rfl) rfl) rfl) rfl)
    refine c_nil_then ?_
    refine c_reg ?_
    refine st_val hF rfl rfl rfl (ex_move (hF.ev rfl)) ?_
    clear hF fa; intro fa hF
    refine st_val hF rfl rfl rfl (ex_move (hF.ev rfl)) ?_
    clear hF fa; intro fa hF
    refine st_val hF rfl rfl rfl (ex_move (hF.ev rfl)) ?_
    clear hF fa; intro fa hF
    refine st_val hF rfl rfl rfl (ex_idxo (j := k) TfD.sl22 (hF.ev rfl) (hF.ev rfl) (by omega) (by omega)) ?_
    clear hF fa; intro fa hF
    refine st rfl (op_store (vs := #[.int .u32 ((((((x.getD (k) 0) + 1000000000) - br) - (y.getD (k) 0)) - 1000000000 : Nat) : Int)]) (v := .int .u32 ((((((x.getD (k) 0) + 1000000000) - br) - (y.getD (k) 0)) - 1000000000 : Nat) : Int)) (X := (g1 :: X)) hF hS 0 rfl (by simp) rfl (ev_int rfl (by omega)) rfl TfD.size46 rfl (us_fit (by first | omega | (simp; omega))) ?_)
    intro w16 hS E17
    rw [splice_us (by first | omega | (simp; omega))] at hS
    replace hS : St w w16 [(g1, 46, (us (o.set (k) (((((x.getD (k) 0) + 1000000000) - br) - (y.getD (k) 0)) - 1000000000))).toArray)] := hS
    refine c_nil ?_
    refine x_bn ?_
    refine x_tn ?_
    refine c_reg ?_
    refine st_val hF rfl rfl rfl (ex_move (hF.ev rfl)) ?_
    clear hF fa; intro fa hF
    refine st_val hF rfl rfl rfl (ex_add (hF.ev rfl) (hF.ev rfl) (wi64 (by omega) (by omega))) ?_
    clear hF fa; intro fa hF
    refine st_val hF rfl rfl rfl (ex_assign (hF.ev rfl)) ?_
    clear hF fa; intro fa hF
    refine c_nil ?_
    refine x_tn ?_
    exact ⟨_, (by omega), o.set (k) (((((x.getD (k) 0) + 1000000000) - br) - (y.getD (k) 0)) - 1000000000), 0, (k + 1), (hF.take (hF.take (hF.take (hF.take (hF.take (hF.take hF.nil (lk_int rfl (by omega))) (lk_int rfl (by omega))) rfl) rfl) rfl) rfl), hS, (E6.trans E17), (by omega), (by simp; omega), (lb_set hbo (by omega)), (by omega), (minus_step (by omega) hv (by omega)), rfl⟩
   have hc15p : ¬ ((((((x.getD (k) 0 : Nat) : Int) + 1000000000) - ((br : Nat) : Int)) - ((y.getD (k) 0 : Nat) : Int)) ≥ 1000000000) := by first | simpa using hc15 | exact bang_t hc15 | exact bang_f hc15
   refine c_skip ?_
   refine x_tn ?_
   refine c_reg ?_
   refine st_val hF rfl rfl rfl (ex_move (hF.ev rfl)) ?_
   clear hF fa; intro fa hF
   refine st_val hF rfl rfl rfl (ex_move (hF.ev rfl)) ?_
   clear hF fa; intro fa hF
   refine st_val hF rfl rfl rfl (ex_move (hF.ev rfl)) ?_
   clear hF fa; intro fa hF
   refine st_val hF rfl rfl rfl (ex_idxo (j := k) TfD.sl22 (hF.ev rfl) (hF.ev rfl) (by omega) (by omega)) ?_
   clear hF fa; intro fa hF
   refine st rfl (op_store (vs := #[.int .u32 (((((x.getD (k) 0) + 1000000000) - br) - (y.getD (k) 0) : Nat) : Int)]) (v := .int .u32 (((((x.getD (k) 0) + 1000000000) - br) - (y.getD (k) 0) : Nat) : Int)) (X := (g1 :: X)) hF hS 0 rfl (by simp) rfl (ev_int rfl (by omega)) rfl TfD.size46 rfl (us_fit (by first | omega | (simp; omega))) ?_)
   intro w18 hS E19
   rw [splice_us (by first | omega | (simp; omega))] at hS
   replace hS : St w w18 [(g1, 46, (us (o.set (k) ((((x.getD (k) 0) + 1000000000) - br) - (y.getD (k) 0)))).toArray)] := hS
   replace hF : Frm 45 fa [(0, (.slice (A_x) (x.length) (c_x))), (1, (.slice (A_y) (y.length) (c_y))), (4, (.slice (none) (0) (0))), (5, (.slice (some ⟨g1, 0, none⟩) (x.length) (x.length))), (6, (.int .u32 (1))), (7, (.int .i64 (((k : Nat) : Int)))), (15, (.bool (decide (((k : Nat) : Int) < ((x.length : Nat) : Int))))), (8, (.int .u32 (((((x.getD (k) 0 : Nat) : Int) + 1000000000) - ((br : Nat) : Int)) - ((y.getD (k) 0 : Nat) : Int)))), (28, (.bool (decide (((k : Nat) : Int) < ((y.length : Nat) : Int))))), (36, (.bool (decide ((((((x.getD (k) 0 : Nat) : Int) + 1000000000) - ((br : Nat) : Int)) - ((y.getD (k) 0 : Nat) : Int)) ≥ 1000000000))))] := (hF.take (hF.take (hF.take (hF.take (hF.take (hF.take (hF.take (hF.take (hF.take (hF.take hF.nil rfl) rfl) rfl) rfl) rfl) rfl) rfl) rfl) rfl) rfl)
   refine c_nil ?_
   refine x_bn ?_
   refine x_tn ?_
   refine c_reg ?_
   refine st_val hF rfl rfl rfl (ex_move (hF.ev rfl)) ?_
   clear hF fa; intro fa hF
   refine st_val hF rfl rfl rfl (ex_add (hF.ev rfl) (hF.ev rfl) (wi64 (by omega) (by omega))) ?_
   clear hF fa; intro fa hF
   refine st_val hF rfl rfl rfl (ex_assign (hF.ev rfl)) ?_
   clear hF fa; intro fa hF
   refine c_nil ?_
   refine x_tn ?_
   exact ⟨_, (by omega), o.set (k) ((((x.getD (k) 0) + 1000000000) - br) - (y.getD (k) 0)), 1, (k + 1), (hF.take (hF.take (hF.take (hF.take (hF.take (hF.take hF.nil (lk_int rfl (by omega))) (lk_int rfl (by omega))) rfl) rfl) rfl) rfl), hS, (E6.trans E19), (by omega), (by simp; omega), (lb_set hbo (by omega)), (by omega), (minus_step (by omega) hv (by omega)), rfl⟩
  have hc11p : ¬ (((k : Nat) : Int) < ((y.length : Nat) : Int)) := by first | simpa using hc11 | exact bang_t hc11 | exact bang_f hc11
  have hz0 := getD_none (l := y) (k := k) (by omega)
  refine c_skip ?_
  refine x_tn ?_
  refine c_seq ?_
  refine c_reg ?_
  refine st_val hF rfl rfl rfl (ex_assign (hF.ev rfl)) ?_
  clear hF fa; intro fa hF
  refine c_nil_then ?_
  refine c_seq ?_
  refine c_seq ?_
  refine c_reg ?_
  refine st_val hF rfl rfl rfl (ex_move (hF.ev rfl)) ?_
  clear hF fa; intro fa hF
  refine st_val hF rfl rfl rfl (ex_geq (hF.ev rfl) (hF.ev rfl)) ?_
  clear hF fa; intro fa hF
  refine c_nil_then ?_
  refine c_cond hF rfl (fun hc20 => ?_) (fun hc20 => ?_)
  ·
   have hc20p : ((((x.getD (k) 0 : Nat) : Int) + 1000000000) - ((br : Nat) : Int)) ≥ 1000000000 := by first | simpa using hc20 | exact bang_t hc20 | exact bang_f hc20
   refine c_reg ?_
   refine st_val hF rfl rfl rfl (ex_move (hF.ev rfl)) ?_
   clear hF fa; intro fa hF
   refine st_val hF rfl rfl rfl (ex_sub (hF.ev rfl) (hF.ev rfl) (wu32 (by omega) (by omega))) ?_
   clear hF fa; intro fa hF
   refine st_val hF rfl rfl rfl (ex_assign (hF.ev rfl)) ?_
   clear hF fa; intro fa hF
   refine st_val hF rfl rfl rfl (ex_assign (hF.ev rfl)) ?_
   clear hF fa; intro fa hF
   refine c_nil_then ?_
   refine c_reg ?_
   refine st_val hF rfl rfl rfl (ex_move (hF.ev rfl)) ?_
   clear hF fa; intro fa hF
   refine st_val hF rfl rfl rfl (ex_move (hF.ev rfl)) ?_
   clear hF fa; intro fa hF
   refine st_val hF rfl rfl rfl (ex_move (hF.ev rfl)) ?_
   clear hF fa; intro fa hF
   refine st_val hF rfl rfl rfl (ex_idxo (j := k) TfD.sl22 (hF.ev rfl) (hF.ev rfl) (by omega) (by omega)) ?_
   clear hF fa; intro fa hF
   refine st rfl (op_store (vs := #[.int .u32 (((((x.getD (k) 0) + 1000000000) - br) - 1000000000 : Nat) : Int)]) (v := .int .u32 (((((x.getD (k) 0) + 1000000000) - br) - 1000000000 : Nat) : Int)) (X := (g1 :: X)) hF hS 0 rfl (by simp) rfl (ev_int rfl (by omega)) rfl TfD.size46 rfl (us_fit (by first | omega | (simp; omega))) ?_)
   intro w21 hS E22
   rw [splice_us (by first | omega | (simp; omega))] at hS
   replace hS : St w w21 [(g1, 46, (us (o.set (k) ((((x.getD (k) 0) + 1000000000) - br) - 1000000000))).toArray)] := hS
   refine c_nil ?_
   refine x_bn ?_
   refine x_tn ?_
   refine c_reg ?_
   refine st_val hF rfl rfl rfl (ex_move (hF.ev rfl)) ?_
   clear hF fa; intro fa hF
   refine st_val hF rfl rfl rfl (ex_add (hF.ev rfl) (hF.ev rfl) (wi64 (by omega) (by omega))) ?_
   clear hF fa; intro fa hF
   refine st_val hF rfl rfl rfl (ex_assign (hF.ev rfl)) ?_
   clear hF fa; intro fa hF
   replace hF : Frm 45 fa [(0, (.slice (A_x) (x.length) (c_x))), (1, (.slice (A_y) (y.length) (c_y))), (4, (.slice (none) (0) (0))), (5, (.slice (some ⟨g1, 0, none⟩) (x.length) (x.length))), (6, (.int .u32 (0))), (7, (.int .i64 (((k : Nat) : Int) + 1))), (15, (.bool (decide (((k : Nat) : Int) < ((x.length : Nat) : Int))))), (8, (.int .u32 (((((x.getD (k) 0 : Nat) : Int) + 1000000000) - ((br : Nat) : Int)) - 1000000000))), (28, (.bool (decide (((k : Nat) : Int) < ((y.length : Nat) : Int))))), (36, (.bool (decide (((((x.getD (k) 0 : Nat) : Int) + 1000000000) - ((br : Nat) : Int)) ≥ 1000000000))))] := (hF.take (hF.take (hF.take (hF.take (hF.take (hF.take (hF.take (hF.take (hF.take (hF.take hF.nil rfl) rfl) rfl) rfl) rfl) rfl) rfl) rfl) rfl) rfl)
   refine c_nil ?_
   refine x_tn ?_
   exact ⟨_, (by omega), o.set (k) ((((x.getD (k) 0) + 1000000000) - br) - 1000000000), 0, (k + 1), (hF.take (hF.take (hF.take (hF.take (hF.take (hF.take hF.nil (lk_int rfl (by omega))) (lk_int rfl (by omega))) rfl) rfl) rfl) rfl), hS, (E6.trans E22), (by omega), (by simp; omega), (lb_set hbo (by omega)), (by omega), (minus_step (by omega) hv (by omega)), rfl⟩
  have hc20p : ¬ (((((x.getD (k) 0 : Nat) : Int) + 1000000000) - ((br : Nat) : Int)) ≥ 1000000000) := by first | simpa using hc20 | exact bang_t hc20 | exact bang_f hc20
  refine c_skip ?_
  refine x_tn ?_
  refine c_reg ?_
  refine st_val hF rfl rfl rfl (ex_move (hF.ev rfl)) ?_
  clear hF fa; intro fa hF
  refine st_val hF rfl rfl rfl (ex_move (hF.ev rfl)) ?_
  clear hF fa; intro fa hF
  refine st_val hF rfl rfl rfl (ex_move (hF.ev rfl)) ?_
  clear hF fa; intro fa hF
  refine st_val hF rfl rfl rfl (ex_idxo (j := k) TfD.sl22 (hF.ev rfl) (hF.ev rfl) (by omega) (by omega)) ?_
  clear hF fa; intro fa hF
  refine st rfl (op_store (vs := #[.int .u32 ((((x.getD (k) 0) + 1000000000) - br : Nat) : Int)]) (v := .int .u32 ((((x.getD (k) 0) + 1000000000) - br : Nat) : Int)) (X := (g1 :: X)) hF hS 0 rfl (by simp) rfl (ev_int rfl (by omega)) rfl TfD.size46 rfl (us_fit (by first | omega | (simp; omega))) ?_)
  intro w23 hS E24
  rw [splice_us (by first | omega | (simp; omega))] at hS
  replace hS : St w w23 [(g1, 46, (us (o.set (k) (((x.getD (k) 0) + 1000000000) - br))).toArray)] := hS
  refine c_nil ?_
  refine x_bn ?_
  refine x_tn ?_
  refine c_reg ?_
  refine st_val hF rfl rfl rfl (ex_move (hF.ev rfl)) ?_
  clear hF fa; intro fa hF
  refine st_val hF rfl rfl rfl (ex_add (hF.ev rfl) (hF.ev rfl) (wi64 (by omega) (by omega))) ?_
  clear hF fa; intro fa hF
  refine st_val hF rfl rfl rfl (ex_assign (hF.ev rfl)) ?_
  clear hF fa; intro fa hF
  refine c_nil ?_
  refine x_tn ?_
  exact ⟨_, (by omega), o.set (k) (((x.getD (k) 0) + 1000000000) - br), 1, (k + 1), (hF.take (hF.take (hF.take (hF.take (hF.take (hF.take hF.nil (lk_int rfl (by omega))) (lk_int rfl (by omega))) rfl) rfl) rfl) rfl), hS, (E6.trans E24), (by omega), (by simp; omega), (lb_set hbo (by omega)), (by omega), (minus_step (by omega) hv (by omega)), rfl⟩
 have hc7p : ¬ (((k : Nat) : Int) < ((x.length : Nat) : Int)) := by first | simpa using hc7 | exact bang_t hc7 | exact bang_f hc7
 refine c_exit ?_
 refine x_te ?_
 refine x_te ?_
 refine x_bh ?_
 refine x_tn ?_
 refine c_seq ?_
 refine c_reg ?_
 refine st_val hF rfl rfl rfl (ex_move (hF.ev rfl)) ?_
 clear hF fa; intro fa hF
 obtain ⟨hS1, hn1⟩ := hS.out hX 0 rfl
 have hu25 := UC.of_box (L := o) (hS.get 0 rfl) hn1 (by omega)
 have E26 : Ext w5 (g1 :: X) w5 X := Ext.drop (by simp +contextual)
 replace hu25 : UC w5 X (some ⟨g1, 0, none⟩) (o).length (o) := hu25
 replace hS : St w w5 [] := hS1; clear hn1
 have hC := ref01_trim_ok (w := w5) (X := X) (l := o) (hS.bnd hX) (UL.cap (n := x.length) (c := x.length) hu25 (by omega) (by omega))
 refine st rfl (op_call hF rfl TfD.body43 (args1 (hF.ev rfl)) hC ?_)
 clear hC
 rintro _ w27 ⟨⟨A30, _, c31, rfl, rfl, hu32⟩, hb28⟩
 refine gen_ ?_; clear hF fa; intro fa hF
 replace hS := hS.call hb28; have E29 := Ext.call X hb28
 refine st_val hF rfl rfl rfl (ex_assign (hF.ev rfl)) ?_
 clear hF fa; intro fa hF
 refine c_nil_then ?_
 refine c_ret ?_
 have hlt := val_lt o hbo
 have hx0 := val_lt x hb_x
 rw [val_take_all (l := o) (by omega), val_take_all (l := y) (by omega), val_take_all (l := x) (by omega), show k = x.length by omega] at hv
 rw [ho] at hlt
 have hval := minus_end hx0 hv hle hlt
 refine end1 hF rfl (res_tmp hF rfl) ?_
 exact ⟨_, rfl, (UL.fin (L := (trimz o)) ⟨_, _, _, rfl, (rfl), hu32⟩ (by rw [← hval]; exact (lim_val _ hbo).symm) (fun x hx => by simp [hx])), hS.below⟩

set_option maxHeartbeats 4000000 in
theorem integer_minus_ok {w : World} {X : List Nat} (hX : ∀ m ∈ X, m < w.heap.size) {v_x : Value} {x : List Nat} (h_x : UL w X v_x (x)) {v_y : Value} {y : List Nat} (h_y : UL w X v_y (y)) (hn_x : x.length ≤ 1000000000000) (hn_y : y.length ≤ 1000000000000) (hb_x : Lb x) (hb_y : Lb y) (hl : y.length ≤ x.length) (hle : val y ≤ val x) :
    Calls Try.prog 57 #[v_x, v_y] w (Ret fun r w' => (∃ o : List Nat, UL w' X r (o) ∧ Lb o ∧ val o = val x - val y ∧ o.length = x.length) ∧ Below w.heap.size w w') := by
 refine enter (N := 44) (fn := Try.f57) (vs := [v_x, v_y]) Try.func57 rfl rfl rfl ?_
 intro fa hF
 obtain ⟨A_x, _, c_x, rfl, rfl, hu_x⟩ := h_x
 have hl_x := hu_x.len; have hc_x := hu_x.cap
 obtain ⟨A_y, _, c_y, rfl, rfl, hu_y⟩ := h_y
 have hl_y := hu_y.len; have hc_y := hu_y.cap
 replace hF : Frm 44 fa [(0, (.slice (A_x) (x.length) (c_x))), (1, (.slice (A_y) (y.length) (c_y)))] := hF
 have hS := St.refl w
 refine c_seq ?_
 refine c_reg ?_
 refine st_val hF rfl rfl rfl (ex_assign (hF.ev rfl)) ?_
 clear hF fa; intro fa hF
 refine c_nil_then ?_
 refine c_seq ?_
 refine c_reg ?_
 refine st_val hF rfl rfl rfl (ex_move (hF.ev rfl)) ?_
 clear hF fa; intro fa hF
 refine st_val hF rfl rfl rfl (ex_len TfD.sls22 (hF.ev rfl)) ?_
 clear hF fa; intro fa hF
 refine st rfl (op_make (X := X) (nl := x.length) (nc := x.length) hF hS rfl TfD.sl22 TfD.el46 rfl rfl (by omega) (by omega) (by omega) (by omega) (by omega) (made_us _) ?_)
 intro g1 w2 hg4 hS E3; refine gen_ ?_; clear hF fa; intro fa hF
 replace hS : St w w2 [(g1, 46, (us (List.replicate ((x.length) * 1) 0)).toArray)] := hS
 rw [Nat.mul_one] at hS
 refine st_val hF rfl rfl rfl (ex_assign (hF.ev rfl)) ?_
 clear hF fa; intro fa hF
 refine c_nil_then ?_
 refine c_seq ?_
 refine c_reg ?_
 refine st_val hF rfl rfl rfl (ex_assign (hF.ev rfl)) ?_
 clear hF fa; intro fa hF
 refine c_nil_then ?_
 refine c_seq ?_
 refine c_seq ?_
 refine c_reg ?_
 refine st_val hF rfl rfl rfl (ex_move (hF.ev rfl)) ?_
 clear hF fa; intro fa hF
 refine st_val hF rfl rfl rfl (ex_len TfD.sls22 (hF.ev rfl)) ?_
 clear hF fa; intro fa hF
 refine st_val hF rfl rfl rfl (ex_move (hF.ev rfl)) ?_
 clear hF fa; intro fa hF
 refine c_nil_then ?_
 refine c_block ?_
 refine c_loop (fun mu fa w' => ∃ o : List Nat, ∃ br : Nat, ∃ k : Nat, Frm 44 fa [(0, (.slice (A_x) (x.length) (c_x))), (1, (.slice (A_y) (y.length) (c_y))), (4, (.slice (none) (0) (0))), (5, (.slice (some ⟨g1, 0, none⟩) (x.length) (x.length))), (13, (.slice (A_x) (x.length) (c_x))), (14, (.int .i64 (((x.length : Nat) : Int)))), (6, (.int .u32 (((br : Nat) : Int)))), (15, (.int .i64 (((k : Nat) : Int))))] ∧ St w w' [(g1, 46, (us (o)).toArray)] ∧ Ext w2 (g1 :: X) w' (g1 :: X) ∧ (k ≤ x.length) ∧ (o.length = x.length) ∧ (Lb o) ∧ (br ≤ 1) ∧ (val (o.take k) + val (y.take k) = val (x.take k) + 1000000000 ^ k * br) ∧ x.length - k = mu) ?_ ?_
 ·
  exact ⟨_, List.replicate x.length 0, 0, 0, (hF.take (hF.take (hF.take (hF.take (hF.take (hF.take (hF.take (hF.take hF.nil (lk_int rfl (by omega))) (lk_int rfl (by omega))) rfl) rfl) rfl) rfl) rfl) rfl), hS, Ext.refl _ _, (by omega), (by simp), (lb_zeros _), (by omega), (by simp [val]), rfl⟩
 clear hF fa; intro n0_ fa w' hI
 clear hS
 obtain ⟨o, br, k, hF, hS, E6, hk, ho, hbo, hbr, hv, rfl⟩ := hI
 rename World => w5
 have hxk := hb_x.getD k; have hyk := hb_y.getD k
 refine c_seq ?_
 refine c_reg ?_
 refine st_val hF rfl rfl rfl (ex_lss (hF.ev rfl) (hF.ev rfl)) ?_
 clear hF fa; intro fa hF
 refine c_nil_then ?_
 refine c_seq ?_
 refine c_cond hF rfl (fun hc7 => ?_) (fun hc7 => ?_)
 ·
  have hc7p : ((k : Nat) : Int) < ((x.length : Nat) : Int) := by first | simpa using hc7 | exact bang_t hc7 | exact bang_f hc7
  refine c_skip ?_
  refine x_tn ?_
  refine c_seq ?_
  refine c_block ?_
  refine c_seq ?_
  refine c_reg ?_
  refine st_val hF rfl rfl rfl (ex_move (hF.ev rfl)) ?_
  clear hF fa; intro fa hF
  obtain ⟨ad8, hA9, hq10⟩ := (hu_x.ext (E3.trans E6)).cl.at_ (us_get (l := x) (i := k) (by omega))
  refine st_val hF rfl rfl rfl (ex_idx (j := k) TfD.sl22 (hF.ev rfl) hA9 (hF.ev rfl) (by omega) (by omega)) ?_
  clear hF fa; intro fa hF
  refine st_val hF rfl rfl rfl (ex_load1 TfD.one46 (hF.ev rfl) hq10) ?_
  clear hF fa; intro fa hF
  refine st_val hF rfl rfl rfl (ex_assign (hF.ev rfl)) ?_
  clear hF fa; intro fa hF
  refine st_val hF rfl rfl rfl (ex_assign (hF.ev rfl)) ?_
  clear hF fa; intro fa hF
  refine c_nil_then ?_
  refine c_seq ?_
  refine c_reg ?_
  refine st_val hF rfl rfl rfl (ex_move (hF.ev rfl)) ?_
  clear hF fa; intro fa hF
  refine st_val hF rfl rfl rfl (ex_assign (hF.ev rfl)) ?_
  clear hF fa; intro fa hF
  refine c_nil_then ?_
  refine c_seq ?_
  refine c_seq ?_
  refine c_reg ?_
  refine st_val hF rfl rfl rfl (ex_move (hF.ev rfl)) ?_
  clear hF fa; intro fa hF
  refine st_val hF rfl rfl rfl (ex_move (hF.ev rfl)) ?_
  clear hF fa; intro fa hF
  refine st_val hF rfl rfl rfl (ex_len TfD.sls22 (hF.ev rfl)) ?_
  clear hF fa; intro fa hF
  refine st_val hF rfl rfl rfl (ex_lss (hF.ev rfl) (hF.ev rfl)) ?_
  clear hF fa; intro fa hF
  refine c_nil_then ?_
  refine c_cond hF rfl (fun hc11 => ?_) (fun hc11 => ?_)
  ·
   have hc11p : ((k : Nat) : Int) < ((y.length : Nat) : Int) := by first | simpa using hc11 | exact bang_t hc11 | exact bang_f hc11
   refine c_reg ?_
   refine st_val hF rfl rfl rfl (ex_move (hF.ev rfl)) ?_
   clear hF fa; intro fa hF
   refine st_val hF rfl rfl rfl (ex_move (hF.ev rfl)) ?_
   clear hF fa; intro fa hF
   refine st_val hF rfl rfl rfl (ex_move (hF.ev rfl)) ?_
   clear hF fa; intro fa hF
   obtain ⟨ad12, hA13, hq14⟩ := (hu_y.ext (E3.trans E6)).cl.at_ (us_get (l := y) (i := k) (by omega))
   refine st_val hF rfl rfl rfl (ex_idx (j := k) TfD.sl22 (hF.ev rfl) hA13 (hF.ev rfl) (by omega) (by omega)) ?_
   clear hF fa; intro fa hF
   refine st_val hF rfl rfl rfl (ex_load1 TfD.one46 (hF.ev rfl) hq14) ?_
   clear hF fa; intro fa hF
   refine st_val hF rfl rfl rfl (ex_add (hF.ev rfl) (hF.ev rfl) (wu32 (by omega) (by omega))) ?_
   clear hF fa; intro fa hF
   refine st_val hF rfl rfl rfl (ex_assign (hF.ev rfl)) ?_
   clear hF fa; intro fa hF
   replace hF : Frm 44 fa [(0, (.slice (A_x) (x.length) (c_x))), (1, (.slice (A_y) (y.length) (c_y))), (4, (.slice (none) (0) (0))), (5, (.slice (some ⟨g1, 0, none⟩) (x.length) (x.length))), (13, (.slice (A_x) (x.length) (c_x))), (14, (.int .i64 (((x.length : Nat) : Int)))), (6, (.int .u32 (((br : Nat) : Int)))), (15, (.int .i64 (((k : Nat) : Int)))), (16, (.bool (decide (((k : Nat) : Int) < ((x.length : Nat) : Int))))), (7, (.int .i64 (((k : Nat) : Int)))), (8, (.int .u32 (((x.getD (k) 0 : Nat) : Int)))), (9, (.int .u32 (((br : Nat) : Int) + ((y.getD (k) 0 : Nat) : Int)))), (24, (.bool (decide (((k : Nat) : Int) < ((y.length : Nat) : Int)))))] := (hF.take (hF.take (hF.take (hF.take (hF.take (hF.take (hF.take (hF.take (hF.take (hF.take (hF.take (hF.take (hF.take hF.nil rfl) rfl) rfl) rfl) rfl) rfl) rfl) rfl) rfl) rfl) rfl) rfl) rfl)
   refine c_nil_then ?_
   refine c_seq ?_
   refine c_reg ?_
   refine st_val hF rfl rfl rfl (ex_assign (hF.ev rfl)) ?_
   clear hF fa; intro fa hF
   refine c_nil_then ?_
   refine c_seq ?_
   refine c_seq ?_
   refine c_reg ?_
   refine st_val hF rfl rfl rfl (ex_move (hF.ev rfl)) ?_
   clear hF fa; intro fa hF
   refine st_val hF rfl rfl rfl (ex_move (hF.ev rfl)) ?_
   clear hF fa; intro fa hF
   refine st_val hF rfl rfl rfl (ex_lss (hF.ev rfl) (hF.ev rfl)) ?_
   clear hF fa; intro fa hF
   refine c_nil_then ?_
   refine c_cond hF rfl (fun hc15 => ?_) (fun hc15 => ?_)
   ·
    have hc15p : ((x.getD (k) 0 : Nat) : Int) < (((br : Nat) : Int) + ((y.getD (k) 0 : Nat) : Int)) := by first | simpa using hc15 | exact bang_t hc15 | exact bang_f hc15
    refine c_reg ?_
    refine st_val hF rfl rfl rfl (ex_move (hF.ev rfl)) ?_
    clear hF fa; intro fa hF
    refine st_val hF rfl rfl rfl (ex_add (hF.ev rfl) (hF.ev rfl) (wu32 (by omega) (by omega))) ?_
    clear hF fa; intro fa hF
    refine st_val hF rfl rfl rfl (ex_assign (hF.ev rfl)) ?_
    clear hF fa; intro fa hF
    refine st_val hF rfl rfl rfl (ex_assign (hF.ev rfl)) ?_
    clear hF fa; intro fa hF
    refine c_nil_then ?_
    refine c_reg ?_
    refine st_val hF rfl rfl rfl (ex_move (hF.ev rfl)) ?_
    clear hF fa; intro fa hF
    refine st_val hF rfl rfl rfl (ex_move (hF.ev rfl)) ?_
    clear hF fa; intro fa hF
    refine st_val hF rfl rfl rfl (ex_move (hF.ev rfl)) ?_
    clear hF fa; intro fa hF
    refine st_val hF rfl rfl rfl (ex_move (hF.ev rfl)) ?_
    clear hF fa; intro fa hF
    refine st_val hF rfl rfl rfl (ex_sub (hF.ev rfl) (hF.ev rfl) (wu32 (by omega) (by omega))) ?_
    clear hF fa; intro fa hF
    refine st_val hF rfl rfl rfl (ex_idxo (j := k) TfD.sl22 (hF.ev rfl) (hF.ev rfl) (by omega) (by omega)) ?_
    clear hF fa; intro fa hF
    refine st rfl (op_store (vs := #[.int .u32 ((((x.getD (k) 0) + 1000000000) - (br + (y.getD (k) 0)) : Nat) : Int)]) (v := .int .u32 ((((x.getD (k) 0) + 1000000000) - (br + (y.getD (k) 0)) : Nat) : Int)) (X := (g1 :: X)) hF hS 0 rfl (by simp) rfl (ev_int rfl (by omega)) rfl TfD.size46 rfl (us_fit (by first | omega | (simp; omega))) ?_)
    intro w16 hS E17
    rw [splice_us (by first | omega | (simp; omega))] at hS
    replace hS : St w w16 [(g1, 46, (us (o.set (k) (((x.getD (k) 0) + 1000000000) - (br + (y.getD (k) 0))))).toArray)] := hS
    refine c_nil ?_
    refine x_bn ?_
    refine x_tn ?_
    refine c_reg ?_
    refine st_val hF rfl rfl rfl (ex_add (hF.ev rfl) (hF.ev rfl) (wi64 (by omega) (by omega))) ?_
    clear hF fa; intro fa hF
    refine st_val hF rfl rfl rfl (ex_move (hF.ev rfl)) ?_
    clear hF fa; intro fa hF
    refine c_nil ?_
    refine x_tn ?_
    exact ⟨_, (by omega), o.set (k) (((x.getD (k) 0) + 1000000000) - (br + (y.getD (k) 0))), 1, (k + 1), (hF.take (hF.take (hF.take (hF.take (hF.take (hF.take (hF.take (hF.take hF.nil (lk_int rfl (by omega))) (lk_int rfl (by omega))) rfl) rfl) rfl) rfl) rfl) rfl), hS, (E6.trans E17), (by omega), (by simp; omega), (lb_set hbo (by omega)), (by omega), (minus_step (by omega) hv (by omega)), rfl⟩
   have hc15p : ¬ (((x.getD (k) 0 : Nat) : Int) < (((br : Nat) : Int) + ((y.getD (k) 0 : Nat) : Int))) := by first | simpa using hc15 | exact bang_t hc15 | exact bang_f hc15
   refine c_skip ?_
   refine x_tn ?_
   refine c_reg ?_
   refine st_val hF rfl rfl rfl (ex_move (hF.ev rfl)) ?_
   clear hF fa; intro fa hF
   refine st_val hF rfl rfl rfl (ex_move (hF.ev rfl)) ?_
   clear hF fa; intro fa hF
   refine st_val hF rfl rfl rfl (ex_move (hF.ev rfl)) ?_
   clear hF fa; intro fa hF
   refine st_val hF rfl rfl rfl (ex_move (hF.ev rfl)) ?_
   clear hF fa; intro fa hF
   refine st_val hF rfl rfl rfl (ex_sub (hF.ev rfl) (hF.ev rfl) (wu32 (by omega) (by omega))) ?_
   clear hF fa; intro fa hF
   refine st_val hF rfl rfl rfl (ex_idxo (j := k) TfD.sl22 (hF.ev rfl) (hF.ev rfl) (by omega) (by omega)) ?_
   clear hF fa; intro fa hF
   refine st rfl (op_store (vs := #[.int .u32 (((x.getD (k) 0) - (br + (y.getD (k) 0)) : Nat) : Int)]) (v := .int .u32 (((x.getD (k) 0) - (br + (y.getD (k) 0)) : Nat) : Int)) (X := (g1 :: X)) hF hS 0 rfl (by simp) rfl (ev_int rfl (by omega)) rfl TfD.size46 rfl (us_fit (by first | omega | (simp; omega))) ?_)
   intro w18 hS E19
   rw [splice_us (by first | omega | (simp; omega))] at hS
   replace hS : St w w18 [(g1, 46, (us (o.set (k) ((x.getD (k) 0) - (br + (y.getD (k) 0))))).toArray)] := hS
   refine c_nil ?_
   refine x_bn ?_
   refine x_tn ?_
   refine c_reg ?_
   refine st_val hF rfl rfl rfl (ex_add (hF.ev rfl) (hF.ev rfl) (wi64 (by omega) (by omega))) ?_
   clear hF fa; intro fa hF
   refine st_val hF rfl rfl rfl (ex_move (hF.ev rfl)) ?_
   clear hF fa; intro fa hF
   refine c_nil ?_
   refine x_tn ?_
   exact ⟨_, (by omega), o.set (k) ((x.getD (k) 0) - (br + (y.getD (k) 0))), 0, (k + 1), (hF.take (hF.take (hF.take (hF.take (hF.take (hF.take (hF.take (hF.take hF.nil (lk_int rfl (by omega))) (lk_int rfl (by omega))) rfl) rfl) rfl) rfl) rfl) rfl), hS, (E6.trans E19), (by omega), (by simp; omega), (lb_set hbo (by omega)), (by omega), (minus_step (by omega) hv (by omega)), rfl⟩
  have hc11p : ¬ (((k : Nat) : Int) < ((y.length : Nat) : Int)) := by first | simpa using hc11 | exact bang_t hc11 | exact bang_f hc11
  have hz0 := getD_none (l := y) (k := k) (by omega)
  refine c_skip ?_
  refine x_tn ?_
  refine c_seq ?_
  refine c_reg ?_
  refine st_val hF rfl rfl rfl (ex_assign (hF.ev rfl)) ?_
  clear hF fa; intro fa hF
  refine c_nil_then ?_
  refine c_seq ?_
  refine c_seq ?_
  refine c_reg ?_
  refine st_val hF rfl rfl rfl (ex_move (hF.ev rfl)) ?_
  clear hF fa; intro fa hF
  refine st_val hF rfl rfl rfl (ex_move (hF.ev rfl)) ?_
  clear hF fa; intro fa hF
  refine st_val hF rfl rfl rfl (ex_lss (hF.ev rfl) (hF.ev rfl)) ?_
  clear hF fa; intro fa hF
  replace hF : Frm 44 fa [(0, (.slice (A_x) (x.length) (c_x))), (1, (.slice (A_y) (y.length) (c_y))), (4, (.slice (none) (0) (0))), (5, (.slice (some ⟨g1, 0, none⟩) (x.length) (x.length))), (13, (.slice (A_x) (x.length) (c_x))), (14, (.int .i64 (((x.length : Nat) : Int)))), (6, (.int .u32 (0))), (15, (.int .i64 (((k : Nat) : Int)))), (16, (.bool (decide (((k : Nat) : Int) < ((x.length : Nat) : Int))))), (7, (.int .i64 (((k : Nat) : Int)))), (8, (.int .u32 (((x.getD (k) 0 : Nat) : Int)))), (9, (.int .u32 (((br : Nat) : Int)))), (24, (.bool (decide (((k : Nat) : Int) < ((y.length : Nat) : Int))))), (33, (.bool (decide (((x.getD (k) 0 : Nat) : Int) < ((br : Nat) : Int)))))] := (hF.take (hF.take (hF.take (hF.take (hF.take (hF.take (hF.take (hF.take (hF.take (hF.take (hF.take (hF.take (hF.take (hF.take hF.nil rfl) rfl) rfl) rfl) rfl) rfl) rfl) rfl) rfl) rfl) rfl) rfl) rfl) rfl)
  refine c_nil_then ?_
  refine c_cond hF rfl (fun hc20 => ?_) (fun hc20 => ?_)
  ·
   have hc20p : ((x.getD (k) 0 : Nat) : Int) < ((br : Nat) : Int) := by first | simpa using hc20 | exact bang_t hc20 | exact bang_f hc20
   refine c_reg ?_
   refine st_val hF rfl rfl rfl (ex_move (hF.ev rfl)) ?_
   clear hF fa; intro fa hF
   refine st_val hF rfl rfl rfl (ex_add (hF.ev rfl) (hF.ev rfl) (wu32 (by omega) (by omega))) ?_
   clear hF fa; intro fa hF
   refine st_val hF rfl rfl rfl (ex_assign (hF.ev rfl)) ?_
   clear hF fa; intro fa hF
   refine st_val hF rfl rfl rfl (ex_assign (hF.ev rfl)) ?_
   clear hF fa; intro fa hF
   refine c_nil_then ?_
   refine c_reg ?_
   refine st_val hF rfl rfl rfl (ex_move (hF.ev rfl)) ?_
   clear hF fa; intro fa hF
   refine st_val hF rfl rfl rfl (ex_move (hF.ev rfl)) ?_
   clear hF fa; intro fa hF
   refine st_val hF rfl rfl rfl (ex_move (hF.ev rfl)) ?_
   clear hF fa; intro fa hF
   refine st_val hF rfl rfl rfl (ex_move (hF.ev rfl)) ?_
   clear hF fa; intro fa hF
   refine st_val hF rfl rfl rfl (ex_sub (hF.ev rfl) (hF.ev rfl) (wu32 (by omega) (by omega))) ?_
   clear hF fa; intro fa hF
   refine st_val hF rfl rfl rfl (ex_idxo (j := k) TfD.sl22 (hF.ev rfl) (hF.ev rfl) (by omega) (by omega)) ?_
   clear hF fa; intro fa hF
   refine st rfl (op_store (vs := #[.int .u32 ((((x.getD (k) 0) + 1000000000) - br : Nat) : Int)]) (v := .int .u32 ((((x.getD (k) 0) + 1000000000) - br : Nat) : Int)) (X := (g1 :: X)) hF hS 0 rfl (by simp) rfl (ev_int rfl (by omega)) rfl TfD.size46 rfl (us_fit (by first | omega | (simp; omega))) ?_)
   intro w21 hS E22
   rw [splice_us (by first | omega | (simp; omega))] at hS
   replace hS : St w w21 [(g1, 46, (us (o.set (k) (((x.getD (k) 0) + 1000000000) - br))).toArray)] := hS
   refine c_nil ?_
   refine x_bn ?_
   refine x_tn ?_
   refine c_reg ?_
   refine st_val hF rfl rfl rfl (ex_add (hF.ev rfl) (hF.ev rfl) (wi64 (by omega) (by omega))) ?_
   clear hF fa; intro fa hF
   refine st_val hF rfl rfl rfl (ex_move (hF.ev rfl)) ?_
   clear hF fa; intro fa hF
   refine c_nil ?_
   refine x_tn ?_
   exact ⟨_, (by omega), o.set (k) (((x.getD (k) 0) + 1000000000) - br), 1, (k + 1), (hF.take (hF.take (hF.take (hF.take (hF.take (hF.take (hF.take (hF.take hF.nil (lk_int rfl (by omega))) (lk_int rfl (by omega))) rfl) rfl) rfl) rfl) rfl) rfl), hS, (E6.trans E22), (by omega), (by simp; omega), (lb_set hbo (by omega)), (by omega), (minus_step (by omega) hv (by omega)), rfl⟩
  have hc20p : ¬ (((x.getD (k) 0 : Nat) : Int) < ((br : Nat) : Int)) := by first | simpa using hc20 | exact bang_t hc20 | exact bang_f hc20
  refine c_skip ?_
  refine x_tn ?_
  refine c_reg ?_
  refine st_val hF rfl rfl rfl (ex_move (hF.ev rfl)) ?_
  clear hF fa; intro fa hF
  refine st_val hF rfl rfl rfl (ex_move (hF.ev rfl)) ?_
  clear hF fa; intro fa hF
  refine st_val hF rfl rfl rfl (ex_move (hF.ev rfl)) ?_
  clear hF fa; intro fa hF
  refine st_val hF rfl rfl rfl (ex_move (hF.ev rfl)) ?_
  clear hF fa; intro fa hF
  refine st_val hF rfl rfl rfl (ex_sub (hF.ev rfl) (hF.ev rfl) (wu32 (by omega) (by omega))) ?_
  clear hF fa; intro fa hF
  refine st_val hF rfl rfl rfl (ex_idxo (j := k) TfD.sl22 (hF.ev rfl) (hF.ev rfl) (by omega) (by omega)) ?_
  clear hF fa; intro fa hF
  refine st rfl (op_store (vs := #[.int .u32 (((x.getD (k) 0) - br : Nat) : Int)]) (v := .int .u32 (((x.getD (k) 0) - br : Nat) : Int)) (X := (g1 :: X)) hF hS 0 rfl (by simp) rfl (ev_int rfl (by omega)) rfl TfD.size46 rfl (us_fit (by first | omega | (simp; omega))) ?_)
  intro w23 hS E24
  rw [splice_us (by first | omega | (simp; omega))] at hS
  replace hS : St w w23 [(g1, 46, (us (o.set (k) ((x.getD (k) 0) - br))).toArray)] := hS
  refine c_nil ?_
  refine x_bn ?_
  refine x_tn ?_
  refine c_reg ?_
  refine st_val hF rfl rfl rfl (ex_add (hF.ev rfl) (hF.ev rfl) (wi64 (by omega) (by omega))) ?_
  clear hF fa; intro fa hF
  refine st_val hF rfl rfl rfl (ex_move (hF.ev rfl)) ?_
  clear hF fa; intro fa hF
  refine c_nil ?_
  refine x_tn ?_
  exact ⟨_, (by omega), o.set (k) ((x.getD (k) 0) - br), 0, (k + 1), (hF.take (hF.take (hF.take (hF.take (hF.take (hF.take (hF.take (hF.take hF.nil (lk_int rfl (by omega))) (lk_int rfl (by omega))) rfl) rfl) rfl) rfl) rfl) rfl), hS, (E6.trans E24), (by omega), (by simp; omega), (lb_set hbo (by omega)), (by omega), (minus_step (by omega) hv (by omega)), rfl⟩
 have hc7p : ¬ (((k : Nat) : Int) < ((x.length : Nat) : Int)) := by first | simpa using hc7 | exact bang_t hc7 | exact bang_f hc7
 refine c_exit ?_
 refine x_te ?_
 refine x_te ?_
 refine x_bh ?_
 refine x_tn ?_
 refine c_seq ?_
 refine c_reg ?_
 refine st_val hF rfl rfl rfl (ex_move (hF.ev rfl)) ?_
 clear hF fa; intro fa hF
 refine st_val hF rfl rfl rfl (ex_assign (hF.ev rfl)) ?_
 clear hF fa; intro fa hF
 refine c_nil_then ?_
 refine c_ret ?_
 have hlt := val_lt o hbo
 have hx0 := val_lt x hb_x
 rw [val_take_all (l := o) (by omega), val_take_all (l := y) (by omega), val_take_all (l := x) (by omega), show k = x.length by omega] at hv
 rw [ho] at hlt
 have hval := minus_end hx0 hv hle hlt
 refine end1 hF rfl (res_tmp hF rfl) ?_
 exact ⟨_, rfl, ⟨o, (UL.own (L := o) (hS.get 0 rfl) (hS.notX hX 0 rfl) (by omega) (by omega) (by omega) (rfl)), (hbo), (hval), (ho)⟩, hS.below⟩

end Go.Proofs.Ytlaojdpcfenlkaa
