/-
  What the functions subtract, restore do, each call by call.
  What the functions divide do, each call by call.
  Conditions: none.
-/
import Derived.Test.YtghlkihmnopenaaGreatDoorM7
import Derived.Test.YtghlkihmnopenaaGreatDoorChecked
set_option linter.all false
namespace Go.Proofs.YtghlkihmnopenaaGreatDoor
open Go Go.RowKit Go.Sw
set_option linter.unusedVariables false
set_option maxRecDepth 20000
namespace TfQ
theorem one62 : isOne Tryz.prog 62 = true := by kernel_rfl
theorem size62 : (Tryz.prog.info? 62).map (fun i => i.size) = some 1 := by kernel_rfl
theorem sl22 : sliceOf Tryz.prog 22 = some (62, 1) := by kernel_rfl
theorem sls22 : (sliceOf Tryz.prog 22).isSome = true := by kernel_rfl
theorem und62 : Tryz.prog.underlying 62 = some (TypeDesc.int .u32) := by kernel_rfl
theorem und75 : Tryz.prog.underlying 75 = some (TypeDesc.int .u64) := by kernel_rfl
theorem unds62 : (Tryz.prog.underlying 62).isSome = true := by kernel_rfl
theorem unds75 : (Tryz.prog.underlying 75).isSome = true := by kernel_rfl
end TfQ
set_option maxHeartbeats 4000000 in
theorem integer_subtract_ok {w0 w : World} {X : List Nat} {So : List Bx} {R : List Value} {g_U c_U : Nat} {U : List Nat} (hX : ∀ m ∈ X, m < w0.heap.size) (hS : St w0 w ((g_U, 62, (us U ++ R).toArray) :: So)) (k m : Nat) {v_v : Value} {v : List Nat} (h_v : UL w (g_U :: (bl So ++ X)) v_v (v)) (bw : Nat) (hU : U.length ≤ 1000000000000) (hkm : k + m ≤ U.length) (hvm : v.length ≤ m) (hb_U : Lb U) (hb_v : Lb v) (hbw : bw < 1000000000) :
    Calls Tryz.prog 121 #[(.slice (some ⟨g_U, k, none⟩) m c_U), v_v, (.int .u64 ((bw : Nat) : Int))] w (Ret fun r w' => ∃ o : List Nat, ∃ cy : Nat, r = .bool (decide (0 < cy)) ∧ o.length = U.length ∧ Lb o ∧ o.take k = U.take k ∧ o.drop (k + m) = U.drop (k + m) ∧ val (win o k m) + val v * bw = val (win U k m) + 1000000000 ^ m * cy ∧ St w0 w' ((g_U, 62, (us o ++ R).toArray) :: So) ∧ Ext w (g_U :: (bl So ++ X)) w' (g_U :: (bl So ++ X))) := by
 refine enter (N := 62) (fn := Tryz.f121) (vs := [(.slice (some ⟨g_U, k, none⟩) m c_U), v_v, (.int .u64 ((bw : Nat) : Int))]) Tryz.func121 rfl rfl rfl ?_
 intro fa hF
 obtain ⟨A_v, _, c_v, rfl, rfl, hu_v⟩ := h_v
 have hl_v := hu_v.len; have hc_v := hu_v.cap
 replace hF : Frm 62 fa [(0, (.slice (some ⟨g_U, k, none⟩) (m) (c_U))), (1, (.slice (A_v) (v.length) (c_v))), (2, (.int .u64 (((bw : Nat) : Int))))] := hF
 refine c_seq ?_
 refine c_reg ?_
 refine pr hF (pa rfl <| PR.nil) ?_
 clear hF fa; intro fa hF
 refine c_nil_then ?_
 refine c_seq ?_
 refine c_reg ?_
 refine pr hF (pa rfl <| pa rfl <| PR.nil) ?_
 clear hF fa; intro fa hF
 refine c_nil_then ?_
 refine c_seq ?_
 refine c_seq ?_
 refine c_reg ?_
 refine pr hF (pm rfl <| pg (fun _ hF => ex_len TfQ.sls22 (hF.ev rfl)) <| pm rfl <| PR.nil) ?_
 clear hF fa; intro fa hF
 refine c_nil_then ?_
 refine c_block ?_
 refine c_loop (fun mu fa w' => ∃ o : List Nat, ∃ cr : Nat, ∃ br : Nat, ∃ i : Nat, Frm 62 fa [(0, (.slice (some ⟨g_U, k, none⟩) (m) (c_U))), (1, (.slice (A_v) (v.length) (c_v))), (2, (.int .u64 (((bw : Nat) : Int)))), (6, (.bool (false))), (14, (.int .i64 (((m : Nat) : Int)))), (7, (.int .u64 (((cr : Nat) : Int)))), (8, (.int .u64 (((br : Nat) : Int)))), (15, (.int .i64 (((i : Nat) : Int))))] ∧ St w0 w' ([(g_U, 62, (us (o) ++ R).toArray)] ++ So) ∧ Ext w (g_U :: (bl So ++ X)) w' (g_U :: (bl So ++ X)) ∧ (i ≤ m) ∧ (o.length = U.length) ∧ (Lb o) ∧ (o.take k = U.take k) ∧ (o.drop (k + i) = U.drop (k + i)) ∧ (cr < 1000000000) ∧ (br ≤ 1) ∧ (val (win o k i) + val (v.take i) * bw = val (win U k i) + 1000000000 ^ i * (cr + br)) ∧ m - i = mu) ?_ ?_
 ·
  exact ⟨_, U, 0, 0, 0, (hF.all ⟨rfl, rfl, rfl, rfl, rfl, (lk_int rfl (by omega)), (lk_int rfl (by omega)), (lk_int rfl (by omega)), trivial⟩), hS, Ext.refl _ _, (by omega), (rfl), (hb_U), (rfl), (rfl), (by omega), (by omega), (by simp [win_zero, val]), rfl⟩
 clear hF fa; intro n0_ fa w' hI
 clear hS
 obtain ⟨o, cr, br, i, hF, hS, E2, hi, ho, hbo, htk, hdr, hcr, hbr, hv, rfl⟩ := hI
 rename World => w1
 have hox := drop_getD hdr
 have hoi := hbo.getD (k + i); have hvi := hb_v.getD i
 have hgn := fun h => getD_none (l := v) (k := i) h
 have hmul : v.getD i 0 * bw ≤ 999999999 * 999999999 := Nat.mul_le_mul (by omega) (by omega)
 refine c_seq ?_
 refine c_reg ?_
 refine pr hF (pg (fun _ hF => ex_lss (hF.ev rfl) (hF.ev rfl)) <| PR.nil) ?_
 clear hF fa; intro fa hF
 refine c_nil_then ?_
 refine c_seq ?_
 refine c_cond hF rfl (fun hc3 => ?_) (fun hc3 => ?_)
 ·
  have hc3p : ((i : Nat) : Int) < ((m : Nat) : Int) := by first | simpa using hc3 | exact bang_t hc3 | exact bang_f hc3
  refine c_skip ?_
  refine x_tn ?_
  refine c_seq ?_
  refine c_block ?_
  refine c_seq ?_
  refine c_reg ?_
  refine pr hF (pm rfl <| pa rfl <| PR.nil) ?_
  clear hF fa; intro fa hF
  refine c_nil_then ?_
  refine c_seq ?_
  refine c_reg ?_
  refine pr hF (pm rfl <| pa rfl <| PR.nil) ?_
  clear hF fa; intro fa hF
  refine c_nil_then ?_
  refine c_seq ?_
  refine c_seq ?_
  refine c_reg ?_
  refine pr hF (pm rfl <| pm rfl <| pg (fun _ hF => ex_len TfQ.sls22 (hF.ev rfl)) <| pg (fun _ hF => ex_lss (hF.ev rfl) (hF.ev rfl)) <| PR.nil) ?_
  clear hF fa; intro fa hF
  refine c_nil_then ?_
  refine c_cond hF rfl (fun hc4 => ?_) (fun hc4 => ?_)
  ·
   have hc4p : ((i : Nat) : Int) < ((v.length : Nat) : Int) := by first | simpa using hc4 | exact bang_t hc4 | exact bang_f hc4
   refine c_reg ?_
   refine pr hF (pm rfl <| pm rfl <| pm rfl <| PR.nil) ?_
   clear hF fa; intro fa hF
   obtain ⟨ad5, hA6, hq7⟩ := (hu_v.ext E2).cl.at_ (us_get (l := v) (i := i) (by omega))
   refine pr hF (pg (fun _ hF => ex_idx (j := i) TfQ.sl22 (hF.ev rfl) hA6 (hF.ev rfl) (by omega) (by omega)) <| pg (fun _ hF => ex_load1 TfQ.one62 (hF.ev rfl) hq7) <| pg (fun _ hF => ex_conv TfQ.unds62 TfQ.und75 (hF.ev rfl) (wu64n (by omega))) <| pm rfl <| pg (fun _ hF => ex_mul (hF.ev rfl) (hF.ev rfl) vu64) <| pg (fun _ hF => ex_add (hF.ev rfl) (hF.ev rfl) vu64) <| pa rfl <| PR.nil) ?_
   clear hF fa; intro fa hF
   replace hF : Frm 62 fa [(0, (.slice (some ⟨g_U, k, none⟩) (m) (c_U))), (1, (.slice (A_v) (v.length) (c_v))), (2, (.int .u64 (((bw : Nat) : Int)))), (6, (.bool (false))), (14, (.int .i64 (((m : Nat) : Int)))), (7, (.int .u64 (((cr : Nat) : Int)))), (8, (.int .u64 (((br : Nat) : Int)))), (15, (.int .i64 (((i : Nat) : Int)))), (16, (.bool (decide (((i : Nat) : Int) < ((m : Nat) : Int))))), (9, (.int .i64 (((i : Nat) : Int)))), (10, (.int .u64 (((cr : Nat) : Int) + (((v.getD (i) 0 : Nat) : Int) * ((bw : Nat) : Int))))), (22, (.bool (decide (((i : Nat) : Int) < ((v.length : Nat) : Int)))))] := (hF.all ⟨rfl, rfl, rfl, rfl, rfl, rfl, rfl, rfl, rfl, rfl, rfl, rfl, trivial⟩)
   refine c_nil_then ?_
   refine c_seq ?_
   refine c_reg ?_
   refine pr hF (pm rfl <| pg (fun _ hF => ex_quo (hF.ev rfl) (hF.ev rfl) (by omega) (q_u64 (x := cr + ((v.getD (i) 0) * bw)) (y := 1000000000) (by omega) (by omega) (by omega))) <| pa rfl <| PR.nil) ?_
   clear hF fa; intro fa hF
   refine c_nil_then ?_
   refine c_seq ?_
   refine c_reg ?_
   refine pr hF (pm rfl <| pg (fun _ hF => ex_rem (hF.ev rfl) (hF.ev rfl) (by omega) (r_any (x := cr + ((v.getD (i) 0) * bw)) (y := 1000000000) (by omega) (by omega))) <| pm rfl <| pg (fun _ hF => ex_add (hF.ev rfl) (hF.ev rfl) vu64) <| pa rfl <| PR.nil) ?_
   clear hF fa; intro fa hF
   refine c_nil_then ?_
   refine c_seq ?_
   refine c_reg ?_
   refine pr hF (pa rfl <| PR.nil) ?_
   clear hF fa; intro fa hF
   refine c_nil_then ?_
   refine c_seq ?_
   refine c_reg ?_
   refine pr hF (pm rfl <| pm rfl <| pg (fun _ hF => ex_idxw (o := k) (j := i) TfQ.sl22 (hF.ev rfl) (hF.ev rfl) (by omega) (by omega)) <| pg (fun _ hF => ex_load1b TfQ.one62 (hF.ev rfl) (hS.get 0 rfl) (us_arr2 (by first | omega | (simp; omega)))) <| pg (fun _ hF => ex_conv TfQ.unds62 TfQ.und75 (hF.ev rfl) (wu64n (by omega))) <| pa rfl <| PR.nil) ?_
   clear hF fa; intro fa hF
   refine c_nil_then ?_
   refine c_seq ?_
   refine c_seq ?_
   refine c_reg ?_
   refine pr hF (pm rfl <| pm rfl <| pg (fun _ hF => ex_lss (hF.ev rfl) (hF.ev rfl)) <| PR.nil) ?_
   clear hF fa; intro fa hF
   replace hF : Frm 62 fa [(0, (.slice (some ⟨g_U, k, none⟩) (m) (c_U))), (1, (.slice (A_v) (v.length) (c_v))), (2, (.int .u64 (((bw : Nat) : Int)))), (6, (.bool (false))), (14, (.int .i64 (((m : Nat) : Int)))), (7, (.int .u64 ((((cr + ((v.getD (i) 0) * bw)) / 1000000000 : Nat) : Int)))), (8, (.int .u64 (0))), (15, (.int .i64 (((i : Nat) : Int)))), (16, (.bool (decide (((i : Nat) : Int) < ((m : Nat) : Int))))), (9, (.int .i64 (((i : Nat) : Int)))), (10, (.int .u64 (((cr : Nat) : Int) + (((v.getD (i) 0 : Nat) : Int) * ((bw : Nat) : Int))))), (22, (.bool (decide (((i : Nat) : Int) < ((v.length : Nat) : Int))))), (11, (.int .u64 ((((cr + ((v.getD (i) 0) * bw)) % 1000000000 : Nat) : Int) + ((br : Nat) : Int)))), (12, (.int .u64 (((o.getD (k + i) 0 : Nat) : Int)))), (45, (.bool (decide (((o.getD (k + i) 0 : Nat) : Int) < ((((cr + ((v.getD (i) 0) * bw)) % 1000000000 : Nat) : Int) + ((br : Nat) : Int))))))] := (hF.all ⟨rfl, rfl, rfl, rfl, rfl, rfl, rfl, rfl, rfl, rfl, rfl, rfl, rfl, rfl, rfl, trivial⟩)
   refine c_nil_then ?_
   refine c_cond hF rfl (fun hc8 => ?_) (fun hc8 => ?_)
   ·
    have hc8p : ((o.getD (k + i) 0 : Nat) : Int) < ((((cr + ((v.getD (i) 0) * bw)) % 1000000000 : Nat) : Int) + ((br : Nat) : Int)) := by first | simpa using hc8 | exact bang_t hc8 | exact bang_f hc8
    refine c_reg ?_
    refine pr hF (pm rfl <| pg (fun _ hF => ex_add (hF.ev rfl) (hF.ev rfl) vu64) <| pa rfl <| pa rfl <| PR.nil) ?_
    clear hF fa; intro fa hF
    refine c_nil_then ?_
    refine c_reg ?_
    refine pr hF (pm rfl <| pm rfl <| pm rfl <| pm rfl <| pg (fun _ hF => ex_sub (hF.ev rfl) (hF.ev rfl) vu64) <| pg (fun _ hF => ex_conv TfQ.unds75 TfQ.und62 (hF.ev rfl) vu32) <| pg (fun _ hF => ex_idxw (o := k) (j := i) TfQ.sl22 (hF.ev rfl) (hF.ev rfl) (by omega) (by omega)) <| PR.nil) ?_
    clear hF fa; intro fa hF
    refine st rfl (op_store (vs := #[.int .u32 ((((o.getD (k + i) 0) + 1000000000) - (((cr + ((v.getD (i) 0) * bw)) % 1000000000) + br) : Nat) : Int)]) (v := .int .u32 ((((o.getD (k + i) 0) + 1000000000) - (((cr + ((v.getD (i) 0) * bw)) % 1000000000) + br) : Nat) : Int)) (X := (g_U :: (bl So ++ X))) hF hS 0 rfl (by simp) rfl (ev_int rfl (by omega)) rfl TfQ.size62 rfl (us_fit2 (by first | omega | (simp; omega))) ?_)
    intro w9 hS E10
    rw [splice_us2 (by first | omega | (simp; omega))] at hS
    refine c_nil ?_
    refine x_bn ?_
    refine x_tn ?_
    refine c_reg ?_
    refine pr hF (pg (fun _ hF => ex_add (hF.ev rfl) (hF.ev rfl) vi64) <| pm rfl <| PR.nil) ?_
    clear hF fa; intro fa hF
    refine c_nil ?_
    refine x_tn ?_
    exact ⟨_, (by omega), o.set (k + i) (((o.getD (k + i) 0) + 1000000000) - (((cr + ((v.getD (i) 0) * bw)) % 1000000000) + br)), (cr + ((v.getD (i) 0) * bw)) / 1000000000, 1, (i + 1), (hF.all ⟨rfl, rfl, rfl, rfl, rfl, (lk_int rfl (by omega)), (lk_int rfl (by omega)), (lk_int rfl (by omega)), trivial⟩), hS, (E2.trans E10), (by omega), (by simp; omega), (lb_set hbo (by omega)), (by rw [set_take]; exact htk), (by rw [set_drop]; exact drop_next hdr), (by omega), (by omega), (sub_step (x := o.getD (k + i) 0) (by omega) hv hox.symm (by first | rfl | (rw [hgn (by omega)]; omega)) (by omega)), rfl⟩
   have hc8p : ¬ (((o.getD (k + i) 0 : Nat) : Int) < ((((cr + ((v.getD (i) 0) * bw)) % 1000000000 : Nat) : Int) + ((br : Nat) : Int))) := by first | simpa using hc8 | exact bang_t hc8 | exact bang_f hc8
   refine c_skip ?_
   refine x_tn ?_
   refine c_reg ?_
   refine pr hF (pm rfl <| pm rfl <| pm rfl <| pm rfl <| pg (fun _ hF => ex_sub (hF.ev rfl) (hF.ev rfl) vu64) <| pg (fun _ hF => ex_conv TfQ.unds75 TfQ.und62 (hF.ev rfl) vu32) <| pg (fun _ hF => ex_idxw (o := k) (j := i) TfQ.sl22 (hF.ev rfl) (hF.ev rfl) (by omega) (by omega)) <| PR.nil) ?_
   clear hF fa; intro fa hF
   refine st rfl (op_store (vs := #[.int .u32 (((o.getD (k + i) 0) - (((cr + ((v.getD (i) 0) * bw)) % 1000000000) + br) : Nat) : Int)]) (v := .int .u32 (((o.getD (k + i) 0) - (((cr + ((v.getD (i) 0) * bw)) % 1000000000) + br) : Nat) : Int)) (X := (g_U :: (bl So ++ X))) hF hS 0 rfl (by simp) rfl (ev_int rfl (by omega)) rfl TfQ.size62 rfl (us_fit2 (by first | omega | (simp; omega))) ?_)
   intro w11 hS E12
   rw [splice_us2 (by first | omega | (simp; omega))] at hS
   refine c_nil ?_
   refine x_bn ?_
   refine x_tn ?_
   refine c_reg ?_
   refine pr hF (pg (fun _ hF => ex_add (hF.ev rfl) (hF.ev rfl) vi64) <| pm rfl <| PR.nil) ?_
   clear hF fa; intro fa hF
   refine c_nil ?_
   refine x_tn ?_
   exact ⟨_, (by omega), o.set (k + i) ((o.getD (k + i) 0) - (((cr + ((v.getD (i) 0) * bw)) % 1000000000) + br)), (cr + ((v.getD (i) 0) * bw)) / 1000000000, 0, (i + 1), (hF.all ⟨rfl, rfl, rfl, rfl, rfl, (lk_int rfl (by omega)), (lk_int rfl (by omega)), (lk_int rfl (by omega)), trivial⟩), hS, (E2.trans E12), (by omega), (by simp; omega), (lb_set hbo (by omega)), (by rw [set_take]; exact htk), (by rw [set_drop]; exact drop_next hdr), (by omega), (by omega), (sub_step (x := o.getD (k + i) 0) (by omega) hv hox.symm (by first | rfl | (rw [hgn (by omega)]; omega)) (by omega)), rfl⟩
  have hc4p : ¬ (((i : Nat) : Int) < ((v.length : Nat) : Int)) := by first | simpa using hc4 | exact bang_t hc4 | exact bang_f hc4
  refine c_skip ?_
  refine x_tn ?_
  refine c_seq ?_
  refine c_reg ?_
  refine pr hF (pm rfl <| pg (fun _ hF => ex_quo (hF.ev rfl) (hF.ev rfl) (by omega) (q_u64 (x := cr) (y := 1000000000) (by omega) (by omega) (by omega))) <| pa rfl <| PR.nil) ?_
  clear hF fa; intro fa hF
  refine c_nil_then ?_
  refine c_seq ?_
  refine c_reg ?_
  refine pr hF (pm rfl <| pg (fun _ hF => ex_rem (hF.ev rfl) (hF.ev rfl) (by omega) (r_any (x := cr) (y := 1000000000) (by omega) (by omega))) <| pm rfl <| pg (fun _ hF => ex_add (hF.ev rfl) (hF.ev rfl) vu64) <| pa rfl <| PR.nil) ?_
  clear hF fa; intro fa hF
  replace hF : Frm 62 fa [(0, (.slice (some ⟨g_U, k, none⟩) (m) (c_U))), (1, (.slice (A_v) (v.length) (c_v))), (2, (.int .u64 (((bw : Nat) : Int)))), (6, (.bool (false))), (14, (.int .i64 (((m : Nat) : Int)))), (7, (.int .u64 (((cr / 1000000000 : Nat) : Int)))), (8, (.int .u64 (((br : Nat) : Int)))), (15, (.int .i64 (((i : Nat) : Int)))), (16, (.bool (decide (((i : Nat) : Int) < ((m : Nat) : Int))))), (9, (.int .i64 (((i : Nat) : Int)))), (10, (.int .u64 (((cr : Nat) : Int)))), (22, (.bool (decide (((i : Nat) : Int) < ((v.length : Nat) : Int))))), (11, (.int .u64 (((cr % 1000000000 : Nat) : Int) + ((br : Nat) : Int))))] := (hF.all ⟨rfl, rfl, rfl, rfl, rfl, rfl, rfl, rfl, rfl, rfl, rfl, rfl, rfl, trivial⟩)
  refine c_nil_then ?_
  refine c_seq ?_
  refine c_reg ?_
  refine pr hF (pa rfl <| PR.nil) ?_
  clear hF fa; intro fa hF
  refine c_nil_then ?_
  refine c_seq ?_
  refine c_reg ?_
  refine pr hF (pm rfl <| pm rfl <| pg (fun _ hF => ex_idxw (o := k) (j := i) TfQ.sl22 (hF.ev rfl) (hF.ev rfl) (by omega) (by omega)) <| pg (fun _ hF => ex_load1b TfQ.one62 (hF.ev rfl) (hS.get 0 rfl) (us_arr2 (by first | omega | (simp; omega)))) <| pg (fun _ hF => ex_conv TfQ.unds62 TfQ.und75 (hF.ev rfl) (wu64n (by omega))) <| pa rfl <| PR.nil) ?_
  clear hF fa; intro fa hF
  refine c_nil_then ?_
  refine c_seq ?_
  refine c_seq ?_
  refine c_reg ?_
  refine pr hF (pm rfl <| pm rfl <| pg (fun _ hF => ex_lss (hF.ev rfl) (hF.ev rfl)) <| PR.nil) ?_
  clear hF fa; intro fa hF
  refine c_nil_then ?_
  refine c_cond hF rfl (fun hc13 => ?_) (fun hc13 => ?_)
  ·
   have hc13p : ((o.getD (k + i) 0 : Nat) : Int) < (((cr % 1000000000 : Nat) : Int) + ((br : Nat) : Int)) := by first | simpa using hc13 | exact bang_t hc13 | exact bang_f hc13
   refine c_reg ?_
   refine pr hF (pm rfl <| pg (fun _ hF => ex_add (hF.ev rfl) (hF.ev rfl) vu64) <| pa rfl <| pa rfl <| PR.nil) ?_
   clear hF fa; intro fa hF
   refine c_nil_then ?_
   refine c_reg ?_
   refine pr hF (pm rfl <| pm rfl <| pm rfl <| pm rfl <| pg (fun _ hF => ex_sub (hF.ev rfl) (hF.ev rfl) vu64) <| pg (fun _ hF => ex_conv TfQ.unds75 TfQ.und62 (hF.ev rfl) vu32) <| pg (fun _ hF => ex_idxw (o := k) (j := i) TfQ.sl22 (hF.ev rfl) (hF.ev rfl) (by omega) (by omega)) <| PR.nil) ?_
   clear hF fa; intro fa hF
   refine st rfl (op_store (vs := #[.int .u32 ((((o.getD (k + i) 0) + 1000000000) - ((cr % 1000000000) + br) : Nat) : Int)]) (v := .int .u32 ((((o.getD (k + i) 0) + 1000000000) - ((cr % 1000000000) + br) : Nat) : Int)) (X := (g_U :: (bl So ++ X))) hF hS 0 rfl (by simp) rfl (ev_int rfl (by omega)) rfl TfQ.size62 rfl (us_fit2 (by first | omega | (simp; omega))) ?_)
   intro w14 hS E15
   rw [splice_us2 (by first | omega | (simp; omega))] at hS
   replace hF : Frm 62 fa [(0, (.slice (some ⟨g_U, k, none⟩) (m) (c_U))), (1, (.slice (A_v) (v.length) (c_v))), (2, (.int .u64 (((bw : Nat) : Int)))), (6, (.bool (false))), (14, (.int .i64 (((m : Nat) : Int)))), (7, (.int .u64 (((cr / 1000000000 : Nat) : Int)))), (8, (.int .u64 (1))), (15, (.int .i64 (((i : Nat) : Int)))), (16, (.bool (decide (((i : Nat) : Int) < ((m : Nat) : Int))))), (9, (.int .i64 (((i : Nat) : Int)))), (10, (.int .u64 (((cr : Nat) : Int)))), (22, (.bool (decide (((i : Nat) : Int) < ((v.length : Nat) : Int))))), (11, (.int .u64 (((cr % 1000000000 : Nat) : Int) + ((br : Nat) : Int)))), (12, (.int .u64 (((o.getD (k + i) 0 : Nat) : Int) + 1000000000))), (45, (.bool (decide (((o.getD (k + i) 0 : Nat) : Int) < (((cr % 1000000000 : Nat) : Int) + ((br : Nat) : Int))))))] := (hF.all ⟨rfl, rfl, rfl, rfl, rfl, rfl, rfl, rfl, rfl, rfl, rfl, rfl, rfl, rfl, rfl, trivial⟩)
   refine c_nil ?_
   refine x_bn ?_
   refine x_tn ?_
   refine c_reg ?_
   refine pr hF (pg (fun _ hF => ex_add (hF.ev rfl) (hF.ev rfl) vi64) <| pm rfl <| PR.nil) ?_
   clear hF fa; intro fa hF
   refine c_nil ?_
   refine x_tn ?_
   exact ⟨_, (by omega), o.set (k + i) (((o.getD (k + i) 0) + 1000000000) - ((cr % 1000000000) + br)), cr / 1000000000, 1, (i + 1), (hF.all ⟨rfl, rfl, rfl, rfl, rfl, (lk_int rfl (by omega)), (lk_int rfl (by omega)), (lk_int rfl (by omega)), trivial⟩), hS, (E2.trans E15), (by omega), (by simp; omega), (lb_set hbo (by omega)), (by rw [set_take]; exact htk), (by rw [set_drop]; exact drop_next hdr), (by omega), (by omega), (sub_step (x := o.getD (k + i) 0) (by omega) hv hox.symm (by first | rfl | (rw [hgn (by omega)]; omega)) (by omega)), rfl⟩
  have hc13p : ¬ (((o.getD (k + i) 0 : Nat) : Int) < (((cr % 1000000000 : Nat) : Int) + ((br : Nat) : Int))) := by first | simpa using hc13 | exact bang_t hc13 | exact bang_f hc13
  refine c_skip ?_
  refine x_tn ?_
  refine c_reg ?_
  refine pr hF (pm rfl <| pm rfl <| pm rfl <| pm rfl <| pg (fun _ hF => ex_sub (hF.ev rfl) (hF.ev rfl) vu64) <| pg (fun _ hF => ex_conv TfQ.unds75 TfQ.und62 (hF.ev rfl) vu32) <| pg (fun _ hF => ex_idxw (o := k) (j := i) TfQ.sl22 (hF.ev rfl) (hF.ev rfl) (by omega) (by omega)) <| PR.nil) ?_
  clear hF fa; intro fa hF
  refine st rfl (op_store (vs := #[.int .u32 (((o.getD (k + i) 0) - ((cr % 1000000000) + br) : Nat) : Int)]) (v := .int .u32 (((o.getD (k + i) 0) - ((cr % 1000000000) + br) : Nat) : Int)) (X := (g_U :: (bl So ++ X))) hF hS 0 rfl (by simp) rfl (ev_int rfl (by omega)) rfl TfQ.size62 rfl (us_fit2 (by first | omega | (simp; omega))) ?_)
  intro w16 hS E17
  rw [splice_us2 (by first | omega | (simp; omega))] at hS
  replace hF : Frm 62 fa [(0, (.slice (some ⟨g_U, k, none⟩) (m) (c_U))), (1, (.slice (A_v) (v.length) (c_v))), (2, (.int .u64 (((bw : Nat) : Int)))), (6, (.bool (false))), (14, (.int .i64 (((m : Nat) : Int)))), (7, (.int .u64 (((cr / 1000000000 : Nat) : Int)))), (8, (.int .u64 (0))), (15, (.int .i64 (((i : Nat) : Int)))), (16, (.bool (decide (((i : Nat) : Int) < ((m : Nat) : Int))))), (9, (.int .i64 (((i : Nat) : Int)))), (10, (.int .u64 (((cr : Nat) : Int)))), (22, (.bool (decide (((i : Nat) : Int) < ((v.length : Nat) : Int))))), (11, (.int .u64 (((cr % 1000000000 : Nat) : Int) + ((br : Nat) : Int)))), (12, (.int .u64 (((o.getD (k + i) 0 : Nat) : Int)))), (45, (.bool (decide (((o.getD (k + i) 0 : Nat) : Int) < (((cr % 1000000000 : Nat) : Int) + ((br : Nat) : Int))))))] := (hF.all ⟨rfl, rfl, rfl, rfl, rfl, rfl, rfl, rfl, rfl, rfl, rfl, rfl, rfl, rfl, rfl, trivial⟩)
  refine c_nil ?_
  refine x_bn ?_
  refine x_tn ?_
  refine c_reg ?_
  refine pr hF (pg (fun _ hF => ex_add (hF.ev rfl) (hF.ev rfl) vi64) <| pm rfl <| PR.nil) ?_
  clear hF fa; intro fa hF
  refine c_nil ?_
  refine x_tn ?_
  exact ⟨_, (by omega), o.set (k + i) ((o.getD (k + i) 0) - ((cr % 1000000000) + br)), cr / 1000000000, 0, (i + 1), (hF.all ⟨rfl, rfl, rfl, rfl, rfl, (lk_int rfl (by omega)), (lk_int rfl (by omega)), (lk_int rfl (by omega)), trivial⟩), hS, (E2.trans E17), (by omega), (by simp; omega), (lb_set hbo (by omega)), (by rw [set_take]; exact htk), (by rw [set_drop]; exact drop_next hdr), (by omega), (by omega), (sub_step (x := o.getD (k + i) 0) (by omega) hv hox.symm (by first | rfl | (rw [hgn (by omega)]; omega)) (by omega)), rfl⟩
 have hc3p : ¬ (((i : Nat) : Int) < ((m : Nat) : Int)) := by first | simpa using hc3 | exact bang_t hc3 | exact bang_f hc3
 refine c_exit ?_
 refine x_te ?_
 refine x_te ?_
 refine x_bh ?_
 refine x_tn ?_
 refine c_seq ?_
 refine c_reg ?_
 refine pr hF (pm rfl <| pg (fun _ hF => ex_gtr (hF.ev rfl) (hF.ev rfl)) <| pm rfl <| PR.nil) ?_
 clear hF fa; intro fa hF
 rcases Bool.eq_false_or_eq_true (decide (((br : Nat) : Int) > 0)) with hg18 | hg18
 ·
  replace hF := hF.cons (t := 58) (v := .bool true) ((hF.get 58 _ rfl).trans (congrArg Value.bool hg18))
  have hg18p : ((br : Nat) : Int) > 0 := by simpa using hg18
  refine pr hF (psk rfl rfl <| psk rfl rfl <| pg (fun _ hF => ex_pick (hF.ev rfl) (fun _ => hF.ev rfl) (v := undef) (fun h => by cases h) rfl) <| pa rfl <| PR.nil) ?_
  clear hF fa; intro fa hF
  refine c_nil_then ?_
  refine c_ret ?_
  refine end1 hF rfl (res_tmp hF rfl) ?_
  exact ⟨_, rfl, o, (cr + br), (congrArg Value.bool (by symm; rw [decide_eq_true_eq]; omega)), (ho), (hbo), (htk), (by rw [show m = i by omega]; exact hdr), (by have h1 := hv; rw [val_take_all (l := v) (by omega), show i = m by omega] at h1; exact h1), hS, E2⟩
 replace hF := hF.cons (t := 58) (v := .bool false) ((hF.get 58 _ rfl).trans (congrArg Value.bool hg18))
 have hg18p : ¬ (((br : Nat) : Int) > 0) := by simpa using hg18
 refine pr hF (pgg (fun _ hF => ex_move (hF.ev rfl)) <| pgg (fun _ hF => ex_gtr (hF.ev rfl) (hF.ev rfl)) <| pg (fun _ hF => ex_pick (hF.ev rfl) (u := undef) (fun h => by cases h) (fun _ => hF.ev rfl) rfl) <| pa rfl <| PR.nil) ?_
 clear hF fa; intro fa hF
 refine c_nil_then ?_
 refine c_ret ?_
 refine end1 hF rfl (res_tmp hF rfl) ?_
 exact ⟨_, rfl, o, (cr + br), (congrArg Value.bool (by rw [decide_eq_decide]; omega)), (ho), (hbo), (htk), (by rw [show m = i by omega]; exact hdr), (by have h1 := hv; rw [val_take_all (l := v) (by omega), show i = m by omega] at h1; exact h1), hS, E2⟩

set_option maxHeartbeats 4000000 in
theorem integer_restore_ok {w0 w : World} {X : List Nat} {So : List Bx} {R : List Value} {g_U c_U : Nat} {U : List Nat} (hX : ∀ m ∈ X, m < w0.heap.size) (hS : St w0 w ((g_U, 62, (us U ++ R).toArray) :: So)) (k m : Nat) {v_v : Value} {v : List Nat} (h_v : UL w (g_U :: (bl So ++ X)) v_v (v)) (hU : U.length ≤ 1000000000000) (hkm : k + m ≤ U.length) (hvm : v.length ≤ m) (hb_U : Lb U) (hb_v : Lb v) :
    Calls Tryz.prog 122 #[(.slice (some ⟨g_U, k, none⟩) m c_U), v_v] w (Ret fun r w' => ∃ o : List Nat, ∃ cy : Nat, r = .tuple #[] ∧ o.length = U.length ∧ Lb o ∧ o.take k = U.take k ∧ o.drop (k + m) = U.drop (k + m) ∧ val (win o k m) + 1000000000 ^ m * cy = val (win U k m) + val v ∧ cy ≤ 1 ∧ St w0 w' ((g_U, 62, (us o ++ R).toArray) :: So) ∧ Ext w (g_U :: (bl So ++ X)) w' (g_U :: (bl So ++ X))) := by
 refine enter (N := 37) (fn := Tryz.f122) (vs := [(.slice (some ⟨g_U, k, none⟩) m c_U), v_v]) Tryz.func122 rfl rfl rfl ?_
 intro fa hF
 obtain ⟨A_v, _, c_v, rfl, rfl, hu_v⟩ := h_v
 have hl_v := hu_v.len; have hc_v := hu_v.cap
 replace hF : Frm 37 fa [(0, (.slice (some ⟨g_U, k, none⟩) (m) (c_U))), (1, (.slice (A_v) (v.length) (c_v)))] := hF
 refine c_seq ?_
 refine c_reg ?_
 refine pr hF (pa rfl <| PR.nil) ?_
 clear hF fa; intro fa hF
 refine c_nil_then ?_
 refine c_seq ?_
 refine c_reg ?_
 refine pr hF (pm rfl <| pg (fun _ hF => ex_len TfQ.sls22 (hF.ev rfl)) <| pm rfl <| PR.nil) ?_
 clear hF fa; intro fa hF
 refine c_nil_then ?_
 refine c_block ?_
 refine c_loop (fun mu fa w' => ∃ o : List Nat, ∃ cr : Nat, ∃ i : Nat, Frm 37 fa [(0, (.slice (some ⟨g_U, k, none⟩) (m) (c_U))), (1, (.slice (A_v) (v.length) (c_v))), (8, (.int .i64 (((m : Nat) : Int)))), (4, (.int .u32 (((cr : Nat) : Int)))), (9, (.int .i64 (((i : Nat) : Int))))] ∧ St w0 w' ([(g_U, 62, (us (o) ++ R).toArray)] ++ So) ∧ Ext w (g_U :: (bl So ++ X)) w' (g_U :: (bl So ++ X)) ∧ (i ≤ m) ∧ (o.length = U.length) ∧ (Lb o) ∧ (o.take k = U.take k) ∧ (o.drop (k + i) = U.drop (k + i)) ∧ (cr ≤ 1) ∧ (val (win o k i) + 1000000000 ^ i * cr = val (win U k i) + val (v.take i)) ∧ m - i = mu) ?_ ?_
 ·
  exact ⟨_, U, 0, 0, (hF.all ⟨rfl, rfl, rfl, (lk_int rfl (by omega)), (lk_int rfl (by omega)), trivial⟩), hS, Ext.refl _ _, (by omega), (rfl), (hb_U), (rfl), (rfl), (by omega), (by simp [win_zero, val]), rfl⟩
 clear hF fa; intro n0_ fa w' hI
 clear hS
 obtain ⟨o, cr, i, hF, hS, E2, hi, ho, hbo, htk, hdr, hcr, hv, rfl⟩ := hI
 rename World => w1
 have hox := drop_getD hdr
 have hoi := hbo.getD (k + i); have hvi := hb_v.getD i
 have hgn := fun h => getD_none (l := v) (k := i) h
 refine c_seq ?_
 refine c_reg ?_
 refine pr hF (pg (fun _ hF => ex_lss (hF.ev rfl) (hF.ev rfl)) <| PR.nil) ?_
 clear hF fa; intro fa hF
 refine c_nil_then ?_
 refine c_seq ?_
 refine c_cond hF rfl (fun hc3 => ?_) (fun hc3 => ?_)
 ·
  have hc3p : ((i : Nat) : Int) < ((m : Nat) : Int) := by first | simpa using hc3 | exact bang_t hc3 | exact bang_f hc3
  refine c_skip ?_
  refine x_tn ?_
  refine c_seq ?_
  refine c_block ?_
  refine c_seq ?_
  refine c_reg ?_
  refine pr hF (pm rfl <| pa rfl <| PR.nil) ?_
  clear hF fa; intro fa hF
  refine c_nil_then ?_
  refine c_seq ?_
  refine c_reg ?_
  refine pr hF (pm rfl <| pm rfl <| pg (fun _ hF => ex_idxw (o := k) (j := i) TfQ.sl22 (hF.ev rfl) (hF.ev rfl) (by omega) (by omega)) <| pg (fun _ hF => ex_load1b TfQ.one62 (hF.ev rfl) (hS.get 0 rfl) (us_arr2 (by first | omega | (simp; omega)))) <| pm rfl <| pg (fun _ hF => ex_add (hF.ev rfl) (hF.ev rfl) vu32) <| pa rfl <| PR.nil) ?_
  clear hF fa; intro fa hF
  refine c_nil_then ?_
  refine c_seq ?_
  refine c_seq ?_
  refine c_reg ?_
  refine pr hF (pm rfl <| pm rfl <| pg (fun _ hF => ex_len TfQ.sls22 (hF.ev rfl)) <| pg (fun _ hF => ex_lss (hF.ev rfl) (hF.ev rfl)) <| PR.nil) ?_
  clear hF fa; intro fa hF
  refine c_nil_then ?_
  refine c_cond hF rfl (fun hc4 => ?_) (fun hc4 => ?_)
  ·
   have hc4p : ((i : Nat) : Int) < ((v.length : Nat) : Int) := by first | simpa using hc4 | exact bang_t hc4 | exact bang_f hc4
   refine c_reg ?_
   refine pr hF (pm rfl <| pm rfl <| pm rfl <| PR.nil) ?_
   clear hF fa; intro fa hF
   obtain ⟨ad5, hA6, hq7⟩ := (hu_v.ext E2).cl.at_ (us_get (l := v) (i := i) (by omega))
   refine pr hF (pg (fun _ hF => ex_idx (j := i) TfQ.sl22 (hF.ev rfl) hA6 (hF.ev rfl) (by omega) (by omega)) <| pg (fun _ hF => ex_load1 TfQ.one62 (hF.ev rfl) hq7) <| pg (fun _ hF => ex_add (hF.ev rfl) (hF.ev rfl) vu32) <| pa rfl <| PR.nil) ?_
   clear hF fa; intro fa hF
   replace hF : Frm 37 fa [(0, (.slice (some ⟨g_U, k, none⟩) (m) (c_U))), (1, (.slice (A_v) (v.length) (c_v))), (8, (.int .i64 (((m : Nat) : Int)))), (4, (.int .u32 (((cr : Nat) : Int)))), (9, (.int .i64 (((i : Nat) : Int)))), (10, (.bool (decide (((i : Nat) : Int) < ((m : Nat) : Int))))), (5, (.int .i64 (((i : Nat) : Int)))), (6, (.int .u32 ((((o.getD (k + i) 0 : Nat) : Int) + ((cr : Nat) : Int)) + ((v.getD (i) 0 : Nat) : Int)))), (21, (.bool (decide (((i : Nat) : Int) < ((v.length : Nat) : Int)))))] := (hF.all ⟨rfl, rfl, rfl, rfl, rfl, rfl, rfl, rfl, rfl, trivial⟩)
   refine c_nil_then ?_
   refine c_seq ?_
   refine c_reg ?_
   refine pr hF (pa rfl <| PR.nil) ?_
   clear hF fa; intro fa hF
   refine c_nil_then ?_
   refine c_seq ?_
   refine c_seq ?_
   refine c_reg ?_
   refine pr hF (pm rfl <| pg (fun _ hF => ex_geq (hF.ev rfl) (hF.ev rfl)) <| PR.nil) ?_
   clear hF fa; intro fa hF
   refine c_nil_then ?_
   refine c_cond hF rfl (fun hc8 => ?_) (fun hc8 => ?_)
   ·
    have hc8p : ((((o.getD (k + i) 0 : Nat) : Int) + ((cr : Nat) : Int)) + ((v.getD (i) 0 : Nat) : Int)) ≥ 1000000000 := by first | simpa using hc8 | exact bang_t hc8 | exact bang_f hc8
    refine c_reg ?_
    refine pr hF (pm rfl <| pg (fun _ hF => ex_sub (hF.ev rfl) (hF.ev rfl) vu32) <| pa rfl <| pa rfl <| PR.nil) ?_
    clear hF fa; intro fa hF
    refine c_nil_then ?_
    refine c_reg ?_
    refine pr hF (pm rfl <| pm rfl <| pm rfl <| pg (fun _ hF => ex_idxw (o := k) (j := i) TfQ.sl22 (hF.ev rfl) (hF.ev rfl) (by omega) (by omega)) <| PR.nil) ?_
    clear hF fa; intro fa hF
    refine st rfl (op_store (vs := #[.int .u32 (((((o.getD (k + i) 0) + cr) + (v.getD (i) 0)) - 1000000000 : Nat) : Int)]) (v := .int .u32 (((((o.getD (k + i) 0) + cr) + (v.getD (i) 0)) - 1000000000 : Nat) : Int)) (X := (g_U :: (bl So ++ X))) hF hS 0 rfl (by simp) rfl (ev_int rfl (by omega)) rfl TfQ.size62 rfl (us_fit2 (by first | omega | (simp; omega))) ?_)
    intro w9 hS E10
    rw [splice_us2 (by first | omega | (simp; omega))] at hS
    refine c_nil ?_
    refine x_bn ?_
    refine x_tn ?_
    refine c_reg ?_
    refine pr hF (pg (fun _ hF => ex_add (hF.ev rfl) (hF.ev rfl) vi64) <| pm rfl <| PR.nil) ?_
    clear hF fa; intro fa hF
    refine c_nil ?_
    refine x_tn ?_
    exact ⟨_, (by omega), o.set (k + i) ((((o.getD (k + i) 0) + cr) + (v.getD (i) 0)) - 1000000000), 1, (i + 1), (hF.all ⟨rfl, rfl, rfl, (lk_int rfl (by omega)), (lk_int rfl (by omega)), trivial⟩), hS, (E2.trans E10), (by omega), (by simp; omega), (lb_set hbo (by omega)), (by rw [set_take]; exact htk), (by rw [set_drop]; exact drop_next hdr), (by omega), (add_step (x := o.getD (k + i) 0) (by omega) hv hox.symm (by first | omega | (rw [hgn (by omega)]; omega))), rfl⟩
   have hc8p : ¬ (((((o.getD (k + i) 0 : Nat) : Int) + ((cr : Nat) : Int)) + ((v.getD (i) 0 : Nat) : Int)) ≥ 1000000000) := by first | simpa using hc8 | exact bang_t hc8 | exact bang_f hc8
   refine c_skip ?_
   refine x_tn ?_
   refine c_reg ?_
   refine pr hF (pm rfl <| pm rfl <| pm rfl <| pg (fun _ hF => ex_idxw (o := k) (j := i) TfQ.sl22 (hF.ev rfl) (hF.ev rfl) (by omega) (by omega)) <| PR.nil) ?_
   clear hF fa; intro fa hF
   refine st rfl (op_store (vs := #[.int .u32 ((((o.getD (k + i) 0) + cr) + (v.getD (i) 0) : Nat) : Int)]) (v := .int .u32 ((((o.getD (k + i) 0) + cr) + (v.getD (i) 0) : Nat) : Int)) (X := (g_U :: (bl So ++ X))) hF hS 0 rfl (by simp) rfl (ev_int rfl (by omega)) rfl TfQ.size62 rfl (us_fit2 (by first | omega | (simp; omega))) ?_)
   intro w11 hS E12
   rw [splice_us2 (by first | omega | (simp; omega))] at hS
   refine c_nil ?_
   refine x_bn ?_
   refine x_tn ?_
   refine c_reg ?_
   refine pr hF (pg (fun _ hF => ex_add (hF.ev rfl) (hF.ev rfl) vi64) <| pm rfl <| PR.nil) ?_
   clear hF fa; intro fa hF
   refine c_nil ?_
   refine x_tn ?_
   exact ⟨_, (by omega), o.set (k + i) (((o.getD (k + i) 0) + cr) + (v.getD (i) 0)), 0, (i + 1), (hF.all ⟨rfl, rfl, rfl, (lk_int rfl (by omega)), (lk_int rfl (by omega)), trivial⟩), hS, (E2.trans E12), (by omega), (by simp; omega), (lb_set hbo (by omega)), (by rw [set_take]; exact htk), (by rw [set_drop]; exact drop_next hdr), (by omega), (add_step (x := o.getD (k + i) 0) (by omega) hv hox.symm (by first | omega | (rw [hgn (by omega)]; omega))), rfl⟩
  have hc4p : ¬ (((i : Nat) : Int) < ((v.length : Nat) : Int)) := by first | simpa using hc4 | exact bang_t hc4 | exact bang_f hc4
  refine c_skip ?_
  refine x_tn ?_
  refine c_seq ?_
  refine c_reg ?_
  refine pr hF (pa rfl <| PR.nil) ?_
  clear hF fa; intro fa hF
  refine c_nil_then ?_
  refine c_seq ?_
  refine c_seq ?_
  refine c_reg ?_
  refine pr hF (pm rfl <| pg (fun _ hF => ex_geq (hF.ev rfl) (hF.ev rfl)) <| PR.nil) ?_
  clear hF fa; intro fa hF
  replace hF : Frm 37 fa [(0, (.slice (some ⟨g_U, k, none⟩) (m) (c_U))), (1, (.slice (A_v) (v.length) (c_v))), (8, (.int .i64 (((m : Nat) : Int)))), (4, (.int .u32 (0))), (9, (.int .i64 (((i : Nat) : Int)))), (10, (.bool (decide (((i : Nat) : Int) < ((m : Nat) : Int))))), (5, (.int .i64 (((i : Nat) : Int)))), (6, (.int .u32 (((o.getD (k + i) 0 : Nat) : Int) + ((cr : Nat) : Int)))), (21, (.bool (decide (((i : Nat) : Int) < ((v.length : Nat) : Int))))), (29, (.bool (decide ((((o.getD (k + i) 0 : Nat) : Int) + ((cr : Nat) : Int)) ≥ 1000000000))))] := (hF.all ⟨rfl, rfl, rfl, rfl, rfl, rfl, rfl, rfl, rfl, rfl, trivial⟩)
  refine c_nil_then ?_
  refine c_cond hF rfl (fun hc13 => ?_) (fun hc13 => ?_)
  ·
   have hc13p : (((o.getD (k + i) 0 : Nat) : Int) + ((cr : Nat) : Int)) ≥ 1000000000 := by first | simpa using hc13 | exact bang_t hc13 | exact bang_f hc13
   refine c_reg ?_
   refine pr hF (pm rfl <| pg (fun _ hF => ex_sub (hF.ev rfl) (hF.ev rfl) vu32) <| pa rfl <| pa rfl <| PR.nil) ?_
   clear hF fa; intro fa hF
   refine c_nil_then ?_
   refine c_reg ?_
   refine pr hF (pm rfl <| pm rfl <| pm rfl <| pg (fun _ hF => ex_idxw (o := k) (j := i) TfQ.sl22 (hF.ev rfl) (hF.ev rfl) (by omega) (by omega)) <| PR.nil) ?_
   clear hF fa; intro fa hF
   refine st rfl (op_store (vs := #[.int .u32 ((((o.getD (k + i) 0) + cr) - 1000000000 : Nat) : Int)]) (v := .int .u32 ((((o.getD (k + i) 0) + cr) - 1000000000 : Nat) : Int)) (X := (g_U :: (bl So ++ X))) hF hS 0 rfl (by simp) rfl (ev_int rfl (by omega)) rfl TfQ.size62 rfl (us_fit2 (by first | omega | (simp; omega))) ?_)
   intro w14 hS E15
   rw [splice_us2 (by first | omega | (simp; omega))] at hS
   refine c_nil ?_
   refine x_bn ?_
   refine x_tn ?_
   refine c_reg ?_
   refine pr hF (pg (fun _ hF => ex_add (hF.ev rfl) (hF.ev rfl) vi64) <| pm rfl <| PR.nil) ?_
   clear hF fa; intro fa hF
   refine c_nil ?_
   refine x_tn ?_
   exact ⟨_, (by omega), o.set (k + i) (((o.getD (k + i) 0) + cr) - 1000000000), 1, (i + 1), (hF.all ⟨rfl, rfl, rfl, (lk_int rfl (by omega)), (lk_int rfl (by omega)), trivial⟩), hS, (E2.trans E15), (by omega), (by simp; omega), (lb_set hbo (by omega)), (by rw [set_take]; exact htk), (by rw [set_drop]; exact drop_next hdr), (by omega), (add_step (x := o.getD (k + i) 0) (by omega) hv hox.symm (by first | omega | (rw [hgn (by omega)]; omega))), rfl⟩
  have hc13p : ¬ ((((o.getD (k + i) 0 : Nat) : Int) + ((cr : Nat) : Int)) ≥ 1000000000) := by first | simpa using hc13 | exact bang_t hc13 | exact bang_f hc13
  refine c_skip ?_
  refine x_tn ?_
  refine c_reg ?_
  refine pr hF (pm rfl <| pm rfl <| pm rfl <| pg (fun _ hF => ex_idxw (o := k) (j := i) TfQ.sl22 (hF.ev rfl) (hF.ev rfl) (by omega) (by omega)) <| PR.nil) ?_
  clear hF fa; intro fa hF
  refine st rfl (op_store (vs := #[.int .u32 (((o.getD (k + i) 0) + cr : Nat) : Int)]) (v := .int .u32 (((o.getD (k + i) 0) + cr : Nat) : Int)) (X := (g_U :: (bl So ++ X))) hF hS 0 rfl (by simp) rfl (ev_int rfl (by omega)) rfl TfQ.size62 rfl (us_fit2 (by first | omega | (simp; omega))) ?_)
  intro w16 hS E17
  rw [splice_us2 (by first | omega | (simp; omega))] at hS
  refine c_nil ?_
  refine x_bn ?_
  refine x_tn ?_
  refine c_reg ?_
  refine pr hF (pg (fun _ hF => ex_add (hF.ev rfl) (hF.ev rfl) vi64) <| pm rfl <| PR.nil) ?_
  clear hF fa; intro fa hF
  refine c_nil ?_
  refine x_tn ?_
  exact ⟨_, (by omega), o.set (k + i) ((o.getD (k + i) 0) + cr), 0, (i + 1), (hF.all ⟨rfl, rfl, rfl, (lk_int rfl (by omega)), (lk_int rfl (by omega)), trivial⟩), hS, (E2.trans E17), (by omega), (by simp; omega), (lb_set hbo (by omega)), (by rw [set_take]; exact htk), (by rw [set_drop]; exact drop_next hdr), (by omega), (add_step (x := o.getD (k + i) 0) (by omega) hv hox.symm (by first | omega | (rw [hgn (by omega)]; omega))), rfl⟩
 have hc3p : ¬ (((i : Nat) : Int) < ((m : Nat) : Int)) := by first | simpa using hc3 | exact bang_t hc3 | exact bang_f hc3
 refine c_exit ?_
 refine x_te ?_
 refine x_te ?_
 refine x_bh ?_
 refine end0 hF rfl ?_
 exact ⟨_, rfl, o, cr, rfl, (ho), (hbo), (htk), (by rw [show m = i by omega]; exact hdr), (by have h1 := hv; rw [val_take_all (l := v) (by omega), show i = m by omega] at h1; exact h1), (hcr), hS, E2⟩

end Go.Proofs.YtghlkihmnopenaaGreatDoor

namespace Go.Proofs.YtghlkihmnopenaaGreatDoor
open Go Go.RowKit Go.Sw
set_option linter.unusedVariables false
set_option maxRecDepth 20000
namespace TfR
theorem body106 : hasBody Tryz.prog 106 = true := by kernel_rfl
theorem body115 : hasBody Tryz.prog 115 = true := by kernel_rfl
theorem body119 : hasBody Tryz.prog 119 = true := by kernel_rfl
theorem body120 : hasBody Tryz.prog 120 = true := by kernel_rfl
theorem body121 : hasBody Tryz.prog 121 = true := by kernel_rfl
theorem body122 : hasBody Tryz.prog 122 = true := by kernel_rfl
theorem el62 : Sw.elemOf Tryz.prog 62 = some (#[.int .u32 0], 1, 4) := by kernel_rfl
theorem mixed : Tryz.prog.follows .mixedOrders = true := by kernel_rfl
theorem one62 : isOne Tryz.prog 62 = true := by kernel_rfl
theorem size62 : (Tryz.prog.info? 62).map (fun i => i.size) = some 1 := by kernel_rfl
theorem sl22 : sliceOf Tryz.prog 22 = some (62, 1) := by kernel_rfl
theorem sls22 : (sliceOf Tryz.prog 22).isSome = true := by kernel_rfl
theorem und62 : Tryz.prog.underlying 62 = some (TypeDesc.int .u32) := by kernel_rfl
theorem und75 : Tryz.prog.underlying 75 = some (TypeDesc.int .u64) := by kernel_rfl
theorem unds62 : (Tryz.prog.underlying 62).isSome = true := by kernel_rfl
theorem unds75 : (Tryz.prog.underlying 75).isSome = true := by kernel_rfl
end TfR
set_option maxHeartbeats 4000000 in
theorem integer_divide_ok {w : World} {X : List Nat} (hX : ∀ m ∈ X, m < w.heap.size) {v_a : Value} {a : List Nat} (h_a : UL w X v_a (a)) {v_b : Value} {b : List Nat} (h_b : UL w X v_b (b)) (hn_a : a.length ≤ 100000000000) (hn_b : b.length ≤ 100000000000) (hb_a : Lb a) (hb_b : Lb b) (hpos : 0 < val b) :
    Calls Tryz.prog 94 #[v_a, v_b] w (Ret fun r w' => (∃ qs : List Nat, ∃ rs : List Nat, ∃ r0 r1, r = .tuple #[r0, r1] ∧ UL w' X r0 (qs) ∧ UL w' X r1 (rs) ∧ Lb qs ∧ Lb rs ∧ val a = val b * val qs + val rs ∧ val rs < val b ∧ qs.length = dql a b ∧ rs.length = drl a b) ∧ Below w.heap.size w w') := by
 refine enter (N := 179) (fn := Tryz.f94) (vs := [v_a, v_b]) Tryz.func94 rfl rfl rfl ?_
 intro fa hF
 obtain ⟨A_a, _, c_a, rfl, rfl, hu_a⟩ := h_a
 have hl_a := hu_a.len; have hc_a := hu_a.cap
 obtain ⟨A_b, _, c_b, rfl, rfl, hu_b⟩ := h_b
 have hl_b := hu_b.len; have hc_b := hu_b.cap
 replace hF : Frm 179 fa [(0, (.slice (A_a) (a.length) (c_a))), (1, (.slice (A_b) (b.length) (c_b)))] := hF
 have hS := St.refl w
 have hca := can_trimz hb_a; have hcb := can_trimz hb_b
 have hva := val_trimz a; have hvb0 := val_trimz b
 have hla := trimz_length_le a; have hlb := trimz_length_le b
 have hbn : 0 < (trimz b).length := by cases hq : trimz b with | nil => rw [hq] at hvb0; simp [val] at hvb0; omega | cons _ _ => simp
 refine c_seq ?_
 refine c_reg ?_
 refine pr hF (pa rfl <| pa rfl <| PR.nil) ?_
 clear hF fa; intro fa hF
 refine c_nil_then ?_
 refine c_seq ?_
 refine c_reg ?_
 refine pr hF (pm rfl <| PR.nil) ?_
 clear hF fa; intro fa hF
 have hC := integer_trim_ok (w := w) (X := X) (l := a) (hS.bnd hX) ⟨_, (a.length), _, rfl, (rfl), hu_a⟩
 refine st rfl (op_call hF rfl TfR.body119 (args1 (hF.ev rfl)) hC ?_)
 clear hC
 rintro _ w1 ⟨⟨A4, _, c5, rfl, rfl, hu6⟩, hb2⟩
 refine gen_ ?_; clear hF fa; intro fa hF
 replace hS := hS.call hb2; have E3 := Ext.call X hb2
 refine pr hF (pm rfl <| PR.nil) ?_
 clear hF fa; intro fa hF
 have hC := integer_trim_ok (w := w1) (X := X) (l := b) (hS.bnd hX) ⟨_, (b.length), _, rfl, (rfl), (hu_b.ext E3)⟩
 refine st rfl (op_call hF rfl TfR.body119 (args1 (hF.ev rfl)) hC ?_)
 clear hC
 rintro _ w7 ⟨⟨A10, _, c11, rfl, rfl, hu12⟩, hb8⟩
 refine gen_ ?_; clear hF fa; intro fa hF
 replace hS := hS.call hb8; have E9 := Ext.call X hb8
 refine pr hF (pa rfl <| pa rfl <| PR.nil) ?_
 clear hF fa; intro fa hF
 refine c_nil_then ?_
 refine c_seq ?_
 refine c_seq ?_
 refine c_reg ?_
 refine pr hF (pm rfl <| pg (fun _ hF => ex_len TfR.sls22 (hF.ev rfl)) <| pg (fun _ hF => ex_eql (hF.ev rfl) (hF.ev rfl)) <| PR.nil) ?_
 clear hF fa; intro fa hF
 refine c_nil_then ?_
 refine c_cond hF rfl (fun hc13 => ?_) (fun hc13 => ?_)
 ·
  have hc13p : (((trimz b).length : Nat) : Int) = 1 := by first | simpa using hc13 | exact bang_t hc13 | exact bang_f hc13
  have h1b := val_len1 (l := trimz b) (by omega)
  refine c_seq ?_
  refine c_reg ?_
  refine pr hF (pm rfl <| pm rfl <| PR.nil) ?_
  clear hF fa; intro fa hF
  obtain ⟨ad14, hA15, hq16⟩ := hu12.cl.at_ (us_get (l := (trimz b)) (i := 0) (by omega))
  refine pr hF (pg (fun _ hF => ex_idx (j := 0) TfR.sl22 (hF.ev rfl) hA15 (hF.ev rfl) (by omega) (by omega)) <| pg (fun _ hF => ex_load1 TfR.one62 (hF.ev rfl) hq16) <| PR.nil) ?_
  clear hF fa; intro fa hF
  have hC := integer_byWord_ok (w := w7) (X := X) (a := (trimz a)) (hS.bnd hX) ⟨_, ((trimz a).length), _, rfl, (rfl), (hu6.ext E9)⟩ ((trimz b).getD (0) 0) (by omega) (hca.1) (by omega) (hcb.1.getD 0)
  refine st rfl (op_call hF rfl TfR.body120 (args2 (hF.ev rfl) (hF.ev (ev_int (b := (((trimz b).getD (0) 0 : Nat) : Int)) rfl (by first | rfl | omega)))) hC ?_)
  clear hC
  rintro _ w17 ⟨⟨qs_20, rs_21, _, _, rfl, ⟨A22, _, c23, rfl, rfl, hu24⟩, ⟨A25, _, c26, rfl, rfl, hu27⟩, hp28, hp29, hp30, hp31, hp32, hp33⟩, hb18⟩
  refine gen_ ?_; clear hF fa; intro fa hF
  replace hS := hS.call hb18; have E19 := Ext.call X hb18
  have hw_lq := hp28; have hw_lr := hp29; have hw_v := hp30; have hw_l := hp31; have hw_q := hp32; have hw_r := hp33
  refine pr hF (px rfl rfl <| px rfl rfl <| pa rfl <| pa rfl <| PR.nil) ?_
  clear hF fa; intro fa hF
  replace hF : Frm 179 fa [(0, (.slice (A4) ((trimz a).length) (c5))), (1, (.slice (A10) ((trimz b).length) (c11))), (4, (.slice (A22) (qs_20.length) (c23))), (5, (.slice (A25) (rs_21.length) (c26))), (23, (.bool (decide ((((trimz b).length : Nat) : Int) = 1))))] := (hF.all ⟨rfl, rfl, rfl, rfl, rfl, trivial⟩)
  refine c_nil_then ?_
  refine c_ret ?_
  refine x_tr ?_
  refine end2 hF rfl (res_tmp hF rfl) (res_tmp hF rfl) ?_
  exact ⟨_, rfl, ⟨qs_20, rs_21, _, _, rfl, (UL.fin (L := qs_20) ⟨_, _, _, rfl, (rfl), hu24⟩ (rfl) (fun x hx => by simp [hx])), (UL.fin (L := rs_21) ⟨_, _, _, rfl, (rfl), hu27⟩ (rfl) (fun x hx => by simp [hx])), (hw_lq), (hw_lr), (by rw [← hva, ← hvb0, h1b]; exact hw_v), (by rw [← hvb0, h1b]; exact hw_l), (by unfold dql; rw [if_pos (by omega)]; omega), (by unfold drl; rw [if_pos (by omega)]; omega)⟩, hS.below⟩
 have hc13p : ¬ ((((trimz b).length : Nat) : Int) = 1) := by first | simpa using hc13 | exact bang_t hc13 | exact bang_f hc13
 have hn2 : 2 ≤ (trimz b).length := by omega
 refine c_skip ?_
 refine x_tn ?_
 refine c_seq ?_
 refine c_seq ?_
 refine c_reg ?_
 refine pr hF (pm rfl <| pm rfl <| PR.nil) ?_
 clear hF fa; intro fa hF
 have hC := integer_compare_ok (w := w7) (X := X) (a := (trimz a)) (b := (trimz b)) (hS.bnd hX) ⟨_, ((trimz a).length), _, rfl, (rfl), (hu6.ext E9)⟩ ⟨_, ((trimz b).length), _, rfl, (rfl), hu12⟩ (hca.1) (hcb.1)
 refine st rfl (op_call hF rfl TfR.body106 (args2 (hF.ev rfl) (hF.ev rfl)) hC ?_)
 clear hC
 rintro _ w34 ⟨rfl, hb35⟩
 refine gen_ ?_; clear hF fa; intro fa hF
 replace hS := hS.call hb35; have E36 := Ext.call X hb35
 refine pr hF (pg (fun _ hF => ex_lss (hF.ev rfl) (hF.ev rfl)) <| PR.nil) ?_
 clear hF fa; intro fa hF
 refine c_nil_then ?_
 refine c_cond hF rfl (fun hc37 => ?_) (fun hc37 => ?_)
 ·
  have hc37p : (cmpN (val ((trimz a))) (val ((trimz b)))) < 0 := by first | simpa using hc37 | exact bang_t hc37 | exact bang_f hc37
  have hlt0 := cmpN_lt0.1 hc37p
  refine c_seq ?_
  refine c_reg ?_
  refine pr hF (pm rfl <| PR.nil) ?_
  clear hF fa; intro fa hF
  refine st rfl (op_append (X := X) (F := []) (So := []) (l := us ([])) (m := us ((trimz a))) hF hS rfl TfR.sl22 TfR.el62 rfl rfl rfl (by simp) (OwV.nil 62) (hu6.ext (E9.trans E36)).cl (us_one _) (by simp; omega) (by simp; omega) ?_)
  intro v38 So39 w40 hO41 hS E42 hun43; refine gen_ ?_; clear hF fa; intro fa hF
  clear hun43
  rw [← us_append] at hO41
  simp only [List.nil_append] at hO41
  replace E42 : Ext w34 X w40 (bl So39 ++ X) := E42
  replace hS : St w w40 So39 := hS
  refine pr hF (pa rfl <| pa rfl <| PR.nil) ?_
  clear hF fa; intro fa hF
  refine c_nil_then ?_
  refine c_ret ?_
  refine x_tr ?_
  refine end2 hF rfl (res_tmp hF rfl) (res_tmp hF rfl) ?_
  exact ⟨_, rfl, ⟨[], (trimz a), _, _, rfl, (UL.nil_ _ _), (UL.fin (UC.of_ow (F := []) hO41 hS hX) (rfl) (fun _ h => h)), (Lb.nil), (hca.1), (by rw [hva]; simp [val]), (by omega), (by unfold dql; rw [if_neg (by omega), if_pos (by omega)]; rfl), (by unfold drl; rw [if_neg (by omega), if_pos (by omega)])⟩, hS.below⟩
 have hc37p : ¬ ((cmpN (val ((trimz a))) (val ((trimz b)))) < 0) := by first | simpa using hc37 | exact bang_t hc37 | exact bang_f hc37
 have hle0 : val (trimz b) ≤ val (trimz a) := by have := mt cmpN_lt0.2 hc37p; omega
 have hlen := len_le_of_val hca hcb hle0
 have hbtop := hcb.1.getD ((trimz b).length - 1)
 refine c_skip ?_
 refine x_tn ?_
 refine c_seq ?_
 refine c_reg ?_
 refine pr hF (pm rfl <| pg (fun _ hF => ex_len TfR.sls22 (hF.ev rfl)) <| pa rfl <| PR.nil) ?_
 clear hF fa; intro fa hF
 refine c_nil_then ?_
 refine c_seq ?_
 refine c_reg ?_
 refine pr hF (pm rfl <| pm rfl <| pg (fun _ hF => ex_sub (hF.ev rfl) (hF.ev rfl) vi64) <| PR.nil) ?_
 clear hF fa; intro fa hF
 obtain ⟨ad44, hA45, hq46⟩ := (hu12.ext E36).cl.at_ (us_get (l := (trimz b)) (i := (trimz b).length - 1) (by omega))
 refine pr hF (pg (fun _ hF => ex_idx (j := (trimz b).length - 1) TfR.sl22 (hF.ev rfl) hA45 (hF.ev rfl) (by omega) (by omega)) <| pg (fun _ hF => ex_load1 TfR.one62 (hF.ev rfl) hq46) <| pg (fun _ hF => ex_conv TfR.unds62 TfR.und75 (hF.ev rfl) (wu64n (by omega))) <| pg (fun _ hF => ex_add (hF.ev rfl) (hF.ev rfl) vu64) <| pg (fun _ hF => ex_quo (hF.ev rfl) (hF.ev rfl) (by omega) (q_u64 (x := 1000000000) (y := ((trimz b).getD ((trimz b).length - 1) 0) + 1) (by omega) (by omega) (by omega))) <| pg (fun _ hF => ex_conv TfR.unds75 TfR.und62 (hF.ev rfl) (wu32n (by have := Nat.div_le_self 1000000000 ((trimz b).getD ((trimz b).length - 1) 0 + 1); omega))) <| pa rfl <| PR.nil) ?_
 clear hF fa; intro fa hF
 replace hF : Frm 179 fa [(0, (.slice (A4) ((trimz a).length) (c5))), (1, (.slice (A10) ((trimz b).length) (c11))), (4, (.slice (none) (0) (0))), (5, (.slice (none) (0) (0))), (23, (.bool (decide ((((trimz b).length : Nat) : Int) = 1)))), (34, (.bool (decide ((cmpN (val ((trimz a))) (val ((trimz b)))) < 0)))), (6, (.int .i64 ((((trimz b).length : Nat) : Int)))), (7, (.int .u32 (((1000000000 / (((trimz b).getD ((trimz b).length - 1) 0) + 1) : Nat) : Int))))] := (hF.all ⟨rfl, rfl, rfl, rfl, rfl, rfl, rfl, rfl, trivial⟩)
 refine c_nil_then ?_
 refine c_seq ?_
 obtain ⟨sc, hsc⟩ : ∃ sc, sc = 1000000000 / ((trimz b).getD ((trimz b).length - 1) 0 + 1) := ⟨_, rfl⟩
 rw [← hsc] at hF
 have hscB := scale_lt hcb rfl hbn hsc
 refine c_reg ?_
 refine pr hF (pm rfl <| pm rfl <| PR.nil) ?_
 clear hF fa; intro fa hF
 refine st rfl (op_lit (X := X) hF hS (hS.bnd hX) rfl TfR.sl22 TfR.el62 rfl rfl (lits1 (hF.ev (ev_int (b := ((sc : Nat) : Int)) rfl (by omega)))) (fill_u1 (x := sc)) ?_)
 intro g47 w48 hg50 hS E49 hc51; refine gen_ ?_; clear hF fa; intro fa hF
 have hu52 := UC.one (l := [sc]) hc51 (by simp)
 have hC := integer_times_ok (w := w48) (X := X) (a := (trimz a)) (b := ([sc])) (hS.bnd hX) ⟨_, ((trimz a).length), _, rfl, (rfl), (hu6.ext ((E9.trans E36).trans E49))⟩ ⟨_, (1), _, rfl, (rfl), hu52⟩ (by omega) (by simp) (hca.1) (Lb.cons hscB Lb.nil)
 refine st rfl (op_call hF rfl TfR.body115 (args2 (hF.ev rfl) (hF.ev rfl)) hC ?_)
 clear hC
 rintro _ w53 ⟨⟨o_56, ⟨g57, rfl, hq58, hg59⟩, hp60, hp61, hp62⟩, hb54⟩
 refine gen_ ?_; clear hF fa; intro fa hF
 replace hS := hS.push_new hb54 hq58 hg59; have E55 := Ext.push_new X hb54 hg59
 simp [val] at hp61 hp62
 have hol := hp62; have hob := hp60
 have hu0 : val (o_56 ++ [0]) = val a * sc := by rw [val_snoc0, hp61, hva]
 refine st rfl (op_lit (X := (g57 :: X)) hF hS (hS.bnd hX) rfl TfR.sl22 TfR.el62 rfl rfl (lits1 (hF.ev (ev_int (b := ((0 : Nat) : Int)) rfl (by omega)))) (fill_u1 (x := 0)) ?_)
 intro g63 w64 hg66 hS E65 hc67; refine gen_ ?_; clear hF fa; intro fa hF
 have hu68 := UC.one (l := [0]) hc67 (by simp)
 refine st rfl (op_append (X := X) (F := []) (So := [(g57, 62, (us (o_56)).toArray)]) (l := us (o_56)) (m := us ([0])) hF hS rfl TfR.sl22 TfR.el62 rfl rfl rfl (by simp) (OwV.full 62 g57 (o_56) (o_56.length) (o_56.length) (by first | rfl | (simp; done) | omega) (by first | rfl | (simp; done) | omega) (by first | omega | (simp; omega))) hu68.cl (us_one _) (by simp; omega) (by simp; omega) ?_)
 intro v69 So70 w71 hO72 hS E73 hun74; refine gen_ ?_; clear hF fa; intro fa hF
 clear hun74
 rw [← us_append] at hO72
 replace E73 : Ext w64 (g57 :: X) w71 (bl So70 ++ X) := E73
 replace hS : St w w71 So70 := hS
 obtain ⟨g75, c76, R77, hs81, hv78, hcl79, hcm80⟩ := OwV.settle hO72 (by simp)
 unfold maxLen at hcm80
 subst hs81; subst hv78
 have hs81_ : (o_56 ++ ([0])).length = (trimz a).length + 2 := by simp; omega
 rw [hs81_] at hF hcl79
 refine pr hF (pa rfl <| PR.nil) ?_
 clear hF fa; intro fa hF
 refine c_nil_then ?_
 refine c_seq ?_
 refine c_reg ?_
 refine pr hF (pm rfl <| pm rfl <| PR.nil) ?_
 clear hF fa; intro fa hF
 refine st rfl (op_lit (X := (g75 :: X)) hF hS (hS.bnd hX) rfl TfR.sl22 TfR.el62 rfl rfl (lits1 (hF.ev (ev_int (b := ((sc : Nat) : Int)) rfl (by omega)))) (fill_u1 (x := sc)) ?_)
 intro g82 w83 hg85 hS E84 hc86; refine gen_ ?_; clear hF fa; intro fa hF
 have hu87 := UC.one (l := [sc]) hc86 (by simp)
 have hC := integer_times_ok (w := w83) (X := (g75 :: X)) (a := (trimz b)) (b := ([sc])) (hS.bnd hX) ⟨_, ((trimz b).length), _, rfl, (rfl), (hu12.ext (((((E36.trans E49).trans E55).trans E65).trans E73).trans E84))⟩ ⟨_, (1), _, rfl, (rfl), hu87⟩ (by omega) (by simp) (hcb.1) (Lb.cons hscB Lb.nil)
 refine st rfl (op_call hF rfl TfR.body115 (args2 (hF.ev rfl) (hF.ev rfl)) hC ?_)
 clear hC
 rintro _ w88 ⟨⟨o_91, ⟨g92, rfl, hq93, hg94⟩, hp95, hp96, hp97⟩, hb89⟩
 refine gen_ ?_; clear hF fa; intro fa hF
 replace hS := hS.push_new hb89 hq93 hg94; have E90 := Ext.push_new (g75 :: X) hb89 hg94
 simp [val] at hp96 hp97
 have hcv := can_trimz hp95
 obtain ⟨hsc0, _, hvn, hvtop, hvP⟩ := scale_law (v := trimz o_91) hcb rfl hbn hsc hcv (by rw [val_trimz, hp96])
 have hvb := hcv.1
 have hvL := fun i => hvb.getD i
 have hV : val (trimz o_91) = val b * sc := by rw [val_trimz, hp96, hvb0]
 have hVM : val (trimz o_91) ≤ 1000000000 ^ ((trimz b).length + 1) := by have h0 := val_lt _ hvb; rw [hvn] at h0; have := Nat.pow_le_pow_right (n := 1000000000) (by omega) (show (trimz b).length ≤ (trimz b).length + 1 by omega); omega
 obtain ⟨hS1, hn1⟩ := hS.out hX 0 rfl
 have hu98 := UC.of_box (L := o_91) (hS.get 0 rfl) hn1 (by first | omega | (simp; omega))
 have E99 : Ext w88 (g92 :: (g75 :: X)) w88 (g75 :: X) := Ext.drop (by simp +contextual)
 replace hu98 : UC w88 (g75 :: X) (some ⟨g92, 0, none⟩) (o_91).length (o_91) := hu98
 replace hS : St w w88 [(g75, 62, (us (o_56 ++ ([0])) ++ R77).toArray)] := hS1; clear hn1
 have hC := integer_trim_ok (w := w88) (X := (g75 :: X)) (l := o_91) (hS.bnd hX) (UL.cap (n := o_91.length) (c := o_91.length) hu98 (by first | rfl | (simp; done) | omega) (by first | rfl | (simp; done) | omega))
 refine st rfl (op_call hF rfl TfR.body119 (args1 (hF.ev rfl)) hC ?_)
 clear hC
 rintro _ w100 ⟨⟨A103, _, c104, rfl, rfl, hu105⟩, hb101⟩
 refine gen_ ?_; clear hF fa; intro fa hF
 replace hS := hS.call hb101; have E102 := Ext.call (g75 :: X) hb101
 refine pr hF (pa rfl <| PR.nil) ?_
 clear hF fa; intro fa hF
 refine c_nil_then ?_
 refine c_seq ?_
 refine c_reg ?_
 refine pr hF (pm rfl <| pg (fun _ hF => ex_len TfR.sls22 (hF.ev rfl)) <| pm rfl <| pg (fun _ hF => ex_sub (hF.ev rfl) (hF.ev rfl) vi64) <| PR.nil) ?_
 clear hF fa; intro fa hF
 refine st rfl (op_make (X := (g75 :: X)) (nl := ((trimz a).length + 2) - ((trimz b).length)) (nc := ((trimz a).length + 2) - ((trimz b).length)) hF hS rfl TfR.sl22 TfR.el62 rfl rfl (by omega) (by omega) (by omega) (by omega) (by omega) (made_us _) ?_)
 intro g106 w107 hg109 hS E108; refine gen_ ?_; clear hF fa; intro fa hF
 rw [Nat.mul_one] at hS
 refine pr hF (pa rfl <| PR.nil) ?_
 clear hF fa; intro fa hF
 replace hF : Frm 179 fa [(0, (.slice (A4) ((trimz a).length) (c5))), (1, (.slice (A10) ((trimz b).length) (c11))), (4, (.slice (none) (0) (0))), (5, (.slice (none) (0) (0))), (23, (.bool (decide ((((trimz b).length : Nat) : Int) = 1)))), (34, (.bool (decide ((cmpN (val ((trimz a))) (val ((trimz b)))) < 0)))), (6, (.int .i64 ((((trimz b).length : Nat) : Int)))), (7, (.int .u32 (((sc : Nat) : Int)))), (8, (.slice (some ⟨g75, 0, none⟩) ((trimz a).length + 2) (c76))), (9, (.slice (A103) ((trimz o_91).length) (c104))), (10, (.slice (some ⟨g106, 0, none⟩) (((trimz a).length + 2) - ((trimz b).length)) (((trimz a).length + 2) - ((trimz b).length))))] := (hF.all ⟨rfl, rfl, rfl, rfl, rfl, rfl, rfl, rfl, rfl, rfl, rfl, trivial⟩)
 refine c_nil_then ?_
 refine c_seq ?_
 refine c_seq ?_
 refine c_reg ?_
 refine pr hF (pm rfl <| pg (fun _ hF => ex_len TfR.sls22 (hF.ev rfl)) <| pm rfl <| pg (fun _ hF => ex_sub (hF.ev rfl) (hF.ev rfl) vi64) <| pg (fun _ hF => ex_sub (hF.ev rfl) (hF.ev rfl) vi64) <| pa rfl <| PR.nil) ?_
 clear hF fa; intro fa hF
 refine c_nil_then ?_
 refine c_block ?_
 refine c_loop (fun mu fa w' => ∃ U : List Nat, ∃ Q : List Nat, ∃ j : Nat, Frm 179 fa [(0, (.slice (A4) ((trimz a).length) (c5))), (1, (.slice (A10) ((trimz b).length) (c11))), (4, (.slice (none) (0) (0))), (5, (.slice (none) (0) (0))), (23, (.bool (decide ((((trimz b).length : Nat) : Int) = 1)))), (34, (.bool (decide ((cmpN (val ((trimz a))) (val ((trimz b)))) < 0)))), (6, (.int .i64 ((((trimz b).length : Nat) : Int)))), (7, (.int .u32 (((sc : Nat) : Int)))), (8, (.slice (some ⟨g75, 0, none⟩) ((trimz a).length + 2) (c76))), (9, (.slice (A103) ((trimz o_91).length) (c104))), (10, (.slice (some ⟨g106, 0, none⟩) (((trimz a).length + 2) - ((trimz b).length)) (((trimz a).length + 2) - ((trimz b).length)))), (11, (.int .i64 (((j : Nat) : Int) - 1)))] ∧ St w w' [(g106, 62, (us (Q)).toArray), (g75, 62, (us (U) ++ R77).toArray)] ∧ Ext w107 (g106 :: (g75 :: X)) w' (g106 :: (g75 :: X)) ∧ (j ≤ (trimz a).length + 2 - (trimz b).length) ∧ (U.length = (trimz a).length + 2) ∧ (Lb U) ∧ (Q.length = (trimz a).length + 2 - (trimz b).length) ∧ (Lb Q) ∧ (DivInv (val a * sc) (val (trimz o_91)) U Q j) ∧ j = mu) ?_ ?_
 ·
  exact ⟨_, o_56 ++ ([0]), List.replicate (((trimz a).length + 2) - ((trimz b).length)) 0, ((trimz a).length + 2 - (trimz b).length), (hF.all ⟨rfl, rfl, rfl, rfl, rfl, rfl, rfl, rfl, rfl, rfl, rfl, (lk_int rfl (by omega)), trivial⟩), hS, Ext.refl _ _, (Nat.le_refl _), (by simp; omega), (lb_snoc hob (by omega)), (by simp), (lb_zeros _), (by rw [← hu0]; exact DivInv.start (n := (trimz b).length) (by simp; omega) (by omega) (lb_snoc hob (by omega)) (by rw [show (trimz a).length + 2 - (trimz b).length + (trimz b).length - 1 = _ from (show _ = (_ : List Nat).length by rw [hol]; omega)]; exact snoc_last0 _) hvP), rfl⟩
 clear hF fa; intro n0_ fa w' hI
 clear hS
 obtain ⟨U, Q, j, hF, hS, E111, hj, hUl, hbU, hQl, hbQ, hI, rfl⟩ := hI
 rename World => w110
 refine c_seq ?_
 refine c_seq ?_
 refine c_reg ?_
 refine pr hF (pm rfl <| pg (fun _ hF => ex_geq (hF.ev rfl) (hF.ev rfl)) <| PR.nil) ?_
 clear hF fa; intro fa hF
 refine c_nil_then ?_
 refine c_cond hF rfl (fun hc112 => ?_) (fun hc112 => ?_)
 ·
  have hc112p : (((j : Nat) : Int) - 1) ≥ 0 := by first | simpa using hc112 | exact bang_t hc112 | exact bang_f hc112
  refine c_skip ?_
  refine x_tn ?_
  refine c_seq ?_
  refine c_block ?_
  refine c_seq ?_
  have hdw := hI.win (n := (trimz b).length) (by omega) (by omega) hvb hbU hvn
  have htl := top_lt hdw hn2 hvn hvb
  have hua := hbU.getD (j - 1 + (trimz b).length); have hub := hbU.getD (j - 1 + (trimz b).length - 1); have huc := hbU.getD (j - 1 + (trimz b).length - 2)
  have hva1 := hvL ((trimz b).length - 1); have hva2 := hvL ((trimz b).length - 2)
  refine drawn2 (N := 179) (L0 := [(0, (.slice (A4) ((trimz a).length) (c5))), (1, (.slice (A10) ((trimz b).length) (c11))), (4, (.slice (none) (0) (0))), (5, (.slice (none) (0) (0))), (23, (.bool (decide ((((trimz b).length : Nat) : Int) = 1)))), (34, (.bool (decide ((cmpN (val ((trimz a))) (val ((trimz b)))) < 0)))), (6, (.int .i64 ((((trimz b).length : Nat) : Int)))), (7, (.int .u32 (((sc : Nat) : Int)))), (8, (.slice (some ⟨g75, 0, none⟩) ((trimz a).length + 2) (c76))), (9, (.slice (A103) ((trimz o_91).length) (c104))), (10, (.slice (some ⟨g106, 0, none⟩) (((trimz a).length + 2) - ((trimz b).length)) (((trimz a).length + 2) - ((trimz b).length)))), (11, (.int .i64 (((j : Nat) : Int) - 1))), (70, (.bool (decide ((((j : Nat) : Int) - 1) ≥ 0))))]) [some (.slice (some ⟨g75, 0, none⟩) ((trimz a).length + 2) (c76)), some (.int .i64 (((j : Nat) : Int) - 1)), some (.int .i64 ((((trimz b).length : Nat) : Int))), some (.int .i64 ((((j : Nat) : Int) - 1) + (((trimz b).length : Nat) : Int))), some (.pointer (some ⟨g75, j - 1 + (trimz b).length, none⟩)), some (.int .u32 (((U.getD (j - 1 + (trimz b).length) 0 : Nat) : Int))), some (.int .u64 (((U.getD (j - 1 + (trimz b).length) 0 : Nat) : Int))), some (.int .u64 (((U.getD (j - 1 + (trimz b).length) 0 : Nat) : Int) * 1000000000)), some (.slice (some ⟨g75, 0, none⟩) ((trimz a).length + 2) (c76)), some (.int .i64 (((j : Nat) : Int) - 1)), some (.int .i64 ((((trimz b).length : Nat) : Int))), some (.int .i64 ((((j : Nat) : Int) - 1) + (((trimz b).length : Nat) : Int))), some (.int .i64 (((((j : Nat) : Int) - 1) + (((trimz b).length : Nat) : Int)) - 1)), some (.pointer (some ⟨g75, j - 1 + (trimz b).length - 1, none⟩)), some (.int .u32 (((U.getD (j - 1 + (trimz b).length - 1) 0 : Nat) : Int))), some (.int .u64 (((U.getD (j - 1 + (trimz b).length - 1) 0 : Nat) : Int))), some (.int .u64 ((((U.getD (j - 1 + (trimz b).length) 0 : Nat) : Int) * 1000000000) + ((U.getD (j - 1 + (trimz b).length - 1) 0 : Nat) : Int))), some (.int .u64 ((((U.getD (j - 1 + (trimz b).length) 0 : Nat) : Int) * 1000000000) + ((U.getD (j - 1 + (trimz b).length - 1) 0 : Nat) : Int)))] [] [[]] [[0], [0], [0], [0], [0], [0], [0], [0], [0], [0], [0], [0], [0], [0], [0], [0], [0], [0]] 0 [
        fun fa w' => Frm 179 fa [] ∧ St w w' [(g106, 62, (us (Q)).toArray), (g75, 62, (us (U) ++ R77).toArray)] ∧ Ext w110 (g106 :: (g75 :: X)) w' (g106 :: (g75 :: X))
      ] TfR.mixed rfl rfl rfl rfl rfl rfl (hF.all ⟨rfl, rfl, rfl, rfl, rfl, rfl, rfl, rfl, rfl, rfl, rfl, rfl, rfl, trivial⟩) rfl ⟨hF.nil, hS.drew, Ext.drew _ _⟩ ?_ ?_ ?_
  all_goals clear hF fa
  ·
   refine ⟨?_, trivial⟩
   ·
    rintro fa w' i o d v ho hd hna ⟨hA, hR⟩; exact ⟨hA.put_other v (freeOf_at (acts := []) rfl ho hd hna), hR⟩
  ·
   refine ⟨?_, ?_, ?_, ?_, ?_, ?_, ?_, ?_, ?_, ?_, ?_, ?_, ?_, ?_, ?_, ?_, ?_, ?_, trivial⟩
   ·
    refine .inl ⟨rfl, _, _, rfl, rfl, fun s fa w' hΦ hF hB K hK => ?_⟩
    exact fl_val rfl rfl rfl (ex_move (hF.ev rfl)) hK
   ·
    refine .inl ⟨rfl, _, _, rfl, rfl, fun s fa w' hΦ hF hB K hK => ?_⟩
    exact fl_val rfl rfl rfl (ex_move (hF.ev rfl)) hK
   ·
    refine .inl ⟨rfl, _, _, rfl, rfl, fun s fa w' hΦ hF hB K hK => ?_⟩
    exact fl_val rfl rfl rfl (ex_move (hF.ev rfl)) hK
   ·
    refine .inl ⟨rfl, _, _, rfl, rfl, fun s fa w' hΦ hF hB K hK => ?_⟩
    replace hF := hF.cons (hB.val 1 _ 74 _ rfl rfl rfl rfl)
    replace hF := hF.cons (hB.val 2 _ 75 _ rfl rfl rfl rfl)
    exact fl_val rfl rfl rfl (ex_add (hF.ev rfl) (hF.ev rfl) vi64) hK
   ·
    refine .inl ⟨rfl, _, _, rfl, rfl, fun s fa w' hΦ hF hB K hK => ?_⟩
    replace hF := hF.cons (hB.val 0 _ 73 _ rfl rfl rfl rfl)
    replace hF := hF.cons (hB.val 3 _ 76 _ rfl rfl rfl rfl)
    exact fl_val rfl rfl rfl (ex_idxo (j := j - 1 + (trimz b).length) TfR.sl22 (hF.ev rfl) (hF.ev rfl) (by omega) (by omega)) hK
   ·
    refine .inr (.inl ⟨rfl, _, _, rfl, rfl, ?_, trivial⟩)
    ·
     intro fa w' hΦ hF hB K hK
     obtain ⟨hA, hS, E_w'⟩ := hΦ
     replace hF := hF.cons (hB.val 4 _ 77 _ rfl rfl rfl rfl)
     exact fl_val rfl rfl rfl (ex_load1b TfR.one62 (hF.ev rfl) (hS.get 1 rfl) (us_arr2 (by first | omega | (simp; omega)))) hK
   ·
    refine .inl ⟨rfl, _, _, rfl, rfl, fun s fa w' hΦ hF hB K hK => ?_⟩
    replace hF := hF.cons (hB.val 5 _ 78 _ rfl rfl rfl rfl)
    exact fl_val rfl rfl rfl (ex_conv TfR.unds62 TfR.und75 (hF.ev rfl) (wu64n (by omega))) hK
   ·
    refine .inl ⟨rfl, _, _, rfl, rfl, fun s fa w' hΦ hF hB K hK => ?_⟩
    replace hF := hF.cons (hB.val 6 _ 79 _ rfl rfl rfl rfl)
    exact fl_val rfl rfl rfl (ex_mul (hF.ev rfl) (hF.ev rfl) vu64) hK
   ·
    refine .inl ⟨rfl, _, _, rfl, rfl, fun s fa w' hΦ hF hB K hK => ?_⟩
    exact fl_val rfl rfl rfl (ex_move (hF.ev rfl)) hK
   ·
    refine .inl ⟨rfl, _, _, rfl, rfl, fun s fa w' hΦ hF hB K hK => ?_⟩
    exact fl_val rfl rfl rfl (ex_move (hF.ev rfl)) hK
   ·
    refine .inl ⟨rfl, _, _, rfl, rfl, fun s fa w' hΦ hF hB K hK => ?_⟩
    exact fl_val rfl rfl rfl (ex_move (hF.ev rfl)) hK
   ·
    refine .inl ⟨rfl, _, _, rfl, rfl, fun s fa w' hΦ hF hB K hK => ?_⟩
    replace hF := hF.cons (hB.val 9 _ 82 _ rfl rfl rfl rfl)
    replace hF := hF.cons (hB.val 10 _ 83 _ rfl rfl rfl rfl)
    exact fl_val rfl rfl rfl (ex_add (hF.ev rfl) (hF.ev rfl) vi64) hK
   ·
    refine .inl ⟨rfl, _, _, rfl, rfl, fun s fa w' hΦ hF hB K hK => ?_⟩
    replace hF := hF.cons (hB.val 11 _ 84 _ rfl rfl rfl rfl)
    exact fl_val rfl rfl rfl (ex_sub (hF.ev rfl) (hF.ev rfl) vi64) hK
   ·
    refine .inl ⟨rfl, _, _, rfl, rfl, fun s fa w' hΦ hF hB K hK => ?_⟩
    replace hF := hF.cons (hB.val 8 _ 81 _ rfl rfl rfl rfl)
    replace hF := hF.cons (hB.val 12 _ 85 _ rfl rfl rfl rfl)
    exact fl_val rfl rfl rfl (ex_idxo (j := j - 1 + (trimz b).length - 1) TfR.sl22 (hF.ev rfl) (hF.ev rfl) (by omega) (by omega)) hK
   ·
    refine .inr (.inl ⟨rfl, _, _, rfl, rfl, ?_, trivial⟩)
    ·
     intro fa w' hΦ hF hB K hK
     obtain ⟨hA, hS, E_w'⟩ := hΦ
     replace hF := hF.cons (hB.val 13 _ 86 _ rfl rfl rfl rfl)
     exact fl_val rfl rfl rfl (ex_load1b TfR.one62 (hF.ev rfl) (hS.get 1 rfl) (us_arr2 (by first | omega | (simp; omega)))) hK
   ·
    refine .inl ⟨rfl, _, _, rfl, rfl, fun s fa w' hΦ hF hB K hK => ?_⟩
    replace hF := hF.cons (hB.val 14 _ 87 _ rfl rfl rfl rfl)
    exact fl_val rfl rfl rfl (ex_conv TfR.unds62 TfR.und75 (hF.ev rfl) (wu64n (by omega))) hK
   ·
    refine .inl ⟨rfl, _, _, rfl, rfl, fun s fa w' hΦ hF hB K hK => ?_⟩
    replace hF := hF.cons (hB.val 7 _ 80 _ rfl rfl rfl rfl)
    replace hF := hF.cons (hB.val 15 _ 88 _ rfl rfl rfl rfl)
    exact fl_val rfl rfl rfl (ex_add (hF.ev rfl) (hF.ev rfl) vu64) hK
   ·
    refine .inl ⟨rfl, _, _, rfl, rfl, fun s fa w' hΦ hF hB K hK => ?_⟩
    replace hF := hF.cons (hB.val 16 _ 89 _ rfl rfl rfl rfl)
    exact fl_val rfl rfl rfl (ex_assign (hF.ev rfl)) hK
  intro fa w113 hΦ hF hC
  obtain ⟨hA, hS, E_w113⟩ := hΦ
  replace hF := hF.cons (hC 17 _ 12 _ rfl rfl rfl)
  clear hA hC
  refine x_tn ?_
  refine c_seq ?_
  obtain ⟨ad_94, hA_94, hq_94⟩ := (hu105.ext ((E108.trans E111).trans E_w113)).cl.at2 (us_get (l := (trimz o_91)) (i := (trimz b).length - 1) (by omega))
  obtain ⟨ad_102, hA_102, hq_102⟩ := (hu105.ext ((E108.trans E111).trans E_w113)).cl.at2 (us_get (l := (trimz o_91)) (i := (trimz b).length - 1) (by omega))
  refine drawn2 (N := 179) (L0 := [(0, (.slice (A4) ((trimz a).length) (c5))), (1, (.slice (A10) ((trimz b).length) (c11))), (4, (.slice (none) (0) (0))), (5, (.slice (none) (0) (0))), (23, (.bool (decide ((((trimz b).length : Nat) : Int) = 1)))), (34, (.bool (decide ((cmpN (val ((trimz a))) (val ((trimz b)))) < 0)))), (6, (.int .i64 ((((trimz b).length : Nat) : Int)))), (7, (.int .u32 (((sc : Nat) : Int)))), (8, (.slice (some ⟨g75, 0, none⟩) ((trimz a).length + 2) (c76))), (9, (.slice (A103) ((trimz o_91).length) (c104))), (10, (.slice (some ⟨g106, 0, none⟩) (((trimz a).length + 2) - ((trimz b).length)) (((trimz a).length + 2) - ((trimz b).length)))), (11, (.int .i64 (((j : Nat) : Int) - 1))), (70, (.bool (decide ((((j : Nat) : Int) - 1) ≥ 0)))), (12, (.int .u64 ((((U.getD (j - 1 + (trimz b).length) 0 : Nat) : Int) * 1000000000) + ((U.getD (j - 1 + (trimz b).length - 1) 0 : Nat) : Int))))]) [some (.int .u64 ((((U.getD (j - 1 + (trimz b).length) 0 : Nat) : Int) * 1000000000) + ((U.getD (j - 1 + (trimz b).length - 1) 0 : Nat) : Int))), some (.slice (A103) ((trimz o_91).length) (c104)), some (.int .i64 ((((trimz b).length : Nat) : Int))), some (.int .i64 ((((trimz b).length : Nat) : Int) - 1)), some (.pointer (some (ad_94.add ((trimz b).length - 1)))), some (.int .u32 ((((trimz o_91).getD ((trimz b).length - 1) 0 : Nat) : Int))), some (.int .u64 ((((trimz o_91).getD ((trimz b).length - 1) 0 : Nat) : Int))), some (.int .u64 ((((((U.getD (j - 1 + (trimz b).length) 0) * 1000000000) + (U.getD (j - 1 + (trimz b).length - 1) 0)) / ((trimz o_91).getD ((trimz b).length - 1) 0) : Nat) : Int))), some (.int .u64 ((((U.getD (j - 1 + (trimz b).length) 0 : Nat) : Int) * 1000000000) + ((U.getD (j - 1 + (trimz b).length - 1) 0 : Nat) : Int))), some (.slice (A103) ((trimz o_91).length) (c104)), some (.int .i64 ((((trimz b).length : Nat) : Int))), some (.int .i64 ((((trimz b).length : Nat) : Int) - 1)), some (.pointer (some (ad_102.add ((trimz b).length - 1)))), some (.int .u32 ((((trimz o_91).getD ((trimz b).length - 1) 0 : Nat) : Int))), some (.int .u64 ((((trimz o_91).getD ((trimz b).length - 1) 0 : Nat) : Int))), some (.int .u64 ((((((U.getD (j - 1 + (trimz b).length) 0) * 1000000000) + (U.getD (j - 1 + (trimz b).length - 1) 0)) % ((trimz o_91).getD ((trimz b).length - 1) 0) : Nat) : Int))), some (.int .u64 ((((((U.getD (j - 1 + (trimz b).length) 0) * 1000000000) + (U.getD (j - 1 + (trimz b).length - 1) 0)) / ((trimz o_91).getD ((trimz b).length - 1) 0) : Nat) : Int))), some (.int .u64 ((((((U.getD (j - 1 + (trimz b).length) 0) * 1000000000) + (U.getD (j - 1 + (trimz b).length - 1) 0)) % ((trimz o_91).getD ((trimz b).length - 1) 0) : Nat) : Int)))] [] [[]] [[0], [0], [0], [0], [0], [0], [0], [0], [0], [0], [0], [0], [0], [0], [0], [0], [0], [0]] 0 [
        fun fa w' => Frm 179 fa [] ∧ St w w' [(g106, 62, (us (Q)).toArray), (g75, 62, (us (U) ++ R77).toArray)] ∧ Ext w113 (g106 :: (g75 :: X)) w' (g106 :: (g75 :: X))
      ] TfR.mixed rfl rfl rfl rfl rfl rfl (hF.all ⟨rfl, rfl, rfl, rfl, rfl, rfl, rfl, rfl, rfl, rfl, rfl, rfl, rfl, rfl, trivial⟩) rfl ⟨hF.nil, hS.drew, Ext.drew _ _⟩ ?_ ?_ ?_
  all_goals clear hF fa
  ·
   refine ⟨?_, trivial⟩
   ·
    rintro fa w' i o d v ho hd hna ⟨hA, hR⟩; exact ⟨hA.put_other v (freeOf_at (acts := []) rfl ho hd hna), hR⟩
  ·
   refine ⟨?_, ?_, ?_, ?_, ?_, ?_, ?_, ?_, ?_, ?_, ?_, ?_, ?_, ?_, ?_, ?_, ?_, ?_, trivial⟩
   ·
    refine .inl ⟨rfl, _, _, rfl, rfl, fun s fa w' hΦ hF hB K hK => ?_⟩
    exact fl_val rfl rfl rfl (ex_move (hF.ev rfl)) hK
   ·
    refine .inl ⟨rfl, _, _, rfl, rfl, fun s fa w' hΦ hF hB K hK => ?_⟩
    exact fl_val rfl rfl rfl (ex_move (hF.ev rfl)) hK
   ·
    refine .inl ⟨rfl, _, _, rfl, rfl, fun s fa w' hΦ hF hB K hK => ?_⟩
    exact fl_val rfl rfl rfl (ex_move (hF.ev rfl)) hK
   ·
    refine .inl ⟨rfl, _, _, rfl, rfl, fun s fa w' hΦ hF hB K hK => ?_⟩
    replace hF := hF.cons (hB.val 2 _ 92 _ rfl rfl rfl rfl)
    exact fl_val rfl rfl rfl (ex_sub (hF.ev rfl) (hF.ev rfl) vi64) hK
   ·
    refine .inl ⟨rfl, _, _, rfl, rfl, fun s fa w' hΦ hF hB K hK => ?_⟩
    replace hF := hF.cons (hB.val 1 _ 91 _ rfl rfl rfl rfl)
    replace hF := hF.cons (hB.val 3 _ 93 _ rfl rfl rfl rfl)
    exact fl_val rfl rfl rfl (ex_idx (j := (trimz b).length - 1) TfR.sl22 (hF.ev rfl) hA_94 (hF.ev rfl) (by omega) (by omega)) hK
   ·
    refine .inr (.inl ⟨rfl, _, _, rfl, rfl, ?_, trivial⟩)
    ·
     intro fa w' hΦ hF hB K hK
     obtain ⟨hA, hS, E_w'⟩ := hΦ
     replace hF := hF.cons (hB.val 4 _ 94 _ rfl rfl rfl rfl)
     exact fl_val rfl rfl rfl (ex_load1 TfR.one62 (hF.ev rfl) (hq_94 E_w')) hK
   ·
    refine .inl ⟨rfl, _, _, rfl, rfl, fun s fa w' hΦ hF hB K hK => ?_⟩
    replace hF := hF.cons (hB.val 5 _ 95 _ rfl rfl rfl rfl)
    exact fl_val rfl rfl rfl (ex_conv TfR.unds62 TfR.und75 (hF.ev rfl) (wu64n (by omega))) hK
   ·
    refine .inl ⟨rfl, _, _, rfl, rfl, fun s fa w' hΦ hF hB K hK => ?_⟩
    replace hF := hF.cons (hB.val 0 _ 90 _ rfl rfl rfl rfl)
    replace hF := hF.cons (hB.val 6 _ 96 _ rfl rfl rfl rfl)
    exact fl_val rfl rfl rfl (ex_quo (hF.ev rfl) (hF.ev rfl) (by omega) (q_u64 (x := ((U.getD (j - 1 + (trimz b).length) 0) * 1000000000) + (U.getD (j - 1 + (trimz b).length - 1) 0)) (y := (trimz o_91).getD ((trimz b).length - 1) 0) (by omega) (by omega) (by omega))) hK
   ·
    refine .inl ⟨rfl, _, _, rfl, rfl, fun s fa w' hΦ hF hB K hK => ?_⟩
    exact fl_val rfl rfl rfl (ex_move (hF.ev rfl)) hK
   ·
    refine .inl ⟨rfl, _, _, rfl, rfl, fun s fa w' hΦ hF hB K hK => ?_⟩
    exact fl_val rfl rfl rfl (ex_move (hF.ev rfl)) hK
   ·
    refine .inl ⟨rfl, _, _, rfl, rfl, fun s fa w' hΦ hF hB K hK => ?_⟩
    exact fl_val rfl rfl rfl (ex_move (hF.ev rfl)) hK
   ·
    refine .inl ⟨rfl, _, _, rfl, rfl, fun s fa w' hΦ hF hB K hK => ?_⟩
    replace hF := hF.cons (hB.val 10 _ 100 _ rfl rfl rfl rfl)
    exact fl_val rfl rfl rfl (ex_sub (hF.ev rfl) (hF.ev rfl) vi64) hK
   ·
    refine .inl ⟨rfl, _, _, rfl, rfl, fun s fa w' hΦ hF hB K hK => ?_⟩
    replace hF := hF.cons (hB.val 9 _ 99 _ rfl rfl rfl rfl)
    replace hF := hF.cons (hB.val 11 _ 101 _ rfl rfl rfl rfl)
    exact fl_val rfl rfl rfl (ex_idx (j := (trimz b).length - 1) TfR.sl22 (hF.ev rfl) hA_102 (hF.ev rfl) (by omega) (by omega)) hK
   ·
    refine .inr (.inl ⟨rfl, _, _, rfl, rfl, ?_, trivial⟩)
    ·
     intro fa w' hΦ hF hB K hK
     obtain ⟨hA, hS, E_w'⟩ := hΦ
     replace hF := hF.cons (hB.val 12 _ 102 _ rfl rfl rfl rfl)
     exact fl_val rfl rfl rfl (ex_load1 TfR.one62 (hF.ev rfl) (hq_102 E_w')) hK
   ·
    refine .inl ⟨rfl, _, _, rfl, rfl, fun s fa w' hΦ hF hB K hK => ?_⟩
    replace hF := hF.cons (hB.val 13 _ 103 _ rfl rfl rfl rfl)
    exact fl_val rfl rfl rfl (ex_conv TfR.unds62 TfR.und75 (hF.ev rfl) (wu64n (by omega))) hK
   ·
    refine .inl ⟨rfl, _, _, rfl, rfl, fun s fa w' hΦ hF hB K hK => ?_⟩
    replace hF := hF.cons (hB.val 8 _ 98 _ rfl rfl rfl rfl)
    replace hF := hF.cons (hB.val 14 _ 104 _ rfl rfl rfl rfl)
    exact fl_val rfl rfl rfl (ex_rem (hF.ev rfl) (hF.ev rfl) (by omega) (r_any (x := ((U.getD (j - 1 + (trimz b).length) 0) * 1000000000) + (U.getD (j - 1 + (trimz b).length - 1) 0)) (y := (trimz o_91).getD ((trimz b).length - 1) 0) (by omega) (by omega))) hK
   ·
    refine .inl ⟨rfl, _, _, rfl, rfl, fun s fa w' hΦ hF hB K hK => ?_⟩
    replace hF := hF.cons (hB.val 7 _ 97 _ rfl rfl rfl rfl)
    exact fl_val rfl rfl rfl (ex_assign (hF.ev rfl)) hK
   ·
    refine .inl ⟨rfl, _, _, rfl, rfl, fun s fa w' hΦ hF hB K hK => ?_⟩
    replace hF := hF.cons (hB.val 15 _ 105 _ rfl rfl rfl rfl)
    exact fl_val rfl rfl rfl (ex_assign (hF.ev rfl)) hK
  intro fa w114 hΦ hF hC
  obtain ⟨hA, hS, E_w114⟩ := hΦ
  replace hF := hF.cons (hC 16 _ 13 _ rfl rfl rfl)
  replace hF := hF.cons (hC 17 _ 14 _ rfl rfl rfl)
  clear hA hC
  refine x_tn ?_
  refine c_cut (fun fa w' => ∃ gs : Nat, Frm 179 fa [(0, (.slice (A4) ((trimz a).length) (c5))), (1, (.slice (A10) ((trimz b).length) (c11))), (4, (.slice (none) (0) (0))), (5, (.slice (none) (0) (0))), (23, (.bool (decide ((((trimz b).length : Nat) : Int) = 1)))), (34, (.bool (decide ((cmpN (val ((trimz a))) (val ((trimz b)))) < 0)))), (6, (.int .i64 ((((trimz b).length : Nat) : Int)))), (7, (.int .u32 (((sc : Nat) : Int)))), (8, (.slice (some ⟨g75, 0, none⟩) ((trimz a).length + 2) (c76))), (9, (.slice (A103) ((trimz o_91).length) (c104))), (10, (.slice (some ⟨g106, 0, none⟩) (((trimz a).length + 2) - ((trimz b).length)) (((trimz a).length + 2) - ((trimz b).length)))), (11, (.int .i64 (((j : Nat) : Int) - 1))), (70, (.bool (decide ((((j : Nat) : Int) - 1) ≥ 0)))), (12, (.int .u64 ((((U.getD (j - 1 + (trimz b).length) 0 : Nat) : Int) * 1000000000) + ((U.getD (j - 1 + (trimz b).length - 1) 0 : Nat) : Int)))), (13, (.int .u64 (((gs : Nat) : Int))))] ∧ St w w' [(g106, 62, (us (Q)).toArray), (g75, 62, (us (U) ++ R77).toArray)] ∧ Ext w114 (g106 :: (g75 :: X)) w' (g106 :: (g75 :: X)) ∧ (gs < 1000000000) ∧ (gs * val (trimz o_91) ≤ val (win U (j - 1) ((trimz b).length + 1)) + val (trimz o_91)) ∧ (val (win U (j - 1) ((trimz b).length + 1)) < (gs + 1) * val (trimz o_91))) ?_ ?_
  ·
   refine c_block ?_
   refine c_loop (fun mu fa w' => ∃ g : Nat, ∃ r : Nat, Frm 179 fa [(0, (.slice (A4) ((trimz a).length) (c5))), (1, (.slice (A10) ((trimz b).length) (c11))), (4, (.slice (none) (0) (0))), (5, (.slice (none) (0) (0))), (23, (.bool (decide ((((trimz b).length : Nat) : Int) = 1)))), (34, (.bool (decide ((cmpN (val ((trimz a))) (val ((trimz b)))) < 0)))), (6, (.int .i64 ((((trimz b).length : Nat) : Int)))), (7, (.int .u32 (((sc : Nat) : Int)))), (8, (.slice (some ⟨g75, 0, none⟩) ((trimz a).length + 2) (c76))), (9, (.slice (A103) ((trimz o_91).length) (c104))), (10, (.slice (some ⟨g106, 0, none⟩) (((trimz a).length + 2) - ((trimz b).length)) (((trimz a).length + 2) - ((trimz b).length)))), (11, (.int .i64 (((j : Nat) : Int) - 1))), (70, (.bool (decide ((((j : Nat) : Int) - 1) ≥ 0)))), (12, (.int .u64 ((((U.getD (j - 1 + (trimz b).length) 0 : Nat) : Int) * 1000000000) + ((U.getD (j - 1 + (trimz b).length - 1) 0 : Nat) : Int)))), (13, (.int .u64 (((g : Nat) : Int)))), (14, (.int .u64 (((r : Nat) : Int))))] ∧ St w w' [(g106, 62, (us (Q)).toArray), (g75, 62, (us (U) ++ R77).toArray)] ∧ Ext w114 (g106 :: (g75 :: X)) w' (g106 :: (g75 :: X)) ∧ (g * (trimz o_91).getD ((trimz b).length - 1) 0 + r = U.getD (j - 1 + (trimz b).length) 0 * 1000000000 + U.getD (j - 1 + (trimz b).length - 1) 0) ∧ (r < 1000000000) ∧ (g ≤ 1000000001) ∧ (val (win U (j - 1) ((trimz b).length + 1)) < (g + 1) * val (trimz o_91)) ∧ g = mu) ?_ ?_
   ·
    exact ⟨_, (((U.getD (j - 1 + (trimz b).length) 0) * 1000000000) + (U.getD (j - 1 + (trimz b).length - 1) 0)) / ((trimz o_91).getD ((trimz b).length - 1) 0), (((U.getD (j - 1 + (trimz b).length) 0) * 1000000000) + (U.getD (j - 1 + (trimz b).length - 1) 0)) % ((trimz o_91).getD ((trimz b).length - 1) 0), (hF.all ⟨rfl, rfl, rfl, rfl, rfl, rfl, rfl, rfl, rfl, rfl, rfl, rfl, rfl, rfl, (lk_int rfl (by omega)), (lk_int rfl (by omega)), trivial⟩), hS, Ext.refl _ _, (by rw [Nat.mul_comm]; exact Nat.div_add_mod _ _), (Nat.lt_of_lt_of_le (Nat.mod_lt _ (by omega)) (by omega)), ((gs_init hdw hn2 hvn hvb hbU hvtop rfl).2), ((gs_init hdw hn2 hvn hvb hbU hvtop rfl).1), rfl⟩
   clear hF fa; intro n1_ fa w' hI
   clear hS
   obtain ⟨g, r, hF, hS, E118, hgr, hrb, hgb, hgw, rfl⟩ := hI
   rename World => w117
   have hgm : g * (trimz o_91).getD ((trimz b).length - 2) 0 ≤ 1000000001 * 999999999 := Nat.mul_le_mul hgb (by have := hvL ((trimz b).length - 2); omega)
   refine c_seq ?_
   refine c_seq ?_
   rcases Bool.eq_false_or_eq_true (decide (((g : Nat) : Int) ≥ 1000000000)) with hk119 | hk119
   ·
    have hk119p := hk119; simp at hk119p
    have hgB := of_decide_eq_true hk119
    have hgp : 0 < g := by omega
    have hw1 := gs_big (g := g) hdw (by omega)
    refine drawn2 (N := 179) (L0 := [(0, (.slice (A4) ((trimz a).length) (c5))), (1, (.slice (A10) ((trimz b).length) (c11))), (4, (.slice (none) (0) (0))), (5, (.slice (none) (0) (0))), (23, (.bool (decide ((((trimz b).length : Nat) : Int) = 1)))), (34, (.bool (decide ((cmpN (val ((trimz a))) (val ((trimz b)))) < 0)))), (6, (.int .i64 ((((trimz b).length : Nat) : Int)))), (7, (.int .u32 (((sc : Nat) : Int)))), (8, (.slice (some ⟨g75, 0, none⟩) ((trimz a).length + 2) (c76))), (9, (.slice (A103) ((trimz o_91).length) (c104))), (10, (.slice (some ⟨g106, 0, none⟩) (((trimz a).length + 2) - ((trimz b).length)) (((trimz a).length + 2) - ((trimz b).length)))), (11, (.int .i64 (((j : Nat) : Int) - 1))), (70, (.bool (decide ((((j : Nat) : Int) - 1) ≥ 0)))), (12, (.int .u64 ((((U.getD (j - 1 + (trimz b).length) 0 : Nat) : Int) * 1000000000) + ((U.getD (j - 1 + (trimz b).length - 1) 0 : Nat) : Int)))), (13, (.int .u64 (((g : Nat) : Int)))), (14, (.int .u64 (((r : Nat) : Int))))]) [some (.int .u64 (((g : Nat) : Int))), some (.bool (true)), some (.bool (true)), some undef, some undef, some undef, some undef, some undef, some undef, some undef, some undef, some undef, some undef, some undef, some undef, some undef, some undef, some undef, some undef, some undef, some undef, some undef, some undef, some (.bool (true))] [] [[]] [[0], [0], [0], [0], [0], [0], [0], [0], [0], [0], [0], [0], [0], [0], [0], [0], [0], [0], [0], [0], [0], [0], [0], [0]] 0 [
          fun fa w' => Frm 179 fa [] ∧ St w w' [(g106, 62, (us (Q)).toArray), (g75, 62, (us (U) ++ R77).toArray)] ∧ Ext w117 (g106 :: (g75 :: X)) w' (g106 :: (g75 :: X))
        ] TfR.mixed rfl rfl rfl rfl rfl rfl (hF.all ⟨rfl, rfl, rfl, rfl, rfl, rfl, rfl, rfl, rfl, rfl, rfl, rfl, rfl, rfl, rfl, rfl, trivial⟩) rfl ⟨hF.nil, hS.drew, Ext.drew _ _⟩ ?_ ?_ ?_
    all_goals clear hF fa
    ·
     refine ⟨?_, trivial⟩
     ·
      rintro fa w' i o d v ho hd hna ⟨hA, hR⟩; exact ⟨hA.put_other v (freeOf_at (acts := []) rfl ho hd hna), hR⟩
    ·
     refine ⟨?_, ?_, ?_, ?_, ?_, ?_, ?_, ?_, ?_, ?_, ?_, ?_, ?_, ?_, ?_, ?_, ?_, ?_, ?_, ?_, ?_, ?_, ?_, ?_, trivial⟩
     ·
      refine .inl ⟨rfl, _, _, rfl, rfl, fun s fa w' hΦ hF hB K hK => ?_⟩
      exact fl_val rfl rfl rfl (ex_move (hF.ev rfl)) hK
     ·
      refine .inl ⟨rfl, _, _, rfl, rfl, fun s fa w' hΦ hF hB K hK => ?_⟩
      replace hF := hF.cons (hB.val 0 _ 106 _ rfl rfl rfl rfl)
      exact fl_val rfl rfl rfl (ex_b hk119 (ex_geq (hF.ev rfl) (hF.ev rfl))) hK
     ·
      refine .inl ⟨rfl, _, _, rfl, rfl, fun s fa w' hΦ hF hB K hK => ?_⟩
      replace hF := hF.cons (hB.val 1 _ 107 _ rfl rfl rfl rfl)
      exact fl_val rfl rfl rfl (ex_move (hF.ev rfl)) hK
     ·
      refine .inl ⟨rfl, _, _, rfl, rfl, fun s fa w' hΦ hF hB K hK => ?_⟩
      replace hF := hF.cons (hB.val 2 _ 108 _ rfl rfl rfl rfl)
      exact fl_skip hF rfl rfl rfl rfl rfl hK
     ·
      refine .inl ⟨rfl, _, _, rfl, rfl, fun s fa w' hΦ hF hB K hK => ?_⟩
      replace hF := hF.cons (hB.val 2 _ 108 _ rfl rfl rfl rfl)
      exact fl_skip hF rfl rfl rfl rfl rfl hK
     ·
      refine .inl ⟨rfl, _, _, rfl, rfl, fun s fa w' hΦ hF hB K hK => ?_⟩
      replace hF := hF.cons (hB.val 2 _ 108 _ rfl rfl rfl rfl)
      exact fl_skip hF rfl rfl rfl rfl rfl hK
     ·
      refine .inl ⟨rfl, _, _, rfl, rfl, fun s fa w' hΦ hF hB K hK => ?_⟩
      replace hF := hF.cons (hB.val 5 _ 111 _ rfl rfl rfl rfl)
      replace hF := hF.cons (hB.val 2 _ 108 _ rfl rfl rfl rfl)
      exact fl_skip hF rfl rfl rfl rfl rfl hK
     ·
      refine .inl ⟨rfl, _, _, rfl, rfl, fun s fa w' hΦ hF hB K hK => ?_⟩
      replace hF := hF.cons (hB.val 4 _ 110 _ rfl rfl rfl rfl)
      replace hF := hF.cons (hB.val 6 _ 112 _ rfl rfl rfl rfl)
      replace hF := hF.cons (hB.val 2 _ 108 _ rfl rfl rfl rfl)
      exact fl_skip hF rfl rfl rfl rfl rfl hK
     ·
      refine .inl ⟨rfl, _, _, rfl, rfl, fun s fa w' hΦ hF hB K hK => ?_⟩
      replace hF := hF.cons (hB.val 7 _ 113 _ rfl rfl rfl rfl)
      replace hF := hF.cons (hB.val 2 _ 108 _ rfl rfl rfl rfl)
      exact fl_skip hF rfl rfl rfl rfl rfl hK
     ·
      refine .inl ⟨rfl, _, _, rfl, rfl, fun s fa w' hΦ hF hB K hK => ?_⟩
      replace hF := hF.cons (hB.val 8 _ 114 _ rfl rfl rfl rfl)
      replace hF := hF.cons (hB.val 2 _ 108 _ rfl rfl rfl rfl)
      exact fl_skip hF rfl rfl rfl rfl rfl hK
     ·
      refine .inl ⟨rfl, _, _, rfl, rfl, fun s fa w' hΦ hF hB K hK => ?_⟩
      replace hF := hF.cons (hB.val 3 _ 109 _ rfl rfl rfl rfl)
      replace hF := hF.cons (hB.val 9 _ 115 _ rfl rfl rfl rfl)
      replace hF := hF.cons (hB.val 2 _ 108 _ rfl rfl rfl rfl)
      exact fl_skip hF rfl rfl rfl rfl rfl hK
     ·
      refine .inl ⟨rfl, _, _, rfl, rfl, fun s fa w' hΦ hF hB K hK => ?_⟩
      replace hF := hF.cons (hB.val 2 _ 108 _ rfl rfl rfl rfl)
      exact fl_skip hF rfl rfl rfl rfl rfl hK
     ·
      refine .inl ⟨rfl, _, _, rfl, rfl, fun s fa w' hΦ hF hB K hK => ?_⟩
      replace hF := hF.cons (hB.val 11 _ 117 _ rfl rfl rfl rfl)
      replace hF := hF.cons (hB.val 2 _ 108 _ rfl rfl rfl rfl)
      exact fl_skip hF rfl rfl rfl rfl rfl hK
     ·
      refine .inl ⟨rfl, _, _, rfl, rfl, fun s fa w' hΦ hF hB K hK => ?_⟩
      replace hF := hF.cons (hB.val 2 _ 108 _ rfl rfl rfl rfl)
      exact fl_skip hF rfl rfl rfl rfl rfl hK
     ·
      refine .inl ⟨rfl, _, _, rfl, rfl, fun s fa w' hΦ hF hB K hK => ?_⟩
      replace hF := hF.cons (hB.val 2 _ 108 _ rfl rfl rfl rfl)
      exact fl_skip hF rfl rfl rfl rfl rfl hK
     ·
      refine .inl ⟨rfl, _, _, rfl, rfl, fun s fa w' hΦ hF hB K hK => ?_⟩
      replace hF := hF.cons (hB.val 2 _ 108 _ rfl rfl rfl rfl)
      exact fl_skip hF rfl rfl rfl rfl rfl hK
     ·
      refine .inl ⟨rfl, _, _, rfl, rfl, fun s fa w' hΦ hF hB K hK => ?_⟩
      replace hF := hF.cons (hB.val 14 _ 120 _ rfl rfl rfl rfl)
      replace hF := hF.cons (hB.val 15 _ 121 _ rfl rfl rfl rfl)
      replace hF := hF.cons (hB.val 2 _ 108 _ rfl rfl rfl rfl)
      exact fl_skip hF rfl rfl rfl rfl rfl hK
     ·
      refine .inl ⟨rfl, _, _, rfl, rfl, fun s fa w' hΦ hF hB K hK => ?_⟩
      replace hF := hF.cons (hB.val 16 _ 122 _ rfl rfl rfl rfl)
      replace hF := hF.cons (hB.val 2 _ 108 _ rfl rfl rfl rfl)
      exact fl_skip hF rfl rfl rfl rfl rfl hK
     ·
      refine .inl ⟨rfl, _, _, rfl, rfl, fun s fa w' hΦ hF hB K hK => ?_⟩
      replace hF := hF.cons (hB.val 13 _ 119 _ rfl rfl rfl rfl)
      replace hF := hF.cons (hB.val 17 _ 123 _ rfl rfl rfl rfl)
      replace hF := hF.cons (hB.val 2 _ 108 _ rfl rfl rfl rfl)
      exact fl_skip hF rfl rfl rfl rfl rfl hK
     ·
      refine .inl ⟨rfl, _, _, rfl, rfl, fun s fa w' hΦ hF hB K hK => ?_⟩
      replace hF := hF.cons (hB.val 18 _ 124 _ rfl rfl rfl rfl)
      replace hF := hF.cons (hB.val 2 _ 108 _ rfl rfl rfl rfl)
      exact fl_skip hF rfl rfl rfl rfl rfl hK
     ·
      refine .inl ⟨rfl, _, _, rfl, rfl, fun s fa w' hΦ hF hB K hK => ?_⟩
      replace hF := hF.cons (hB.val 19 _ 125 _ rfl rfl rfl rfl)
      replace hF := hF.cons (hB.val 2 _ 108 _ rfl rfl rfl rfl)
      exact fl_skip hF rfl rfl rfl rfl rfl hK
     ·
      refine .inl ⟨rfl, _, _, rfl, rfl, fun s fa w' hΦ hF hB K hK => ?_⟩
      replace hF := hF.cons (hB.val 12 _ 118 _ rfl rfl rfl rfl)
      replace hF := hF.cons (hB.val 20 _ 126 _ rfl rfl rfl rfl)
      replace hF := hF.cons (hB.val 2 _ 108 _ rfl rfl rfl rfl)
      exact fl_skip hF rfl rfl rfl rfl rfl hK
     ·
      refine .inl ⟨rfl, _, _, rfl, rfl, fun s fa w' hΦ hF hB K hK => ?_⟩
      replace hF := hF.cons (hB.val 10 _ 116 _ rfl rfl rfl rfl)
      replace hF := hF.cons (hB.val 21 _ 127 _ rfl rfl rfl rfl)
      replace hF := hF.cons (hB.val 2 _ 108 _ rfl rfl rfl rfl)
      exact fl_skip hF rfl rfl rfl rfl rfl hK
     ·
      refine .inl ⟨rfl, _, _, rfl, rfl, fun s fa w' hΦ hF hB K hK => ?_⟩
      replace hF := hF.cons (hB.val 2 _ 108 _ rfl rfl rfl rfl)
      replace hF := hF.cons (hB.val 22 _ 128 _ rfl rfl rfl rfl)
      exact fl_val rfl rfl rfl (ex_pick (hF.ev rfl) (fun _ => hF.ev rfl) (v := undef) (fun h => by cases h) rfl) hK
    intro fa w120 hΦ hF hC
    obtain ⟨hA, hS, E_w120⟩ := hΦ
    replace hF := hF.cons (hC 23 _ 129 _ rfl rfl rfl)
    clear hA hC
    refine x_tn ?_
    refine c_cond hF rfl (fun hc => ?_) (fun hc => ?_)
    rotate_left
    ·
     cases hc
    refine c_skip ?_
    refine x_tn ?_
    refine c_block ?_
    refine c_seq ?_
    refine c_reg ?_
    refine pr hF (pm rfl <| pg (fun _ hF => ex_sub (hF.ev rfl) (hF.ev rfl) vu64) <| pa rfl <| PR.nil) ?_
    clear hF fa; intro fa hF
    refine c_nil_then ?_
    refine c_seq ?_
    refine c_reg ?_
    refine pr hF (pm rfl <| pm rfl <| pm rfl <| pg (fun _ hF => ex_sub (hF.ev rfl) (hF.ev rfl) vi64) <| PR.nil) ?_
    clear hF fa; intro fa hF
    obtain ⟨ad121, hA122, hq123⟩ := (hu105.ext (((((E108.trans E111).trans E_w113).trans E_w114).trans E118).trans E_w120)).cl.at_ (us_get (l := (trimz o_91)) (i := (trimz b).length - 1) (by omega))
    refine pr hF (pg (fun _ hF => ex_idx (j := (trimz b).length - 1) TfR.sl22 (hF.ev rfl) hA122 (hF.ev rfl) (by omega) (by omega)) <| pg (fun _ hF => ex_load1 TfR.one62 (hF.ev rfl) hq123) <| pg (fun _ hF => ex_conv TfR.unds62 TfR.und75 (hF.ev rfl) (wu64n (by omega))) <| pg (fun _ hF => ex_add (hF.ev rfl) (hF.ev rfl) vu64) <| pa rfl <| PR.nil) ?_
    clear hF fa; intro fa hF
    replace hF : Frm 179 fa [(0, (.slice (A4) ((trimz a).length) (c5))), (1, (.slice (A10) ((trimz b).length) (c11))), (4, (.slice (none) (0) (0))), (5, (.slice (none) (0) (0))), (23, (.bool (decide ((((trimz b).length : Nat) : Int) = 1)))), (34, (.bool (decide ((cmpN (val ((trimz a))) (val ((trimz b)))) < 0)))), (6, (.int .i64 ((((trimz b).length : Nat) : Int)))), (7, (.int .u32 (((sc : Nat) : Int)))), (8, (.slice (some ⟨g75, 0, none⟩) ((trimz a).length + 2) (c76))), (9, (.slice (A103) ((trimz o_91).length) (c104))), (10, (.slice (some ⟨g106, 0, none⟩) (((trimz a).length + 2) - ((trimz b).length)) (((trimz a).length + 2) - ((trimz b).length)))), (11, (.int .i64 (((j : Nat) : Int) - 1))), (70, (.bool (decide ((((j : Nat) : Int) - 1) ≥ 0)))), (12, (.int .u64 ((((U.getD (j - 1 + (trimz b).length) 0 : Nat) : Int) * 1000000000) + ((U.getD (j - 1 + (trimz b).length - 1) 0 : Nat) : Int)))), (13, (.int .u64 (((g : Nat) : Int) - 1))), (14, (.int .u64 (((r : Nat) : Int) + (((trimz o_91).getD ((trimz b).length - 1) 0 : Nat) : Int)))), (129, (.bool (true)))] := (hF.all ⟨rfl, rfl, rfl, rfl, rfl, rfl, rfl, rfl, rfl, rfl, rfl, rfl, rfl, rfl, rfl, rfl, rfl, trivial⟩)
    refine c_nil_then ?_
    refine c_seq ?_
    refine c_reg ?_
    refine pr hF (pm rfl <| pg (fun _ hF => ex_geq (hF.ev rfl) (hF.ev rfl)) <| PR.nil) ?_
    clear hF fa; intro fa hF
    refine c_nil_then ?_
    refine c_cond hF rfl (fun hc124 => ?_) (fun hc124 => ?_)
    ·
     have hc124p : (((r : Nat) : Int) + (((trimz o_91).getD ((trimz b).length - 1) 0 : Nat) : Int)) ≥ 1000000000 := by first | simpa using hc124 | exact bang_t hc124 | exact bang_f hc124
     have hgr1 := g_dec hgp hgr
     have hout := gs_out (w2 := U.getD (j - 1 + (trimz b).length - 2) 0) hgr1 htl (by omega) (hvL ((trimz b).length - 2)) rfl
     refine c_exit ?_
     refine x_bm rfl ?_
     refine x_te ?_
     refine x_bh ?_
     refine x_tn ?_
     exact ⟨(g - 1), (hF.all ⟨rfl, rfl, rfl, rfl, rfl, rfl, rfl, rfl, rfl, rfl, rfl, rfl, rfl, rfl, (lk_int rfl (by omega)), trivial⟩), hS, (E118.trans E_w120), (hout.1), (gs_end hn2 hvn hvb hvtop hgr1 hout.1 hout.2), (by rw [Nat.sub_add_cancel hgp]; exact hw1)⟩
    have hc124p : ¬ ((((r : Nat) : Int) + (((trimz o_91).getD ((trimz b).length - 1) 0 : Nat) : Int)) ≥ 1000000000) := by first | simpa using hc124 | exact bang_t hc124 | exact bang_f hc124
    refine c_skip ?_
    refine x_bn ?_
    refine x_tn ?_
    exact ⟨_, (by omega), (g - 1), r + ((trimz o_91).getD ((trimz b).length - 1) 0), (hF.all ⟨rfl, rfl, rfl, rfl, rfl, rfl, rfl, rfl, rfl, rfl, rfl, rfl, rfl, rfl, (lk_int rfl (by omega)), (lk_int rfl (by omega)), trivial⟩), hS, (E118.trans E_w120), (g_dec hgp hgr), (by omega), (by omega), (by rw [Nat.sub_add_cancel hgp]; exact hw1), rfl⟩
   have hk119p := hk119; simp at hk119p
   have hgB : g < 1000000000 := by have := of_decide_eq_false hk119; omega
   obtain ⟨ad_113, hA_113, hq_113⟩ := (hu105.ext ((((E108.trans E111).trans E_w113).trans E_w114).trans E118)).cl.at2 (us_get (l := (trimz o_91)) (i := (trimz b).length - 2) (by omega))
   refine drawn2 (N := 179) (L0 := [(0, (.slice (A4) ((trimz a).length) (c5))), (1, (.slice (A10) ((trimz b).length) (c11))), (4, (.slice (none) (0) (0))), (5, (.slice (none) (0) (0))), (23, (.bool (decide ((((trimz b).length : Nat) : Int) = 1)))), (34, (.bool (decide ((cmpN (val ((trimz a))) (val ((trimz b)))) < 0)))), (6, (.int .i64 ((((trimz b).length : Nat) : Int)))), (7, (.int .u32 (((sc : Nat) : Int)))), (8, (.slice (some ⟨g75, 0, none⟩) ((trimz a).length + 2) (c76))), (9, (.slice (A103) ((trimz o_91).length) (c104))), (10, (.slice (some ⟨g106, 0, none⟩) (((trimz a).length + 2) - ((trimz b).length)) (((trimz a).length + 2) - ((trimz b).length)))), (11, (.int .i64 (((j : Nat) : Int) - 1))), (70, (.bool (decide ((((j : Nat) : Int) - 1) ≥ 0)))), (12, (.int .u64 ((((U.getD (j - 1 + (trimz b).length) 0 : Nat) : Int) * 1000000000) + ((U.getD (j - 1 + (trimz b).length - 1) 0 : Nat) : Int)))), (13, (.int .u64 (((g : Nat) : Int)))), (14, (.int .u64 (((r : Nat) : Int))))]) [some (.int .u64 (((g : Nat) : Int))), some (.bool (false)), some (.bool (false)), some (.int .u64 (((g : Nat) : Int))), some (.slice (A103) ((trimz o_91).length) (c104)), some (.int .i64 ((((trimz b).length : Nat) : Int))), some (.int .i64 ((((trimz b).length : Nat) : Int) - 2)), some (.pointer (some (ad_113.add ((trimz b).length - 2)))), some (.int .u32 ((((trimz o_91).getD ((trimz b).length - 2) 0 : Nat) : Int))), some (.int .u64 ((((trimz o_91).getD ((trimz b).length - 2) 0 : Nat) : Int))), some (.int .u64 (((g : Nat) : Int) * (((trimz o_91).getD ((trimz b).length - 2) 0 : Nat) : Int))), some (.int .u64 (((r : Nat) : Int))), some (.int .u64 (((r : Nat) : Int) * 1000000000)), some (.slice (some ⟨g75, 0, none⟩) ((trimz a).length + 2) (c76)), some (.int .i64 (((j : Nat) : Int) - 1)), some (.int .i64 ((((trimz b).length : Nat) : Int))), some (.int .i64 ((((j : Nat) : Int) - 1) + (((trimz b).length : Nat) : Int))), some (.int .i64 (((((j : Nat) : Int) - 1) + (((trimz b).length : Nat) : Int)) - 2)), some (.pointer (some ⟨g75, j - 1 + (trimz b).length - 2, none⟩)), some (.int .u32 (((U.getD (j - 1 + (trimz b).length - 2) 0 : Nat) : Int))), some (.int .u64 (((U.getD (j - 1 + (trimz b).length - 2) 0 : Nat) : Int))), some (.int .u64 ((((r : Nat) : Int) * 1000000000) + ((U.getD (j - 1 + (trimz b).length - 2) 0 : Nat) : Int))), some (.bool (decide ((((g : Nat) : Int) * (((trimz o_91).getD ((trimz b).length - 2) 0 : Nat) : Int)) > ((((r : Nat) : Int) * 1000000000) + ((U.getD (j - 1 + (trimz b).length - 2) 0 : Nat) : Int))))), some (.bool (decide ((((g : Nat) : Int) * (((trimz o_91).getD ((trimz b).length - 2) 0 : Nat) : Int)) > ((((r : Nat) : Int) * 1000000000) + ((U.getD (j - 1 + (trimz b).length - 2) 0 : Nat) : Int)))))] [] [[]] [[0], [0], [0], [0], [0], [0], [0], [0], [0], [0], [0], [0], [0], [0], [0], [0], [0], [0], [0], [0], [0], [0], [0], [0]] 0 [
         fun fa w' => Frm 179 fa [] ∧ St w w' [(g106, 62, (us (Q)).toArray), (g75, 62, (us (U) ++ R77).toArray)] ∧ Ext w117 (g106 :: (g75 :: X)) w' (g106 :: (g75 :: X))
       ] TfR.mixed rfl rfl rfl rfl rfl rfl (hF.all ⟨rfl, rfl, rfl, rfl, rfl, rfl, rfl, rfl, rfl, rfl, rfl, rfl, rfl, rfl, rfl, rfl, trivial⟩) rfl ⟨hF.nil, hS.drew, Ext.drew _ _⟩ ?_ ?_ ?_
   all_goals clear hF fa
   ·
    refine ⟨?_, trivial⟩
    ·
     rintro fa w' i o d v ho hd hna ⟨hA, hR⟩; exact ⟨hA.put_other v (freeOf_at (acts := []) rfl ho hd hna), hR⟩
   ·
    refine ⟨?_, ?_, ?_, ?_, ?_, ?_, ?_, ?_, ?_, ?_, ?_, ?_, ?_, ?_, ?_, ?_, ?_, ?_, ?_, ?_, ?_, ?_, ?_, ?_, trivial⟩
    ·
     refine .inl ⟨rfl, _, _, rfl, rfl, fun s fa w' hΦ hF hB K hK => ?_⟩
     exact fl_val rfl rfl rfl (ex_move (hF.ev rfl)) hK
    ·
     refine .inl ⟨rfl, _, _, rfl, rfl, fun s fa w' hΦ hF hB K hK => ?_⟩
     replace hF := hF.cons (hB.val 0 _ 106 _ rfl rfl rfl rfl)
     exact fl_val rfl rfl rfl (ex_b hk119 (ex_geq (hF.ev rfl) (hF.ev rfl))) hK
    ·
     refine .inl ⟨rfl, _, _, rfl, rfl, fun s fa w' hΦ hF hB K hK => ?_⟩
     replace hF := hF.cons (hB.val 1 _ 107 _ rfl rfl rfl rfl)
     exact fl_val rfl rfl rfl (ex_move (hF.ev rfl)) hK
    ·
     refine .inl ⟨rfl, _, _, rfl, rfl, fun s fa w' hΦ hF hB K hK => ?_⟩
     replace hF := hF.cons (hB.val 2 _ 108 _ rfl rfl rfl rfl)
     exact fl_valg hF rfl rfl rfl rfl (ex_move (hF.ev rfl)) hK
    ·
     refine .inl ⟨rfl, _, _, rfl, rfl, fun s fa w' hΦ hF hB K hK => ?_⟩
     replace hF := hF.cons (hB.val 2 _ 108 _ rfl rfl rfl rfl)
     exact fl_valg hF rfl rfl rfl rfl (ex_move (hF.ev rfl)) hK
    ·
     refine .inl ⟨rfl, _, _, rfl, rfl, fun s fa w' hΦ hF hB K hK => ?_⟩
     replace hF := hF.cons (hB.val 2 _ 108 _ rfl rfl rfl rfl)
     exact fl_valg hF rfl rfl rfl rfl (ex_move (hF.ev rfl)) hK
    ·
     refine .inl ⟨rfl, _, _, rfl, rfl, fun s fa w' hΦ hF hB K hK => ?_⟩
     replace hF := hF.cons (hB.val 5 _ 111 _ rfl rfl rfl rfl)
     replace hF := hF.cons (hB.val 2 _ 108 _ rfl rfl rfl rfl)
     exact fl_valg hF rfl rfl rfl rfl (ex_sub (hF.ev rfl) (hF.ev rfl) vi64) hK
    ·
     refine .inl ⟨rfl, _, _, rfl, rfl, fun s fa w' hΦ hF hB K hK => ?_⟩
     replace hF := hF.cons (hB.val 4 _ 110 _ rfl rfl rfl rfl)
     replace hF := hF.cons (hB.val 6 _ 112 _ rfl rfl rfl rfl)
     replace hF := hF.cons (hB.val 2 _ 108 _ rfl rfl rfl rfl)
     exact fl_valg hF rfl rfl rfl rfl (ex_idx (j := (trimz b).length - 2) TfR.sl22 (hF.ev rfl) hA_113 (hF.ev rfl) (by omega) (by omega)) hK
    ·
     refine .inr (.inl ⟨rfl, _, _, rfl, rfl, ?_, trivial⟩)
     ·
      intro fa w' hΦ hF hB K hK
      obtain ⟨hA, hS, E_w'⟩ := hΦ
      replace hF := hF.cons (hB.val 7 _ 113 _ rfl rfl rfl rfl)
      replace hF := hF.cons (hB.val 2 _ 108 _ rfl rfl rfl rfl)
      exact fl_valg hF rfl rfl rfl rfl (ex_load1 TfR.one62 (hF.ev rfl) (hq_113 E_w')) hK
    ·
     refine .inl ⟨rfl, _, _, rfl, rfl, fun s fa w' hΦ hF hB K hK => ?_⟩
     replace hF := hF.cons (hB.val 8 _ 114 _ rfl rfl rfl rfl)
     replace hF := hF.cons (hB.val 2 _ 108 _ rfl rfl rfl rfl)
     exact fl_valg hF rfl rfl rfl rfl (ex_conv TfR.unds62 TfR.und75 (hF.ev rfl) (wu64n (by omega))) hK
    ·
     refine .inl ⟨rfl, _, _, rfl, rfl, fun s fa w' hΦ hF hB K hK => ?_⟩
     replace hF := hF.cons (hB.val 3 _ 109 _ rfl rfl rfl rfl)
     replace hF := hF.cons (hB.val 9 _ 115 _ rfl rfl rfl rfl)
     replace hF := hF.cons (hB.val 2 _ 108 _ rfl rfl rfl rfl)
     exact fl_valg hF rfl rfl rfl rfl (ex_mul (hF.ev rfl) (hF.ev rfl) vu64) hK
    ·
     refine .inl ⟨rfl, _, _, rfl, rfl, fun s fa w' hΦ hF hB K hK => ?_⟩
     replace hF := hF.cons (hB.val 2 _ 108 _ rfl rfl rfl rfl)
     exact fl_valg hF rfl rfl rfl rfl (ex_move (hF.ev rfl)) hK
    ·
     refine .inl ⟨rfl, _, _, rfl, rfl, fun s fa w' hΦ hF hB K hK => ?_⟩
     replace hF := hF.cons (hB.val 11 _ 117 _ rfl rfl rfl rfl)
     replace hF := hF.cons (hB.val 2 _ 108 _ rfl rfl rfl rfl)
     exact fl_valg hF rfl rfl rfl rfl (ex_mul (hF.ev rfl) (hF.ev rfl) vu64) hK
    ·
     refine .inl ⟨rfl, _, _, rfl, rfl, fun s fa w' hΦ hF hB K hK => ?_⟩
     replace hF := hF.cons (hB.val 2 _ 108 _ rfl rfl rfl rfl)
     exact fl_valg hF rfl rfl rfl rfl (ex_move (hF.ev rfl)) hK
    ·
     refine .inl ⟨rfl, _, _, rfl, rfl, fun s fa w' hΦ hF hB K hK => ?_⟩
     replace hF := hF.cons (hB.val 2 _ 108 _ rfl rfl rfl rfl)
     exact fl_valg hF rfl rfl rfl rfl (ex_move (hF.ev rfl)) hK
    ·
     refine .inl ⟨rfl, _, _, rfl, rfl, fun s fa w' hΦ hF hB K hK => ?_⟩
     replace hF := hF.cons (hB.val 2 _ 108 _ rfl rfl rfl rfl)
     exact fl_valg hF rfl rfl rfl rfl (ex_move (hF.ev rfl)) hK
    ·
     refine .inl ⟨rfl, _, _, rfl, rfl, fun s fa w' hΦ hF hB K hK => ?_⟩
     replace hF := hF.cons (hB.val 14 _ 120 _ rfl rfl rfl rfl)
     replace hF := hF.cons (hB.val 15 _ 121 _ rfl rfl rfl rfl)
     replace hF := hF.cons (hB.val 2 _ 108 _ rfl rfl rfl rfl)
     exact fl_valg hF rfl rfl rfl rfl (ex_add (hF.ev rfl) (hF.ev rfl) vi64) hK
    ·
     refine .inl ⟨rfl, _, _, rfl, rfl, fun s fa w' hΦ hF hB K hK => ?_⟩
     replace hF := hF.cons (hB.val 16 _ 122 _ rfl rfl rfl rfl)
     replace hF := hF.cons (hB.val 2 _ 108 _ rfl rfl rfl rfl)
     exact fl_valg hF rfl rfl rfl rfl (ex_sub (hF.ev rfl) (hF.ev rfl) vi64) hK
    ·
     refine .inl ⟨rfl, _, _, rfl, rfl, fun s fa w' hΦ hF hB K hK => ?_⟩
     replace hF := hF.cons (hB.val 13 _ 119 _ rfl rfl rfl rfl)
     replace hF := hF.cons (hB.val 17 _ 123 _ rfl rfl rfl rfl)
     replace hF := hF.cons (hB.val 2 _ 108 _ rfl rfl rfl rfl)
     exact fl_valg hF rfl rfl rfl rfl (ex_idxo (j := j - 1 + (trimz b).length - 2) TfR.sl22 (hF.ev rfl) (hF.ev rfl) (by omega) (by omega)) hK
    ·
     refine .inr (.inl ⟨rfl, _, _, rfl, rfl, ?_, trivial⟩)
     ·
      intro fa w' hΦ hF hB K hK
      obtain ⟨hA, hS, E_w'⟩ := hΦ
      replace hF := hF.cons (hB.val 18 _ 124 _ rfl rfl rfl rfl)
      replace hF := hF.cons (hB.val 2 _ 108 _ rfl rfl rfl rfl)
      exact fl_valg hF rfl rfl rfl rfl (ex_load1b TfR.one62 (hF.ev rfl) (hS.get 1 rfl) (us_arr2 (by first | omega | (simp; omega)))) hK
    ·
     refine .inl ⟨rfl, _, _, rfl, rfl, fun s fa w' hΦ hF hB K hK => ?_⟩
     replace hF := hF.cons (hB.val 19 _ 125 _ rfl rfl rfl rfl)
     replace hF := hF.cons (hB.val 2 _ 108 _ rfl rfl rfl rfl)
     exact fl_valg hF rfl rfl rfl rfl (ex_conv TfR.unds62 TfR.und75 (hF.ev rfl) (wu64n (by omega))) hK
    ·
     refine .inl ⟨rfl, _, _, rfl, rfl, fun s fa w' hΦ hF hB K hK => ?_⟩
     replace hF := hF.cons (hB.val 12 _ 118 _ rfl rfl rfl rfl)
     replace hF := hF.cons (hB.val 20 _ 126 _ rfl rfl rfl rfl)
     replace hF := hF.cons (hB.val 2 _ 108 _ rfl rfl rfl rfl)
     exact fl_valg hF rfl rfl rfl rfl (ex_add (hF.ev rfl) (hF.ev rfl) vu64) hK
    ·
     refine .inl ⟨rfl, _, _, rfl, rfl, fun s fa w' hΦ hF hB K hK => ?_⟩
     replace hF := hF.cons (hB.val 10 _ 116 _ rfl rfl rfl rfl)
     replace hF := hF.cons (hB.val 21 _ 127 _ rfl rfl rfl rfl)
     replace hF := hF.cons (hB.val 2 _ 108 _ rfl rfl rfl rfl)
     exact fl_valg hF rfl rfl rfl rfl (ex_gtr (hF.ev rfl) (hF.ev rfl)) hK
    ·
     refine .inl ⟨rfl, _, _, rfl, rfl, fun s fa w' hΦ hF hB K hK => ?_⟩
     replace hF := hF.cons (hB.val 2 _ 108 _ rfl rfl rfl rfl)
     replace hF := hF.cons (hB.val 22 _ 128 _ rfl rfl rfl rfl)
     exact fl_val rfl rfl rfl (ex_pick (hF.ev rfl) (u := undef) (fun h => by cases h) (fun _ => hF.ev rfl) rfl) hK
   intro fa w125 hΦ hF hC
   obtain ⟨hA, hS, E_w125⟩ := hΦ
   replace hF := hF.cons (hC 23 _ 129 _ rfl rfl rfl)
   clear hA hC
   refine x_tn ?_
   refine c_cond hF rfl (fun hc126 => ?_) (fun hc126 => ?_)
   ·
    have hc126p : (((g : Nat) : Int) * (((trimz o_91).getD ((trimz b).length - 2) 0 : Nat) : Int)) > ((((r : Nat) : Int) * 1000000000) + ((U.getD (j - 1 + (trimz b).length - 2) 0 : Nat) : Int)) := by first | simpa using hc126 | exact bang_t hc126 | exact bang_f hc126
    have hgv : g * (trimz o_91).getD ((trimz b).length - 2) 0 > r * 1000000000 + U.getD (j - 1 + (trimz b).length - 2) 0 := gt_cast hc126p
    have hgp := g_pos hgv
    have hw1 := gs_step hn2 hvn hbU hgr hgv
    refine c_skip ?_
    refine x_tn ?_
    refine c_block ?_
    refine c_seq ?_
    refine c_reg ?_
    refine pr hF (pm rfl <| pg (fun _ hF => ex_sub (hF.ev rfl) (hF.ev rfl) vu64) <| pa rfl <| PR.nil) ?_
    clear hF fa; intro fa hF
    refine c_nil_then ?_
    refine c_seq ?_
    refine c_reg ?_
    refine pr hF (pm rfl <| pm rfl <| pm rfl <| pg (fun _ hF => ex_sub (hF.ev rfl) (hF.ev rfl) vi64) <| PR.nil) ?_
    clear hF fa; intro fa hF
    obtain ⟨ad127, hA128, hq129⟩ := (hu105.ext (((((E108.trans E111).trans E_w113).trans E_w114).trans E118).trans E_w125)).cl.at_ (us_get (l := (trimz o_91)) (i := (trimz b).length - 1) (by omega))
    refine pr hF (pg (fun _ hF => ex_idx (j := (trimz b).length - 1) TfR.sl22 (hF.ev rfl) hA128 (hF.ev rfl) (by omega) (by omega)) <| pg (fun _ hF => ex_load1 TfR.one62 (hF.ev rfl) hq129) <| pg (fun _ hF => ex_conv TfR.unds62 TfR.und75 (hF.ev rfl) (wu64n (by omega))) <| pg (fun _ hF => ex_add (hF.ev rfl) (hF.ev rfl) vu64) <| pa rfl <| PR.nil) ?_
    clear hF fa; intro fa hF
    replace hF : Frm 179 fa [(0, (.slice (A4) ((trimz a).length) (c5))), (1, (.slice (A10) ((trimz b).length) (c11))), (4, (.slice (none) (0) (0))), (5, (.slice (none) (0) (0))), (23, (.bool (decide ((((trimz b).length : Nat) : Int) = 1)))), (34, (.bool (decide ((cmpN (val ((trimz a))) (val ((trimz b)))) < 0)))), (6, (.int .i64 ((((trimz b).length : Nat) : Int)))), (7, (.int .u32 (((sc : Nat) : Int)))), (8, (.slice (some ⟨g75, 0, none⟩) ((trimz a).length + 2) (c76))), (9, (.slice (A103) ((trimz o_91).length) (c104))), (10, (.slice (some ⟨g106, 0, none⟩) (((trimz a).length + 2) - ((trimz b).length)) (((trimz a).length + 2) - ((trimz b).length)))), (11, (.int .i64 (((j : Nat) : Int) - 1))), (70, (.bool (decide ((((j : Nat) : Int) - 1) ≥ 0)))), (12, (.int .u64 ((((U.getD (j - 1 + (trimz b).length) 0 : Nat) : Int) * 1000000000) + ((U.getD (j - 1 + (trimz b).length - 1) 0 : Nat) : Int)))), (13, (.int .u64 (((g : Nat) : Int) - 1))), (14, (.int .u64 (((r : Nat) : Int) + (((trimz o_91).getD ((trimz b).length - 1) 0 : Nat) : Int)))), (129, (.bool (decide ((((g : Nat) : Int) * (((trimz o_91).getD ((trimz b).length - 2) 0 : Nat) : Int)) > ((((r : Nat) : Int) * 1000000000) + ((U.getD (j - 1 + (trimz b).length - 2) 0 : Nat) : Int))))))] := (hF.all ⟨rfl, rfl, rfl, rfl, rfl, rfl, rfl, rfl, rfl, rfl, rfl, rfl, rfl, rfl, rfl, rfl, rfl, trivial⟩)
    refine c_nil_then ?_
    refine c_seq ?_
    refine c_reg ?_
    refine pr hF (pm rfl <| pg (fun _ hF => ex_geq (hF.ev rfl) (hF.ev rfl)) <| PR.nil) ?_
    clear hF fa; intro fa hF
    refine c_nil_then ?_
    refine c_cond hF rfl (fun hc130 => ?_) (fun hc130 => ?_)
    ·
     have hc130p : (((r : Nat) : Int) + (((trimz o_91).getD ((trimz b).length - 1) 0 : Nat) : Int)) ≥ 1000000000 := by first | simpa using hc130 | exact bang_t hc130 | exact bang_f hc130
     have hgr1 := g_dec hgp hgr
     have hout := gs_out (w2 := U.getD (j - 1 + (trimz b).length - 2) 0) hgr1 htl (by omega) (hvL ((trimz b).length - 2)) rfl
     refine c_exit ?_
     refine x_bm rfl ?_
     refine x_te ?_
     refine x_bh ?_
     refine x_tn ?_
     exact ⟨(g - 1), (hF.all ⟨rfl, rfl, rfl, rfl, rfl, rfl, rfl, rfl, rfl, rfl, rfl, rfl, rfl, rfl, (lk_int rfl (by omega)), trivial⟩), hS, (E118.trans E_w125), (hout.1), (gs_end hn2 hvn hvb hvtop hgr1 hout.1 hout.2), (by rw [Nat.sub_add_cancel hgp]; exact hw1)⟩
    have hc130p : ¬ ((((r : Nat) : Int) + (((trimz o_91).getD ((trimz b).length - 1) 0 : Nat) : Int)) ≥ 1000000000) := by first | simpa using hc130 | exact bang_t hc130 | exact bang_f hc130
    refine c_skip ?_
    refine x_bn ?_
    refine x_tn ?_
    exact ⟨_, (by omega), (g - 1), r + ((trimz o_91).getD ((trimz b).length - 1) 0), (hF.all ⟨rfl, rfl, rfl, rfl, rfl, rfl, rfl, rfl, rfl, rfl, rfl, rfl, rfl, rfl, (lk_int rfl (by omega)), (lk_int rfl (by omega)), trivial⟩), hS, (E118.trans E_w125), (g_dec hgp hgr), (by omega), (by omega), (by rw [Nat.sub_add_cancel hgp]; exact hw1), rfl⟩
   have hc126p : ¬ ((((g : Nat) : Int) * (((trimz o_91).getD ((trimz b).length - 2) 0 : Nat) : Int)) > ((((r : Nat) : Int) * 1000000000) + ((U.getD (j - 1 + (trimz b).length - 2) 0 : Nat) : Int))) := by first | simpa using hc126 | exact bang_t hc126 | exact bang_f hc126
   refine c_exit ?_
   refine x_te ?_
   refine x_te ?_
   refine x_bh ?_
   refine x_tn ?_
   exact ⟨(g), (hF.all ⟨rfl, rfl, rfl, rfl, rfl, rfl, rfl, rfl, rfl, rfl, rfl, rfl, rfl, rfl, (lk_int rfl (by omega)), trivial⟩), hS, (E118.trans E_w125), (hgB), (gs_end hn2 hvn hvb hvtop hgr hgB (by omega)), (hgw)⟩
  clear hF fa hS
  rintro fa w115 ⟨gs, hF, hS, E116, hgsB, hslo, hshi⟩
  refine c_seq ?_
  refine c_seq ?_
  refine c_reg ?_
  refine pr hF (pm rfl <| pm rfl <| pm rfl <| pm rfl <| pg (fun _ hF => ex_add (hF.ev rfl) (hF.ev rfl) vi64) <| pg (fun _ hF => ex_add (hF.ev rfl) (hF.ev rfl) vi64) <| pg (fun _ hF => ex_slice_lhq (j := j - 1) (m := j - 1 + (trimz b).length + 1) (q := (trimz b).length + 1) TfR.sl22 (hF.ev rfl) (hF.ev rfl) (hF.ev rfl) (by omega) (by omega) (by omega) (by omega) (by omega) (by omega)) <| pm rfl <| pm rfl <| PR.nil) ?_
  clear hF fa; intro fa hF
  replace hS : St w w115 [(g75, 62, (us (U) ++ R77).toArray), (g106, 62, (us (Q)).toArray)] := hS.perm (List.Perm.swap _ _ _)
  have E131 : Ext w115 (g106 :: (g75 :: X)) w115 (g75 :: (g106 :: X)) := Ext.drop (by simp +contextual)
  have hC := integer_subtract_ok (w := w115) (X := X) (So := [(g106, 62, (us (Q)).toArray)]) (v := (trimz o_91)) (U := U) (c_U := c76 - (j - 1)) hX hS (j - 1) ((trimz b).length + 1) ⟨_, ((trimz o_91).length), _, rfl, (rfl), (hu105.ext (((((E108.trans E111).trans E_w113).trans E_w114).trans E116).trans E131))⟩ (gs) (by omega) (by omega) (by omega) (hbU) (hvb) (hgsB)
  refine st rfl (op_call hF rfl TfR.body121 (args3 (hF.ev rfl) (hF.ev rfl) (hF.ev (ev_int (b := ((gs : Nat) : Int)) rfl (by first | rfl | omega)))) hC ?_)
  clear hC hS
  rintro _ w135 ⟨o_137, cy_138, rfl, hp139, hp140, hp141, hp142, hp143, hS, E136⟩
  refine gen_ ?_; clear hF fa; intro fa hF
  replace E136 : Ext w115 (g75 :: (g106 :: X)) w135 (g75 :: (g106 :: X)) := E136
  have hs_len := hp139; have hs_lb := hp140; have hs_tk := hp141; have hs_dr := hp142; have hs_v := hp143
  replace hF : Frm 179 fa [(0, (.slice (A4) ((trimz a).length) (c5))), (1, (.slice (A10) ((trimz b).length) (c11))), (4, (.slice (none) (0) (0))), (5, (.slice (none) (0) (0))), (23, (.bool (decide ((((trimz b).length : Nat) : Int) = 1)))), (34, (.bool (decide ((cmpN (val ((trimz a))) (val ((trimz b)))) < 0)))), (6, (.int .i64 ((((trimz b).length : Nat) : Int)))), (7, (.int .u32 (((sc : Nat) : Int)))), (8, (.slice (some ⟨g75, 0, none⟩) ((trimz a).length + 2) (c76))), (9, (.slice (A103) ((trimz o_91).length) (c104))), (10, (.slice (some ⟨g106, 0, none⟩) (((trimz a).length + 2) - ((trimz b).length)) (((trimz a).length + 2) - ((trimz b).length)))), (11, (.int .i64 (((j : Nat) : Int) - 1))), (70, (.bool (decide ((((j : Nat) : Int) - 1) ≥ 0)))), (12, (.int .u64 ((((U.getD (j - 1 + (trimz b).length) 0 : Nat) : Int) * 1000000000) + ((U.getD (j - 1 + (trimz b).length - 1) 0 : Nat) : Int)))), (13, (.int .u64 (((gs : Nat) : Int)))), (151, (.bool (decide (0 < cy_138))))] := (hF.all ⟨rfl, rfl, rfl, rfl, rfl, rfl, rfl, rfl, rfl, rfl, rfl, rfl, rfl, rfl, rfl, rfl, trivial⟩)
  refine c_nil_then ?_
  refine c_cond hF rfl (fun hc144 => ?_) (fun hc144 => ?_)
  ·
   have hc144p : 0 < cy_138 := by first | simpa using hc144 | exact bang_t hc144 | exact bang_f hc144
   have hgs0 : 0 < gs := dig_pos hs_v hc144p (win_lt hs_lb _ _)
   have hcyp := hc144p
   refine c_seq ?_
   refine c_reg ?_
   refine pr hF (pm rfl <| pg (fun _ hF => ex_sub (hF.ev rfl) (hF.ev rfl) vu64) <| pa rfl <| PR.nil) ?_
   clear hF fa; intro fa hF
   refine c_nil_then ?_
   refine c_reg ?_
   refine pr hF (pm rfl <| pm rfl <| pm rfl <| pm rfl <| pg (fun _ hF => ex_add (hF.ev rfl) (hF.ev rfl) vi64) <| pg (fun _ hF => ex_add (hF.ev rfl) (hF.ev rfl) vi64) <| pg (fun _ hF => ex_slice_lhq (j := j - 1) (m := j - 1 + (trimz b).length + 1) (q := (trimz b).length + 1) TfR.sl22 (hF.ev rfl) (hF.ev rfl) (hF.ev rfl) (by omega) (by omega) (by omega) (by omega) (by omega) (by omega)) <| pm rfl <| PR.nil) ?_
   clear hF fa; intro fa hF
   have hC := integer_restore_ok (w := w135) (X := X) (So := [(g106, 62, (us (Q)).toArray)]) (v := (trimz o_91)) (U := o_137) (c_U := c76 - (j - 1)) hX hS (j - 1) ((trimz b).length + 1) ⟨_, ((trimz o_91).length), _, rfl, (rfl), (hu105.ext ((((((E108.trans E111).trans E_w113).trans E_w114).trans E116).trans E131).trans E136))⟩ (by omega) (by omega) (by omega) (hs_lb) (hvb)
   refine st rfl (op_call hF rfl TfR.body122 (args2 (hF.ev rfl) (hF.ev rfl)) hC ?_)
   clear hC hS
   rintro _ w148 ⟨o_150, cy_151, rfl, hp152, hp153, hp154, hp155, hp156, hp157, hS, E149⟩
   refine gen_ ?_; clear hF fa; intro fa hF
   replace E149 : Ext w135 (g75 :: (g106 :: X)) w148 (g75 :: (g106 :: X)) := E149
   have hr_len := hp152; have hr_lb := hp153; have hr_tk := hp154; have hr_dr := hp155; have hr_v := hp156; have hr_c := hp157
   have hdb := dig_back hs_v hcyp (win_lt hs_lb _ _) hslo hVM hr_v (win_lt hr_lb _ _) hr_c
   refine c_nil_then ?_
   refine c_reg ?_
   refine pr hF (pm rfl <| pm rfl <| pm rfl <| pg (fun _ hF => ex_conv TfR.unds75 TfR.und62 (hF.ev rfl) vu32) <| pg (fun _ hF => ex_idxo (j := j - 1) TfR.sl22 (hF.ev rfl) (hF.ev rfl) (by omega) (by omega)) <| PR.nil) ?_
   clear hF fa; intro fa hF
   refine st rfl (op_store (vs := #[.int .u32 ((gs - 1 : Nat) : Int)]) (v := .int .u32 ((gs - 1 : Nat) : Int)) (X := (g75 :: (g106 :: X))) hF hS 1 rfl (by simp) rfl (ev_int rfl (by omega)) rfl TfR.size62 rfl (us_fit (by first | omega | (simp; omega))) ?_)
   intro w158 hS E159
   rw [splice_us (by first | omega | (simp; omega))] at hS
   replace hF : Frm 179 fa [(0, (.slice (A4) ((trimz a).length) (c5))), (1, (.slice (A10) ((trimz b).length) (c11))), (4, (.slice (none) (0) (0))), (5, (.slice (none) (0) (0))), (23, (.bool (decide ((((trimz b).length : Nat) : Int) = 1)))), (34, (.bool (decide ((cmpN (val ((trimz a))) (val ((trimz b)))) < 0)))), (6, (.int .i64 ((((trimz b).length : Nat) : Int)))), (7, (.int .u32 (((sc : Nat) : Int)))), (8, (.slice (some ⟨g75, 0, none⟩) ((trimz a).length + 2) (c76))), (9, (.slice (A103) ((trimz o_91).length) (c104))), (10, (.slice (some ⟨g106, 0, none⟩) (((trimz a).length + 2) - ((trimz b).length)) (((trimz a).length + 2) - ((trimz b).length)))), (11, (.int .i64 (((j : Nat) : Int) - 1))), (70, (.bool (decide ((((j : Nat) : Int) - 1) ≥ 0)))), (12, (.int .u64 ((((U.getD (j - 1 + (trimz b).length) 0 : Nat) : Int) * 1000000000) + ((U.getD (j - 1 + (trimz b).length - 1) 0 : Nat) : Int)))), (13, (.int .u64 (((gs : Nat) : Int) - 1))), (151, (.bool (decide (0 < cy_138))))] := (hF.all ⟨rfl, rfl, rfl, rfl, rfl, rfl, rfl, rfl, rfl, rfl, rfl, rfl, rfl, rfl, rfl, rfl, trivial⟩)
   refine c_nil ?_
   refine x_bn ?_
   refine x_tn ?_
   refine c_reg ?_
   refine pr hF (pm rfl <| pg (fun _ hF => ex_sub (hF.ev rfl) (hF.ev rfl) vi64) <| pa rfl <| PR.nil) ?_
   clear hF fa; intro fa hF
   refine c_nil ?_
   refine x_tn ?_
   replace hS : St w w158 [(g106, 62, (us (Q.set (j - 1) (gs - 1))).toArray), (g75, 62, (us (o_150) ++ R77).toArray)] := hS.perm (List.Perm.swap _ _ _)
   have E160 : Ext w158 (g75 :: (g106 :: X)) w158 (g106 :: (g75 :: X)) := Ext.drop (by simp +contextual)
   exact ⟨_, (by omega), o_150, Q.set (j - 1) (gs - 1), (j - 1), (hF.all ⟨rfl, rfl, rfl, rfl, rfl, rfl, rfl, rfl, rfl, rfl, rfl, (lk_int rfl (by omega)), trivial⟩), hS, ((((((((E111.trans E_w113).trans E_w114).trans E116).trans E131).trans E136).trans E149).trans E159).trans E160), (by omega), (hr_len.trans (hs_len.trans hUl)), (hr_lb), (by simp; omega), (lb_set hbQ (by omega)), (DivInv.step (k := j - 1) (n := (trimz b).length) hI (by omega) (by omega) (hr_len.trans hs_len) (by omega) (hr_tk.trans hs_tk) (hr_dr.trans hs_dr) hdw.rest rfl rfl hdb.2), rfl⟩
  have hc144p : ¬ (0 < cy_138) := by first | simpa using hc144 | exact bang_t hc144 | exact bang_f hc144
  refine c_skip ?_
  refine x_tn ?_
  refine c_reg ?_
  refine pr hF (pm rfl <| pm rfl <| pm rfl <| pg (fun _ hF => ex_conv TfR.unds75 TfR.und62 (hF.ev rfl) (wu32n (by omega))) <| pg (fun _ hF => ex_idxo (j := j - 1) TfR.sl22 (hF.ev rfl) (hF.ev rfl) (by omega) (by omega)) <| PR.nil) ?_
  clear hF fa; intro fa hF
  refine st rfl (op_store (vs := #[.int .u32 ((gs : Nat) : Int)]) (v := .int .u32 ((gs : Nat) : Int)) (X := (g75 :: (g106 :: X))) hF hS 1 rfl (by simp) rfl (ev_int rfl (by omega)) rfl TfR.size62 rfl (us_fit (by first | omega | (simp; omega))) ?_)
  intro w161 hS E162
  rw [splice_us (by first | omega | (simp; omega))] at hS
  refine c_nil ?_
  refine x_bn ?_
  refine x_tn ?_
  refine c_reg ?_
  refine pr hF (pm rfl <| pg (fun _ hF => ex_sub (hF.ev rfl) (hF.ev rfl) vi64) <| pa rfl <| PR.nil) ?_
  clear hF fa; intro fa hF
  refine c_nil ?_
  refine x_tn ?_
  replace hS : St w w161 [(g106, 62, (us (Q.set (j - 1) (gs))).toArray), (g75, 62, (us (o_137) ++ R77).toArray)] := hS.perm (List.Perm.swap _ _ _)
  have E163 : Ext w161 (g75 :: (g106 :: X)) w161 (g106 :: (g75 :: X)) := Ext.drop (by simp +contextual)
  exact ⟨_, (by omega), o_137, Q.set (j - 1) (gs), (j - 1), (hF.all ⟨rfl, rfl, rfl, rfl, rfl, rfl, rfl, rfl, rfl, rfl, rfl, (lk_int rfl (by omega)), trivial⟩), hS, (((((((E111.trans E_w113).trans E_w114).trans E116).trans E131).trans E136).trans E162).trans E163), (by omega), (hs_len.trans hUl), (hs_lb), (by simp; omega), (lb_set hbQ (by omega)), (DivInv.step (k := j - 1) (n := (trimz b).length) hI (by omega) (by omega) hs_len (by omega) hs_tk hs_dr hdw.rest rfl rfl (dig_keep hs_v (by omega) hshi)), rfl⟩
 have hc112p : ¬ ((((j : Nat) : Int) - 1) ≥ 0) := by first | simpa using hc112 | exact bang_t hc112 | exact bang_f hc112
 refine c_exit ?_
 refine x_te ?_
 refine x_te ?_
 refine x_bh ?_
 refine x_tn ?_
 refine c_seq ?_
 refine c_reg ?_
 refine pr hF (pm rfl <| pm rfl <| pg (fun _ hF => ex_slice_h (j := (trimz b).length) TfR.sl22 (hF.ev rfl) (hF.ev rfl) (by omega) (by omega)) <| PR.nil) ?_
 clear hF fa; intro fa hF
 obtain ⟨hS1, hn1⟩ := hS.out hX 1 rfl
 have hu164 := UC.of_boxR (R := R77) (c := c76) (n := (trimz b).length) (L := U) (hS.get 1 rfl) hn1 (by unfold maxLen; omega) (by first | omega | (simp; omega)) (by first | omega | (simp; omega))
 have E165 : Ext w110 (g106 :: (g75 :: X)) w110 (g106 :: X) := Ext.drop (by simp +contextual)
 replace hu164 : UC w110 (g106 :: X) (some ⟨g75, 0, none⟩) (c76) (U.take ((trimz b).length)) := hu164
 replace hS : St w w110 [(g106, 62, (us (Q)).toArray)] := hS1; clear hn1
 have hC := integer_trim_ok (w := w110) (X := (g106 :: X)) (l := (U.take ((trimz b).length))) (hS.bnd hX) ⟨_, ((trimz b).length), _, rfl, (by rw [List.length_take]; omega), hu164⟩
 refine st rfl (op_call hF rfl TfR.body119 (args1 (hF.ev rfl)) hC ?_)
 clear hC
 rintro _ w166 ⟨⟨A169, _, c170, rfl, rfl, hu171⟩, hb167⟩
 refine gen_ ?_; clear hF fa; intro fa hF
 replace hS := hS.call hb167; have E168 := Ext.call (g106 :: X) hb167
 refine pr hF (pm rfl <| PR.nil) ?_
 clear hF fa; intro fa hF
 have hC := integer_byWord_ok (w := w166) (X := (g106 :: X)) (a := (trimz (U.take ((trimz b).length)))) (hS.bnd hX) ⟨_, ((trimz (U.take ((trimz b).length))).length), _, rfl, (rfl), hu171⟩ (sc) (by have := trimz_length_le (U.take (trimz b).length); simp at this; omega) (trimz_lb (hbU.take _)) (hsc0) (hscB)
 refine st rfl (op_call hF rfl TfR.body120 (args2 (hF.ev rfl) (hF.ev (ev_int (b := ((sc : Nat) : Int)) rfl (by first | rfl | omega)))) hC ?_)
 clear hC
 rintro _ w172 ⟨⟨qs_175, rs_176, _, _, rfl, ⟨A177, _, c178, rfl, rfl, hu179⟩, ⟨A180, _, c181, rfl, rfl, hu182⟩, hp183, hp184, hp185, hp186, hp187, hp188⟩, hb173⟩
 refine gen_ ?_; clear hF fa; intro fa hF
 replace hS := hS.call hb173; have E174 := Ext.call (g106 :: X) hb173
 have hw_lq := hp183; have hw_v := hp185; have hw_l := hp186; have hw_q := hp187; rw [val_trimz] at hw_v
 refine pr hF (pm rfl <| px rfl rfl <| px rfl rfl <| pa rfl <| pa rfl <| PR.nil) ?_
 clear hF fa; intro fa hF
 replace hF : Frm 179 fa [(0, (.slice (A4) ((trimz a).length) (c5))), (1, (.slice (A10) ((trimz b).length) (c11))), (4, (.slice (none) (0) (0))), (5, (.slice (none) (0) (0))), (23, (.bool (decide ((((trimz b).length : Nat) : Int) = 1)))), (34, (.bool (decide ((cmpN (val ((trimz a))) (val ((trimz b)))) < 0)))), (6, (.int .i64 ((((trimz b).length : Nat) : Int)))), (7, (.int .u32 (((sc : Nat) : Int)))), (8, (.slice (some ⟨g75, 0, none⟩) ((trimz a).length + 2) (c76))), (9, (.slice (A103) ((trimz o_91).length) (c104))), (10, (.slice (some ⟨g106, 0, none⟩) (((trimz a).length + 2) - ((trimz b).length)) (((trimz a).length + 2) - ((trimz b).length)))), (11, (.int .i64 (((j : Nat) : Int) - 1))), (70, (.bool (decide ((((j : Nat) : Int) - 1) ≥ 0)))), (15, (.slice (A177) (qs_175.length) (c178)))] := (hF.all ⟨rfl, rfl, rfl, rfl, rfl, rfl, rfl, rfl, rfl, rfl, rfl, rfl, rfl, rfl, trivial⟩)
 refine c_nil_then ?_
 refine c_seq ?_
 refine c_reg ?_
 refine pr hF (pm rfl <| pm rfl <| pa rfl <| pa rfl <| PR.nil) ?_
 clear hF fa; intro fa hF
 refine c_nil_then ?_
 refine c_ret ?_
 have hj0 : j = 0 := by omega
 subst hj0
 simp only [DivInv, List.drop_zero, Nat.pow_zero, Nat.one_mul] at hI
 have hvlt := val_lt _ hvb; rw [hvn] at hvlt
 have htk0 := take_small (U := U) (k := (trimz b).length) (by omega) (Nat.lt_trans hI.2 hvlt)
 rw [take_small (by omega) (Nat.lt_trans hI.2 hvlt)] at hw_v
 rw [hV] at hI
 have hend := div_end hsc0 hI.1 hI.2 hw_v hw_l
 have htln := trimz_length_le (U.take (trimz b).length); simp at htln
 refine end2 hF rfl (res_tmp hF rfl) (res_tmp hF rfl) ?_
 exact ⟨_, rfl, ⟨Q, qs_175, _, _, rfl, (UL.own (L := Q) (hS.get 0 rfl) (hS.notX hX 0 rfl) (by first | rfl | (simp; done) | omega) (by first | rfl | (simp; done) | omega) (by first | omega | (simp; omega)) (rfl)), (UL.fin (L := qs_175) ⟨_, _, _, rfl, (rfl), hu179⟩ (rfl) (fun x hx => by simp [hx])), (hbQ), (hw_lq), (hend.1), (hend.2), (by unfold dql; rw [if_neg (by omega), if_neg (by omega)]; omega), (by unfold drl; rw [if_neg (by omega), if_neg (by omega), hw_q]; exact div_rl hbU htk0 (by unfold dsc; rw [← hsc]; exact hI.1) hend.1 hend.2)⟩, hS.below⟩

end Go.Proofs.YtghlkihmnopenaaGreatDoor
