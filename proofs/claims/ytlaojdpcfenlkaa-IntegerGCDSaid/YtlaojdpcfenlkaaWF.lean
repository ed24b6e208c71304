/-
  What the functions times do, each call by call.
  Conditions: none.
-/
import Derived.Test.YtlaojdpcfenlkaaChecked
import Derived.Test.YtlaojdpcfenlkaaSwBaseK
import Derived.Test.YtlaojdpcfenlkaaWA
namespace Go.Proofs.Ytlaojdpcfenlkaa
open Go Go.RowKit Go.Sw
set_option linter.unusedVariables false
namespace TfF
theorem body43 : hasBody Try.prog 43 = true := by kernel_rfl
theorem el46 : Sw.elemOf Try.prog 46 = some (#[.int .u32 0], 1, 4) := by kernel_rfl
theorem mixed : Try.prog.follows .mixedOrders = true := by kernel_rfl
theorem one46 : isOne Try.prog 46 = true := by kernel_rfl
theorem size46 : (Try.prog.info? 46).map (fun i => i.size) = some 1 := by kernel_rfl
theorem sl22 : sliceOf Try.prog 22 = some (46, 1) := by kernel_rfl
theorem sls22 : (sliceOf Try.prog 22).isSome = true := by kernel_rfl
theorem und46 : Try.prog.underlying 46 = some (TypeDesc.int .u32) := by kernel_rfl
theorem und54 : Try.prog.underlying 54 = some (TypeDesc.int .u64) := by kernel_rfl
theorem unds46 : (Try.prog.underlying 46).isSome = true := by kernel_rfl
theorem unds54 : (Try.prog.underlying 54).isSome = true := by kernel_rfl
end TfF
set_option maxHeartbeats 4000000 in
theorem ref01_times_ok {w : World} {X : List Nat} (hX : ∀ m ∈ X, m < w.heap.size) {v_a : Value} {a : List Nat} (h_a : UL w X v_a (a)) {v_b : Value} {b : List Nat} (h_b : UL w X v_b (b)) (hn_a : a.length ≤ 1000000000000) (hn_b : b.length ≤ 1000000000000) (hb_a : Lb a) (hb_b : Lb b) :
    Calls Try.prog 48 #[v_a, v_b] w (Ret fun r w' => (UL w' X r (lim (val a * val b))) ∧ Below w.heap.size w w') := by
 refine enter (N := 68) (fn := Try.f48) (vs := [v_a, v_b]) Try.func48 rfl rfl rfl ?_
 intro fa hF
 obtain ⟨A_a, _, c_a, rfl, rfl, hu_a⟩ := h_a
 have hl_a := hu_a.len; have hc_a := hu_a.cap
 obtain ⟨A_b, _, c_b, rfl, rfl, hu_b⟩ := h_b
 have hl_b := hu_b.len; have hc_b := hu_b.cap
 replace hF : Frm 68 fa [(0, (.slice (A_a) (a.length) (c_a))), (1, (.slice (A_b) (b.length) (c_b)))] := hF
 have hS := St.refl w
 refine c_seq ?_
 refine c_reg ?_
 refine st_val hF rfl rfl rfl (ex_assign (hF.ev rfl)) ?_
 clear hF fa; intro fa hF
 refine c_nil_then ?_
 refine c_seq ?_
 refine c_reg ?_
 refine st_val hF rfl rfl rfl (ex_move (hF.ev rfl)) ?_
 clear hF fa; intro fa hF
 refine st_val hF rfl rfl rfl (ex_len TfF.sls22 (hF.ev rfl)) ?_
 clear hF fa; intro fa hF
 refine st_val hF rfl rfl rfl (ex_move (hF.ev rfl)) ?_
 clear hF fa; intro fa hF
 refine st_val hF rfl rfl rfl (ex_len TfF.sls22 (hF.ev rfl)) ?_
 clear hF fa; intro fa hF
 refine st_val hF rfl rfl rfl (ex_add (hF.ev rfl) (hF.ev rfl) (wi64 (by omega) (by omega))) ?_
 clear hF fa; intro fa hF
 refine st rfl (op_make (X := X) (nl := a.length + b.length) (nc := a.length + b.length) hF hS rfl TfF.sl22 TfF.el46 rfl rfl (by omega) (by omega) (by omega) (by omega) (by omega) (made_us _) ?_)
 intro g1 w2 hg4 hS E3; refine gen_ ?_; clear hF fa; intro fa hF
 replace hS : St w w2 [(g1, 46, (us (List.replicate ((a.length + b.length) * 1) 0)).toArray)] := hS
 rw [Nat.mul_one] at hS
 refine st_val hF rfl rfl rfl (ex_assign (hF.ev rfl)) ?_
 clear hF fa; intro fa hF
 refine c_nil_then ?_
 refine c_seq ?_
 refine c_seq ?_
 refine c_reg ?_
 refine st_val hF rfl rfl rfl (ex_assign (hF.ev rfl)) ?_
 clear hF fa; intro fa hF
 refine c_nil_then ?_
 refine c_block ?_
 refine c_loop (fun mu fa w' => ∃ o : List Nat, ∃ i : Nat, Frm 68 fa [(0, (.slice (A_a) (a.length) (c_a))), (1, (.slice (A_b) (b.length) (c_b))), (4, (.slice (none) (0) (0))), (5, (.slice (some ⟨g1, 0, none⟩) (a.length + b.length) (a.length + b.length))), (6, (.int .i64 (((i : Nat) : Int))))] ∧ St w w' [(g1, 46, (us (o)).toArray)] ∧ Ext w2 (g1 :: X) w' (g1 :: X) ∧ (i ≤ a.length) ∧ (o.length = a.length + b.length) ∧ (Lb o) ∧ (val (o.take (i + b.length)) = val (a.take i) * val b) ∧ a.length - i = mu) ?_ ?_
 ·
  exact ⟨_, List.replicate (a.length + b.length) 0, 0, (hF.take (hF.take (hF.take (hF.take (hF.take hF.nil (lk_int rfl (by omega))) rfl) rfl) rfl) rfl), hS, Ext.refl _ _, (by omega), (by simp), (lb_zeros _), (by simp [val_zeros, List.take_replicate, val]), rfl⟩
 clear hF fa; intro n0_ fa w' hI
 clear hS
 obtain ⟨o, i, hF, hS, E6, hi, ho, hbo, hv, rfl⟩ := hI
 rename World => w5
 refine c_seq ?_
 refine c_seq ?_
 refine c_reg ?_
 refine st_val hF rfl rfl rfl (ex_move (hF.ev rfl)) ?_
 clear hF fa; intro fa hF
 refine st_val hF rfl rfl rfl (ex_move (hF.ev rfl)) ?_
 clear hF fa; intro fa hF
 refine st_val hF rfl rfl rfl (ex_len TfF.sls22 (hF.ev rfl)) ?_
 clear hF fa; intro fa hF
 refine st_val hF rfl rfl rfl (ex_lss (hF.ev rfl) (hF.ev rfl)) ?_
 clear hF fa; intro fa hF
 refine c_nil_then ?_
 refine c_cond hF rfl (fun hc7 => ?_) (fun hc7 => ?_)
 ·
  have hc7p : ((i : Nat) : Int) < ((a.length : Nat) : Int) := by first | simpa using hc7 | exact bang_t hc7 | exact bang_f hc7
  refine c_skip ?_
  refine x_tn ?_
  refine c_seq ?_
  refine c_block ?_
  refine c_seq ?_
  refine c_reg ?_
  refine st_val hF rfl rfl rfl (ex_assign (hF.ev rfl)) ?_
  clear hF fa; intro fa hF
  refine c_nil_then ?_
  refine c_seq ?_
  refine c_seq ?_
  refine c_reg ?_
  refine st_val hF rfl rfl rfl (ex_assign (hF.ev rfl)) ?_
  clear hF fa; intro fa hF
  refine c_nil_then ?_
  refine c_block ?_
  refine c_loop (fun mu fa w' => ∃ o2 : List Nat, ∃ cr : Nat, ∃ k : Nat, Frm 68 fa [(0, (.slice (A_a) (a.length) (c_a))), (1, (.slice (A_b) (b.length) (c_b))), (4, (.slice (none) (0) (0))), (5, (.slice (some ⟨g1, 0, none⟩) (a.length + b.length) (a.length + b.length))), (6, (.int .i64 (((i : Nat) : Int)))), (18, (.bool (decide (((i : Nat) : Int) < ((a.length : Nat) : Int))))), (7, (.int .u64 (((cr : Nat) : Int)))), (8, (.int .i64 (((k : Nat) : Int))))] ∧ St w w' [(g1, 46, (us (o2)).toArray)] ∧ Ext w5 (g1 :: X) w' (g1 :: X) ∧ (k ≤ b.length) ∧ (o2.length = a.length + b.length) ∧ (Lb o2) ∧ (cr < 1000000000) ∧ (val (o2.take (i + b.length)) + 1000000000 ^ (i + k) * cr = val (a.take i) * val b + 1000000000 ^ i * (a.getD i 0 * val (b.take k))) ∧ b.length - k = mu) ?_ ?_
  ·
   exact ⟨_, o, 0, 0, (hF.take (hF.take (hF.take (hF.take (hF.take (hF.take (hF.take (hF.take hF.nil (lk_int rfl (by omega))) (lk_int rfl (by omega))) rfl) rfl) rfl) rfl) rfl) rfl), hS, Ext.refl _ _, (by omega), (ho), (hbo), (by omega), (by simp [val, hv]), rfl⟩
  clear hF fa; intro n1_ fa w' hI
  clear hS
  obtain ⟨o2, cr, k, hF, hS, E9, hk, ho2, hbo2, hcr, hv2, rfl⟩ := hI
  rename World => w8
  have hak := hb_a.getD i; have hbk := hb_b.getD k; have hok := hbo2.getD (i + k)
  have hca := carry_lt hak hbk hok hcr
  have hca1 := hca.1; have hca2 := hca.2
  refine c_seq ?_
  refine c_seq ?_
  refine c_reg ?_
  refine st_val hF rfl rfl rfl (ex_move (hF.ev rfl)) ?_
  clear hF fa; intro fa hF
  refine st_val hF rfl rfl rfl (ex_move (hF.ev rfl)) ?_
  clear hF fa; intro fa hF
  refine st_val hF rfl rfl rfl (ex_len TfF.sls22 (hF.ev rfl)) ?_
  clear hF fa; intro fa hF
  refine st_val hF rfl rfl rfl (ex_lss (hF.ev rfl) (hF.ev rfl)) ?_
  clear hF fa; intro fa hF
  replace hF : Frm 68 fa [(0, (.slice (A_a) (a.length) (c_a))), (1, (.slice (A_b) (b.length) (c_b))), (4, (.slice (none) (0) (0))), (5, (.slice (some ⟨g1, 0, none⟩) (a.length + b.length) (a.length + b.length))), (6, (.int .i64 (((i : Nat) : Int)))), (18, (.bool (decide (((i : Nat) : Int) < ((a.length : Nat) : Int))))), (7, (.int .u64 (((cr : Nat) : Int)))), (8, (.int .i64 (((k : Nat) : Int)))), (24, (.bool (decide (((k : Nat) : Int) < ((b.length : Nat) : Int)))))] := (hF.take (hF.take (hF.take (hF.take (hF.take (hF.take (hF.take (hF.take (hF.take hF.nil rfl) rfl) rfl) rfl) rfl) rfl) rfl) rfl) rfl)
  refine c_nil_then ?_
  refine c_cond hF rfl (fun hc10 => ?_) (fun hc10 => ?_)
  ·
   have hc10p : ((k : Nat) : Int) < ((b.length : Nat) : Int) := by first | simpa using hc10 | exact bang_t hc10 | exact bang_f hc10
   refine c_skip ?_
   refine x_tn ?_
   refine c_seq ?_
   refine c_block ?_
   refine c_seq ?_
   obtain ⟨ad_38, hA_38, hq_38⟩ := (hu_a.ext ((E3.trans E6).trans E9)).cl.at2 (us_get (l := a) (i := i) (by omega))
   obtain ⟨ad_43, hA_43, hq_43⟩ := (hu_b.ext ((E3.trans E6).trans E9)).cl.at2 (us_get (l := b) (i := k) (by omega))
   refine drawn2 (N := 68) (L0 := [(0, (.slice (A_a) (a.length) (c_a))), (1, (.slice (A_b) (b.length) (c_b))), (4, (.slice (none) (0) (0))), (5, (.slice (some ⟨g1, 0, none⟩) (a.length + b.length) (a.length + b.length))), (6, (.int .i64 (((i : Nat) : Int)))), (18, (.bool (decide (((i : Nat) : Int) < ((a.length : Nat) : Int))))), (8, (.int .i64 (((k : Nat) : Int)))), (24, (.bool (decide (((k : Nat) : Int) < ((b.length : Nat) : Int)))))]) [some (.int .u64 (((cr : Nat) : Int))), some (.slice (some ⟨g1, 0, none⟩) (a.length + b.length) (a.length + b.length)), some (.int .i64 (((i : Nat) : Int))), some (.int .i64 (((k : Nat) : Int))), some (.int .i64 (((i : Nat) : Int) + ((k : Nat) : Int))), some (.pointer (some ⟨g1, i + k, none⟩)), some (.int .u32 (((o2.getD (i + k) 0 : Nat) : Int))), some (.int .u64 (((o2.getD (i + k) 0 : Nat) : Int))), some (.int .u64 (((cr : Nat) : Int) + ((o2.getD (i + k) 0 : Nat) : Int))), some (.slice (A_a) (a.length) (c_a)), some (.int .i64 (((i : Nat) : Int))), some (.pointer (some (ad_38.add (i)))), some (.int .u32 (((a.getD (i) 0 : Nat) : Int))), some (.int .u64 (((a.getD (i) 0 : Nat) : Int))), some (.slice (A_b) (b.length) (c_b)), some (.int .i64 (((k : Nat) : Int))), some (.pointer (some (ad_43.add (k)))), some (.int .u32 (((b.getD (k) 0 : Nat) : Int))), some (.int .u64 (((b.getD (k) 0 : Nat) : Int))), some (.int .u64 (((a.getD (i) 0 : Nat) : Int) * ((b.getD (k) 0 : Nat) : Int))), some (.int .u64 ((((cr : Nat) : Int) + ((o2.getD (i + k) 0 : Nat) : Int)) + (((a.getD (i) 0 : Nat) : Int) * ((b.getD (k) 0 : Nat) : Int)))), some (.int .u64 ((((cr : Nat) : Int) + ((o2.getD (i + k) 0 : Nat) : Int)) + (((a.getD (i) 0 : Nat) : Int) * ((b.getD (k) 0 : Nat) : Int))))] [21] [[], [21]] [[0], [0], [0], [0], [0], [0], [0], [0], [0], [0], [0], [0], [0], [0], [0], [0], [0], [0], [0], [0], [0], [0]] 1 [
         fun fa w' => Frm 68 fa [(7, (.int .u64 (((cr : Nat) : Int))))] ∧ St w w' [(g1, 46, (us (o2)).toArray)] ∧ Ext w8 (g1 :: X) w' (g1 :: X)
         , fun fa w' => Frm 68 fa [(7, (.int .u64 ((((cr : Nat) : Int) + ((o2.getD (i + k) 0 : Nat) : Int)) + (((a.getD (i) 0 : Nat) : Int) * ((b.getD (k) 0 : Nat) : Int)))))] ∧ St w w' [(g1, 46, (us (o2)).toArray)] ∧ Ext w8 (g1 :: X) w' (g1 :: X)
       ] TfF.mixed rfl rfl rfl rfl rfl rfl (hF.take (hF.take (hF.take (hF.take (hF.take (hF.take (hF.take (hF.take hF.nil rfl) rfl) rfl) rfl) rfl) rfl) rfl) rfl) rfl ⟨(hF.take hF.nil rfl), hS.drew, Ext.drew _ _⟩ ?_ ?_ ?_
   all_goals clear hF fa
   ·
    refine ⟨?_, ?_, trivial⟩
    ·
     rintro fa w' i o d v ho hd hna ⟨hA, hR⟩; exact ⟨hA.put_other v (freeOf_at (acts := [21]) rfl ho hd hna), hR⟩
    ·
     rintro fa w' i o d v ho hd hna ⟨hA, hR⟩; exact ⟨hA.put_other v (freeOf_at (acts := [21]) rfl ho hd hna), hR⟩
   ·
    refine ⟨?_, ?_, ?_, ?_, ?_, ?_, ?_, ?_, ?_, ?_, ?_, ?_, ?_, ?_, ?_, ?_, ?_, ?_, ?_, ?_, ?_, ?_, trivial⟩
    ·
     refine .inr (.inl ⟨rfl, _, _, rfl, rfl, ?_, trivial⟩)
     ·
      intro fa w' hΦ hF hB K hK
      obtain ⟨hA, hS, E_w'⟩ := hΦ
      replace hF := hF.cons (hA.get 7 _ rfl)
      exact fl_val rfl rfl rfl (ex_move (hF.ev rfl)) hK
    ·
     refine .inl ⟨rfl, _, _, rfl, rfl, fun s fa w' hΦ hF hB K hK => ?_⟩
     exact fl_val rfl rfl rfl (ex_move (hF.ev rfl)) hK
    ·
     refine .inl ⟨rfl, _, _, rfl, rfl, fun s fa w' hΦ hF hB K hK => ?_⟩
     exact fl_val rfl rfl rfl (ex_move (hF.ev rfl)) hK
    ·
     refine .inl ⟨rfl, _, _, rfl, rfl, fun s fa w' hΦ hF hB K hK => ?_⟩
     exact fl_val rfl rfl rfl (ex_move (hF.ev rfl)) hK
    ·
     refine .inl ⟨rfl, _, _, rfl, rfl, fun s fa w' hΦ hF hB K hK => ?_⟩
     replace hF := hF.cons (hB.val 2 _ 29 _ rfl rfl rfl rfl)
     replace hF := hF.cons (hB.val 3 _ 30 _ rfl rfl rfl rfl)
     exact fl_val rfl rfl rfl (ex_add (hF.ev rfl) (hF.ev rfl) (wi64 (by omega) (by omega))) hK
    ·
     refine .inl ⟨rfl, _, _, rfl, rfl, fun s fa w' hΦ hF hB K hK => ?_⟩
     replace hF := hF.cons (hB.val 1 _ 28 _ rfl rfl rfl rfl)
     replace hF := hF.cons (hB.val 4 _ 31 _ rfl rfl rfl rfl)
     exact fl_val rfl rfl rfl (ex_idxo (j := i + k) TfF.sl22 (hF.ev rfl) (hF.ev rfl) (by omega) (by omega)) hK
    ·
     refine .inr (.inl ⟨rfl, _, _, rfl, rfl, ?_, trivial⟩)
     ·
      intro fa w' hΦ hF hB K hK
      obtain ⟨hA, hS, E_w'⟩ := hΦ
      replace hF := hF.cons (hB.val 5 _ 32 _ rfl rfl rfl rfl)
      exact fl_val rfl rfl rfl (ex_load1b TfF.one46 (hF.ev rfl) (hS.get 0 rfl) (us_arr (by first | omega | (simp; omega)))) hK
    ·
     refine .inl ⟨rfl, _, _, rfl, rfl, fun s fa w' hΦ hF hB K hK => ?_⟩
     replace hF := hF.cons (hB.val 6 _ 33 _ rfl rfl rfl rfl)
     exact fl_val rfl rfl rfl (ex_conv TfF.unds46 TfF.und54 (hF.ev rfl) (wu64n (by omega))) hK
    ·
     refine .inl ⟨rfl, _, _, rfl, rfl, fun s fa w' hΦ hF hB K hK => ?_⟩
     replace hF := hF.cons (hB.val 0 _ 27 _ rfl rfl rfl rfl)
     replace hF := hF.cons (hB.val 7 _ 34 _ rfl rfl rfl rfl)
     exact fl_val rfl rfl rfl (ex_add (hF.ev rfl) (hF.ev rfl) (wu64 (by omega) (by omega))) hK
    ·
     refine .inl ⟨rfl, _, _, rfl, rfl, fun s fa w' hΦ hF hB K hK => ?_⟩
     exact fl_val rfl rfl rfl (ex_move (hF.ev rfl)) hK
    ·
     refine .inl ⟨rfl, _, _, rfl, rfl, fun s fa w' hΦ hF hB K hK => ?_⟩
     exact fl_val rfl rfl rfl (ex_move (hF.ev rfl)) hK
    ·
     refine .inl ⟨rfl, _, _, rfl, rfl, fun s fa w' hΦ hF hB K hK => ?_⟩
     replace hF := hF.cons (hB.val 9 _ 36 _ rfl rfl rfl rfl)
     replace hF := hF.cons (hB.val 10 _ 37 _ rfl rfl rfl rfl)
     exact fl_val rfl rfl rfl (ex_idx (j := i) TfF.sl22 (hF.ev rfl) hA_38 (hF.ev rfl) (by omega) (by omega)) hK
    ·
     refine .inr (.inl ⟨rfl, _, _, rfl, rfl, ?_, trivial⟩)
     ·
      intro fa w' hΦ hF hB K hK
      obtain ⟨hA, hS, E_w'⟩ := hΦ
      replace hF := hF.cons (hB.val 11 _ 38 _ rfl rfl rfl rfl)
      exact fl_val rfl rfl rfl (ex_load1 TfF.one46 (hF.ev rfl) (hq_38 E_w')) hK
    ·
     refine .inl ⟨rfl, _, _, rfl, rfl, fun s fa w' hΦ hF hB K hK => ?_⟩
     replace hF := hF.cons (hB.val 12 _ 39 _ rfl rfl rfl rfl)
     exact fl_val rfl rfl rfl (ex_conv TfF.unds46 TfF.und54 (hF.ev rfl) (wu64n (by omega))) hK
    ·
     refine .inl ⟨rfl, _, _, rfl, rfl, fun s fa w' hΦ hF hB K hK => ?_⟩
     exact fl_val rfl rfl rfl (ex_move (hF.ev rfl)) hK
    ·
     refine .inl ⟨rfl, _, _, rfl, rfl, fun s fa w' hΦ hF hB K hK => ?_⟩
     exact fl_val rfl rfl rfl (ex_move (hF.ev rfl)) hK
    ·
     refine .inl ⟨rfl, _, _, rfl, rfl, fun s fa w' hΦ hF hB K hK => ?_⟩
     replace hF := hF.cons (hB.val 14 _ 41 _ rfl rfl rfl rfl)
     replace hF := hF.cons (hB.val 15 _ 42 _ rfl rfl rfl rfl)
     exact fl_val rfl rfl rfl (ex_idx (j := k) TfF.sl22 (hF.ev rfl) hA_43 (hF.ev rfl) (by omega) (by omega)) hK
    ·
     refine .inr (.inl ⟨rfl, _, _, rfl, rfl, ?_, trivial⟩)
     ·
      intro fa w' hΦ hF hB K hK
      obtain ⟨hA, hS, E_w'⟩ := hΦ
      replace hF := hF.cons (hB.val 16 _ 43 _ rfl rfl rfl rfl)
      exact fl_val rfl rfl rfl (ex_load1 TfF.one46 (hF.ev rfl) (hq_43 E_w')) hK
    ·
     refine .inl ⟨rfl, _, _, rfl, rfl, fun s fa w' hΦ hF hB K hK => ?_⟩
     replace hF := hF.cons (hB.val 17 _ 44 _ rfl rfl rfl rfl)
     exact fl_val rfl rfl rfl (ex_conv TfF.unds46 TfF.und54 (hF.ev rfl) (wu64n (by omega))) hK
    ·
     refine .inl ⟨rfl, _, _, rfl, rfl, fun s fa w' hΦ hF hB K hK => ?_⟩
     replace hF := hF.cons (hB.val 13 _ 40 _ rfl rfl rfl rfl)
     replace hF := hF.cons (hB.val 18 _ 45 _ rfl rfl rfl rfl)
     exact fl_val rfl rfl rfl (ex_mul (hF.ev rfl) (hF.ev rfl) (wu64 (by omega) (by omega))) hK
    ·
     refine .inl ⟨rfl, _, _, rfl, rfl, fun s fa w' hΦ hF hB K hK => ?_⟩
     replace hF := hF.cons (hB.val 8 _ 35 _ rfl rfl rfl rfl)
     replace hF := hF.cons (hB.val 19 _ 46 _ rfl rfl rfl rfl)
     exact fl_val rfl rfl rfl (ex_add (hF.ev rfl) (hF.ev rfl) (wu64 (by omega) (by omega))) hK
    ·
     refine .inr (.inr ⟨rfl, ?_, trivial⟩)
     ·
      intro fa w' hΦ hF hB
      obtain ⟨hA, hS, E_w'⟩ := hΦ
      replace hF := hF.cons (hB.val 20 _ 47 _ rfl rfl rfl rfl)
      refine wop rfl rfl ?_
      refine op_val hF rfl rfl (ex_assign (hF.ev rfl)) ?_; clear hF; intro hF
      replace hA := hA.put (d := 7) (by decide) (.int .u64 ((((cr : Nat) : Int) + ((o2.getD (i + k) 0 : Nat) : Int)) + (((a.getD (i) 0 : Nat) : Int) * ((b.getD (k) 0 : Nat) : Int))))
      have hA1 := hA
      exact ⟨1, rfl, ⟨(hA1.take hA1.nil rfl), hS, E_w'⟩, _, rfl, fun u hu => by cases hu <;> rfl⟩
   intro fa w11 hΦ hF hC
   obtain ⟨hA, hS, E_w11⟩ := hΦ
   replace hF := hF.cons (hC 21 _ 7 _ rfl rfl rfl)
   replace hF := hF.cons (hA.get 7 _ rfl)
   clear hA hC
   refine x_tn ?_
   refine c_seq ?_
   refine c_reg ?_
   refine st_val hF rfl rfl rfl (ex_move (hF.ev rfl)) ?_
   clear hF fa; intro fa hF
   refine st_val hF rfl rfl rfl (ex_move (hF.ev rfl)) ?_
   clear hF fa; intro fa hF
   refine st_val hF rfl rfl rfl (ex_move (hF.ev rfl)) ?_
   clear hF fa; intro fa hF
   refine st_val hF rfl rfl rfl (ex_add (hF.ev rfl) (hF.ev rfl) (wi64 (by omega) (by omega))) ?_
   clear hF fa; intro fa hF
   refine st_val hF rfl rfl rfl (ex_move (hF.ev rfl)) ?_
   clear hF fa; intro fa hF
   refine st_val hF rfl rfl rfl (ex_rem (hF.ev rfl) (hF.ev rfl) (by omega) (r_any (x := (cr + (o2.getD (i + k) 0)) + ((a.getD (i) 0) * (b.getD (k) 0))) (y := 1000000000) (by omega) (by omega))) ?_
   clear hF fa; intro fa hF
   refine st_val hF rfl rfl rfl (ex_conv TfF.unds54 TfF.und46 (hF.ev rfl) (wu32n (by omega))) ?_
   clear hF fa; intro fa hF
   refine st_val hF rfl rfl rfl (ex_idxo (j := i + k) TfF.sl22 (hF.ev rfl) (hF.ev rfl) (by omega) (by omega)) ?_
   clear hF fa; intro fa hF
   refine st rfl (op_store (vs := #[.int .u32 ((((cr + (o2.getD (i + k) 0)) + ((a.getD (i) 0) * (b.getD (k) 0))) % 1000000000 : Nat) : Int)]) (v := .int .u32 ((((cr + (o2.getD (i + k) 0)) + ((a.getD (i) 0) * (b.getD (k) 0))) % 1000000000 : Nat) : Int)) (X := (g1 :: X)) hF hS 0 rfl (by simp) rfl (ev_int rfl (by omega)) rfl TfF.size46 rfl (us_fit (by first | omega | (simp; omega))) ?_)
   intro w12 hS E13
   rw [splice_us (by first | omega | (simp; omega))] at hS
   replace hS : St w w12 [(g1, 46, (us (o2.set (i + k) (((cr + (o2.getD (i + k) 0)) + ((a.getD (i) 0) * (b.getD (k) 0))) % 1000000000))).toArray)] := hS
   refine c_nil_then ?_
   refine c_reg ?_
   refine st_val hF rfl rfl rfl (ex_move (hF.ev rfl)) ?_
   clear hF fa; intro fa hF
   refine st_val hF rfl rfl rfl (ex_quo (hF.ev rfl) (hF.ev rfl) (by omega) (q_u64 (x := (cr + (o2.getD (i + k) 0)) + ((a.getD (i) 0) * (b.getD (k) 0))) (y := 1000000000) (by omega) (by omega) (by omega))) ?_
   clear hF fa; intro fa hF
   refine st_val hF rfl rfl rfl (ex_assign (hF.ev rfl)) ?_
   clear hF fa; intro fa hF
   refine c_nil ?_
   refine x_bn ?_
   refine x_tn ?_
   refine c_reg ?_
   refine st_val hF rfl rfl rfl (ex_move (hF.ev rfl)) ?_
   clear hF fa; intro fa hF
   refine st_val hF rfl rfl rfl (ex_add (hF.ev rfl) (hF.ev rfl) (wi64 (by omega) (by omega))) ?_
   clear hF fa; intro fa hF
   refine st_val hF rfl rfl rfl (ex_assign (hF.ev rfl)) ?_
   clear hF fa; intro fa hF
   replace hF : Frm 68 fa [(0, (.slice (A_a) (a.length) (c_a))), (1, (.slice (A_b) (b.length) (c_b))), (4, (.slice (none) (0) (0))), (5, (.slice (some ⟨g1, 0, none⟩) (a.length + b.length) (a.length + b.length))), (6, (.int .i64 (((i : Nat) : Int)))), (18, (.bool (decide (((i : Nat) : Int) < ((a.length : Nat) : Int))))), (7, (.int .u64 (((((cr + (o2.getD (i + k) 0)) + ((a.getD (i) 0) * (b.getD (k) 0))) / 1000000000 : Nat) : Int)))), (8, (.int .i64 (((k : Nat) : Int) + 1))), (24, (.bool (decide (((k : Nat) : Int) < ((b.length : Nat) : Int)))))] := (hF.take (hF.take (hF.take (hF.take (hF.take (hF.take (hF.take (hF.take (hF.take hF.nil rfl) rfl) rfl) rfl) rfl) rfl) rfl) rfl) rfl)
   refine c_nil ?_
   refine x_tn ?_
   exact ⟨_, (by omega), o2.set (i + k) (((cr + (o2.getD (i + k) 0)) + ((a.getD (i) 0) * (b.getD (k) 0))) % 1000000000), ((cr + (o2.getD (i + k) 0)) + ((a.getD (i) 0) * (b.getD (k) 0))) / 1000000000, (k + 1), (hF.take (hF.take (hF.take (hF.take (hF.take (hF.take (hF.take (hF.take hF.nil (lk_int rfl (by omega))) (lk_int rfl (by omega))) rfl) rfl) rfl) rfl) rfl) rfl), hS, ((E9.trans E_w11).trans E13), (by omega), (by simp; omega), (lb_set hbo2 (by omega)), (by omega), (times_step (by omega) (by omega) hv2 (by omega) rfl rfl), rfl⟩
  have hc10p : ¬ (((k : Nat) : Int) < ((b.length : Nat) : Int)) := by first | simpa using hc10 | exact bang_t hc10 | exact bang_f hc10
  refine c_exit ?_
  refine x_te ?_
  refine x_te ?_
  refine x_bh ?_
  refine x_tn ?_
  refine c_reg ?_
  refine st_val hF rfl rfl rfl (ex_move (hF.ev rfl)) ?_
  clear hF fa; intro fa hF
  refine st_val hF rfl rfl rfl (ex_move (hF.ev rfl)) ?_
  clear hF fa; intro fa hF
  refine st_val hF rfl rfl rfl (ex_move (hF.ev rfl)) ?_
  clear hF fa; intro fa hF
  refine st_val hF rfl rfl rfl (ex_len TfF.sls22 (hF.ev rfl)) ?_
  clear hF fa; intro fa hF
  refine st_val hF rfl rfl rfl (ex_add (hF.ev rfl) (hF.ev rfl) (wi64 (by omega) (by omega))) ?_
  clear hF fa; intro fa hF
  refine st_val hF rfl rfl rfl (ex_move (hF.ev rfl)) ?_
  clear hF fa; intro fa hF
  refine st_val hF rfl rfl rfl (ex_conv TfF.unds54 TfF.und46 (hF.ev rfl) (wu32n (by omega))) ?_
  clear hF fa; intro fa hF
  refine st_val hF rfl rfl rfl (ex_idxo (j := i + b.length) TfF.sl22 (hF.ev rfl) (hF.ev rfl) (by omega) (by omega)) ?_
  clear hF fa; intro fa hF
  refine st rfl (op_store (vs := #[.int .u32 ((cr : Nat) : Int)]) (v := .int .u32 ((cr : Nat) : Int)) (X := (g1 :: X)) hF hS 0 rfl (by simp) rfl (ev_int rfl (by omega)) rfl TfF.size46 rfl (us_fit (by first | omega | (simp; omega))) ?_)
  intro w14 hS E15
  rw [splice_us (by first | omega | (simp; omega))] at hS
  replace hS : St w w14 [(g1, 46, (us (o2.set (i + b.length) (cr))).toArray)] := hS
  refine c_nil ?_
  refine x_bn ?_
  refine x_tn ?_
  refine c_reg ?_
  refine st_val hF rfl rfl rfl (ex_move (hF.ev rfl)) ?_
  clear hF fa; intro fa hF
  refine st_val hF rfl rfl rfl (ex_add (hF.ev rfl) (hF.ev rfl) (wi64 (by omega) (by omega))) ?_
  clear hF fa; intro fa hF
  refine st_val hF rfl rfl rfl (ex_assign (hF.ev rfl)) ?_
  clear hF fa; intro fa hF
  refine c_nil ?_
  refine x_tn ?_
  exact ⟨_, (by omega), o2.set (i + b.length) (cr), (i + 1), (hF.take (hF.take (hF.take (hF.take (hF.take hF.nil (lk_int rfl (by omega))) rfl) rfl) rfl) rfl), hS, ((E6.trans E9).trans E15), (by omega), (by simp; omega), (lb_set hbo2 (by omega)), (times_row (by omega) (by rw [show k = b.length by omega] at hv2; exact hv2)), rfl⟩
 have hc7p : ¬ (((i : Nat) : Int) < ((a.length : Nat) : Int)) := by first | simpa using hc7 | exact bang_t hc7 | exact bang_f hc7
 refine c_exit ?_
 refine x_te ?_
 refine x_te ?_
 refine x_bh ?_
 refine x_tn ?_
 refine c_seq ?_
 refine c_reg ?_
 refine st_val hF rfl rfl rfl (ex_move (hF.ev rfl)) ?_
 clear hF fa; intro fa hF
 obtain ⟨hS1, hn1⟩ := hS.out hX 0 rfl
 have hu16 := UC.of_box (L := o) (hS.get 0 rfl) hn1 (by omega)
 have E17 : Ext w5 (g1 :: X) w5 X := Ext.drop (by simp +contextual)
 replace hu16 : UC w5 X (some ⟨g1, 0, none⟩) (o).length (o) := hu16
 replace hS : St w w5 [] := hS1; clear hn1
 have hC := ref01_trim_ok (w := w5) (X := X) (l := o) (hS.bnd hX) (UL.cap (n := a.length + b.length) (c := a.length + b.length) hu16 (by omega) (by omega))
 refine st rfl (op_call hF rfl TfF.body43 (args1 (hF.ev rfl)) hC ?_)
 clear hC
 rintro _ w18 ⟨⟨A21, _, c22, rfl, rfl, hu23⟩, hb19⟩
 refine gen_ ?_; clear hF fa; intro fa hF
 replace hS := hS.call hb19; have E20 := Ext.call X hb19
 refine st_val hF rfl rfl rfl (ex_assign (hF.ev rfl)) ?_
 clear hF fa; intro fa hF
 refine c_nil_then ?_
 refine c_ret ?_
 rw [val_take_all (l := o) (by omega), val_take_all (l := a) (by omega)] at hv
 refine end1 hF rfl (res_tmp hF rfl) ?_
 exact ⟨_, rfl, (UL.fin (L := (trimz o)) ⟨_, _, _, rfl, (rfl), hu23⟩ (by rw [← hv]; exact (lim_val _ hbo).symm) (fun x hx => by simp [hx])), hS.below⟩

end Go.Proofs.Ytlaojdpcfenlkaa
