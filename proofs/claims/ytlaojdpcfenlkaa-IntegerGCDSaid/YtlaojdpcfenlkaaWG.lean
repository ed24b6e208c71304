/-
  What the functions short, limbs, split, word, byWord, by do, each call by call.
  Conditions: none.
-/
import Derived.Test.YtlaojdpcfenlkaaChecked
import Derived.Test.YtlaojdpcfenlkaaSwBaseK
import Derived.Test.YtlaojdpcfenlkaaWA
import Derived.Test.YtlaojdpcfenlkaaWF
namespace Go.Proofs.Ytlaojdpcfenlkaa
open Go Go.RowKit Go.Sw
set_option linter.unusedVariables false
namespace TfG
theorem body43 : hasBody Try.prog 43 = true := by kernel_rfl
theorem body48 : hasBody Try.prog 48 = true := by kernel_rfl
theorem el46 : Sw.elemOf Try.prog 46 = some (#[.int .u32 0], 1, 4) := by kernel_rfl
theorem mixed : Try.prog.follows .mixedOrders = true := by kernel_rfl
theorem off24_1 : fieldOff Try.prog 24 1 = some 1 := by kernel_rfl
theorem one22 : isOne Try.prog 22 = true := by kernel_rfl
theorem one46 : isOne Try.prog 46 = true := by kernel_rfl
theorem size46 : (Try.prog.info? 46).map (fun i => i.size) = some 1 := by kernel_rfl
theorem sl22 : sliceOf Try.prog 22 = some (46, 1) := by kernel_rfl
theorem sls22 : (sliceOf Try.prog 22).isSome = true := by kernel_rfl
theorem und46 : Try.prog.underlying 46 = some (TypeDesc.int .u32) := by kernel_rfl
theorem und54 : Try.prog.underlying 54 = some (TypeDesc.int .u64) := by kernel_rfl
theorem unds46 : (Try.prog.underlying 46).isSome = true := by kernel_rfl
theorem unds54 : (Try.prog.underlying 54).isSome = true := by kernel_rfl
end TfG
set_option maxHeartbeats 4000000 in
theorem ref01_short_ok {w : World} {X : List Nat} (hX : ∀ m ∈ X, m < w.heap.size) {v_l : Value} {l : List Nat} (h_l : UL w X v_l (l)) (hn_l : l.length ≤ 1000000000000) (hb : Lb l) (hv : val l < 18446744073709551616) :
    Calls Try.prog 52 #[v_l] w (Ret fun r w' => (r = .int .u64 (((val l : Nat) : Int))) ∧ Below w.heap.size w w') := by
 refine enter (N := 21) (fn := Try.f52) (vs := [v_l]) Try.func52 rfl rfl rfl ?_
 intro fa hF
 obtain ⟨A_l, _, c_l, rfl, rfl, hu_l⟩ := h_l
 have hl_l := hu_l.len; have hc_l := hu_l.cap
 replace hF : Frm 21 fa [(0, (.slice (A_l) (l.length) (c_l)))] := hF
 have hS := St.refl w
 refine c_seq ?_
 refine c_reg ?_
 refine st_val hF rfl rfl rfl (ex_assign (hF.ev rfl)) ?_
 clear hF fa; intro fa hF
 refine c_nil_then ?_
 refine c_seq ?_
 refine c_reg ?_
 refine st_val hF rfl rfl rfl (ex_assign (hF.ev rfl)) ?_
 clear hF fa; intro fa hF
 refine c_nil_then ?_
 refine c_seq ?_
 refine c_seq ?_
 refine c_reg ?_
 refine st_val hF rfl rfl rfl (ex_move (hF.ev rfl)) ?_
 clear hF fa; intro fa hF
 refine st_val hF rfl rfl rfl (ex_len TfG.sls22 (hF.ev rfl)) ?_
 clear hF fa; intro fa hF
 refine st_val hF rfl rfl rfl (ex_sub (hF.ev rfl) (hF.ev rfl) (wi64 (by omega) (by omega))) ?_
 clear hF fa; intro fa hF
 refine st_val hF rfl rfl rfl (ex_assign (hF.ev rfl)) ?_
 clear hF fa; intro fa hF
 refine c_nil_then ?_
 refine c_block ?_
 refine c_loop (fun mu fa w' => ∃ k : Nat, Frm 21 fa [(0, (.slice (A_l) (l.length) (c_l))), (2, (.int .u64 (0))), (3, (.int .u64 (((val (l.drop k) : Nat) : Int)))), (4, (.int .i64 (((k : Nat) : Int) - 1)))] ∧ w = w' ∧ (k ≤ l.length) ∧ k = mu) ?_ ?_
 ·
  exact ⟨_, l.length, (hF.take (hF.take (hF.take (hF.take hF.nil (lk_int rfl (by omega))) (lk_int rfl (by first | omega | (rw [val_drop_all (Nat.le_refl _)]; rfl)))) rfl) rfl), rfl, (by omega), rfl⟩
 clear hF fa; intro n0_ fa w' hI
 obtain ⟨k, hF, rfl, hk, rfl⟩ := hI
 have hdk := val_drop_le l k; have hdk1 := val_drop_le l (k - 1)
 refine c_seq ?_
 refine c_seq ?_
 refine c_reg ?_
 refine st_val hF rfl rfl rfl (ex_move (hF.ev rfl)) ?_
 clear hF fa; intro fa hF
 refine st_val hF rfl rfl rfl (ex_geq (hF.ev rfl) (hF.ev rfl)) ?_
 clear hF fa; intro fa hF
 refine c_nil_then ?_
 refine c_cond hF rfl (fun hc1 => ?_) (fun hc1 => ?_)
 ·
  have hc1p : (((k : Nat) : Int) - 1) ≥ 0 := by first | simpa using hc1 | exact bang_t hc1 | exact bang_f hc1
  have hst := val_drop (l := l) (k := k) (by omega) hk
  have hlb := hb.getD (k - 1)
  refine c_skip ?_
  refine x_tn ?_
  refine c_seq ?_
  refine c_block ?_
  refine c_reg ?_
  refine st_val hF rfl rfl rfl (ex_move (hF.ev rfl)) ?_
  clear hF fa; intro fa hF
  refine st_val hF rfl rfl rfl (ex_mul (hF.ev rfl) (hF.ev rfl) (wu64 (by omega) (by omega))) ?_
  clear hF fa; intro fa hF
  refine st_val hF rfl rfl rfl (ex_move (hF.ev rfl)) ?_
  clear hF fa; intro fa hF
  refine st_val hF rfl rfl rfl (ex_move (hF.ev rfl)) ?_
  clear hF fa; intro fa hF
  obtain ⟨ad2, hA3, hq4⟩ := hu_l.cl.at_ (us_get (l := l) (i := k - 1) (by omega))
  refine st_val hF rfl rfl rfl (ex_idx (j := k - 1) TfG.sl22 (hF.ev rfl) hA3 (hF.ev rfl) (by omega) (by omega)) ?_
  clear hF fa; intro fa hF
  refine st_val hF rfl rfl rfl (ex_load1 TfG.one46 (hF.ev rfl) hq4) ?_
  clear hF fa; intro fa hF
  refine st_val hF rfl rfl rfl (ex_conv TfG.unds46 TfG.und54 (hF.ev rfl) (wu64n (by omega))) ?_
  clear hF fa; intro fa hF
  refine st_val hF rfl rfl rfl (ex_add (hF.ev rfl) (hF.ev rfl) (wu64 (by omega) (by omega))) ?_
  clear hF fa; intro fa hF
  refine st_val hF rfl rfl rfl (ex_assign (hF.ev rfl)) ?_
  clear hF fa; intro fa hF
  replace hF : Frm 21 fa [(0, (.slice (A_l) (l.length) (c_l))), (2, (.int .u64 (0))), (3, (.int .u64 ((((val (l.drop k) : Nat) : Int) * 1000000000) + ((l.getD (k - 1) 0 : Nat) : Int)))), (4, (.int .i64 (((k : Nat) : Int) - 1))), (9, (.bool (decide ((((k : Nat) : Int) - 1) ≥ 0))))] := (hF.take (hF.take (hF.take (hF.take (hF.take hF.nil rfl) rfl) rfl) rfl) rfl)
  refine c_nil ?_
  refine x_bn ?_
  refine x_tn ?_
  refine c_reg ?_
  refine st_val hF rfl rfl rfl (ex_move (hF.ev rfl)) ?_
  clear hF fa; intro fa hF
  refine st_val hF rfl rfl rfl (ex_sub (hF.ev rfl) (hF.ev rfl) (wi64 (by omega) (by omega))) ?_
  clear hF fa; intro fa hF
  refine st_val hF rfl rfl rfl (ex_assign (hF.ev rfl)) ?_
  clear hF fa; intro fa hF
  refine c_nil ?_
  refine x_tn ?_
  exact ⟨_, (by omega), (k - 1), (hF.take (hF.take (hF.take (hF.take hF.nil (lk_int rfl (by omega))) (lk_int rfl (by first | omega | (rw [val_drop_all (Nat.le_refl _)]; rfl)))) rfl) rfl), rfl, (by omega), rfl⟩
 have hc1p : ¬ ((((k : Nat) : Int) - 1) ≥ 0) := by first | simpa using hc1 | exact bang_t hc1 | exact bang_f hc1
 refine c_exit ?_
 refine x_te ?_
 refine x_te ?_
 refine x_bh ?_
 refine x_tn ?_
 refine c_seq ?_
 refine c_reg ?_
 refine st_val hF rfl rfl rfl (ex_move (hF.ev rfl)) ?_
 clear hF fa; intro fa hF
 refine st_val hF rfl rfl rfl (ex_assign (hF.ev rfl)) ?_
 clear hF fa; intro fa hF
 refine c_nil_then ?_
 refine c_ret ?_
 have h0 : k = 0 := by omega
 subst h0
 refine end1 hF rfl (res_tmp hF rfl) ?_
 exact ⟨_, rfl, (congrArg (Value.int .u64) (by simp)), hS.below⟩

set_option maxHeartbeats 4000000 in
theorem ref01_limbs_ok {w : World} {X : List Nat} (hX : ∀ m ∈ X, m < w.heap.size) (n : Nat) (hv : n < 18446744073709551616) :
    Calls Try.prog 53 #[(.int .u64 ((n : Nat) : Int))] w (Ret fun r w' => (UL w' X r (lim n)) ∧ Below w.heap.size w w') := by
 refine enter (N := 15) (fn := Try.f53) (vs := [(.int .u64 ((n : Nat) : Int))]) Try.func53 rfl rfl rfl ?_
 intro fa hF
 replace hF : Frm 15 fa [(0, (.int .u64 (((n : Nat) : Int))))] := hF
 have hS := St.refl w
 refine c_seq ?_
 refine c_reg ?_
 refine st_val hF rfl rfl rfl (ex_assign (hF.ev rfl)) ?_
 clear hF fa; intro fa hF
 refine c_nil_then ?_
 refine c_seq ?_
 refine c_reg ?_
 refine st_val hF rfl rfl rfl (ex_assign (hF.ev rfl)) ?_
 clear hF fa; intro fa hF
 refine c_nil_then ?_
 refine c_seq ?_
 refine c_block ?_
 refine c_loop (fun mu fa w' => ∃ o : List Nat, ∃ m : Nat, ∃ vo : Value, ∃ So : List Bx, Frm 15 fa [(2, (.slice (none) (0) (0))), (0, (.int .u64 (((m : Nat) : Int)))), (3, vo)] ∧ St w w' So ∧ Ext w X w' (bl So ++ X) ∧ (OwV 46 So vo (us o)) ∧ (m ≤ n) ∧ (lim n = o ++ lim m) ∧ m = mu) ?_ ?_
 ·
  exact ⟨_, [], n, (.slice (none) (0) (0)), [], (hF.take (hF.take (hF.take hF.nil rfl) (lk_int rfl (by omega))) rfl), hS, Ext.refl _ _, (OwV.nil 46), (by omega), (by simp), rfl⟩
 clear hF fa; intro n0_ fa w' hI
 clear hS
 obtain ⟨o, m, vo, So, hF, hS, E2, hO, hm, hl, rfl⟩ := hI
 rename World => w1
 refine c_seq ?_
 refine c_seq ?_
 refine c_reg ?_
 refine st_val hF rfl rfl rfl (ex_move (hF.ev rfl)) ?_
 clear hF fa; intro fa hF
 refine st_val hF rfl rfl rfl (ex_gtr (hF.ev rfl) (hF.ev rfl)) ?_
 clear hF fa; intro fa hF
 refine c_nil_then ?_
 refine c_cond hF rfl (fun hc3 => ?_) (fun hc3 => ?_)
 ·
  have hc3p : ((m : Nat) : Int) > 0 := by first | simpa using hc3 | exact bang_t hc3 | exact bang_f hc3
  have hll := congrArg List.length hl; simp at hll; have hl3 := lim_len_le (n := n) (k := 3) (by omega)
  have hlm := lim_pos (n := m) (by omega)
  refine c_skip ?_
  refine x_tn ?_
  refine c_block ?_
  refine c_seq ?_
  refine c_reg ?_
  refine st_val hF rfl rfl rfl (ex_move (hF.ev rfl)) ?_
  clear hF fa; intro fa hF
  refine st_val hF rfl rfl rfl (ex_move (hF.ev rfl)) ?_
  clear hF fa; intro fa hF
  refine st_val hF rfl rfl rfl (ex_rem (hF.ev rfl) (hF.ev rfl) (by omega) (r_any (x := m) (y := 1000000000) (by omega) (by omega))) ?_
  clear hF fa; intro fa hF
  refine st_val hF rfl rfl rfl (ex_conv TfG.unds54 TfG.und46 (hF.ev rfl) (wu32n (by omega))) ?_
  clear hF fa; intro fa hF
  refine st rfl (op_lit (X := (bl So ++ X)) hF hS (hS.bnd hX) rfl TfG.sl22 TfG.el46 rfl rfl (lits1 (hF.ev (ev_int (b := ((m % 1000000000 : Nat) : Int)) rfl (by omega)))) (fill_u1 (x := m % 1000000000)) ?_)
  intro g4 w5 hg7 hS E6 hc8; refine gen_ ?_; clear hF fa; intro fa hF
  have hu9 := UC.one (l := [m % 1000000000]) hc8 (by simp)
  refine st rfl (op_append (X := X) (F := []) (So := So) (l := us (o)) (m := us ([m % 1000000000])) hF hS rfl TfG.sl22 TfG.el46 rfl rfl rfl (by simp) hO hu9.cl (us_one _) (by simp; omega) (by simp; omega) ?_)
  intro v10 So11 w12 hO13 hS E14 hun15; refine gen_ ?_; clear hF fa; intro fa hF
  clear hun15
  rw [← us_append] at hO13
  replace E14 : Ext w5 (bl So ++ X) w12 (bl So11 ++ X) := E14
  replace hS : St w w12 So11 := hS
  refine st_val hF rfl rfl rfl (ex_assign (hF.ev rfl)) ?_
  clear hF fa; intro fa hF
  refine c_nil_then ?_
  refine c_reg ?_
  refine st_val hF rfl rfl rfl (ex_move (hF.ev rfl)) ?_
  clear hF fa; intro fa hF
  refine st_val hF rfl rfl rfl (ex_quo (hF.ev rfl) (hF.ev rfl) (by omega) (q_u64 (x := m) (y := 1000000000) (by omega) (by omega) (by omega))) ?_
  clear hF fa; intro fa hF
  refine st_val hF rfl rfl rfl (ex_assign (hF.ev rfl)) ?_
  clear hF fa; intro fa hF
  refine c_nil ?_
  refine x_bn ?_
  refine x_tn ?_
  exact ⟨_, (by omega), o ++ ([m % 1000000000]), m / 1000000000, v10, So11, (hF.take (hF.take (hF.take hF.nil rfl) (lk_int rfl (by omega))) rfl), hS, ((E2.trans E6).trans E14), (hO13), (by omega), (by rw [hl, hlm]; simp), rfl⟩
 have hc3p : ¬ (((m : Nat) : Int) > 0) := by first | simpa using hc3 | exact bang_t hc3 | exact bang_f hc3
 refine c_exit ?_
 refine x_te ?_
 refine x_te ?_
 refine x_bh ?_
 refine x_tn ?_
 refine c_seq ?_
 refine c_reg ?_
 refine st_val hF rfl rfl rfl (ex_move (hF.ev rfl)) ?_
 clear hF fa; intro fa hF
 refine st_val hF rfl rfl rfl (ex_assign (hF.ev rfl)) ?_
 clear hF fa; intro fa hF
 refine c_nil_then ?_
 refine c_ret ?_
 refine end1 hF rfl (res_tmp hF rfl) ?_
 exact ⟨_, rfl, (UL.fin (UC.of_ow (F := []) hO hS hX) (by rw [hl, show m = 0 by omega, lim_zero]; simp) (fun _ h => h)), hS.below⟩

set_option maxHeartbeats 4000000 in
theorem integer_split_ok {w : World} {X : List Nat} (hX : ∀ m ∈ X, m < w.heap.size) (n : Nat) (hv : n < 18446744073709551616) :
    Calls Try.prog 50 #[(.int .u64 ((n : Nat) : Int))] w (Ret fun r w' => (UL w' X r ([n % 1000000000, n / 1000000000 % 1000000000, n / 1000000000 / 1000000000])) ∧ Below w.heap.size w w') := by
 refine enter (N := 15) (fn := Try.f50) (vs := [(.int .u64 ((n : Nat) : Int))]) Try.func50 rfl rfl rfl ?_
 intro fa hF
 replace hF : Frm 15 fa [(0, (.int .u64 (((n : Nat) : Int))))] := hF
 have hS := St.refl w
 refine c_seq ?_
 refine c_reg ?_
 refine st_val hF rfl rfl rfl (ex_assign (hF.ev rfl)) ?_
 clear hF fa; intro fa hF
 refine c_nil_then ?_
 refine c_seq ?_
 refine c_reg ?_
 refine st_val hF rfl rfl rfl (ex_move (hF.ev rfl)) ?_
 clear hF fa; intro fa hF
 refine st_val hF rfl rfl rfl (ex_rem (hF.ev rfl) (hF.ev rfl) (by omega) (r_any (x := n) (y := 1000000000) (by omega) (by omega))) ?_
 clear hF fa; intro fa hF
 refine st_val hF rfl rfl rfl (ex_conv TfG.unds54 TfG.und46 (hF.ev rfl) (wu32n (by omega))) ?_
 clear hF fa; intro fa hF
 refine st_val hF rfl rfl rfl (ex_move (hF.ev rfl)) ?_
 clear hF fa; intro fa hF
 refine st_val hF rfl rfl rfl (ex_quo (hF.ev rfl) (hF.ev rfl) (by omega) (q_u64 (x := n) (y := 1000000000) (by omega) (by omega) (by omega))) ?_
 clear hF fa; intro fa hF
 refine st_val hF rfl rfl rfl (ex_rem (hF.ev rfl) (hF.ev rfl) (by omega) (r_any (x := n / 1000000000) (y := 1000000000) (by omega) (by omega))) ?_
 clear hF fa; intro fa hF
 refine st_val hF rfl rfl rfl (ex_conv TfG.unds54 TfG.und46 (hF.ev rfl) (wu32n (by omega))) ?_
 clear hF fa; intro fa hF
 refine st_val hF rfl rfl rfl (ex_move (hF.ev rfl)) ?_
 clear hF fa; intro fa hF
 refine st_val hF rfl rfl rfl (ex_quo (hF.ev rfl) (hF.ev rfl) (by omega) (q_u64 (x := n) (y := 1000000000) (by omega) (by omega) (by omega))) ?_
 clear hF fa; intro fa hF
 refine st_val hF rfl rfl rfl (ex_quo (hF.ev rfl) (hF.ev rfl) (by omega) (q_u64 (x := n / 1000000000) (y := 1000000000) (by omega) (by omega) (by omega))) ?_
 clear hF fa; intro fa hF
 refine st_val hF rfl rfl rfl (ex_conv TfG.unds54 TfG.und46 (hF.ev rfl) (wu32n (by omega))) ?_
 clear hF fa; intro fa hF
 refine st rfl (op_lit (X := X) hF hS (hS.bnd hX) rfl TfG.sl22 TfG.el46 rfl rfl (lits3 (hF.ev (ev_int (b := ((n % 1000000000 : Nat) : Int)) rfl (by omega))) (hF.ev (ev_int (b := (((n / 1000000000) % 1000000000 : Nat) : Int)) rfl (by omega))) (hF.ev (ev_int (b := (((n / 1000000000) / 1000000000 : Nat) : Int)) rfl (by omega)))) (fill_u3 (x := n % 1000000000) (y := (n / 1000000000) % 1000000000) (z := (n / 1000000000) / 1000000000)) ?_)
 intro g1 w2 hg4 hS E3 hc5; refine gen_ ?_; clear hF fa; intro fa hF
 have hu6 := UC.one (l := [n % 1000000000, (n / 1000000000) % 1000000000, (n / 1000000000) / 1000000000]) hc5 (by simp)
 refine st_val hF rfl rfl rfl (ex_assign (hF.ev rfl)) ?_
 clear hF fa; intro fa hF
 replace hF : Frm 15 fa [(0, (.int .u64 (((n : Nat) : Int)))), (2, (.slice (some ⟨g1, 0, none⟩) (3) (3)))] := (hF.take (hF.take hF.nil rfl) rfl)
 refine c_nil_then ?_
 refine c_ret ?_
 refine end1 hF rfl (res_tmp hF rfl) ?_
 exact ⟨_, rfl, (UL.fin (L := [n % 1000000000, (n / 1000000000) % 1000000000, (n / 1000000000) / 1000000000]) ⟨_, _, _, rfl, (rfl), hu6⟩ (rfl) (fun x hx => by simp [hx])), hS.below⟩

set_option maxHeartbeats 4000000 in
theorem integer_word_ok {w : World} {X : List Nat} (hX : ∀ m ∈ X, m < w.heap.size) {v_a : Value} {a : Int} (h_a : IntV w X v_a (a)) (hs_a : sz a ≤ 1000000000) :
    Calls Try.prog 49 #[v_a] w (Ret fun r w' => (∃ r0 r1, r = .tuple #[r0, r1] ∧ r0 = .int .u64 ((((if sz a ≤ 2 then a.natAbs else 0) : Nat) : Int)) ∧ r1 = .bool (decide (sz a ≤ 2))) ∧ Below w.heap.size w w') := by
 refine enter (N := 30) (fn := Try.f49) (vs := [v_a]) Try.func49 rfl rfl rfl ?_
 intro fa hF
 obtain ⟨_, rfl, A_a, c_a, rfl, hu_a⟩ := h_a
 have hl_a := hu_a.len; have hc_a := hu_a.cap
 replace hF : Frm 30 fa [(0, (.agg (ic (A_a) (c_a) (a))))] := hF
 have hS := St.refl w
 have hlb := lb_lim a.natAbs
 have hg0 := hlb.getD 0; have hg1 := hlb.getD 1
 unfold sz at hs_a
 refine c_seq ?_
 refine c_reg ?_
 refine st rfl (op_box (X := X) hF hS rfl rfl rfl ?_)
 intro g1 w2 hg4 hS E3; refine gen_ ?_; clear hF fa; intro fa hF
 replace hS : St w w2 [(g1, 24, (ic (A_a) (c_a) (a)))] := hS
 refine st_val hF rfl rfl rfl (ex_assign (hF.ev rfl)) ?_
 clear hF fa; intro fa hF
 refine st_val hF rfl rfl rfl (ex_assign (hF.ev rfl)) ?_
 clear hF fa; intro fa hF
 refine c_nil_then ?_
 refine c_seq ?_
 refine c_seq ?_
 refine c_reg ?_
 refine st_val hF rfl rfl rfl (ex_field_addr TfG.off24_1 (hF.ev rfl)) ?_
 clear hF fa; intro fa hF
 refine st_val hF rfl rfl rfl (ex_load1b TfG.one22 (hF.ev rfl) (hS.get 0 rfl) rfl) ?_
 clear hF fa; intro fa hF
 refine st_val hF rfl rfl rfl (ex_len TfG.sls22 (hF.ev rfl)) ?_
 clear hF fa; intro fa hF
 refine c_nil_then ?_
 refine c_block ?_
 refine c_seq ?_
 refine c_reg ?_
 refine st_val hF rfl rfl rfl (ex_eql (hF.ev rfl) (hF.ev rfl)) ?_
 clear hF fa; intro fa hF
 refine st_val hF rfl rfl rfl (ex_assign (hF.ev rfl)) ?_
 clear hF fa; intro fa hF
 refine c_nil_then ?_
 refine c_cond hF rfl (fun hc5 => ?_) (fun hc5 => ?_)
 ·
  have hc5p : (((lim a.natAbs).length : Nat) : Int) = 0 := by first | simpa using hc5 | exact bang_t hc5 | exact bang_f hc5
  refine c_seq ?_
  refine c_reg ?_
  refine st_val hF rfl rfl rfl (ex_assign (hF.ev rfl)) ?_
  clear hF fa; intro fa hF
  refine st_val hF rfl rfl rfl (ex_assign (hF.ev rfl)) ?_
  clear hF fa; intro fa hF
  refine c_nil_then ?_
  refine c_ret ?_
  refine x_br ?_
  refine x_tr ?_
  refine end2 hF rfl (res_tmp hF rfl) (res_tmp hF rfl) ?_
  exact ⟨_, rfl, ⟨_, _, rfl, (congrArg (Value.int .u64) (by have h0 := lim_len_zero (n := a.natAbs); rw [if_pos (by unfold sz; omega), h0.1 (by omega)]; rfl)), (congrArg Value.bool (by unfold sz; simp; omega))⟩, hS.below⟩
 have hc5p : ¬ ((((lim a.natAbs).length : Nat) : Int) = 0) := by first | simpa using hc5 | exact bang_t hc5 | exact bang_f hc5
 refine c_seq ?_
 refine c_reg ?_
 refine st_val hF rfl rfl rfl (ex_eql (hF.ev rfl) (hF.ev rfl)) ?_
 clear hF fa; intro fa hF
 refine st_val hF rfl rfl rfl (ex_assign (hF.ev rfl)) ?_
 clear hF fa; intro fa hF
 refine c_nil_then ?_
 refine c_cond hF rfl (fun hc6 => ?_) (fun hc6 => ?_)
 ·
  have hc6p : (((lim a.natAbs).length : Nat) : Int) = 1 := by first | simpa using hc6 | exact bang_t hc6 | exact bang_f hc6
  refine c_seq ?_
  refine c_reg ?_
  refine st_val hF rfl rfl rfl (ex_field_addr TfG.off24_1 (hF.ev rfl)) ?_
  clear hF fa; intro fa hF
  refine st_val hF rfl rfl rfl (ex_load1b TfG.one22 (hF.ev rfl) (hS.get 0 rfl) rfl) ?_
  clear hF fa; intro fa hF
  obtain ⟨ad7, hA8, hq9⟩ := (hu_a.ext E3).cl.at_ (us_get (l := (lim a.natAbs)) (i := 0) (by omega))
  refine st_val hF rfl rfl rfl (ex_idx (j := 0) TfG.sl22 (hF.ev rfl) hA8 (hF.ev rfl) (by omega) (by omega)) ?_
  clear hF fa; intro fa hF
  refine st_val hF rfl rfl rfl (ex_load1 TfG.one46 (hF.ev rfl) hq9) ?_
  clear hF fa; intro fa hF
  refine st_val hF rfl rfl rfl (ex_conv TfG.unds46 TfG.und54 (hF.ev rfl) (wu64n (by omega))) ?_
  clear hF fa; intro fa hF
  refine st_val hF rfl rfl rfl (ex_assign (hF.ev rfl)) ?_
  clear hF fa; intro fa hF
  refine st_val hF rfl rfl rfl (ex_assign (hF.ev rfl)) ?_
  clear hF fa; intro fa hF
  refine c_nil_then ?_
  refine c_ret ?_
  refine x_br ?_
  refine x_tr ?_
  refine end2 hF rfl (res_tmp hF rfl) (res_tmp hF rfl) ?_
  exact ⟨_, rfl, ⟨_, _, rfl, (congrArg (Value.int .u64) (by have h0 := lim_one (n := a.natAbs) (by omega); rw [if_pos (by unfold sz; omega), h0])), (congrArg Value.bool (by unfold sz; simp; omega))⟩, hS.below⟩
 have hc6p : ¬ ((((lim a.natAbs).length : Nat) : Int) = 1) := by first | simpa using hc6 | exact bang_t hc6 | exact bang_f hc6
 refine c_seq ?_
 refine c_reg ?_
 refine st_val hF rfl rfl rfl (ex_eql (hF.ev rfl) (hF.ev rfl)) ?_
 clear hF fa; intro fa hF
 refine st_val hF rfl rfl rfl (ex_assign (hF.ev rfl)) ?_
 clear hF fa; intro fa hF
 refine c_nil_then ?_
 refine c_cond hF rfl (fun hc10 => ?_) (fun hc10 => ?_)
 ·
  have hc10p : (((lim a.natAbs).length : Nat) : Int) = 2 := by first | simpa using hc10 | exact bang_t hc10 | exact bang_f hc10
  refine c_seq ?_
  obtain ⟨ad_20, hA_20, hq_20⟩ := (hu_a.ext E3).cl.at2 (us_get (l := (lim a.natAbs)) (i := 1) (by omega))
  obtain ⟨ad_26, hA_26, hq_26⟩ := (hu_a.ext E3).cl.at2 (us_get (l := (lim a.natAbs)) (i := 0) (by omega))
  refine drawn2 (N := 30) (L0 := [(0, (.agg (ic (A_a) (c_a) (a)))), (1, (.pointer (some ⟨g1, 0, none⟩))), (6, (.int .i64 ((((lim a.natAbs).length : Nat) : Int)))), (7, (.bool (decide ((((lim a.natAbs).length : Nat) : Int) = 0)))), (9, (.bool (decide ((((lim a.natAbs).length : Nat) : Int) = 1)))), (16, (.bool (decide ((((lim a.natAbs).length : Nat) : Int) = 2))))]) [some (.pointer (some ⟨g1, 1, none⟩)), some (.slice (A_a) ((lim a.natAbs).length) (c_a)), some (.pointer (some (ad_20.add (1)))), some (.int .u32 ((((lim a.natAbs).getD (1) 0 : Nat) : Int))), some (.int .u64 ((((lim a.natAbs).getD (1) 0 : Nat) : Int))), some (.int .u64 ((((lim a.natAbs).getD (1) 0 : Nat) : Int) * 1000000000)), some (.pointer (some ⟨g1, 1, none⟩)), some (.slice (A_a) ((lim a.natAbs).length) (c_a)), some (.pointer (some (ad_26.add (0)))), some (.int .u32 ((((lim a.natAbs).getD (0) 0 : Nat) : Int))), some (.int .u64 ((((lim a.natAbs).getD (0) 0 : Nat) : Int))), some (.int .u64 (((((lim a.natAbs).getD (1) 0 : Nat) : Int) * 1000000000) + (((lim a.natAbs).getD (0) 0 : Nat) : Int))), some (.int .u64 (((((lim a.natAbs).getD (1) 0 : Nat) : Int) * 1000000000) + (((lim a.natAbs).getD (0) 0 : Nat) : Int))), some (.bool (true))] [] [[]] [[0], [0], [0], [0], [0], [0], [0], [0], [0], [0], [0], [0], [0], [0]] 0 [
        fun fa w' => Frm 30 fa [] ∧ St w w' [(g1, 24, (ic (A_a) (c_a) (a)))] ∧ Ext w2 (g1 :: X) w' (g1 :: X)
      ] TfG.mixed rfl rfl rfl rfl rfl rfl (hF.take (hF.take (hF.take (hF.take (hF.take (hF.take hF.nil rfl) rfl) rfl) rfl) rfl) rfl) rfl ⟨hF.nil, hS.drew, Ext.drew _ _⟩ ?_ ?_ ?_
  all_goals clear hF fa
  ·
   refine ⟨?_, trivial⟩
   ·
    rintro fa w' i o d v ho hd hna ⟨hA, hR⟩; exact ⟨hA.put_other v (freeOf_at (acts := []) rfl ho hd hna), hR⟩
  ·
   refine ⟨?_, ?_, ?_, ?_, ?_, ?_, ?_, ?_, ?_, ?_, ?_, ?_, ?_, ?_, trivial⟩
   ·
    refine .inl ⟨rfl, _, _, rfl, rfl, fun s fa w' hΦ hF hB K hK => ?_⟩
    exact fl_val rfl rfl rfl (ex_field_addr TfG.off24_1 (hF.ev rfl)) hK
   ·
    refine .inr (.inl ⟨rfl, _, _, rfl, rfl, ?_, trivial⟩)
    ·
     intro fa w' hΦ hF hB K hK
     obtain ⟨hA, hS, E_w'⟩ := hΦ
     replace hF := hF.cons (hB.val 0 _ 18 _ rfl rfl rfl rfl)
     exact fl_val rfl rfl rfl (ex_load1b TfG.one22 (hF.ev rfl) (hS.get 0 rfl) rfl) hK
   ·
    refine .inl ⟨rfl, _, _, rfl, rfl, fun s fa w' hΦ hF hB K hK => ?_⟩
    replace hF := hF.cons (hB.val 1 _ 19 _ rfl rfl rfl rfl)
    exact fl_val rfl rfl rfl (ex_idx (j := 1) TfG.sl22 (hF.ev rfl) hA_20 (hF.ev rfl) (by omega) (by omega)) hK
   ·
    refine .inr (.inl ⟨rfl, _, _, rfl, rfl, ?_, trivial⟩)
    ·
     intro fa w' hΦ hF hB K hK
     obtain ⟨hA, hS, E_w'⟩ := hΦ
     replace hF := hF.cons (hB.val 2 _ 20 _ rfl rfl rfl rfl)
     exact fl_val rfl rfl rfl (ex_load1 TfG.one46 (hF.ev rfl) (hq_20 E_w')) hK
   ·
    refine .inl ⟨rfl, _, _, rfl, rfl, fun s fa w' hΦ hF hB K hK => ?_⟩
    replace hF := hF.cons (hB.val 3 _ 21 _ rfl rfl rfl rfl)
    exact fl_val rfl rfl rfl (ex_conv TfG.unds46 TfG.und54 (hF.ev rfl) (wu64n (by omega))) hK
   ·
    refine .inl ⟨rfl, _, _, rfl, rfl, fun s fa w' hΦ hF hB K hK => ?_⟩
    replace hF := hF.cons (hB.val 4 _ 22 _ rfl rfl rfl rfl)
    exact fl_val rfl rfl rfl (ex_mul (hF.ev rfl) (hF.ev rfl) (wu64 (by omega) (by omega))) hK
   ·
    refine .inl ⟨rfl, _, _, rfl, rfl, fun s fa w' hΦ hF hB K hK => ?_⟩
    exact fl_val rfl rfl rfl (ex_field_addr TfG.off24_1 (hF.ev rfl)) hK
   ·
    refine .inr (.inl ⟨rfl, _, _, rfl, rfl, ?_, trivial⟩)
    ·
     intro fa w' hΦ hF hB K hK
     obtain ⟨hA, hS, E_w'⟩ := hΦ
     replace hF := hF.cons (hB.val 6 _ 24 _ rfl rfl rfl rfl)
     exact fl_val rfl rfl rfl (ex_load1b TfG.one22 (hF.ev rfl) (hS.get 0 rfl) rfl) hK
   ·
    refine .inl ⟨rfl, _, _, rfl, rfl, fun s fa w' hΦ hF hB K hK => ?_⟩
    replace hF := hF.cons (hB.val 7 _ 25 _ rfl rfl rfl rfl)
    exact fl_val rfl rfl rfl (ex_idx (j := 0) TfG.sl22 (hF.ev rfl) hA_26 (hF.ev rfl) (by omega) (by omega)) hK
   ·
    refine .inr (.inl ⟨rfl, _, _, rfl, rfl, ?_, trivial⟩)
    ·
     intro fa w' hΦ hF hB K hK
     obtain ⟨hA, hS, E_w'⟩ := hΦ
     replace hF := hF.cons (hB.val 8 _ 26 _ rfl rfl rfl rfl)
     exact fl_val rfl rfl rfl (ex_load1 TfG.one46 (hF.ev rfl) (hq_26 E_w')) hK
   ·
    refine .inl ⟨rfl, _, _, rfl, rfl, fun s fa w' hΦ hF hB K hK => ?_⟩
    replace hF := hF.cons (hB.val 9 _ 27 _ rfl rfl rfl rfl)
    exact fl_val rfl rfl rfl (ex_conv TfG.unds46 TfG.und54 (hF.ev rfl) (wu64n (by omega))) hK
   ·
    refine .inl ⟨rfl, _, _, rfl, rfl, fun s fa w' hΦ hF hB K hK => ?_⟩
    replace hF := hF.cons (hB.val 5 _ 23 _ rfl rfl rfl rfl)
    replace hF := hF.cons (hB.val 10 _ 28 _ rfl rfl rfl rfl)
    exact fl_val rfl rfl rfl (ex_add (hF.ev rfl) (hF.ev rfl) (wu64 (by omega) (by omega))) hK
   ·
    refine .inl ⟨rfl, _, _, rfl, rfl, fun s fa w' hΦ hF hB K hK => ?_⟩
    replace hF := hF.cons (hB.val 11 _ 29 _ rfl rfl rfl rfl)
    exact fl_val rfl rfl rfl (ex_assign (hF.ev rfl)) hK
   ·
    refine .inl ⟨rfl, _, _, rfl, rfl, fun s fa w' hΦ hF hB K hK => ?_⟩
    exact fl_val rfl rfl rfl (ex_assign (hF.ev rfl)) hK
  intro fa w11 hΦ hF hC
  obtain ⟨hA, hS, E_w11⟩ := hΦ
  replace hF := hF.cons (hC 12 _ 2 _ rfl rfl rfl)
  replace hF := hF.cons (hC 13 _ 3 _ rfl rfl rfl)
  clear hA hC
  refine x_tn ?_
  refine c_ret ?_
  refine x_br ?_
  refine x_tr ?_
  refine end2 hF rfl (res_tmp hF rfl) (res_tmp hF rfl) ?_
  exact ⟨_, rfl, ⟨_, _, rfl, (congrArg (Value.int .u64) (by have h0 := lim_two (n := a.natAbs) (by omega); rw [if_pos (by unfold sz; omega)]; omega)), (congrArg Value.bool (by unfold sz; simp; omega))⟩, hS.below⟩
 have hc10p : ¬ ((((lim a.natAbs).length : Nat) : Int) = 2) := by first | simpa using hc10 | exact bang_t hc10 | exact bang_f hc10
 refine c_skip ?_
 refine x_bn ?_
 refine x_tn ?_
 refine c_seq ?_
 refine c_reg ?_
 refine st_val hF rfl rfl rfl (ex_assign (hF.ev rfl)) ?_
 clear hF fa; intro fa hF
 refine st_val hF rfl rfl rfl (ex_assign (hF.ev rfl)) ?_
 clear hF fa; intro fa hF
 refine c_nil_then ?_
 refine c_ret ?_
 refine end2 hF rfl (res_tmp hF rfl) (res_tmp hF rfl) ?_
 exact ⟨_, rfl, ⟨_, _, rfl, (congrArg (Value.int .u64) (by rw [if_neg (by unfold sz; omega)]; rfl)), (congrArg Value.bool (by unfold sz; simp; omega))⟩, hS.below⟩

set_option maxHeartbeats 4000000 in
theorem integer_byWord_ok {w : World} {X : List Nat} (hX : ∀ m ∈ X, m < w.heap.size) {v_a : Value} {a : List Nat} (h_a : UL w X v_a (a)) (b : Nat) (hn_a : a.length ≤ 1000000000000) (hb_a : Lb a) (hb0 : 0 < b) (hb1 : b < 1000000000) :
    Calls Try.prog 60 #[v_a, (.int .u32 ((b : Nat) : Int))] w (Ret fun r w' => (∃ qs : List Nat, ∃ rs : List Nat, ∃ r0 r1, r = .tuple #[r0, r1] ∧ UL w' X r0 (qs) ∧ UL w' X r1 (rs) ∧ Lb qs ∧ Lb rs ∧ val a = b * val qs + val rs ∧ val rs < b ∧ qs.length = a.length ∧ rs.length = 1) ∧ Below w.heap.size w w') := by
 refine enter (N := 44) (fn := Try.f60) (vs := [v_a, (.int .u32 ((b : Nat) : Int))]) Try.func60 rfl rfl rfl ?_
 intro fa hF
 obtain ⟨A_a, _, c_a, rfl, rfl, hu_a⟩ := h_a
 have hl_a := hu_a.len; have hc_a := hu_a.cap
 replace hF : Frm 44 fa [(0, (.slice (A_a) (a.length) (c_a))), (1, (.int .u32 (((b : Nat) : Int))))] := hF
 have hS := St.refl w
 refine c_seq ?_
 refine c_reg ?_
 refine st_val hF rfl rfl rfl (ex_assign (hF.ev rfl)) ?_
 clear hF fa; intro fa hF
 refine st_val hF rfl rfl rfl (ex_assign (hF.ev rfl)) ?_
 clear hF fa; intro fa hF
 refine c_nil_then ?_
 refine c_seq ?_
 refine c_reg ?_
 refine st_val hF rfl rfl rfl (ex_move (hF.ev rfl)) ?_
 clear hF fa; intro fa hF
 refine st_val hF rfl rfl rfl (ex_len TfG.sls22 (hF.ev rfl)) ?_
 clear hF fa; intro fa hF
 refine st rfl (op_make (X := X) (nl := a.length) (nc := a.length) hF hS rfl TfG.sl22 TfG.el46 rfl rfl (by omega) (by omega) (by omega) (by omega) (by omega) (made_us _) ?_)
 intro g1 w2 hg4 hS E3; refine gen_ ?_; clear hF fa; intro fa hF
 replace hS : St w w2 [(g1, 46, (us (List.replicate ((a.length) * 1) 0)).toArray)] := hS
 rw [Nat.mul_one] at hS
 refine st_val hF rfl rfl rfl (ex_assign (hF.ev rfl)) ?_
 clear hF fa; intro fa hF
 refine c_nil_then ?_
 refine c_seq ?_
 refine c_reg ?_
 refine st_val hF rfl rfl rfl (ex_assign (hF.ev rfl)) ?_
 clear hF fa; intro fa hF
 refine c_nil_then ?_
 refine c_seq ?_
 refine c_seq ?_
 refine c_reg ?_
 refine st_val hF rfl rfl rfl (ex_move (hF.ev rfl)) ?_
 clear hF fa; intro fa hF
 refine st_val hF rfl rfl rfl (ex_len TfG.sls22 (hF.ev rfl)) ?_
 clear hF fa; intro fa hF
 refine st_val hF rfl rfl rfl (ex_sub (hF.ev rfl) (hF.ev rfl) (wi64 (by omega) (by omega))) ?_
 clear hF fa; intro fa hF
 refine st_val hF rfl rfl rfl (ex_assign (hF.ev rfl)) ?_
 clear hF fa; intro fa hF
 refine c_nil_then ?_
 refine c_block ?_
 refine c_loop (fun mu fa w' => ∃ o : List Nat, ∃ rr : Nat, ∃ k : Nat, Frm 44 fa [(0, (.slice (A_a) (a.length) (c_a))), (1, (.int .u32 (((b : Nat) : Int)))), (4, (.slice (none) (0) (0))), (5, (.slice (none) (0) (0))), (6, (.slice (some ⟨g1, 0, none⟩) (a.length) (a.length))), (7, (.int .u64 (((rr : Nat) : Int)))), (8, (.int .i64 (((k : Nat) : Int) - 1)))] ∧ St w w' [(g1, 46, (us (o)).toArray)] ∧ Ext w2 (g1 :: X) w' (g1 :: X) ∧ (k ≤ a.length) ∧ (o.length = a.length) ∧ (Lb o) ∧ (rr < b) ∧ (val (a.drop k) = b * val (o.drop k) + rr) ∧ k = mu) ?_ ?_
 ·
  exact ⟨_, List.replicate a.length 0, 0, a.length, (hF.take (hF.take (hF.take (hF.take (hF.take (hF.take (hF.take hF.nil (lk_int rfl (by omega))) (lk_int rfl (by omega))) rfl) rfl) rfl) rfl) rfl), hS, Ext.refl _ _, (by omega), (by simp), (lb_zeros _), (by omega), (by rw [val_drop_all (Nat.le_refl _), val_drop_all (by simp)]; simp), rfl⟩
 clear hF fa; intro n0_ fa w' hI
 clear hS
 obtain ⟨o, rr, k, hF, hS, E6, hk, ho, hbo, hr, hv, rfl⟩ := hI
 rename World => w5
 have hak := hb_a.getD (k - 1)
 have hbl := byword_lt hr hb1 hak (t := _) rfl
 obtain ⟨hbl1, hbl2, hbl3⟩ := hbl
 refine c_seq ?_
 refine c_seq ?_
 refine c_reg ?_
 refine st_val hF rfl rfl rfl (ex_move (hF.ev rfl)) ?_
 clear hF fa; intro fa hF
 refine st_val hF rfl rfl rfl (ex_geq (hF.ev rfl) (hF.ev rfl)) ?_
 clear hF fa; intro fa hF
 refine c_nil_then ?_
 refine c_cond hF rfl (fun hc7 => ?_) (fun hc7 => ?_)
 ·
  have hc7p : (((k : Nat) : Int) - 1) ≥ 0 := by first | simpa using hc7 | exact bang_t hc7 | exact bang_f hc7
  refine c_skip ?_
  refine x_tn ?_
  refine c_seq ?_
  refine c_block ?_
  refine c_seq ?_
  refine c_reg ?_
  refine st_val hF rfl rfl rfl (ex_move (hF.ev rfl)) ?_
  clear hF fa; intro fa hF
  refine st_val hF rfl rfl rfl (ex_mul (hF.ev rfl) (hF.ev rfl) (wu64 (by omega) (by omega))) ?_
  clear hF fa; intro fa hF
  refine st_val hF rfl rfl rfl (ex_move (hF.ev rfl)) ?_
  clear hF fa; intro fa hF
  refine st_val hF rfl rfl rfl (ex_move (hF.ev rfl)) ?_
  clear hF fa; intro fa hF
  obtain ⟨ad8, hA9, hq10⟩ := (hu_a.ext (E3.trans E6)).cl.at_ (us_get (l := a) (i := k - 1) (by omega))
  refine st_val hF rfl rfl rfl (ex_idx (j := k - 1) TfG.sl22 (hF.ev rfl) hA9 (hF.ev rfl) (by omega) (by omega)) ?_
  clear hF fa; intro fa hF
  refine st_val hF rfl rfl rfl (ex_load1 TfG.one46 (hF.ev rfl) hq10) ?_
  clear hF fa; intro fa hF
  refine st_val hF rfl rfl rfl (ex_conv TfG.unds46 TfG.und54 (hF.ev rfl) (wu64n (by omega))) ?_
  clear hF fa; intro fa hF
  refine st_val hF rfl rfl rfl (ex_add (hF.ev rfl) (hF.ev rfl) (wu64 (by omega) (by omega))) ?_
  clear hF fa; intro fa hF
  refine st_val hF rfl rfl rfl (ex_assign (hF.ev rfl)) ?_
  clear hF fa; intro fa hF
  replace hF : Frm 44 fa [(0, (.slice (A_a) (a.length) (c_a))), (1, (.int .u32 (((b : Nat) : Int)))), (4, (.slice (none) (0) (0))), (5, (.slice (none) (0) (0))), (6, (.slice (some ⟨g1, 0, none⟩) (a.length) (a.length))), (7, (.int .u64 (((rr : Nat) : Int)))), (8, (.int .i64 (((k : Nat) : Int) - 1))), (17, (.bool (decide ((((k : Nat) : Int) - 1) ≥ 0)))), (9, (.int .u64 ((((rr : Nat) : Int) * 1000000000) + ((a.getD (k - 1) 0 : Nat) : Int))))] := (hF.take (hF.take (hF.take (hF.take (hF.take (hF.take (hF.take (hF.take (hF.take hF.nil rfl) rfl) rfl) rfl) rfl) rfl) rfl) rfl) rfl)
  refine c_nil_then ?_
  refine drawn2 (N := 44) (L0 := [(0, (.slice (A_a) (a.length) (c_a))), (1, (.int .u32 (((b : Nat) : Int)))), (4, (.slice (none) (0) (0))), (5, (.slice (none) (0) (0))), (6, (.slice (some ⟨g1, 0, none⟩) (a.length) (a.length))), (8, (.int .i64 (((k : Nat) : Int) - 1))), (17, (.bool (decide ((((k : Nat) : Int) - 1) ≥ 0)))), (9, (.int .u64 ((((rr : Nat) : Int) * 1000000000) + ((a.getD (k - 1) 0 : Nat) : Int))))]) [some (.slice (some ⟨g1, 0, none⟩) (a.length) (a.length)), some (.int .i64 (((k : Nat) : Int) - 1)), some (.int .u64 ((((rr : Nat) : Int) * 1000000000) + ((a.getD (k - 1) 0 : Nat) : Int))), some (.int .u32 (((b : Nat) : Int))), some (.int .u64 (((b : Nat) : Int))), some (.int .u64 (((((rr * 1000000000) + (a.getD (k - 1) 0)) / b : Nat) : Int))), some (.int .u32 (((((rr * 1000000000) + (a.getD (k - 1) 0)) / b : Nat) : Int))), some (.int .u64 ((((rr : Nat) : Int) * 1000000000) + ((a.getD (k - 1) 0 : Nat) : Int))), some (.int .u32 (((b : Nat) : Int))), some (.int .u64 (((b : Nat) : Int))), some (.int .u64 (((((rr * 1000000000) + (a.getD (k - 1) 0)) % b : Nat) : Int))), some (.pointer (some ⟨g1, k - 1, none⟩)), none, some (.int .u64 (((((rr * 1000000000) + (a.getD (k - 1) 0)) % b : Nat) : Int)))] [12] [[], [12]] [[0], [0], [0], [0], [0], [0], [0], [0, 1], [0, 1], [0, 1], [0, 1], [0], [0], [1]] 1 [
        fun fa w' => Frm 44 fa [] ∧ St w w' [(g1, 46, (us (o)).toArray)] ∧ Ext w5 (g1 :: X) w' (g1 :: X)
        , fun fa w' => Frm 44 fa [] ∧ St w w' [(g1, 46, (us (o.set (k - 1) (((rr * 1000000000) + (a.getD (k - 1) 0)) / b))).toArray)] ∧ Ext w5 (g1 :: X) w' (g1 :: X)
      ] TfG.mixed rfl rfl rfl rfl rfl rfl (hF.take (hF.take (hF.take (hF.take (hF.take (hF.take (hF.take (hF.take hF.nil rfl) rfl) rfl) rfl) rfl) rfl) rfl) rfl) rfl ⟨hF.nil, hS.drew, Ext.drew _ _⟩ ?_ ?_ ?_
  all_goals clear hF fa
  ·
   refine ⟨?_, ?_, trivial⟩
   ·
    rintro fa w' i o d v ho hd hna ⟨hA, hR⟩; exact ⟨hA.put_other v (freeOf_at (acts := [12]) rfl ho hd hna), hR⟩
   ·
    rintro fa w' i o d v ho hd hna ⟨hA, hR⟩; exact ⟨hA.put_other v (freeOf_at (acts := [12]) rfl ho hd hna), hR⟩
  ·
   refine ⟨?_, ?_, ?_, ?_, ?_, ?_, ?_, ?_, ?_, ?_, ?_, ?_, ?_, ?_, trivial⟩
   ·
    refine .inl ⟨rfl, _, _, rfl, rfl, fun s fa w' hΦ hF hB K hK => ?_⟩
    exact fl_val rfl rfl rfl (ex_move (hF.ev rfl)) hK
   ·
    refine .inl ⟨rfl, _, _, rfl, rfl, fun s fa w' hΦ hF hB K hK => ?_⟩
    exact fl_val rfl rfl rfl (ex_move (hF.ev rfl)) hK
   ·
    refine .inl ⟨rfl, _, _, rfl, rfl, fun s fa w' hΦ hF hB K hK => ?_⟩
    exact fl_val rfl rfl rfl (ex_move (hF.ev rfl)) hK
   ·
    refine .inl ⟨rfl, _, _, rfl, rfl, fun s fa w' hΦ hF hB K hK => ?_⟩
    exact fl_val rfl rfl rfl (ex_move (hF.ev rfl)) hK
   ·
    refine .inl ⟨rfl, _, _, rfl, rfl, fun s fa w' hΦ hF hB K hK => ?_⟩
    replace hF := hF.cons (hB.val 3 _ 31 _ rfl rfl rfl rfl)
    exact fl_val rfl rfl rfl (ex_conv TfG.unds46 TfG.und54 (hF.ev rfl) (wu64n (by omega))) hK
   ·
    refine .inl ⟨rfl, _, _, rfl, rfl, fun s fa w' hΦ hF hB K hK => ?_⟩
    replace hF := hF.cons (hB.val 2 _ 30 _ rfl rfl rfl rfl)
    replace hF := hF.cons (hB.val 4 _ 32 _ rfl rfl rfl rfl)
    exact fl_val rfl rfl rfl (ex_quo (hF.ev rfl) (hF.ev rfl) (by omega) (q_u64 (x := (rr * 1000000000) + (a.getD (k - 1) 0)) (y := b) (by omega) (by omega) (by omega))) hK
   ·
    refine .inl ⟨rfl, _, _, rfl, rfl, fun s fa w' hΦ hF hB K hK => ?_⟩
    replace hF := hF.cons (hB.val 5 _ 33 _ rfl rfl rfl rfl)
    exact fl_val rfl rfl rfl (ex_conv TfG.unds54 TfG.und46 (hF.ev rfl) (wu32n (by omega))) hK
   ·
    refine .inl ⟨rfl, _, _, rfl, rfl, fun s fa w' hΦ hF hB K hK => ?_⟩
    exact fl_val rfl rfl rfl (ex_move (hF.ev rfl)) hK
   ·
    refine .inl ⟨rfl, _, _, rfl, rfl, fun s fa w' hΦ hF hB K hK => ?_⟩
    exact fl_val rfl rfl rfl (ex_move (hF.ev rfl)) hK
   ·
    refine .inl ⟨rfl, _, _, rfl, rfl, fun s fa w' hΦ hF hB K hK => ?_⟩
    replace hF := hF.cons (hB.val 8 _ 36 _ rfl rfl rfl rfl)
    exact fl_val rfl rfl rfl (ex_conv TfG.unds46 TfG.und54 (hF.ev rfl) (wu64n (by omega))) hK
   ·
    refine .inl ⟨rfl, _, _, rfl, rfl, fun s fa w' hΦ hF hB K hK => ?_⟩
    replace hF := hF.cons (hB.val 7 _ 35 _ rfl rfl rfl rfl)
    replace hF := hF.cons (hB.val 9 _ 37 _ rfl rfl rfl rfl)
    exact fl_val rfl rfl rfl (ex_rem (hF.ev rfl) (hF.ev rfl) (by omega) (r_any (x := (rr * 1000000000) + (a.getD (k - 1) 0)) (y := b) (by omega) (by omega))) hK
   ·
    refine .inl ⟨rfl, _, _, rfl, rfl, fun s fa w' hΦ hF hB K hK => ?_⟩
    replace hF := hF.cons (hB.val 0 _ 28 _ rfl rfl rfl rfl)
    replace hF := hF.cons (hB.val 1 _ 29 _ rfl rfl rfl rfl)
    exact fl_val rfl rfl rfl (ex_idxo (j := k - 1) TfG.sl22 (hF.ev rfl) (hF.ev rfl) (by omega) (by omega)) hK
   ·
    refine .inr (.inr ⟨rfl, ?_, trivial⟩)
    ·
     intro fa w' hΦ hF hB
     obtain ⟨hA, hS, E_w'⟩ := hΦ
     replace hF := hF.cons (hB.val 11 _ 39 _ rfl rfl rfl rfl)
     replace hF := hF.cons (hB.val 6 _ 34 _ rfl rfl rfl rfl)
     refine wop rfl rfl ?_
     refine op_store (vs := #[.int .u32 ((((rr * 1000000000) + (a.getD (k - 1) 0)) / b : Nat) : Int)]) (v := .int .u32 ((((rr * 1000000000) + (a.getD (k - 1) 0)) / b : Nat) : Int)) (X := (g1 :: X)) hF hS 0 rfl (by simp) rfl (ev_int rfl (by omega)) rfl TfG.size46 rfl (us_fit (by first | omega | (simp; omega))) ?_
     intro wo7_12_1 hS Eo7_12_2
     rw [splice_us (by first | omega | (simp; omega))] at hS
     replace hS : St w wo7_12_1 [(g1, 46, (us (o.set (k - 1) (((rr * 1000000000) + (a.getD (k - 1) 0)) / b))).toArray)] := hS
     exact ⟨1, rfl, ⟨hA, hS, (E_w'.trans Eo7_12_2)⟩, undef, rfl, fun u hu => by cases hu <;> rfl⟩
   ·
    refine .inl ⟨rfl, _, _, rfl, rfl, fun s fa w' hΦ hF hB K hK => ?_⟩
    replace hF := hF.cons (hB.val 10 _ 38 _ rfl rfl rfl rfl)
    exact fl_val rfl rfl rfl (ex_assign (hF.ev rfl)) hK
  intro fa w11 hΦ hF hC
  obtain ⟨hA, hS, E_w11⟩ := hΦ
  replace hF := hF.cons (hC 13 _ 7 _ rfl rfl rfl)
  clear hA hC
  refine x_bn ?_
  refine x_tn ?_
  refine c_reg ?_
  refine st_val hF rfl rfl rfl (ex_move (hF.ev rfl)) ?_
  clear hF fa; intro fa hF
  refine st_val hF rfl rfl rfl (ex_sub (hF.ev rfl) (hF.ev rfl) (wi64 (by omega) (by omega))) ?_
  clear hF fa; intro fa hF
  refine st_val hF rfl rfl rfl (ex_assign (hF.ev rfl)) ?_
  clear hF fa; intro fa hF
  refine c_nil ?_
  refine x_tn ?_
  exact ⟨_, (by omega), o.set (k - 1) (((rr * 1000000000) + (a.getD (k - 1) 0)) / b), ((rr * 1000000000) + (a.getD (k - 1) 0)) % b, (k - 1), (hF.take (hF.take (hF.take (hF.take (hF.take (hF.take (hF.take hF.nil (lk_int rfl (by omega))) (lk_int rfl (by omega))) rfl) rfl) rfl) rfl) rfl), hS, (E6.trans E_w11), (by omega), (by simp; omega), (lb_set hbo hbl1), (hbl2), (byword_step (by omega) hk (by omega) hv rfl rfl), rfl⟩
 have hc7p : ¬ ((((k : Nat) : Int) - 1) ≥ 0) := by first | simpa using hc7 | exact bang_t hc7 | exact bang_f hc7
 refine c_exit ?_
 refine x_te ?_
 refine x_te ?_
 refine x_bh ?_
 refine x_tn ?_
 refine c_seq ?_
 refine c_reg ?_
 refine st_val hF rfl rfl rfl (ex_move (hF.ev rfl)) ?_
 clear hF fa; intro fa hF
 refine st_val hF rfl rfl rfl (ex_move (hF.ev rfl)) ?_
 clear hF fa; intro fa hF
 refine st_val hF rfl rfl rfl (ex_conv TfG.unds54 TfG.und46 (hF.ev rfl) (wu32n (by omega))) ?_
 clear hF fa; intro fa hF
 refine st rfl (op_lit (X := (g1 :: X)) hF hS (hS.bnd hX) rfl TfG.sl22 TfG.el46 rfl rfl (lits1 (hF.ev (ev_int (b := ((rr : Nat) : Int)) rfl (by omega)))) (fill_u1 (x := rr)) ?_)
 intro g12 w13 hg15 hS E14 hc16; refine gen_ ?_; clear hF fa; intro fa hF
 have hu17 := UC.one (l := [rr]) hc16 (by simp)
 refine st_val hF rfl rfl rfl (ex_assign (hF.ev rfl)) ?_
 clear hF fa; intro fa hF
 refine st_val hF rfl rfl rfl (ex_assign (hF.ev rfl)) ?_
 clear hF fa; intro fa hF
 refine c_nil_then ?_
 refine c_ret ?_
 have h0 : k = 0 := by omega
 subst h0
 simp only [List.drop_zero] at hv
 refine end2 hF rfl (res_tmp hF rfl) (res_tmp hF rfl) ?_
 exact ⟨_, rfl, ⟨o, [rr], _, _, rfl, (UL.own (L := o) (hS.get 0 rfl) (hS.notX hX 0 rfl) (by omega) (by omega) (by omega) (rfl)), (UL.fin (L := [rr]) ⟨_, _, _, rfl, (rfl), hu17⟩ (rfl) (fun x hx => by simp [hx])), (hbo), (Lb.cons (by omega) Lb.nil), (by simpa [val] using hv), (by simpa [val] using hr), (ho), (rfl)⟩, hS.below⟩

set_option maxHeartbeats 4000000 in
theorem ref01_by_ok {w : World} {X : List Nat} (hX : ∀ m ∈ X, m < w.heap.size) {v_a : Value} {a : List Nat} (h_a : UL w X v_a (a)) (b : Nat) (hn_a : a.length ≤ 1000000000000) (hb_a : Lb a) (hb1 : b < 1000000000) :
    Calls Try.prog 63 #[v_a, (.int .u32 ((b : Nat) : Int))] w (Ret fun r w' => (UL w' X r (lim (val a * b))) ∧ Below w.heap.size w w') := by
 refine enter (N := 10) (fn := Try.f63) (vs := [v_a, (.int .u32 ((b : Nat) : Int))]) Try.func63 rfl rfl rfl ?_
 intro fa hF
 obtain ⟨A_a, _, c_a, rfl, rfl, hu_a⟩ := h_a
 have hl_a := hu_a.len; have hc_a := hu_a.cap
 replace hF : Frm 10 fa [(0, (.slice (A_a) (a.length) (c_a))), (1, (.int .u32 (((b : Nat) : Int))))] := hF
 have hS := St.refl w
 refine c_seq ?_
 refine c_reg ?_
 refine st_val hF rfl rfl rfl (ex_assign (hF.ev rfl)) ?_
 clear hF fa; intro fa hF
 refine c_nil_then ?_
 refine c_seq ?_
 refine c_reg ?_
 refine st_val hF rfl rfl rfl (ex_move (hF.ev rfl)) ?_
 clear hF fa; intro fa hF
 refine st_val hF rfl rfl rfl (ex_move (hF.ev rfl)) ?_
 clear hF fa; intro fa hF
 refine st rfl (op_lit (X := X) hF hS (hS.bnd hX) rfl TfG.sl22 TfG.el46 rfl rfl (lits1 (hF.ev (ev_int (b := ((b : Nat) : Int)) rfl (by omega)))) (fill_u1 (x := b)) ?_)
 intro g1 w2 hg4 hS E3 hc5; refine gen_ ?_; clear hF fa; intro fa hF
 have hu6 := UC.one (l := [b]) hc5 (by simp)
 have hC := ref01_trim_ok (w := w2) (X := X) (l := ([b])) (hS.bnd hX) ⟨_, (1), _, rfl, (rfl), hu6⟩
 refine st rfl (op_call hF rfl TfG.body43 (args1 (hF.ev rfl)) hC ?_)
 clear hC
 rintro _ w7 ⟨⟨A10, _, c11, rfl, rfl, hu12⟩, hb8⟩
 refine gen_ ?_; clear hF fa; intro fa hF
 replace hS := hS.call hb8; have E9 := Ext.call X hb8
 have hC := ref01_times_ok (w := w7) (X := X) (a := a) (b := (trimz ([b]))) (hS.bnd hX) ⟨_, (a.length), _, rfl, (rfl), (hu_a.ext (E3.trans E9))⟩ ⟨_, ((trimz ([b])).length), _, rfl, (rfl), hu12⟩ (by omega) (by have := trimz_length_le [b]; simp at this; omega) (by omega) (trimz_lb (Lb.cons hb1 Lb.nil))
 refine st rfl (op_call hF rfl TfG.body48 (args2 (hF.ev rfl) (hF.ev rfl)) hC ?_)
 clear hC
 rintro _ w13 ⟨⟨A16, _, c17, rfl, rfl, hu18⟩, hb14⟩
 refine gen_ ?_; clear hF fa; intro fa hF
 replace hS := hS.call hb14; have E15 := Ext.call X hb14
 refine st_val hF rfl rfl rfl (ex_assign (hF.ev rfl)) ?_
 clear hF fa; intro fa hF
 refine c_nil_then ?_
 refine c_ret ?_
 refine end1 hF rfl (res_tmp hF rfl) ?_
 exact ⟨_, rfl, (UL.fin (L := (lim (val a * val ((trimz ([b])))))) ⟨_, _, _, rfl, (rfl), hu18⟩ (by rw [val_trimz]; simp [val]) (fun x hx => by simp [hx])), hS.below⟩

end Go.Proofs.Ytlaojdpcfenlkaa
