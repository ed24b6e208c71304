/-
  What the functions Sqrt do, each call by call.
  Conditions: none.
-/
import Derived.Test.YtlaojdpcfenlkaaChecked
import Derived.Test.YtlaojdpcfenlkaaSwBaseK
import Derived.Test.YtlaojdpcfenlkaaWA
import Derived.Test.YtlaojdpcfenlkaaWH
import Derived.Test.YtlaojdpcfenlkaaWJ
import Derived.Test.YtlaojdpcfenlkaaWS
namespace Go.Proofs.Ytlaojdpcfenlkaa
open Go Go.RowKit Go.Sw
set_option linter.unusedVariables false
namespace TfV
theorem body13 : hasBody Try.prog 13 = true := by kernel_rfl
theorem body28 : hasBody Try.prog 28 = true := by kernel_rfl
theorem body34 : hasBody Try.prog 34 = true := by kernel_rfl
theorem body37 : hasBody Try.prog 37 = true := by kernel_rfl
theorem body41 : hasBody Try.prog 41 = true := by kernel_rfl
theorem el46 : Sw.elemOf Try.prog 46 = some (#[.int .u32 0], 1, 4) := by kernel_rfl
theorem mixed : Try.prog.follows .mixedOrders = true := by kernel_rfl
theorem off24_0 : fieldOff Try.prog 24 0 = some 0 := by kernel_rfl
theorem off24_1 : fieldOff Try.prog 24 1 = some 1 := by kernel_rfl
theorem one22 : isOne Try.prog 22 = true := by kernel_rfl
theorem one4 : isOne Try.prog 4 = true := by kernel_rfl
theorem row24 : isRow Try.prog 24 2 = true := by kernel_rfl
theorem sf24 : (match Try.prog.underlying 24 with | some (.struct fs) => fs.all fun f => (Try.prog.info? f.type).isSome | _ => false) = true := by kernel_rfl
theorem size24 : (Try.prog.info? 24).map (fun i => i.size) = some 2 := by kernel_rfl
theorem sl22 : sliceOf Try.prog 22 = some (46, 1) := by kernel_rfl
theorem sls22 : (sliceOf Try.prog 22).isSome = true := by kernel_rfl
theorem st24 : (match Try.prog.underlying 24 with | some (.struct _) => true | _ => false) = true := by kernel_rfl
theorem zero24 : zeroOf Try.prog 24 = some #[.bool false, .slice none 0 0] := by kernel_rfl
end TfV
set_option maxHeartbeats 4000000 in
theorem integer_Sqrt_ok {w : World} {X : List Nat} (hX : ∀ m ∈ X, m < w.heap.size) {v_a : Value} {a : Int} (h_a : IntV w X v_a (a)) (hs_a : sz a ≤ 100000000) :
    Calls Try.prog 25 #[v_a] w (Ret fun r w' => (∃ rt : Nat, ∃ r0 r1, r = .tuple #[r0, r1] ∧ IntV w' X r0 (((rt : Nat) : Int)) ∧ r1 = .int .i64 ((if a < 0 then 7 else 0)) ∧ ((a < 0 ∧ rt = 0) ∨ (0 ≤ a ∧ rt * rt ≤ a.natAbs ∧ a.natAbs < (rt + 1) * (rt + 1)))) ∧ Below w.heap.size w w') := by
 refine enter (N := 54) (fn := Try.f25) (vs := [v_a]) Try.func25 rfl rfl rfl ?_
 intro fa hF
 obtain ⟨_, rfl, A_a, c_a, rfl, hu_a⟩ := h_a
 have hl_a := hu_a.len; have hc_a := hu_a.cap
 replace hF : Frm 54 fa [(0, (.agg (ic (A_a) (c_a) (a))))] := hF
 have hS := St.refl w
 have hz_a := lim_len_zero (n := a.natAbs)
 have hs_a0 := hs_a; unfold sz at hs_a0
 refine c_seq ?_
 refine c_reg ?_
 refine st rfl (op_box (X := X) hF hS rfl rfl rfl ?_)
 intro g1 w2 hg4 hS E3; refine gen_ ?_; clear hF fa; intro fa hF
 replace hS : St w w2 [(g1, 24, (ic (A_a) (c_a) (a)))] := hS
 refine st rfl (op_alloc (X := (g1 :: X)) hF hS rfl TfV.zero24 ?_)
 intro g5 w6 hg8 hS E7; refine gen_ ?_; clear hF fa; intro fa hF
 replace hS : St w w6 [(g5, 24, #[(.bool (false)), (.slice (none) (0) (0))]), (g1, 24, (ic (A_a) (c_a) (a)))] := hS
 refine st_val hF rfl rfl rfl (ex_assign (hF.ev rfl)) ?_
 clear hF fa; intro fa hF
 refine c_nil_then ?_
 refine c_seq ?_
 refine c_seq ?_
 refine c_reg ?_
 refine st_val hF rfl rfl rfl (ex_field_addr TfV.off24_0 (hF.ev rfl)) ?_
 clear hF fa; intro fa hF
 refine st_val hF rfl rfl rfl (ex_load1b TfV.one4 (hF.ev rfl) (hS.get 1 rfl) rfl) ?_
 clear hF fa; intro fa hF
 refine c_nil_then ?_
 refine c_cond hF rfl (fun hc9 => ?_) (fun hc9 => ?_)
 ·
  have hc9p : a < 0 := by first | simpa using hc9 | exact bang_t hc9 | exact bang_f hc9
  have ha0 : a < 0 := by simpa using hc9p
  refine c_seq ?_
  refine c_reg ?_
  refine st_val hF rfl rfl rfl (ex_build0 TfV.row24 TfV.st24 TfV.zero24 TfV.sf24) ?_
  clear hF fa; intro fa hF
  refine st rfl (op_store (X := (g5 :: (g1 :: X))) hF hS 0 rfl (by simp) rfl rfl rfl TfV.size24 rfl (Nat.le_of_ble_eq_true rfl) ?_)
  intro w10 hS E11
  replace hS : St w w10 [(g5, 24, #[(.bool (false)), (.slice (none) (0) (0))]), (g1, 24, (ic (A_a) (c_a) (a)))] := hS
  refine st_val hF rfl rfl rfl (ex_assign (hF.ev rfl)) ?_
  clear hF fa; intro fa hF
  refine c_nil_then ?_
  refine c_ret ?_
  refine x_tr ?_
  refine end2 hF rfl (res_cell hF rfl TfV.row24 (hS.get 0 rfl) rfl) (res_tmp hF rfl) ?_
  exact ⟨_, rfl, ⟨0, _, _, rfl, (IntV.nil_ (rfl)), (congrArg (Value.int .i64) (by rw [if_pos ha0])), (.inl ⟨ha0, rfl⟩)⟩, hS.below⟩
 have hc9p : ¬ (a < 0) := by first | simpa using hc9 | exact bang_t hc9 | exact bang_f hc9
 have ha0 : 0 ≤ a := by have h0 := hc9p; simp at h0; exact h0
 refine c_skip ?_
 refine x_tn ?_
 refine c_seq ?_
 refine c_seq ?_
 refine c_reg ?_
 refine st_val hF rfl rfl rfl (ex_field_addr TfV.off24_1 (hF.ev rfl)) ?_
 clear hF fa; intro fa hF
 refine st_val hF rfl rfl rfl (ex_load1b TfV.one22 (hF.ev rfl) (hS.get 1 rfl) rfl) ?_
 clear hF fa; intro fa hF
 refine st_val hF rfl rfl rfl (ex_len TfV.sls22 (hF.ev rfl)) ?_
 clear hF fa; intro fa hF
 refine st_val hF rfl rfl rfl (ex_eql (hF.ev rfl) (hF.ev rfl)) ?_
 clear hF fa; intro fa hF
 refine c_nil_then ?_
 refine c_cond hF rfl (fun hc12 => ?_) (fun hc12 => ?_)
 ·
  have hc12p : (((lim a.natAbs).length : Nat) : Int) = 0 := by first | simpa using hc12 | exact bang_t hc12 | exact bang_f hc12
  have hae : a = 0 := by omega
  refine c_seq ?_
  refine c_reg ?_
  refine st_val hF rfl rfl rfl (ex_build0 TfV.row24 TfV.st24 TfV.zero24 TfV.sf24) ?_
  clear hF fa; intro fa hF
  refine st rfl (op_store (X := (g5 :: (g1 :: X))) hF hS 0 rfl (by simp) rfl rfl rfl TfV.size24 rfl (Nat.le_of_ble_eq_true rfl) ?_)
  intro w13 hS E14
  replace hS : St w w13 [(g5, 24, #[(.bool (false)), (.slice (none) (0) (0))]), (g1, 24, (ic (A_a) (c_a) (a)))] := hS
  refine st_val hF rfl rfl rfl (ex_assign (hF.ev rfl)) ?_
  clear hF fa; intro fa hF
  refine c_nil_then ?_
  refine c_ret ?_
  refine x_tr ?_
  refine end2 hF rfl (res_cell hF rfl TfV.row24 (hS.get 0 rfl) rfl) (res_tmp hF rfl) ?_
  exact ⟨_, rfl, ⟨0, _, _, rfl, (IntV.nil_ (rfl)), (congrArg (Value.int .i64) (by rw [if_neg (by omega)])), (.inr ⟨ha0, by omega, by omega⟩)⟩, hS.below⟩
 have hc12p : ¬ ((((lim a.natAbs).length : Nat) : Int) = 0) := by first | simpa using hc12 | exact bang_t hc12 | exact bang_f hc12
 have hap : 0 < a.natAbs := by omega
 refine c_skip ?_
 refine x_tn ?_
 refine c_seq ?_
 refine c_reg ?_
 refine st_val hF rfl rfl rfl (ex_field_addr TfV.off24_1 (hF.ev rfl)) ?_
 clear hF fa; intro fa hF
 refine st_val hF rfl rfl rfl (ex_load1b TfV.one22 (hF.ev rfl) (hS.get 1 rfl) rfl) ?_
 clear hF fa; intro fa hF
 refine st_val hF rfl rfl rfl (ex_len TfV.sls22 (hF.ev rfl)) ?_
 clear hF fa; intro fa hF
 refine st_val hF rfl rfl rfl (ex_add (hF.ev rfl) (hF.ev rfl) (wi64 (by omega) (by omega))) ?_
 clear hF fa; intro fa hF
 refine st_val hF rfl rfl rfl (ex_quo (hF.ev rfl) (hF.ev rfl) (by omega) (q_i64 (x := ((lim a.natAbs).length) + 1) (y := 2) (by omega) (by omega) (by omega))) ?_
 clear hF fa; intro fa hF
 refine st_val hF rfl rfl rfl (ex_assign (hF.ev rfl)) ?_
 clear hF fa; intro fa hF
 refine c_nil_then ?_
 refine c_seq ?_
 refine c_reg ?_
 refine st_val hF rfl rfl rfl (ex_move (hF.ev rfl)) ?_
 clear hF fa; intro fa hF
 refine st rfl (op_make (X := (g5 :: (g1 :: X))) (nl := (((lim a.natAbs).length) + 1) / 2) (nc := (((lim a.natAbs).length) + 1) / 2) hF hS rfl TfV.sl22 TfV.el46 rfl rfl (by omega) (by omega) (by omega) (by omega) (by omega) (made_us _) ?_)
 intro g15 w16 hg18 hS E17; refine gen_ ?_; clear hF fa; intro fa hF
 replace hS : St w w16 [(g15, 46, (us (List.replicate (((((lim a.natAbs).length) + 1) / 2) * 1) 0)).toArray), (g5, 24, #[(.bool (false)), (.slice (none) (0) (0))]), (g1, 24, (ic (A_a) (c_a) (a)))] := hS
 rw [Nat.mul_one] at hS
 refine st rfl (op_lit (X := (g15 :: (g5 :: (g1 :: X)))) hF hS (hS.bnd hX) rfl TfV.sl22 TfV.el46 rfl rfl (lits1 (hF.ev (ev_int (b := ((1 : Nat) : Int)) rfl (by omega)))) (fill_u1 (x := 1)) ?_)
 intro g19 w20 hg22 hS E21 hc23; refine gen_ ?_; clear hF fa; intro fa hF
 have hu24 := UC.one (l := [1]) hc23 (by simp)
 replace hS : St w w20 [(g5, 24, #[(.bool (false)), (.slice (none) (0) (0))]), (g15, 46, (us (List.replicate ((((lim a.natAbs).length) + 1) / 2) 0)).toArray), (g1, 24, (ic (A_a) (c_a) (a)))] := hS.perm (List.Perm.swap _ _ _)
 have E31 : Ext w20 (g15 :: (g5 :: (g1 :: X))) w20 (g5 :: (g15 :: (g1 :: X))) := Ext.drop (by simp +contextual)
 replace hS : St w w20 [(g5, 24, #[(.bool (false)), (.slice (none) (0) (0))]), (g1, 24, (ic (A_a) (c_a) (a))), (g15, 46, (us (List.replicate ((((lim a.natAbs).length) + 1) / 2) 0)).toArray)] := hS.perm (List.Perm.cons _ (List.Perm.swap _ _ _))
 have E32 : Ext w20 (g5 :: (g15 :: (g1 :: X))) w20 (g5 :: (g1 :: (g15 :: X))) := Ext.drop (by simp +contextual)
 refine st rfl (op_append (X := X) (F := [(g5, 24, #[(.bool (false)), (.slice (none) (0) (0))]), (g1, 24, (ic (A_a) (c_a) (a)))]) (So := [(g15, 46, (us (List.replicate ((((lim a.natAbs).length) + 1) / 2) 0)).toArray)]) (l := us (List.replicate ((((lim a.natAbs).length) + 1) / 2) 0)) (m := us ([1])) hF hS rfl TfV.sl22 TfV.el46 rfl rfl rfl (by simp) (OwV.full 46 g15 (List.replicate ((((lim a.natAbs).length) + 1) / 2) 0) ((((lim a.natAbs).length) + 1) / 2) ((((lim a.natAbs).length) + 1) / 2) (by simp) (by simp) (by first | omega | (simp; omega))) (hu24.ext (E31.trans E32)).cl (us_one _) (by simp; omega) (by simp; omega) ?_)
 intro v25 So26 w27 hO28 hS E29 hun30; refine gen_ ?_; clear hF fa; intro fa hF
 clear hun30
 rw [← us_append] at hO28
 replace E29 : Ext w20 (g5 :: (g1 :: (g15 :: X))) w27 (g5 :: (g1 :: (bl So26 ++ X))) := E29
 replace hS : St w w27 ([(g5, 24, #[(.bool (false)), (.slice (none) (0) (0))]), (g1, 24, (ic (A_a) (c_a) (a)))] ++ So26) := hS
 obtain ⟨x0, hx0⟩ : ∃ x0 : Nat, x0 = 1000000000 ^ (((lim a.natAbs).length + 1) / 2) := ⟨_, rfl⟩
 obtain ⟨hx0p, hx0a, hx0s⟩ := sqrt_facts (n := a.natAbs) (x0 := x0) hx0 (by omega)
 obtain ⟨A33, c34, hv36, hu35⟩ := UC.thaw (F := [(g5, 24, #[(.bool (false)), (.slice (none) (0) (0))]), (g1, 24, (ic (A_a) (c_a) (a)))]) hO28 hS hX
 subst hv36
 have E37 : Ext w27 (g5 :: (g1 :: (bl So26 ++ X))) w27 (g5 :: (g1 :: X)) := Ext.drop (by simp +contextual)
 replace hu35 : UC w27 (g5 :: (g1 :: X)) A33 c34 ((List.replicate ((((lim a.natAbs).length) + 1) / 2) 0) ++ ([1])) := hu35
 replace hS : St w w27 [(g5, 24, #[(.bool (false)), (.slice (none) (0) (0))]), (g1, 24, (ic (A_a) (c_a) (a)))] := hS.drop (List.sublist_append_left _ _)
 have hC := integer_signed_ok (w := w27) (X := (g5 :: (g1 :: X))) (l := ((List.replicate ((((lim a.natAbs).length) + 1) / 2) 0) ++ ([1]))) (hS.bnd hX) false ⟨_, (((List.replicate ((((lim a.natAbs).length) + 1) / 2) 0) ++ ([1])).length), _, rfl, (rfl), hu35⟩ ((lb_zeros _).append (Lb.cons (by omega) Lb.nil))
 rw [show (sgnv false (val ((List.replicate ((((lim a.natAbs).length) + 1) / 2) 0) ++ ([1])))) = ((x0 : Nat) : Int) from by rw [hx0]; exact sqrt_start _] at hC
 refine st rfl (op_call hF rfl TfV.body41 (args2 (hF.ev rfl) (hF.ev rfl)) hC ?_)
 clear hC
 rintro _ w38 ⟨⟨_, rfl, A41, c42, rfl, hu43⟩, hb39⟩
 refine gen_ ?_; clear hF fa; intro fa hF
 replace hS := hS.call hb39; have E40 := Ext.call (g5 :: (g1 :: X)) hb39
 clear hx0
 refine st rfl (op_alloc (X := (g5 :: (g1 :: X))) hF hS rfl TfV.zero24 ?_)
 intro g44 w45 hg47 hS E46; refine gen_ ?_; clear hF fa; intro fa hF
 replace hS : St w w45 [(g44, 24, #[(.bool (false)), (.slice (none) (0) (0))]), (g5, 24, #[(.bool (false)), (.slice (none) (0) (0))]), (g1, 24, (ic (A_a) (c_a) (a)))] := hS
 refine st rfl (op_store (X := (g44 :: (g5 :: (g1 :: X)))) hF hS 0 rfl (by simp) rfl rfl rfl TfV.size24 rfl (Nat.le_of_ble_eq_true rfl) ?_)
 intro w48 hS E49
 replace hS : St w w48 [(g44, 24, (ic (A41) (c42) (((x0 : Nat) : Int)))), (g5, 24, #[(.bool (false)), (.slice (none) (0) (0))]), (g1, 24, (ic (A_a) (c_a) (a)))] := hS
 replace hF : Frm 54 fa [(0, (.agg (ic (A_a) (c_a) (a)))), (1, (.pointer (some ⟨g1, 0, none⟩))), (2, (.pointer (some ⟨g5, 0, none⟩))), (3, (.int .i64 (0))), (14, (.bool (decide (a < 0)))), (19, (.bool (decide ((((lim a.natAbs).length : Nat) : Int) = 0)))), (4, (.int .i64 ((((((lim a.natAbs).length) + 1) / 2 : Nat) : Int)))), (5, (.pointer (some ⟨g44, 0, none⟩)))] := (hF.take (hF.take (hF.take (hF.take (hF.take (hF.take (hF.take (hF.take hF.nil rfl) rfl) rfl) rfl) rfl) rfl) rfl) rfl)
 refine c_nil_then ?_
 refine c_seq ?_
 refine c_reg ?_
 have hC := integer_FromInt64_ok (w := w48) (X := (g44 :: (g5 :: (g1 :: X)))) (hS.bnd hX) 2 (by omega) (by omega)
 refine st rfl (op_call hF rfl TfV.body37 (args1 (hF.ev rfl)) hC ?_)
 clear hC
 rintro _ w50 ⟨⟨_, rfl, A53, c54, rfl, hu55⟩, hb51⟩
 refine gen_ ?_; clear hF fa; intro fa hF
 replace hS := hS.call hb51; have E52 := Ext.call (g44 :: (g5 :: (g1 :: X))) hb51
 refine st rfl (op_alloc (X := (g44 :: (g5 :: (g1 :: X)))) hF hS rfl TfV.zero24 ?_)
 intro g56 w57 hg59 hS E58; refine gen_ ?_; clear hF fa; intro fa hF
 replace hS : St w w57 [(g56, 24, #[(.bool (false)), (.slice (none) (0) (0))]), (g44, 24, (ic (A41) (c42) (((x0 : Nat) : Int)))), (g5, 24, #[(.bool (false)), (.slice (none) (0) (0))]), (g1, 24, (ic (A_a) (c_a) (a)))] := hS
 refine st rfl (op_store (X := (g56 :: (g44 :: (g5 :: (g1 :: X))))) hF hS 0 rfl (by simp) rfl rfl rfl TfV.size24 rfl (Nat.le_of_ble_eq_true rfl) ?_)
 intro w60 hS E61
 replace hS : St w w60 [(g56, 24, (ic (A53) (c54) (((2 : Int))))), (g44, 24, (ic (A41) (c42) (((x0 : Nat) : Int)))), (g5, 24, #[(.bool (false)), (.slice (none) (0) (0))]), (g1, 24, (ic (A_a) (c_a) (a)))] := hS
 refine c_nil_then ?_
 refine c_block ?_
 refine c_loop (fun mu fa w' => ∃ xx : Nat, ∃ Ax : Option Addr, ∃ cx : Nat, Frm 54 fa [(0, (.agg (ic (A_a) (c_a) (a)))), (1, (.pointer (some ⟨g1, 0, none⟩))), (2, (.pointer (some ⟨g5, 0, none⟩))), (14, (.bool (decide (a < 0)))), (19, (.bool (decide ((((lim a.natAbs).length : Nat) : Int) = 0)))), (4, (.int .i64 ((((((lim a.natAbs).length) + 1) / 2 : Nat) : Int)))), (5, (.pointer (some ⟨g44, 0, none⟩))), (6, (.pointer (some ⟨g56, 0, none⟩)))] ∧ St w w' [(g56, 24, (ic (A53) (c54) (((2 : Int))))), (g44, 24, (ic (Ax) (cx) (((xx : Nat) : Int)))), (g5, 24, #[(.bool (false)), (.slice (none) (0) (0))]), (g1, 24, (ic (A_a) (c_a) (a)))] ∧ Ext w60 (g56 :: (g44 :: (g5 :: (g1 :: X)))) w' (g56 :: (g44 :: (g5 :: (g1 :: X)))) ∧ UC w' (g56 :: (g44 :: (g5 :: (g1 :: X)))) Ax cx (lim ((xx : Nat) : Int).natAbs) ∧ (0 < xx) ∧ (a.natAbs < (xx + 1) * (xx + 1)) ∧ (sz ((xx : Nat) : Int) ≤ 200000000) ∧ xx = mu) ?_ ?_
 ·
  exact ⟨_, x0, A41, c42, (hF.take (hF.take (hF.take (hF.take (hF.take (hF.take (hF.take (hF.take hF.nil rfl) rfl) rfl) rfl) rfl) rfl) rfl) rfl), hS, Ext.refl _ _, (hu43.ext ((((E46.trans E49).trans E52).trans E58).trans E61)), (hx0p), (hx0a), (hx0s), rfl⟩
 clear hF fa; intro n0_ fa w' hI
 clear hS
 obtain ⟨xx, Ax, cx, hF, hS, E63, hx, hxx, hxa, hs_xx, rfl⟩ := hI
 rename World => w62
 refine c_block ?_
 refine c_seq ?_
 refine c_reg ?_
 refine st_val hF rfl rfl rfl (ex_loadb TfV.row24 (hF.ev rfl) (hS.get 3 rfl) rfl) ?_
 clear hF fa; intro fa hF
 refine st_val hF rfl rfl rfl (ex_loadb TfV.row24 (hF.ev rfl) (hS.get 1 rfl) rfl) ?_
 clear hF fa; intro fa hF
 have hC := integer_DivMod_ok (w := w62) (X := (g56 :: (g44 :: (g5 :: (g1 :: X))))) (a := a) (b := ((xx : Nat) : Int)) (hS.bnd hX) (IntV.of_ (n := (lim a.natAbs).length) (b := decide (a < 0)) (x := a) ((hu_a.ext ((((((((((((((E3.trans E7).trans E17).trans E21).trans E31).trans E32).trans E29).trans E37).trans E40).trans E46).trans E49).trans E52).trans E58).trans E61).trans E63))) (rfl) (rfl) (rfl)) (IntV.of_ (n := (lim ((xx : Nat) : Int).natAbs).length) (b := decide (((xx : Nat) : Int) < 0)) (x := ((xx : Nat) : Int)) (hx) (rfl) (rfl) (rfl)) (by omega) (by omega)
 rw [show (a.fdiv (((xx : Nat) : Int))) = ((a.natAbs / xx : Nat) : Int) from fdiv_nat ha0] at hC
 refine st rfl (op_call hF rfl TfV.body13 (args2 (hF.ev rfl) (hF.ev rfl)) hC ?_)
 clear hC
 rintro _ w64 ⟨⟨_, _, _, rfl, ⟨_, rfl, A67, c68, rfl, hu69⟩, ⟨_, rfl, A70, c71, rfl, hu72⟩, rfl⟩, hb65⟩
 refine gen_ ?_; clear hF fa; intro fa hF
 replace hS := hS.call hb65; have E66 := Ext.call (g56 :: (g44 :: (g5 :: (g1 :: X)))) hb65
 have hsq : sz ((a.natAbs / xx : Nat) : Int) ≤ 100000000 := Nat.le_trans (sz_mono (by rw [Int.natAbs_natCast]; exact Nat.div_le_self _ _)) hs_a
 have hsy : sz (((xx : Nat) : Int) + ((a.natAbs / xx : Nat) : Int)) ≤ 1000000000 := by have := sz_add ((xx : Nat) : Int) ((a.natAbs / xx : Nat) : Int); omega
 refine st_val hF rfl rfl rfl (ex_move (hF.ev rfl)) ?_
 clear hF fa; intro fa hF
 refine st_val hF rfl rfl rfl (ex_extract (hF.ev rfl) rfl) ?_
 clear hF fa; intro fa hF
 refine st_val hF rfl rfl rfl (ex_extract (hF.ev rfl) rfl) ?_
 clear hF fa; intro fa hF
 refine st_val hF rfl rfl rfl (ex_extract (hF.ev rfl) rfl) ?_
 clear hF fa; intro fa hF
 refine st rfl (op_alloc (X := (g56 :: (g44 :: (g5 :: (g1 :: X))))) hF hS rfl TfV.zero24 ?_)
 intro g73 w74 hg76 hS E75; refine gen_ ?_; clear hF fa; intro fa hF
 replace hS : St w w74 [(g73, 24, #[(.bool (false)), (.slice (none) (0) (0))]), (g56, 24, (ic (A53) (c54) (((2 : Int))))), (g44, 24, (ic (Ax) (cx) (((xx : Nat) : Int)))), (g5, 24, #[(.bool (false)), (.slice (none) (0) (0))]), (g1, 24, (ic (A_a) (c_a) (a)))] := hS
 refine st rfl (op_alloc (X := (g73 :: (g56 :: (g44 :: (g5 :: (g1 :: X)))))) hF hS rfl TfV.zero24 ?_)
 intro g77 w78 hg80 hS E79; refine gen_ ?_; clear hF fa; intro fa hF
 replace hS : St w w78 [(g77, 24, #[(.bool (false)), (.slice (none) (0) (0))]), (g73, 24, #[(.bool (false)), (.slice (none) (0) (0))]), (g56, 24, (ic (A53) (c54) (((2 : Int))))), (g44, 24, (ic (Ax) (cx) (((xx : Nat) : Int)))), (g5, 24, #[(.bool (false)), (.slice (none) (0) (0))]), (g1, 24, (ic (A_a) (c_a) (a)))] := hS
 refine st rfl (op_store (X := (g77 :: (g73 :: (g56 :: (g44 :: (g5 :: (g1 :: X))))))) hF hS 1 rfl (by simp) rfl rfl rfl TfV.size24 rfl (Nat.le_of_ble_eq_true rfl) ?_)
 intro w81 hS E82
 replace hS : St w w81 [(g77, 24, #[(.bool (false)), (.slice (none) (0) (0))]), (g73, 24, (ic (A67) (c68) (((a.natAbs / xx : Nat) : Int)))), (g56, 24, (ic (A53) (c54) (((2 : Int))))), (g44, 24, (ic (Ax) (cx) (((xx : Nat) : Int)))), (g5, 24, #[(.bool (false)), (.slice (none) (0) (0))]), (g1, 24, (ic (A_a) (c_a) (a)))] := hS
 refine st rfl (op_store (X := (g77 :: (g73 :: (g56 :: (g44 :: (g5 :: (g1 :: X))))))) hF hS 0 rfl (by simp) rfl rfl rfl TfV.size24 rfl (Nat.le_of_ble_eq_true rfl) ?_)
 intro w83 hS E84
 replace hS : St w w83 [(g77, 24, (ic (A70) (c71) ((if (((xx : Nat) : Int)) = 0 then 0 else a.fmod (((xx : Nat) : Int)))))), (g73, 24, (ic (A67) (c68) (((a.natAbs / xx : Nat) : Int)))), (g56, 24, (ic (A53) (c54) (((2 : Int))))), (g44, 24, (ic (Ax) (cx) (((xx : Nat) : Int)))), (g5, 24, #[(.bool (false)), (.slice (none) (0) (0))]), (g1, 24, (ic (A_a) (c_a) (a)))] := hS
 refine st_val hF rfl rfl rfl (ex_assign (hF.ev rfl)) ?_
 clear hF fa; intro fa hF
 refine c_nil_then ?_
 refine c_seq ?_
 refine drawn2 (N := 54) (L0 := [(0, (.agg (ic (A_a) (c_a) (a)))), (1, (.pointer (some ⟨g1, 0, none⟩))), (2, (.pointer (some ⟨g5, 0, none⟩))), (14, (.bool (decide (a < 0)))), (19, (.bool (decide ((((lim a.natAbs).length : Nat) : Int) = 0)))), (4, (.int .i64 ((((((lim a.natAbs).length) + 1) / 2 : Nat) : Int)))), (5, (.pointer (some ⟨g44, 0, none⟩))), (6, (.pointer (some ⟨g56, 0, none⟩))), (7, (.pointer (some ⟨g73, 0, none⟩)))]) [some (.agg (ic (Ax) (cx) (((xx : Nat) : Int)))), some (.agg (ic (A67) (c68) (((a.natAbs / xx : Nat) : Int)))), none, some (.agg (ic (A53) (c54) (((2 : Int))))), none, none, none, none, some (.int .i64 ((0 : Int))), none, none, none, none, some (.int .i64 ((0 : Int)))] [2, 4, 5, 6, 7, 9, 10, 11, 12] [[], [2], [9], [10], [2, 4], [2, 9], [2, 10], [9, 10], [2, 4, 5], [2, 4, 9], [2, 4, 10], [2, 9, 10], [2, 4, 5, 6], [2, 4, 5, 7], [2, 4, 5, 9], [2, 4, 5, 10], [2, 4, 9, 10], [2, 4, 5, 6, 7], [2, 4, 5, 6, 9], [2, 4, 5, 6, 10], [2, 4, 5, 7, 9], [2, 4, 5, 7, 10], [2, 4, 5, 9, 10], [2, 4, 5, 6, 7, 9], [2, 4, 5, 6, 7, 10], [2, 4, 5, 6, 9, 10], [2, 4, 5, 7, 9, 10], [2, 4, 5, 6, 7, 9, 10], [2, 4, 5, 6, 9, 10, 11], [2, 4, 5, 6, 7, 9, 10, 11], [2, 4, 5, 6, 7, 9, 10, 11, 12]] [[0, 2, 3, 7], [0, 2, 3, 7], [0, 2, 3, 7], [0, 1, 2, 3, 5, 6, 7, 11], [1, 5, 6, 11], [4, 9, 10, 16], [8, 13, 14, 15, 20, 21, 22, 26], [8, 12, 14, 15, 18, 19, 22, 25, 28], [8, 12, 13, 14, 15, 17, 18, 19, 20, 21, 22, 23, 24, 25, 26, 27, 28, 29, 30], [0, 1, 3, 4, 6, 8, 10, 12, 13, 15, 17, 19, 21, 24], [0, 1, 2, 4, 5, 8, 9, 12, 13, 14, 17, 18, 20, 23], [25, 27], [29], [30]] 30 [
       fun fa w' => Frm 54 fa [] ∧ St w w' [(g77, 24, (ic (A70) (c71) ((if (((xx : Nat) : Int)) = 0 then 0 else a.fmod (((xx : Nat) : Int)))))), (g73, 24, (ic (A67) (c68) (((a.natAbs / xx : Nat) : Int)))), (g56, 24, (ic (A53) (c54) (((2 : Int))))), (g44, 24, (ic (Ax) (cx) (((xx : Nat) : Int)))), (g5, 24, #[(.bool (false)), (.slice (none) (0) (0))]), (g1, 24, (ic (A_a) (c_a) (a)))] ∧ Ext w83 (g77 :: (g73 :: (g56 :: (g44 :: (g5 :: (g1 :: X)))))) w' (g77 :: (g73 :: (g56 :: (g44 :: (g5 :: (g1 :: X))))))
       , fun fa w' => ∃ Ao9_2_4 : Option Addr, ∃ co9_2_5 : Nat, Frm 54 fa [(42, (.agg (ic (Ao9_2_4) (co9_2_5) (((((xx : Nat) : Int)) + (((a.natAbs / xx : Nat) : Int)))))))] ∧ St w w' [(g77, 24, (ic (A70) (c71) ((if (((xx : Nat) : Int)) = 0 then 0 else a.fmod (((xx : Nat) : Int)))))), (g73, 24, (ic (A67) (c68) (((a.natAbs / xx : Nat) : Int)))), (g56, 24, (ic (A53) (c54) (((2 : Int))))), (g44, 24, (ic (Ax) (cx) (((xx : Nat) : Int)))), (g5, 24, #[(.bool (false)), (.slice (none) (0) (0))]), (g1, 24, (ic (A_a) (c_a) (a)))] ∧ Ext w83 (g77 :: (g73 :: (g56 :: (g44 :: (g5 :: (g1 :: X)))))) w' (g77 :: (g73 :: (g56 :: (g44 :: (g5 :: (g1 :: X)))))) ∧ UC w' (g77 :: (g73 :: (g56 :: (g44 :: (g5 :: (g1 :: X)))))) Ao9_2_4 co9_2_5 (lim ((((xx : Nat) : Int)) + (((a.natAbs / xx : Nat) : Int))).natAbs)
       , fun fa w' => ∃ go9_9_1 : Nat, Frm 54 fa [(10, (.pointer (some ⟨go9_9_1, 0, none⟩)))] ∧ St w w' [(go9_9_1, 24, #[(.bool (false)), (.slice (none) (0) (0))]), (g77, 24, (ic (A70) (c71) ((if (((xx : Nat) : Int)) = 0 then 0 else a.fmod (((xx : Nat) : Int)))))), (g73, 24, (ic (A67) (c68) (((a.natAbs / xx : Nat) : Int)))), (g56, 24, (ic (A53) (c54) (((2 : Int))))), (g44, 24, (ic (Ax) (cx) (((xx : Nat) : Int)))), (g5, 24, #[(.bool (false)), (.slice (none) (0) (0))]), (g1, 24, (ic (A_a) (c_a) (a)))] ∧ Ext w83 (g77 :: (g73 :: (g56 :: (g44 :: (g5 :: (g1 :: X)))))) w' (go9_9_1 :: (g77 :: (g73 :: (g56 :: (g44 :: (g5 :: (g1 :: X)))))))
       , fun fa w' => ∃ go9_10_1 : Nat, Frm 54 fa [(11, (.pointer (some ⟨go9_10_1, 0, none⟩)))] ∧ St w w' [(go9_10_1, 24, #[(.bool (false)), (.slice (none) (0) (0))]), (g77, 24, (ic (A70) (c71) ((if (((xx : Nat) : Int)) = 0 then 0 else a.fmod (((xx : Nat) : Int)))))), (g73, 24, (ic (A67) (c68) (((a.natAbs / xx : Nat) : Int)))), (g56, 24, (ic (A53) (c54) (((2 : Int))))), (g44, 24, (ic (Ax) (cx) (((xx : Nat) : Int)))), (g5, 24, #[(.bool (false)), (.slice (none) (0) (0))]), (g1, 24, (ic (A_a) (c_a) (a)))] ∧ Ext w83 (g77 :: (g73 :: (g56 :: (g44 :: (g5 :: (g1 :: X)))))) w' (go9_10_1 :: (g77 :: (g73 :: (g56 :: (g44 :: (g5 :: (g1 :: X)))))))
       , fun fa w' => ∃ Ao9_2_4 : Option Addr, ∃ co9_2_5 : Nat, ∃ Ao9_4_4 : Option Addr, ∃ co9_4_5 : Nat, ∃ Ao9_4_7 : Option Addr, ∃ co9_4_8 : Nat, Frm 54 fa [(42, (.agg (ic (Ao9_2_4) (co9_2_5) (((((xx : Nat) : Int)) + (((a.natAbs / xx : Nat) : Int))))))), (44, (.tuple #[(.agg (ic (Ao9_4_4) (co9_4_5) ((((xx + a.natAbs / xx) / 2 : Nat) : Int)))), (.agg (ic (Ao9_4_7) (co9_4_8) (((((xx : Nat) : Int) + ((a.natAbs / xx : Nat) : Int)).fmod 2)))), (.int .i64 ((0 : Int)))]))] ∧ St w w' [(g77, 24, (ic (A70) (c71) ((if (((xx : Nat) : Int)) = 0 then 0 else a.fmod (((xx : Nat) : Int)))))), (g73, 24, (ic (A67) (c68) (((a.natAbs / xx : Nat) : Int)))), (g56, 24, (ic (A53) (c54) (((2 : Int))))), (g44, 24, (ic (Ax) (cx) (((xx : Nat) : Int)))), (g5, 24, #[(.bool (false)), (.slice (none) (0) (0))]), (g1, 24, (ic (A_a) (c_a) (a)))] ∧ Ext w83 (g77 :: (g73 :: (g56 :: (g44 :: (g5 :: (g1 :: X)))))) w' (g77 :: (g73 :: (g56 :: (g44 :: (g5 :: (g1 :: X)))))) ∧ UC w' (g77 :: (g73 :: (g56 :: (g44 :: (g5 :: (g1 :: X)))))) Ao9_2_4 co9_2_5 (lim ((((xx : Nat) : Int)) + (((a.natAbs / xx : Nat) : Int))).natAbs) ∧ UC w' (g77 :: (g73 :: (g56 :: (g44 :: (g5 :: (g1 :: X)))))) Ao9_4_4 co9_4_5 (lim ((((xx + a.natAbs / xx) / 2 : Nat) : Int)).natAbs) ∧ UC w' (g77 :: (g73 :: (g56 :: (g44 :: (g5 :: (g1 :: X)))))) Ao9_4_7 co9_4_8 (lim ((((xx : Nat) : Int) + ((a.natAbs / xx : Nat) : Int)).fmod 2).natAbs)
       , fun fa w' => ∃ Ao9_2_4 : Option Addr, ∃ co9_2_5 : Nat, ∃ go9_9_1 : Nat, Frm 54 fa [(42, (.agg (ic (Ao9_2_4) (co9_2_5) (((((xx : Nat) : Int)) + (((a.natAbs / xx : Nat) : Int))))))), (10, (.pointer (some ⟨go9_9_1, 0, none⟩)))] ∧ St w w' [(go9_9_1, 24, #[(.bool (false)), (.slice (none) (0) (0))]), (g77, 24, (ic (A70) (c71) ((if (((xx : Nat) : Int)) = 0 then 0 else a.fmod (((xx : Nat) : Int)))))), (g73, 24, (ic (A67) (c68) (((a.natAbs / xx : Nat) : Int)))), (g56, 24, (ic (A53) (c54) (((2 : Int))))), (g44, 24, (ic (Ax) (cx) (((xx : Nat) : Int)))), (g5, 24, #[(.bool (false)), (.slice (none) (0) (0))]), (g1, 24, (ic (A_a) (c_a) (a)))] ∧ Ext w83 (g77 :: (g73 :: (g56 :: (g44 :: (g5 :: (g1 :: X)))))) w' (go9_9_1 :: (g77 :: (g73 :: (g56 :: (g44 :: (g5 :: (g1 :: X))))))) ∧ UC w' (go9_9_1 :: (g77 :: (g73 :: (g56 :: (g44 :: (g5 :: (g1 :: X))))))) Ao9_2_4 co9_2_5 (lim ((((xx : Nat) : Int)) + (((a.natAbs / xx : Nat) : Int))).natAbs)
       , fun fa w' => ∃ Ao9_2_4 : Option Addr, ∃ co9_2_5 : Nat, ∃ go9_10_1 : Nat, Frm 54 fa [(42, (.agg (ic (Ao9_2_4) (co9_2_5) (((((xx : Nat) : Int)) + (((a.natAbs / xx : Nat) : Int))))))), (11, (.pointer (some ⟨go9_10_1, 0, none⟩)))] ∧ St w w' [(go9_10_1, 24, #[(.bool (false)), (.slice (none) (0) (0))]), (g77, 24, (ic (A70) (c71) ((if (((xx : Nat) : Int)) = 0 then 0 else a.fmod (((xx : Nat) : Int)))))), (g73, 24, (ic (A67) (c68) (((a.natAbs / xx : Nat) : Int)))), (g56, 24, (ic (A53) (c54) (((2 : Int))))), (g44, 24, (ic (Ax) (cx) (((xx : Nat) : Int)))), (g5, 24, #[(.bool (false)), (.slice (none) (0) (0))]), (g1, 24, (ic (A_a) (c_a) (a)))] ∧ Ext w83 (g77 :: (g73 :: (g56 :: (g44 :: (g5 :: (g1 :: X)))))) w' (go9_10_1 :: (g77 :: (g73 :: (g56 :: (g44 :: (g5 :: (g1 :: X))))))) ∧ UC w' (go9_10_1 :: (g77 :: (g73 :: (g56 :: (g44 :: (g5 :: (g1 :: X))))))) Ao9_2_4 co9_2_5 (lim ((((xx : Nat) : Int)) + (((a.natAbs / xx : Nat) : Int))).natAbs)
       , fun fa w' => ∃ go9_9_1 : Nat, ∃ go9_10_1 : Nat, Frm 54 fa [(10, (.pointer (some ⟨go9_9_1, 0, none⟩))), (11, (.pointer (some ⟨go9_10_1, 0, none⟩)))] ∧ St w w' [(go9_10_1, 24, #[(.bool (false)), (.slice (none) (0) (0))]), (go9_9_1, 24, #[(.bool (false)), (.slice (none) (0) (0))]), (g77, 24, (ic (A70) (c71) ((if (((xx : Nat) : Int)) = 0 then 0 else a.fmod (((xx : Nat) : Int)))))), (g73, 24, (ic (A67) (c68) (((a.natAbs / xx : Nat) : Int)))), (g56, 24, (ic (A53) (c54) (((2 : Int))))), (g44, 24, (ic (Ax) (cx) (((xx : Nat) : Int)))), (g5, 24, #[(.bool (false)), (.slice (none) (0) (0))]), (g1, 24, (ic (A_a) (c_a) (a)))] ∧ Ext w83 (g77 :: (g73 :: (g56 :: (g44 :: (g5 :: (g1 :: X)))))) w' (go9_10_1 :: (go9_9_1 :: (g77 :: (g73 :: (g56 :: (g44 :: (g5 :: (g1 :: X))))))))
       , fun fa w' => ∃ Ao9_2_4 : Option Addr, ∃ co9_2_5 : Nat, ∃ Ao9_4_4 : Option Addr, ∃ co9_4_5 : Nat, ∃ Ao9_4_7 : Option Addr, ∃ co9_4_8 : Nat, Frm 54 fa [(42, (.agg (ic (Ao9_2_4) (co9_2_5) (((((xx : Nat) : Int)) + (((a.natAbs / xx : Nat) : Int))))))), (44, (.tuple #[(.agg (ic (Ao9_4_4) (co9_4_5) ((((xx + a.natAbs / xx) / 2 : Nat) : Int)))), (.agg (ic (Ao9_4_7) (co9_4_8) (((((xx : Nat) : Int) + ((a.natAbs / xx : Nat) : Int)).fmod 2)))), (.int .i64 ((0 : Int)))])), (39, (.tuple #[(.agg (ic (Ao9_4_4) (co9_4_5) ((((xx + a.natAbs / xx) / 2 : Nat) : Int)))), (.agg (ic (Ao9_4_7) (co9_4_8) (((((xx : Nat) : Int) + ((a.natAbs / xx : Nat) : Int)).fmod 2)))), (.int .i64 ((0 : Int)))]))] ∧ St w w' [(g77, 24, (ic (A70) (c71) ((if (((xx : Nat) : Int)) = 0 then 0 else a.fmod (((xx : Nat) : Int)))))), (g73, 24, (ic (A67) (c68) (((a.natAbs / xx : Nat) : Int)))), (g56, 24, (ic (A53) (c54) (((2 : Int))))), (g44, 24, (ic (Ax) (cx) (((xx : Nat) : Int)))), (g5, 24, #[(.bool (false)), (.slice (none) (0) (0))]), (g1, 24, (ic (A_a) (c_a) (a)))] ∧ Ext w83 (g77 :: (g73 :: (g56 :: (g44 :: (g5 :: (g1 :: X)))))) w' (g77 :: (g73 :: (g56 :: (g44 :: (g5 :: (g1 :: X)))))) ∧ UC w' (g77 :: (g73 :: (g56 :: (g44 :: (g5 :: (g1 :: X)))))) Ao9_2_4 co9_2_5 (lim ((((xx : Nat) : Int)) + (((a.natAbs / xx : Nat) : Int))).natAbs) ∧ UC w' (g77 :: (g73 :: (g56 :: (g44 :: (g5 :: (g1 :: X)))))) Ao9_4_4 co9_4_5 (lim ((((xx + a.natAbs / xx) / 2 : Nat) : Int)).natAbs) ∧ UC w' (g77 :: (g73 :: (g56 :: (g44 :: (g5 :: (g1 :: X)))))) Ao9_4_7 co9_4_8 (lim ((((xx : Nat) : Int) + ((a.natAbs / xx : Nat) : Int)).fmod 2).natAbs)
       , fun fa w' => ∃ Ao9_2_4 : Option Addr, ∃ co9_2_5 : Nat, ∃ Ao9_4_4 : Option Addr, ∃ co9_4_5 : Nat, ∃ Ao9_4_7 : Option Addr, ∃ co9_4_8 : Nat, ∃ go9_9_1 : Nat, Frm 54 fa [(42, (.agg (ic (Ao9_2_4) (co9_2_5) (((((xx : Nat) : Int)) + (((a.natAbs / xx : Nat) : Int))))))), (44, (.tuple #[(.agg (ic (Ao9_4_4) (co9_4_5) ((((xx + a.natAbs / xx) / 2 : Nat) : Int)))), (.agg (ic (Ao9_4_7) (co9_4_8) (((((xx : Nat) : Int) + ((a.natAbs / xx : Nat) : Int)).fmod 2)))), (.int .i64 ((0 : Int)))])), (10, (.pointer (some ⟨go9_9_1, 0, none⟩)))] ∧ St w w' [(go9_9_1, 24, #[(.bool (false)), (.slice (none) (0) (0))]), (g77, 24, (ic (A70) (c71) ((if (((xx : Nat) : Int)) = 0 then 0 else a.fmod (((xx : Nat) : Int)))))), (g73, 24, (ic (A67) (c68) (((a.natAbs / xx : Nat) : Int)))), (g56, 24, (ic (A53) (c54) (((2 : Int))))), (g44, 24, (ic (Ax) (cx) (((xx : Nat) : Int)))), (g5, 24, #[(.bool (false)), (.slice (none) (0) (0))]), (g1, 24, (ic (A_a) (c_a) (a)))] ∧ Ext w83 (g77 :: (g73 :: (g56 :: (g44 :: (g5 :: (g1 :: X)))))) w' (go9_9_1 :: (g77 :: (g73 :: (g56 :: (g44 :: (g5 :: (g1 :: X))))))) ∧ UC w' (go9_9_1 :: (g77 :: (g73 :: (g56 :: (g44 :: (g5 :: (g1 :: X))))))) Ao9_2_4 co9_2_5 (lim ((((xx : Nat) : Int)) + (((a.natAbs / xx : Nat) : Int))).natAbs) ∧ UC w' (go9_9_1 :: (g77 :: (g73 :: (g56 :: (g44 :: (g5 :: (g1 :: X))))))) Ao9_4_4 co9_4_5 (lim ((((xx + a.natAbs / xx) / 2 : Nat) : Int)).natAbs) ∧ UC w' (go9_9_1 :: (g77 :: (g73 :: (g56 :: (g44 :: (g5 :: (g1 :: X))))))) Ao9_4_7 co9_4_8 (lim ((((xx : Nat) : Int) + ((a.natAbs / xx : Nat) : Int)).fmod 2).natAbs)
       , fun fa w' => ∃ Ao9_2_4 : Option Addr, ∃ co9_2_5 : Nat, ∃ Ao9_4_4 : Option Addr, ∃ co9_4_5 : Nat, ∃ Ao9_4_7 : Option Addr, ∃ co9_4_8 : Nat, ∃ go9_10_1 : Nat, Frm 54 fa [(42, (.agg (ic (Ao9_2_4) (co9_2_5) (((((xx : Nat) : Int)) + (((a.natAbs / xx : Nat) : Int))))))), (44, (.tuple #[(.agg (ic (Ao9_4_4) (co9_4_5) ((((xx + a.natAbs / xx) / 2 : Nat) : Int)))), (.agg (ic (Ao9_4_7) (co9_4_8) (((((xx : Nat) : Int) + ((a.natAbs / xx : Nat) : Int)).fmod 2)))), (.int .i64 ((0 : Int)))])), (11, (.pointer (some ⟨go9_10_1, 0, none⟩)))] ∧ St w w' [(go9_10_1, 24, #[(.bool (false)), (.slice (none) (0) (0))]), (g77, 24, (ic (A70) (c71) ((if (((xx : Nat) : Int)) = 0 then 0 else a.fmod (((xx : Nat) : Int)))))), (g73, 24, (ic (A67) (c68) (((a.natAbs / xx : Nat) : Int)))), (g56, 24, (ic (A53) (c54) (((2 : Int))))), (g44, 24, (ic (Ax) (cx) (((xx : Nat) : Int)))), (g5, 24, #[(.bool (false)), (.slice (none) (0) (0))]), (g1, 24, (ic (A_a) (c_a) (a)))] ∧ Ext w83 (g77 :: (g73 :: (g56 :: (g44 :: (g5 :: (g1 :: X)))))) w' (go9_10_1 :: (g77 :: (g73 :: (g56 :: (g44 :: (g5 :: (g1 :: X))))))) ∧ UC w' (go9_10_1 :: (g77 :: (g73 :: (g56 :: (g44 :: (g5 :: (g1 :: X))))))) Ao9_2_4 co9_2_5 (lim ((((xx : Nat) : Int)) + (((a.natAbs / xx : Nat) : Int))).natAbs) ∧ UC w' (go9_10_1 :: (g77 :: (g73 :: (g56 :: (g44 :: (g5 :: (g1 :: X))))))) Ao9_4_4 co9_4_5 (lim ((((xx + a.natAbs / xx) / 2 : Nat) : Int)).natAbs) ∧ UC w' (go9_10_1 :: (g77 :: (g73 :: (g56 :: (g44 :: (g5 :: (g1 :: X))))))) Ao9_4_7 co9_4_8 (lim ((((xx : Nat) : Int) + ((a.natAbs / xx : Nat) : Int)).fmod 2).natAbs)
       , fun fa w' => ∃ Ao9_2_4 : Option Addr, ∃ co9_2_5 : Nat, ∃ go9_9_1 : Nat, ∃ go9_10_1 : Nat, Frm 54 fa [(42, (.agg (ic (Ao9_2_4) (co9_2_5) (((((xx : Nat) : Int)) + (((a.natAbs / xx : Nat) : Int))))))), (10, (.pointer (some ⟨go9_9_1, 0, none⟩))), (11, (.pointer (some ⟨go9_10_1, 0, none⟩)))] ∧ St w w' [(go9_10_1, 24, #[(.bool (false)), (.slice (none) (0) (0))]), (go9_9_1, 24, #[(.bool (false)), (.slice (none) (0) (0))]), (g77, 24, (ic (A70) (c71) ((if (((xx : Nat) : Int)) = 0 then 0 else a.fmod (((xx : Nat) : Int)))))), (g73, 24, (ic (A67) (c68) (((a.natAbs / xx : Nat) : Int)))), (g56, 24, (ic (A53) (c54) (((2 : Int))))), (g44, 24, (ic (Ax) (cx) (((xx : Nat) : Int)))), (g5, 24, #[(.bool (false)), (.slice (none) (0) (0))]), (g1, 24, (ic (A_a) (c_a) (a)))] ∧ Ext w83 (g77 :: (g73 :: (g56 :: (g44 :: (g5 :: (g1 :: X)))))) w' (go9_10_1 :: (go9_9_1 :: (g77 :: (g73 :: (g56 :: (g44 :: (g5 :: (g1 :: X)))))))) ∧ UC w' (go9_10_1 :: (go9_9_1 :: (g77 :: (g73 :: (g56 :: (g44 :: (g5 :: (g1 :: X)))))))) Ao9_2_4 co9_2_5 (lim ((((xx : Nat) : Int)) + (((a.natAbs / xx : Nat) : Int))).natAbs)
       , fun fa w' => ∃ Ao9_2_4 : Option Addr, ∃ co9_2_5 : Nat, ∃ Ao9_4_4 : Option Addr, ∃ co9_4_5 : Nat, ∃ Ao9_4_7 : Option Addr, ∃ co9_4_8 : Nat, Frm 54 fa [(42, (.agg (ic (Ao9_2_4) (co9_2_5) (((((xx : Nat) : Int)) + (((a.natAbs / xx : Nat) : Int))))))), (44, (.tuple #[(.agg (ic (Ao9_4_4) (co9_4_5) ((((xx + a.natAbs / xx) / 2 : Nat) : Int)))), (.agg (ic (Ao9_4_7) (co9_4_8) (((((xx : Nat) : Int) + ((a.natAbs / xx : Nat) : Int)).fmod 2)))), (.int .i64 ((0 : Int)))])), (39, (.tuple #[(.agg (ic (Ao9_4_4) (co9_4_5) ((((xx + a.natAbs / xx) / 2 : Nat) : Int)))), (.agg (ic (Ao9_4_7) (co9_4_8) (((((xx : Nat) : Int) + ((a.natAbs / xx : Nat) : Int)).fmod 2)))), (.int .i64 ((0 : Int)))])), (45, (.agg (ic (Ao9_4_4) (co9_4_5) ((((xx + a.natAbs / xx) / 2 : Nat) : Int)))))] ∧ St w w' [(g77, 24, (ic (A70) (c71) ((if (((xx : Nat) : Int)) = 0 then 0 else a.fmod (((xx : Nat) : Int)))))), (g73, 24, (ic (A67) (c68) (((a.natAbs / xx : Nat) : Int)))), (g56, 24, (ic (A53) (c54) (((2 : Int))))), (g44, 24, (ic (Ax) (cx) (((xx : Nat) : Int)))), (g5, 24, #[(.bool (false)), (.slice (none) (0) (0))]), (g1, 24, (ic (A_a) (c_a) (a)))] ∧ Ext w83 (g77 :: (g73 :: (g56 :: (g44 :: (g5 :: (g1 :: X)))))) w' (g77 :: (g73 :: (g56 :: (g44 :: (g5 :: (g1 :: X)))))) ∧ UC w' (g77 :: (g73 :: (g56 :: (g44 :: (g5 :: (g1 :: X)))))) Ao9_2_4 co9_2_5 (lim ((((xx : Nat) : Int)) + (((a.natAbs / xx : Nat) : Int))).natAbs) ∧ UC w' (g77 :: (g73 :: (g56 :: (g44 :: (g5 :: (g1 :: X)))))) Ao9_4_4 co9_4_5 (lim ((((xx + a.natAbs / xx) / 2 : Nat) : Int)).natAbs) ∧ UC w' (g77 :: (g73 :: (g56 :: (g44 :: (g5 :: (g1 :: X)))))) Ao9_4_7 co9_4_8 (lim ((((xx : Nat) : Int) + ((a.natAbs / xx : Nat) : Int)).fmod 2).natAbs)
       , fun fa w' => ∃ Ao9_2_4 : Option Addr, ∃ co9_2_5 : Nat, ∃ Ao9_4_4 : Option Addr, ∃ co9_4_5 : Nat, ∃ Ao9_4_7 : Option Addr, ∃ co9_4_8 : Nat, Frm 54 fa [(42, (.agg (ic (Ao9_2_4) (co9_2_5) (((((xx : Nat) : Int)) + (((a.natAbs / xx : Nat) : Int))))))), (44, (.tuple #[(.agg (ic (Ao9_4_4) (co9_4_5) ((((xx + a.natAbs / xx) / 2 : Nat) : Int)))), (.agg (ic (Ao9_4_7) (co9_4_8) (((((xx : Nat) : Int) + ((a.natAbs / xx : Nat) : Int)).fmod 2)))), (.int .i64 ((0 : Int)))])), (39, (.tuple #[(.agg (ic (Ao9_4_4) (co9_4_5) ((((xx + a.natAbs / xx) / 2 : Nat) : Int)))), (.agg (ic (Ao9_4_7) (co9_4_8) (((((xx : Nat) : Int) + ((a.natAbs / xx : Nat) : Int)).fmod 2)))), (.int .i64 ((0 : Int)))])), (46, (.agg (ic (Ao9_4_7) (co9_4_8) (((((xx : Nat) : Int) + ((a.natAbs / xx : Nat) : Int)).fmod 2)))))] ∧ St w w' [(g77, 24, (ic (A70) (c71) ((if (((xx : Nat) : Int)) = 0 then 0 else a.fmod (((xx : Nat) : Int)))))), (g73, 24, (ic (A67) (c68) (((a.natAbs / xx : Nat) : Int)))), (g56, 24, (ic (A53) (c54) (((2 : Int))))), (g44, 24, (ic (Ax) (cx) (((xx : Nat) : Int)))), (g5, 24, #[(.bool (false)), (.slice (none) (0) (0))]), (g1, 24, (ic (A_a) (c_a) (a)))] ∧ Ext w83 (g77 :: (g73 :: (g56 :: (g44 :: (g5 :: (g1 :: X)))))) w' (g77 :: (g73 :: (g56 :: (g44 :: (g5 :: (g1 :: X)))))) ∧ UC w' (g77 :: (g73 :: (g56 :: (g44 :: (g5 :: (g1 :: X)))))) Ao9_2_4 co9_2_5 (lim ((((xx : Nat) : Int)) + (((a.natAbs / xx : Nat) : Int))).natAbs) ∧ UC w' (g77 :: (g73 :: (g56 :: (g44 :: (g5 :: (g1 :: X)))))) Ao9_4_4 co9_4_5 (lim ((((xx + a.natAbs / xx) / 2 : Nat) : Int)).natAbs) ∧ UC w' (g77 :: (g73 :: (g56 :: (g44 :: (g5 :: (g1 :: X)))))) Ao9_4_7 co9_4_8 (lim ((((xx : Nat) : Int) + ((a.natAbs / xx : Nat) : Int)).fmod 2).natAbs)
       , fun fa w' => ∃ Ao9_2_4 : Option Addr, ∃ co9_2_5 : Nat, ∃ Ao9_4_4 : Option Addr, ∃ co9_4_5 : Nat, ∃ Ao9_4_7 : Option Addr, ∃ co9_4_8 : Nat, ∃ go9_9_1 : Nat, Frm 54 fa [(42, (.agg (ic (Ao9_2_4) (co9_2_5) (((((xx : Nat) : Int)) + (((a.natAbs / xx : Nat) : Int))))))), (44, (.tuple #[(.agg (ic (Ao9_4_4) (co9_4_5) ((((xx + a.natAbs / xx) / 2 : Nat) : Int)))), (.agg (ic (Ao9_4_7) (co9_4_8) (((((xx : Nat) : Int) + ((a.natAbs / xx : Nat) : Int)).fmod 2)))), (.int .i64 ((0 : Int)))])), (39, (.tuple #[(.agg (ic (Ao9_4_4) (co9_4_5) ((((xx + a.natAbs / xx) / 2 : Nat) : Int)))), (.agg (ic (Ao9_4_7) (co9_4_8) (((((xx : Nat) : Int) + ((a.natAbs / xx : Nat) : Int)).fmod 2)))), (.int .i64 ((0 : Int)))])), (10, (.pointer (some ⟨go9_9_1, 0, none⟩)))] ∧ St w w' [(go9_9_1, 24, #[(.bool (false)), (.slice (none) (0) (0))]), (g77, 24, (ic (A70) (c71) ((if (((xx : Nat) : Int)) = 0 then 0 else a.fmod (((xx : Nat) : Int)))))), (g73, 24, (ic (A67) (c68) (((a.natAbs / xx : Nat) : Int)))), (g56, 24, (ic (A53) (c54) (((2 : Int))))), (g44, 24, (ic (Ax) (cx) (((xx : Nat) : Int)))), (g5, 24, #[(.bool (false)), (.slice (none) (0) (0))]), (g1, 24, (ic (A_a) (c_a) (a)))] ∧ Ext w83 (g77 :: (g73 :: (g56 :: (g44 :: (g5 :: (g1 :: X)))))) w' (go9_9_1 :: (g77 :: (g73 :: (g56 :: (g44 :: (g5 :: (g1 :: X))))))) ∧ UC w' (go9_9_1 :: (g77 :: (g73 :: (g56 :: (g44 :: (g5 :: (g1 :: X))))))) Ao9_2_4 co9_2_5 (lim ((((xx : Nat) : Int)) + (((a.natAbs / xx : Nat) : Int))).natAbs) ∧ UC w' (go9_9_1 :: (g77 :: (g73 :: (g56 :: (g44 :: (g5 :: (g1 :: X))))))) Ao9_4_4 co9_4_5 (lim ((((xx + a.natAbs / xx) / 2 : Nat) : Int)).natAbs) ∧ UC w' (go9_9_1 :: (g77 :: (g73 :: (g56 :: (g44 :: (g5 :: (g1 :: X))))))) Ao9_4_7 co9_4_8 (lim ((((xx : Nat) : Int) + ((a.natAbs / xx : Nat) : Int)).fmod 2).natAbs)
       , fun fa w' => ∃ Ao9_2_4 : Option Addr, ∃ co9_2_5 : Nat, ∃ Ao9_4_4 : Option Addr, ∃ co9_4_5 : Nat, ∃ Ao9_4_7 : Option Addr, ∃ co9_4_8 : Nat, ∃ go9_10_1 : Nat, Frm 54 fa [(42, (.agg (ic (Ao9_2_4) (co9_2_5) (((((xx : Nat) : Int)) + (((a.natAbs / xx : Nat) : Int))))))), (44, (.tuple #[(.agg (ic (Ao9_4_4) (co9_4_5) ((((xx + a.natAbs / xx) / 2 : Nat) : Int)))), (.agg (ic (Ao9_4_7) (co9_4_8) (((((xx : Nat) : Int) + ((a.natAbs / xx : Nat) : Int)).fmod 2)))), (.int .i64 ((0 : Int)))])), (39, (.tuple #[(.agg (ic (Ao9_4_4) (co9_4_5) ((((xx + a.natAbs / xx) / 2 : Nat) : Int)))), (.agg (ic (Ao9_4_7) (co9_4_8) (((((xx : Nat) : Int) + ((a.natAbs / xx : Nat) : Int)).fmod 2)))), (.int .i64 ((0 : Int)))])), (11, (.pointer (some ⟨go9_10_1, 0, none⟩)))] ∧ St w w' [(go9_10_1, 24, #[(.bool (false)), (.slice (none) (0) (0))]), (g77, 24, (ic (A70) (c71) ((if (((xx : Nat) : Int)) = 0 then 0 else a.fmod (((xx : Nat) : Int)))))), (g73, 24, (ic (A67) (c68) (((a.natAbs / xx : Nat) : Int)))), (g56, 24, (ic (A53) (c54) (((2 : Int))))), (g44, 24, (ic (Ax) (cx) (((xx : Nat) : Int)))), (g5, 24, #[(.bool (false)), (.slice (none) (0) (0))]), (g1, 24, (ic (A_a) (c_a) (a)))] ∧ Ext w83 (g77 :: (g73 :: (g56 :: (g44 :: (g5 :: (g1 :: X)))))) w' (go9_10_1 :: (g77 :: (g73 :: (g56 :: (g44 :: (g5 :: (g1 :: X))))))) ∧ UC w' (go9_10_1 :: (g77 :: (g73 :: (g56 :: (g44 :: (g5 :: (g1 :: X))))))) Ao9_2_4 co9_2_5 (lim ((((xx : Nat) : Int)) + (((a.natAbs / xx : Nat) : Int))).natAbs) ∧ UC w' (go9_10_1 :: (g77 :: (g73 :: (g56 :: (g44 :: (g5 :: (g1 :: X))))))) Ao9_4_4 co9_4_5 (lim ((((xx + a.natAbs / xx) / 2 : Nat) : Int)).natAbs) ∧ UC w' (go9_10_1 :: (g77 :: (g73 :: (g56 :: (g44 :: (g5 :: (g1 :: X))))))) Ao9_4_7 co9_4_8 (lim ((((xx : Nat) : Int) + ((a.natAbs / xx : Nat) : Int)).fmod 2).natAbs)
       , fun fa w' => ∃ Ao9_2_4 : Option Addr, ∃ co9_2_5 : Nat, ∃ Ao9_4_4 : Option Addr, ∃ co9_4_5 : Nat, ∃ Ao9_4_7 : Option Addr, ∃ co9_4_8 : Nat, ∃ go9_9_1 : Nat, ∃ go9_10_1 : Nat, Frm 54 fa [(42, (.agg (ic (Ao9_2_4) (co9_2_5) (((((xx : Nat) : Int)) + (((a.natAbs / xx : Nat) : Int))))))), (44, (.tuple #[(.agg (ic (Ao9_4_4) (co9_4_5) ((((xx + a.natAbs / xx) / 2 : Nat) : Int)))), (.agg (ic (Ao9_4_7) (co9_4_8) (((((xx : Nat) : Int) + ((a.natAbs / xx : Nat) : Int)).fmod 2)))), (.int .i64 ((0 : Int)))])), (10, (.pointer (some ⟨go9_9_1, 0, none⟩))), (11, (.pointer (some ⟨go9_10_1, 0, none⟩)))] ∧ St w w' [(go9_10_1, 24, #[(.bool (false)), (.slice (none) (0) (0))]), (go9_9_1, 24, #[(.bool (false)), (.slice (none) (0) (0))]), (g77, 24, (ic (A70) (c71) ((if (((xx : Nat) : Int)) = 0 then 0 else a.fmod (((xx : Nat) : Int)))))), (g73, 24, (ic (A67) (c68) (((a.natAbs / xx : Nat) : Int)))), (g56, 24, (ic (A53) (c54) (((2 : Int))))), (g44, 24, (ic (Ax) (cx) (((xx : Nat) : Int)))), (g5, 24, #[(.bool (false)), (.slice (none) (0) (0))]), (g1, 24, (ic (A_a) (c_a) (a)))] ∧ Ext w83 (g77 :: (g73 :: (g56 :: (g44 :: (g5 :: (g1 :: X)))))) w' (go9_10_1 :: (go9_9_1 :: (g77 :: (g73 :: (g56 :: (g44 :: (g5 :: (g1 :: X)))))))) ∧ UC w' (go9_10_1 :: (go9_9_1 :: (g77 :: (g73 :: (g56 :: (g44 :: (g5 :: (g1 :: X)))))))) Ao9_2_4 co9_2_5 (lim ((((xx : Nat) : Int)) + (((a.natAbs / xx : Nat) : Int))).natAbs) ∧ UC w' (go9_10_1 :: (go9_9_1 :: (g77 :: (g73 :: (g56 :: (g44 :: (g5 :: (g1 :: X)))))))) Ao9_4_4 co9_4_5 (lim ((((xx + a.natAbs / xx) / 2 : Nat) : Int)).natAbs) ∧ UC w' (go9_10_1 :: (go9_9_1 :: (g77 :: (g73 :: (g56 :: (g44 :: (g5 :: (g1 :: X)))))))) Ao9_4_7 co9_4_8 (lim ((((xx : Nat) : Int) + ((a.natAbs / xx : Nat) : Int)).fmod 2).natAbs)
       , fun fa w' => ∃ Ao9_2_4 : Option Addr, ∃ co9_2_5 : Nat, ∃ Ao9_4_4 : Option Addr, ∃ co9_4_5 : Nat, ∃ Ao9_4_7 : Option Addr, ∃ co9_4_8 : Nat, Frm 54 fa [(42, (.agg (ic (Ao9_2_4) (co9_2_5) (((((xx : Nat) : Int)) + (((a.natAbs / xx : Nat) : Int))))))), (44, (.tuple #[(.agg (ic (Ao9_4_4) (co9_4_5) ((((xx + a.natAbs / xx) / 2 : Nat) : Int)))), (.agg (ic (Ao9_4_7) (co9_4_8) (((((xx : Nat) : Int) + ((a.natAbs / xx : Nat) : Int)).fmod 2)))), (.int .i64 ((0 : Int)))])), (39, (.tuple #[(.agg (ic (Ao9_4_4) (co9_4_5) ((((xx + a.natAbs / xx) / 2 : Nat) : Int)))), (.agg (ic (Ao9_4_7) (co9_4_8) (((((xx : Nat) : Int) + ((a.natAbs / xx : Nat) : Int)).fmod 2)))), (.int .i64 ((0 : Int)))])), (45, (.agg (ic (Ao9_4_4) (co9_4_5) ((((xx + a.natAbs / xx) / 2 : Nat) : Int))))), (46, (.agg (ic (Ao9_4_7) (co9_4_8) (((((xx : Nat) : Int) + ((a.natAbs / xx : Nat) : Int)).fmod 2)))))] ∧ St w w' [(g77, 24, (ic (A70) (c71) ((if (((xx : Nat) : Int)) = 0 then 0 else a.fmod (((xx : Nat) : Int)))))), (g73, 24, (ic (A67) (c68) (((a.natAbs / xx : Nat) : Int)))), (g56, 24, (ic (A53) (c54) (((2 : Int))))), (g44, 24, (ic (Ax) (cx) (((xx : Nat) : Int)))), (g5, 24, #[(.bool (false)), (.slice (none) (0) (0))]), (g1, 24, (ic (A_a) (c_a) (a)))] ∧ Ext w83 (g77 :: (g73 :: (g56 :: (g44 :: (g5 :: (g1 :: X)))))) w' (g77 :: (g73 :: (g56 :: (g44 :: (g5 :: (g1 :: X)))))) ∧ UC w' (g77 :: (g73 :: (g56 :: (g44 :: (g5 :: (g1 :: X)))))) Ao9_2_4 co9_2_5 (lim ((((xx : Nat) : Int)) + (((a.natAbs / xx : Nat) : Int))).natAbs) ∧ UC w' (g77 :: (g73 :: (g56 :: (g44 :: (g5 :: (g1 :: X)))))) Ao9_4_4 co9_4_5 (lim ((((xx + a.natAbs / xx) / 2 : Nat) : Int)).natAbs) ∧ UC w' (g77 :: (g73 :: (g56 :: (g44 :: (g5 :: (g1 :: X)))))) Ao9_4_7 co9_4_8 (lim ((((xx : Nat) : Int) + ((a.natAbs / xx : Nat) : Int)).fmod 2).natAbs)
       , fun fa w' => ∃ Ao9_2_4 : Option Addr, ∃ co9_2_5 : Nat, ∃ Ao9_4_4 : Option Addr, ∃ co9_4_5 : Nat, ∃ Ao9_4_7 : Option Addr, ∃ co9_4_8 : Nat, ∃ go9_9_1 : Nat, Frm 54 fa [(42, (.agg (ic (Ao9_2_4) (co9_2_5) (((((xx : Nat) : Int)) + (((a.natAbs / xx : Nat) : Int))))))), (44, (.tuple #[(.agg (ic (Ao9_4_4) (co9_4_5) ((((xx + a.natAbs / xx) / 2 : Nat) : Int)))), (.agg (ic (Ao9_4_7) (co9_4_8) (((((xx : Nat) : Int) + ((a.natAbs / xx : Nat) : Int)).fmod 2)))), (.int .i64 ((0 : Int)))])), (39, (.tuple #[(.agg (ic (Ao9_4_4) (co9_4_5) ((((xx + a.natAbs / xx) / 2 : Nat) : Int)))), (.agg (ic (Ao9_4_7) (co9_4_8) (((((xx : Nat) : Int) + ((a.natAbs / xx : Nat) : Int)).fmod 2)))), (.int .i64 ((0 : Int)))])), (45, (.agg (ic (Ao9_4_4) (co9_4_5) ((((xx + a.natAbs / xx) / 2 : Nat) : Int))))), (10, (.pointer (some ⟨go9_9_1, 0, none⟩)))] ∧ St w w' [(go9_9_1, 24, #[(.bool (false)), (.slice (none) (0) (0))]), (g77, 24, (ic (A70) (c71) ((if (((xx : Nat) : Int)) = 0 then 0 else a.fmod (((xx : Nat) : Int)))))), (g73, 24, (ic (A67) (c68) (((a.natAbs / xx : Nat) : Int)))), (g56, 24, (ic (A53) (c54) (((2 : Int))))), (g44, 24, (ic (Ax) (cx) (((xx : Nat) : Int)))), (g5, 24, #[(.bool (false)), (.slice (none) (0) (0))]), (g1, 24, (ic (A_a) (c_a) (a)))] ∧ Ext w83 (g77 :: (g73 :: (g56 :: (g44 :: (g5 :: (g1 :: X)))))) w' (go9_9_1 :: (g77 :: (g73 :: (g56 :: (g44 :: (g5 :: (g1 :: X))))))) ∧ UC w' (go9_9_1 :: (g77 :: (g73 :: (g56 :: (g44 :: (g5 :: (g1 :: X))))))) Ao9_2_4 co9_2_5 (lim ((((xx : Nat) : Int)) + (((a.natAbs / xx : Nat) : Int))).natAbs) ∧ UC w' (go9_9_1 :: (g77 :: (g73 :: (g56 :: (g44 :: (g5 :: (g1 :: X))))))) Ao9_4_4 co9_4_5 (lim ((((xx + a.natAbs / xx) / 2 : Nat) : Int)).natAbs) ∧ UC w' (go9_9_1 :: (g77 :: (g73 :: (g56 :: (g44 :: (g5 :: (g1 :: X))))))) Ao9_4_7 co9_4_8 (lim ((((xx : Nat) : Int) + ((a.natAbs / xx : Nat) : Int)).fmod 2).natAbs)
       , fun fa w' => ∃ Ao9_2_4 : Option Addr, ∃ co9_2_5 : Nat, ∃ Ao9_4_4 : Option Addr, ∃ co9_4_5 : Nat, ∃ Ao9_4_7 : Option Addr, ∃ co9_4_8 : Nat, ∃ go9_10_1 : Nat, Frm 54 fa [(42, (.agg (ic (Ao9_2_4) (co9_2_5) (((((xx : Nat) : Int)) + (((a.natAbs / xx : Nat) : Int))))))), (44, (.tuple #[(.agg (ic (Ao9_4_4) (co9_4_5) ((((xx + a.natAbs / xx) / 2 : Nat) : Int)))), (.agg (ic (Ao9_4_7) (co9_4_8) (((((xx : Nat) : Int) + ((a.natAbs / xx : Nat) : Int)).fmod 2)))), (.int .i64 ((0 : Int)))])), (39, (.tuple #[(.agg (ic (Ao9_4_4) (co9_4_5) ((((xx + a.natAbs / xx) / 2 : Nat) : Int)))), (.agg (ic (Ao9_4_7) (co9_4_8) (((((xx : Nat) : Int) + ((a.natAbs / xx : Nat) : Int)).fmod 2)))), (.int .i64 ((0 : Int)))])), (45, (.agg (ic (Ao9_4_4) (co9_4_5) ((((xx + a.natAbs / xx) / 2 : Nat) : Int))))), (11, (.pointer (some ⟨go9_10_1, 0, none⟩)))] ∧ St w w' [(go9_10_1, 24, #[(.bool (false)), (.slice (none) (0) (0))]), (g77, 24, (ic (A70) (c71) ((if (((xx : Nat) : Int)) = 0 then 0 else a.fmod (((xx : Nat) : Int)))))), (g73, 24, (ic (A67) (c68) (((a.natAbs / xx : Nat) : Int)))), (g56, 24, (ic (A53) (c54) (((2 : Int))))), (g44, 24, (ic (Ax) (cx) (((xx : Nat) : Int)))), (g5, 24, #[(.bool (false)), (.slice (none) (0) (0))]), (g1, 24, (ic (A_a) (c_a) (a)))] ∧ Ext w83 (g77 :: (g73 :: (g56 :: (g44 :: (g5 :: (g1 :: X)))))) w' (go9_10_1 :: (g77 :: (g73 :: (g56 :: (g44 :: (g5 :: (g1 :: X))))))) ∧ UC w' (go9_10_1 :: (g77 :: (g73 :: (g56 :: (g44 :: (g5 :: (g1 :: X))))))) Ao9_2_4 co9_2_5 (lim ((((xx : Nat) : Int)) + (((a.natAbs / xx : Nat) : Int))).natAbs) ∧ UC w' (go9_10_1 :: (g77 :: (g73 :: (g56 :: (g44 :: (g5 :: (g1 :: X))))))) Ao9_4_4 co9_4_5 (lim ((((xx + a.natAbs / xx) / 2 : Nat) : Int)).natAbs) ∧ UC w' (go9_10_1 :: (g77 :: (g73 :: (g56 :: (g44 :: (g5 :: (g1 :: X))))))) Ao9_4_7 co9_4_8 (lim ((((xx : Nat) : Int) + ((a.natAbs / xx : Nat) : Int)).fmod 2).natAbs)
       , fun fa w' => ∃ Ao9_2_4 : Option Addr, ∃ co9_2_5 : Nat, ∃ Ao9_4_4 : Option Addr, ∃ co9_4_5 : Nat, ∃ Ao9_4_7 : Option Addr, ∃ co9_4_8 : Nat, ∃ go9_9_1 : Nat, Frm 54 fa [(42, (.agg (ic (Ao9_2_4) (co9_2_5) (((((xx : Nat) : Int)) + (((a.natAbs / xx : Nat) : Int))))))), (44, (.tuple #[(.agg (ic (Ao9_4_4) (co9_4_5) ((((xx + a.natAbs / xx) / 2 : Nat) : Int)))), (.agg (ic (Ao9_4_7) (co9_4_8) (((((xx : Nat) : Int) + ((a.natAbs / xx : Nat) : Int)).fmod 2)))), (.int .i64 ((0 : Int)))])), (39, (.tuple #[(.agg (ic (Ao9_4_4) (co9_4_5) ((((xx + a.natAbs / xx) / 2 : Nat) : Int)))), (.agg (ic (Ao9_4_7) (co9_4_8) (((((xx : Nat) : Int) + ((a.natAbs / xx : Nat) : Int)).fmod 2)))), (.int .i64 ((0 : Int)))])), (46, (.agg (ic (Ao9_4_7) (co9_4_8) (((((xx : Nat) : Int) + ((a.natAbs / xx : Nat) : Int)).fmod 2))))), (10, (.pointer (some ⟨go9_9_1, 0, none⟩)))] ∧ St w w' [(go9_9_1, 24, #[(.bool (false)), (.slice (none) (0) (0))]), (g77, 24, (ic (A70) (c71) ((if (((xx : Nat) : Int)) = 0 then 0 else a.fmod (((xx : Nat) : Int)))))), (g73, 24, (ic (A67) (c68) (((a.natAbs / xx : Nat) : Int)))), (g56, 24, (ic (A53) (c54) (((2 : Int))))), (g44, 24, (ic (Ax) (cx) (((xx : Nat) : Int)))), (g5, 24, #[(.bool (false)), (.slice (none) (0) (0))]), (g1, 24, (ic (A_a) (c_a) (a)))] ∧ Ext w83 (g77 :: (g73 :: (g56 :: (g44 :: (g5 :: (g1 :: X)))))) w' (go9_9_1 :: (g77 :: (g73 :: (g56 :: (g44 :: (g5 :: (g1 :: X))))))) ∧ UC w' (go9_9_1 :: (g77 :: (g73 :: (g56 :: (g44 :: (g5 :: (g1 :: X))))))) Ao9_2_4 co9_2_5 (lim ((((xx : Nat) : Int)) + (((a.natAbs / xx : Nat) : Int))).natAbs) ∧ UC w' (go9_9_1 :: (g77 :: (g73 :: (g56 :: (g44 :: (g5 :: (g1 :: X))))))) Ao9_4_4 co9_4_5 (lim ((((xx + a.natAbs / xx) / 2 : Nat) : Int)).natAbs) ∧ UC w' (go9_9_1 :: (g77 :: (g73 :: (g56 :: (g44 :: (g5 :: (g1 :: X))))))) Ao9_4_7 co9_4_8 (lim ((((xx : Nat) : Int) + ((a.natAbs / xx : Nat) : Int)).fmod 2).natAbs)
       , fun fa w' => ∃ Ao9_2_4 : Option Addr, ∃ co9_2_5 : Nat, ∃ Ao9_4_4 : Option Addr, ∃ co9_4_5 : Nat, ∃ Ao9_4_7 : Option Addr, ∃ co9_4_8 : Nat, ∃ go9_10_1 : Nat, Frm 54 fa [(42, (.agg (ic (Ao9_2_4) (co9_2_5) (((((xx : Nat) : Int)) + (((a.natAbs / xx : Nat) : Int))))))), (44, (.tuple #[(.agg (ic (Ao9_4_4) (co9_4_5) ((((xx + a.natAbs / xx) / 2 : Nat) : Int)))), (.agg (ic (Ao9_4_7) (co9_4_8) (((((xx : Nat) : Int) + ((a.natAbs / xx : Nat) : Int)).fmod 2)))), (.int .i64 ((0 : Int)))])), (39, (.tuple #[(.agg (ic (Ao9_4_4) (co9_4_5) ((((xx + a.natAbs / xx) / 2 : Nat) : Int)))), (.agg (ic (Ao9_4_7) (co9_4_8) (((((xx : Nat) : Int) + ((a.natAbs / xx : Nat) : Int)).fmod 2)))), (.int .i64 ((0 : Int)))])), (46, (.agg (ic (Ao9_4_7) (co9_4_8) (((((xx : Nat) : Int) + ((a.natAbs / xx : Nat) : Int)).fmod 2))))), (11, (.pointer (some ⟨go9_10_1, 0, none⟩)))] ∧ St w w' [(go9_10_1, 24, #[(.bool (false)), (.slice (none) (0) (0))]), (g77, 24, (ic (A70) (c71) ((if (((xx : Nat) : Int)) = 0 then 0 else a.fmod (((xx : Nat) : Int)))))), (g73, 24, (ic (A67) (c68) (((a.natAbs / xx : Nat) : Int)))), (g56, 24, (ic (A53) (c54) (((2 : Int))))), (g44, 24, (ic (Ax) (cx) (((xx : Nat) : Int)))), (g5, 24, #[(.bool (false)), (.slice (none) (0) (0))]), (g1, 24, (ic (A_a) (c_a) (a)))] ∧ Ext w83 (g77 :: (g73 :: (g56 :: (g44 :: (g5 :: (g1 :: X)))))) w' (go9_10_1 :: (g77 :: (g73 :: (g56 :: (g44 :: (g5 :: (g1 :: X))))))) ∧ UC w' (go9_10_1 :: (g77 :: (g73 :: (g56 :: (g44 :: (g5 :: (g1 :: X))))))) Ao9_2_4 co9_2_5 (lim ((((xx : Nat) : Int)) + (((a.natAbs / xx : Nat) : Int))).natAbs) ∧ UC w' (go9_10_1 :: (g77 :: (g73 :: (g56 :: (g44 :: (g5 :: (g1 :: X))))))) Ao9_4_4 co9_4_5 (lim ((((xx + a.natAbs / xx) / 2 : Nat) : Int)).natAbs) ∧ UC w' (go9_10_1 :: (g77 :: (g73 :: (g56 :: (g44 :: (g5 :: (g1 :: X))))))) Ao9_4_7 co9_4_8 (lim ((((xx : Nat) : Int) + ((a.natAbs / xx : Nat) : Int)).fmod 2).natAbs)
       , fun fa w' => ∃ Ao9_2_4 : Option Addr, ∃ co9_2_5 : Nat, ∃ Ao9_4_4 : Option Addr, ∃ co9_4_5 : Nat, ∃ Ao9_4_7 : Option Addr, ∃ co9_4_8 : Nat, ∃ go9_9_1 : Nat, ∃ go9_10_1 : Nat, Frm 54 fa [(42, (.agg (ic (Ao9_2_4) (co9_2_5) (((((xx : Nat) : Int)) + (((a.natAbs / xx : Nat) : Int))))))), (44, (.tuple #[(.agg (ic (Ao9_4_4) (co9_4_5) ((((xx + a.natAbs / xx) / 2 : Nat) : Int)))), (.agg (ic (Ao9_4_7) (co9_4_8) (((((xx : Nat) : Int) + ((a.natAbs / xx : Nat) : Int)).fmod 2)))), (.int .i64 ((0 : Int)))])), (39, (.tuple #[(.agg (ic (Ao9_4_4) (co9_4_5) ((((xx + a.natAbs / xx) / 2 : Nat) : Int)))), (.agg (ic (Ao9_4_7) (co9_4_8) (((((xx : Nat) : Int) + ((a.natAbs / xx : Nat) : Int)).fmod 2)))), (.int .i64 ((0 : Int)))])), (10, (.pointer (some ⟨go9_9_1, 0, none⟩))), (11, (.pointer (some ⟨go9_10_1, 0, none⟩)))] ∧ St w w' [(go9_10_1, 24, #[(.bool (false)), (.slice (none) (0) (0))]), (go9_9_1, 24, #[(.bool (false)), (.slice (none) (0) (0))]), (g77, 24, (ic (A70) (c71) ((if (((xx : Nat) : Int)) = 0 then 0 else a.fmod (((xx : Nat) : Int)))))), (g73, 24, (ic (A67) (c68) (((a.natAbs / xx : Nat) : Int)))), (g56, 24, (ic (A53) (c54) (((2 : Int))))), (g44, 24, (ic (Ax) (cx) (((xx : Nat) : Int)))), (g5, 24, #[(.bool (false)), (.slice (none) (0) (0))]), (g1, 24, (ic (A_a) (c_a) (a)))] ∧ Ext w83 (g77 :: (g73 :: (g56 :: (g44 :: (g5 :: (g1 :: X)))))) w' (go9_10_1 :: (go9_9_1 :: (g77 :: (g73 :: (g56 :: (g44 :: (g5 :: (g1 :: X)))))))) ∧ UC w' (go9_10_1 :: (go9_9_1 :: (g77 :: (g73 :: (g56 :: (g44 :: (g5 :: (g1 :: X)))))))) Ao9_2_4 co9_2_5 (lim ((((xx : Nat) : Int)) + (((a.natAbs / xx : Nat) : Int))).natAbs) ∧ UC w' (go9_10_1 :: (go9_9_1 :: (g77 :: (g73 :: (g56 :: (g44 :: (g5 :: (g1 :: X)))))))) Ao9_4_4 co9_4_5 (lim ((((xx + a.natAbs / xx) / 2 : Nat) : Int)).natAbs) ∧ UC w' (go9_10_1 :: (go9_9_1 :: (g77 :: (g73 :: (g56 :: (g44 :: (g5 :: (g1 :: X)))))))) Ao9_4_7 co9_4_8 (lim ((((xx : Nat) : Int) + ((a.natAbs / xx : Nat) : Int)).fmod 2).natAbs)
       , fun fa w' => ∃ Ao9_2_4 : Option Addr, ∃ co9_2_5 : Nat, ∃ Ao9_4_4 : Option Addr, ∃ co9_4_5 : Nat, ∃ Ao9_4_7 : Option Addr, ∃ co9_4_8 : Nat, ∃ go9_9_1 : Nat, Frm 54 fa [(42, (.agg (ic (Ao9_2_4) (co9_2_5) (((((xx : Nat) : Int)) + (((a.natAbs / xx : Nat) : Int))))))), (44, (.tuple #[(.agg (ic (Ao9_4_4) (co9_4_5) ((((xx + a.natAbs / xx) / 2 : Nat) : Int)))), (.agg (ic (Ao9_4_7) (co9_4_8) (((((xx : Nat) : Int) + ((a.natAbs / xx : Nat) : Int)).fmod 2)))), (.int .i64 ((0 : Int)))])), (39, (.tuple #[(.agg (ic (Ao9_4_4) (co9_4_5) ((((xx + a.natAbs / xx) / 2 : Nat) : Int)))), (.agg (ic (Ao9_4_7) (co9_4_8) (((((xx : Nat) : Int) + ((a.natAbs / xx : Nat) : Int)).fmod 2)))), (.int .i64 ((0 : Int)))])), (45, (.agg (ic (Ao9_4_4) (co9_4_5) ((((xx + a.natAbs / xx) / 2 : Nat) : Int))))), (46, (.agg (ic (Ao9_4_7) (co9_4_8) (((((xx : Nat) : Int) + ((a.natAbs / xx : Nat) : Int)).fmod 2))))), (10, (.pointer (some ⟨go9_9_1, 0, none⟩)))] ∧ St w w' [(go9_9_1, 24, #[(.bool (false)), (.slice (none) (0) (0))]), (g77, 24, (ic (A70) (c71) ((if (((xx : Nat) : Int)) = 0 then 0 else a.fmod (((xx : Nat) : Int)))))), (g73, 24, (ic (A67) (c68) (((a.natAbs / xx : Nat) : Int)))), (g56, 24, (ic (A53) (c54) (((2 : Int))))), (g44, 24, (ic (Ax) (cx) (((xx : Nat) : Int)))), (g5, 24, #[(.bool (false)), (.slice (none) (0) (0))]), (g1, 24, (ic (A_a) (c_a) (a)))] ∧ Ext w83 (g77 :: (g73 :: (g56 :: (g44 :: (g5 :: (g1 :: X)))))) w' (go9_9_1 :: (g77 :: (g73 :: (g56 :: (g44 :: (g5 :: (g1 :: X))))))) ∧ UC w' (go9_9_1 :: (g77 :: (g73 :: (g56 :: (g44 :: (g5 :: (g1 :: X))))))) Ao9_2_4 co9_2_5 (lim ((((xx : Nat) : Int)) + (((a.natAbs / xx : Nat) : Int))).natAbs) ∧ UC w' (go9_9_1 :: (g77 :: (g73 :: (g56 :: (g44 :: (g5 :: (g1 :: X))))))) Ao9_4_4 co9_4_5 (lim ((((xx + a.natAbs / xx) / 2 : Nat) : Int)).natAbs) ∧ UC w' (go9_9_1 :: (g77 :: (g73 :: (g56 :: (g44 :: (g5 :: (g1 :: X))))))) Ao9_4_7 co9_4_8 (lim ((((xx : Nat) : Int) + ((a.natAbs / xx : Nat) : Int)).fmod 2).natAbs)
       , fun fa w' => ∃ Ao9_2_4 : Option Addr, ∃ co9_2_5 : Nat, ∃ Ao9_4_4 : Option Addr, ∃ co9_4_5 : Nat, ∃ Ao9_4_7 : Option Addr, ∃ co9_4_8 : Nat, ∃ go9_10_1 : Nat, Frm 54 fa [(42, (.agg (ic (Ao9_2_4) (co9_2_5) (((((xx : Nat) : Int)) + (((a.natAbs / xx : Nat) : Int))))))), (44, (.tuple #[(.agg (ic (Ao9_4_4) (co9_4_5) ((((xx + a.natAbs / xx) / 2 : Nat) : Int)))), (.agg (ic (Ao9_4_7) (co9_4_8) (((((xx : Nat) : Int) + ((a.natAbs / xx : Nat) : Int)).fmod 2)))), (.int .i64 ((0 : Int)))])), (39, (.tuple #[(.agg (ic (Ao9_4_4) (co9_4_5) ((((xx + a.natAbs / xx) / 2 : Nat) : Int)))), (.agg (ic (Ao9_4_7) (co9_4_8) (((((xx : Nat) : Int) + ((a.natAbs / xx : Nat) : Int)).fmod 2)))), (.int .i64 ((0 : Int)))])), (45, (.agg (ic (Ao9_4_4) (co9_4_5) ((((xx + a.natAbs / xx) / 2 : Nat) : Int))))), (46, (.agg (ic (Ao9_4_7) (co9_4_8) (((((xx : Nat) : Int) + ((a.natAbs / xx : Nat) : Int)).fmod 2))))), (11, (.pointer (some ⟨go9_10_1, 0, none⟩)))] ∧ St w w' [(go9_10_1, 24, #[(.bool (false)), (.slice (none) (0) (0))]), (g77, 24, (ic (A70) (c71) ((if (((xx : Nat) : Int)) = 0 then 0 else a.fmod (((xx : Nat) : Int)))))), (g73, 24, (ic (A67) (c68) (((a.natAbs / xx : Nat) : Int)))), (g56, 24, (ic (A53) (c54) (((2 : Int))))), (g44, 24, (ic (Ax) (cx) (((xx : Nat) : Int)))), (g5, 24, #[(.bool (false)), (.slice (none) (0) (0))]), (g1, 24, (ic (A_a) (c_a) (a)))] ∧ Ext w83 (g77 :: (g73 :: (g56 :: (g44 :: (g5 :: (g1 :: X)))))) w' (go9_10_1 :: (g77 :: (g73 :: (g56 :: (g44 :: (g5 :: (g1 :: X))))))) ∧ UC w' (go9_10_1 :: (g77 :: (g73 :: (g56 :: (g44 :: (g5 :: (g1 :: X))))))) Ao9_2_4 co9_2_5 (lim ((((xx : Nat) : Int)) + (((a.natAbs / xx : Nat) : Int))).natAbs) ∧ UC w' (go9_10_1 :: (g77 :: (g73 :: (g56 :: (g44 :: (g5 :: (g1 :: X))))))) Ao9_4_4 co9_4_5 (lim ((((xx + a.natAbs / xx) / 2 : Nat) : Int)).natAbs) ∧ UC w' (go9_10_1 :: (g77 :: (g73 :: (g56 :: (g44 :: (g5 :: (g1 :: X))))))) Ao9_4_7 co9_4_8 (lim ((((xx : Nat) : Int) + ((a.natAbs / xx : Nat) : Int)).fmod 2).natAbs)
       , fun fa w' => ∃ Ao9_2_4 : Option Addr, ∃ co9_2_5 : Nat, ∃ Ao9_4_4 : Option Addr, ∃ co9_4_5 : Nat, ∃ Ao9_4_7 : Option Addr, ∃ co9_4_8 : Nat, ∃ go9_9_1 : Nat, ∃ go9_10_1 : Nat, Frm 54 fa [(42, (.agg (ic (Ao9_2_4) (co9_2_5) (((((xx : Nat) : Int)) + (((a.natAbs / xx : Nat) : Int))))))), (44, (.tuple #[(.agg (ic (Ao9_4_4) (co9_4_5) ((((xx + a.natAbs / xx) / 2 : Nat) : Int)))), (.agg (ic (Ao9_4_7) (co9_4_8) (((((xx : Nat) : Int) + ((a.natAbs / xx : Nat) : Int)).fmod 2)))), (.int .i64 ((0 : Int)))])), (39, (.tuple #[(.agg (ic (Ao9_4_4) (co9_4_5) ((((xx + a.natAbs / xx) / 2 : Nat) : Int)))), (.agg (ic (Ao9_4_7) (co9_4_8) (((((xx : Nat) : Int) + ((a.natAbs / xx : Nat) : Int)).fmod 2)))), (.int .i64 ((0 : Int)))])), (45, (.agg (ic (Ao9_4_4) (co9_4_5) ((((xx + a.natAbs / xx) / 2 : Nat) : Int))))), (10, (.pointer (some ⟨go9_9_1, 0, none⟩))), (11, (.pointer (some ⟨go9_10_1, 0, none⟩)))] ∧ St w w' [(go9_10_1, 24, #[(.bool (false)), (.slice (none) (0) (0))]), (go9_9_1, 24, #[(.bool (false)), (.slice (none) (0) (0))]), (g77, 24, (ic (A70) (c71) ((if (((xx : Nat) : Int)) = 0 then 0 else a.fmod (((xx : Nat) : Int)))))), (g73, 24, (ic (A67) (c68) (((a.natAbs / xx : Nat) : Int)))), (g56, 24, (ic (A53) (c54) (((2 : Int))))), (g44, 24, (ic (Ax) (cx) (((xx : Nat) : Int)))), (g5, 24, #[(.bool (false)), (.slice (none) (0) (0))]), (g1, 24, (ic (A_a) (c_a) (a)))] ∧ Ext w83 (g77 :: (g73 :: (g56 :: (g44 :: (g5 :: (g1 :: X)))))) w' (go9_10_1 :: (go9_9_1 :: (g77 :: (g73 :: (g56 :: (g44 :: (g5 :: (g1 :: X)))))))) ∧ UC w' (go9_10_1 :: (go9_9_1 :: (g77 :: (g73 :: (g56 :: (g44 :: (g5 :: (g1 :: X)))))))) Ao9_2_4 co9_2_5 (lim ((((xx : Nat) : Int)) + (((a.natAbs / xx : Nat) : Int))).natAbs) ∧ UC w' (go9_10_1 :: (go9_9_1 :: (g77 :: (g73 :: (g56 :: (g44 :: (g5 :: (g1 :: X)))))))) Ao9_4_4 co9_4_5 (lim ((((xx + a.natAbs / xx) / 2 : Nat) : Int)).natAbs) ∧ UC w' (go9_10_1 :: (go9_9_1 :: (g77 :: (g73 :: (g56 :: (g44 :: (g5 :: (g1 :: X)))))))) Ao9_4_7 co9_4_8 (lim ((((xx : Nat) : Int) + ((a.natAbs / xx : Nat) : Int)).fmod 2).natAbs)
       , fun fa w' => ∃ Ao9_2_4 : Option Addr, ∃ co9_2_5 : Nat, ∃ Ao9_4_4 : Option Addr, ∃ co9_4_5 : Nat, ∃ Ao9_4_7 : Option Addr, ∃ co9_4_8 : Nat, ∃ go9_9_1 : Nat, ∃ go9_10_1 : Nat, Frm 54 fa [(42, (.agg (ic (Ao9_2_4) (co9_2_5) (((((xx : Nat) : Int)) + (((a.natAbs / xx : Nat) : Int))))))), (44, (.tuple #[(.agg (ic (Ao9_4_4) (co9_4_5) ((((xx + a.natAbs / xx) / 2 : Nat) : Int)))), (.agg (ic (Ao9_4_7) (co9_4_8) (((((xx : Nat) : Int) + ((a.natAbs / xx : Nat) : Int)).fmod 2)))), (.int .i64 ((0 : Int)))])), (39, (.tuple #[(.agg (ic (Ao9_4_4) (co9_4_5) ((((xx + a.natAbs / xx) / 2 : Nat) : Int)))), (.agg (ic (Ao9_4_7) (co9_4_8) (((((xx : Nat) : Int) + ((a.natAbs / xx : Nat) : Int)).fmod 2)))), (.int .i64 ((0 : Int)))])), (46, (.agg (ic (Ao9_4_7) (co9_4_8) (((((xx : Nat) : Int) + ((a.natAbs / xx : Nat) : Int)).fmod 2))))), (10, (.pointer (some ⟨go9_9_1, 0, none⟩))), (11, (.pointer (some ⟨go9_10_1, 0, none⟩)))] ∧ St w w' [(go9_10_1, 24, #[(.bool (false)), (.slice (none) (0) (0))]), (go9_9_1, 24, #[(.bool (false)), (.slice (none) (0) (0))]), (g77, 24, (ic (A70) (c71) ((if (((xx : Nat) : Int)) = 0 then 0 else a.fmod (((xx : Nat) : Int)))))), (g73, 24, (ic (A67) (c68) (((a.natAbs / xx : Nat) : Int)))), (g56, 24, (ic (A53) (c54) (((2 : Int))))), (g44, 24, (ic (Ax) (cx) (((xx : Nat) : Int)))), (g5, 24, #[(.bool (false)), (.slice (none) (0) (0))]), (g1, 24, (ic (A_a) (c_a) (a)))] ∧ Ext w83 (g77 :: (g73 :: (g56 :: (g44 :: (g5 :: (g1 :: X)))))) w' (go9_10_1 :: (go9_9_1 :: (g77 :: (g73 :: (g56 :: (g44 :: (g5 :: (g1 :: X)))))))) ∧ UC w' (go9_10_1 :: (go9_9_1 :: (g77 :: (g73 :: (g56 :: (g44 :: (g5 :: (g1 :: X)))))))) Ao9_2_4 co9_2_5 (lim ((((xx : Nat) : Int)) + (((a.natAbs / xx : Nat) : Int))).natAbs) ∧ UC w' (go9_10_1 :: (go9_9_1 :: (g77 :: (g73 :: (g56 :: (g44 :: (g5 :: (g1 :: X)))))))) Ao9_4_4 co9_4_5 (lim ((((xx + a.natAbs / xx) / 2 : Nat) : Int)).natAbs) ∧ UC w' (go9_10_1 :: (go9_9_1 :: (g77 :: (g73 :: (g56 :: (g44 :: (g5 :: (g1 :: X)))))))) Ao9_4_7 co9_4_8 (lim ((((xx : Nat) : Int) + ((a.natAbs / xx : Nat) : Int)).fmod 2).natAbs)
       , fun fa w' => ∃ Ao9_2_4 : Option Addr, ∃ co9_2_5 : Nat, ∃ Ao9_4_4 : Option Addr, ∃ co9_4_5 : Nat, ∃ Ao9_4_7 : Option Addr, ∃ co9_4_8 : Nat, ∃ go9_9_1 : Nat, ∃ go9_10_1 : Nat, Frm 54 fa [(42, (.agg (ic (Ao9_2_4) (co9_2_5) (((((xx : Nat) : Int)) + (((a.natAbs / xx : Nat) : Int))))))), (44, (.tuple #[(.agg (ic (Ao9_4_4) (co9_4_5) ((((xx + a.natAbs / xx) / 2 : Nat) : Int)))), (.agg (ic (Ao9_4_7) (co9_4_8) (((((xx : Nat) : Int) + ((a.natAbs / xx : Nat) : Int)).fmod 2)))), (.int .i64 ((0 : Int)))])), (39, (.tuple #[(.agg (ic (Ao9_4_4) (co9_4_5) ((((xx + a.natAbs / xx) / 2 : Nat) : Int)))), (.agg (ic (Ao9_4_7) (co9_4_8) (((((xx : Nat) : Int) + ((a.natAbs / xx : Nat) : Int)).fmod 2)))), (.int .i64 ((0 : Int)))])), (45, (.agg (ic (Ao9_4_4) (co9_4_5) ((((xx + a.natAbs / xx) / 2 : Nat) : Int))))), (46, (.agg (ic (Ao9_4_7) (co9_4_8) (((((xx : Nat) : Int) + ((a.natAbs / xx : Nat) : Int)).fmod 2))))), (10, (.pointer (some ⟨go9_9_1, 0, none⟩))), (11, (.pointer (some ⟨go9_10_1, 0, none⟩)))] ∧ St w w' [(go9_10_1, 24, #[(.bool (false)), (.slice (none) (0) (0))]), (go9_9_1, 24, #[(.bool (false)), (.slice (none) (0) (0))]), (g77, 24, (ic (A70) (c71) ((if (((xx : Nat) : Int)) = 0 then 0 else a.fmod (((xx : Nat) : Int)))))), (g73, 24, (ic (A67) (c68) (((a.natAbs / xx : Nat) : Int)))), (g56, 24, (ic (A53) (c54) (((2 : Int))))), (g44, 24, (ic (Ax) (cx) (((xx : Nat) : Int)))), (g5, 24, #[(.bool (false)), (.slice (none) (0) (0))]), (g1, 24, (ic (A_a) (c_a) (a)))] ∧ Ext w83 (g77 :: (g73 :: (g56 :: (g44 :: (g5 :: (g1 :: X)))))) w' (go9_10_1 :: (go9_9_1 :: (g77 :: (g73 :: (g56 :: (g44 :: (g5 :: (g1 :: X)))))))) ∧ UC w' (go9_10_1 :: (go9_9_1 :: (g77 :: (g73 :: (g56 :: (g44 :: (g5 :: (g1 :: X)))))))) Ao9_2_4 co9_2_5 (lim ((((xx : Nat) : Int)) + (((a.natAbs / xx : Nat) : Int))).natAbs) ∧ UC w' (go9_10_1 :: (go9_9_1 :: (g77 :: (g73 :: (g56 :: (g44 :: (g5 :: (g1 :: X)))))))) Ao9_4_4 co9_4_5 (lim ((((xx + a.natAbs / xx) / 2 : Nat) : Int)).natAbs) ∧ UC w' (go9_10_1 :: (go9_9_1 :: (g77 :: (g73 :: (g56 :: (g44 :: (g5 :: (g1 :: X)))))))) Ao9_4_7 co9_4_8 (lim ((((xx : Nat) : Int) + ((a.natAbs / xx : Nat) : Int)).fmod 2).natAbs)
       , fun fa w' => ∃ Ao9_2_4 : Option Addr, ∃ co9_2_5 : Nat, ∃ Ao9_4_4 : Option Addr, ∃ co9_4_5 : Nat, ∃ Ao9_4_7 : Option Addr, ∃ co9_4_8 : Nat, ∃ go9_9_1 : Nat, ∃ go9_10_1 : Nat, Frm 54 fa [(42, (.agg (ic (Ao9_2_4) (co9_2_5) (((((xx : Nat) : Int)) + (((a.natAbs / xx : Nat) : Int))))))), (44, (.tuple #[(.agg (ic (Ao9_4_4) (co9_4_5) ((((xx + a.natAbs / xx) / 2 : Nat) : Int)))), (.agg (ic (Ao9_4_7) (co9_4_8) (((((xx : Nat) : Int) + ((a.natAbs / xx : Nat) : Int)).fmod 2)))), (.int .i64 ((0 : Int)))])), (39, (.tuple #[(.agg (ic (Ao9_4_4) (co9_4_5) ((((xx + a.natAbs / xx) / 2 : Nat) : Int)))), (.agg (ic (Ao9_4_7) (co9_4_8) (((((xx : Nat) : Int) + ((a.natAbs / xx : Nat) : Int)).fmod 2)))), (.int .i64 ((0 : Int)))])), (45, (.agg (ic (Ao9_4_4) (co9_4_5) ((((xx + a.natAbs / xx) / 2 : Nat) : Int))))), (10, (.pointer (some ⟨go9_9_1, 0, none⟩))), (11, (.pointer (some ⟨go9_10_1, 0, none⟩)))] ∧ St w w' [(go9_10_1, 24, #[(.bool (false)), (.slice (none) (0) (0))]), (go9_9_1, 24, (ic (Ao9_4_4) (co9_4_5) ((((xx + a.natAbs / xx) / 2 : Nat) : Int)))), (g77, 24, (ic (A70) (c71) ((if (((xx : Nat) : Int)) = 0 then 0 else a.fmod (((xx : Nat) : Int)))))), (g73, 24, (ic (A67) (c68) (((a.natAbs / xx : Nat) : Int)))), (g56, 24, (ic (A53) (c54) (((2 : Int))))), (g44, 24, (ic (Ax) (cx) (((xx : Nat) : Int)))), (g5, 24, #[(.bool (false)), (.slice (none) (0) (0))]), (g1, 24, (ic (A_a) (c_a) (a)))] ∧ Ext w83 (g77 :: (g73 :: (g56 :: (g44 :: (g5 :: (g1 :: X)))))) w' (go9_10_1 :: (go9_9_1 :: (g77 :: (g73 :: (g56 :: (g44 :: (g5 :: (g1 :: X)))))))) ∧ UC w' (go9_10_1 :: (go9_9_1 :: (g77 :: (g73 :: (g56 :: (g44 :: (g5 :: (g1 :: X)))))))) Ao9_2_4 co9_2_5 (lim ((((xx : Nat) : Int)) + (((a.natAbs / xx : Nat) : Int))).natAbs) ∧ UC w' (go9_10_1 :: (go9_9_1 :: (g77 :: (g73 :: (g56 :: (g44 :: (g5 :: (g1 :: X)))))))) Ao9_4_4 co9_4_5 (lim ((((xx + a.natAbs / xx) / 2 : Nat) : Int)).natAbs) ∧ UC w' (go9_10_1 :: (go9_9_1 :: (g77 :: (g73 :: (g56 :: (g44 :: (g5 :: (g1 :: X)))))))) Ao9_4_7 co9_4_8 (lim ((((xx : Nat) : Int) + ((a.natAbs / xx : Nat) : Int)).fmod 2).natAbs)
       , fun fa w' => ∃ Ao9_2_4 : Option Addr, ∃ co9_2_5 : Nat, ∃ Ao9_4_4 : Option Addr, ∃ co9_4_5 : Nat, ∃ Ao9_4_7 : Option Addr, ∃ co9_4_8 : Nat, ∃ go9_9_1 : Nat, ∃ go9_10_1 : Nat, Frm 54 fa [(42, (.agg (ic (Ao9_2_4) (co9_2_5) (((((xx : Nat) : Int)) + (((a.natAbs / xx : Nat) : Int))))))), (44, (.tuple #[(.agg (ic (Ao9_4_4) (co9_4_5) ((((xx + a.natAbs / xx) / 2 : Nat) : Int)))), (.agg (ic (Ao9_4_7) (co9_4_8) (((((xx : Nat) : Int) + ((a.natAbs / xx : Nat) : Int)).fmod 2)))), (.int .i64 ((0 : Int)))])), (39, (.tuple #[(.agg (ic (Ao9_4_4) (co9_4_5) ((((xx + a.natAbs / xx) / 2 : Nat) : Int)))), (.agg (ic (Ao9_4_7) (co9_4_8) (((((xx : Nat) : Int) + ((a.natAbs / xx : Nat) : Int)).fmod 2)))), (.int .i64 ((0 : Int)))])), (45, (.agg (ic (Ao9_4_4) (co9_4_5) ((((xx + a.natAbs / xx) / 2 : Nat) : Int))))), (46, (.agg (ic (Ao9_4_7) (co9_4_8) (((((xx : Nat) : Int) + ((a.natAbs / xx : Nat) : Int)).fmod 2))))), (10, (.pointer (some ⟨go9_9_1, 0, none⟩))), (11, (.pointer (some ⟨go9_10_1, 0, none⟩)))] ∧ St w w' [(go9_10_1, 24, #[(.bool (false)), (.slice (none) (0) (0))]), (go9_9_1, 24, (ic (Ao9_4_4) (co9_4_5) ((((xx + a.natAbs / xx) / 2 : Nat) : Int)))), (g77, 24, (ic (A70) (c71) ((if (((xx : Nat) : Int)) = 0 then 0 else a.fmod (((xx : Nat) : Int)))))), (g73, 24, (ic (A67) (c68) (((a.natAbs / xx : Nat) : Int)))), (g56, 24, (ic (A53) (c54) (((2 : Int))))), (g44, 24, (ic (Ax) (cx) (((xx : Nat) : Int)))), (g5, 24, #[(.bool (false)), (.slice (none) (0) (0))]), (g1, 24, (ic (A_a) (c_a) (a)))] ∧ Ext w83 (g77 :: (g73 :: (g56 :: (g44 :: (g5 :: (g1 :: X)))))) w' (go9_10_1 :: (go9_9_1 :: (g77 :: (g73 :: (g56 :: (g44 :: (g5 :: (g1 :: X)))))))) ∧ UC w' (go9_10_1 :: (go9_9_1 :: (g77 :: (g73 :: (g56 :: (g44 :: (g5 :: (g1 :: X)))))))) Ao9_2_4 co9_2_5 (lim ((((xx : Nat) : Int)) + (((a.natAbs / xx : Nat) : Int))).natAbs) ∧ UC w' (go9_10_1 :: (go9_9_1 :: (g77 :: (g73 :: (g56 :: (g44 :: (g5 :: (g1 :: X)))))))) Ao9_4_4 co9_4_5 (lim ((((xx + a.natAbs / xx) / 2 : Nat) : Int)).natAbs) ∧ UC w' (go9_10_1 :: (go9_9_1 :: (g77 :: (g73 :: (g56 :: (g44 :: (g5 :: (g1 :: X)))))))) Ao9_4_7 co9_4_8 (lim ((((xx : Nat) : Int) + ((a.natAbs / xx : Nat) : Int)).fmod 2).natAbs)
       , fun fa w' => ∃ Ao9_2_4 : Option Addr, ∃ co9_2_5 : Nat, ∃ Ao9_4_4 : Option Addr, ∃ co9_4_5 : Nat, ∃ Ao9_4_7 : Option Addr, ∃ co9_4_8 : Nat, ∃ go9_9_1 : Nat, ∃ go9_10_1 : Nat, Frm 54 fa [(42, (.agg (ic (Ao9_2_4) (co9_2_5) (((((xx : Nat) : Int)) + (((a.natAbs / xx : Nat) : Int))))))), (44, (.tuple #[(.agg (ic (Ao9_4_4) (co9_4_5) ((((xx + a.natAbs / xx) / 2 : Nat) : Int)))), (.agg (ic (Ao9_4_7) (co9_4_8) (((((xx : Nat) : Int) + ((a.natAbs / xx : Nat) : Int)).fmod 2)))), (.int .i64 ((0 : Int)))])), (39, (.tuple #[(.agg (ic (Ao9_4_4) (co9_4_5) ((((xx + a.natAbs / xx) / 2 : Nat) : Int)))), (.agg (ic (Ao9_4_7) (co9_4_8) (((((xx : Nat) : Int) + ((a.natAbs / xx : Nat) : Int)).fmod 2)))), (.int .i64 ((0 : Int)))])), (45, (.agg (ic (Ao9_4_4) (co9_4_5) ((((xx + a.natAbs / xx) / 2 : Nat) : Int))))), (46, (.agg (ic (Ao9_4_7) (co9_4_8) (((((xx : Nat) : Int) + ((a.natAbs / xx : Nat) : Int)).fmod 2))))), (10, (.pointer (some ⟨go9_9_1, 0, none⟩))), (11, (.pointer (some ⟨go9_10_1, 0, none⟩)))] ∧ St w w' [(go9_10_1, 24, (ic (Ao9_4_7) (co9_4_8) (((((xx : Nat) : Int) + ((a.natAbs / xx : Nat) : Int)).fmod 2)))), (go9_9_1, 24, (ic (Ao9_4_4) (co9_4_5) ((((xx + a.natAbs / xx) / 2 : Nat) : Int)))), (g77, 24, (ic (A70) (c71) ((if (((xx : Nat) : Int)) = 0 then 0 else a.fmod (((xx : Nat) : Int)))))), (g73, 24, (ic (A67) (c68) (((a.natAbs / xx : Nat) : Int)))), (g56, 24, (ic (A53) (c54) (((2 : Int))))), (g44, 24, (ic (Ax) (cx) (((xx : Nat) : Int)))), (g5, 24, #[(.bool (false)), (.slice (none) (0) (0))]), (g1, 24, (ic (A_a) (c_a) (a)))] ∧ Ext w83 (g77 :: (g73 :: (g56 :: (g44 :: (g5 :: (g1 :: X)))))) w' (go9_10_1 :: (go9_9_1 :: (g77 :: (g73 :: (g56 :: (g44 :: (g5 :: (g1 :: X)))))))) ∧ UC w' (go9_10_1 :: (go9_9_1 :: (g77 :: (g73 :: (g56 :: (g44 :: (g5 :: (g1 :: X)))))))) Ao9_2_4 co9_2_5 (lim ((((xx : Nat) : Int)) + (((a.natAbs / xx : Nat) : Int))).natAbs) ∧ UC w' (go9_10_1 :: (go9_9_1 :: (g77 :: (g73 :: (g56 :: (g44 :: (g5 :: (g1 :: X)))))))) Ao9_4_4 co9_4_5 (lim ((((xx + a.natAbs / xx) / 2 : Nat) : Int)).natAbs) ∧ UC w' (go9_10_1 :: (go9_9_1 :: (g77 :: (g73 :: (g56 :: (g44 :: (g5 :: (g1 :: X)))))))) Ao9_4_7 co9_4_8 (lim ((((xx : Nat) : Int) + ((a.natAbs / xx : Nat) : Int)).fmod 2).natAbs)
     ] TfV.mixed rfl rfl rfl rfl rfl rfl (hF.take (hF.take (hF.take (hF.take (hF.take (hF.take (hF.take (hF.take (hF.take hF.nil rfl) rfl) rfl) rfl) rfl) rfl) rfl) rfl) rfl) rfl ⟨hF.nil, hS.drew, Ext.drew _ _⟩ ?_ ?_ ?_
 all_goals clear hF fa
 ·
  refine ⟨?_, ?_, ?_, ?_, ?_, ?_, ?_, ?_, ?_, ?_, ?_, ?_, ?_, ?_, ?_, ?_, ?_, ?_, ?_, ?_, ?_, ?_, ?_, ?_, ?_, ?_, ?_, ?_, ?_, ?_, ?_, trivial⟩
  ·
   rintro fa w' i o d v ho hd hna ⟨hA, hR⟩; exact ⟨hA.put_other v (freeOf_at (acts := [2, 4, 5, 6, 7, 9, 10, 11, 12]) rfl ho hd hna), hR⟩
  ·
   rintro fa w' i o d v ho hd hna ⟨Ao9_2_4, co9_2_5, hA, hR⟩; exact ⟨Ao9_2_4, co9_2_5, hA.put_other v (freeOf_at (acts := [2, 4, 5, 6, 7, 9, 10, 11, 12]) rfl ho hd hna), hR⟩
  ·
   rintro fa w' i o d v ho hd hna ⟨go9_9_1, hA, hR⟩; exact ⟨go9_9_1, hA.put_other v (freeOf_at (acts := [2, 4, 5, 6, 7, 9, 10, 11, 12]) rfl ho hd hna), hR⟩
  ·
   rintro fa w' i o d v ho hd hna ⟨go9_10_1, hA, hR⟩; exact ⟨go9_10_1, hA.put_other v (freeOf_at (acts := [2, 4, 5, 6, 7, 9, 10, 11, 12]) rfl ho hd hna), hR⟩
  ·
   rintro fa w' i o d v ho hd hna ⟨Ao9_2_4, co9_2_5, Ao9_4_4, co9_4_5, Ao9_4_7, co9_4_8, hA, hR⟩; exact ⟨Ao9_2_4, co9_2_5, Ao9_4_4, co9_4_5, Ao9_4_7, co9_4_8, hA.put_other v (freeOf_at (acts := [2, 4, 5, 6, 7, 9, 10, 11, 12]) rfl ho hd hna), hR⟩
  ·
   rintro fa w' i o d v ho hd hna ⟨Ao9_2_4, co9_2_5, go9_9_1, hA, hR⟩; exact ⟨Ao9_2_4, co9_2_5, go9_9_1, hA.put_other v (freeOf_at (acts := [2, 4, 5, 6, 7, 9, 10, 11, 12]) rfl ho hd hna), hR⟩
  ·
   rintro fa w' i o d v ho hd hna ⟨Ao9_2_4, co9_2_5, go9_10_1, hA, hR⟩; exact ⟨Ao9_2_4, co9_2_5, go9_10_1, hA.put_other v (freeOf_at (acts := [2, 4, 5, 6, 7, 9, 10, 11, 12]) rfl ho hd hna), hR⟩
  ·
   rintro fa w' i o d v ho hd hna ⟨go9_9_1, go9_10_1, hA, hR⟩; exact ⟨go9_9_1, go9_10_1, hA.put_other v (freeOf_at (acts := [2, 4, 5, 6, 7, 9, 10, 11, 12]) rfl ho hd hna), hR⟩
  ·
   rintro fa w' i o d v ho hd hna ⟨Ao9_2_4, co9_2_5, Ao9_4_4, co9_4_5, Ao9_4_7, co9_4_8, hA, hR⟩; exact ⟨Ao9_2_4, co9_2_5, Ao9_4_4, co9_4_5, Ao9_4_7, co9_4_8, hA.put_other v (freeOf_at (acts := [2, 4, 5, 6, 7, 9, 10, 11, 12]) rfl ho hd hna), hR⟩
  ·
   rintro fa w' i o d v ho hd hna ⟨Ao9_2_4, co9_2_5, Ao9_4_4, co9_4_5, Ao9_4_7, co9_4_8, go9_9_1, hA, hR⟩; exact ⟨Ao9_2_4, co9_2_5, Ao9_4_4, co9_4_5, Ao9_4_7, co9_4_8, go9_9_1, hA.put_other v (freeOf_at (acts := [2, 4, 5, 6, 7, 9, 10, 11, 12]) rfl ho hd hna), hR⟩
  ·
   rintro fa w' i o d v ho hd hna ⟨Ao9_2_4, co9_2_5, Ao9_4_4, co9_4_5, Ao9_4_7, co9_4_8, go9_10_1, hA, hR⟩; exact ⟨Ao9_2_4, co9_2_5, Ao9_4_4, co9_4_5, Ao9_4_7, co9_4_8, go9_10_1, hA.put_other v (freeOf_at (acts := [2, 4, 5, 6, 7, 9, 10, 11, 12]) rfl ho hd hna), hR⟩
  ·
   rintro fa w' i o d v ho hd hna ⟨Ao9_2_4, co9_2_5, go9_9_1, go9_10_1, hA, hR⟩; exact ⟨Ao9_2_4, co9_2_5, go9_9_1, go9_10_1, hA.put_other v (freeOf_at (acts := [2, 4, 5, 6, 7, 9, 10, 11, 12]) rfl ho hd hna), hR⟩
  ·
   rintro fa w' i o d v ho hd hna ⟨Ao9_2_4, co9_2_5, Ao9_4_4, co9_4_5, Ao9_4_7, co9_4_8, hA, hR⟩; exact ⟨Ao9_2_4, co9_2_5, Ao9_4_4, co9_4_5, Ao9_4_7, co9_4_8, hA.put_other v (freeOf_at (acts := [2, 4, 5, 6, 7, 9, 10, 11, 12]) rfl ho hd hna), hR⟩
  ·
   rintro fa w' i o d v ho hd hna ⟨Ao9_2_4, co9_2_5, Ao9_4_4, co9_4_5, Ao9_4_7, co9_4_8, hA, hR⟩; exact ⟨Ao9_2_4, co9_2_5, Ao9_4_4, co9_4_5, Ao9_4_7, co9_4_8, hA.put_other v (freeOf_at (acts := [2, 4, 5, 6, 7, 9, 10, 11, 12]) rfl ho hd hna), hR⟩
  ·
   rintro fa w' i o d v ho hd hna ⟨Ao9_2_4, co9_2_5, Ao9_4_4, co9_4_5, Ao9_4_7, co9_4_8, go9_9_1, hA, hR⟩; exact ⟨Ao9_2_4, co9_2_5, Ao9_4_4, co9_4_5, Ao9_4_7, co9_4_8, go9_9_1, hA.put_other v (freeOf_at (acts := [2, 4, 5, 6, 7, 9, 10, 11, 12]) rfl ho hd hna), hR⟩
  ·
   rintro fa w' i o d v ho hd hna ⟨Ao9_2_4, co9_2_5, Ao9_4_4, co9_4_5, Ao9_4_7, co9_4_8, go9_10_1, hA, hR⟩; exact ⟨Ao9_2_4, co9_2_5, Ao9_4_4, co9_4_5, Ao9_4_7, co9_4_8, go9_10_1, hA.put_other v (freeOf_at (acts := [2, 4, 5, 6, 7, 9, 10, 11, 12]) rfl ho hd hna), hR⟩
  ·
   rintro fa w' i o d v ho hd hna ⟨Ao9_2_4, co9_2_5, Ao9_4_4, co9_4_5, Ao9_4_7, co9_4_8, go9_9_1, go9_10_1, hA, hR⟩; exact ⟨Ao9_2_4, co9_2_5, Ao9_4_4, co9_4_5, Ao9_4_7, co9_4_8, go9_9_1, go9_10_1, hA.put_other v (freeOf_at (acts := [2, 4, 5, 6, 7, 9, 10, 11, 12]) rfl ho hd hna), hR⟩
  ·
   rintro fa w' i o d v ho hd hna ⟨Ao9_2_4, co9_2_5, Ao9_4_4, co9_4_5, Ao9_4_7, co9_4_8, hA, hR⟩; exact ⟨Ao9_2_4, co9_2_5, Ao9_4_4, co9_4_5, Ao9_4_7, co9_4_8, hA.put_other v (freeOf_at (acts := [2, 4, 5, 6, 7, 9, 10, 11, 12]) rfl ho hd hna), hR⟩
  ·
   rintro fa w' i o d v ho hd hna ⟨Ao9_2_4, co9_2_5, Ao9_4_4, co9_4_5, Ao9_4_7, co9_4_8, go9_9_1, hA, hR⟩; exact ⟨Ao9_2_4, co9_2_5, Ao9_4_4, co9_4_5, Ao9_4_7, co9_4_8, go9_9_1, hA.put_other v (freeOf_at (acts := [2, 4, 5, 6, 7, 9, 10, 11, 12]) rfl ho hd hna), hR⟩
  ·
   rintro fa w' i o d v ho hd hna ⟨Ao9_2_4, co9_2_5, Ao9_4_4, co9_4_5, Ao9_4_7, co9_4_8, go9_10_1, hA, hR⟩; exact ⟨Ao9_2_4, co9_2_5, Ao9_4_4, co9_4_5, Ao9_4_7, co9_4_8, go9_10_1, hA.put_other v (freeOf_at (acts := [2, 4, 5, 6, 7, 9, 10, 11, 12]) rfl ho hd hna), hR⟩
  ·
   rintro fa w' i o d v ho hd hna ⟨Ao9_2_4, co9_2_5, Ao9_4_4, co9_4_5, Ao9_4_7, co9_4_8, go9_9_1, hA, hR⟩; exact ⟨Ao9_2_4, co9_2_5, Ao9_4_4, co9_4_5, Ao9_4_7, co9_4_8, go9_9_1, hA.put_other v (freeOf_at (acts := [2, 4, 5, 6, 7, 9, 10, 11, 12]) rfl ho hd hna), hR⟩
  ·
   rintro fa w' i o d v ho hd hna ⟨Ao9_2_4, co9_2_5, Ao9_4_4, co9_4_5, Ao9_4_7, co9_4_8, go9_10_1, hA, hR⟩; exact ⟨Ao9_2_4, co9_2_5, Ao9_4_4, co9_4_5, Ao9_4_7, co9_4_8, go9_10_1, hA.put_other v (freeOf_at (acts := [2, 4, 5, 6, 7, 9, 10, 11, 12]) rfl ho hd hna), hR⟩
  ·
   rintro fa w' i o d v ho hd hna ⟨Ao9_2_4, co9_2_5, Ao9_4_4, co9_4_5, Ao9_4_7, co9_4_8, go9_9_1, go9_10_1, hA, hR⟩; exact ⟨Ao9_2_4, co9_2_5, Ao9_4_4, co9_4_5, Ao9_4_7, co9_4_8, go9_9_1, go9_10_1, hA.put_other v (freeOf_at (acts := [2, 4, 5, 6, 7, 9, 10, 11, 12]) rfl ho hd hna), hR⟩
  ·
   rintro fa w' i o d v ho hd hna ⟨Ao9_2_4, co9_2_5, Ao9_4_4, co9_4_5, Ao9_4_7, co9_4_8, go9_9_1, hA, hR⟩; exact ⟨Ao9_2_4, co9_2_5, Ao9_4_4, co9_4_5, Ao9_4_7, co9_4_8, go9_9_1, hA.put_other v (freeOf_at (acts := [2, 4, 5, 6, 7, 9, 10, 11, 12]) rfl ho hd hna), hR⟩
  ·
   rintro fa w' i o d v ho hd hna ⟨Ao9_2_4, co9_2_5, Ao9_4_4, co9_4_5, Ao9_4_7, co9_4_8, go9_10_1, hA, hR⟩; exact ⟨Ao9_2_4, co9_2_5, Ao9_4_4, co9_4_5, Ao9_4_7, co9_4_8, go9_10_1, hA.put_other v (freeOf_at (acts := [2, 4, 5, 6, 7, 9, 10, 11, 12]) rfl ho hd hna), hR⟩
  ·
   rintro fa w' i o d v ho hd hna ⟨Ao9_2_4, co9_2_5, Ao9_4_4, co9_4_5, Ao9_4_7, co9_4_8, go9_9_1, go9_10_1, hA, hR⟩; exact ⟨Ao9_2_4, co9_2_5, Ao9_4_4, co9_4_5, Ao9_4_7, co9_4_8, go9_9_1, go9_10_1, hA.put_other v (freeOf_at (acts := [2, 4, 5, 6, 7, 9, 10, 11, 12]) rfl ho hd hna), hR⟩
  ·
   rintro fa w' i o d v ho hd hna ⟨Ao9_2_4, co9_2_5, Ao9_4_4, co9_4_5, Ao9_4_7, co9_4_8, go9_9_1, go9_10_1, hA, hR⟩; exact ⟨Ao9_2_4, co9_2_5, Ao9_4_4, co9_4_5, Ao9_4_7, co9_4_8, go9_9_1, go9_10_1, hA.put_other v (freeOf_at (acts := [2, 4, 5, 6, 7, 9, 10, 11, 12]) rfl ho hd hna), hR⟩
  ·
   rintro fa w' i o d v ho hd hna ⟨Ao9_2_4, co9_2_5, Ao9_4_4, co9_4_5, Ao9_4_7, co9_4_8, go9_9_1, go9_10_1, hA, hR⟩; exact ⟨Ao9_2_4, co9_2_5, Ao9_4_4, co9_4_5, Ao9_4_7, co9_4_8, go9_9_1, go9_10_1, hA.put_other v (freeOf_at (acts := [2, 4, 5, 6, 7, 9, 10, 11, 12]) rfl ho hd hna), hR⟩
  ·
   rintro fa w' i o d v ho hd hna ⟨Ao9_2_4, co9_2_5, Ao9_4_4, co9_4_5, Ao9_4_7, co9_4_8, go9_9_1, go9_10_1, hA, hR⟩; exact ⟨Ao9_2_4, co9_2_5, Ao9_4_4, co9_4_5, Ao9_4_7, co9_4_8, go9_9_1, go9_10_1, hA.put_other v (freeOf_at (acts := [2, 4, 5, 6, 7, 9, 10, 11, 12]) rfl ho hd hna), hR⟩
  ·
   rintro fa w' i o d v ho hd hna ⟨Ao9_2_4, co9_2_5, Ao9_4_4, co9_4_5, Ao9_4_7, co9_4_8, go9_9_1, go9_10_1, hA, hR⟩; exact ⟨Ao9_2_4, co9_2_5, Ao9_4_4, co9_4_5, Ao9_4_7, co9_4_8, go9_9_1, go9_10_1, hA.put_other v (freeOf_at (acts := [2, 4, 5, 6, 7, 9, 10, 11, 12]) rfl ho hd hna), hR⟩
  ·
   rintro fa w' i o d v ho hd hna ⟨Ao9_2_4, co9_2_5, Ao9_4_4, co9_4_5, Ao9_4_7, co9_4_8, go9_9_1, go9_10_1, hA, hR⟩; exact ⟨Ao9_2_4, co9_2_5, Ao9_4_4, co9_4_5, Ao9_4_7, co9_4_8, go9_9_1, go9_10_1, hA.put_other v (freeOf_at (acts := [2, 4, 5, 6, 7, 9, 10, 11, 12]) rfl ho hd hna), hR⟩
 ·
  refine ⟨?_, ?_, ?_, ?_, ?_, ?_, ?_, ?_, ?_, ?_, ?_, ?_, ?_, ?_, trivial⟩
  ·
   refine .inr (.inl ⟨rfl, _, _, rfl, rfl, ?_, ?_, ?_, ?_, trivial⟩)
   ·
    intro fa w' hΦ hF hB K hK
    obtain ⟨hA, hS, E_w'⟩ := hΦ
    exact fl_val rfl rfl rfl (ex_loadb TfV.row24 (hF.ev rfl) (hS.get 3 rfl) rfl) hK
   ·
    intro fa w' hΦ hF hB K hK
    obtain ⟨go9_9_1, hA, hS, E_w'⟩ := hΦ
    exact fl_val rfl rfl rfl (ex_loadb TfV.row24 (hF.ev rfl) (hS.get 4 rfl) rfl) hK
   ·
    intro fa w' hΦ hF hB K hK
    obtain ⟨go9_10_1, hA, hS, E_w'⟩ := hΦ
    exact fl_val rfl rfl rfl (ex_loadb TfV.row24 (hF.ev rfl) (hS.get 4 rfl) rfl) hK
   ·
    intro fa w' hΦ hF hB K hK
    obtain ⟨go9_9_1, go9_10_1, hA, hS, E_w'⟩ := hΦ
    exact fl_val rfl rfl rfl (ex_loadb TfV.row24 (hF.ev rfl) (hS.get 5 rfl) rfl) hK
  ·
   refine .inr (.inl ⟨rfl, _, _, rfl, rfl, ?_, ?_, ?_, ?_, trivial⟩)
   ·
    intro fa w' hΦ hF hB K hK
    obtain ⟨hA, hS, E_w'⟩ := hΦ
    exact fl_val rfl rfl rfl (ex_loadb TfV.row24 (hF.ev rfl) (hS.get 1 rfl) rfl) hK
   ·
    intro fa w' hΦ hF hB K hK
    obtain ⟨go9_9_1, hA, hS, E_w'⟩ := hΦ
    exact fl_val rfl rfl rfl (ex_loadb TfV.row24 (hF.ev rfl) (hS.get 2 rfl) rfl) hK
   ·
    intro fa w' hΦ hF hB K hK
    obtain ⟨go9_10_1, hA, hS, E_w'⟩ := hΦ
    exact fl_val rfl rfl rfl (ex_loadb TfV.row24 (hF.ev rfl) (hS.get 2 rfl) rfl) hK
   ·
    intro fa w' hΦ hF hB K hK
    obtain ⟨go9_9_1, go9_10_1, hA, hS, E_w'⟩ := hΦ
    exact fl_val rfl rfl rfl (ex_loadb TfV.row24 (hF.ev rfl) (hS.get 3 rfl) rfl) hK
  ·
   refine .inr (.inr ⟨rfl, ?_, ?_, ?_, ?_, trivial⟩)
   ·
    intro fa w' hΦ hF hB
    obtain ⟨hA, hS, E_w'⟩ := hΦ
    replace hF := hF.cons (hB.val 0 _ 40 _ rfl rfl rfl rfl)
    replace hF := hF.cons (hB.val 1 _ 41 _ rfl rfl rfl rfl)
    refine wop rfl rfl ?_
    have hC := integer_Add_ok (w := w') (X := (g77 :: (g73 :: (g56 :: (g44 :: (g5 :: (g1 :: X))))))) (a := ((xx : Nat) : Int)) (b := ((a.natAbs / xx : Nat) : Int)) (hS.bnd hX) (IntV.of_ (n := (lim ((xx : Nat) : Int).natAbs).length) (b := decide (((xx : Nat) : Int) < 0)) (x := ((xx : Nat) : Int)) ((hx.ext (((((E66.trans E75).trans E79).trans E82).trans E84).trans E_w'))) (rfl) (rfl) (rfl)) (IntV.of_ (n := (lim (((a.natAbs / xx : Nat) : Int)).natAbs).length) (b := decide (((a.natAbs / xx : Nat) : Int) < 0)) (x := ((a.natAbs / xx : Nat) : Int)) ((hu69.ext ((((E75.trans E79).trans E82).trans E84).trans E_w'))) (rfl) (rfl) (rfl)) (by omega) (by omega)
    refine op_call hF rfl TfV.body28 (args2 (hF.ev rfl) (hF.ev rfl)) hC ?_
    clear hC
    rintro _ wo9_2_1 ⟨⟨_, rfl, Ao9_2_4, co9_2_5, rfl, huo9_2_6⟩, hbo9_2_2⟩
    clear hF; intro hF
    replace hS := hS.call hbo9_2_2; have Eo9_2_3 := Ext.call (g77 :: (g73 :: (g56 :: (g44 :: (g5 :: (g1 :: X)))))) hbo9_2_2
    have hA1 := ((hA.put_other _ rfl).cons (hF.get 42 _ rfl))
    exact ⟨1, rfl, ⟨Ao9_2_4, co9_2_5, (hA1.take hA1.nil rfl), hS, (E_w'.trans Eo9_2_3), huo9_2_6⟩, _, rfl, fun u hu => by cases hu <;> rfl⟩
   ·
    intro fa w' hΦ hF hB
    obtain ⟨go9_9_1, hA, hS, E_w'⟩ := hΦ
    replace hF := hF.cons (hB.val 0 _ 40 _ rfl rfl rfl rfl)
    replace hF := hF.cons (hB.val 1 _ 41 _ rfl rfl rfl rfl)
    refine wop rfl rfl ?_
    have hC := integer_Add_ok (w := w') (X := (go9_9_1 :: (g77 :: (g73 :: (g56 :: (g44 :: (g5 :: (g1 :: X)))))))) (a := ((xx : Nat) : Int)) (b := ((a.natAbs / xx : Nat) : Int)) (hS.bnd hX) (IntV.of_ (n := (lim ((xx : Nat) : Int).natAbs).length) (b := decide (((xx : Nat) : Int) < 0)) (x := ((xx : Nat) : Int)) ((hx.ext (((((E66.trans E75).trans E79).trans E82).trans E84).trans E_w'))) (rfl) (rfl) (rfl)) (IntV.of_ (n := (lim (((a.natAbs / xx : Nat) : Int)).natAbs).length) (b := decide (((a.natAbs / xx : Nat) : Int) < 0)) (x := ((a.natAbs / xx : Nat) : Int)) ((hu69.ext ((((E75.trans E79).trans E82).trans E84).trans E_w'))) (rfl) (rfl) (rfl)) (by omega) (by omega)
    refine op_call hF rfl TfV.body28 (args2 (hF.ev rfl) (hF.ev rfl)) hC ?_
    clear hC
    rintro _ wo9_2_1 ⟨⟨_, rfl, Ao9_2_4, co9_2_5, rfl, huo9_2_6⟩, hbo9_2_2⟩
    clear hF; intro hF
    replace hS := hS.call hbo9_2_2; have Eo9_2_3 := Ext.call (go9_9_1 :: (g77 :: (g73 :: (g56 :: (g44 :: (g5 :: (g1 :: X))))))) hbo9_2_2
    have hA1 := ((hA.put_other _ rfl).cons (hF.get 42 _ rfl))
    exact ⟨5, rfl, ⟨Ao9_2_4, co9_2_5, go9_9_1, (hA1.take (hA1.take hA1.nil rfl) rfl), hS, (E_w'.trans Eo9_2_3), huo9_2_6⟩, _, rfl, fun u hu => by cases hu <;> rfl⟩
   ·
    intro fa w' hΦ hF hB
    obtain ⟨go9_10_1, hA, hS, E_w'⟩ := hΦ
    replace hF := hF.cons (hB.val 0 _ 40 _ rfl rfl rfl rfl)
    replace hF := hF.cons (hB.val 1 _ 41 _ rfl rfl rfl rfl)
    refine wop rfl rfl ?_
    have hC := integer_Add_ok (w := w') (X := (go9_10_1 :: (g77 :: (g73 :: (g56 :: (g44 :: (g5 :: (g1 :: X)))))))) (a := ((xx : Nat) : Int)) (b := ((a.natAbs / xx : Nat) : Int)) (hS.bnd hX) (IntV.of_ (n := (lim ((xx : Nat) : Int).natAbs).length) (b := decide (((xx : Nat) : Int) < 0)) (x := ((xx : Nat) : Int)) ((hx.ext (((((E66.trans E75).trans E79).trans E82).trans E84).trans E_w'))) (rfl) (rfl) (rfl)) (IntV.of_ (n := (lim (((a.natAbs / xx : Nat) : Int)).natAbs).length) (b := decide (((a.natAbs / xx : Nat) : Int) < 0)) (x := ((a.natAbs / xx : Nat) : Int)) ((hu69.ext ((((E75.trans E79).trans E82).trans E84).trans E_w'))) (rfl) (rfl) (rfl)) (by omega) (by omega)
    refine op_call hF rfl TfV.body28 (args2 (hF.ev rfl) (hF.ev rfl)) hC ?_
    clear hC
    rintro _ wo9_2_1 ⟨⟨_, rfl, Ao9_2_4, co9_2_5, rfl, huo9_2_6⟩, hbo9_2_2⟩
    clear hF; intro hF
    replace hS := hS.call hbo9_2_2; have Eo9_2_3 := Ext.call (go9_10_1 :: (g77 :: (g73 :: (g56 :: (g44 :: (g5 :: (g1 :: X))))))) hbo9_2_2
    have hA1 := ((hA.put_other _ rfl).cons (hF.get 42 _ rfl))
    exact ⟨6, rfl, ⟨Ao9_2_4, co9_2_5, go9_10_1, (hA1.take (hA1.take hA1.nil rfl) rfl), hS, (E_w'.trans Eo9_2_3), huo9_2_6⟩, _, rfl, fun u hu => by cases hu <;> rfl⟩
   ·
    intro fa w' hΦ hF hB
    obtain ⟨go9_9_1, go9_10_1, hA, hS, E_w'⟩ := hΦ
    replace hF := hF.cons (hB.val 0 _ 40 _ rfl rfl rfl rfl)
    replace hF := hF.cons (hB.val 1 _ 41 _ rfl rfl rfl rfl)
    refine wop rfl rfl ?_
    have hC := integer_Add_ok (w := w') (X := (go9_10_1 :: (go9_9_1 :: (g77 :: (g73 :: (g56 :: (g44 :: (g5 :: (g1 :: X))))))))) (a := ((xx : Nat) : Int)) (b := ((a.natAbs / xx : Nat) : Int)) (hS.bnd hX) (IntV.of_ (n := (lim ((xx : Nat) : Int).natAbs).length) (b := decide (((xx : Nat) : Int) < 0)) (x := ((xx : Nat) : Int)) ((hx.ext (((((E66.trans E75).trans E79).trans E82).trans E84).trans E_w'))) (rfl) (rfl) (rfl)) (IntV.of_ (n := (lim (((a.natAbs / xx : Nat) : Int)).natAbs).length) (b := decide (((a.natAbs / xx : Nat) : Int) < 0)) (x := ((a.natAbs / xx : Nat) : Int)) ((hu69.ext ((((E75.trans E79).trans E82).trans E84).trans E_w'))) (rfl) (rfl) (rfl)) (by omega) (by omega)
    refine op_call hF rfl TfV.body28 (args2 (hF.ev rfl) (hF.ev rfl)) hC ?_
    clear hC
    rintro _ wo9_2_1 ⟨⟨_, rfl, Ao9_2_4, co9_2_5, rfl, huo9_2_6⟩, hbo9_2_2⟩
    clear hF; intro hF
    replace hS := hS.call hbo9_2_2; have Eo9_2_3 := Ext.call (go9_10_1 :: (go9_9_1 :: (g77 :: (g73 :: (g56 :: (g44 :: (g5 :: (g1 :: X)))))))) hbo9_2_2
    have hA1 := ((hA.put_other _ rfl).cons (hF.get 42 _ rfl))
    exact ⟨11, rfl, ⟨Ao9_2_4, co9_2_5, go9_9_1, go9_10_1, (hA1.take (hA1.take (hA1.take hA1.nil rfl) rfl) rfl), hS, (E_w'.trans Eo9_2_3), huo9_2_6⟩, _, rfl, fun u hu => by cases hu <;> rfl⟩
  ·
   refine .inr (.inl ⟨rfl, _, _, rfl, rfl, ?_, ?_, ?_, ?_, ?_, ?_, ?_, ?_, trivial⟩)
   ·
    intro fa w' hΦ hF hB K hK
    obtain ⟨hA, hS, E_w'⟩ := hΦ
    exact fl_val rfl rfl rfl (ex_loadb TfV.row24 (hF.ev rfl) (hS.get 2 rfl) rfl) hK
   ·
    intro fa w' hΦ hF hB K hK
    obtain ⟨Ao9_2_4, co9_2_5, hA, hS, E_w', huo9_2_6⟩ := hΦ
    exact fl_val rfl rfl rfl (ex_loadb TfV.row24 (hF.ev rfl) (hS.get 2 rfl) rfl) hK
   ·
    intro fa w' hΦ hF hB K hK
    obtain ⟨go9_9_1, hA, hS, E_w'⟩ := hΦ
    exact fl_val rfl rfl rfl (ex_loadb TfV.row24 (hF.ev rfl) (hS.get 3 rfl) rfl) hK
   ·
    intro fa w' hΦ hF hB K hK
    obtain ⟨go9_10_1, hA, hS, E_w'⟩ := hΦ
    exact fl_val rfl rfl rfl (ex_loadb TfV.row24 (hF.ev rfl) (hS.get 3 rfl) rfl) hK
   ·
    intro fa w' hΦ hF hB K hK
    obtain ⟨Ao9_2_4, co9_2_5, go9_9_1, hA, hS, E_w', huo9_2_6⟩ := hΦ
    exact fl_val rfl rfl rfl (ex_loadb TfV.row24 (hF.ev rfl) (hS.get 3 rfl) rfl) hK
   ·
    intro fa w' hΦ hF hB K hK
    obtain ⟨Ao9_2_4, co9_2_5, go9_10_1, hA, hS, E_w', huo9_2_6⟩ := hΦ
    exact fl_val rfl rfl rfl (ex_loadb TfV.row24 (hF.ev rfl) (hS.get 3 rfl) rfl) hK
   ·
    intro fa w' hΦ hF hB K hK
    obtain ⟨go9_9_1, go9_10_1, hA, hS, E_w'⟩ := hΦ
    exact fl_val rfl rfl rfl (ex_loadb TfV.row24 (hF.ev rfl) (hS.get 4 rfl) rfl) hK
   ·
    intro fa w' hΦ hF hB K hK
    obtain ⟨Ao9_2_4, co9_2_5, go9_9_1, go9_10_1, hA, hS, E_w', huo9_2_6⟩ := hΦ
    exact fl_val rfl rfl rfl (ex_loadb TfV.row24 (hF.ev rfl) (hS.get 4 rfl) rfl) hK
  ·
   refine .inr (.inr ⟨rfl, ?_, ?_, ?_, ?_, trivial⟩)
   ·
    intro fa w' hΦ hF hB
    obtain ⟨Ao9_2_4, co9_2_5, hA, hS, E_w', huo9_2_6⟩ := hΦ
    replace hF := hF.cons (hA.get 42 _ rfl)
    replace hF := hF.cons (hB.val 3 _ 43 _ rfl rfl rfl rfl)
    refine wop rfl rfl ?_
    have hC := integer_DivMod_ok (w := w') (X := (g77 :: (g73 :: (g56 :: (g44 :: (g5 :: (g1 :: X))))))) (a := ((((xx : Nat) : Int)) + (((a.natAbs / xx : Nat) : Int)))) (b := ((2 : Int))) (hS.bnd hX) (IntV.of_ (n := (lim ((((xx : Nat) : Int)) + (((a.natAbs / xx : Nat) : Int))).natAbs).length) (b := decide (((((xx : Nat) : Int)) + (((a.natAbs / xx : Nat) : Int))) < 0)) (x := (((xx : Nat) : Int)) + (((a.natAbs / xx : Nat) : Int))) (huo9_2_6) (rfl) (rfl) (rfl)) (IntV.of_ (n := (lim (((2 : Int))).natAbs).length) (b := decide (((2 : Int)) < 0)) (x := ((2 : Int))) ((hu55.ext ((((((((E58.trans E61).trans E63).trans E66).trans E75).trans E79).trans E82).trans E84).trans E_w'))) (rfl) (rfl) (rfl)) (hsy) (Nat.le_trans (sz_64 (by omega) (by omega)) (by omega))
    rw [show (((((xx : Nat) : Int)) + (((a.natAbs / xx : Nat) : Int))).fdiv (((2 : Int)))) = (((xx + a.natAbs / xx) / 2 : Nat) : Int) from fdiv_two _ _] at hC
    rw [show ((if (((2 : Int))) = 0 then 0 else ((((xx : Nat) : Int)) + (((a.natAbs / xx : Nat) : Int))).fmod (((2 : Int))))) = (((xx : Nat) : Int) + ((a.natAbs / xx : Nat) : Int)).fmod 2 from if_neg (by decide)] at hC
    rw [show ((if (((2 : Int))) = 0 then 6 else 0)) = (0 : Int) from rfl] at hC
    refine op_call hF rfl TfV.body13 (args2 (hF.ev rfl) (hF.ev rfl)) hC ?_
    clear hC
    rintro _ wo9_4_1 ⟨⟨_, _, _, rfl, ⟨_, rfl, Ao9_4_4, co9_4_5, rfl, huo9_4_6⟩, ⟨_, rfl, Ao9_4_7, co9_4_8, rfl, huo9_4_9⟩, rfl⟩, hbo9_4_2⟩
    clear hF; intro hF
    replace hS := hS.call hbo9_4_2; have Eo9_4_3 := Ext.call (g77 :: (g73 :: (g56 :: (g44 :: (g5 :: (g1 :: X)))))) hbo9_4_2
    have hA1 := ((hA.put_other _ rfl).cons (hF.get 44 _ rfl))
    exact ⟨4, rfl, ⟨Ao9_2_4, co9_2_5, Ao9_4_4, co9_4_5, Ao9_4_7, co9_4_8, (hA1.take (hA1.take hA1.nil rfl) rfl), hS, (E_w'.trans Eo9_4_3), (huo9_2_6.ext Eo9_4_3), huo9_4_6, huo9_4_9⟩, _, rfl, fun u hu => by cases hu <;> rfl⟩
   ·
    intro fa w' hΦ hF hB
    obtain ⟨Ao9_2_4, co9_2_5, go9_9_1, hA, hS, E_w', huo9_2_6⟩ := hΦ
    replace hF := hF.cons (hA.get 42 _ rfl)
    replace hF := hF.cons (hB.val 3 _ 43 _ rfl rfl rfl rfl)
    refine wop rfl rfl ?_
    have hC := integer_DivMod_ok (w := w') (X := (go9_9_1 :: (g77 :: (g73 :: (g56 :: (g44 :: (g5 :: (g1 :: X)))))))) (a := ((((xx : Nat) : Int)) + (((a.natAbs / xx : Nat) : Int)))) (b := ((2 : Int))) (hS.bnd hX) (IntV.of_ (n := (lim ((((xx : Nat) : Int)) + (((a.natAbs / xx : Nat) : Int))).natAbs).length) (b := decide (((((xx : Nat) : Int)) + (((a.natAbs / xx : Nat) : Int))) < 0)) (x := (((xx : Nat) : Int)) + (((a.natAbs / xx : Nat) : Int))) (huo9_2_6) (rfl) (rfl) (rfl)) (IntV.of_ (n := (lim (((2 : Int))).natAbs).length) (b := decide (((2 : Int)) < 0)) (x := ((2 : Int))) ((hu55.ext ((((((((E58.trans E61).trans E63).trans E66).trans E75).trans E79).trans E82).trans E84).trans E_w'))) (rfl) (rfl) (rfl)) (hsy) (Nat.le_trans (sz_64 (by omega) (by omega)) (by omega))
    rw [show (((((xx : Nat) : Int)) + (((a.natAbs / xx : Nat) : Int))).fdiv (((2 : Int)))) = (((xx + a.natAbs / xx) / 2 : Nat) : Int) from fdiv_two _ _] at hC
    rw [show ((if (((2 : Int))) = 0 then 0 else ((((xx : Nat) : Int)) + (((a.natAbs / xx : Nat) : Int))).fmod (((2 : Int))))) = (((xx : Nat) : Int) + ((a.natAbs / xx : Nat) : Int)).fmod 2 from if_neg (by decide)] at hC
    rw [show ((if (((2 : Int))) = 0 then 6 else 0)) = (0 : Int) from rfl] at hC
    refine op_call hF rfl TfV.body13 (args2 (hF.ev rfl) (hF.ev rfl)) hC ?_
    clear hC
    rintro _ wo9_4_1 ⟨⟨_, _, _, rfl, ⟨_, rfl, Ao9_4_4, co9_4_5, rfl, huo9_4_6⟩, ⟨_, rfl, Ao9_4_7, co9_4_8, rfl, huo9_4_9⟩, rfl⟩, hbo9_4_2⟩
    clear hF; intro hF
    replace hS := hS.call hbo9_4_2; have Eo9_4_3 := Ext.call (go9_9_1 :: (g77 :: (g73 :: (g56 :: (g44 :: (g5 :: (g1 :: X))))))) hbo9_4_2
    have hA1 := ((hA.put_other _ rfl).cons (hF.get 44 _ rfl))
    exact ⟨9, rfl, ⟨Ao9_2_4, co9_2_5, Ao9_4_4, co9_4_5, Ao9_4_7, co9_4_8, go9_9_1, (hA1.take (hA1.take (hA1.take hA1.nil rfl) rfl) rfl), hS, (E_w'.trans Eo9_4_3), (huo9_2_6.ext Eo9_4_3), huo9_4_6, huo9_4_9⟩, _, rfl, fun u hu => by cases hu <;> rfl⟩
   ·
    intro fa w' hΦ hF hB
    obtain ⟨Ao9_2_4, co9_2_5, go9_10_1, hA, hS, E_w', huo9_2_6⟩ := hΦ
    replace hF := hF.cons (hA.get 42 _ rfl)
    replace hF := hF.cons (hB.val 3 _ 43 _ rfl rfl rfl rfl)
    refine wop rfl rfl ?_
    have hC := integer_DivMod_ok (w := w') (X := (go9_10_1 :: (g77 :: (g73 :: (g56 :: (g44 :: (g5 :: (g1 :: X)))))))) (a := ((((xx : Nat) : Int)) + (((a.natAbs / xx : Nat) : Int)))) (b := ((2 : Int))) (hS.bnd hX) (IntV.of_ (n := (lim ((((xx : Nat) : Int)) + (((a.natAbs / xx : Nat) : Int))).natAbs).length) (b := decide (((((xx : Nat) : Int)) + (((a.natAbs / xx : Nat) : Int))) < 0)) (x := (((xx : Nat) : Int)) + (((a.natAbs / xx : Nat) : Int))) (huo9_2_6) (rfl) (rfl) (rfl)) (IntV.of_ (n := (lim (((2 : Int))).natAbs).length) (b := decide (((2 : Int)) < 0)) (x := ((2 : Int))) ((hu55.ext ((((((((E58.trans E61).trans E63).trans E66).trans E75).trans E79).trans E82).trans E84).trans E_w'))) (rfl) (rfl) (rfl)) (hsy) (Nat.le_trans (sz_64 (by omega) (by omega)) (by omega))
    rw [show (((((xx : Nat) : Int)) + (((a.natAbs / xx : Nat) : Int))).fdiv (((2 : Int)))) = (((xx + a.natAbs / xx) / 2 : Nat) : Int) from fdiv_two _ _] at hC
    rw [show ((if (((2 : Int))) = 0 then 0 else ((((xx : Nat) : Int)) + (((a.natAbs / xx : Nat) : Int))).fmod (((2 : Int))))) = (((xx : Nat) : Int) + ((a.natAbs / xx : Nat) : Int)).fmod 2 from if_neg (by decide)] at hC
    rw [show ((if (((2 : Int))) = 0 then 6 else 0)) = (0 : Int) from rfl] at hC
    refine op_call hF rfl TfV.body13 (args2 (hF.ev rfl) (hF.ev rfl)) hC ?_
    clear hC
    rintro _ wo9_4_1 ⟨⟨_, _, _, rfl, ⟨_, rfl, Ao9_4_4, co9_4_5, rfl, huo9_4_6⟩, ⟨_, rfl, Ao9_4_7, co9_4_8, rfl, huo9_4_9⟩, rfl⟩, hbo9_4_2⟩
    clear hF; intro hF
    replace hS := hS.call hbo9_4_2; have Eo9_4_3 := Ext.call (go9_10_1 :: (g77 :: (g73 :: (g56 :: (g44 :: (g5 :: (g1 :: X))))))) hbo9_4_2
    have hA1 := ((hA.put_other _ rfl).cons (hF.get 44 _ rfl))
    exact ⟨10, rfl, ⟨Ao9_2_4, co9_2_5, Ao9_4_4, co9_4_5, Ao9_4_7, co9_4_8, go9_10_1, (hA1.take (hA1.take (hA1.take hA1.nil rfl) rfl) rfl), hS, (E_w'.trans Eo9_4_3), (huo9_2_6.ext Eo9_4_3), huo9_4_6, huo9_4_9⟩, _, rfl, fun u hu => by cases hu <;> rfl⟩
   ·
    intro fa w' hΦ hF hB
    obtain ⟨Ao9_2_4, co9_2_5, go9_9_1, go9_10_1, hA, hS, E_w', huo9_2_6⟩ := hΦ
    replace hF := hF.cons (hA.get 42 _ rfl)
    replace hF := hF.cons (hB.val 3 _ 43 _ rfl rfl rfl rfl)
    refine wop rfl rfl ?_
    have hC := integer_DivMod_ok (w := w') (X := (go9_10_1 :: (go9_9_1 :: (g77 :: (g73 :: (g56 :: (g44 :: (g5 :: (g1 :: X))))))))) (a := ((((xx : Nat) : Int)) + (((a.natAbs / xx : Nat) : Int)))) (b := ((2 : Int))) (hS.bnd hX) (IntV.of_ (n := (lim ((((xx : Nat) : Int)) + (((a.natAbs / xx : Nat) : Int))).natAbs).length) (b := decide (((((xx : Nat) : Int)) + (((a.natAbs / xx : Nat) : Int))) < 0)) (x := (((xx : Nat) : Int)) + (((a.natAbs / xx : Nat) : Int))) (huo9_2_6) (rfl) (rfl) (rfl)) (IntV.of_ (n := (lim (((2 : Int))).natAbs).length) (b := decide (((2 : Int)) < 0)) (x := ((2 : Int))) ((hu55.ext ((((((((E58.trans E61).trans E63).trans E66).trans E75).trans E79).trans E82).trans E84).trans E_w'))) (rfl) (rfl) (rfl)) (hsy) (Nat.le_trans (sz_64 (by omega) (by omega)) (by omega))
    rw [show (((((xx : Nat) : Int)) + (((a.natAbs / xx : Nat) : Int))).fdiv (((2 : Int)))) = (((xx + a.natAbs / xx) / 2 : Nat) : Int) from fdiv_two _ _] at hC
    rw [show ((if (((2 : Int))) = 0 then 0 else ((((xx : Nat) : Int)) + (((a.natAbs / xx : Nat) : Int))).fmod (((2 : Int))))) = (((xx : Nat) : Int) + ((a.natAbs / xx : Nat) : Int)).fmod 2 from if_neg (by decide)] at hC
    rw [show ((if (((2 : Int))) = 0 then 6 else 0)) = (0 : Int) from rfl] at hC
    refine op_call hF rfl TfV.body13 (args2 (hF.ev rfl) (hF.ev rfl)) hC ?_
    clear hC
    rintro _ wo9_4_1 ⟨⟨_, _, _, rfl, ⟨_, rfl, Ao9_4_4, co9_4_5, rfl, huo9_4_6⟩, ⟨_, rfl, Ao9_4_7, co9_4_8, rfl, huo9_4_9⟩, rfl⟩, hbo9_4_2⟩
    clear hF; intro hF
    replace hS := hS.call hbo9_4_2; have Eo9_4_3 := Ext.call (go9_10_1 :: (go9_9_1 :: (g77 :: (g73 :: (g56 :: (g44 :: (g5 :: (g1 :: X)))))))) hbo9_4_2
    have hA1 := ((hA.put_other _ rfl).cons (hF.get 44 _ rfl))
    exact ⟨16, rfl, ⟨Ao9_2_4, co9_2_5, Ao9_4_4, co9_4_5, Ao9_4_7, co9_4_8, go9_9_1, go9_10_1, (hA1.take (hA1.take (hA1.take (hA1.take hA1.nil rfl) rfl) rfl) rfl), hS, (E_w'.trans Eo9_4_3), (huo9_2_6.ext Eo9_4_3), huo9_4_6, huo9_4_9⟩, _, rfl, fun u hu => by cases hu <;> rfl⟩
  ·
   refine .inr (.inr ⟨rfl, ?_, ?_, ?_, ?_, trivial⟩)
   ·
    intro fa w' hΦ hF hB
    obtain ⟨Ao9_2_4, co9_2_5, Ao9_4_4, co9_4_5, Ao9_4_7, co9_4_8, hA, hS, E_w', huo9_2_6, huo9_4_6, huo9_4_9⟩ := hΦ
    replace hF := hF.cons (hA.get 44 _ rfl)
    refine wop rfl rfl ?_
    refine op_val hF rfl rfl (ex_move (hF.ev rfl)) ?_; clear hF; intro hF
    have hA1 := ((hA.put_other _ rfl).cons (hF.get 39 _ rfl))
    exact ⟨8, rfl, ⟨Ao9_2_4, co9_2_5, Ao9_4_4, co9_4_5, Ao9_4_7, co9_4_8, (hA1.take (hA1.take (hA1.take hA1.nil rfl) rfl) rfl), hS, E_w', huo9_2_6, huo9_4_6, huo9_4_9⟩, _, rfl, fun u hu => by cases hu <;> rfl⟩
   ·
    intro fa w' hΦ hF hB
    obtain ⟨Ao9_2_4, co9_2_5, Ao9_4_4, co9_4_5, Ao9_4_7, co9_4_8, go9_9_1, hA, hS, E_w', huo9_2_6, huo9_4_6, huo9_4_9⟩ := hΦ
    replace hF := hF.cons (hA.get 44 _ rfl)
    refine wop rfl rfl ?_
    refine op_val hF rfl rfl (ex_move (hF.ev rfl)) ?_; clear hF; intro hF
    have hA1 := ((hA.put_other _ rfl).cons (hF.get 39 _ rfl))
    exact ⟨14, rfl, ⟨Ao9_2_4, co9_2_5, Ao9_4_4, co9_4_5, Ao9_4_7, co9_4_8, go9_9_1, (hA1.take (hA1.take (hA1.take (hA1.take hA1.nil rfl) rfl) rfl) rfl), hS, E_w', huo9_2_6, huo9_4_6, huo9_4_9⟩, _, rfl, fun u hu => by cases hu <;> rfl⟩
   ·
    intro fa w' hΦ hF hB
    obtain ⟨Ao9_2_4, co9_2_5, Ao9_4_4, co9_4_5, Ao9_4_7, co9_4_8, go9_10_1, hA, hS, E_w', huo9_2_6, huo9_4_6, huo9_4_9⟩ := hΦ
    replace hF := hF.cons (hA.get 44 _ rfl)
    refine wop rfl rfl ?_
    refine op_val hF rfl rfl (ex_move (hF.ev rfl)) ?_; clear hF; intro hF
    have hA1 := ((hA.put_other _ rfl).cons (hF.get 39 _ rfl))
    exact ⟨15, rfl, ⟨Ao9_2_4, co9_2_5, Ao9_4_4, co9_4_5, Ao9_4_7, co9_4_8, go9_10_1, (hA1.take (hA1.take (hA1.take (hA1.take hA1.nil rfl) rfl) rfl) rfl), hS, E_w', huo9_2_6, huo9_4_6, huo9_4_9⟩, _, rfl, fun u hu => by cases hu <;> rfl⟩
   ·
    intro fa w' hΦ hF hB
    obtain ⟨Ao9_2_4, co9_2_5, Ao9_4_4, co9_4_5, Ao9_4_7, co9_4_8, go9_9_1, go9_10_1, hA, hS, E_w', huo9_2_6, huo9_4_6, huo9_4_9⟩ := hΦ
    replace hF := hF.cons (hA.get 44 _ rfl)
    refine wop rfl rfl ?_
    refine op_val hF rfl rfl (ex_move (hF.ev rfl)) ?_; clear hF; intro hF
    have hA1 := ((hA.put_other _ rfl).cons (hF.get 39 _ rfl))
    exact ⟨22, rfl, ⟨Ao9_2_4, co9_2_5, Ao9_4_4, co9_4_5, Ao9_4_7, co9_4_8, go9_9_1, go9_10_1, (hA1.take (hA1.take (hA1.take (hA1.take (hA1.take hA1.nil rfl) rfl) rfl) rfl) rfl), hS, E_w', huo9_2_6, huo9_4_6, huo9_4_9⟩, _, rfl, fun u hu => by cases hu <;> rfl⟩
  ·
   refine .inr (.inr ⟨rfl, ?_, ?_, ?_, ?_, ?_, ?_, ?_, ?_, trivial⟩)
   ·
    intro fa w' hΦ hF hB
    obtain ⟨Ao9_2_4, co9_2_5, Ao9_4_4, co9_4_5, Ao9_4_7, co9_4_8, hA, hS, E_w', huo9_2_6, huo9_4_6, huo9_4_9⟩ := hΦ
    replace hF := hF.cons (hA.get 39 _ rfl)
    refine wop rfl rfl ?_
    refine op_val hF rfl rfl (ex_extract (hF.ev rfl) rfl) ?_; clear hF; intro hF
    have hA1 := ((hA.put_other _ rfl).cons (hF.get 45 _ rfl))
    exact ⟨12, rfl, ⟨Ao9_2_4, co9_2_5, Ao9_4_4, co9_4_5, Ao9_4_7, co9_4_8, (hA1.take (hA1.take (hA1.take (hA1.take hA1.nil rfl) rfl) rfl) rfl), hS, E_w', huo9_2_6, huo9_4_6, huo9_4_9⟩, _, rfl, fun u hu => by cases hu <;> rfl⟩
   ·
    intro fa w' hΦ hF hB
    obtain ⟨Ao9_2_4, co9_2_5, Ao9_4_4, co9_4_5, Ao9_4_7, co9_4_8, hA, hS, E_w', huo9_2_6, huo9_4_6, huo9_4_9⟩ := hΦ
    replace hF := hF.cons (hA.get 39 _ rfl)
    refine wop rfl rfl ?_
    refine op_val hF rfl rfl (ex_extract (hF.ev rfl) rfl) ?_; clear hF; intro hF
    have hA1 := ((hA.put_other _ rfl).cons (hF.get 45 _ rfl))
    exact ⟨17, rfl, ⟨Ao9_2_4, co9_2_5, Ao9_4_4, co9_4_5, Ao9_4_7, co9_4_8, (hA1.take (hA1.take (hA1.take (hA1.take (hA1.take hA1.nil rfl) rfl) rfl) rfl) rfl), hS, E_w', huo9_2_6, huo9_4_6, huo9_4_9⟩, _, rfl, fun u hu => by cases hu <;> rfl⟩
   ·
    intro fa w' hΦ hF hB
    obtain ⟨Ao9_2_4, co9_2_5, Ao9_4_4, co9_4_5, Ao9_4_7, co9_4_8, go9_9_1, hA, hS, E_w', huo9_2_6, huo9_4_6, huo9_4_9⟩ := hΦ
    replace hF := hF.cons (hA.get 39 _ rfl)
    refine wop rfl rfl ?_
    refine op_val hF rfl rfl (ex_extract (hF.ev rfl) rfl) ?_; clear hF; intro hF
    have hA1 := ((hA.put_other _ rfl).cons (hF.get 45 _ rfl))
    exact ⟨18, rfl, ⟨Ao9_2_4, co9_2_5, Ao9_4_4, co9_4_5, Ao9_4_7, co9_4_8, go9_9_1, (hA1.take (hA1.take (hA1.take (hA1.take (hA1.take hA1.nil rfl) rfl) rfl) rfl) rfl), hS, E_w', huo9_2_6, huo9_4_6, huo9_4_9⟩, _, rfl, fun u hu => by cases hu <;> rfl⟩
   ·
    intro fa w' hΦ hF hB
    obtain ⟨Ao9_2_4, co9_2_5, Ao9_4_4, co9_4_5, Ao9_4_7, co9_4_8, go9_10_1, hA, hS, E_w', huo9_2_6, huo9_4_6, huo9_4_9⟩ := hΦ
    replace hF := hF.cons (hA.get 39 _ rfl)
    refine wop rfl rfl ?_
    refine op_val hF rfl rfl (ex_extract (hF.ev rfl) rfl) ?_; clear hF; intro hF
    have hA1 := ((hA.put_other _ rfl).cons (hF.get 45 _ rfl))
    exact ⟨19, rfl, ⟨Ao9_2_4, co9_2_5, Ao9_4_4, co9_4_5, Ao9_4_7, co9_4_8, go9_10_1, (hA1.take (hA1.take (hA1.take (hA1.take (hA1.take hA1.nil rfl) rfl) rfl) rfl) rfl), hS, E_w', huo9_2_6, huo9_4_6, huo9_4_9⟩, _, rfl, fun u hu => by cases hu <;> rfl⟩
   ·
    intro fa w' hΦ hF hB
    obtain ⟨Ao9_2_4, co9_2_5, Ao9_4_4, co9_4_5, Ao9_4_7, co9_4_8, go9_9_1, hA, hS, E_w', huo9_2_6, huo9_4_6, huo9_4_9⟩ := hΦ
    replace hF := hF.cons (hA.get 39 _ rfl)
    refine wop rfl rfl ?_
    refine op_val hF rfl rfl (ex_extract (hF.ev rfl) rfl) ?_; clear hF; intro hF
    have hA1 := ((hA.put_other _ rfl).cons (hF.get 45 _ rfl))
    exact ⟨23, rfl, ⟨Ao9_2_4, co9_2_5, Ao9_4_4, co9_4_5, Ao9_4_7, co9_4_8, go9_9_1, (hA1.take (hA1.take (hA1.take (hA1.take (hA1.take (hA1.take hA1.nil rfl) rfl) rfl) rfl) rfl) rfl), hS, E_w', huo9_2_6, huo9_4_6, huo9_4_9⟩, _, rfl, fun u hu => by cases hu <;> rfl⟩
   ·
    intro fa w' hΦ hF hB
    obtain ⟨Ao9_2_4, co9_2_5, Ao9_4_4, co9_4_5, Ao9_4_7, co9_4_8, go9_10_1, hA, hS, E_w', huo9_2_6, huo9_4_6, huo9_4_9⟩ := hΦ
    replace hF := hF.cons (hA.get 39 _ rfl)
    refine wop rfl rfl ?_
    refine op_val hF rfl rfl (ex_extract (hF.ev rfl) rfl) ?_; clear hF; intro hF
    have hA1 := ((hA.put_other _ rfl).cons (hF.get 45 _ rfl))
    exact ⟨24, rfl, ⟨Ao9_2_4, co9_2_5, Ao9_4_4, co9_4_5, Ao9_4_7, co9_4_8, go9_10_1, (hA1.take (hA1.take (hA1.take (hA1.take (hA1.take (hA1.take hA1.nil rfl) rfl) rfl) rfl) rfl) rfl), hS, E_w', huo9_2_6, huo9_4_6, huo9_4_9⟩, _, rfl, fun u hu => by cases hu <;> rfl⟩
   ·
    intro fa w' hΦ hF hB
    obtain ⟨Ao9_2_4, co9_2_5, Ao9_4_4, co9_4_5, Ao9_4_7, co9_4_8, go9_9_1, go9_10_1, hA, hS, E_w', huo9_2_6, huo9_4_6, huo9_4_9⟩ := hΦ
    replace hF := hF.cons (hA.get 39 _ rfl)
    refine wop rfl rfl ?_
    refine op_val hF rfl rfl (ex_extract (hF.ev rfl) rfl) ?_; clear hF; intro hF
    have hA1 := ((hA.put_other _ rfl).cons (hF.get 45 _ rfl))
    exact ⟨25, rfl, ⟨Ao9_2_4, co9_2_5, Ao9_4_4, co9_4_5, Ao9_4_7, co9_4_8, go9_9_1, go9_10_1, (hA1.take (hA1.take (hA1.take (hA1.take (hA1.take (hA1.take hA1.nil rfl) rfl) rfl) rfl) rfl) rfl), hS, E_w', huo9_2_6, huo9_4_6, huo9_4_9⟩, _, rfl, fun u hu => by cases hu <;> rfl⟩
   ·
    intro fa w' hΦ hF hB
    obtain ⟨Ao9_2_4, co9_2_5, Ao9_4_4, co9_4_5, Ao9_4_7, co9_4_8, go9_9_1, go9_10_1, hA, hS, E_w', huo9_2_6, huo9_4_6, huo9_4_9⟩ := hΦ
    replace hF := hF.cons (hA.get 39 _ rfl)
    refine wop rfl rfl ?_
    refine op_val hF rfl rfl (ex_extract (hF.ev rfl) rfl) ?_; clear hF; intro hF
    have hA1 := ((hA.put_other _ rfl).cons (hF.get 45 _ rfl))
    exact ⟨27, rfl, ⟨Ao9_2_4, co9_2_5, Ao9_4_4, co9_4_5, Ao9_4_7, co9_4_8, go9_9_1, go9_10_1, (hA1.take (hA1.take (hA1.take (hA1.take (hA1.take (hA1.take (hA1.take hA1.nil rfl) rfl) rfl) rfl) rfl) rfl) rfl), hS, E_w', huo9_2_6, huo9_4_6, huo9_4_9⟩, _, rfl, fun u hu => by cases hu <;> rfl⟩
  ·
   refine .inr (.inr ⟨rfl, ?_, ?_, ?_, ?_, ?_, ?_, ?_, ?_, ?_, trivial⟩)
   ·
    intro fa w' hΦ hF hB
    obtain ⟨Ao9_2_4, co9_2_5, Ao9_4_4, co9_4_5, Ao9_4_7, co9_4_8, hA, hS, E_w', huo9_2_6, huo9_4_6, huo9_4_9⟩ := hΦ
    replace hF := hF.cons (hA.get 39 _ rfl)
    refine wop rfl rfl ?_
    refine op_val hF rfl rfl (ex_extract (hF.ev rfl) rfl) ?_; clear hF; intro hF
    have hA1 := ((hA.put_other _ rfl).cons (hF.get 46 _ rfl))
    exact ⟨13, rfl, ⟨Ao9_2_4, co9_2_5, Ao9_4_4, co9_4_5, Ao9_4_7, co9_4_8, (hA1.take (hA1.take (hA1.take (hA1.take hA1.nil rfl) rfl) rfl) rfl), hS, E_w', huo9_2_6, huo9_4_6, huo9_4_9⟩, _, rfl, fun u hu => by cases hu <;> rfl⟩
   ·
    intro fa w' hΦ hF hB
    obtain ⟨Ao9_2_4, co9_2_5, Ao9_4_4, co9_4_5, Ao9_4_7, co9_4_8, hA, hS, E_w', huo9_2_6, huo9_4_6, huo9_4_9⟩ := hΦ
    replace hF := hF.cons (hA.get 39 _ rfl)
    refine wop rfl rfl ?_
    refine op_val hF rfl rfl (ex_extract (hF.ev rfl) rfl) ?_; clear hF; intro hF
    have hA1 := ((hA.put_other _ rfl).cons (hF.get 46 _ rfl))
    exact ⟨17, rfl, ⟨Ao9_2_4, co9_2_5, Ao9_4_4, co9_4_5, Ao9_4_7, co9_4_8, (hA1.take (hA1.take (hA1.take (hA1.take (hA1.take hA1.nil rfl) rfl) rfl) rfl) rfl), hS, E_w', huo9_2_6, huo9_4_6, huo9_4_9⟩, _, rfl, fun u hu => by cases hu <;> rfl⟩
   ·
    intro fa w' hΦ hF hB
    obtain ⟨Ao9_2_4, co9_2_5, Ao9_4_4, co9_4_5, Ao9_4_7, co9_4_8, go9_9_1, hA, hS, E_w', huo9_2_6, huo9_4_6, huo9_4_9⟩ := hΦ
    replace hF := hF.cons (hA.get 39 _ rfl)
    refine wop rfl rfl ?_
    refine op_val hF rfl rfl (ex_extract (hF.ev rfl) rfl) ?_; clear hF; intro hF
    have hA1 := ((hA.put_other _ rfl).cons (hF.get 46 _ rfl))
    exact ⟨20, rfl, ⟨Ao9_2_4, co9_2_5, Ao9_4_4, co9_4_5, Ao9_4_7, co9_4_8, go9_9_1, (hA1.take (hA1.take (hA1.take (hA1.take (hA1.take hA1.nil rfl) rfl) rfl) rfl) rfl), hS, E_w', huo9_2_6, huo9_4_6, huo9_4_9⟩, _, rfl, fun u hu => by cases hu <;> rfl⟩
   ·
    intro fa w' hΦ hF hB
    obtain ⟨Ao9_2_4, co9_2_5, Ao9_4_4, co9_4_5, Ao9_4_7, co9_4_8, go9_10_1, hA, hS, E_w', huo9_2_6, huo9_4_6, huo9_4_9⟩ := hΦ
    replace hF := hF.cons (hA.get 39 _ rfl)
    refine wop rfl rfl ?_
    refine op_val hF rfl rfl (ex_extract (hF.ev rfl) rfl) ?_; clear hF; intro hF
    have hA1 := ((hA.put_other _ rfl).cons (hF.get 46 _ rfl))
    exact ⟨21, rfl, ⟨Ao9_2_4, co9_2_5, Ao9_4_4, co9_4_5, Ao9_4_7, co9_4_8, go9_10_1, (hA1.take (hA1.take (hA1.take (hA1.take (hA1.take hA1.nil rfl) rfl) rfl) rfl) rfl), hS, E_w', huo9_2_6, huo9_4_6, huo9_4_9⟩, _, rfl, fun u hu => by cases hu <;> rfl⟩
   ·
    intro fa w' hΦ hF hB
    obtain ⟨Ao9_2_4, co9_2_5, Ao9_4_4, co9_4_5, Ao9_4_7, co9_4_8, go9_9_1, hA, hS, E_w', huo9_2_6, huo9_4_6, huo9_4_9⟩ := hΦ
    replace hF := hF.cons (hA.get 39 _ rfl)
    refine wop rfl rfl ?_
    refine op_val hF rfl rfl (ex_extract (hF.ev rfl) rfl) ?_; clear hF; intro hF
    have hA1 := ((hA.put_other _ rfl).cons (hF.get 46 _ rfl))
    exact ⟨23, rfl, ⟨Ao9_2_4, co9_2_5, Ao9_4_4, co9_4_5, Ao9_4_7, co9_4_8, go9_9_1, (hA1.take (hA1.take (hA1.take (hA1.take (hA1.take (hA1.take hA1.nil rfl) rfl) rfl) rfl) rfl) rfl), hS, E_w', huo9_2_6, huo9_4_6, huo9_4_9⟩, _, rfl, fun u hu => by cases hu <;> rfl⟩
   ·
    intro fa w' hΦ hF hB
    obtain ⟨Ao9_2_4, co9_2_5, Ao9_4_4, co9_4_5, Ao9_4_7, co9_4_8, go9_10_1, hA, hS, E_w', huo9_2_6, huo9_4_6, huo9_4_9⟩ := hΦ
    replace hF := hF.cons (hA.get 39 _ rfl)
    refine wop rfl rfl ?_
    refine op_val hF rfl rfl (ex_extract (hF.ev rfl) rfl) ?_; clear hF; intro hF
    have hA1 := ((hA.put_other _ rfl).cons (hF.get 46 _ rfl))
    exact ⟨24, rfl, ⟨Ao9_2_4, co9_2_5, Ao9_4_4, co9_4_5, Ao9_4_7, co9_4_8, go9_10_1, (hA1.take (hA1.take (hA1.take (hA1.take (hA1.take (hA1.take hA1.nil rfl) rfl) rfl) rfl) rfl) rfl), hS, E_w', huo9_2_6, huo9_4_6, huo9_4_9⟩, _, rfl, fun u hu => by cases hu <;> rfl⟩
   ·
    intro fa w' hΦ hF hB
    obtain ⟨Ao9_2_4, co9_2_5, Ao9_4_4, co9_4_5, Ao9_4_7, co9_4_8, go9_9_1, go9_10_1, hA, hS, E_w', huo9_2_6, huo9_4_6, huo9_4_9⟩ := hΦ
    replace hF := hF.cons (hA.get 39 _ rfl)
    refine wop rfl rfl ?_
    refine op_val hF rfl rfl (ex_extract (hF.ev rfl) rfl) ?_; clear hF; intro hF
    have hA1 := ((hA.put_other _ rfl).cons (hF.get 46 _ rfl))
    exact ⟨26, rfl, ⟨Ao9_2_4, co9_2_5, Ao9_4_4, co9_4_5, Ao9_4_7, co9_4_8, go9_9_1, go9_10_1, (hA1.take (hA1.take (hA1.take (hA1.take (hA1.take (hA1.take hA1.nil rfl) rfl) rfl) rfl) rfl) rfl), hS, E_w', huo9_2_6, huo9_4_6, huo9_4_9⟩, _, rfl, fun u hu => by cases hu <;> rfl⟩
   ·
    intro fa w' hΦ hF hB
    obtain ⟨Ao9_2_4, co9_2_5, Ao9_4_4, co9_4_5, Ao9_4_7, co9_4_8, go9_9_1, go9_10_1, hA, hS, E_w', huo9_2_6, huo9_4_6, huo9_4_9⟩ := hΦ
    replace hF := hF.cons (hA.get 39 _ rfl)
    refine wop rfl rfl ?_
    refine op_val hF rfl rfl (ex_extract (hF.ev rfl) rfl) ?_; clear hF; intro hF
    have hA1 := ((hA.put_other _ rfl).cons (hF.get 46 _ rfl))
    exact ⟨27, rfl, ⟨Ao9_2_4, co9_2_5, Ao9_4_4, co9_4_5, Ao9_4_7, co9_4_8, go9_9_1, go9_10_1, (hA1.take (hA1.take (hA1.take (hA1.take (hA1.take (hA1.take (hA1.take hA1.nil rfl) rfl) rfl) rfl) rfl) rfl) rfl), hS, E_w', huo9_2_6, huo9_4_6, huo9_4_9⟩, _, rfl, fun u hu => by cases hu <;> rfl⟩
   ·
    intro fa w' hΦ hF hB
    obtain ⟨Ao9_2_4, co9_2_5, Ao9_4_4, co9_4_5, Ao9_4_7, co9_4_8, go9_9_1, go9_10_1, hA, hS, E_w', huo9_2_6, huo9_4_6, huo9_4_9⟩ := hΦ
    replace hF := hF.cons (hA.get 39 _ rfl)
    refine wop rfl rfl ?_
    refine op_val hF rfl rfl (ex_extract (hF.ev rfl) rfl) ?_; clear hF; intro hF
    have hA1 := ((hA.put_other _ rfl).cons (hF.get 46 _ rfl))
    exact ⟨29, rfl, ⟨Ao9_2_4, co9_2_5, Ao9_4_4, co9_4_5, Ao9_4_7, co9_4_8, go9_9_1, go9_10_1, (hA1.take (hA1.take (hA1.take (hA1.take (hA1.take (hA1.take (hA1.take hA1.nil rfl) rfl) rfl) rfl) rfl) rfl) rfl), hS, E_w', huo9_2_6, huo9_4_6, huo9_4_9⟩, _, rfl, fun u hu => by cases hu <;> rfl⟩
  ·
   refine .inr (.inl ⟨rfl, _, _, rfl, rfl, ?_, ?_, ?_, ?_, ?_, ?_, ?_, ?_, ?_, ?_, ?_, ?_, ?_, ?_, ?_, ?_, ?_, ?_, ?_, trivial⟩)
   ·
    intro fa w' hΦ hF hB K hK
    obtain ⟨Ao9_2_4, co9_2_5, Ao9_4_4, co9_4_5, Ao9_4_7, co9_4_8, hA, hS, E_w', huo9_2_6, huo9_4_6, huo9_4_9⟩ := hΦ
    replace hF := hF.cons (hA.get 39 _ rfl)
    exact fl_val rfl rfl rfl (ex_extract (hF.ev rfl) rfl) hK
   ·
    intro fa w' hΦ hF hB K hK
    obtain ⟨Ao9_2_4, co9_2_5, Ao9_4_4, co9_4_5, Ao9_4_7, co9_4_8, hA, hS, E_w', huo9_2_6, huo9_4_6, huo9_4_9⟩ := hΦ
    replace hF := hF.cons (hA.get 39 _ rfl)
    exact fl_val rfl rfl rfl (ex_extract (hF.ev rfl) rfl) hK
   ·
    intro fa w' hΦ hF hB K hK
    obtain ⟨Ao9_2_4, co9_2_5, Ao9_4_4, co9_4_5, Ao9_4_7, co9_4_8, hA, hS, E_w', huo9_2_6, huo9_4_6, huo9_4_9⟩ := hΦ
    replace hF := hF.cons (hA.get 39 _ rfl)
    exact fl_val rfl rfl rfl (ex_extract (hF.ev rfl) rfl) hK
   ·
    intro fa w' hΦ hF hB K hK
    obtain ⟨Ao9_2_4, co9_2_5, Ao9_4_4, co9_4_5, Ao9_4_7, co9_4_8, go9_9_1, hA, hS, E_w', huo9_2_6, huo9_4_6, huo9_4_9⟩ := hΦ
    replace hF := hF.cons (hA.get 39 _ rfl)
    exact fl_val rfl rfl rfl (ex_extract (hF.ev rfl) rfl) hK
   ·
    intro fa w' hΦ hF hB K hK
    obtain ⟨Ao9_2_4, co9_2_5, Ao9_4_4, co9_4_5, Ao9_4_7, co9_4_8, go9_10_1, hA, hS, E_w', huo9_2_6, huo9_4_6, huo9_4_9⟩ := hΦ
    replace hF := hF.cons (hA.get 39 _ rfl)
    exact fl_val rfl rfl rfl (ex_extract (hF.ev rfl) rfl) hK
   ·
    intro fa w' hΦ hF hB K hK
    obtain ⟨Ao9_2_4, co9_2_5, Ao9_4_4, co9_4_5, Ao9_4_7, co9_4_8, hA, hS, E_w', huo9_2_6, huo9_4_6, huo9_4_9⟩ := hΦ
    replace hF := hF.cons (hA.get 39 _ rfl)
    exact fl_val rfl rfl rfl (ex_extract (hF.ev rfl) rfl) hK
   ·
    intro fa w' hΦ hF hB K hK
    obtain ⟨Ao9_2_4, co9_2_5, Ao9_4_4, co9_4_5, Ao9_4_7, co9_4_8, go9_9_1, hA, hS, E_w', huo9_2_6, huo9_4_6, huo9_4_9⟩ := hΦ
    replace hF := hF.cons (hA.get 39 _ rfl)
    exact fl_val rfl rfl rfl (ex_extract (hF.ev rfl) rfl) hK
   ·
    intro fa w' hΦ hF hB K hK
    obtain ⟨Ao9_2_4, co9_2_5, Ao9_4_4, co9_4_5, Ao9_4_7, co9_4_8, go9_10_1, hA, hS, E_w', huo9_2_6, huo9_4_6, huo9_4_9⟩ := hΦ
    replace hF := hF.cons (hA.get 39 _ rfl)
    exact fl_val rfl rfl rfl (ex_extract (hF.ev rfl) rfl) hK
   ·
    intro fa w' hΦ hF hB K hK
    obtain ⟨Ao9_2_4, co9_2_5, Ao9_4_4, co9_4_5, Ao9_4_7, co9_4_8, go9_9_1, hA, hS, E_w', huo9_2_6, huo9_4_6, huo9_4_9⟩ := hΦ
    replace hF := hF.cons (hA.get 39 _ rfl)
    exact fl_val rfl rfl rfl (ex_extract (hF.ev rfl) rfl) hK
   ·
    intro fa w' hΦ hF hB K hK
    obtain ⟨Ao9_2_4, co9_2_5, Ao9_4_4, co9_4_5, Ao9_4_7, co9_4_8, go9_10_1, hA, hS, E_w', huo9_2_6, huo9_4_6, huo9_4_9⟩ := hΦ
    replace hF := hF.cons (hA.get 39 _ rfl)
    exact fl_val rfl rfl rfl (ex_extract (hF.ev rfl) rfl) hK
   ·
    intro fa w' hΦ hF hB K hK
    obtain ⟨Ao9_2_4, co9_2_5, Ao9_4_4, co9_4_5, Ao9_4_7, co9_4_8, go9_9_1, go9_10_1, hA, hS, E_w', huo9_2_6, huo9_4_6, huo9_4_9⟩ := hΦ
    replace hF := hF.cons (hA.get 39 _ rfl)
    exact fl_val rfl rfl rfl (ex_extract (hF.ev rfl) rfl) hK
   ·
    intro fa w' hΦ hF hB K hK
    obtain ⟨Ao9_2_4, co9_2_5, Ao9_4_4, co9_4_5, Ao9_4_7, co9_4_8, go9_9_1, hA, hS, E_w', huo9_2_6, huo9_4_6, huo9_4_9⟩ := hΦ
    replace hF := hF.cons (hA.get 39 _ rfl)
    exact fl_val rfl rfl rfl (ex_extract (hF.ev rfl) rfl) hK
   ·
    intro fa w' hΦ hF hB K hK
    obtain ⟨Ao9_2_4, co9_2_5, Ao9_4_4, co9_4_5, Ao9_4_7, co9_4_8, go9_10_1, hA, hS, E_w', huo9_2_6, huo9_4_6, huo9_4_9⟩ := hΦ
    replace hF := hF.cons (hA.get 39 _ rfl)
    exact fl_val rfl rfl rfl (ex_extract (hF.ev rfl) rfl) hK
   ·
    intro fa w' hΦ hF hB K hK
    obtain ⟨Ao9_2_4, co9_2_5, Ao9_4_4, co9_4_5, Ao9_4_7, co9_4_8, go9_9_1, go9_10_1, hA, hS, E_w', huo9_2_6, huo9_4_6, huo9_4_9⟩ := hΦ
    replace hF := hF.cons (hA.get 39 _ rfl)
    exact fl_val rfl rfl rfl (ex_extract (hF.ev rfl) rfl) hK
   ·
    intro fa w' hΦ hF hB K hK
    obtain ⟨Ao9_2_4, co9_2_5, Ao9_4_4, co9_4_5, Ao9_4_7, co9_4_8, go9_9_1, go9_10_1, hA, hS, E_w', huo9_2_6, huo9_4_6, huo9_4_9⟩ := hΦ
    replace hF := hF.cons (hA.get 39 _ rfl)
    exact fl_val rfl rfl rfl (ex_extract (hF.ev rfl) rfl) hK
   ·
    intro fa w' hΦ hF hB K hK
    obtain ⟨Ao9_2_4, co9_2_5, Ao9_4_4, co9_4_5, Ao9_4_7, co9_4_8, go9_9_1, go9_10_1, hA, hS, E_w', huo9_2_6, huo9_4_6, huo9_4_9⟩ := hΦ
    replace hF := hF.cons (hA.get 39 _ rfl)
    exact fl_val rfl rfl rfl (ex_extract (hF.ev rfl) rfl) hK
   ·
    intro fa w' hΦ hF hB K hK
    obtain ⟨Ao9_2_4, co9_2_5, Ao9_4_4, co9_4_5, Ao9_4_7, co9_4_8, go9_9_1, go9_10_1, hA, hS, E_w', huo9_2_6, huo9_4_6, huo9_4_9⟩ := hΦ
    replace hF := hF.cons (hA.get 39 _ rfl)
    exact fl_val rfl rfl rfl (ex_extract (hF.ev rfl) rfl) hK
   ·
    intro fa w' hΦ hF hB K hK
    obtain ⟨Ao9_2_4, co9_2_5, Ao9_4_4, co9_4_5, Ao9_4_7, co9_4_8, go9_9_1, go9_10_1, hA, hS, E_w', huo9_2_6, huo9_4_6, huo9_4_9⟩ := hΦ
    replace hF := hF.cons (hA.get 39 _ rfl)
    exact fl_val rfl rfl rfl (ex_extract (hF.ev rfl) rfl) hK
   ·
    intro fa w' hΦ hF hB K hK
    obtain ⟨Ao9_2_4, co9_2_5, Ao9_4_4, co9_4_5, Ao9_4_7, co9_4_8, go9_9_1, go9_10_1, hA, hS, E_w', huo9_2_6, huo9_4_6, huo9_4_9⟩ := hΦ
    replace hF := hF.cons (hA.get 39 _ rfl)
    exact fl_val rfl rfl rfl (ex_extract (hF.ev rfl) rfl) hK
  ·
   refine .inr (.inr ⟨rfl, ?_, ?_, ?_, ?_, ?_, ?_, ?_, ?_, ?_, ?_, ?_, ?_, ?_, ?_, trivial⟩)
   ·
    intro fa w' hΦ hF hB
    obtain ⟨hA, hS, E_w'⟩ := hΦ
    refine wop rfl rfl ?_
    refine op_alloc (X := (g77 :: (g73 :: (g56 :: (g44 :: (g5 :: (g1 :: X))))))) hF hS rfl TfV.zero24 ?_
    intro go9_9_1 wo9_9_2 hgo9_9_4 hS Eo9_9_3 hF
    replace hS : St w wo9_9_2 [(go9_9_1, 24, #[(.bool (false)), (.slice (none) (0) (0))]), (g77, 24, (ic (A70) (c71) ((if (((xx : Nat) : Int)) = 0 then 0 else a.fmod (((xx : Nat) : Int)))))), (g73, 24, (ic (A67) (c68) (((a.natAbs / xx : Nat) : Int)))), (g56, 24, (ic (A53) (c54) (((2 : Int))))), (g44, 24, (ic (Ax) (cx) (((xx : Nat) : Int)))), (g5, 24, #[(.bool (false)), (.slice (none) (0) (0))]), (g1, 24, (ic (A_a) (c_a) (a)))] := hS
    have hA1 := ((hA.put_other _ rfl).cons (hF.get 10 _ rfl))
    exact ⟨2, rfl, ⟨go9_9_1, (hA1.take hA1.nil rfl), hS, (E_w'.trans Eo9_9_3)⟩, _, rfl, fun u hu => by cases hu <;> rfl⟩
   ·
    intro fa w' hΦ hF hB
    obtain ⟨Ao9_2_4, co9_2_5, hA, hS, E_w', huo9_2_6⟩ := hΦ
    refine wop rfl rfl ?_
    refine op_alloc (X := (g77 :: (g73 :: (g56 :: (g44 :: (g5 :: (g1 :: X))))))) hF hS rfl TfV.zero24 ?_
    intro go9_9_1 wo9_9_2 hgo9_9_4 hS Eo9_9_3 hF
    replace hS : St w wo9_9_2 [(go9_9_1, 24, #[(.bool (false)), (.slice (none) (0) (0))]), (g77, 24, (ic (A70) (c71) ((if (((xx : Nat) : Int)) = 0 then 0 else a.fmod (((xx : Nat) : Int)))))), (g73, 24, (ic (A67) (c68) (((a.natAbs / xx : Nat) : Int)))), (g56, 24, (ic (A53) (c54) (((2 : Int))))), (g44, 24, (ic (Ax) (cx) (((xx : Nat) : Int)))), (g5, 24, #[(.bool (false)), (.slice (none) (0) (0))]), (g1, 24, (ic (A_a) (c_a) (a)))] := hS
    have hA1 := ((hA.put_other _ rfl).cons (hF.get 10 _ rfl))
    exact ⟨5, rfl, ⟨Ao9_2_4, co9_2_5, go9_9_1, (hA1.take (hA1.take hA1.nil rfl) rfl), hS, (E_w'.trans Eo9_9_3), (huo9_2_6.ext Eo9_9_3)⟩, _, rfl, fun u hu => by cases hu <;> rfl⟩
   ·
    intro fa w' hΦ hF hB
    obtain ⟨go9_10_1, hA, hS, E_w'⟩ := hΦ
    refine wop rfl rfl ?_
    refine op_alloc (X := (go9_10_1 :: (g77 :: (g73 :: (g56 :: (g44 :: (g5 :: (g1 :: X)))))))) hF hS rfl TfV.zero24 ?_
    intro go9_9_1 wo9_9_2 hgo9_9_4 hS Eo9_9_3 hF
    replace hS : St w wo9_9_2 [(go9_9_1, 24, #[(.bool (false)), (.slice (none) (0) (0))]), (go9_10_1, 24, #[(.bool (false)), (.slice (none) (0) (0))]), (g77, 24, (ic (A70) (c71) ((if (((xx : Nat) : Int)) = 0 then 0 else a.fmod (((xx : Nat) : Int)))))), (g73, 24, (ic (A67) (c68) (((a.natAbs / xx : Nat) : Int)))), (g56, 24, (ic (A53) (c54) (((2 : Int))))), (g44, 24, (ic (Ax) (cx) (((xx : Nat) : Int)))), (g5, 24, #[(.bool (false)), (.slice (none) (0) (0))]), (g1, 24, (ic (A_a) (c_a) (a)))] := hS
    replace hS : St w wo9_9_2 [(go9_10_1, 24, #[(.bool (false)), (.slice (none) (0) (0))]), (go9_9_1, 24, #[(.bool (false)), (.slice (none) (0) (0))]), (g77, 24, (ic (A70) (c71) ((if (((xx : Nat) : Int)) = 0 then 0 else a.fmod (((xx : Nat) : Int)))))), (g73, 24, (ic (A67) (c68) (((a.natAbs / xx : Nat) : Int)))), (g56, 24, (ic (A53) (c54) (((2 : Int))))), (g44, 24, (ic (Ax) (cx) (((xx : Nat) : Int)))), (g5, 24, #[(.bool (false)), (.slice (none) (0) (0))]), (g1, 24, (ic (A_a) (c_a) (a)))] := hS.perm (List.Perm.swap _ _ _)
    have E85 : Ext wo9_9_2 (go9_9_1 :: (go9_10_1 :: (g77 :: (g73 :: (g56 :: (g44 :: (g5 :: (g1 :: X)))))))) wo9_9_2 (go9_10_1 :: (go9_9_1 :: (g77 :: (g73 :: (g56 :: (g44 :: (g5 :: (g1 :: X)))))))) := Ext.drop (by simp +contextual)
    have hA1 := ((hA.put_other _ rfl).cons (hF.get 10 _ rfl))
    exact ⟨7, rfl, ⟨go9_9_1, go9_10_1, (hA1.take (hA1.take hA1.nil rfl) rfl), hS, ((E_w'.trans Eo9_9_3).trans E85)⟩, _, rfl, fun u hu => by cases hu <;> rfl⟩
   ·
    intro fa w' hΦ hF hB
    obtain ⟨Ao9_2_4, co9_2_5, Ao9_4_4, co9_4_5, Ao9_4_7, co9_4_8, hA, hS, E_w', huo9_2_6, huo9_4_6, huo9_4_9⟩ := hΦ
    refine wop rfl rfl ?_
    refine op_alloc (X := (g77 :: (g73 :: (g56 :: (g44 :: (g5 :: (g1 :: X))))))) hF hS rfl TfV.zero24 ?_
    intro go9_9_1 wo9_9_2 hgo9_9_4 hS Eo9_9_3 hF
    replace hS : St w wo9_9_2 [(go9_9_1, 24, #[(.bool (false)), (.slice (none) (0) (0))]), (g77, 24, (ic (A70) (c71) ((if (((xx : Nat) : Int)) = 0 then 0 else a.fmod (((xx : Nat) : Int)))))), (g73, 24, (ic (A67) (c68) (((a.natAbs / xx : Nat) : Int)))), (g56, 24, (ic (A53) (c54) (((2 : Int))))), (g44, 24, (ic (Ax) (cx) (((xx : Nat) : Int)))), (g5, 24, #[(.bool (false)), (.slice (none) (0) (0))]), (g1, 24, (ic (A_a) (c_a) (a)))] := hS
    have hA1 := ((hA.put_other _ rfl).cons (hF.get 10 _ rfl))
    exact ⟨9, rfl, ⟨Ao9_2_4, co9_2_5, Ao9_4_4, co9_4_5, Ao9_4_7, co9_4_8, go9_9_1, (hA1.take (hA1.take (hA1.take hA1.nil rfl) rfl) rfl), hS, (E_w'.trans Eo9_9_3), (huo9_2_6.ext Eo9_9_3), (huo9_4_6.ext Eo9_9_3), (huo9_4_9.ext Eo9_9_3)⟩, _, rfl, fun u hu => by cases hu <;> rfl⟩
   ·
    intro fa w' hΦ hF hB
    obtain ⟨Ao9_2_4, co9_2_5, go9_10_1, hA, hS, E_w', huo9_2_6⟩ := hΦ
    refine wop rfl rfl ?_
    refine op_alloc (X := (go9_10_1 :: (g77 :: (g73 :: (g56 :: (g44 :: (g5 :: (g1 :: X)))))))) hF hS rfl TfV.zero24 ?_
    intro go9_9_1 wo9_9_2 hgo9_9_4 hS Eo9_9_3 hF
    replace hS : St w wo9_9_2 [(go9_9_1, 24, #[(.bool (false)), (.slice (none) (0) (0))]), (go9_10_1, 24, #[(.bool (false)), (.slice (none) (0) (0))]), (g77, 24, (ic (A70) (c71) ((if (((xx : Nat) : Int)) = 0 then 0 else a.fmod (((xx : Nat) : Int)))))), (g73, 24, (ic (A67) (c68) (((a.natAbs / xx : Nat) : Int)))), (g56, 24, (ic (A53) (c54) (((2 : Int))))), (g44, 24, (ic (Ax) (cx) (((xx : Nat) : Int)))), (g5, 24, #[(.bool (false)), (.slice (none) (0) (0))]), (g1, 24, (ic (A_a) (c_a) (a)))] := hS
    replace hS : St w wo9_9_2 [(go9_10_1, 24, #[(.bool (false)), (.slice (none) (0) (0))]), (go9_9_1, 24, #[(.bool (false)), (.slice (none) (0) (0))]), (g77, 24, (ic (A70) (c71) ((if (((xx : Nat) : Int)) = 0 then 0 else a.fmod (((xx : Nat) : Int)))))), (g73, 24, (ic (A67) (c68) (((a.natAbs / xx : Nat) : Int)))), (g56, 24, (ic (A53) (c54) (((2 : Int))))), (g44, 24, (ic (Ax) (cx) (((xx : Nat) : Int)))), (g5, 24, #[(.bool (false)), (.slice (none) (0) (0))]), (g1, 24, (ic (A_a) (c_a) (a)))] := hS.perm (List.Perm.swap _ _ _)
    have E86 : Ext wo9_9_2 (go9_9_1 :: (go9_10_1 :: (g77 :: (g73 :: (g56 :: (g44 :: (g5 :: (g1 :: X)))))))) wo9_9_2 (go9_10_1 :: (go9_9_1 :: (g77 :: (g73 :: (g56 :: (g44 :: (g5 :: (g1 :: X)))))))) := Ext.drop (by simp +contextual)
    have hA1 := ((hA.put_other _ rfl).cons (hF.get 10 _ rfl))
    exact ⟨11, rfl, ⟨Ao9_2_4, co9_2_5, go9_9_1, go9_10_1, (hA1.take (hA1.take (hA1.take hA1.nil rfl) rfl) rfl), hS, ((E_w'.trans Eo9_9_3).trans E86), (huo9_2_6.ext (Eo9_9_3.trans E86))⟩, _, rfl, fun u hu => by cases hu <;> rfl⟩
   ·
    intro fa w' hΦ hF hB
    obtain ⟨Ao9_2_4, co9_2_5, Ao9_4_4, co9_4_5, Ao9_4_7, co9_4_8, hA, hS, E_w', huo9_2_6, huo9_4_6, huo9_4_9⟩ := hΦ
    refine wop rfl rfl ?_
    refine op_alloc (X := (g77 :: (g73 :: (g56 :: (g44 :: (g5 :: (g1 :: X))))))) hF hS rfl TfV.zero24 ?_
    intro go9_9_1 wo9_9_2 hgo9_9_4 hS Eo9_9_3 hF
    replace hS : St w wo9_9_2 [(go9_9_1, 24, #[(.bool (false)), (.slice (none) (0) (0))]), (g77, 24, (ic (A70) (c71) ((if (((xx : Nat) : Int)) = 0 then 0 else a.fmod (((xx : Nat) : Int)))))), (g73, 24, (ic (A67) (c68) (((a.natAbs / xx : Nat) : Int)))), (g56, 24, (ic (A53) (c54) (((2 : Int))))), (g44, 24, (ic (Ax) (cx) (((xx : Nat) : Int)))), (g5, 24, #[(.bool (false)), (.slice (none) (0) (0))]), (g1, 24, (ic (A_a) (c_a) (a)))] := hS
    have hA1 := ((hA.put_other _ rfl).cons (hF.get 10 _ rfl))
    exact ⟨14, rfl, ⟨Ao9_2_4, co9_2_5, Ao9_4_4, co9_4_5, Ao9_4_7, co9_4_8, go9_9_1, (hA1.take (hA1.take (hA1.take (hA1.take hA1.nil rfl) rfl) rfl) rfl), hS, (E_w'.trans Eo9_9_3), (huo9_2_6.ext Eo9_9_3), (huo9_4_6.ext Eo9_9_3), (huo9_4_9.ext Eo9_9_3)⟩, _, rfl, fun u hu => by cases hu <;> rfl⟩
   ·
    intro fa w' hΦ hF hB
    obtain ⟨Ao9_2_4, co9_2_5, Ao9_4_4, co9_4_5, Ao9_4_7, co9_4_8, go9_10_1, hA, hS, E_w', huo9_2_6, huo9_4_6, huo9_4_9⟩ := hΦ
    refine wop rfl rfl ?_
    refine op_alloc (X := (go9_10_1 :: (g77 :: (g73 :: (g56 :: (g44 :: (g5 :: (g1 :: X)))))))) hF hS rfl TfV.zero24 ?_
    intro go9_9_1 wo9_9_2 hgo9_9_4 hS Eo9_9_3 hF
    replace hS : St w wo9_9_2 [(go9_9_1, 24, #[(.bool (false)), (.slice (none) (0) (0))]), (go9_10_1, 24, #[(.bool (false)), (.slice (none) (0) (0))]), (g77, 24, (ic (A70) (c71) ((if (((xx : Nat) : Int)) = 0 then 0 else a.fmod (((xx : Nat) : Int)))))), (g73, 24, (ic (A67) (c68) (((a.natAbs / xx : Nat) : Int)))), (g56, 24, (ic (A53) (c54) (((2 : Int))))), (g44, 24, (ic (Ax) (cx) (((xx : Nat) : Int)))), (g5, 24, #[(.bool (false)), (.slice (none) (0) (0))]), (g1, 24, (ic (A_a) (c_a) (a)))] := hS
    replace hS : St w wo9_9_2 [(go9_10_1, 24, #[(.bool (false)), (.slice (none) (0) (0))]), (go9_9_1, 24, #[(.bool (false)), (.slice (none) (0) (0))]), (g77, 24, (ic (A70) (c71) ((if (((xx : Nat) : Int)) = 0 then 0 else a.fmod (((xx : Nat) : Int)))))), (g73, 24, (ic (A67) (c68) (((a.natAbs / xx : Nat) : Int)))), (g56, 24, (ic (A53) (c54) (((2 : Int))))), (g44, 24, (ic (Ax) (cx) (((xx : Nat) : Int)))), (g5, 24, #[(.bool (false)), (.slice (none) (0) (0))]), (g1, 24, (ic (A_a) (c_a) (a)))] := hS.perm (List.Perm.swap _ _ _)
    have E87 : Ext wo9_9_2 (go9_9_1 :: (go9_10_1 :: (g77 :: (g73 :: (g56 :: (g44 :: (g5 :: (g1 :: X)))))))) wo9_9_2 (go9_10_1 :: (go9_9_1 :: (g77 :: (g73 :: (g56 :: (g44 :: (g5 :: (g1 :: X)))))))) := Ext.drop (by simp +contextual)
    have hA1 := ((hA.put_other _ rfl).cons (hF.get 10 _ rfl))
    exact ⟨16, rfl, ⟨Ao9_2_4, co9_2_5, Ao9_4_4, co9_4_5, Ao9_4_7, co9_4_8, go9_9_1, go9_10_1, (hA1.take (hA1.take (hA1.take (hA1.take hA1.nil rfl) rfl) rfl) rfl), hS, ((E_w'.trans Eo9_9_3).trans E87), (huo9_2_6.ext (Eo9_9_3.trans E87)), (huo9_4_6.ext (Eo9_9_3.trans E87)), (huo9_4_9.ext (Eo9_9_3.trans E87))⟩, _, rfl, fun u hu => by cases hu <;> rfl⟩
   ·
    intro fa w' hΦ hF hB
    obtain ⟨Ao9_2_4, co9_2_5, Ao9_4_4, co9_4_5, Ao9_4_7, co9_4_8, hA, hS, E_w', huo9_2_6, huo9_4_6, huo9_4_9⟩ := hΦ
    refine wop rfl rfl ?_
    refine op_alloc (X := (g77 :: (g73 :: (g56 :: (g44 :: (g5 :: (g1 :: X))))))) hF hS rfl TfV.zero24 ?_
    intro go9_9_1 wo9_9_2 hgo9_9_4 hS Eo9_9_3 hF
    replace hS : St w wo9_9_2 [(go9_9_1, 24, #[(.bool (false)), (.slice (none) (0) (0))]), (g77, 24, (ic (A70) (c71) ((if (((xx : Nat) : Int)) = 0 then 0 else a.fmod (((xx : Nat) : Int)))))), (g73, 24, (ic (A67) (c68) (((a.natAbs / xx : Nat) : Int)))), (g56, 24, (ic (A53) (c54) (((2 : Int))))), (g44, 24, (ic (Ax) (cx) (((xx : Nat) : Int)))), (g5, 24, #[(.bool (false)), (.slice (none) (0) (0))]), (g1, 24, (ic (A_a) (c_a) (a)))] := hS
    have hA1 := ((hA.put_other _ rfl).cons (hF.get 10 _ rfl))
    exact ⟨18, rfl, ⟨Ao9_2_4, co9_2_5, Ao9_4_4, co9_4_5, Ao9_4_7, co9_4_8, go9_9_1, (hA1.take (hA1.take (hA1.take (hA1.take (hA1.take hA1.nil rfl) rfl) rfl) rfl) rfl), hS, (E_w'.trans Eo9_9_3), (huo9_2_6.ext Eo9_9_3), (huo9_4_6.ext Eo9_9_3), (huo9_4_9.ext Eo9_9_3)⟩, _, rfl, fun u hu => by cases hu <;> rfl⟩
   ·
    intro fa w' hΦ hF hB
    obtain ⟨Ao9_2_4, co9_2_5, Ao9_4_4, co9_4_5, Ao9_4_7, co9_4_8, hA, hS, E_w', huo9_2_6, huo9_4_6, huo9_4_9⟩ := hΦ
    refine wop rfl rfl ?_
    refine op_alloc (X := (g77 :: (g73 :: (g56 :: (g44 :: (g5 :: (g1 :: X))))))) hF hS rfl TfV.zero24 ?_
    intro go9_9_1 wo9_9_2 hgo9_9_4 hS Eo9_9_3 hF
    replace hS : St w wo9_9_2 [(go9_9_1, 24, #[(.bool (false)), (.slice (none) (0) (0))]), (g77, 24, (ic (A70) (c71) ((if (((xx : Nat) : Int)) = 0 then 0 else a.fmod (((xx : Nat) : Int)))))), (g73, 24, (ic (A67) (c68) (((a.natAbs / xx : Nat) : Int)))), (g56, 24, (ic (A53) (c54) (((2 : Int))))), (g44, 24, (ic (Ax) (cx) (((xx : Nat) : Int)))), (g5, 24, #[(.bool (false)), (.slice (none) (0) (0))]), (g1, 24, (ic (A_a) (c_a) (a)))] := hS
    have hA1 := ((hA.put_other _ rfl).cons (hF.get 10 _ rfl))
    exact ⟨20, rfl, ⟨Ao9_2_4, co9_2_5, Ao9_4_4, co9_4_5, Ao9_4_7, co9_4_8, go9_9_1, (hA1.take (hA1.take (hA1.take (hA1.take (hA1.take hA1.nil rfl) rfl) rfl) rfl) rfl), hS, (E_w'.trans Eo9_9_3), (huo9_2_6.ext Eo9_9_3), (huo9_4_6.ext Eo9_9_3), (huo9_4_9.ext Eo9_9_3)⟩, _, rfl, fun u hu => by cases hu <;> rfl⟩
   ·
    intro fa w' hΦ hF hB
    obtain ⟨Ao9_2_4, co9_2_5, Ao9_4_4, co9_4_5, Ao9_4_7, co9_4_8, go9_10_1, hA, hS, E_w', huo9_2_6, huo9_4_6, huo9_4_9⟩ := hΦ
    refine wop rfl rfl ?_
    refine op_alloc (X := (go9_10_1 :: (g77 :: (g73 :: (g56 :: (g44 :: (g5 :: (g1 :: X)))))))) hF hS rfl TfV.zero24 ?_
    intro go9_9_1 wo9_9_2 hgo9_9_4 hS Eo9_9_3 hF
    replace hS : St w wo9_9_2 [(go9_9_1, 24, #[(.bool (false)), (.slice (none) (0) (0))]), (go9_10_1, 24, #[(.bool (false)), (.slice (none) (0) (0))]), (g77, 24, (ic (A70) (c71) ((if (((xx : Nat) : Int)) = 0 then 0 else a.fmod (((xx : Nat) : Int)))))), (g73, 24, (ic (A67) (c68) (((a.natAbs / xx : Nat) : Int)))), (g56, 24, (ic (A53) (c54) (((2 : Int))))), (g44, 24, (ic (Ax) (cx) (((xx : Nat) : Int)))), (g5, 24, #[(.bool (false)), (.slice (none) (0) (0))]), (g1, 24, (ic (A_a) (c_a) (a)))] := hS
    replace hS : St w wo9_9_2 [(go9_10_1, 24, #[(.bool (false)), (.slice (none) (0) (0))]), (go9_9_1, 24, #[(.bool (false)), (.slice (none) (0) (0))]), (g77, 24, (ic (A70) (c71) ((if (((xx : Nat) : Int)) = 0 then 0 else a.fmod (((xx : Nat) : Int)))))), (g73, 24, (ic (A67) (c68) (((a.natAbs / xx : Nat) : Int)))), (g56, 24, (ic (A53) (c54) (((2 : Int))))), (g44, 24, (ic (Ax) (cx) (((xx : Nat) : Int)))), (g5, 24, #[(.bool (false)), (.slice (none) (0) (0))]), (g1, 24, (ic (A_a) (c_a) (a)))] := hS.perm (List.Perm.swap _ _ _)
    have E88 : Ext wo9_9_2 (go9_9_1 :: (go9_10_1 :: (g77 :: (g73 :: (g56 :: (g44 :: (g5 :: (g1 :: X)))))))) wo9_9_2 (go9_10_1 :: (go9_9_1 :: (g77 :: (g73 :: (g56 :: (g44 :: (g5 :: (g1 :: X)))))))) := Ext.drop (by simp +contextual)
    have hA1 := ((hA.put_other _ rfl).cons (hF.get 10 _ rfl))
    exact ⟨22, rfl, ⟨Ao9_2_4, co9_2_5, Ao9_4_4, co9_4_5, Ao9_4_7, co9_4_8, go9_9_1, go9_10_1, (hA1.take (hA1.take (hA1.take (hA1.take (hA1.take hA1.nil rfl) rfl) rfl) rfl) rfl), hS, ((E_w'.trans Eo9_9_3).trans E88), (huo9_2_6.ext (Eo9_9_3.trans E88)), (huo9_4_6.ext (Eo9_9_3.trans E88)), (huo9_4_9.ext (Eo9_9_3.trans E88))⟩, _, rfl, fun u hu => by cases hu <;> rfl⟩
   ·
    intro fa w' hΦ hF hB
    obtain ⟨Ao9_2_4, co9_2_5, Ao9_4_4, co9_4_5, Ao9_4_7, co9_4_8, hA, hS, E_w', huo9_2_6, huo9_4_6, huo9_4_9⟩ := hΦ
    refine wop rfl rfl ?_
    refine op_alloc (X := (g77 :: (g73 :: (g56 :: (g44 :: (g5 :: (g1 :: X))))))) hF hS rfl TfV.zero24 ?_
    intro go9_9_1 wo9_9_2 hgo9_9_4 hS Eo9_9_3 hF
    replace hS : St w wo9_9_2 [(go9_9_1, 24, #[(.bool (false)), (.slice (none) (0) (0))]), (g77, 24, (ic (A70) (c71) ((if (((xx : Nat) : Int)) = 0 then 0 else a.fmod (((xx : Nat) : Int)))))), (g73, 24, (ic (A67) (c68) (((a.natAbs / xx : Nat) : Int)))), (g56, 24, (ic (A53) (c54) (((2 : Int))))), (g44, 24, (ic (Ax) (cx) (((xx : Nat) : Int)))), (g5, 24, #[(.bool (false)), (.slice (none) (0) (0))]), (g1, 24, (ic (A_a) (c_a) (a)))] := hS
    have hA1 := ((hA.put_other _ rfl).cons (hF.get 10 _ rfl))
    exact ⟨23, rfl, ⟨Ao9_2_4, co9_2_5, Ao9_4_4, co9_4_5, Ao9_4_7, co9_4_8, go9_9_1, (hA1.take (hA1.take (hA1.take (hA1.take (hA1.take (hA1.take hA1.nil rfl) rfl) rfl) rfl) rfl) rfl), hS, (E_w'.trans Eo9_9_3), (huo9_2_6.ext Eo9_9_3), (huo9_4_6.ext Eo9_9_3), (huo9_4_9.ext Eo9_9_3)⟩, _, rfl, fun u hu => by cases hu <;> rfl⟩
   ·
    intro fa w' hΦ hF hB
    obtain ⟨Ao9_2_4, co9_2_5, Ao9_4_4, co9_4_5, Ao9_4_7, co9_4_8, go9_10_1, hA, hS, E_w', huo9_2_6, huo9_4_6, huo9_4_9⟩ := hΦ
    refine wop rfl rfl ?_
    refine op_alloc (X := (go9_10_1 :: (g77 :: (g73 :: (g56 :: (g44 :: (g5 :: (g1 :: X)))))))) hF hS rfl TfV.zero24 ?_
    intro go9_9_1 wo9_9_2 hgo9_9_4 hS Eo9_9_3 hF
    replace hS : St w wo9_9_2 [(go9_9_1, 24, #[(.bool (false)), (.slice (none) (0) (0))]), (go9_10_1, 24, #[(.bool (false)), (.slice (none) (0) (0))]), (g77, 24, (ic (A70) (c71) ((if (((xx : Nat) : Int)) = 0 then 0 else a.fmod (((xx : Nat) : Int)))))), (g73, 24, (ic (A67) (c68) (((a.natAbs / xx : Nat) : Int)))), (g56, 24, (ic (A53) (c54) (((2 : Int))))), (g44, 24, (ic (Ax) (cx) (((xx : Nat) : Int)))), (g5, 24, #[(.bool (false)), (.slice (none) (0) (0))]), (g1, 24, (ic (A_a) (c_a) (a)))] := hS
    replace hS : St w wo9_9_2 [(go9_10_1, 24, #[(.bool (false)), (.slice (none) (0) (0))]), (go9_9_1, 24, #[(.bool (false)), (.slice (none) (0) (0))]), (g77, 24, (ic (A70) (c71) ((if (((xx : Nat) : Int)) = 0 then 0 else a.fmod (((xx : Nat) : Int)))))), (g73, 24, (ic (A67) (c68) (((a.natAbs / xx : Nat) : Int)))), (g56, 24, (ic (A53) (c54) (((2 : Int))))), (g44, 24, (ic (Ax) (cx) (((xx : Nat) : Int)))), (g5, 24, #[(.bool (false)), (.slice (none) (0) (0))]), (g1, 24, (ic (A_a) (c_a) (a)))] := hS.perm (List.Perm.swap _ _ _)
    have E89 : Ext wo9_9_2 (go9_9_1 :: (go9_10_1 :: (g77 :: (g73 :: (g56 :: (g44 :: (g5 :: (g1 :: X)))))))) wo9_9_2 (go9_10_1 :: (go9_9_1 :: (g77 :: (g73 :: (g56 :: (g44 :: (g5 :: (g1 :: X)))))))) := Ext.drop (by simp +contextual)
    have hA1 := ((hA.put_other _ rfl).cons (hF.get 10 _ rfl))
    exact ⟨25, rfl, ⟨Ao9_2_4, co9_2_5, Ao9_4_4, co9_4_5, Ao9_4_7, co9_4_8, go9_9_1, go9_10_1, (hA1.take (hA1.take (hA1.take (hA1.take (hA1.take (hA1.take hA1.nil rfl) rfl) rfl) rfl) rfl) rfl), hS, ((E_w'.trans Eo9_9_3).trans E89), (huo9_2_6.ext (Eo9_9_3.trans E89)), (huo9_4_6.ext (Eo9_9_3.trans E89)), (huo9_4_9.ext (Eo9_9_3.trans E89))⟩, _, rfl, fun u hu => by cases hu <;> rfl⟩
   ·
    intro fa w' hΦ hF hB
    obtain ⟨Ao9_2_4, co9_2_5, Ao9_4_4, co9_4_5, Ao9_4_7, co9_4_8, go9_10_1, hA, hS, E_w', huo9_2_6, huo9_4_6, huo9_4_9⟩ := hΦ
    refine wop rfl rfl ?_
    refine op_alloc (X := (go9_10_1 :: (g77 :: (g73 :: (g56 :: (g44 :: (g5 :: (g1 :: X)))))))) hF hS rfl TfV.zero24 ?_
    intro go9_9_1 wo9_9_2 hgo9_9_4 hS Eo9_9_3 hF
    replace hS : St w wo9_9_2 [(go9_9_1, 24, #[(.bool (false)), (.slice (none) (0) (0))]), (go9_10_1, 24, #[(.bool (false)), (.slice (none) (0) (0))]), (g77, 24, (ic (A70) (c71) ((if (((xx : Nat) : Int)) = 0 then 0 else a.fmod (((xx : Nat) : Int)))))), (g73, 24, (ic (A67) (c68) (((a.natAbs / xx : Nat) : Int)))), (g56, 24, (ic (A53) (c54) (((2 : Int))))), (g44, 24, (ic (Ax) (cx) (((xx : Nat) : Int)))), (g5, 24, #[(.bool (false)), (.slice (none) (0) (0))]), (g1, 24, (ic (A_a) (c_a) (a)))] := hS
    replace hS : St w wo9_9_2 [(go9_10_1, 24, #[(.bool (false)), (.slice (none) (0) (0))]), (go9_9_1, 24, #[(.bool (false)), (.slice (none) (0) (0))]), (g77, 24, (ic (A70) (c71) ((if (((xx : Nat) : Int)) = 0 then 0 else a.fmod (((xx : Nat) : Int)))))), (g73, 24, (ic (A67) (c68) (((a.natAbs / xx : Nat) : Int)))), (g56, 24, (ic (A53) (c54) (((2 : Int))))), (g44, 24, (ic (Ax) (cx) (((xx : Nat) : Int)))), (g5, 24, #[(.bool (false)), (.slice (none) (0) (0))]), (g1, 24, (ic (A_a) (c_a) (a)))] := hS.perm (List.Perm.swap _ _ _)
    have E90 : Ext wo9_9_2 (go9_9_1 :: (go9_10_1 :: (g77 :: (g73 :: (g56 :: (g44 :: (g5 :: (g1 :: X)))))))) wo9_9_2 (go9_10_1 :: (go9_9_1 :: (g77 :: (g73 :: (g56 :: (g44 :: (g5 :: (g1 :: X)))))))) := Ext.drop (by simp +contextual)
    have hA1 := ((hA.put_other _ rfl).cons (hF.get 10 _ rfl))
    exact ⟨26, rfl, ⟨Ao9_2_4, co9_2_5, Ao9_4_4, co9_4_5, Ao9_4_7, co9_4_8, go9_9_1, go9_10_1, (hA1.take (hA1.take (hA1.take (hA1.take (hA1.take (hA1.take hA1.nil rfl) rfl) rfl) rfl) rfl) rfl), hS, ((E_w'.trans Eo9_9_3).trans E90), (huo9_2_6.ext (Eo9_9_3.trans E90)), (huo9_4_6.ext (Eo9_9_3.trans E90)), (huo9_4_9.ext (Eo9_9_3.trans E90))⟩, _, rfl, fun u hu => by cases hu <;> rfl⟩
   ·
    intro fa w' hΦ hF hB
    obtain ⟨Ao9_2_4, co9_2_5, Ao9_4_4, co9_4_5, Ao9_4_7, co9_4_8, go9_10_1, hA, hS, E_w', huo9_2_6, huo9_4_6, huo9_4_9⟩ := hΦ
    refine wop rfl rfl ?_
    refine op_alloc (X := (go9_10_1 :: (g77 :: (g73 :: (g56 :: (g44 :: (g5 :: (g1 :: X)))))))) hF hS rfl TfV.zero24 ?_
    intro go9_9_1 wo9_9_2 hgo9_9_4 hS Eo9_9_3 hF
    replace hS : St w wo9_9_2 [(go9_9_1, 24, #[(.bool (false)), (.slice (none) (0) (0))]), (go9_10_1, 24, #[(.bool (false)), (.slice (none) (0) (0))]), (g77, 24, (ic (A70) (c71) ((if (((xx : Nat) : Int)) = 0 then 0 else a.fmod (((xx : Nat) : Int)))))), (g73, 24, (ic (A67) (c68) (((a.natAbs / xx : Nat) : Int)))), (g56, 24, (ic (A53) (c54) (((2 : Int))))), (g44, 24, (ic (Ax) (cx) (((xx : Nat) : Int)))), (g5, 24, #[(.bool (false)), (.slice (none) (0) (0))]), (g1, 24, (ic (A_a) (c_a) (a)))] := hS
    replace hS : St w wo9_9_2 [(go9_10_1, 24, #[(.bool (false)), (.slice (none) (0) (0))]), (go9_9_1, 24, #[(.bool (false)), (.slice (none) (0) (0))]), (g77, 24, (ic (A70) (c71) ((if (((xx : Nat) : Int)) = 0 then 0 else a.fmod (((xx : Nat) : Int)))))), (g73, 24, (ic (A67) (c68) (((a.natAbs / xx : Nat) : Int)))), (g56, 24, (ic (A53) (c54) (((2 : Int))))), (g44, 24, (ic (Ax) (cx) (((xx : Nat) : Int)))), (g5, 24, #[(.bool (false)), (.slice (none) (0) (0))]), (g1, 24, (ic (A_a) (c_a) (a)))] := hS.perm (List.Perm.swap _ _ _)
    have E91 : Ext wo9_9_2 (go9_9_1 :: (go9_10_1 :: (g77 :: (g73 :: (g56 :: (g44 :: (g5 :: (g1 :: X)))))))) wo9_9_2 (go9_10_1 :: (go9_9_1 :: (g77 :: (g73 :: (g56 :: (g44 :: (g5 :: (g1 :: X)))))))) := Ext.drop (by simp +contextual)
    have hA1 := ((hA.put_other _ rfl).cons (hF.get 10 _ rfl))
    exact ⟨27, rfl, ⟨Ao9_2_4, co9_2_5, Ao9_4_4, co9_4_5, Ao9_4_7, co9_4_8, go9_9_1, go9_10_1, (hA1.take (hA1.take (hA1.take (hA1.take (hA1.take (hA1.take (hA1.take hA1.nil rfl) rfl) rfl) rfl) rfl) rfl) rfl), hS, ((E_w'.trans Eo9_9_3).trans E91), (huo9_2_6.ext (Eo9_9_3.trans E91)), (huo9_4_6.ext (Eo9_9_3.trans E91)), (huo9_4_9.ext (Eo9_9_3.trans E91))⟩, _, rfl, fun u hu => by cases hu <;> rfl⟩
  ·
   refine .inr (.inr ⟨rfl, ?_, ?_, ?_, ?_, ?_, ?_, ?_, ?_, ?_, ?_, ?_, ?_, ?_, ?_, trivial⟩)
   ·
    intro fa w' hΦ hF hB
    obtain ⟨hA, hS, E_w'⟩ := hΦ
    refine wop rfl rfl ?_
    refine op_alloc (X := (g77 :: (g73 :: (g56 :: (g44 :: (g5 :: (g1 :: X))))))) hF hS rfl TfV.zero24 ?_
    intro go9_10_1 wo9_10_2 hgo9_10_4 hS Eo9_10_3 hF
    replace hS : St w wo9_10_2 [(go9_10_1, 24, #[(.bool (false)), (.slice (none) (0) (0))]), (g77, 24, (ic (A70) (c71) ((if (((xx : Nat) : Int)) = 0 then 0 else a.fmod (((xx : Nat) : Int)))))), (g73, 24, (ic (A67) (c68) (((a.natAbs / xx : Nat) : Int)))), (g56, 24, (ic (A53) (c54) (((2 : Int))))), (g44, 24, (ic (Ax) (cx) (((xx : Nat) : Int)))), (g5, 24, #[(.bool (false)), (.slice (none) (0) (0))]), (g1, 24, (ic (A_a) (c_a) (a)))] := hS
    have hA1 := ((hA.put_other _ rfl).cons (hF.get 11 _ rfl))
    exact ⟨3, rfl, ⟨go9_10_1, (hA1.take hA1.nil rfl), hS, (E_w'.trans Eo9_10_3)⟩, _, rfl, fun u hu => by cases hu <;> rfl⟩
   ·
    intro fa w' hΦ hF hB
    obtain ⟨Ao9_2_4, co9_2_5, hA, hS, E_w', huo9_2_6⟩ := hΦ
    refine wop rfl rfl ?_
    refine op_alloc (X := (g77 :: (g73 :: (g56 :: (g44 :: (g5 :: (g1 :: X))))))) hF hS rfl TfV.zero24 ?_
    intro go9_10_1 wo9_10_2 hgo9_10_4 hS Eo9_10_3 hF
    replace hS : St w wo9_10_2 [(go9_10_1, 24, #[(.bool (false)), (.slice (none) (0) (0))]), (g77, 24, (ic (A70) (c71) ((if (((xx : Nat) : Int)) = 0 then 0 else a.fmod (((xx : Nat) : Int)))))), (g73, 24, (ic (A67) (c68) (((a.natAbs / xx : Nat) : Int)))), (g56, 24, (ic (A53) (c54) (((2 : Int))))), (g44, 24, (ic (Ax) (cx) (((xx : Nat) : Int)))), (g5, 24, #[(.bool (false)), (.slice (none) (0) (0))]), (g1, 24, (ic (A_a) (c_a) (a)))] := hS
    have hA1 := ((hA.put_other _ rfl).cons (hF.get 11 _ rfl))
    exact ⟨6, rfl, ⟨Ao9_2_4, co9_2_5, go9_10_1, (hA1.take (hA1.take hA1.nil rfl) rfl), hS, (E_w'.trans Eo9_10_3), (huo9_2_6.ext Eo9_10_3)⟩, _, rfl, fun u hu => by cases hu <;> rfl⟩
   ·
    intro fa w' hΦ hF hB
    obtain ⟨go9_9_1, hA, hS, E_w'⟩ := hΦ
    refine wop rfl rfl ?_
    refine op_alloc (X := (go9_9_1 :: (g77 :: (g73 :: (g56 :: (g44 :: (g5 :: (g1 :: X)))))))) hF hS rfl TfV.zero24 ?_
    intro go9_10_1 wo9_10_2 hgo9_10_4 hS Eo9_10_3 hF
    replace hS : St w wo9_10_2 [(go9_10_1, 24, #[(.bool (false)), (.slice (none) (0) (0))]), (go9_9_1, 24, #[(.bool (false)), (.slice (none) (0) (0))]), (g77, 24, (ic (A70) (c71) ((if (((xx : Nat) : Int)) = 0 then 0 else a.fmod (((xx : Nat) : Int)))))), (g73, 24, (ic (A67) (c68) (((a.natAbs / xx : Nat) : Int)))), (g56, 24, (ic (A53) (c54) (((2 : Int))))), (g44, 24, (ic (Ax) (cx) (((xx : Nat) : Int)))), (g5, 24, #[(.bool (false)), (.slice (none) (0) (0))]), (g1, 24, (ic (A_a) (c_a) (a)))] := hS
    have hA1 := ((hA.put_other _ rfl).cons (hF.get 11 _ rfl))
    exact ⟨7, rfl, ⟨go9_9_1, go9_10_1, (hA1.take (hA1.take hA1.nil rfl) rfl), hS, (E_w'.trans Eo9_10_3)⟩, _, rfl, fun u hu => by cases hu <;> rfl⟩
   ·
    intro fa w' hΦ hF hB
    obtain ⟨Ao9_2_4, co9_2_5, Ao9_4_4, co9_4_5, Ao9_4_7, co9_4_8, hA, hS, E_w', huo9_2_6, huo9_4_6, huo9_4_9⟩ := hΦ
    refine wop rfl rfl ?_
    refine op_alloc (X := (g77 :: (g73 :: (g56 :: (g44 :: (g5 :: (g1 :: X))))))) hF hS rfl TfV.zero24 ?_
    intro go9_10_1 wo9_10_2 hgo9_10_4 hS Eo9_10_3 hF
    replace hS : St w wo9_10_2 [(go9_10_1, 24, #[(.bool (false)), (.slice (none) (0) (0))]), (g77, 24, (ic (A70) (c71) ((if (((xx : Nat) : Int)) = 0 then 0 else a.fmod (((xx : Nat) : Int)))))), (g73, 24, (ic (A67) (c68) (((a.natAbs / xx : Nat) : Int)))), (g56, 24, (ic (A53) (c54) (((2 : Int))))), (g44, 24, (ic (Ax) (cx) (((xx : Nat) : Int)))), (g5, 24, #[(.bool (false)), (.slice (none) (0) (0))]), (g1, 24, (ic (A_a) (c_a) (a)))] := hS
    have hA1 := ((hA.put_other _ rfl).cons (hF.get 11 _ rfl))
    exact ⟨10, rfl, ⟨Ao9_2_4, co9_2_5, Ao9_4_4, co9_4_5, Ao9_4_7, co9_4_8, go9_10_1, (hA1.take (hA1.take (hA1.take hA1.nil rfl) rfl) rfl), hS, (E_w'.trans Eo9_10_3), (huo9_2_6.ext Eo9_10_3), (huo9_4_6.ext Eo9_10_3), (huo9_4_9.ext Eo9_10_3)⟩, _, rfl, fun u hu => by cases hu <;> rfl⟩
   ·
    intro fa w' hΦ hF hB
    obtain ⟨Ao9_2_4, co9_2_5, go9_9_1, hA, hS, E_w', huo9_2_6⟩ := hΦ
    refine wop rfl rfl ?_
    refine op_alloc (X := (go9_9_1 :: (g77 :: (g73 :: (g56 :: (g44 :: (g5 :: (g1 :: X)))))))) hF hS rfl TfV.zero24 ?_
    intro go9_10_1 wo9_10_2 hgo9_10_4 hS Eo9_10_3 hF
    replace hS : St w wo9_10_2 [(go9_10_1, 24, #[(.bool (false)), (.slice (none) (0) (0))]), (go9_9_1, 24, #[(.bool (false)), (.slice (none) (0) (0))]), (g77, 24, (ic (A70) (c71) ((if (((xx : Nat) : Int)) = 0 then 0 else a.fmod (((xx : Nat) : Int)))))), (g73, 24, (ic (A67) (c68) (((a.natAbs / xx : Nat) : Int)))), (g56, 24, (ic (A53) (c54) (((2 : Int))))), (g44, 24, (ic (Ax) (cx) (((xx : Nat) : Int)))), (g5, 24, #[(.bool (false)), (.slice (none) (0) (0))]), (g1, 24, (ic (A_a) (c_a) (a)))] := hS
    have hA1 := ((hA.put_other _ rfl).cons (hF.get 11 _ rfl))
    exact ⟨11, rfl, ⟨Ao9_2_4, co9_2_5, go9_9_1, go9_10_1, (hA1.take (hA1.take (hA1.take hA1.nil rfl) rfl) rfl), hS, (E_w'.trans Eo9_10_3), (huo9_2_6.ext Eo9_10_3)⟩, _, rfl, fun u hu => by cases hu <;> rfl⟩
   ·
    intro fa w' hΦ hF hB
    obtain ⟨Ao9_2_4, co9_2_5, Ao9_4_4, co9_4_5, Ao9_4_7, co9_4_8, hA, hS, E_w', huo9_2_6, huo9_4_6, huo9_4_9⟩ := hΦ
    refine wop rfl rfl ?_
    refine op_alloc (X := (g77 :: (g73 :: (g56 :: (g44 :: (g5 :: (g1 :: X))))))) hF hS rfl TfV.zero24 ?_
    intro go9_10_1 wo9_10_2 hgo9_10_4 hS Eo9_10_3 hF
    replace hS : St w wo9_10_2 [(go9_10_1, 24, #[(.bool (false)), (.slice (none) (0) (0))]), (g77, 24, (ic (A70) (c71) ((if (((xx : Nat) : Int)) = 0 then 0 else a.fmod (((xx : Nat) : Int)))))), (g73, 24, (ic (A67) (c68) (((a.natAbs / xx : Nat) : Int)))), (g56, 24, (ic (A53) (c54) (((2 : Int))))), (g44, 24, (ic (Ax) (cx) (((xx : Nat) : Int)))), (g5, 24, #[(.bool (false)), (.slice (none) (0) (0))]), (g1, 24, (ic (A_a) (c_a) (a)))] := hS
    have hA1 := ((hA.put_other _ rfl).cons (hF.get 11 _ rfl))
    exact ⟨15, rfl, ⟨Ao9_2_4, co9_2_5, Ao9_4_4, co9_4_5, Ao9_4_7, co9_4_8, go9_10_1, (hA1.take (hA1.take (hA1.take (hA1.take hA1.nil rfl) rfl) rfl) rfl), hS, (E_w'.trans Eo9_10_3), (huo9_2_6.ext Eo9_10_3), (huo9_4_6.ext Eo9_10_3), (huo9_4_9.ext Eo9_10_3)⟩, _, rfl, fun u hu => by cases hu <;> rfl⟩
   ·
    intro fa w' hΦ hF hB
    obtain ⟨Ao9_2_4, co9_2_5, Ao9_4_4, co9_4_5, Ao9_4_7, co9_4_8, go9_9_1, hA, hS, E_w', huo9_2_6, huo9_4_6, huo9_4_9⟩ := hΦ
    refine wop rfl rfl ?_
    refine op_alloc (X := (go9_9_1 :: (g77 :: (g73 :: (g56 :: (g44 :: (g5 :: (g1 :: X)))))))) hF hS rfl TfV.zero24 ?_
    intro go9_10_1 wo9_10_2 hgo9_10_4 hS Eo9_10_3 hF
    replace hS : St w wo9_10_2 [(go9_10_1, 24, #[(.bool (false)), (.slice (none) (0) (0))]), (go9_9_1, 24, #[(.bool (false)), (.slice (none) (0) (0))]), (g77, 24, (ic (A70) (c71) ((if (((xx : Nat) : Int)) = 0 then 0 else a.fmod (((xx : Nat) : Int)))))), (g73, 24, (ic (A67) (c68) (((a.natAbs / xx : Nat) : Int)))), (g56, 24, (ic (A53) (c54) (((2 : Int))))), (g44, 24, (ic (Ax) (cx) (((xx : Nat) : Int)))), (g5, 24, #[(.bool (false)), (.slice (none) (0) (0))]), (g1, 24, (ic (A_a) (c_a) (a)))] := hS
    have hA1 := ((hA.put_other _ rfl).cons (hF.get 11 _ rfl))
    exact ⟨16, rfl, ⟨Ao9_2_4, co9_2_5, Ao9_4_4, co9_4_5, Ao9_4_7, co9_4_8, go9_9_1, go9_10_1, (hA1.take (hA1.take (hA1.take (hA1.take hA1.nil rfl) rfl) rfl) rfl), hS, (E_w'.trans Eo9_10_3), (huo9_2_6.ext Eo9_10_3), (huo9_4_6.ext Eo9_10_3), (huo9_4_9.ext Eo9_10_3)⟩, _, rfl, fun u hu => by cases hu <;> rfl⟩
   ·
    intro fa w' hΦ hF hB
    obtain ⟨Ao9_2_4, co9_2_5, Ao9_4_4, co9_4_5, Ao9_4_7, co9_4_8, hA, hS, E_w', huo9_2_6, huo9_4_6, huo9_4_9⟩ := hΦ
    refine wop rfl rfl ?_
    refine op_alloc (X := (g77 :: (g73 :: (g56 :: (g44 :: (g5 :: (g1 :: X))))))) hF hS rfl TfV.zero24 ?_
    intro go9_10_1 wo9_10_2 hgo9_10_4 hS Eo9_10_3 hF
    replace hS : St w wo9_10_2 [(go9_10_1, 24, #[(.bool (false)), (.slice (none) (0) (0))]), (g77, 24, (ic (A70) (c71) ((if (((xx : Nat) : Int)) = 0 then 0 else a.fmod (((xx : Nat) : Int)))))), (g73, 24, (ic (A67) (c68) (((a.natAbs / xx : Nat) : Int)))), (g56, 24, (ic (A53) (c54) (((2 : Int))))), (g44, 24, (ic (Ax) (cx) (((xx : Nat) : Int)))), (g5, 24, #[(.bool (false)), (.slice (none) (0) (0))]), (g1, 24, (ic (A_a) (c_a) (a)))] := hS
    have hA1 := ((hA.put_other _ rfl).cons (hF.get 11 _ rfl))
    exact ⟨19, rfl, ⟨Ao9_2_4, co9_2_5, Ao9_4_4, co9_4_5, Ao9_4_7, co9_4_8, go9_10_1, (hA1.take (hA1.take (hA1.take (hA1.take (hA1.take hA1.nil rfl) rfl) rfl) rfl) rfl), hS, (E_w'.trans Eo9_10_3), (huo9_2_6.ext Eo9_10_3), (huo9_4_6.ext Eo9_10_3), (huo9_4_9.ext Eo9_10_3)⟩, _, rfl, fun u hu => by cases hu <;> rfl⟩
   ·
    intro fa w' hΦ hF hB
    obtain ⟨Ao9_2_4, co9_2_5, Ao9_4_4, co9_4_5, Ao9_4_7, co9_4_8, hA, hS, E_w', huo9_2_6, huo9_4_6, huo9_4_9⟩ := hΦ
    refine wop rfl rfl ?_
    refine op_alloc (X := (g77 :: (g73 :: (g56 :: (g44 :: (g5 :: (g1 :: X))))))) hF hS rfl TfV.zero24 ?_
    intro go9_10_1 wo9_10_2 hgo9_10_4 hS Eo9_10_3 hF
    replace hS : St w wo9_10_2 [(go9_10_1, 24, #[(.bool (false)), (.slice (none) (0) (0))]), (g77, 24, (ic (A70) (c71) ((if (((xx : Nat) : Int)) = 0 then 0 else a.fmod (((xx : Nat) : Int)))))), (g73, 24, (ic (A67) (c68) (((a.natAbs / xx : Nat) : Int)))), (g56, 24, (ic (A53) (c54) (((2 : Int))))), (g44, 24, (ic (Ax) (cx) (((xx : Nat) : Int)))), (g5, 24, #[(.bool (false)), (.slice (none) (0) (0))]), (g1, 24, (ic (A_a) (c_a) (a)))] := hS
    have hA1 := ((hA.put_other _ rfl).cons (hF.get 11 _ rfl))
    exact ⟨21, rfl, ⟨Ao9_2_4, co9_2_5, Ao9_4_4, co9_4_5, Ao9_4_7, co9_4_8, go9_10_1, (hA1.take (hA1.take (hA1.take (hA1.take (hA1.take hA1.nil rfl) rfl) rfl) rfl) rfl), hS, (E_w'.trans Eo9_10_3), (huo9_2_6.ext Eo9_10_3), (huo9_4_6.ext Eo9_10_3), (huo9_4_9.ext Eo9_10_3)⟩, _, rfl, fun u hu => by cases hu <;> rfl⟩
   ·
    intro fa w' hΦ hF hB
    obtain ⟨Ao9_2_4, co9_2_5, Ao9_4_4, co9_4_5, Ao9_4_7, co9_4_8, go9_9_1, hA, hS, E_w', huo9_2_6, huo9_4_6, huo9_4_9⟩ := hΦ
    refine wop rfl rfl ?_
    refine op_alloc (X := (go9_9_1 :: (g77 :: (g73 :: (g56 :: (g44 :: (g5 :: (g1 :: X)))))))) hF hS rfl TfV.zero24 ?_
    intro go9_10_1 wo9_10_2 hgo9_10_4 hS Eo9_10_3 hF
    replace hS : St w wo9_10_2 [(go9_10_1, 24, #[(.bool (false)), (.slice (none) (0) (0))]), (go9_9_1, 24, #[(.bool (false)), (.slice (none) (0) (0))]), (g77, 24, (ic (A70) (c71) ((if (((xx : Nat) : Int)) = 0 then 0 else a.fmod (((xx : Nat) : Int)))))), (g73, 24, (ic (A67) (c68) (((a.natAbs / xx : Nat) : Int)))), (g56, 24, (ic (A53) (c54) (((2 : Int))))), (g44, 24, (ic (Ax) (cx) (((xx : Nat) : Int)))), (g5, 24, #[(.bool (false)), (.slice (none) (0) (0))]), (g1, 24, (ic (A_a) (c_a) (a)))] := hS
    have hA1 := ((hA.put_other _ rfl).cons (hF.get 11 _ rfl))
    exact ⟨22, rfl, ⟨Ao9_2_4, co9_2_5, Ao9_4_4, co9_4_5, Ao9_4_7, co9_4_8, go9_9_1, go9_10_1, (hA1.take (hA1.take (hA1.take (hA1.take (hA1.take hA1.nil rfl) rfl) rfl) rfl) rfl), hS, (E_w'.trans Eo9_10_3), (huo9_2_6.ext Eo9_10_3), (huo9_4_6.ext Eo9_10_3), (huo9_4_9.ext Eo9_10_3)⟩, _, rfl, fun u hu => by cases hu <;> rfl⟩
   ·
    intro fa w' hΦ hF hB
    obtain ⟨Ao9_2_4, co9_2_5, Ao9_4_4, co9_4_5, Ao9_4_7, co9_4_8, hA, hS, E_w', huo9_2_6, huo9_4_6, huo9_4_9⟩ := hΦ
    refine wop rfl rfl ?_
    refine op_alloc (X := (g77 :: (g73 :: (g56 :: (g44 :: (g5 :: (g1 :: X))))))) hF hS rfl TfV.zero24 ?_
    intro go9_10_1 wo9_10_2 hgo9_10_4 hS Eo9_10_3 hF
    replace hS : St w wo9_10_2 [(go9_10_1, 24, #[(.bool (false)), (.slice (none) (0) (0))]), (g77, 24, (ic (A70) (c71) ((if (((xx : Nat) : Int)) = 0 then 0 else a.fmod (((xx : Nat) : Int)))))), (g73, 24, (ic (A67) (c68) (((a.natAbs / xx : Nat) : Int)))), (g56, 24, (ic (A53) (c54) (((2 : Int))))), (g44, 24, (ic (Ax) (cx) (((xx : Nat) : Int)))), (g5, 24, #[(.bool (false)), (.slice (none) (0) (0))]), (g1, 24, (ic (A_a) (c_a) (a)))] := hS
    have hA1 := ((hA.put_other _ rfl).cons (hF.get 11 _ rfl))
    exact ⟨24, rfl, ⟨Ao9_2_4, co9_2_5, Ao9_4_4, co9_4_5, Ao9_4_7, co9_4_8, go9_10_1, (hA1.take (hA1.take (hA1.take (hA1.take (hA1.take (hA1.take hA1.nil rfl) rfl) rfl) rfl) rfl) rfl), hS, (E_w'.trans Eo9_10_3), (huo9_2_6.ext Eo9_10_3), (huo9_4_6.ext Eo9_10_3), (huo9_4_9.ext Eo9_10_3)⟩, _, rfl, fun u hu => by cases hu <;> rfl⟩
   ·
    intro fa w' hΦ hF hB
    obtain ⟨Ao9_2_4, co9_2_5, Ao9_4_4, co9_4_5, Ao9_4_7, co9_4_8, go9_9_1, hA, hS, E_w', huo9_2_6, huo9_4_6, huo9_4_9⟩ := hΦ
    refine wop rfl rfl ?_
    refine op_alloc (X := (go9_9_1 :: (g77 :: (g73 :: (g56 :: (g44 :: (g5 :: (g1 :: X)))))))) hF hS rfl TfV.zero24 ?_
    intro go9_10_1 wo9_10_2 hgo9_10_4 hS Eo9_10_3 hF
    replace hS : St w wo9_10_2 [(go9_10_1, 24, #[(.bool (false)), (.slice (none) (0) (0))]), (go9_9_1, 24, #[(.bool (false)), (.slice (none) (0) (0))]), (g77, 24, (ic (A70) (c71) ((if (((xx : Nat) : Int)) = 0 then 0 else a.fmod (((xx : Nat) : Int)))))), (g73, 24, (ic (A67) (c68) (((a.natAbs / xx : Nat) : Int)))), (g56, 24, (ic (A53) (c54) (((2 : Int))))), (g44, 24, (ic (Ax) (cx) (((xx : Nat) : Int)))), (g5, 24, #[(.bool (false)), (.slice (none) (0) (0))]), (g1, 24, (ic (A_a) (c_a) (a)))] := hS
    have hA1 := ((hA.put_other _ rfl).cons (hF.get 11 _ rfl))
    exact ⟨25, rfl, ⟨Ao9_2_4, co9_2_5, Ao9_4_4, co9_4_5, Ao9_4_7, co9_4_8, go9_9_1, go9_10_1, (hA1.take (hA1.take (hA1.take (hA1.take (hA1.take (hA1.take hA1.nil rfl) rfl) rfl) rfl) rfl) rfl), hS, (E_w'.trans Eo9_10_3), (huo9_2_6.ext Eo9_10_3), (huo9_4_6.ext Eo9_10_3), (huo9_4_9.ext Eo9_10_3)⟩, _, rfl, fun u hu => by cases hu <;> rfl⟩
   ·
    intro fa w' hΦ hF hB
    obtain ⟨Ao9_2_4, co9_2_5, Ao9_4_4, co9_4_5, Ao9_4_7, co9_4_8, go9_9_1, hA, hS, E_w', huo9_2_6, huo9_4_6, huo9_4_9⟩ := hΦ
    refine wop rfl rfl ?_
    refine op_alloc (X := (go9_9_1 :: (g77 :: (g73 :: (g56 :: (g44 :: (g5 :: (g1 :: X)))))))) hF hS rfl TfV.zero24 ?_
    intro go9_10_1 wo9_10_2 hgo9_10_4 hS Eo9_10_3 hF
    replace hS : St w wo9_10_2 [(go9_10_1, 24, #[(.bool (false)), (.slice (none) (0) (0))]), (go9_9_1, 24, #[(.bool (false)), (.slice (none) (0) (0))]), (g77, 24, (ic (A70) (c71) ((if (((xx : Nat) : Int)) = 0 then 0 else a.fmod (((xx : Nat) : Int)))))), (g73, 24, (ic (A67) (c68) (((a.natAbs / xx : Nat) : Int)))), (g56, 24, (ic (A53) (c54) (((2 : Int))))), (g44, 24, (ic (Ax) (cx) (((xx : Nat) : Int)))), (g5, 24, #[(.bool (false)), (.slice (none) (0) (0))]), (g1, 24, (ic (A_a) (c_a) (a)))] := hS
    have hA1 := ((hA.put_other _ rfl).cons (hF.get 11 _ rfl))
    exact ⟨26, rfl, ⟨Ao9_2_4, co9_2_5, Ao9_4_4, co9_4_5, Ao9_4_7, co9_4_8, go9_9_1, go9_10_1, (hA1.take (hA1.take (hA1.take (hA1.take (hA1.take (hA1.take hA1.nil rfl) rfl) rfl) rfl) rfl) rfl), hS, (E_w'.trans Eo9_10_3), (huo9_2_6.ext Eo9_10_3), (huo9_4_6.ext Eo9_10_3), (huo9_4_9.ext Eo9_10_3)⟩, _, rfl, fun u hu => by cases hu <;> rfl⟩
   ·
    intro fa w' hΦ hF hB
    obtain ⟨Ao9_2_4, co9_2_5, Ao9_4_4, co9_4_5, Ao9_4_7, co9_4_8, go9_9_1, hA, hS, E_w', huo9_2_6, huo9_4_6, huo9_4_9⟩ := hΦ
    refine wop rfl rfl ?_
    refine op_alloc (X := (go9_9_1 :: (g77 :: (g73 :: (g56 :: (g44 :: (g5 :: (g1 :: X)))))))) hF hS rfl TfV.zero24 ?_
    intro go9_10_1 wo9_10_2 hgo9_10_4 hS Eo9_10_3 hF
    replace hS : St w wo9_10_2 [(go9_10_1, 24, #[(.bool (false)), (.slice (none) (0) (0))]), (go9_9_1, 24, #[(.bool (false)), (.slice (none) (0) (0))]), (g77, 24, (ic (A70) (c71) ((if (((xx : Nat) : Int)) = 0 then 0 else a.fmod (((xx : Nat) : Int)))))), (g73, 24, (ic (A67) (c68) (((a.natAbs / xx : Nat) : Int)))), (g56, 24, (ic (A53) (c54) (((2 : Int))))), (g44, 24, (ic (Ax) (cx) (((xx : Nat) : Int)))), (g5, 24, #[(.bool (false)), (.slice (none) (0) (0))]), (g1, 24, (ic (A_a) (c_a) (a)))] := hS
    have hA1 := ((hA.put_other _ rfl).cons (hF.get 11 _ rfl))
    exact ⟨27, rfl, ⟨Ao9_2_4, co9_2_5, Ao9_4_4, co9_4_5, Ao9_4_7, co9_4_8, go9_9_1, go9_10_1, (hA1.take (hA1.take (hA1.take (hA1.take (hA1.take (hA1.take (hA1.take hA1.nil rfl) rfl) rfl) rfl) rfl) rfl) rfl), hS, (E_w'.trans Eo9_10_3), (huo9_2_6.ext Eo9_10_3), (huo9_4_6.ext Eo9_10_3), (huo9_4_9.ext Eo9_10_3)⟩, _, rfl, fun u hu => by cases hu <;> rfl⟩
  ·
   refine .inr (.inr ⟨rfl, ?_, ?_, trivial⟩)
   ·
    intro fa w' hΦ hF hB
    obtain ⟨Ao9_2_4, co9_2_5, Ao9_4_4, co9_4_5, Ao9_4_7, co9_4_8, go9_9_1, go9_10_1, hA, hS, E_w', huo9_2_6, huo9_4_6, huo9_4_9⟩ := hΦ
    replace hF := hF.cons (hA.get 10 _ rfl)
    replace hF := hF.cons (hA.get 45 _ rfl)
    refine wop rfl rfl ?_
    refine op_store (X := (go9_10_1 :: (go9_9_1 :: (g77 :: (g73 :: (g56 :: (g44 :: (g5 :: (g1 :: X))))))))) hF hS 1 rfl (by simp) rfl rfl rfl TfV.size24 rfl (Nat.le_of_ble_eq_true rfl) ?_
    intro wo9_11_1 hS Eo9_11_2
    replace hS : St w wo9_11_1 [(go9_10_1, 24, #[(.bool (false)), (.slice (none) (0) (0))]), (go9_9_1, 24, (ic (Ao9_4_4) (co9_4_5) ((((xx + a.natAbs / xx) / 2 : Nat) : Int)))), (g77, 24, (ic (A70) (c71) ((if (((xx : Nat) : Int)) = 0 then 0 else a.fmod (((xx : Nat) : Int)))))), (g73, 24, (ic (A67) (c68) (((a.natAbs / xx : Nat) : Int)))), (g56, 24, (ic (A53) (c54) (((2 : Int))))), (g44, 24, (ic (Ax) (cx) (((xx : Nat) : Int)))), (g5, 24, #[(.bool (false)), (.slice (none) (0) (0))]), (g1, 24, (ic (A_a) (c_a) (a)))] := hS
    exact ⟨28, rfl, ⟨Ao9_2_4, co9_2_5, Ao9_4_4, co9_4_5, Ao9_4_7, co9_4_8, go9_9_1, go9_10_1, hA, hS, (E_w'.trans Eo9_11_2), (huo9_2_6.ext Eo9_11_2), (huo9_4_6.ext Eo9_11_2), (huo9_4_9.ext Eo9_11_2)⟩, undef, rfl, fun u hu => by cases hu <;> rfl⟩
   ·
    intro fa w' hΦ hF hB
    obtain ⟨Ao9_2_4, co9_2_5, Ao9_4_4, co9_4_5, Ao9_4_7, co9_4_8, go9_9_1, go9_10_1, hA, hS, E_w', huo9_2_6, huo9_4_6, huo9_4_9⟩ := hΦ
    replace hF := hF.cons (hA.get 10 _ rfl)
    replace hF := hF.cons (hA.get 45 _ rfl)
    refine wop rfl rfl ?_
    refine op_store (X := (go9_10_1 :: (go9_9_1 :: (g77 :: (g73 :: (g56 :: (g44 :: (g5 :: (g1 :: X))))))))) hF hS 1 rfl (by simp) rfl rfl rfl TfV.size24 rfl (Nat.le_of_ble_eq_true rfl) ?_
    intro wo9_11_1 hS Eo9_11_2
    replace hS : St w wo9_11_1 [(go9_10_1, 24, #[(.bool (false)), (.slice (none) (0) (0))]), (go9_9_1, 24, (ic (Ao9_4_4) (co9_4_5) ((((xx + a.natAbs / xx) / 2 : Nat) : Int)))), (g77, 24, (ic (A70) (c71) ((if (((xx : Nat) : Int)) = 0 then 0 else a.fmod (((xx : Nat) : Int)))))), (g73, 24, (ic (A67) (c68) (((a.natAbs / xx : Nat) : Int)))), (g56, 24, (ic (A53) (c54) (((2 : Int))))), (g44, 24, (ic (Ax) (cx) (((xx : Nat) : Int)))), (g5, 24, #[(.bool (false)), (.slice (none) (0) (0))]), (g1, 24, (ic (A_a) (c_a) (a)))] := hS
    exact ⟨29, rfl, ⟨Ao9_2_4, co9_2_5, Ao9_4_4, co9_4_5, Ao9_4_7, co9_4_8, go9_9_1, go9_10_1, hA, hS, (E_w'.trans Eo9_11_2), (huo9_2_6.ext Eo9_11_2), (huo9_4_6.ext Eo9_11_2), (huo9_4_9.ext Eo9_11_2)⟩, undef, rfl, fun u hu => by cases hu <;> rfl⟩
  ·
   refine .inr (.inr ⟨rfl, ?_, trivial⟩)
   ·
    intro fa w' hΦ hF hB
    obtain ⟨Ao9_2_4, co9_2_5, Ao9_4_4, co9_4_5, Ao9_4_7, co9_4_8, go9_9_1, go9_10_1, hA, hS, E_w', huo9_2_6, huo9_4_6, huo9_4_9⟩ := hΦ
    replace hF := hF.cons (hA.get 11 _ rfl)
    replace hF := hF.cons (hA.get 46 _ rfl)
    refine wop rfl rfl ?_
    refine op_store (X := (go9_10_1 :: (go9_9_1 :: (g77 :: (g73 :: (g56 :: (g44 :: (g5 :: (g1 :: X))))))))) hF hS 0 rfl (by simp) rfl rfl rfl TfV.size24 rfl (Nat.le_of_ble_eq_true rfl) ?_
    intro wo9_12_1 hS Eo9_12_2
    replace hS : St w wo9_12_1 [(go9_10_1, 24, (ic (Ao9_4_7) (co9_4_8) (((((xx : Nat) : Int) + ((a.natAbs / xx : Nat) : Int)).fmod 2)))), (go9_9_1, 24, (ic (Ao9_4_4) (co9_4_5) ((((xx + a.natAbs / xx) / 2 : Nat) : Int)))), (g77, 24, (ic (A70) (c71) ((if (((xx : Nat) : Int)) = 0 then 0 else a.fmod (((xx : Nat) : Int)))))), (g73, 24, (ic (A67) (c68) (((a.natAbs / xx : Nat) : Int)))), (g56, 24, (ic (A53) (c54) (((2 : Int))))), (g44, 24, (ic (Ax) (cx) (((xx : Nat) : Int)))), (g5, 24, #[(.bool (false)), (.slice (none) (0) (0))]), (g1, 24, (ic (A_a) (c_a) (a)))] := hS
    exact ⟨30, rfl, ⟨Ao9_2_4, co9_2_5, Ao9_4_4, co9_4_5, Ao9_4_7, co9_4_8, go9_9_1, go9_10_1, hA, hS, (E_w'.trans Eo9_12_2), (huo9_2_6.ext Eo9_12_2), (huo9_4_6.ext Eo9_12_2), (huo9_4_9.ext Eo9_12_2)⟩, undef, rfl, fun u hu => by cases hu <;> rfl⟩
  ·
   refine .inl ⟨rfl, _, _, rfl, rfl, fun s fa w' hΦ hF hB K hK => ?_⟩
   replace hF := hF.cons (hB.val 8 _ 47 _ rfl rfl rfl rfl)
   exact fl_val rfl rfl rfl (ex_assign (hF.ev rfl)) hK
 intro fa w92 hΦ hF hC
 obtain ⟨Ao9_2_4, co9_2_5, Ao9_4_4, co9_4_5, Ao9_4_7, co9_4_8, go9_9_1, go9_10_1, hA, hS, E_w92, huo9_2_6, huo9_4_6, huo9_4_9⟩ := hΦ
 replace hF := hF.cons (hA.get 10 _ rfl)
 clear hA hC
 refine x_tn ?_
 refine c_seq ?_
 refine c_seq ?_
 refine c_reg ?_
 refine st_val hF rfl rfl rfl (ex_loadb TfV.row24 (hF.ev rfl) (hS.get 1 rfl) rfl) ?_
 clear hF fa; intro fa hF
 refine st_val hF rfl rfl rfl (ex_loadb TfV.row24 (hF.ev rfl) (hS.get 5 rfl) rfl) ?_
 clear hF fa; intro fa hF
 have hC := integer_Cmp_ok (w := w92) (X := (go9_10_1 :: (go9_9_1 :: (g77 :: (g73 :: (g56 :: (g44 :: (g5 :: (g1 :: X))))))))) (a := (((xx + a.natAbs / xx) / 2 : Nat) : Int)) (b := ((xx : Nat) : Int)) (hS.bnd hX) (IntV.of_ (n := (lim ((((xx + a.natAbs / xx) / 2 : Nat) : Int)).natAbs).length) (b := decide ((((xx + a.natAbs / xx) / 2 : Nat) : Int) < 0)) (x := (((xx + a.natAbs / xx) / 2 : Nat) : Int)) (huo9_4_6) (rfl) (rfl) (rfl)) (IntV.of_ (n := (lim ((xx : Nat) : Int).natAbs).length) (b := decide (((xx : Nat) : Int) < 0)) (x := ((xx : Nat) : Int)) ((hx.ext (((((E66.trans E75).trans E79).trans E82).trans E84).trans E_w92))) (rfl) (rfl) (rfl))
 refine st rfl (op_call hF rfl TfV.body34 (args2 (hF.ev rfl) (hF.ev rfl)) hC ?_)
 clear hC
 rintro _ w93 ⟨rfl, hb94⟩
 refine gen_ ?_; clear hF fa; intro fa hF
 replace hS := hS.call hb94; have E95 := Ext.call (go9_10_1 :: (go9_9_1 :: (g77 :: (g73 :: (g56 :: (g44 :: (g5 :: (g1 :: X)))))))) hb94
 refine st_val hF rfl rfl rfl (ex_geq (hF.ev rfl) (hF.ev rfl)) ?_
 clear hF fa; intro fa hF
 replace hF : Frm 54 fa [(0, (.agg (ic (A_a) (c_a) (a)))), (1, (.pointer (some ⟨g1, 0, none⟩))), (2, (.pointer (some ⟨g5, 0, none⟩))), (14, (.bool (decide (a < 0)))), (19, (.bool (decide ((((lim a.natAbs).length : Nat) : Int) = 0)))), (4, (.int .i64 ((((((lim a.natAbs).length) + 1) / 2 : Nat) : Int)))), (5, (.pointer (some ⟨g44, 0, none⟩))), (6, (.pointer (some ⟨g56, 0, none⟩))), (7, (.pointer (some ⟨g73, 0, none⟩))), (10, (.pointer (some ⟨go9_9_1, 0, none⟩))), (51, (.bool (decide ((cmpI ((((xx + a.natAbs / xx) / 2 : Nat) : Int)) (((xx : Nat) : Int))) ≥ 0))))] := (hF.take (hF.take (hF.take (hF.take (hF.take (hF.take (hF.take (hF.take (hF.take (hF.take (hF.take hF.nil rfl) rfl) rfl) rfl) rfl) rfl) rfl) rfl) rfl) rfl) rfl)
 refine c_nil_then ?_
 refine c_cond hF rfl (fun hc96 => ?_) (fun hc96 => ?_)
 ·
  have hc96p : (cmpI ((((xx + a.natAbs / xx) / 2 : Nat) : Int)) (((xx : Nat) : Int))) ≥ 0 := by first | simpa using hc96 | exact bang_t hc96 | exact bang_f hc96
  have hge := mt cmpI_lt0.2 (Int.not_lt.2 hc96p)
  refine c_seq ?_
  refine c_reg ?_
  refine st_val hF rfl rfl rfl (ex_loadb TfV.row24 (hF.ev rfl) (hS.get 5 rfl) rfl) ?_
  clear hF fa; intro fa hF
  refine st rfl (op_store (X := (go9_10_1 :: (go9_9_1 :: (g77 :: (g73 :: (g56 :: (g44 :: (g5 :: (g1 :: X))))))))) hF hS 6 rfl (by simp) rfl rfl rfl TfV.size24 rfl (Nat.le_of_ble_eq_true rfl) ?_)
  intro w97 hS E98
  replace hS : St w w97 [(go9_10_1, 24, (ic (Ao9_4_7) (co9_4_8) (((((xx : Nat) : Int) + ((a.natAbs / xx : Nat) : Int)).fmod 2)))), (go9_9_1, 24, (ic (Ao9_4_4) (co9_4_5) ((((xx + a.natAbs / xx) / 2 : Nat) : Int)))), (g77, 24, (ic (A70) (c71) ((if (((xx : Nat) : Int)) = 0 then 0 else a.fmod (((xx : Nat) : Int)))))), (g73, 24, (ic (A67) (c68) (((a.natAbs / xx : Nat) : Int)))), (g56, 24, (ic (A53) (c54) (((2 : Int))))), (g44, 24, (ic (Ax) (cx) (((xx : Nat) : Int)))), (g5, 24, (ic (Ax) (cx) (((xx : Nat) : Int)))), (g1, 24, (ic (A_a) (c_a) (a)))] := hS
  refine st_val hF rfl rfl rfl (ex_assign (hF.ev rfl)) ?_
  clear hF fa; intro fa hF
  refine c_nil_then ?_
  refine c_ret ?_
  refine x_tr ?_
  refine x_br ?_
  refine x_tr ?_
  refine x_br ?_
  refine end2 hF rfl (res_cell hF rfl TfV.row24 (hS.get 6 rfl) rfl) (res_tmp hF rfl) ?_
  exact ⟨_, rfl, ⟨xx, _, _, rfl, (IntV.fin (x := ((xx : Nat) : Int)) ⟨_, rfl, _, _, rfl, (hx.ext (((((((E66.trans E75).trans E79).trans E82).trans E84).trans E_w92).trans E95).trans E98))⟩ (rfl) (fun x hx => by simp [hx])), (congrArg (Value.int .i64) (by rw [if_neg (by omega)])), (.inr ⟨ha0, newton_end hxx rfl (by omega), hxa⟩)⟩, hS.below⟩
 have hc96p : ¬ ((cmpI ((((xx + a.natAbs / xx) / 2 : Nat) : Int)) (((xx : Nat) : Int))) ≥ 0) := by first | simpa using hc96 | exact bang_t hc96 | exact bang_f hc96
 have hlt := cmpI_lt0.1 (Int.not_le.1 hc96p)
 refine c_skip ?_
 refine x_tn ?_
 refine c_reg ?_
 refine st_val hF rfl rfl rfl (ex_loadb TfV.row24 (hF.ev rfl) (hS.get 1 rfl) rfl) ?_
 clear hF fa; intro fa hF
 refine st rfl (op_store (X := (go9_10_1 :: (go9_9_1 :: (g77 :: (g73 :: (g56 :: (g44 :: (g5 :: (g1 :: X))))))))) hF hS 5 rfl (by simp) rfl rfl rfl TfV.size24 rfl (Nat.le_of_ble_eq_true rfl) ?_)
 intro w99 hS E100
 replace hS : St w w99 [(go9_10_1, 24, (ic (Ao9_4_7) (co9_4_8) (((((xx : Nat) : Int) + ((a.natAbs / xx : Nat) : Int)).fmod 2)))), (go9_9_1, 24, (ic (Ao9_4_4) (co9_4_5) ((((xx + a.natAbs / xx) / 2 : Nat) : Int)))), (g77, 24, (ic (A70) (c71) ((if (((xx : Nat) : Int)) = 0 then 0 else a.fmod (((xx : Nat) : Int)))))), (g73, 24, (ic (A67) (c68) (((a.natAbs / xx : Nat) : Int)))), (g56, 24, (ic (A53) (c54) (((2 : Int))))), (g44, 24, (ic (Ao9_4_4) (co9_4_5) ((((xx + a.natAbs / xx) / 2 : Nat) : Int)))), (g5, 24, #[(.bool (false)), (.slice (none) (0) (0))]), (g1, 24, (ic (A_a) (c_a) (a)))] := hS
 refine c_nil ?_
 refine x_bn ?_
 refine x_tn ?_
 replace hS : St w w99 [(go9_9_1, 24, (ic (Ao9_4_4) (co9_4_5) ((((xx + a.natAbs / xx) / 2 : Nat) : Int)))), (g77, 24, (ic (A70) (c71) ((if (((xx : Nat) : Int)) = 0 then 0 else a.fmod (((xx : Nat) : Int)))))), (g73, 24, (ic (A67) (c68) (((a.natAbs / xx : Nat) : Int)))), (g56, 24, (ic (A53) (c54) (((2 : Int))))), (g44, 24, (ic (Ao9_4_4) (co9_4_5) ((((xx + a.natAbs / xx) / 2 : Nat) : Int)))), (g5, 24, #[(.bool (false)), (.slice (none) (0) (0))]), (g1, 24, (ic (A_a) (c_a) (a)))] := hS.drop (List.sublist_cons_self _ _)
 have E101 : Ext w99 (go9_10_1 :: (go9_9_1 :: (g77 :: (g73 :: (g56 :: (g44 :: (g5 :: (g1 :: X)))))))) w99 (go9_9_1 :: (g77 :: (g73 :: (g56 :: (g44 :: (g5 :: (g1 :: X))))))) := Ext.drop (by simp +contextual)
 replace hS : St w w99 [(g77, 24, (ic (A70) (c71) ((if (((xx : Nat) : Int)) = 0 then 0 else a.fmod (((xx : Nat) : Int)))))), (g73, 24, (ic (A67) (c68) (((a.natAbs / xx : Nat) : Int)))), (g56, 24, (ic (A53) (c54) (((2 : Int))))), (g44, 24, (ic (Ao9_4_4) (co9_4_5) ((((xx + a.natAbs / xx) / 2 : Nat) : Int)))), (g5, 24, #[(.bool (false)), (.slice (none) (0) (0))]), (g1, 24, (ic (A_a) (c_a) (a)))] := hS.drop (List.sublist_cons_self _ _)
 have E102 : Ext w99 (go9_9_1 :: (g77 :: (g73 :: (g56 :: (g44 :: (g5 :: (g1 :: X))))))) w99 (g77 :: (g73 :: (g56 :: (g44 :: (g5 :: (g1 :: X)))))) := Ext.drop (by simp +contextual)
 replace hS : St w w99 [(g73, 24, (ic (A67) (c68) (((a.natAbs / xx : Nat) : Int)))), (g56, 24, (ic (A53) (c54) (((2 : Int))))), (g44, 24, (ic (Ao9_4_4) (co9_4_5) ((((xx + a.natAbs / xx) / 2 : Nat) : Int)))), (g5, 24, #[(.bool (false)), (.slice (none) (0) (0))]), (g1, 24, (ic (A_a) (c_a) (a)))] := hS.drop (List.sublist_cons_self _ _)
 have E103 : Ext w99 (g77 :: (g73 :: (g56 :: (g44 :: (g5 :: (g1 :: X)))))) w99 (g73 :: (g56 :: (g44 :: (g5 :: (g1 :: X))))) := Ext.drop (by simp +contextual)
 replace hS : St w w99 [(g56, 24, (ic (A53) (c54) (((2 : Int))))), (g44, 24, (ic (Ao9_4_4) (co9_4_5) ((((xx + a.natAbs / xx) / 2 : Nat) : Int)))), (g5, 24, #[(.bool (false)), (.slice (none) (0) (0))]), (g1, 24, (ic (A_a) (c_a) (a)))] := hS.drop (List.sublist_cons_self _ _)
 have E104 : Ext w99 (g73 :: (g56 :: (g44 :: (g5 :: (g1 :: X))))) w99 (g56 :: (g44 :: (g5 :: (g1 :: X)))) := Ext.drop (by simp +contextual)
 exact ⟨_, (by omega), ((xx + a.natAbs / xx) / 2), Ao9_4_4, co9_4_5, (hF.take (hF.take (hF.take (hF.take (hF.take (hF.take (hF.take (hF.take hF.nil rfl) rfl) rfl) rfl) rfl) rfl) rfl) rfl), hS, ((((((((((((E63.trans E66).trans E75).trans E79).trans E82).trans E84).trans E_w92).trans E95).trans E100).trans E101).trans E102).trans E103).trans E104), (huo9_4_6.ext (((((E95.trans E100).trans E101).trans E102).trans E103).trans E104)), (newton_pos hap hxx rfl), (newton_ge hxx rfl), (Nat.le_trans (sz_mono (by rw [Int.natAbs_natCast, Int.natAbs_natCast]; exact Nat.le_of_lt (Int.ofNat_lt.1 hlt))) hs_xx), rfl⟩

end Go.Proofs.Ytlaojdpcfenlkaa
