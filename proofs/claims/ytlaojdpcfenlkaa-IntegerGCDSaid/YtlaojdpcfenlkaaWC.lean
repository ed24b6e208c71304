/-
  What the functions plus do, each call by call.
  Conditions: none.
-/
import Derived.Test.YtlaojdpcfenlkaaChecked
import Derived.Test.YtlaojdpcfenlkaaSwBaseK
namespace Go.Proofs.Ytlaojdpcfenlkaa
open Go Go.RowKit Go.Sw
set_option linter.unusedVariables false
namespace TfC
theorem el46 : Sw.elemOf Try.prog 46 = some (#[.int .u32 0], 1, 4) := by kernel_rfl
theorem one46 : isOne Try.prog 46 = true := by kernel_rfl
theorem sl22 : sliceOf Try.prog 22 = some (46, 1) := by kernel_rfl
theorem sls22 : (sliceOf Try.prog 22).isSome = true := by kernel_rfl
end TfC
set_option maxHeartbeats 4000000 in
theorem integer_plus_ok {w : World} {X : List Nat} (hX : ∀ m ∈ X, m < w.heap.size) {v_x : Value} {x : List Nat} (h_x : UL w X v_x (x)) {v_y : Value} {y : List Nat} (h_y : UL w X v_y (y)) (hn_x : x.length ≤ 1000000000000) (hn_y : y.length ≤ 1000000000000) (hb_x : Lb x) (hb_y : Lb y) :
    Calls Try.prog 55 #[v_x, v_y] w (Ret fun r w' => (∃ o : List Nat, UL w' X r (o) ∧ Lb o ∧ val o = val x + val y ∧ o.length ≤ x.length + y.length + 1) ∧ Below w.heap.size w w') := by
 refine enter (N := 53) (fn := Try.f55) (vs := [v_x, v_y]) Try.func55 rfl rfl rfl ?_
 intro fa hF
 obtain ⟨A_x, _, c_x, rfl, rfl, hu_x⟩ := h_x
 have hl_x := hu_x.len; have hc_x := hu_x.cap
 obtain ⟨A_y, _, c_y, rfl, rfl, hu_y⟩ := h_y
 have hl_y := hu_y.len; have hc_y := hu_y.cap
 replace hF : Frm 53 fa [(0, (.slice (A_x) (x.length) (c_x))), (1, (.slice (A_y) (y.length) (c_y)))] := hF
 have hS := St.refl w
 refine c_seq ?_
 refine c_reg ?_
 refine st_val hF rfl rfl rfl (ex_assign (hF.ev rfl)) ?_
 clear hF fa; intro fa hF
 refine c_nil_then ?_
 refine c_seq ?_
 refine c_seq ?_
 refine c_reg ?_
 refine st_val hF rfl rfl rfl (ex_move (hF.ev rfl)) ?_
 clear hF fa; intro fa hF
 refine st_val hF rfl rfl rfl (ex_len TfC.sls22 (hF.ev rfl)) ?_
 clear hF fa; intro fa hF
 refine st_val hF rfl rfl rfl (ex_move (hF.ev rfl)) ?_
 clear hF fa; intro fa hF
 refine st_val hF rfl rfl rfl (ex_len TfC.sls22 (hF.ev rfl)) ?_
 clear hF fa; intro fa hF
 refine st_val hF rfl rfl rfl (ex_lss (hF.ev rfl) (hF.ev rfl)) ?_
 clear hF fa; intro fa hF
 refine c_nil_then ?_
 refine c_cond hF rfl (fun hc1 => ?_) (fun hc1 => ?_)
 ·
  have hc1p : ((x.length : Nat) : Int) < ((y.length : Nat) : Int) := by first | simpa using hc1 | exact bang_t hc1 | exact bang_f hc1
  refine c_reg ?_
  refine st_val hF rfl rfl rfl (ex_move (hF.ev rfl)) ?_
  clear hF fa; intro fa hF
  refine st_val hF rfl rfl rfl (ex_move (hF.ev rfl)) ?_
  clear hF fa; intro fa hF
  refine st_val hF rfl rfl rfl (ex_assign (hF.ev rfl)) ?_
  clear hF fa; intro fa hF
  refine st_val hF rfl rfl rfl (ex_assign (hF.ev rfl)) ?_
  clear hF fa; intro fa hF
  refine c_nil_then ?_
  refine c_seq ?_
  refine c_reg ?_
  refine st_val hF rfl rfl rfl (ex_move (hF.ev rfl)) ?_
  clear hF fa; intro fa hF
  refine st_val hF rfl rfl rfl (ex_len TfC.sls22 (hF.ev rfl)) ?_
  clear hF fa; intro fa hF
  refine st_val hF rfl rfl rfl (ex_add (hF.ev rfl) (hF.ev rfl) (wi64 (by omega) (by omega))) ?_
  clear hF fa; intro fa hF
  refine st rfl (op_make (X := X) (nl := 0) (nc := y.length + 1) hF hS rfl TfC.sl22 TfC.el46 rfl rfl (by omega) (by omega) (by omega) (by omega) (by omega) (made_us _) ?_)
  intro g2 w3 hg5 hS E4; refine gen_ ?_; clear hF fa; intro fa hF
  have hO8 := OwV.block 46 g2 (y.length + 1) [] (us (List.replicate ((y.length + 1) * 1) 0)) (by simp) (by unfold maxLen; omega)
  simp only [List.nil_append] at hO8
  have E4 : Ext w X w3 (bl [(g2, 46, (us (List.replicate ((y.length + 1) * 1) 0)).toArray)] ++ X) := E4
  generalize hSo : ([(g2, 46, (us (List.replicate ((y.length + 1) * 1) 0)).toArray)] : List Bx) = So6 at hO8 hS E4
  clear hSo
  refine st_val hF rfl rfl rfl (ex_assign (hF.ev rfl)) ?_
  clear hF fa; intro fa hF
  refine c_nil_then ?_
  refine c_seq ?_
  refine c_reg ?_
  refine st_val hF rfl rfl rfl (ex_assign (hF.ev rfl)) ?_
  clear hF fa; intro fa hF
  refine c_nil_then ?_
  refine c_seq ?_
  refine c_seq ?_
  refine c_reg ?_
  refine st_val hF rfl rfl rfl (ex_move (hF.ev rfl)) ?_
  clear hF fa; intro fa hF
  refine st_val hF rfl rfl rfl (ex_len TfC.sls22 (hF.ev rfl)) ?_
  clear hF fa; intro fa hF
  refine st_val hF rfl rfl rfl (ex_move (hF.ev rfl)) ?_
  clear hF fa; intro fa hF
  refine c_nil_then ?_
  refine c_block ?_
  refine c_loop (fun mu fa w' => ∃ o : List Nat, ∃ cr : Nat, ∃ k : Nat, ∃ vo : Value, ∃ So : List Bx, Frm 53 fa [(0, (.slice (A_y) (y.length) (c_y))), (1, (.slice (A_x) (x.length) (c_x))), (4, (.slice (none) (0) (0))), (13, (.bool (decide (((x.length : Nat) : Int) < ((y.length : Nat) : Int))))), (20, (.slice (A_y) (y.length) (c_y))), (21, (.int .i64 (((y.length : Nat) : Int)))), (5, vo), (6, (.int .u32 (((cr : Nat) : Int)))), (22, (.int .i64 (((k : Nat) : Int))))] ∧ St w w' So ∧ Ext w3 (bl So6 ++ X) w' (bl So ++ X) ∧ (OwV 46 So vo (us o)) ∧ (k ≤ y.length) ∧ (o.length = k) ∧ (Lb o) ∧ (cr ≤ 1) ∧ (val o + 1000000000 ^ k * cr = val (y.take k) + val (x.take k)) ∧ y.length - k = mu) ?_ ?_
  ·
   exact ⟨_, [], 0, 0, (.slice (some ⟨g2, 0, none⟩) 0 (y.length + 1)), So6, (hF.take (hF.take (hF.take (hF.take (hF.take (hF.take (hF.take (hF.take (hF.take hF.nil (lk_int rfl (by omega))) (lk_int rfl (by omega))) rfl) rfl) rfl) rfl) rfl) rfl) rfl), hS, Ext.refl _ _, (hO8), (by omega), (by simp), (Lb.nil), (by omega), (by simp [val]), rfl⟩
  clear hF fa; intro n0_ fa w' hI
  clear hS
  obtain ⟨o, cr, k, vo, So, hF, hS, E10, hO, hk, ho, hbo, hcr, hv, rfl⟩ := hI
  rename World => w9
  have hxk := hb_y.getD k; have hyk := hb_x.getD k
  refine c_seq ?_
  refine c_reg ?_
  refine st_val hF rfl rfl rfl (ex_lss (hF.ev rfl) (hF.ev rfl)) ?_
  clear hF fa; intro fa hF
  refine c_nil_then ?_
  refine c_seq ?_
  refine c_cond hF rfl (fun hc11 => ?_) (fun hc11 => ?_)
  ·
   have hc11p : ((k : Nat) : Int) < ((y.length : Nat) : Int) := by first | simpa using hc11 | exact bang_t hc11 | exact bang_f hc11
   refine c_skip ?_
   refine x_tn ?_
   refine c_seq ?_
   refine c_block ?_
   refine c_seq ?_
   refine c_reg ?_
   refine st_val hF rfl rfl rfl (ex_move (hF.ev rfl)) ?_
   clear hF fa; intro fa hF
   obtain ⟨ad12, hA13, hq14⟩ := (hu_y.ext (E4.trans E10)).cl.at_ (us_get (l := y) (i := k) (by omega))
   refine st_val hF rfl rfl rfl (ex_idx (j := k) TfC.sl22 (hF.ev rfl) hA13 (hF.ev rfl) (by omega) (by omega)) ?_
   clear hF fa; intro fa hF
   refine st_val hF rfl rfl rfl (ex_load1 TfC.one46 (hF.ev rfl) hq14) ?_
   clear hF fa; intro fa hF
   refine st_val hF rfl rfl rfl (ex_assign (hF.ev rfl)) ?_
   clear hF fa; intro fa hF
   refine st_val hF rfl rfl rfl (ex_assign (hF.ev rfl)) ?_
   clear hF fa; intro fa hF
   replace hF : Frm 53 fa [(0, (.slice (A_y) (y.length) (c_y))), (1, (.slice (A_x) (x.length) (c_x))), (4, (.slice (none) (0) (0))), (13, (.bool (decide (((x.length : Nat) : Int) < ((y.length : Nat) : Int))))), (20, (.slice (A_y) (y.length) (c_y))), (21, (.int .i64 (((y.length : Nat) : Int)))), (5, vo), (6, (.int .u32 (((cr : Nat) : Int)))), (22, (.int .i64 (((k : Nat) : Int)))), (23, (.bool (decide (((k : Nat) : Int) < ((y.length : Nat) : Int))))), (7, (.int .i64 (((k : Nat) : Int)))), (8, (.int .u32 (((y.getD (k) 0 : Nat) : Int))))] := (hF.take (hF.take (hF.take (hF.take (hF.take (hF.take (hF.take (hF.take (hF.take (hF.take (hF.take (hF.take hF.nil rfl) rfl) rfl) rfl) rfl) rfl) rfl) rfl) rfl) rfl) rfl) rfl)
   refine c_nil_then ?_
   refine c_seq ?_
   refine c_reg ?_
   refine st_val hF rfl rfl rfl (ex_move (hF.ev rfl)) ?_
   clear hF fa; intro fa hF
   refine st_val hF rfl rfl rfl (ex_move (hF.ev rfl)) ?_
   clear hF fa; intro fa hF
   refine st_val hF rfl rfl rfl (ex_add (hF.ev rfl) (hF.ev rfl) (wu32 (by omega) (by omega))) ?_
   clear hF fa; intro fa hF
   refine st_val hF rfl rfl rfl (ex_assign (hF.ev rfl)) ?_
   clear hF fa; intro fa hF
   refine c_nil_then ?_
   refine c_seq ?_
   refine c_seq ?_
   refine c_reg ?_
   refine st_val hF rfl rfl rfl (ex_move (hF.ev rfl)) ?_
   clear hF fa; intro fa hF
   refine st_val hF rfl rfl rfl (ex_move (hF.ev rfl)) ?_
   clear hF fa; intro fa hF
   refine st_val hF rfl rfl rfl (ex_len TfC.sls22 (hF.ev rfl)) ?_
   clear hF fa; intro fa hF
   refine st_val hF rfl rfl rfl (ex_lss (hF.ev rfl) (hF.ev rfl)) ?_
   clear hF fa; intro fa hF
   refine c_nil_then ?_
   refine c_cond hF rfl (fun hc15 => ?_) (fun hc15 => ?_)
   ·
    have hc15p : ((k : Nat) : Int) < ((x.length : Nat) : Int) := by first | simpa using hc15 | exact bang_t hc15 | exact bang_f hc15
    refine c_reg ?_
    refine st_val hF rfl rfl rfl (ex_move (hF.ev rfl)) ?_
    clear hF fa; intro fa hF
    refine st_val hF rfl rfl rfl (ex_move (hF.ev rfl)) ?_
    clear hF fa; intro fa hF
    refine st_val hF rfl rfl rfl (ex_move (hF.ev rfl)) ?_
    clear hF fa; intro fa hF
    obtain ⟨ad16, hA17, hq18⟩ := (hu_x.ext (E4.trans E10)).cl.at_ (us_get (l := x) (i := k) (by omega))
    refine st_val hF rfl rfl rfl (ex_idx (j := k) TfC.sl22 (hF.ev rfl) hA17 (hF.ev rfl) (by omega) (by omega)) ?_
    clear hF fa; intro fa hF
    refine st_val hF rfl rfl rfl (ex_load1 TfC.one46 (hF.ev rfl) hq18) ?_
    clear hF fa; intro fa hF
    refine st_val hF rfl rfl rfl (ex_add (hF.ev rfl) (hF.ev rfl) (wu32 (by omega) (by omega))) ?_
    clear hF fa; intro fa hF
    refine st_val hF rfl rfl rfl (ex_assign (hF.ev rfl)) ?_
    clear hF fa; intro fa hF
    replace hF : Frm 53 fa [(0, (.slice (A_y) (y.length) (c_y))), (1, (.slice (A_x) (x.length) (c_x))), (4, (.slice (none) (0) (0))), (13, (.bool (decide (((x.length : Nat) : Int) < ((y.length : Nat) : Int))))), (20, (.slice (A_y) (y.length) (c_y))), (21, (.int .i64 (((y.length : Nat) : Int)))), (5, vo), (6, (.int .u32 (((cr : Nat) : Int)))), (22, (.int .i64 (((k : Nat) : Int)))), (23, (.bool (decide (((k : Nat) : Int) < ((y.length : Nat) : Int))))), (7, (.int .i64 (((k : Nat) : Int)))), (8, (.int .u32 ((((y.getD (k) 0 : Nat) : Int) + ((cr : Nat) : Int)) + ((x.getD (k) 0 : Nat) : Int)))), (33, (.bool (decide (((k : Nat) : Int) < ((x.length : Nat) : Int)))))] := (hF.take (hF.take (hF.take (hF.take (hF.take (hF.take (hF.take (hF.take (hF.take (hF.take (hF.take (hF.take (hF.take hF.nil rfl) rfl) rfl) rfl) rfl) rfl) rfl) rfl) rfl) rfl) rfl) rfl) rfl)
    refine c_nil_then ?_
    refine c_seq ?_
    refine c_reg ?_
    refine st_val hF rfl rfl rfl (ex_assign (hF.ev rfl)) ?_
    clear hF fa; intro fa hF
    refine c_nil_then ?_
    refine c_seq ?_
    refine c_seq ?_
    refine c_reg ?_
    refine st_val hF rfl rfl rfl (ex_move (hF.ev rfl)) ?_
    clear hF fa; intro fa hF
    refine st_val hF rfl rfl rfl (ex_geq (hF.ev rfl) (hF.ev rfl)) ?_
    clear hF fa; intro fa hF
    refine c_nil_then ?_
    refine c_cond hF rfl (fun hc19 => ?_) (fun hc19 => ?_)
    ·
     have hc19p : ((((y.getD (k) 0 : Nat) : Int) + ((cr : Nat) : Int)) + ((x.getD (k) 0 : Nat) : Int)) ≥ 1000000000 := by first | simpa using hc19 | exact bang_t hc19 | exact bang_f hc19
     refine c_reg ?_
     refine st_val hF rfl rfl rfl (ex_move (hF.ev rfl)) ?_
     clear hF fa; intro fa hF
     refine st_val hF rfl rfl rfl (ex_sub (hF.ev rfl) (hF.ev rfl) (wu32 (by omega) (by omega))) ?_
     clear hF fa; intro fa hF
     refine st_val hF rfl rfl rfl (ex_assign (hF.ev rfl)) ?_
     clear hF fa; intro fa hF
     refine st_val hF rfl rfl rfl (ex_assign (hF.ev rfl)) ?_
     clear hF fa; intro fa hF
     refine c_nil_then ?_
     refine c_reg ?_
     refine st_val hF rfl rfl rfl (ex_move (hF.ev rfl)) ?_
     clear hF fa; intro fa hF
     refine st_val hF rfl rfl rfl (ex_move (hF.ev rfl)) ?_
     clear hF fa; intro fa hF
     refine st rfl (op_lit (X := (bl So ++ X)) hF hS (hS.bnd hX) rfl TfC.sl22 TfC.el46 rfl rfl (lits1 (hF.ev (ev_int (b := (((((y.getD (k) 0) + cr) + (x.getD (k) 0)) - 1000000000 : Nat) : Int)) rfl (by omega)))) (fill_u1 (x := (((y.getD (k) 0) + cr) + (x.getD (k) 0)) - 1000000000)) ?_)
     intro g20 w21 hg23 hS E22 hc24; refine gen_ ?_; clear hF fa; intro fa hF
     have hu25 := UC.one (l := [(((y.getD (k) 0) + cr) + (x.getD (k) 0)) - 1000000000]) hc24 (by simp)
     refine st rfl (op_append (X := X) (F := []) (So := So) (l := us (o)) (m := us ([(((y.getD (k) 0) + cr) + (x.getD (k) 0)) - 1000000000])) hF hS rfl TfC.sl22 TfC.el46 rfl rfl rfl (by simp) hO hu25.cl (us_one _) (by simp; omega) (by simp; omega) ?_)
     intro v26 So27 w28 hO29 hS E30 hun31; refine gen_ ?_; clear hF fa; intro fa hF
     clear hun31
     rw [← us_append] at hO29
     replace E30 : Ext w21 (bl So ++ X) w28 (bl So27 ++ X) := E30
     replace hS : St w w28 So27 := hS
     refine st_val hF rfl rfl rfl (ex_assign (hF.ev rfl)) ?_
     clear hF fa; intro fa hF
     refine c_nil ?_
     refine x_bn ?_
     refine x_tn ?_
     refine c_reg ?_
     refine st_val hF rfl rfl rfl (ex_add (hF.ev rfl) (hF.ev rfl) (wi64 (by omega) (by omega))) ?_
     clear hF fa; intro fa hF
     refine st_val hF rfl rfl rfl (ex_move (hF.ev rfl)) ?_
     clear hF fa; intro fa hF
     refine c_nil ?_
     refine x_tn ?_
     exact ⟨_, (by omega), o ++ ([(((y.getD (k) 0) + cr) + (x.getD (k) 0)) - 1000000000]), 1, (k + 1), v26, So27, (hF.take (hF.take (hF.take (hF.take (hF.take (hF.take (hF.take (hF.take (hF.take hF.nil (lk_int rfl (by omega))) (lk_int rfl (by omega))) rfl) rfl) rfl) rfl) rfl) rfl) rfl), hS, ((E10.trans E22).trans E30), (hO29), (by omega), (by simp; omega), (lb_snoc hbo (by omega)), (by omega), (plus_snoc ho hv (s := _) (by first | rfl | omega | (have := getD_none (l := x) (k := k) (by omega); omega) | (have := getD_none (l := y) (k := k) (by omega); omega)) (by omega) (by omega)), rfl⟩
    have hc19p : ¬ (((((y.getD (k) 0 : Nat) : Int) + ((cr : Nat) : Int)) + ((x.getD (k) 0 : Nat) : Int)) ≥ 1000000000) := by first | simpa using hc19 | exact bang_t hc19 | exact bang_f hc19
    refine c_skip ?_
    refine x_tn ?_
    refine c_reg ?_
    refine st_val hF rfl rfl rfl (ex_move (hF.ev rfl)) ?_
    clear hF fa; intro fa hF
    refine st_val hF rfl rfl rfl (ex_move (hF.ev rfl)) ?_
    clear hF fa; intro fa hF
    refine st rfl (op_lit (X := (bl So ++ X)) hF hS (hS.bnd hX) rfl TfC.sl22 TfC.el46 rfl rfl (lits1 (hF.ev (ev_int (b := ((((y.getD (k) 0) + cr) + (x.getD (k) 0) : Nat) : Int)) rfl (by omega)))) (fill_u1 (x := ((y.getD (k) 0) + cr) + (x.getD (k) 0))) ?_)
    intro g32 w33 hg35 hS E34 hc36; refine gen_ ?_; clear hF fa; intro fa hF
    have hu37 := UC.one (l := [((y.getD (k) 0) + cr) + (x.getD (k) 0)]) hc36 (by simp)
    refine st rfl (op_append (X := X) (F := []) (So := So) (l := us (o)) (m := us ([((y.getD (k) 0) + cr) + (x.getD (k) 0)])) hF hS rfl TfC.sl22 TfC.el46 rfl rfl rfl (by simp) hO hu37.cl (us_one _) (by simp; omega) (by simp; omega) ?_)
    intro v38 So39 w40 hO41 hS E42 hun43; refine gen_ ?_; clear hF fa; intro fa hF
    clear hun43
    rw [← us_append] at hO41
    replace E42 : Ext w33 (bl So ++ X) w40 (bl So39 ++ X) := E42
    replace hS : St w w40 So39 := hS
    refine st_val hF rfl rfl rfl (ex_assign (hF.ev rfl)) ?_
    clear hF fa; intro fa hF
    refine c_nil ?_
    refine x_bn ?_
    refine x_tn ?_
    refine c_reg ?_
    refine st_val hF rfl rfl rfl (ex_add (hF.ev rfl) (hF.ev rfl) (wi64 (by omega) (by omega))) ?_
    clear hF fa; intro fa hF
    refine st_val hF rfl rfl rfl (ex_move (hF.ev rfl)) ?_
    clear hF fa; intro fa hF
    refine c_nil ?_
    refine x_tn ?_
    exact ⟨_, (by omega), o ++ ([((y.getD (k) 0) + cr) + (x.getD (k) 0)]), 0, (k + 1), v38, So39, (hF.take (hF.take (hF.take (hF.take (hF.take (hF.take (hF.take (hF.take (hF.take hF.nil (lk_int rfl (by omega))) (lk_int rfl (by omega))) rfl) rfl) rfl) rfl) rfl) rfl) rfl), hS, ((E10.trans E34).trans E42), (hO41), (by omega), (by simp; omega), (lb_snoc hbo (by omega)), (by omega), (plus_snoc ho hv (s := _) (by first | rfl | omega | (have := getD_none (l := x) (k := k) (by omega); omega) | (have := getD_none (l := y) (k := k) (by omega); omega)) (by omega) (by omega)), rfl⟩
   have hc15p : ¬ (((k : Nat) : Int) < ((x.length : Nat) : Int)) := by first | simpa using hc15 | exact bang_t hc15 | exact bang_f hc15
   first | (have hz0 := getD_none (l := x) (k := k) (by omega)) | (have hz0 := getD_none (l := y) (k := k) (by omega))
   refine c_skip ?_
   refine x_tn ?_
   refine c_seq ?_
   refine c_reg ?_
   refine st_val hF rfl rfl rfl (ex_assign (hF.ev rfl)) ?_
   clear hF fa; intro fa hF
   refine c_nil_then ?_
   refine c_seq ?_
   refine c_seq ?_
   refine c_reg ?_
   refine st_val hF rfl rfl rfl (ex_move (hF.ev rfl)) ?_
   clear hF fa; intro fa hF
   refine st_val hF rfl rfl rfl (ex_geq (hF.ev rfl) (hF.ev rfl)) ?_
   clear hF fa; intro fa hF
   refine c_nil_then ?_
   refine c_cond hF rfl (fun hc44 => ?_) (fun hc44 => ?_)
   ·
    have hc44p : (((y.getD (k) 0 : Nat) : Int) + ((cr : Nat) : Int)) ≥ 1000000000 := by first | simpa using hc44 | exact bang_t hc44 | exact bang_f hc44
    refine c_reg ?_
    refine st_val hF rfl rfl rfl (ex_move (hF.ev rfl)) ?_
    clear hF fa; intro fa hF
    refine st_val hF rfl rfl rfl (ex_sub (hF.ev rfl) (hF.ev rfl) (wu32 (by omega) (by omega))) ?_
    clear hF fa; intro fa hF
    refine st_val hF rfl rfl rfl (ex_assign (hF.ev rfl)) ?_
    clear hF fa; intro fa hF
    refine st_val hF rfl rfl rfl (ex_assign (hF.ev rfl)) ?_
    clear hF fa; intro fa hF
    refine c_nil_then ?_
    refine c_reg ?_
    refine st_val hF rfl rfl rfl (ex_move (hF.ev rfl)) ?_
    clear hF fa; intro fa hF
    refine st_val hF rfl rfl rfl (ex_move (hF.ev rfl)) ?_
    clear hF fa; intro fa hF
    refine st rfl (op_lit (X := (bl So ++ X)) hF hS (hS.bnd hX) rfl TfC.sl22 TfC.el46 rfl rfl (lits1 (hF.ev (ev_int (b := ((((y.getD (k) 0) + cr) - 1000000000 : Nat) : Int)) rfl (by omega)))) (fill_u1 (x := ((y.getD (k) 0) + cr) - 1000000000)) ?_)
    intro g45 w46 hg48 hS E47 hc49; refine gen_ ?_; clear hF fa; intro fa hF
    have hu50 := UC.one (l := [((y.getD (k) 0) + cr) - 1000000000]) hc49 (by simp)
    refine st rfl (op_append (X := X) (F := []) (So := So) (l := us (o)) (m := us ([((y.getD (k) 0) + cr) - 1000000000])) hF hS rfl TfC.sl22 TfC.el46 rfl rfl rfl (by simp) hO hu50.cl (us_one _) (by simp; omega) (by simp; omega) ?_)
    intro v51 So52 w53 hO54 hS E55 hun56; refine gen_ ?_; clear hF fa; intro fa hF
    clear hun56
    rw [← us_append] at hO54
    replace E55 : Ext w46 (bl So ++ X) w53 (bl So52 ++ X) := E55
    replace hS : St w w53 So52 := hS
    refine st_val hF rfl rfl rfl (ex_assign (hF.ev rfl)) ?_
    clear hF fa; intro fa hF
    replace hF : Frm 53 fa [(0, (.slice (A_y) (y.length) (c_y))), (1, (.slice (A_x) (x.length) (c_x))), (4, (.slice (none) (0) (0))), (13, (.bool (decide (((x.length : Nat) : Int) < ((y.length : Nat) : Int))))), (20, (.slice (A_y) (y.length) (c_y))), (21, (.int .i64 (((y.length : Nat) : Int)))), (5, v51), (6, (.int .u32 (1))), (22, (.int .i64 (((k : Nat) : Int)))), (23, (.bool (decide (((k : Nat) : Int) < ((y.length : Nat) : Int))))), (7, (.int .i64 (((k : Nat) : Int)))), (8, (.int .u32 ((((y.getD (k) 0 : Nat) : Int) + ((cr : Nat) : Int)) - 1000000000))), (33, (.bool (decide (((k : Nat) : Int) < ((x.length : Nat) : Int))))), (41, (.bool (decide ((((y.getD (k) 0 : Nat) : Int) + ((cr : Nat) : Int)) ≥ 1000000000))))] := (hF.take (hF.take (hF.take (hF.take (hF.take (hF.take (hF.take (hF.take (hF.take (hF.take (hF.take (hF.take (hF.take (hF.take hF.nil rfl) rfl) rfl) rfl) rfl) rfl) rfl) rfl) rfl) rfl) rfl) rfl) rfl) rfl)
    refine c_nil ?_
    refine x_bn ?_
    refine x_tn ?_
    refine c_reg ?_
    refine st_val hF rfl rfl rfl (ex_add (hF.ev rfl) (hF.ev rfl) (wi64 (by omega) (by omega))) ?_
    clear hF fa; intro fa hF
    refine st_val hF rfl rfl rfl (ex_move (hF.ev rfl)) ?_
    clear hF fa; intro fa hF
    refine c_nil ?_
    refine x_tn ?_
    exact ⟨_, (by omega), o ++ ([((y.getD (k) 0) + cr) - 1000000000]), 1, (k + 1), v51, So52, (hF.take (hF.take (hF.take (hF.take (hF.take (hF.take (hF.take (hF.take (hF.take hF.nil (lk_int rfl (by omega))) (lk_int rfl (by omega))) rfl) rfl) rfl) rfl) rfl) rfl) rfl), hS, ((E10.trans E47).trans E55), (hO54), (by omega), (by simp; omega), (lb_snoc hbo (by omega)), (by omega), (plus_snoc ho hv (s := _) (by first | rfl | omega | (have := getD_none (l := x) (k := k) (by omega); omega) | (have := getD_none (l := y) (k := k) (by omega); omega)) (by omega) (by omega)), rfl⟩
   have hc44p : ¬ ((((y.getD (k) 0 : Nat) : Int) + ((cr : Nat) : Int)) ≥ 1000000000) := by first | simpa using hc44 | exact bang_t hc44 | exact bang_f hc44
   refine c_skip ?_
   refine x_tn ?_
   refine c_reg ?_
   refine st_val hF rfl rfl rfl (ex_move (hF.ev rfl)) ?_
   clear hF fa; intro fa hF
   refine st_val hF rfl rfl rfl (ex_move (hF.ev rfl)) ?_
   clear hF fa; intro fa hF
   refine st rfl (op_lit (X := (bl So ++ X)) hF hS (hS.bnd hX) rfl TfC.sl22 TfC.el46 rfl rfl (lits1 (hF.ev (ev_int (b := (((y.getD (k) 0) + cr : Nat) : Int)) rfl (by omega)))) (fill_u1 (x := (y.getD (k) 0) + cr)) ?_)
   intro g57 w58 hg60 hS E59 hc61; refine gen_ ?_; clear hF fa; intro fa hF
   have hu62 := UC.one (l := [(y.getD (k) 0) + cr]) hc61 (by simp)
   refine st rfl (op_append (X := X) (F := []) (So := So) (l := us (o)) (m := us ([(y.getD (k) 0) + cr])) hF hS rfl TfC.sl22 TfC.el46 rfl rfl rfl (by simp) hO hu62.cl (us_one _) (by simp; omega) (by simp; omega) ?_)
   intro v63 So64 w65 hO66 hS E67 hun68; refine gen_ ?_; clear hF fa; intro fa hF
   clear hun68
   rw [← us_append] at hO66
   replace E67 : Ext w58 (bl So ++ X) w65 (bl So64 ++ X) := E67
   replace hS : St w w65 So64 := hS
   refine st_val hF rfl rfl rfl (ex_assign (hF.ev rfl)) ?_
   clear hF fa; intro fa hF
   refine c_nil ?_
   refine x_bn ?_
   refine x_tn ?_
   refine c_reg ?_
   refine st_val hF rfl rfl rfl (ex_add (hF.ev rfl) (hF.ev rfl) (wi64 (by omega) (by omega))) ?_
   clear hF fa; intro fa hF
   refine st_val hF rfl rfl rfl (ex_move (hF.ev rfl)) ?_
   clear hF fa; intro fa hF
   replace hF : Frm 53 fa [(0, (.slice (A_y) (y.length) (c_y))), (1, (.slice (A_x) (x.length) (c_x))), (4, (.slice (none) (0) (0))), (13, (.bool (decide (((x.length : Nat) : Int) < ((y.length : Nat) : Int))))), (20, (.slice (A_y) (y.length) (c_y))), (21, (.int .i64 (((y.length : Nat) : Int)))), (5, v63), (6, (.int .u32 (0))), (22, (.int .i64 (((k : Nat) : Int) + 1))), (23, (.bool (decide (((k : Nat) : Int) < ((y.length : Nat) : Int))))), (7, (.int .i64 (((k : Nat) : Int)))), (8, (.int .u32 (((y.getD (k) 0 : Nat) : Int) + ((cr : Nat) : Int)))), (33, (.bool (decide (((k : Nat) : Int) < ((x.length : Nat) : Int))))), (41, (.bool (decide ((((y.getD (k) 0 : Nat) : Int) + ((cr : Nat) : Int)) ≥ 1000000000))))] := (hF.take (hF.take (hF.take (hF.take (hF.take (hF.take (hF.take (hF.take (hF.take (hF.take (hF.take (hF.take (hF.take (hF.take hF.nil rfl) rfl) rfl) rfl) rfl) rfl) rfl) rfl) rfl) rfl) rfl) rfl) rfl) rfl)
   refine c_nil ?_
   refine x_tn ?_
   exact ⟨_, (by omega), o ++ ([(y.getD (k) 0) + cr]), 0, (k + 1), v63, So64, (hF.take (hF.take (hF.take (hF.take (hF.take (hF.take (hF.take (hF.take (hF.take hF.nil (lk_int rfl (by omega))) (lk_int rfl (by omega))) rfl) rfl) rfl) rfl) rfl) rfl) rfl), hS, ((E10.trans E59).trans E67), (hO66), (by omega), (by simp; omega), (lb_snoc hbo (by omega)), (by omega), (plus_snoc ho hv (s := _) (by first | rfl | omega | (have := getD_none (l := x) (k := k) (by omega); omega) | (have := getD_none (l := y) (k := k) (by omega); omega)) (by omega) (by omega)), rfl⟩
  have hc11p : ¬ (((k : Nat) : Int) < ((y.length : Nat) : Int)) := by first | simpa using hc11 | exact bang_t hc11 | exact bang_f hc11
  refine c_exit ?_
  refine x_te ?_
  refine x_te ?_
  refine x_bh ?_
  refine x_tn ?_
  refine c_seq ?_
  refine c_reg ?_
  refine st_val hF rfl rfl rfl (ex_move (hF.ev rfl)) ?_
  clear hF fa; intro fa hF
  refine st_val hF rfl rfl rfl (ex_move (hF.ev rfl)) ?_
  clear hF fa; intro fa hF
  refine st rfl (op_lit (X := (bl So ++ X)) hF hS (hS.bnd hX) rfl TfC.sl22 TfC.el46 rfl rfl (lits1 (hF.ev (ev_int (b := ((cr : Nat) : Int)) rfl (by omega)))) (fill_u1 (x := cr)) ?_)
  intro g69 w70 hg72 hS E71 hc73; refine gen_ ?_; clear hF fa; intro fa hF
  have hu74 := UC.one (l := [cr]) hc73 (by simp)
  refine st rfl (op_append (X := X) (F := []) (So := So) (l := us (o)) (m := us ([cr])) hF hS rfl TfC.sl22 TfC.el46 rfl rfl rfl (by simp) hO hu74.cl (us_one _) (by simp; omega) (by simp; omega) ?_)
  intro v75 So76 w77 hO78 hS E79 hun80; refine gen_ ?_; clear hF fa; intro fa hF
  clear hun80
  rw [← us_append] at hO78
  replace E79 : Ext w70 (bl So ++ X) w77 (bl So76 ++ X) := E79
  replace hS : St w w77 So76 := hS
  refine st_val hF rfl rfl rfl (ex_assign (hF.ev rfl)) ?_
  clear hF fa; intro fa hF
  replace hF : Frm 53 fa [(0, (.slice (A_y) (y.length) (c_y))), (1, (.slice (A_x) (x.length) (c_x))), (4, v75), (13, (.bool (decide (((x.length : Nat) : Int) < ((y.length : Nat) : Int))))), (20, (.slice (A_y) (y.length) (c_y))), (21, (.int .i64 (((y.length : Nat) : Int)))), (5, vo), (6, (.int .u32 (((cr : Nat) : Int)))), (22, (.int .i64 (((k : Nat) : Int)))), (23, (.bool (decide (((k : Nat) : Int) < ((y.length : Nat) : Int)))))] := (hF.take (hF.take (hF.take (hF.take (hF.take (hF.take (hF.take (hF.take (hF.take (hF.take hF.nil rfl) rfl) rfl) rfl) rfl) rfl) rfl) rfl) rfl) rfl)
  refine c_nil_then ?_
  refine c_ret ?_
  refine end1 hF rfl (res_tmp hF rfl) ?_
  exact ⟨_, rfl, ⟨o ++ ([cr]), (UL.fin (UC.of_ow (F := []) hO78 hS hX) (rfl) (fun _ h => h)), (lb_snoc hbo (by omega)), (by have h1 := val_take_all (l := x) (k := k); have h2 := val_take_all (l := y) (k := k); rw [val_snoc ho]; rw [h1 (by omega), h2 (by omega)] at hv; omega), (by simp; omega)⟩, hS.below⟩
 have hc1p : ¬ (((x.length : Nat) : Int) < ((y.length : Nat) : Int)) := by first | simpa using hc1 | exact bang_t hc1 | exact bang_f hc1
 refine c_skip ?_
 refine x_tn ?_
 refine c_seq ?_
 refine c_reg ?_
 refine st_val hF rfl rfl rfl (ex_move (hF.ev rfl)) ?_
 clear hF fa; intro fa hF
 refine st_val hF rfl rfl rfl (ex_len TfC.sls22 (hF.ev rfl)) ?_
 clear hF fa; intro fa hF
 refine st_val hF rfl rfl rfl (ex_add (hF.ev rfl) (hF.ev rfl) (wi64 (by omega) (by omega))) ?_
 clear hF fa; intro fa hF
 refine st rfl (op_make (X := X) (nl := 0) (nc := x.length + 1) hF hS rfl TfC.sl22 TfC.el46 rfl rfl (by omega) (by omega) (by omega) (by omega) (by omega) (made_us _) ?_)
 intro g81 w82 hg84 hS E83; refine gen_ ?_; clear hF fa; intro fa hF
 have hO87 := OwV.block 46 g81 (x.length + 1) [] (us (List.replicate ((x.length + 1) * 1) 0)) (by simp) (by unfold maxLen; omega)
 simp only [List.nil_append] at hO87
 have E83 : Ext w X w82 (bl [(g81, 46, (us (List.replicate ((x.length + 1) * 1) 0)).toArray)] ++ X) := E83
 generalize hSo : ([(g81, 46, (us (List.replicate ((x.length + 1) * 1) 0)).toArray)] : List Bx) = So85 at hO87 hS E83
 clear hSo
 refine st_val hF rfl rfl rfl (ex_assign (hF.ev rfl)) ?_
 clear hF fa; intro fa hF
 refine c_nil_then ?_
 refine c_seq ?_
 refine c_reg ?_
 refine st_val hF rfl rfl rfl (ex_assign (hF.ev rfl)) ?_
 clear hF fa; intro fa hF
 refine c_nil_then ?_
 refine c_seq ?_
 refine c_seq ?_
 refine c_reg ?_
 refine st_val hF rfl rfl rfl (ex_move (hF.ev rfl)) ?_
 clear hF fa; intro fa hF
 refine st_val hF rfl rfl rfl (ex_len TfC.sls22 (hF.ev rfl)) ?_
 clear hF fa; intro fa hF
 refine st_val hF rfl rfl rfl (ex_move (hF.ev rfl)) ?_
 clear hF fa; intro fa hF
 refine c_nil_then ?_
 refine c_block ?_
 refine c_loop (fun mu fa w' => ∃ o : List Nat, ∃ cr : Nat, ∃ k : Nat, ∃ vo : Value, ∃ So : List Bx, Frm 53 fa [(0, (.slice (A_x) (x.length) (c_x))), (1, (.slice (A_y) (y.length) (c_y))), (4, (.slice (none) (0) (0))), (13, (.bool (decide (((x.length : Nat) : Int) < ((y.length : Nat) : Int))))), (20, (.slice (A_x) (x.length) (c_x))), (21, (.int .i64 (((x.length : Nat) : Int)))), (5, vo), (6, (.int .u32 (((cr : Nat) : Int)))), (22, (.int .i64 (((k : Nat) : Int))))] ∧ St w w' So ∧ Ext w82 (bl So85 ++ X) w' (bl So ++ X) ∧ (OwV 46 So vo (us o)) ∧ (k ≤ x.length) ∧ (o.length = k) ∧ (Lb o) ∧ (cr ≤ 1) ∧ (val o + 1000000000 ^ k * cr = val (x.take k) + val (y.take k)) ∧ x.length - k = mu) ?_ ?_
 ·
  exact ⟨_, [], 0, 0, (.slice (some ⟨g81, 0, none⟩) 0 (x.length + 1)), So85, (hF.take (hF.take (hF.take (hF.take (hF.take (hF.take (hF.take (hF.take (hF.take hF.nil (lk_int rfl (by omega))) (lk_int rfl (by omega))) rfl) rfl) rfl) rfl) rfl) rfl) rfl), hS, Ext.refl _ _, (hO87), (by omega), (by simp), (Lb.nil), (by omega), (by simp [val]), rfl⟩
 clear hF fa; intro n0_ fa w' hI
 clear hS
 obtain ⟨o, cr, k, vo, So, hF, hS, E89, hO, hk, ho, hbo, hcr, hv, rfl⟩ := hI
 rename World => w88
 have hxk := hb_x.getD k; have hyk := hb_y.getD k
 refine c_seq ?_
 refine c_reg ?_
 refine st_val hF rfl rfl rfl (ex_lss (hF.ev rfl) (hF.ev rfl)) ?_
 clear hF fa; intro fa hF
 refine c_nil_then ?_
 refine c_seq ?_
 refine c_cond hF rfl (fun hc90 => ?_) (fun hc90 => ?_)
 ·
  have hc90p : ((k : Nat) : Int) < ((x.length : Nat) : Int) := by first | simpa using hc90 | exact bang_t hc90 | exact bang_f hc90
  refine c_skip ?_
  refine x_tn ?_
  refine c_seq ?_
  refine c_block ?_
  refine c_seq ?_
  refine c_reg ?_
  refine st_val hF rfl rfl rfl (ex_move (hF.ev rfl)) ?_
  clear hF fa; intro fa hF
  obtain ⟨ad91, hA92, hq93⟩ := (hu_x.ext (E83.trans E89)).cl.at_ (us_get (l := x) (i := k) (by omega))
  refine st_val hF rfl rfl rfl (ex_idx (j := k) TfC.sl22 (hF.ev rfl) hA92 (hF.ev rfl) (by omega) (by omega)) ?_
  clear hF fa; intro fa hF
  refine st_val hF rfl rfl rfl (ex_load1 TfC.one46 (hF.ev rfl) hq93) ?_
  clear hF fa; intro fa hF
  refine st_val hF rfl rfl rfl (ex_assign (hF.ev rfl)) ?_
  clear hF fa; intro fa hF
  refine st_val hF rfl rfl rfl (ex_assign (hF.ev rfl)) ?_
  clear hF fa; intro fa hF
  refine c_nil_then ?_
  refine c_seq ?_
  refine c_reg ?_
  refine st_val hF rfl rfl rfl (ex_move (hF.ev rfl)) ?_
  clear hF fa; intro fa hF
  refine st_val hF rfl rfl rfl (ex_move (hF.ev rfl)) ?_
  clear hF fa; intro fa hF
  refine st_val hF rfl rfl rfl (ex_add (hF.ev rfl) (hF.ev rfl) (wu32 (by omega) (by omega))) ?_
  clear hF fa; intro fa hF
  refine st_val hF rfl rfl rfl (ex_assign (hF.ev rfl)) ?_
  clear hF fa; intro fa hF
  replace hF : Frm 53 fa [(0, (.slice (A_x) (x.length) (c_x))), (1, (.slice (A_y) (y.length) (c_y))), (4, (.slice (none) (0) (0))), (13, (.bool (decide (((x.length : Nat) : Int) < ((y.length : Nat) : Int))))), (20, (.slice (A_x) (x.length) (c_x))), (21, (.int .i64 (((x.length : Nat) : Int)))), (5, vo), (6, (.int .u32 (((cr : Nat) : Int)))), (22, (.int .i64 (((k : Nat) : Int)))), (23, (.bool (decide (((k : Nat) : Int) < ((x.length : Nat) : Int))))), (7, (.int .i64 (((k : Nat) : Int)))), (8, (.int .u32 (((x.getD (k) 0 : Nat) : Int) + ((cr : Nat) : Int))))] := (hF.take (hF.take (hF.take (hF.take (hF.take (hF.take (hF.take (hF.take (hF.take (hF.take (hF.take (hF.take hF.nil rfl) rfl) rfl) rfl) rfl) rfl) rfl) rfl) rfl) rfl) rfl) rfl)
  refine c_nil_then ?_
  refine c_seq ?_
  refine c_seq ?_
  refine c_reg ?_
  refine st_val hF rfl rfl rfl (ex_move (hF.ev rfl)) ?_
  clear hF fa; intro fa hF
  refine st_val hF rfl rfl rfl (ex_move (hF.ev rfl)) ?_
  clear hF fa; intro fa hF
  refine st_val hF rfl rfl rfl (ex_len TfC.sls22 (hF.ev rfl)) ?_
  clear hF fa; intro fa hF
  refine st_val hF rfl rfl rfl (ex_lss (hF.ev rfl) (hF.ev rfl)) ?_
  clear hF fa; intro fa hF
  refine c_nil_then ?_
  refine c_cond hF rfl (fun hc94 => ?_) (fun hc94 => ?_)
  ·
   have hc94p : ((k : Nat) : Int) < ((y.length : Nat) : Int) := by first | simpa using hc94 | exact bang_t hc94 | exact bang_f hc94
   refine c_reg ?_
   refine st_val hF rfl rfl rfl (ex_move (hF.ev rfl)) ?_
   clear hF fa; intro fa hF
   refine st_val hF rfl rfl rfl (ex_move (hF.ev rfl)) ?_
   clear hF fa; intro fa hF
   refine st_val hF rfl rfl rfl (ex_move (hF.ev rfl)) ?_
   clear hF fa; intro fa hF
   obtain ⟨ad95, hA96, hq97⟩ := (hu_y.ext (E83.trans E89)).cl.at_ (us_get (l := y) (i := k) (by omega))
   refine st_val hF rfl rfl rfl (ex_idx (j := k) TfC.sl22 (hF.ev rfl) hA96 (hF.ev rfl) (by omega) (by omega)) ?_
   clear hF fa; intro fa hF
   refine st_val hF rfl rfl rfl (ex_load1 TfC.one46 (hF.ev rfl) hq97) ?_
   clear hF fa; intro fa hF
   refine st_val hF rfl rfl rfl (ex_add (hF.ev rfl) (hF.ev rfl) (wu32 (by omega) (by omega))) ?_
   clear hF fa; intro fa hF
   refine st_val hF rfl rfl rfl (ex_assign (hF.ev rfl)) ?_
   clear hF fa; intro fa hF
   refine c_nil_then ?_
   refine c_seq ?_
   refine c_reg ?_
   refine st_val hF rfl rfl rfl (ex_assign (hF.ev rfl)) ?_
   clear hF fa; intro fa hF
   refine c_nil_then ?_
   refine c_seq ?_
   refine c_seq ?_
   refine c_reg ?_
   refine st_val hF rfl rfl rfl (ex_move (hF.ev rfl)) ?_
   clear hF fa; intro fa hF
   refine st_val hF rfl rfl rfl (ex_geq (hF.ev rfl) (hF.ev rfl)) ?_
   clear hF fa; intro fa hF
   refine c_nil_then ?_
   refine c_cond hF rfl (fun hc98 => ?_) (fun hc98 => ?_)
   ·
    have hc98p : ((((x.getD (k) 0 : Nat) : Int) + ((cr : Nat) : Int)) + ((y.getD (k) 0 : Nat) : Int)) ≥ 1000000000 := by first | simpa using hc98 | exact bang_t hc98 | exact bang_f hc98
    refine c_reg ?_
    refine st_val hF rfl rfl rfl (ex_move (hF.ev rfl)) ?_
    clear hF fa; intro fa hF
    refine st_val hF rfl rfl rfl (ex_sub (hF.ev rfl) (hF.ev rfl) (wu32 (by omega) (by omega))) ?_
    clear hF fa; intro fa hF
    refine st_val hF rfl rfl rfl (ex_assign (hF.ev rfl)) ?_
    clear hF fa; intro fa hF
    refine st_val hF rfl rfl rfl (ex_assign (hF.ev rfl)) ?_
    clear hF fa; intro fa hF
    replace hF : Frm 53 fa [(0, (.slice (A_x) (x.length) (c_x))), (1, (.slice (A_y) (y.length) (c_y))), (4, (.slice (none) (0) (0))), (13, (.bool (decide (((x.length : Nat) : Int) < ((y.length : Nat) : Int))))), (20, (.slice (A_x) (x.length) (c_x))), (21, (.int .i64 (((x.length : Nat) : Int)))), (5, vo), (6, (.int .u32 (1))), (22, (.int .i64 (((k : Nat) : Int)))), (23, (.bool (decide (((k : Nat) : Int) < ((x.length : Nat) : Int))))), (7, (.int .i64 (((k : Nat) : Int)))), (8, (.int .u32 (((((x.getD (k) 0 : Nat) : Int) + ((cr : Nat) : Int)) + ((y.getD (k) 0 : Nat) : Int)) - 1000000000))), (33, (.bool (decide (((k : Nat) : Int) < ((y.length : Nat) : Int))))), (41, (.bool (decide (((((x.getD (k) 0 : Nat) : Int) + ((cr : Nat) : Int)) + ((y.getD (k) 0 : Nat) : Int)) ≥ 1000000000))))] := (hF.take (hF.take (hF.take (hF.take (hF.take (hF.take (hF.take (hF.take (hF.take (hF.take (hF.take (hF.take (hF.take (hF.take hF.nil rfl) rfl) rfl) rfl) rfl) rfl) rfl) rfl) rfl) rfl) rfl) rfl) rfl) rfl)
    refine c_nil_then ?_
    refine c_reg ?_
    refine st_val hF rfl rfl rfl (ex_move (hF.ev rfl)) ?_
    clear hF fa; intro fa hF
    refine st_val hF rfl rfl rfl (ex_move (hF.ev rfl)) ?_
    clear hF fa; intro fa hF
    refine st rfl (op_lit (X := (bl So ++ X)) hF hS (hS.bnd hX) rfl TfC.sl22 TfC.el46 rfl rfl (lits1 (hF.ev (ev_int (b := (((((x.getD (k) 0) + cr) + (y.getD (k) 0)) - 1000000000 : Nat) : Int)) rfl (by omega)))) (fill_u1 (x := (((x.getD (k) 0) + cr) + (y.getD (k) 0)) - 1000000000)) ?_)
    intro g99 w100 hg102 hS E101 hc103; refine gen_ ?_; clear hF fa; intro fa hF
    have hu104 := UC.one (l := [(((x.getD (k) 0) + cr) + (y.getD (k) 0)) - 1000000000]) hc103 (by simp)
    refine st rfl (op_append (X := X) (F := []) (So := So) (l := us (o)) (m := us ([(((x.getD (k) 0) + cr) + (y.getD (k) 0)) - 1000000000])) hF hS rfl TfC.sl22 TfC.el46 rfl rfl rfl (by simp) hO hu104.cl (us_one _) (by simp; omega) (by simp; omega) ?_)
    intro v105 So106 w107 hO108 hS E109 hun110; refine gen_ ?_; clear hF fa; intro fa hF
    clear hun110
    rw [← us_append] at hO108
    replace E109 : Ext w100 (bl So ++ X) w107 (bl So106 ++ X) := E109
    replace hS : St w w107 So106 := hS
    refine st_val hF rfl rfl rfl (ex_assign (hF.ev rfl)) ?_
    clear hF fa; intro fa hF
    refine c_nil ?_
    refine x_bn ?_
    refine x_tn ?_
    refine c_reg ?_
    refine st_val hF rfl rfl rfl (ex_add (hF.ev rfl) (hF.ev rfl) (wi64 (by omega) (by omega))) ?_
    clear hF fa; intro fa hF
    refine st_val hF rfl rfl rfl (ex_move (hF.ev rfl)) ?_
    clear hF fa; intro fa hF
    refine c_nil ?_
    refine x_tn ?_
    exact ⟨_, (by omega), o ++ ([(((x.getD (k) 0) + cr) + (y.getD (k) 0)) - 1000000000]), 1, (k + 1), v105, So106, (hF.take (hF.take (hF.take (hF.take (hF.take (hF.take (hF.take (hF.take (hF.take hF.nil (lk_int rfl (by omega))) (lk_int rfl (by omega))) rfl) rfl) rfl) rfl) rfl) rfl) rfl), hS, ((E89.trans E101).trans E109), (hO108), (by omega), (by simp; omega), (lb_snoc hbo (by omega)), (by omega), (plus_snoc ho hv (s := _) (by first | rfl | omega | (have := getD_none (l := x) (k := k) (by omega); omega) | (have := getD_none (l := y) (k := k) (by omega); omega)) (by omega) (by omega)), rfl⟩
   have hc98p : ¬ (((((x.getD (k) 0 : Nat) : Int) + ((cr : Nat) : Int)) + ((y.getD (k) 0 : Nat) : Int)) ≥ 1000000000) := by first | simpa using hc98 | exact bang_t hc98 | exact bang_f hc98
   refine c_skip ?_
   refine x_tn ?_
   refine c_reg ?_
   refine st_val hF rfl rfl rfl (ex_move (hF.ev rfl)) ?_
   clear hF fa; intro fa hF
   refine st_val hF rfl rfl rfl (ex_move (hF.ev rfl)) ?_
   clear hF fa; intro fa hF
   refine st rfl (op_lit (X := (bl So ++ X)) hF hS (hS.bnd hX) rfl TfC.sl22 TfC.el46 rfl rfl (lits1 (hF.ev (ev_int (b := ((((x.getD (k) 0) + cr) + (y.getD (k) 0) : Nat) : Int)) rfl (by omega)))) (fill_u1 (x := ((x.getD (k) 0) + cr) + (y.getD (k) 0))) ?_)
   intro g111 w112 hg114 hS E113 hc115; refine gen_ ?_; clear hF fa; intro fa hF
   have hu116 := UC.one (l := [((x.getD (k) 0) + cr) + (y.getD (k) 0)]) hc115 (by simp)
   refine st rfl (op_append (X := X) (F := []) (So := So) (l := us (o)) (m := us ([((x.getD (k) 0) + cr) + (y.getD (k) 0)])) hF hS rfl TfC.sl22 TfC.el46 rfl rfl rfl (by simp) hO hu116.cl (us_one _) (by simp; omega) (by simp; omega) ?_)
   intro v117 So118 w119 hO120 hS E121 hun122; refine gen_ ?_; clear hF fa; intro fa hF
   clear hun122
   rw [← us_append] at hO120
   replace E121 : Ext w112 (bl So ++ X) w119 (bl So118 ++ X) := E121
   replace hS : St w w119 So118 := hS
   refine st_val hF rfl rfl rfl (ex_assign (hF.ev rfl)) ?_
   clear hF fa; intro fa hF
   replace hF : Frm 53 fa [(0, (.slice (A_x) (x.length) (c_x))), (1, (.slice (A_y) (y.length) (c_y))), (4, (.slice (none) (0) (0))), (13, (.bool (decide (((x.length : Nat) : Int) < ((y.length : Nat) : Int))))), (20, (.slice (A_x) (x.length) (c_x))), (21, (.int .i64 (((x.length : Nat) : Int)))), (5, v117), (6, (.int .u32 (0))), (22, (.int .i64 (((k : Nat) : Int)))), (23, (.bool (decide (((k : Nat) : Int) < ((x.length : Nat) : Int))))), (7, (.int .i64 (((k : Nat) : Int)))), (8, (.int .u32 ((((x.getD (k) 0 : Nat) : Int) + ((cr : Nat) : Int)) + ((y.getD (k) 0 : Nat) : Int)))), (33, (.bool (decide (((k : Nat) : Int) < ((y.length : Nat) : Int))))), (41, (.bool (decide (((((x.getD (k) 0 : Nat) : Int) + ((cr : Nat) : Int)) + ((y.getD (k) 0 : Nat) : Int)) ≥ 1000000000))))] := (hF.take (hF.take (hF.take (hF.take (hF.take (hF.take (hF.take (hF.take (hF.take (hF.take (hF.take (hF.take (hF.take (hF.take hF.nil rfl) rfl) rfl) rfl) rfl) rfl) rfl) rfl) rfl) rfl) rfl) rfl) rfl) rfl)
   refine c_nil ?_
   refine x_bn ?_
   refine x_tn ?_
   refine c_reg ?_
   refine st_val hF rfl rfl rfl (ex_add (hF.ev rfl) (hF.ev rfl) (wi64 (by omega) (by omega))) ?_
   clear hF fa; intro fa hF
   refine st_val hF rfl rfl rfl (ex_move (hF.ev rfl)) ?_
   clear hF fa; intro fa hF
   refine c_nil ?_
   refine x_tn ?_
   exact ⟨_, (by omega), o ++ ([((x.getD (k) 0) + cr) + (y.getD (k) 0)]), 0, (k + 1), v117, So118, (hF.take (hF.take (hF.take (hF.take (hF.take (hF.take (hF.take (hF.take (hF.take hF.nil (lk_int rfl (by omega))) (lk_int rfl (by omega))) rfl) rfl) rfl) rfl) rfl) rfl) rfl), hS, ((E89.trans E113).trans E121), (hO120), (by omega), (by simp; omega), (lb_snoc hbo (by omega)), (by omega), (plus_snoc ho hv (s := _) (by first | rfl | omega | (have := getD_none (l := x) (k := k) (by omega); omega) | (have := getD_none (l := y) (k := k) (by omega); omega)) (by omega) (by omega)), rfl⟩
  have hc94p : ¬ (((k : Nat) : Int) < ((y.length : Nat) : Int)) := by first | simpa using hc94 | exact bang_t hc94 | exact bang_f hc94
  first | (have hz0 := getD_none (l := x) (k := k) (by omega)) | (have hz0 := getD_none (l := y) (k := k) (by omega))
  refine c_skip ?_
  refine x_tn ?_
  refine c_seq ?_
  refine c_reg ?_
  refine st_val hF rfl rfl rfl (ex_assign (hF.ev rfl)) ?_
  clear hF fa; intro fa hF
  refine c_nil_then ?_
  refine c_seq ?_
  refine c_seq ?_
  refine c_reg ?_
  refine st_val hF rfl rfl rfl (ex_move (hF.ev rfl)) ?_
  clear hF fa; intro fa hF
  refine st_val hF rfl rfl rfl (ex_geq (hF.ev rfl) (hF.ev rfl)) ?_
  clear hF fa; intro fa hF
  refine c_nil_then ?_
  refine c_cond hF rfl (fun hc123 => ?_) (fun hc123 => ?_)
  ·
   have hc123p : (((x.getD (k) 0 : Nat) : Int) + ((cr : Nat) : Int)) ≥ 1000000000 := by first | simpa using hc123 | exact bang_t hc123 | exact bang_f hc123
   refine c_reg ?_
   refine st_val hF rfl rfl rfl (ex_move (hF.ev rfl)) ?_
   clear hF fa; intro fa hF
   refine st_val hF rfl rfl rfl (ex_sub (hF.ev rfl) (hF.ev rfl) (wu32 (by omega) (by omega))) ?_
   clear hF fa; intro fa hF
   refine st_val hF rfl rfl rfl (ex_assign (hF.ev rfl)) ?_
   clear hF fa; intro fa hF
   refine st_val hF rfl rfl rfl (ex_assign (hF.ev rfl)) ?_
   clear hF fa; intro fa hF
   refine c_nil_then ?_
   refine c_reg ?_
   refine st_val hF rfl rfl rfl (ex_move (hF.ev rfl)) ?_
   clear hF fa; intro fa hF
   refine st_val hF rfl rfl rfl (ex_move (hF.ev rfl)) ?_
   clear hF fa; intro fa hF
   refine st rfl (op_lit (X := (bl So ++ X)) hF hS (hS.bnd hX) rfl TfC.sl22 TfC.el46 rfl rfl (lits1 (hF.ev (ev_int (b := ((((x.getD (k) 0) + cr) - 1000000000 : Nat) : Int)) rfl (by omega)))) (fill_u1 (x := ((x.getD (k) 0) + cr) - 1000000000)) ?_)
   intro g124 w125 hg127 hS E126 hc128; refine gen_ ?_; clear hF fa; intro fa hF
   have hu129 := UC.one (l := [((x.getD (k) 0) + cr) - 1000000000]) hc128 (by simp)
   refine st rfl (op_append (X := X) (F := []) (So := So) (l := us (o)) (m := us ([((x.getD (k) 0) + cr) - 1000000000])) hF hS rfl TfC.sl22 TfC.el46 rfl rfl rfl (by simp) hO hu129.cl (us_one _) (by simp; omega) (by simp; omega) ?_)
   intro v130 So131 w132 hO133 hS E134 hun135; refine gen_ ?_; clear hF fa; intro fa hF
   clear hun135
   rw [← us_append] at hO133
   replace E134 : Ext w125 (bl So ++ X) w132 (bl So131 ++ X) := E134
   replace hS : St w w132 So131 := hS
   refine st_val hF rfl rfl rfl (ex_assign (hF.ev rfl)) ?_
   clear hF fa; intro fa hF
   refine c_nil ?_
   refine x_bn ?_
   refine x_tn ?_
   refine c_reg ?_
   refine st_val hF rfl rfl rfl (ex_add (hF.ev rfl) (hF.ev rfl) (wi64 (by omega) (by omega))) ?_
   clear hF fa; intro fa hF
   refine st_val hF rfl rfl rfl (ex_move (hF.ev rfl)) ?_
   clear hF fa; intro fa hF
   refine c_nil ?_
   refine x_tn ?_
   exact ⟨_, (by omega), o ++ ([((x.getD (k) 0) + cr) - 1000000000]), 1, (k + 1), v130, So131, (hF.take (hF.take (hF.take (hF.take (hF.take (hF.take (hF.take (hF.take (hF.take hF.nil (lk_int rfl (by omega))) (lk_int rfl (by omega))) rfl) rfl) rfl) rfl) rfl) rfl) rfl), hS, ((E89.trans E126).trans E134), (hO133), (by omega), (by simp; omega), (lb_snoc hbo (by omega)), (by omega), (plus_snoc ho hv (s := _) (by first | rfl | omega | (have := getD_none (l := x) (k := k) (by omega); omega) | (have := getD_none (l := y) (k := k) (by omega); omega)) (by omega) (by omega)), rfl⟩
  have hc123p : ¬ ((((x.getD (k) 0 : Nat) : Int) + ((cr : Nat) : Int)) ≥ 1000000000) := by first | simpa using hc123 | exact bang_t hc123 | exact bang_f hc123
  refine c_skip ?_
  refine x_tn ?_
  refine c_reg ?_
  refine st_val hF rfl rfl rfl (ex_move (hF.ev rfl)) ?_
  clear hF fa; intro fa hF
  refine st_val hF rfl rfl rfl (ex_move (hF.ev rfl)) ?_
  clear hF fa; intro fa hF
  refine st rfl (op_lit (X := (bl So ++ X)) hF hS (hS.bnd hX) rfl TfC.sl22 TfC.el46 rfl rfl (lits1 (hF.ev (ev_int (b := (((x.getD (k) 0) + cr : Nat) : Int)) rfl (by omega)))) (fill_u1 (x := (x.getD (k) 0) + cr)) ?_)
  intro g136 w137 hg139 hS E138 hc140; refine gen_ ?_; clear hF fa; intro fa hF
  have hu141 := UC.one (l := [(x.getD (k) 0) + cr]) hc140 (by simp)
  refine st rfl (op_append (X := X) (F := []) (So := So) (l := us (o)) (m := us ([(x.getD (k) 0) + cr])) hF hS rfl TfC.sl22 TfC.el46 rfl rfl rfl (by simp) hO hu141.cl (us_one _) (by simp; omega) (by simp; omega) ?_)
  intro v142 So143 w144 hO145 hS E146 hun147; refine gen_ ?_; clear hF fa; intro fa hF
  clear hun147
  rw [← us_append] at hO145
  replace E146 : Ext w137 (bl So ++ X) w144 (bl So143 ++ X) := E146
  replace hS : St w w144 So143 := hS
  refine st_val hF rfl rfl rfl (ex_assign (hF.ev rfl)) ?_
  clear hF fa; intro fa hF
  refine c_nil ?_
  refine x_bn ?_
  refine x_tn ?_
  refine c_reg ?_
  refine st_val hF rfl rfl rfl (ex_add (hF.ev rfl) (hF.ev rfl) (wi64 (by omega) (by omega))) ?_
  clear hF fa; intro fa hF
  refine st_val hF rfl rfl rfl (ex_move (hF.ev rfl)) ?_
  clear hF fa; intro fa hF
  refine c_nil ?_
  refine x_tn ?_
  exact ⟨_, (by omega), o ++ ([(x.getD (k) 0) + cr]), 0, (k + 1), v142, So143, (hF.take (hF.take (hF.take (hF.take (hF.take (hF.take (hF.take (hF.take (hF.take hF.nil (lk_int rfl (by omega))) (lk_int rfl (by omega))) rfl) rfl) rfl) rfl) rfl) rfl) rfl), hS, ((E89.trans E138).trans E146), (hO145), (by omega), (by simp; omega), (lb_snoc hbo (by omega)), (by omega), (plus_snoc ho hv (s := _) (by first | rfl | omega | (have := getD_none (l := x) (k := k) (by omega); omega) | (have := getD_none (l := y) (k := k) (by omega); omega)) (by omega) (by omega)), rfl⟩
 have hc90p : ¬ (((k : Nat) : Int) < ((x.length : Nat) : Int)) := by first | simpa using hc90 | exact bang_t hc90 | exact bang_f hc90
 refine c_exit ?_
 refine x_te ?_
 refine x_te ?_
 refine x_bh ?_
 refine x_tn ?_
 refine c_seq ?_
 refine c_reg ?_
 refine st_val hF rfl rfl rfl (ex_move (hF.ev rfl)) ?_
 clear hF fa; intro fa hF
 refine st_val hF rfl rfl rfl (ex_move (hF.ev rfl)) ?_
 clear hF fa; intro fa hF
 refine st rfl (op_lit (X := (bl So ++ X)) hF hS (hS.bnd hX) rfl TfC.sl22 TfC.el46 rfl rfl (lits1 (hF.ev (ev_int (b := ((cr : Nat) : Int)) rfl (by omega)))) (fill_u1 (x := cr)) ?_)
 intro g148 w149 hg151 hS E150 hc152; refine gen_ ?_; clear hF fa; intro fa hF
 have hu153 := UC.one (l := [cr]) hc152 (by simp)
 refine st rfl (op_append (X := X) (F := []) (So := So) (l := us (o)) (m := us ([cr])) hF hS rfl TfC.sl22 TfC.el46 rfl rfl rfl (by simp) hO hu153.cl (us_one _) (by simp; omega) (by simp; omega) ?_)
 intro v154 So155 w156 hO157 hS E158 hun159; refine gen_ ?_; clear hF fa; intro fa hF
 clear hun159
 rw [← us_append] at hO157
 replace E158 : Ext w149 (bl So ++ X) w156 (bl So155 ++ X) := E158
 replace hS : St w w156 So155 := hS
 refine st_val hF rfl rfl rfl (ex_assign (hF.ev rfl)) ?_
 clear hF fa; intro fa hF
 replace hF : Frm 53 fa [(0, (.slice (A_x) (x.length) (c_x))), (1, (.slice (A_y) (y.length) (c_y))), (4, v154), (13, (.bool (decide (((x.length : Nat) : Int) < ((y.length : Nat) : Int))))), (20, (.slice (A_x) (x.length) (c_x))), (21, (.int .i64 (((x.length : Nat) : Int)))), (5, vo), (6, (.int .u32 (((cr : Nat) : Int)))), (22, (.int .i64 (((k : Nat) : Int)))), (23, (.bool (decide (((k : Nat) : Int) < ((x.length : Nat) : Int)))))] := (hF.take (hF.take (hF.take (hF.take (hF.take (hF.take (hF.take (hF.take (hF.take (hF.take hF.nil rfl) rfl) rfl) rfl) rfl) rfl) rfl) rfl) rfl) rfl)
 refine c_nil_then ?_
 refine c_ret ?_
 refine end1 hF rfl (res_tmp hF rfl) ?_
 exact ⟨_, rfl, ⟨o ++ ([cr]), (UL.fin (UC.of_ow (F := []) hO157 hS hX) (rfl) (fun _ h => h)), (lb_snoc hbo (by omega)), (by have h1 := val_take_all (l := x) (k := k); have h2 := val_take_all (l := y) (k := k); rw [val_snoc ho]; rw [h1 (by omega), h2 (by omega)] at hv; omega), (by simp; omega)⟩, hS.below⟩

end Go.Proofs.Ytlaojdpcfenlkaa
