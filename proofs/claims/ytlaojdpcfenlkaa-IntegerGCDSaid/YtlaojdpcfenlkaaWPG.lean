/-
  What the functions GCD do, each call by call.
  Conditions: none.
-/
import Derived.Test.YtlaojdpcfenlkaaChecked
import Derived.Test.YtlaojdpcfenlkaaSwBaseM
import Derived.Test.YtlaojdpcfenlkaaWG
import Derived.Test.YtlaojdpcfenlkaaWH
import Derived.Test.YtlaojdpcfenlkaaWPA
namespace Go.Proofs.Ytlaojdpcfenlkaa
open Go Go.RowKit Go.Sw
set_option linter.unusedVariables false
namespace TfPG
theorem body45 : hasBody Try.prog 45 = true := by kernel_rfl
theorem body51 : hasBody Try.prog 51 = true := by kernel_rfl
theorem body52 : hasBody Try.prog 52 = true := by kernel_rfl
theorem body53 : hasBody Try.prog 53 = true := by kernel_rfl
theorem mixed : Try.prog.follows .mixedOrders = true := by kernel_rfl
theorem off24_1 : fieldOff Try.prog 24 1 = some 1 := by kernel_rfl
theorem one22 : isOne Try.prog 22 = true := by kernel_rfl
theorem row24 : isRow Try.prog 24 2 = true := by kernel_rfl
theorem size24 : (Try.prog.info? 24).map (fun i => i.size) = some 2 := by kernel_rfl
theorem sls22 : (sliceOf Try.prog 22).isSome = true := by kernel_rfl
theorem zero24 : zeroOf Try.prog 24 = some #[.bool false, .slice none 0 0] := by kernel_rfl
end TfPG
set_option maxHeartbeats 4000000 in
theorem ref01_GCD_ok {w : World} {X : List Nat} (hX : ∀ m ∈ X, m < w.heap.size) {v_a : Value} {a : Int} (h_a : IntV w X v_a (a)) {v_b : Value} {b : Int} (h_b : IntV w X v_b (b)) (hs_a : sz a ≤ 1000000000) (hs_b : sz b ≤ 1000000000) :
    Calls Try.prog 24 #[v_a, v_b] w (Ret fun r w' => (IntV w' X r (((Nat.gcd a.natAbs b.natAbs : Nat) : Int))) ∧ Below w.heap.size w w') := by
 refine enter (N := 54) (fn := Try.f24) (vs := [v_a, v_b]) Try.func24 rfl rfl rfl ?_
 intro fa hF
 obtain ⟨_, rfl, A_a, c_a, rfl, hu_a⟩ := h_a
 have hl_a := hu_a.len; have hc_a := hu_a.cap
 obtain ⟨_, rfl, A_b, c_b, rfl, hu_b⟩ := h_b
 have hl_b := hu_b.len; have hc_b := hu_b.cap
 replace hF : Frm 54 fa [(0, (.agg (ic (A_a) (c_a) (a)))), (1, (.agg (ic (A_b) (c_b) (b))))] := hF
 have hS := St.refl w
 have hs_a0 := hs_a; have hs_b0 := hs_b; unfold sz at hs_a0 hs_b0
 refine c_seq ?_
 refine c_reg ?_
 refine st rfl (op_box (X := X) hF hS rfl rfl rfl ?_)
 intro g1 w2 hg4 hS E3; refine gen_ ?_; clear hF fa; intro fa hF
 replace hS : St w w2 [(g1, 24, (ic (A_a) (c_a) (a)))] := hS
 refine st rfl (op_box (X := (g1 :: X)) hF hS rfl rfl rfl ?_)
 intro g5 w6 hg8 hS E7; refine gen_ ?_; clear hF fa; intro fa hF
 replace hS : St w w6 [(g5, 24, (ic (A_b) (c_b) (b))), (g1, 24, (ic (A_a) (c_a) (a)))] := hS
 refine st rfl (op_alloc (X := (g5 :: (g1 :: X))) hF hS rfl TfPG.zero24 ?_)
 intro g9 w10 hg12 hS E11; refine gen_ ?_; clear hF fa; intro fa hF
 replace hS : St w w10 [(g9, 24, #[(.bool (false)), (.slice (none) (0) (0))]), (g5, 24, (ic (A_b) (c_b) (b))), (g1, 24, (ic (A_a) (c_a) (a)))] := hS
 refine c_nil_then ?_
 refine c_seq ?_
 refine drawn2 (N := 54) (L0 := [(0, (.agg (ic (A_a) (c_a) (a)))), (1, (.agg (ic (A_b) (c_b) (b)))), (2, (.pointer (some ⟨g1, 0, none⟩))), (3, (.pointer (some ⟨g5, 0, none⟩))), (4, (.pointer (some ⟨g9, 0, none⟩)))]) [some (.pointer (some ⟨g1, 1, none⟩)), some (.slice (A_a) ((lim a.natAbs).length) (c_a)), some (.pointer (some ⟨g5, 1, none⟩)), some (.slice (A_b) ((lim b.natAbs).length) (c_b)), some (.slice (A_a) ((lim a.natAbs).length) (c_a)), some (.slice (A_b) ((lim b.natAbs).length) (c_b))] [] [[]] [[0], [0], [0], [0], [0], [0]] 0 [
       fun fa w' => Frm 54 fa [] ∧ St w w' [(g9, 24, #[(.bool (false)), (.slice (none) (0) (0))]), (g5, 24, (ic (A_b) (c_b) (b))), (g1, 24, (ic (A_a) (c_a) (a)))] ∧ Ext w10 (g9 :: (g5 :: (g1 :: X))) w' (g9 :: (g5 :: (g1 :: X)))
     ] TfPG.mixed rfl rfl rfl rfl rfl rfl (hF.take (hF.take (hF.take (hF.take (hF.take hF.nil rfl) rfl) rfl) rfl) rfl) rfl ⟨hF.nil, hS.drew, Ext.drew _ _⟩ ?_ ?_ ?_
 all_goals clear hF fa
 ·
  refine ⟨?_, trivial⟩
  ·
   rintro fa w' i o d v ho hd hna ⟨hA, hR⟩; exact ⟨hA.put_other v (freeOf_at (acts := []) rfl ho hd hna), hR⟩
 ·
  refine ⟨?_, ?_, ?_, ?_, ?_, ?_, trivial⟩
  ·
   refine .inl ⟨rfl, _, _, rfl, rfl, fun s fa w' hΦ hF hB K hK => ?_⟩
   exact fl_val rfl rfl rfl (ex_field_addr TfPG.off24_1 (hF.ev rfl)) hK
  ·
   refine .inr (.inl ⟨rfl, _, _, rfl, rfl, ?_, trivial⟩)
   ·
    intro fa w' hΦ hF hB K hK
    obtain ⟨hA, hS, E_w'⟩ := hΦ
    replace hF := hF.cons (hB.val 0 _ 11 _ rfl rfl rfl rfl)
    exact fl_val rfl rfl rfl (ex_load1b TfPG.one22 (hF.ev rfl) (hS.get 2 rfl) rfl) hK
  ·
   refine .inl ⟨rfl, _, _, rfl, rfl, fun s fa w' hΦ hF hB K hK => ?_⟩
   exact fl_val rfl rfl rfl (ex_field_addr TfPG.off24_1 (hF.ev rfl)) hK
  ·
   refine .inr (.inl ⟨rfl, _, _, rfl, rfl, ?_, trivial⟩)
   ·
    intro fa w' hΦ hF hB K hK
    obtain ⟨hA, hS, E_w'⟩ := hΦ
    replace hF := hF.cons (hB.val 2 _ 13 _ rfl rfl rfl rfl)
    exact fl_val rfl rfl rfl (ex_load1b TfPG.one22 (hF.ev rfl) (hS.get 1 rfl) rfl) hK
  ·
   refine .inl ⟨rfl, _, _, rfl, rfl, fun s fa w' hΦ hF hB K hK => ?_⟩
   replace hF := hF.cons (hB.val 1 _ 12 _ rfl rfl rfl rfl)
   exact fl_val rfl rfl rfl (ex_assign (hF.ev rfl)) hK
  ·
   refine .inl ⟨rfl, _, _, rfl, rfl, fun s fa w' hΦ hF hB K hK => ?_⟩
   replace hF := hF.cons (hB.val 3 _ 14 _ rfl rfl rfl rfl)
   exact fl_val rfl rfl rfl (ex_assign (hF.ev rfl)) hK
 intro fa w13 hΦ hF hC
 obtain ⟨hA, hS, E_w13⟩ := hΦ
 replace hF := hF.cons (hC 4 _ 5 _ rfl rfl rfl)
 replace hF := hF.cons (hC 5 _ 6 _ rfl rfl rfl)
 clear hA hC
 refine x_tn ?_
 refine c_seq ?_
 refine c_block ?_
 refine c_loop (fun mu fa w' => ∃ mm : Nat, ∃ nn : Nat, ∃ Ax : Option Addr, ∃ cx : Nat, ∃ Ay : Option Addr, ∃ cy : Nat, Frm 54 fa [(0, (.agg (ic (A_a) (c_a) (a)))), (1, (.agg (ic (A_b) (c_b) (b)))), (2, (.pointer (some ⟨g1, 0, none⟩))), (3, (.pointer (some ⟨g5, 0, none⟩))), (4, (.pointer (some ⟨g9, 0, none⟩))), (5, (.slice (Ax) ((lim (mm)).length) (cx))), (6, (.slice (Ay) ((lim (nn)).length) (cy)))] ∧ St w w' [(g9, 24, #[(.bool (false)), (.slice (none) (0) (0))]), (g5, 24, (ic (A_b) (c_b) (b))), (g1, 24, (ic (A_a) (c_a) (a)))] ∧ Ext w13 (g9 :: (g5 :: (g1 :: X))) w' (g9 :: (g5 :: (g1 :: X))) ∧ UC w' (g9 :: (g5 :: (g1 :: X))) Ax cx (lim (mm)) ∧ UC w' (g9 :: (g5 :: (g1 :: X))) Ay cy (lim (nn)) ∧ (Nat.gcd mm nn = Nat.gcd a.natAbs b.natAbs) ∧ ((lim mm).length ≤ 1000000000) ∧ ((lim nn).length ≤ 1000000000) ∧ nn = mu) ?_ ?_
 ·
  exact ⟨_, a.natAbs, b.natAbs, A_a, c_a, A_b, c_b, (hF.take (hF.take (hF.take (hF.take (hF.take (hF.take (hF.take hF.nil (lk_slice rfl (by omega))) (lk_slice rfl (by omega))) rfl) rfl) rfl) rfl) rfl), hS, Ext.refl _ _, (hu_a.ext (((E3.trans E7).trans E11).trans E_w13)), (hu_b.ext (((E3.trans E7).trans E11).trans E_w13)), (rfl), (hs_a0), (hs_b0), rfl⟩
 clear hF fa; intro n0_ fa w' hI
 clear hS
 obtain ⟨mm, nn, Ax, cx, Ay, cy, hF, hS, E15, hx, hy, hg, hlm, hln, rfl⟩ := hI
 rename World => w14
 have hzn := lim_len_zero (n := nn)
 refine c_seq ?_
 refine c_seq ?_
 refine c_reg ?_
 refine st_val hF rfl rfl rfl (ex_move (hF.ev rfl)) ?_
 clear hF fa; intro fa hF
 refine st_val hF rfl rfl rfl (ex_len TfPG.sls22 (hF.ev rfl)) ?_
 clear hF fa; intro fa hF
 refine st_val hF rfl rfl rfl (ex_gtr (hF.ev rfl) (hF.ev rfl)) ?_
 clear hF fa; intro fa hF
 refine st_val hF rfl rfl rfl (ex_move (hF.ev rfl)) ?_
 clear hF fa; intro fa hF
 rcases Bool.eq_false_or_eq_true (decide ((((lim (nn)).length : Nat) : Int) > 0)) with hg16 | hg16
 ·
  replace hF := hF.cons (t := 18) (v := .bool true) ((hF.get 18 _ rfl).trans (congrArg Value.bool hg16))
  have hg16p : (((lim (nn)).length : Nat) : Int) > 0 := by simpa using hg16
  refine stg_val hF rfl rfl rfl rfl (ex_move (hF.ev rfl)) ?_
  clear hF fa; intro fa hF
  refine stg_val hF rfl rfl rfl rfl (ex_len TfPG.sls22 (hF.ev rfl)) ?_
  clear hF fa; intro fa hF
  refine stg_val hF rfl rfl rfl rfl (ex_gtr (hF.ev rfl) (hF.ev rfl)) ?_
  clear hF fa; intro fa hF
  refine stg_val hF rfl rfl rfl rfl (ex_move (hF.ev rfl)) ?_
  clear hF fa; intro fa hF
  rcases Bool.eq_false_or_eq_true (decide ((((lim (mm)).length : Nat) : Int) > 2)) with hg17 | hg17
  ·
   replace hF := hF.cons (t := 22) (v := .bool true) ((hF.get 22 _ rfl).trans (congrArg Value.bool hg17))
   have hg17p : (((lim (mm)).length : Nat) : Int) > 2 := by simpa using hg17
   refine st_skip hF rfl rfl rfl rfl rfl ?_
   clear hF fa; intro fa hF
   refine st_skip hF rfl rfl rfl rfl rfl ?_
   clear hF fa; intro fa hF
   refine st_skip hF rfl rfl rfl rfl rfl ?_
   clear hF fa; intro fa hF
   refine stg_val hF rfl rfl rfl rfl (ex_pick (hF.ev rfl) (fun _ => hF.ev rfl) (v := undef) (fun h => by cases h) rfl) ?_
   clear hF fa; intro fa hF
   refine st_val hF rfl rfl rfl (ex_pick (hF.ev rfl) (fun _ => hF.ev rfl) (v := undef) (fun h => by cases h) rfl) ?_
   clear hF fa; intro fa hF
   replace hF : Frm 54 fa [(0, (.agg (ic (A_a) (c_a) (a)))), (1, (.agg (ic (A_b) (c_b) (b)))), (2, (.pointer (some ⟨g1, 0, none⟩))), (3, (.pointer (some ⟨g5, 0, none⟩))), (4, (.pointer (some ⟨g9, 0, none⟩))), (5, (.slice (Ax) ((lim (mm)).length) (cx))), (6, (.slice (Ay) ((lim (nn)).length) (cy))), (27, (.bool (true)))] := (hF.take (hF.take (hF.take (hF.take (hF.take (hF.take (hF.take (hF.take hF.nil rfl) rfl) rfl) rfl) rfl) rfl) rfl) rfl)
   refine c_nil_then ?_
   refine c_cond hF rfl (fun hc => ?_) (fun hc => ?_)
   rotate_left
   ·
    cases hc
   refine c_skip ?_
   refine x_tn ?_
   refine c_block ?_
   refine c_seq ?_
   refine c_reg ?_
   refine st_val hF rfl rfl rfl (ex_move (hF.ev rfl)) ?_
   clear hF fa; intro fa hF
   refine st_val hF rfl rfl rfl (ex_move (hF.ev rfl)) ?_
   clear hF fa; intro fa hF
   have hC := ref01_parts_ok (w := w14) (X := (g9 :: (g5 :: (g1 :: X)))) (a := (lim (mm))) (b := (lim (nn))) (hS.bnd hX) ⟨_, ((lim (mm)).length), _, rfl, (rfl), hx⟩ ⟨_, ((lim (nn)).length), _, rfl, (rfl), hy⟩ (by omega) (by omega) (CanL.lim _) (CanL.lim _) (by rw [val_lim]; omega)
   rw [show (lim (val ((lim (mm))) / val ((lim (nn))))) = (lim (mm / nn)) from by rw [val_lim, val_lim]] at hC
   rw [show (lim (val ((lim (mm))) % val ((lim (nn))))) = (lim (mm % nn)) from by rw [val_lim, val_lim]] at hC
   refine st rfl (op_call hF rfl TfPG.body51 (args2 (hF.ev rfl) (hF.ev rfl)) hC ?_)
   clear hC
   rintro _ w18 ⟨⟨_, _, rfl, ⟨A21, _, c22, rfl, rfl, hu23⟩, ⟨A24, _, c25, rfl, rfl, hu26⟩⟩, hb19⟩
   refine gen_ ?_; clear hF fa; intro fa hF
   replace hS := hS.call hb19; have E20 := Ext.call (g9 :: (g5 :: (g1 :: X))) hb19
   refine st_val hF rfl rfl rfl (ex_move (hF.ev rfl)) ?_
   clear hF fa; intro fa hF
   refine st_val hF rfl rfl rfl (ex_extract (hF.ev rfl) rfl) ?_
   clear hF fa; intro fa hF
   refine st_val hF rfl rfl rfl (ex_extract (hF.ev rfl) rfl) ?_
   clear hF fa; intro fa hF
   refine st_val hF rfl rfl rfl (ex_assign (hF.ev rfl)) ?_
   clear hF fa; intro fa hF
   refine st_val hF rfl rfl rfl (ex_assign (hF.ev rfl)) ?_
   clear hF fa; intro fa hF
   refine c_nil_then ?_
   refine c_reg ?_
   refine st_val hF rfl rfl rfl (ex_move (hF.ev rfl)) ?_
   clear hF fa; intro fa hF
   refine st_val hF rfl rfl rfl (ex_move (hF.ev rfl)) ?_
   clear hF fa; intro fa hF
   refine st_val hF rfl rfl rfl (ex_assign (hF.ev rfl)) ?_
   clear hF fa; intro fa hF
   refine st_val hF rfl rfl rfl (ex_assign (hF.ev rfl)) ?_
   clear hF fa; intro fa hF
   refine c_nil ?_
   refine x_bn ?_
   refine x_tn ?_
   exact ⟨_, (Nat.mod_lt _ (by omega)), nn, (mm % nn), Ay, cy, A24, c25, (hF.take (hF.take (hF.take (hF.take (hF.take (hF.take (hF.take hF.nil (lk_slice rfl (by omega))) (lk_slice rfl (by omega))) rfl) rfl) rfl) rfl) rfl), hS, (E15.trans E20), (hy.ext E20), hu26, (gcd_turn hg rfl), (hln), (by have := lim_le_of_le (Nat.mod_le mm nn); omega), rfl⟩
  replace hF := hF.cons (t := 22) (v := .bool false) ((hF.get 22 _ rfl).trans (congrArg Value.bool hg17))
  have hg17p : ¬ ((((lim (mm)).length : Nat) : Int) > 2) := by simpa using hg17
  refine stg_val hF rfl rfl rfl rfl (ex_move (hF.ev rfl)) ?_
  clear hF fa; intro fa hF
  refine stg_val hF rfl rfl rfl rfl (ex_len TfPG.sls22 (hF.ev rfl)) ?_
  clear hF fa; intro fa hF
  refine stg_val hF rfl rfl rfl rfl (ex_gtr (hF.ev rfl) (hF.ev rfl)) ?_
  clear hF fa; intro fa hF
  refine stg_val hF rfl rfl rfl rfl (ex_pick (hF.ev rfl) (u := undef) (fun h => by cases h) (fun _ => hF.ev rfl) rfl) ?_
  clear hF fa; intro fa hF
  refine st_val hF rfl rfl rfl (ex_pick (hF.ev rfl) (fun _ => hF.ev rfl) (v := undef) (fun h => by cases h) rfl) ?_
  clear hF fa; intro fa hF
  replace hF : Frm 54 fa [(0, (.agg (ic (A_a) (c_a) (a)))), (1, (.agg (ic (A_b) (c_b) (b)))), (2, (.pointer (some ⟨g1, 0, none⟩))), (3, (.pointer (some ⟨g5, 0, none⟩))), (4, (.pointer (some ⟨g9, 0, none⟩))), (5, (.slice (Ax) ((lim (mm)).length) (cx))), (6, (.slice (Ay) ((lim (nn)).length) (cy))), (27, (.bool (decide ((((lim (nn)).length : Nat) : Int) > 2))))] := (hF.take (hF.take (hF.take (hF.take (hF.take (hF.take (hF.take (hF.take hF.nil rfl) rfl) rfl) rfl) rfl) rfl) rfl) rfl)
  refine c_nil_then ?_
  refine c_cond hF rfl (fun hc27 => ?_) (fun hc27 => ?_)
  ·
   have hc27p : (((lim (nn)).length : Nat) : Int) > 2 := by first | simpa using hc27 | exact bang_t hc27 | exact bang_f hc27
   refine c_skip ?_
   refine x_tn ?_
   refine c_block ?_
   refine c_seq ?_
   refine c_reg ?_
   refine st_val hF rfl rfl rfl (ex_move (hF.ev rfl)) ?_
   clear hF fa; intro fa hF
   refine st_val hF rfl rfl rfl (ex_move (hF.ev rfl)) ?_
   clear hF fa; intro fa hF
   have hC := ref01_parts_ok (w := w14) (X := (g9 :: (g5 :: (g1 :: X)))) (a := (lim (mm))) (b := (lim (nn))) (hS.bnd hX) ⟨_, ((lim (mm)).length), _, rfl, (rfl), hx⟩ ⟨_, ((lim (nn)).length), _, rfl, (rfl), hy⟩ (by omega) (by omega) (CanL.lim _) (CanL.lim _) (by rw [val_lim]; omega)
   rw [show (lim (val ((lim (mm))) / val ((lim (nn))))) = (lim (mm / nn)) from by rw [val_lim, val_lim]] at hC
   rw [show (lim (val ((lim (mm))) % val ((lim (nn))))) = (lim (mm % nn)) from by rw [val_lim, val_lim]] at hC
   refine st rfl (op_call hF rfl TfPG.body51 (args2 (hF.ev rfl) (hF.ev rfl)) hC ?_)
   clear hC
   rintro _ w28 ⟨⟨_, _, rfl, ⟨A31, _, c32, rfl, rfl, hu33⟩, ⟨A34, _, c35, rfl, rfl, hu36⟩⟩, hb29⟩
   refine gen_ ?_; clear hF fa; intro fa hF
   replace hS := hS.call hb29; have E30 := Ext.call (g9 :: (g5 :: (g1 :: X))) hb29
   refine st_val hF rfl rfl rfl (ex_move (hF.ev rfl)) ?_
   clear hF fa; intro fa hF
   refine st_val hF rfl rfl rfl (ex_extract (hF.ev rfl) rfl) ?_
   clear hF fa; intro fa hF
   refine st_val hF rfl rfl rfl (ex_extract (hF.ev rfl) rfl) ?_
   clear hF fa; intro fa hF
   refine st_val hF rfl rfl rfl (ex_assign (hF.ev rfl)) ?_
   clear hF fa; intro fa hF
   refine st_val hF rfl rfl rfl (ex_assign (hF.ev rfl)) ?_
   clear hF fa; intro fa hF
   refine c_nil_then ?_
   refine c_reg ?_
   refine st_val hF rfl rfl rfl (ex_move (hF.ev rfl)) ?_
   clear hF fa; intro fa hF
   refine st_val hF rfl rfl rfl (ex_move (hF.ev rfl)) ?_
   clear hF fa; intro fa hF
   refine st_val hF rfl rfl rfl (ex_assign (hF.ev rfl)) ?_
   clear hF fa; intro fa hF
   refine st_val hF rfl rfl rfl (ex_assign (hF.ev rfl)) ?_
   clear hF fa; intro fa hF
   refine c_nil ?_
   refine x_bn ?_
   refine x_tn ?_
   exact ⟨_, (Nat.mod_lt _ (by omega)), nn, (mm % nn), Ay, cy, A34, c35, (hF.take (hF.take (hF.take (hF.take (hF.take (hF.take (hF.take hF.nil (lk_slice rfl (by omega))) (lk_slice rfl (by omega))) rfl) rfl) rfl) rfl) rfl), hS, (E15.trans E30), (hy.ext E30), hu36, (gcd_turn hg rfl), (hln), (by have := lim_le_of_le (Nat.mod_le mm nn); omega), rfl⟩
  have hc27p : ¬ ((((lim (nn)).length : Nat) : Int) > 2) := by first | simpa using hc27 | exact bang_t hc27 | exact bang_f hc27
  refine c_exit ?_
  refine x_te ?_
  refine x_te ?_
  refine x_bh ?_
  refine x_tn ?_
  refine c_seq ?_
  refine c_seq ?_
  refine c_reg ?_
  refine st_val hF rfl rfl rfl (ex_move (hF.ev rfl)) ?_
  clear hF fa; intro fa hF
  refine st_val hF rfl rfl rfl (ex_len TfPG.sls22 (hF.ev rfl)) ?_
  clear hF fa; intro fa hF
  refine st_val hF rfl rfl rfl (ex_eql (hF.ev rfl) (hF.ev rfl)) ?_
  clear hF fa; intro fa hF
  refine c_nil_then ?_
  refine c_cond hF rfl (fun hc37 => ?_) (fun hc37 => ?_)
  ·
   have hc37p : (((lim (nn)).length : Nat) : Int) = 0 := by first | simpa using hc37 | exact bang_t hc37 | exact bang_f hc37
   have hn0 : nn = 0 := by omega
   refine c_seq ?_
   refine c_reg ?_
   refine st_val hF rfl rfl rfl (ex_move (hF.ev rfl)) ?_
   clear hF fa; intro fa hF
   have hC := ref01_signed_ok (w := w14) (X := (g9 :: (g5 :: (g1 :: X)))) (l := (lim (mm))) (hS.bnd hX) false ⟨_, ((lim (mm)).length), _, rfl, (rfl), hx⟩ (lb_lim _)
   rw [show (sgnv false (val ((lim (mm))))) = ((mm : Nat) : Int) from by rw [val_lim]; rfl] at hC
   refine st rfl (op_call hF rfl TfPG.body45 (args2 (hF.ev rfl) (hF.ev rfl)) hC ?_)
   clear hC
   rintro _ w38 ⟨⟨_, rfl, A41, c42, rfl, hu43⟩, hb39⟩
   refine gen_ ?_; clear hF fa; intro fa hF
   replace hS := hS.call hb39; have E40 := Ext.call (g9 :: (g5 :: (g1 :: X))) hb39
   refine st rfl (op_store (X := (g9 :: (g5 :: (g1 :: X)))) hF hS 0 rfl (by simp) rfl rfl rfl TfPG.size24 rfl (Nat.le_of_ble_eq_true rfl) ?_)
   intro w44 hS E45
   replace hS : St w w44 [(g9, 24, (ic (A41) (c42) (((mm : Nat) : Int)))), (g5, 24, (ic (A_b) (c_b) (b))), (g1, 24, (ic (A_a) (c_a) (a)))] := hS
   refine c_nil_then ?_
   refine c_ret ?_
   refine x_tr ?_
   refine end1 hF rfl (res_cell hF rfl TfPG.row24 (hS.get 0 rfl) rfl) ?_
   exact ⟨_, rfl, (IntV.fin (x := ((mm : Nat) : Int)) ⟨_, rfl, _, _, rfl, (hu43.ext E45)⟩ (by have h0 := hg; rw [hn0, Nat.gcd_zero_right] at h0; rw [h0]) (fun x hx => by simp [hx])), hS.below⟩
  have hc37p : ¬ ((((lim (nn)).length : Nat) : Int) = 0) := by first | simpa using hc37 | exact bang_t hc37 | exact bang_f hc37
  have hm18 := lim_len_two (n := mm) (by omega); have hn18 := lim_len_two (n := nn) (by omega)
  have hvm := val_lim mm; have hvn := val_lim nn
  refine c_skip ?_
  refine x_tn ?_
  refine c_seq ?_
  refine c_reg ?_
  refine st_val hF rfl rfl rfl (ex_move (hF.ev rfl)) ?_
  clear hF fa; intro fa hF
  have hC := ref01_short_ok (w := w14) (X := (g9 :: (g5 :: (g1 :: X)))) (l := (lim (mm))) (hS.bnd hX) ⟨_, ((lim (mm)).length), _, rfl, (rfl), hx⟩ (by omega) (lb_lim _) (by omega)
  refine st rfl (op_call hF rfl TfPG.body52 (args1 (hF.ev rfl)) hC ?_)
  clear hC
  rintro _ w46 ⟨rfl, hb47⟩
  refine gen_ ?_; clear hF fa; intro fa hF
  replace hS := hS.call hb47; have E48 := Ext.call (g9 :: (g5 :: (g1 :: X))) hb47
  refine st_val hF rfl rfl rfl (ex_move (hF.ev rfl)) ?_
  clear hF fa; intro fa hF
  have hC := ref01_short_ok (w := w46) (X := (g9 :: (g5 :: (g1 :: X)))) (l := (lim (nn))) (hS.bnd hX) ⟨_, ((lim (nn)).length), _, rfl, (rfl), (hy.ext E48)⟩ (by omega) (lb_lim _) (by omega)
  refine st rfl (op_call hF rfl TfPG.body52 (args1 (hF.ev rfl)) hC ?_)
  clear hC
  rintro _ w49 ⟨rfl, hb50⟩
  refine gen_ ?_; clear hF fa; intro fa hF
  replace hS := hS.call hb50; have E51 := Ext.call (g9 :: (g5 :: (g1 :: X))) hb50
  refine st_val hF rfl rfl rfl (ex_assign (hF.ev rfl)) ?_
  clear hF fa; intro fa hF
  refine st_val hF rfl rfl rfl (ex_assign (hF.ev rfl)) ?_
  clear hF fa; intro fa hF
  refine c_nil_then ?_
  refine c_seq ?_
  refine c_block ?_
  refine c_loop (fun mu fa w' => ∃ u : Nat, ∃ v : Nat, Frm 54 fa [(0, (.agg (ic (A_a) (c_a) (a)))), (1, (.agg (ic (A_b) (c_b) (b)))), (2, (.pointer (some ⟨g1, 0, none⟩))), (3, (.pointer (some ⟨g5, 0, none⟩))), (4, (.pointer (some ⟨g9, 0, none⟩))), (5, (.slice (Ax) ((lim (mm)).length) (cx))), (6, (.slice (Ay) ((lim (nn)).length) (cy))), (27, (.bool (decide ((((lim (nn)).length : Nat) : Int) > 2)))), (38, (.bool (decide ((((lim (nn)).length : Nat) : Int) = 0)))), (9, (.int .u64 (((u : Nat) : Int)))), (10, (.int .u64 (((v : Nat) : Int))))] ∧ St w w' [(g9, 24, #[(.bool (false)), (.slice (none) (0) (0))]), (g5, 24, (ic (A_b) (c_b) (b))), (g1, 24, (ic (A_a) (c_a) (a)))] ∧ Ext w49 (g9 :: (g5 :: (g1 :: X))) w' (g9 :: (g5 :: (g1 :: X))) ∧ (u < 1000000000000000000) ∧ (v < 1000000000000000000) ∧ (Nat.gcd u v = Nat.gcd a.natAbs b.natAbs) ∧ v = mu) ?_ ?_
  ·
   exact ⟨_, (val ((lim (mm)))), (val ((lim (nn)))), (hF.take (hF.take (hF.take (hF.take (hF.take (hF.take (hF.take (hF.take (hF.take (hF.take (hF.take hF.nil (lk_int rfl (by omega))) (lk_int rfl (by omega))) rfl) rfl) rfl) rfl) rfl) rfl) rfl) rfl) rfl), hS, Ext.refl _ _, (by omega), (by omega), (by rw [val_lim, val_lim]; exact hg), rfl⟩
  clear hF fa; intro n1_ fa w' hI
  clear hS
  obtain ⟨u, v, hF, hS, E53, hu1, hv1, huv, rfl⟩ := hI
  rename World => w52
  refine c_seq ?_
  refine c_seq ?_
  refine c_reg ?_
  refine st_val hF rfl rfl rfl (ex_move (hF.ev rfl)) ?_
  clear hF fa; intro fa hF
  refine st_val hF rfl rfl rfl (ex_gtr (hF.ev rfl) (hF.ev rfl)) ?_
  clear hF fa; intro fa hF
  refine c_nil_then ?_
  refine c_cond hF rfl (fun hc54 => ?_) (fun hc54 => ?_)
  ·
   have hc54p : ((v : Nat) : Int) > 0 := by first | simpa using hc54 | exact bang_t hc54 | exact bang_f hc54
   refine c_skip ?_
   refine x_tn ?_
   refine c_block ?_
   refine drawn2 (N := 54) (L0 := [(0, (.agg (ic (A_a) (c_a) (a)))), (1, (.agg (ic (A_b) (c_b) (b)))), (2, (.pointer (some ⟨g1, 0, none⟩))), (3, (.pointer (some ⟨g5, 0, none⟩))), (4, (.pointer (some ⟨g9, 0, none⟩))), (5, (.slice (Ax) ((lim (mm)).length) (cx))), (6, (.slice (Ay) ((lim (nn)).length) (cy))), (27, (.bool (decide ((((lim (nn)).length : Nat) : Int) > 2)))), (38, (.bool (decide ((((lim (nn)).length : Nat) : Int) = 0)))), (46, (.bool (decide (((v : Nat) : Int) > 0))))]) [some (.int .u64 (((v : Nat) : Int))), some (.int .u64 (((u : Nat) : Int))), some (.int .u64 (((v : Nat) : Int))), some (.int .u64 (((u % v : Nat) : Int))), some (.int .u64 (((v : Nat) : Int))), some (.int .u64 (((u % v : Nat) : Int)))] [4, 5] [[], [4], [4, 5]] [[0], [0], [0, 1], [0, 1], [0], [1]] 2 [
         fun fa w' => Frm 54 fa [(9, (.int .u64 (((u : Nat) : Int)))), (10, (.int .u64 (((v : Nat) : Int))))] ∧ St w w' [(g9, 24, #[(.bool (false)), (.slice (none) (0) (0))]), (g5, 24, (ic (A_b) (c_b) (b))), (g1, 24, (ic (A_a) (c_a) (a)))] ∧ Ext w52 (g9 :: (g5 :: (g1 :: X))) w' (g9 :: (g5 :: (g1 :: X)))
         , fun fa w' => Frm 54 fa [(9, (.int .u64 (((v : Nat) : Int)))), (10, (.int .u64 (((v : Nat) : Int))))] ∧ St w w' [(g9, 24, #[(.bool (false)), (.slice (none) (0) (0))]), (g5, 24, (ic (A_b) (c_b) (b))), (g1, 24, (ic (A_a) (c_a) (a)))] ∧ Ext w52 (g9 :: (g5 :: (g1 :: X))) w' (g9 :: (g5 :: (g1 :: X)))
         , fun fa w' => Frm 54 fa [(9, (.int .u64 (((v : Nat) : Int)))), (10, (.int .u64 (((u % v : Nat) : Int))))] ∧ St w w' [(g9, 24, #[(.bool (false)), (.slice (none) (0) (0))]), (g5, 24, (ic (A_b) (c_b) (b))), (g1, 24, (ic (A_a) (c_a) (a)))] ∧ Ext w52 (g9 :: (g5 :: (g1 :: X))) w' (g9 :: (g5 :: (g1 :: X)))
       ] TfPG.mixed rfl rfl rfl rfl rfl rfl (hF.take (hF.take (hF.take (hF.take (hF.take (hF.take (hF.take (hF.take (hF.take (hF.take hF.nil rfl) rfl) rfl) rfl) rfl) rfl) rfl) rfl) rfl) rfl) rfl ⟨(hF.take (hF.take hF.nil rfl) rfl), hS.drew, Ext.drew _ _⟩ ?_ ?_ ?_
   all_goals clear hF fa
   ·
    refine ⟨?_, ?_, ?_, trivial⟩
    ·
     rintro fa w' i o d v ho hd hna ⟨hA, hR⟩; exact ⟨hA.put_other v (freeOf_at (acts := [4, 5]) rfl ho hd hna), hR⟩
    ·
     rintro fa w' i o d v ho hd hna ⟨hA, hR⟩; exact ⟨hA.put_other v (freeOf_at (acts := [4, 5]) rfl ho hd hna), hR⟩
    ·
     rintro fa w' i o d v ho hd hna ⟨hA, hR⟩; exact ⟨hA.put_other v (freeOf_at (acts := [4, 5]) rfl ho hd hna), hR⟩
   ·
    refine ⟨?_, ?_, ?_, ?_, ?_, ?_, trivial⟩
    ·
     refine .inr (.inl ⟨rfl, _, _, rfl, rfl, ?_, trivial⟩)
     ·
      intro fa w' hΦ hF hB K hK
      obtain ⟨hA, hS, E_w'⟩ := hΦ
      replace hF := hF.cons (hA.get 10 _ rfl)
      exact fl_val rfl rfl rfl (ex_move (hF.ev rfl)) hK
    ·
     refine .inr (.inl ⟨rfl, _, _, rfl, rfl, ?_, trivial⟩)
     ·
      intro fa w' hΦ hF hB K hK
      obtain ⟨hA, hS, E_w'⟩ := hΦ
      replace hF := hF.cons (hA.get 9 _ rfl)
      exact fl_val rfl rfl rfl (ex_move (hF.ev rfl)) hK
    ·
     refine .inr (.inl ⟨rfl, _, _, rfl, rfl, ?_, ?_, trivial⟩)
     ·
      intro fa w' hΦ hF hB K hK
      obtain ⟨hA, hS, E_w'⟩ := hΦ
      replace hF := hF.cons (hA.get 10 _ rfl)
      exact fl_val rfl rfl rfl (ex_move (hF.ev rfl)) hK
     ·
      intro fa w' hΦ hF hB K hK
      obtain ⟨hA, hS, E_w'⟩ := hΦ
      replace hF := hF.cons (hA.get 10 _ rfl)
      exact fl_val rfl rfl rfl (ex_move (hF.ev rfl)) hK
    ·
     refine .inl ⟨rfl, _, _, rfl, rfl, fun s fa w' hΦ hF hB K hK => ?_⟩
     replace hF := hF.cons (hB.val 1 _ 48 _ rfl rfl rfl rfl)
     replace hF := hF.cons (hB.val 2 _ 49 _ rfl rfl rfl rfl)
     exact fl_val rfl rfl rfl (ex_rem (hF.ev rfl) (hF.ev rfl) (by omega) (r_any (x := u) (y := v) (by omega) (by omega))) hK
    ·
     refine .inr (.inr ⟨rfl, ?_, trivial⟩)
     ·
      intro fa w' hΦ hF hB
      obtain ⟨hA, hS, E_w'⟩ := hΦ
      replace hF := hF.cons (hB.val 0 _ 47 _ rfl rfl rfl rfl)
      refine wop rfl rfl ?_
      refine op_val hF rfl rfl (ex_assign (hF.ev rfl)) ?_; clear hF; intro hF
      replace hA := hA.put (d := 9) (by decide) (.int .u64 (((v : Nat) : Int)))
      have hA1 := hA
      exact ⟨1, rfl, ⟨(hA1.take (hA1.take hA1.nil rfl) rfl), hS, E_w'⟩, _, rfl, fun u hu => by cases hu <;> rfl⟩
    ·
     refine .inr (.inr ⟨rfl, ?_, trivial⟩)
     ·
      intro fa w' hΦ hF hB
      obtain ⟨hA, hS, E_w'⟩ := hΦ
      replace hF := hF.cons (hB.val 3 _ 50 _ rfl rfl rfl rfl)
      refine wop rfl rfl ?_
      refine op_val hF rfl rfl (ex_assign (hF.ev rfl)) ?_; clear hF; intro hF
      replace hA := hA.put (d := 10) (by decide) (.int .u64 (((u % v : Nat) : Int)))
      have hA1 := hA
      exact ⟨2, rfl, ⟨(hA1.take (hA1.take hA1.nil rfl) rfl), hS, E_w'⟩, _, rfl, fun u hu => by cases hu <;> rfl⟩
   intro fa w55 hΦ hF hC
   obtain ⟨hA, hS, E_w55⟩ := hΦ
   replace hF := hF.cons (hC 4 _ 9 _ rfl rfl rfl)
   replace hF := hF.cons (hC 5 _ 10 _ rfl rfl rfl)
   replace hF := hF.cons (hA.get 9 _ rfl)
   replace hF := hF.cons (hA.get 10 _ rfl)
   clear hA hC
   refine x_bn ?_
   refine x_tn ?_
   exact ⟨_, (Nat.mod_lt _ (by omega)), v, (u % v), (hF.take (hF.take (hF.take (hF.take (hF.take (hF.take (hF.take (hF.take (hF.take (hF.take (hF.take hF.nil (lk_int rfl (by omega))) (lk_int rfl (by omega))) rfl) rfl) rfl) rfl) rfl) rfl) rfl) rfl) rfl), hS, (E53.trans E_w55), (hv1), (Nat.lt_of_le_of_lt (Nat.mod_le _ _) hu1), (gcd_turn huv rfl), rfl⟩
  have hc54p : ¬ (((v : Nat) : Int) > 0) := by first | simpa using hc54 | exact bang_t hc54 | exact bang_f hc54
  refine c_exit ?_
  refine x_te ?_
  refine x_te ?_
  refine x_bh ?_
  refine x_tn ?_
  refine c_seq ?_
  refine c_reg ?_
  refine st_val hF rfl rfl rfl (ex_move (hF.ev rfl)) ?_
  clear hF fa; intro fa hF
  have hC := ref01_limbs_ok (w := w52) (X := (g9 :: (g5 :: (g1 :: X)))) (hS.bnd hX) (u) (by omega)
  refine st rfl (op_call hF rfl TfPG.body53 (args1 (hF.ev (ev_int (b := ((u : Nat) : Int)) rfl (by first | rfl | omega)))) hC ?_)
  clear hC
  rintro _ w56 ⟨⟨A59, _, c60, rfl, rfl, hu61⟩, hb57⟩
  refine gen_ ?_; clear hF fa; intro fa hF
  replace hS := hS.call hb57; have E58 := Ext.call (g9 :: (g5 :: (g1 :: X))) hb57
  have hC := ref01_signed_ok (w := w56) (X := (g9 :: (g5 :: (g1 :: X)))) (l := (lim u)) (hS.bnd hX) false ⟨_, ((lim u).length), _, rfl, (rfl), hu61⟩ (lb_lim _)
  rw [show (sgnv false (val ((lim u)))) = ((u : Nat) : Int) from by rw [val_lim]; rfl] at hC
  refine st rfl (op_call hF rfl TfPG.body45 (args2 (hF.ev rfl) (hF.ev rfl)) hC ?_)
  clear hC
  rintro _ w62 ⟨⟨_, rfl, A65, c66, rfl, hu67⟩, hb63⟩
  refine gen_ ?_; clear hF fa; intro fa hF
  replace hS := hS.call hb63; have E64 := Ext.call (g9 :: (g5 :: (g1 :: X))) hb63
  refine st rfl (op_store (X := (g9 :: (g5 :: (g1 :: X)))) hF hS 0 rfl (by simp) rfl rfl rfl TfPG.size24 rfl (Nat.le_of_ble_eq_true rfl) ?_)
  intro w68 hS E69
  replace hS : St w w68 [(g9, 24, (ic (A65) (c66) (((u : Nat) : Int)))), (g5, 24, (ic (A_b) (c_b) (b))), (g1, 24, (ic (A_a) (c_a) (a)))] := hS
  refine c_nil_then ?_
  refine c_ret ?_
  refine end1 hF rfl (res_cell hF rfl TfPG.row24 (hS.get 0 rfl) rfl) ?_
  exact ⟨_, rfl, (IntV.fin (x := ((u : Nat) : Int)) ⟨_, rfl, _, _, rfl, (hu67.ext E69)⟩ (by have h0 := huv; rw [show v = 0 by omega, Nat.gcd_zero_right] at h0; rw [h0]) (fun x hx => by simp [hx])), hS.below⟩
 replace hF := hF.cons (t := 18) (v := .bool false) ((hF.get 18 _ rfl).trans (congrArg Value.bool hg16))
 have hg16p : ¬ ((((lim (nn)).length : Nat) : Int) > 0) := by simpa using hg16
 refine st_skip hF rfl rfl rfl rfl rfl ?_
 clear hF fa; intro fa hF
 refine st_skip hF rfl rfl rfl rfl rfl ?_
 clear hF fa; intro fa hF
 refine st_skip hF rfl rfl rfl rfl rfl ?_
 clear hF fa; intro fa hF
 refine st_skip hF rfl rfl rfl rfl rfl ?_
 clear hF fa; intro fa hF
 refine st_skip_u hF rfl rfl rfl rfl ?_
 clear hF fa; intro fa hF
 refine st_skip_u hF rfl rfl rfl rfl ?_
 clear hF fa; intro fa hF
 refine st_skip_u hF rfl rfl rfl rfl ?_
 clear hF fa; intro fa hF
 refine st_skip hF rfl rfl rfl rfl rfl ?_
 clear hF fa; intro fa hF
 refine st_val hF rfl rfl rfl (ex_pick (hF.ev rfl) (u := undef) (fun h => by cases h) (fun _ => hF.ev rfl) rfl) ?_
 clear hF fa; intro fa hF
 replace hF : Frm 54 fa [(0, (.agg (ic (A_a) (c_a) (a)))), (1, (.agg (ic (A_b) (c_b) (b)))), (2, (.pointer (some ⟨g1, 0, none⟩))), (3, (.pointer (some ⟨g5, 0, none⟩))), (4, (.pointer (some ⟨g9, 0, none⟩))), (5, (.slice (Ax) ((lim (mm)).length) (cx))), (6, (.slice (Ay) ((lim (nn)).length) (cy))), (27, (.bool (false)))] := (hF.take (hF.take (hF.take (hF.take (hF.take (hF.take (hF.take (hF.take hF.nil rfl) rfl) rfl) rfl) rfl) rfl) rfl) rfl)
 refine c_nil_then ?_
 refine c_cond hF rfl (fun hc => ?_) (fun hc => ?_)
 ·
  cases hc
 refine c_exit ?_
 refine x_te ?_
 refine x_te ?_
 refine x_bh ?_
 refine x_tn ?_
 refine c_seq ?_
 refine c_seq ?_
 refine c_reg ?_
 refine st_val hF rfl rfl rfl (ex_move (hF.ev rfl)) ?_
 clear hF fa; intro fa hF
 refine st_val hF rfl rfl rfl (ex_len TfPG.sls22 (hF.ev rfl)) ?_
 clear hF fa; intro fa hF
 refine st_val hF rfl rfl rfl (ex_eql (hF.ev rfl) (hF.ev rfl)) ?_
 clear hF fa; intro fa hF
 refine c_nil_then ?_
 refine c_cond hF rfl (fun hc70 => ?_) (fun hc70 => ?_)
 ·
  have hc70p : (((lim (nn)).length : Nat) : Int) = 0 := by first | simpa using hc70 | exact bang_t hc70 | exact bang_f hc70
  have hn0 : nn = 0 := by omega
  refine c_seq ?_
  refine c_reg ?_
  refine st_val hF rfl rfl rfl (ex_move (hF.ev rfl)) ?_
  clear hF fa; intro fa hF
  have hC := ref01_signed_ok (w := w14) (X := (g9 :: (g5 :: (g1 :: X)))) (l := (lim (mm))) (hS.bnd hX) false ⟨_, ((lim (mm)).length), _, rfl, (rfl), hx⟩ (lb_lim _)
  rw [show (sgnv false (val ((lim (mm))))) = ((mm : Nat) : Int) from by rw [val_lim]; rfl] at hC
  refine st rfl (op_call hF rfl TfPG.body45 (args2 (hF.ev rfl) (hF.ev rfl)) hC ?_)
  clear hC
  rintro _ w71 ⟨⟨_, rfl, A74, c75, rfl, hu76⟩, hb72⟩
  refine gen_ ?_; clear hF fa; intro fa hF
  replace hS := hS.call hb72; have E73 := Ext.call (g9 :: (g5 :: (g1 :: X))) hb72
  refine st rfl (op_store (X := (g9 :: (g5 :: (g1 :: X)))) hF hS 0 rfl (by simp) rfl rfl rfl TfPG.size24 rfl (Nat.le_of_ble_eq_true rfl) ?_)
  intro w77 hS E78
  replace hS : St w w77 [(g9, 24, (ic (A74) (c75) (((mm : Nat) : Int)))), (g5, 24, (ic (A_b) (c_b) (b))), (g1, 24, (ic (A_a) (c_a) (a)))] := hS
  refine c_nil_then ?_
  refine c_ret ?_
  refine x_tr ?_
  refine end1 hF rfl (res_cell hF rfl TfPG.row24 (hS.get 0 rfl) rfl) ?_
  exact ⟨_, rfl, (IntV.fin (x := ((mm : Nat) : Int)) ⟨_, rfl, _, _, rfl, (hu76.ext E78)⟩ (by have h0 := hg; rw [hn0, Nat.gcd_zero_right] at h0; rw [h0]) (fun x hx => by simp [hx])), hS.below⟩
 have hc70p : ¬ ((((lim (nn)).length : Nat) : Int) = 0) := by first | simpa using hc70 | exact bang_t hc70 | exact bang_f hc70
 have hm18 := lim_len_two (n := mm) (by omega); have hn18 := lim_len_two (n := nn) (by omega)
 have hvm := val_lim mm; have hvn := val_lim nn
 refine c_skip ?_
 refine x_tn ?_
 refine c_seq ?_
 refine c_reg ?_
 refine st_val hF rfl rfl rfl (ex_move (hF.ev rfl)) ?_
 clear hF fa; intro fa hF
 have hC := ref01_short_ok (w := w14) (X := (g9 :: (g5 :: (g1 :: X)))) (l := (lim (mm))) (hS.bnd hX) ⟨_, ((lim (mm)).length), _, rfl, (rfl), hx⟩ (by omega) (lb_lim _) (by omega)
 refine st rfl (op_call hF rfl TfPG.body52 (args1 (hF.ev rfl)) hC ?_)
 clear hC
 rintro _ w79 ⟨rfl, hb80⟩
 refine gen_ ?_; clear hF fa; intro fa hF
 replace hS := hS.call hb80; have E81 := Ext.call (g9 :: (g5 :: (g1 :: X))) hb80
 refine st_val hF rfl rfl rfl (ex_move (hF.ev rfl)) ?_
 clear hF fa; intro fa hF
 have hC := ref01_short_ok (w := w79) (X := (g9 :: (g5 :: (g1 :: X)))) (l := (lim (nn))) (hS.bnd hX) ⟨_, ((lim (nn)).length), _, rfl, (rfl), (hy.ext E81)⟩ (by omega) (lb_lim _) (by omega)
 refine st rfl (op_call hF rfl TfPG.body52 (args1 (hF.ev rfl)) hC ?_)
 clear hC
 rintro _ w82 ⟨rfl, hb83⟩
 refine gen_ ?_; clear hF fa; intro fa hF
 replace hS := hS.call hb83; have E84 := Ext.call (g9 :: (g5 :: (g1 :: X))) hb83
 refine st_val hF rfl rfl rfl (ex_assign (hF.ev rfl)) ?_
 clear hF fa; intro fa hF
 refine st_val hF rfl rfl rfl (ex_assign (hF.ev rfl)) ?_
 clear hF fa; intro fa hF
 refine c_nil_then ?_
 refine c_seq ?_
 refine c_block ?_
 refine c_loop (fun mu fa w' => ∃ u : Nat, ∃ v : Nat, Frm 54 fa [(0, (.agg (ic (A_a) (c_a) (a)))), (1, (.agg (ic (A_b) (c_b) (b)))), (2, (.pointer (some ⟨g1, 0, none⟩))), (3, (.pointer (some ⟨g5, 0, none⟩))), (4, (.pointer (some ⟨g9, 0, none⟩))), (5, (.slice (Ax) ((lim (mm)).length) (cx))), (6, (.slice (Ay) ((lim (nn)).length) (cy))), (27, (.bool (false))), (38, (.bool (decide ((((lim (nn)).length : Nat) : Int) = 0)))), (9, (.int .u64 (((u : Nat) : Int)))), (10, (.int .u64 (((v : Nat) : Int))))] ∧ St w w' [(g9, 24, #[(.bool (false)), (.slice (none) (0) (0))]), (g5, 24, (ic (A_b) (c_b) (b))), (g1, 24, (ic (A_a) (c_a) (a)))] ∧ Ext w82 (g9 :: (g5 :: (g1 :: X))) w' (g9 :: (g5 :: (g1 :: X))) ∧ (u < 1000000000000000000) ∧ (v < 1000000000000000000) ∧ (Nat.gcd u v = Nat.gcd a.natAbs b.natAbs) ∧ v = mu) ?_ ?_
 ·
  exact ⟨_, (val ((lim (mm)))), (val ((lim (nn)))), (hF.take (hF.take (hF.take (hF.take (hF.take (hF.take (hF.take (hF.take (hF.take (hF.take (hF.take hF.nil (lk_int rfl (by omega))) (lk_int rfl (by omega))) rfl) rfl) rfl) rfl) rfl) rfl) rfl) rfl) rfl), hS, Ext.refl _ _, (by omega), (by omega), (by rw [val_lim, val_lim]; exact hg), rfl⟩
 clear hF fa; intro n1_ fa w' hI
 clear hS
 obtain ⟨u, v, hF, hS, E86, hu1, hv1, huv, rfl⟩ := hI
 rename World => w85
 refine c_seq ?_
 refine c_seq ?_
 refine c_reg ?_
 refine st_val hF rfl rfl rfl (ex_move (hF.ev rfl)) ?_
 clear hF fa; intro fa hF
 refine st_val hF rfl rfl rfl (ex_gtr (hF.ev rfl) (hF.ev rfl)) ?_
 clear hF fa; intro fa hF
 refine c_nil_then ?_
 refine c_cond hF rfl (fun hc87 => ?_) (fun hc87 => ?_)
 ·
  have hc87p : ((v : Nat) : Int) > 0 := by first | simpa using hc87 | exact bang_t hc87 | exact bang_f hc87
  refine c_skip ?_
  refine x_tn ?_
  refine c_block ?_
  refine drawn2 (N := 54) (L0 := [(0, (.agg (ic (A_a) (c_a) (a)))), (1, (.agg (ic (A_b) (c_b) (b)))), (2, (.pointer (some ⟨g1, 0, none⟩))), (3, (.pointer (some ⟨g5, 0, none⟩))), (4, (.pointer (some ⟨g9, 0, none⟩))), (5, (.slice (Ax) ((lim (mm)).length) (cx))), (6, (.slice (Ay) ((lim (nn)).length) (cy))), (27, (.bool (false))), (38, (.bool (decide ((((lim (nn)).length : Nat) : Int) = 0)))), (46, (.bool (decide (((v : Nat) : Int) > 0))))]) [some (.int .u64 (((v : Nat) : Int))), some (.int .u64 (((u : Nat) : Int))), some (.int .u64 (((v : Nat) : Int))), some (.int .u64 (((u % v : Nat) : Int))), some (.int .u64 (((v : Nat) : Int))), some (.int .u64 (((u % v : Nat) : Int)))] [4, 5] [[], [4], [4, 5]] [[0], [0], [0, 1], [0, 1], [0], [1]] 2 [
        fun fa w' => Frm 54 fa [(9, (.int .u64 (((u : Nat) : Int)))), (10, (.int .u64 (((v : Nat) : Int))))] ∧ St w w' [(g9, 24, #[(.bool (false)), (.slice (none) (0) (0))]), (g5, 24, (ic (A_b) (c_b) (b))), (g1, 24, (ic (A_a) (c_a) (a)))] ∧ Ext w85 (g9 :: (g5 :: (g1 :: X))) w' (g9 :: (g5 :: (g1 :: X)))
        , fun fa w' => Frm 54 fa [(9, (.int .u64 (((v : Nat) : Int)))), (10, (.int .u64 (((v : Nat) : Int))))] ∧ St w w' [(g9, 24, #[(.bool (false)), (.slice (none) (0) (0))]), (g5, 24, (ic (A_b) (c_b) (b))), (g1, 24, (ic (A_a) (c_a) (a)))] ∧ Ext w85 (g9 :: (g5 :: (g1 :: X))) w' (g9 :: (g5 :: (g1 :: X)))
        , fun fa w' => Frm 54 fa [(9, (.int .u64 (((v : Nat) : Int)))), (10, (.int .u64 (((u % v : Nat) : Int))))] ∧ St w w' [(g9, 24, #[(.bool (false)), (.slice (none) (0) (0))]), (g5, 24, (ic (A_b) (c_b) (b))), (g1, 24, (ic (A_a) (c_a) (a)))] ∧ Ext w85 (g9 :: (g5 :: (g1 :: X))) w' (g9 :: (g5 :: (g1 :: X)))
      ] TfPG.mixed rfl rfl rfl rfl rfl rfl (hF.take (hF.take (hF.take (hF.take (hF.take (hF.take (hF.take (hF.take (hF.take (hF.take hF.nil rfl) rfl) rfl) rfl) rfl) rfl) rfl) rfl) rfl) rfl) rfl ⟨(hF.take (hF.take hF.nil rfl) rfl), hS.drew, Ext.drew _ _⟩ ?_ ?_ ?_
  all_goals clear hF fa
  ·
   refine ⟨?_, ?_, ?_, trivial⟩
   ·
    rintro fa w' i o d v ho hd hna ⟨hA, hR⟩; exact ⟨hA.put_other v (freeOf_at (acts := [4, 5]) rfl ho hd hna), hR⟩
   ·
    rintro fa w' i o d v ho hd hna ⟨hA, hR⟩; exact ⟨hA.put_other v (freeOf_at (acts := [4, 5]) rfl ho hd hna), hR⟩
   ·
    rintro fa w' i o d v ho hd hna ⟨hA, hR⟩; exact ⟨hA.put_other v (freeOf_at (acts := [4, 5]) rfl ho hd hna), hR⟩
  ·
   refine ⟨?_, ?_, ?_, ?_, ?_, ?_, trivial⟩
   ·
    refine .inr (.inl ⟨rfl, _, _, rfl, rfl, ?_, trivial⟩)
    ·
     intro fa w' hΦ hF hB K hK
     obtain ⟨hA, hS, E_w'⟩ := hΦ
     replace hF := hF.cons (hA.get 10 _ rfl)
     exact fl_val rfl rfl rfl (ex_move (hF.ev rfl)) hK
   ·
    refine .inr (.inl ⟨rfl, _, _, rfl, rfl, ?_, trivial⟩)
    ·
     intro fa w' hΦ hF hB K hK
     obtain ⟨hA, hS, E_w'⟩ := hΦ
     replace hF := hF.cons (hA.get 9 _ rfl)
     exact fl_val rfl rfl rfl (ex_move (hF.ev rfl)) hK
   ·
    refine .inr (.inl ⟨rfl, _, _, rfl, rfl, ?_, ?_, trivial⟩)
    ·
     intro fa w' hΦ hF hB K hK
     obtain ⟨hA, hS, E_w'⟩ := hΦ
     replace hF := hF.cons (hA.get 10 _ rfl)
     exact fl_val rfl rfl rfl (ex_move (hF.ev rfl)) hK
    ·
     intro fa w' hΦ hF hB K hK
     obtain ⟨hA, hS, E_w'⟩ := hΦ
     replace hF := hF.cons (hA.get 10 _ rfl)
     exact fl_val rfl rfl rfl (ex_move (hF.ev rfl)) hK
   ·
    refine .inl ⟨rfl, _, _, rfl, rfl, fun s fa w' hΦ hF hB K hK => ?_⟩
    replace hF := hF.cons (hB.val 1 _ 48 _ rfl rfl rfl rfl)
    replace hF := hF.cons (hB.val 2 _ 49 _ rfl rfl rfl rfl)
    exact fl_val rfl rfl rfl (ex_rem (hF.ev rfl) (hF.ev rfl) (by omega) (r_any (x := u) (y := v) (by omega) (by omega))) hK
   ·
    refine .inr (.inr ⟨rfl, ?_, trivial⟩)
    ·
     intro fa w' hΦ hF hB
     obtain ⟨hA, hS, E_w'⟩ := hΦ
     replace hF := hF.cons (hB.val 0 _ 47 _ rfl rfl rfl rfl)
     refine wop rfl rfl ?_
     refine op_val hF rfl rfl (ex_assign (hF.ev rfl)) ?_; clear hF; intro hF
     replace hA := hA.put (d := 9) (by decide) (.int .u64 (((v : Nat) : Int)))
     have hA1 := hA
     exact ⟨1, rfl, ⟨(hA1.take (hA1.take hA1.nil rfl) rfl), hS, E_w'⟩, _, rfl, fun u hu => by cases hu <;> rfl⟩
   ·
    refine .inr (.inr ⟨rfl, ?_, trivial⟩)
    ·
     intro fa w' hΦ hF hB
     obtain ⟨hA, hS, E_w'⟩ := hΦ
     replace hF := hF.cons (hB.val 3 _ 50 _ rfl rfl rfl rfl)
     refine wop rfl rfl ?_
     refine op_val hF rfl rfl (ex_assign (hF.ev rfl)) ?_; clear hF; intro hF
     replace hA := hA.put (d := 10) (by decide) (.int .u64 (((u % v : Nat) : Int)))
     have hA1 := hA
     exact ⟨2, rfl, ⟨(hA1.take (hA1.take hA1.nil rfl) rfl), hS, E_w'⟩, _, rfl, fun u hu => by cases hu <;> rfl⟩
  intro fa w88 hΦ hF hC
  obtain ⟨hA, hS, E_w88⟩ := hΦ
  replace hF := hF.cons (hC 4 _ 9 _ rfl rfl rfl)
  replace hF := hF.cons (hC 5 _ 10 _ rfl rfl rfl)
  replace hF := hF.cons (hA.get 9 _ rfl)
  replace hF := hF.cons (hA.get 10 _ rfl)
  clear hA hC
  refine x_bn ?_
  refine x_tn ?_
  exact ⟨_, (Nat.mod_lt _ (by omega)), v, (u % v), (hF.take (hF.take (hF.take (hF.take (hF.take (hF.take (hF.take (hF.take (hF.take (hF.take (hF.take hF.nil (lk_int rfl (by omega))) (lk_int rfl (by omega))) rfl) rfl) rfl) rfl) rfl) rfl) rfl) rfl) rfl), hS, (E86.trans E_w88), (hv1), (Nat.lt_of_le_of_lt (Nat.mod_le _ _) hu1), (gcd_turn huv rfl), rfl⟩
 have hc87p : ¬ (((v : Nat) : Int) > 0) := by first | simpa using hc87 | exact bang_t hc87 | exact bang_f hc87
 refine c_exit ?_
 refine x_te ?_
 refine x_te ?_
 refine x_bh ?_
 refine x_tn ?_
 refine c_seq ?_
 refine c_reg ?_
 refine st_val hF rfl rfl rfl (ex_move (hF.ev rfl)) ?_
 clear hF fa; intro fa hF
 have hC := ref01_limbs_ok (w := w85) (X := (g9 :: (g5 :: (g1 :: X)))) (hS.bnd hX) (u) (by omega)
 refine st rfl (op_call hF rfl TfPG.body53 (args1 (hF.ev (ev_int (b := ((u : Nat) : Int)) rfl (by first | rfl | omega)))) hC ?_)
 clear hC
 rintro _ w89 ⟨⟨A92, _, c93, rfl, rfl, hu94⟩, hb90⟩
 refine gen_ ?_; clear hF fa; intro fa hF
 replace hS := hS.call hb90; have E91 := Ext.call (g9 :: (g5 :: (g1 :: X))) hb90
 have hC := ref01_signed_ok (w := w89) (X := (g9 :: (g5 :: (g1 :: X)))) (l := (lim u)) (hS.bnd hX) false ⟨_, ((lim u).length), _, rfl, (rfl), hu94⟩ (lb_lim _)
 rw [show (sgnv false (val ((lim u)))) = ((u : Nat) : Int) from by rw [val_lim]; rfl] at hC
 refine st rfl (op_call hF rfl TfPG.body45 (args2 (hF.ev rfl) (hF.ev rfl)) hC ?_)
 clear hC
 rintro _ w95 ⟨⟨_, rfl, A98, c99, rfl, hu100⟩, hb96⟩
 refine gen_ ?_; clear hF fa; intro fa hF
 replace hS := hS.call hb96; have E97 := Ext.call (g9 :: (g5 :: (g1 :: X))) hb96
 refine st rfl (op_store (X := (g9 :: (g5 :: (g1 :: X)))) hF hS 0 rfl (by simp) rfl rfl rfl TfPG.size24 rfl (Nat.le_of_ble_eq_true rfl) ?_)
 intro w101 hS E102
 replace hS : St w w101 [(g9, 24, (ic (A98) (c99) (((u : Nat) : Int)))), (g5, 24, (ic (A_b) (c_b) (b))), (g1, 24, (ic (A_a) (c_a) (a)))] := hS
 refine c_nil_then ?_
 refine c_ret ?_
 refine end1 hF rfl (res_cell hF rfl TfPG.row24 (hS.get 0 rfl) rfl) ?_
 exact ⟨_, rfl, (IntV.fin (x := ((u : Nat) : Int)) ⟨_, rfl, _, _, rfl, (hu100.ext E102)⟩ (by have h0 := huv; rw [show v = 0 by omega, Nat.gcd_zero_right] at h0; rw [h0]) (fun x hx => by simp [hx])), hS.below⟩

end Go.Proofs.Ytlaojdpcfenlkaa
