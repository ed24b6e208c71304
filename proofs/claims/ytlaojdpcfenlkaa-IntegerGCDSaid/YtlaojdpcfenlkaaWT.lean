/-
  What the functions cp, small do, each call by call.
  Conditions: none.
-/
import Derived.Test.YtlaojdpcfenlkaaChecked
import Derived.Test.YtlaojdpcfenlkaaSwBaseK
import Derived.Test.YtlaojdpcfenlkaaWN
namespace Go.Proofs.Ytlaojdpcfenlkaa
open Go Go.RowKit Go.Sw
set_option linter.unusedVariables false
namespace TfT
theorem body22 : hasBody Try.prog 22 = true := by kernel_rfl
theorem el46 : Sw.elemOf Try.prog 46 = some (#[.int .u32 0], 1, 4) := by kernel_rfl
theorem mixed : Try.prog.follows .mixedOrders = true := by kernel_rfl
theorem off24_0 : fieldOff Try.prog 24 0 = some 0 := by kernel_rfl
theorem off24_1 : fieldOff Try.prog 24 1 = some 1 := by kernel_rfl
theorem one22 : isOne Try.prog 22 = true := by kernel_rfl
theorem one4 : isOne Try.prog 4 = true := by kernel_rfl
theorem row24 : isRow Try.prog 24 2 = true := by kernel_rfl
theorem size24 : (Try.prog.info? 24).map (fun i => i.size) = some 2 := by kernel_rfl
theorem sl22 : sliceOf Try.prog 22 = some (46, 1) := by kernel_rfl
theorem sl47 : sliceOf Try.prog 47 = some (24, 2) := by kernel_rfl
theorem sls47 : (sliceOf Try.prog 47).isSome = true := by kernel_rfl
theorem two24 : two1 Try.prog 24 = true := by kernel_rfl
theorem zero24 : zeroOf Try.prog 24 = some #[.bool false, .slice none 0 0] := by kernel_rfl
end TfT
set_option maxHeartbeats 4000000 in
theorem law01_cp_ok {w : World} {X : List Nat} (hX : ∀ m ∈ X, m < w.heap.size) {v_ng : Value} {ng : Bool} {l : List Nat} (h_ng : RawV w X v_ng (ng) (l)) (hn_l : l.length ≤ 1000000000000) :
    Calls Try.prog 14 #[v_ng] w (Ret fun r w' => (RawV w' X r (ng) (l)) ∧ Below w.heap.size w w') := by
 refine enter (N := 10) (fn := Try.f14) (vs := [v_ng]) Try.func14 rfl rfl rfl ?_
 intro fa hF
 obtain ⟨_, rfl, A_l, c_l, rfl, hu_l⟩ := h_ng
 have hl_l := hu_l.len; have hc_l := hu_l.cap
 replace hF : Frm 10 fa [(0, (.agg #[(.bool (ng)), (.slice (A_l) (l.length) (c_l))]))] := hF
 have hS := St.refl w
 refine c_seq ?_
 refine c_reg ?_
 refine st rfl (op_box (X := X) hF hS rfl rfl rfl ?_)
 intro g1 w2 hg4 hS E3; refine gen_ ?_; clear hF fa; intro fa hF
 replace hS : St w w2 [(g1, 24, #[(.bool (ng)), (.slice (A_l) (l.length) (c_l))])] := hS
 refine st rfl (op_alloc (X := (g1 :: X)) hF hS rfl TfT.zero24 ?_)
 intro g5 w6 hg8 hS E7; refine gen_ ?_; clear hF fa; intro fa hF
 replace hS : St w w6 [(g5, 24, #[(.bool (false)), (.slice (none) (0) (0))]), (g1, 24, #[(.bool (ng)), (.slice (A_l) (l.length) (c_l))])] := hS
 refine c_nil_then ?_
 refine c_seq ?_
 refine drawn2 (N := 10) (L0 := [(0, (.agg #[(.bool (ng)), (.slice (A_l) (l.length) (c_l))])), (1, (.pointer (some ⟨g1, 0, none⟩))), (2, (.pointer (some ⟨g5, 0, none⟩)))]) [some (.pointer (some ⟨g1, 0, none⟩)), some (.bool (ng)), none, some (.pointer (some ⟨g1, 1, none⟩)), some (.slice (A_l) (l.length) (c_l)), none, none, none] [2, 5, 6, 7] [[], [2], [2, 5], [2, 5, 6], [2, 5, 6, 7]] [[0, 1, 2, 3], [0, 1, 2], [0], [0, 1, 2, 3], [0, 1], [1], [2], [3]] 4 [
       fun fa w' => Frm 10 fa [] ∧ St w w' [(g5, 24, #[(.bool (false)), (.slice (none) (0) (0))]), (g1, 24, #[(.bool (ng)), (.slice (A_l) (l.length) (c_l))])] ∧ Ext w6 (g5 :: (g1 :: X)) w' (g5 :: (g1 :: X))
       , fun fa w' => ∃ go1_2_1 : Nat, Frm 10 fa [(5, (.slice (some ⟨go1_2_1, 0, none⟩) 0 0))] ∧ St w w' ([(g5, 24, #[(.bool (false)), (.slice (none) (0) (0))]), (g1, 24, #[(.bool (ng)), (.slice (A_l) (l.length) (c_l))])] ++ [(go1_2_1, 46, #[])]) ∧ Ext w6 (g5 :: (g1 :: X)) w' (g5 :: (g1 :: (bl [(go1_2_1, 46, #[])] ++ X))) ∧ (OwV 46 [(go1_2_1, 46, #[])] (.slice (some ⟨go1_2_1, 0, none⟩) 0 0) (us []))
       , fun fa w' => ∃ go1_2_1 : Nat, ∃ Ao1_5_7 : Option Addr, ∃ co1_5_8 : Nat, Frm 10 fa [(5, (.slice (some ⟨go1_2_1, 0, none⟩) 0 0)), (8, (.slice (Ao1_5_7) ((l).length) (co1_5_8)))] ∧ St w w' [(g5, 24, #[(.bool (false)), (.slice (none) (0) (0))]), (g1, 24, #[(.bool (ng)), (.slice (A_l) (l.length) (c_l))])] ∧ Ext w6 (g5 :: (g1 :: X)) w' (g5 :: (g1 :: X)) ∧ UC w' (g5 :: (g1 :: X)) Ao1_5_7 co1_5_8 (l) ∧ (OwV 46 [(go1_2_1, 46, #[])] (.slice (some ⟨go1_2_1, 0, none⟩) 0 0) (us []))
       , fun fa w' => ∃ go1_2_1 : Nat, ∃ Ao1_5_7 : Option Addr, ∃ co1_5_8 : Nat, Frm 10 fa [(5, (.slice (some ⟨go1_2_1, 0, none⟩) 0 0)), (8, (.slice (Ao1_5_7) ((l).length) (co1_5_8))), (9, (.agg #[(.bool (ng)), (.slice (Ao1_5_7) ((l).length) (co1_5_8))]))] ∧ St w w' [(g5, 24, #[(.bool (false)), (.slice (none) (0) (0))]), (g1, 24, #[(.bool (ng)), (.slice (A_l) (l.length) (c_l))])] ∧ Ext w6 (g5 :: (g1 :: X)) w' (g5 :: (g1 :: X)) ∧ UC w' (g5 :: (g1 :: X)) Ao1_5_7 co1_5_8 (l) ∧ (OwV 46 [(go1_2_1, 46, #[])] (.slice (some ⟨go1_2_1, 0, none⟩) 0 0) (us []))
       , fun fa w' => ∃ go1_2_1 : Nat, ∃ Ao1_5_7 : Option Addr, ∃ co1_5_8 : Nat, Frm 10 fa [(5, (.slice (some ⟨go1_2_1, 0, none⟩) 0 0)), (8, (.slice (Ao1_5_7) ((l).length) (co1_5_8))), (9, (.agg #[(.bool (ng)), (.slice (Ao1_5_7) ((l).length) (co1_5_8))]))] ∧ St w w' [(g5, 24, #[(.bool (ng)), (.slice (Ao1_5_7) ((l).length) (co1_5_8))]), (g1, 24, #[(.bool (ng)), (.slice (A_l) (l.length) (c_l))])] ∧ Ext w6 (g5 :: (g1 :: X)) w' (g5 :: (g1 :: X)) ∧ UC w' (g5 :: (g1 :: X)) Ao1_5_7 co1_5_8 (l) ∧ (OwV 46 [(go1_2_1, 46, #[])] (.slice (some ⟨go1_2_1, 0, none⟩) 0 0) (us []))
     ] TfT.mixed rfl rfl rfl rfl rfl rfl (hF.take (hF.take (hF.take hF.nil rfl) rfl) rfl) rfl ⟨hF.nil, hS.drew, Ext.drew _ _⟩ ?_ ?_ ?_
 all_goals clear hF fa
 ·
  refine ⟨?_, ?_, ?_, ?_, ?_, trivial⟩
  ·
   rintro fa w' i o d v ho hd hna ⟨hA, hR⟩; exact ⟨hA.put_other v (freeOf_at (acts := [2, 5, 6, 7]) rfl ho hd hna), hR⟩
  ·
   rintro fa w' i o d v ho hd hna ⟨go1_2_1, hA, hR⟩; exact ⟨go1_2_1, hA.put_other v (freeOf_at (acts := [2, 5, 6, 7]) rfl ho hd hna), hR⟩
  ·
   rintro fa w' i o d v ho hd hna ⟨go1_2_1, Ao1_5_7, co1_5_8, hA, hR⟩; exact ⟨go1_2_1, Ao1_5_7, co1_5_8, hA.put_other v (freeOf_at (acts := [2, 5, 6, 7]) rfl ho hd hna), hR⟩
  ·
   rintro fa w' i o d v ho hd hna ⟨go1_2_1, Ao1_5_7, co1_5_8, hA, hR⟩; exact ⟨go1_2_1, Ao1_5_7, co1_5_8, hA.put_other v (freeOf_at (acts := [2, 5, 6, 7]) rfl ho hd hna), hR⟩
  ·
   rintro fa w' i o d v ho hd hna ⟨go1_2_1, Ao1_5_7, co1_5_8, hA, hR⟩; exact ⟨go1_2_1, Ao1_5_7, co1_5_8, hA.put_other v (freeOf_at (acts := [2, 5, 6, 7]) rfl ho hd hna), hR⟩
 ·
  refine ⟨?_, ?_, ?_, ?_, ?_, ?_, ?_, ?_, trivial⟩
  ·
   refine .inl ⟨rfl, _, _, rfl, rfl, fun s fa w' hΦ hF hB K hK => ?_⟩
   exact fl_val rfl rfl rfl (ex_field_addr TfT.off24_0 (hF.ev rfl)) hK
  ·
   refine .inr (.inl ⟨rfl, _, _, rfl, rfl, ?_, ?_, ?_, trivial⟩)
   ·
    intro fa w' hΦ hF hB K hK
    obtain ⟨hA, hS, E_w'⟩ := hΦ
    replace hF := hF.cons (hB.val 0 _ 3 _ rfl rfl rfl rfl)
    exact fl_val rfl rfl rfl (ex_load1b TfT.one4 (hF.ev rfl) (hS.get 1 rfl) rfl) hK
   ·
    intro fa w' hΦ hF hB K hK
    obtain ⟨go1_2_1, hA, hS, E_w', hOo1_2_6⟩ := hΦ
    replace hF := hF.cons (hB.val 0 _ 3 _ rfl rfl rfl rfl)
    exact fl_val rfl rfl rfl (ex_load1b TfT.one4 (hF.ev rfl) (hS.get 1 rfl) rfl) hK
   ·
    intro fa w' hΦ hF hB K hK
    obtain ⟨go1_2_1, Ao1_5_7, co1_5_8, hA, hS, E_w', huo1_5_9, hOo1_2_6⟩ := hΦ
    replace hF := hF.cons (hB.val 0 _ 3 _ rfl rfl rfl rfl)
    exact fl_val rfl rfl rfl (ex_load1b TfT.one4 (hF.ev rfl) (hS.get 1 rfl) rfl) hK
  ·
   refine .inr (.inr ⟨rfl, ?_, trivial⟩)
   ·
    intro fa w' hΦ hF hB
    obtain ⟨hA, hS, E_w'⟩ := hΦ
    refine wop rfl rfl ?_
    refine op_lit0 (X := X) hF hS rfl TfT.sl22 TfT.el46 ?_
    intro go1_2_1 wo1_2_2 hgo1_2_4 hS Eo1_2_3 hOo1_2_6 hF
    replace hS : St w wo1_2_2 ([(g5, 24, #[(.bool (false)), (.slice (none) (0) (0))]), (g1, 24, #[(.bool (ng)), (.slice (A_l) (l.length) (c_l))])] ++ [(go1_2_1, 46, #[])]) := hS
    have hA1 := ((hA.put_other _ rfl).cons (hF.get 5 _ rfl))
    exact ⟨1, rfl, ⟨go1_2_1, (hA1.take hA1.nil rfl), hS, (E_w'.trans Eo1_2_3), hOo1_2_6⟩, _, rfl, fun u hu => by cases hu <;> rfl⟩
  ·
   refine .inl ⟨rfl, _, _, rfl, rfl, fun s fa w' hΦ hF hB K hK => ?_⟩
   exact fl_val rfl rfl rfl (ex_field_addr TfT.off24_1 (hF.ev rfl)) hK
  ·
   refine .inr (.inl ⟨rfl, _, _, rfl, rfl, ?_, ?_, trivial⟩)
   ·
    intro fa w' hΦ hF hB K hK
    obtain ⟨hA, hS, E_w'⟩ := hΦ
    replace hF := hF.cons (hB.val 3 _ 6 _ rfl rfl rfl rfl)
    exact fl_val rfl rfl rfl (ex_load1b TfT.one22 (hF.ev rfl) (hS.get 1 rfl) rfl) hK
   ·
    intro fa w' hΦ hF hB K hK
    obtain ⟨go1_2_1, hA, hS, E_w', hOo1_2_6⟩ := hΦ
    replace hF := hF.cons (hB.val 3 _ 6 _ rfl rfl rfl rfl)
    exact fl_val rfl rfl rfl (ex_load1b TfT.one22 (hF.ev rfl) (hS.get 1 rfl) rfl) hK
  ·
   refine .inr (.inr ⟨rfl, ?_, trivial⟩)
   ·
    intro fa w' hΦ hF hB
    obtain ⟨go1_2_1, hA, hS, E_w', hOo1_2_6⟩ := hΦ
    replace hF := hF.cons (hA.get 5 _ rfl)
    replace hF := hF.cons (hB.val 4 _ 7 _ rfl rfl rfl rfl)
    refine wop rfl rfl ?_
    refine op_append (X := X) (F := [(g5, 24, #[(.bool (false)), (.slice (none) (0) (0))]), (g1, 24, #[(.bool (ng)), (.slice (A_l) (l.length) (c_l))])]) (So := [(go1_2_1, 46, #[])]) (l := us ([])) (m := us (l)) hF hS rfl TfT.sl22 TfT.el46 rfl rfl rfl (by simp) hOo1_2_6 (hu_l.ext ((E3.trans E7).trans E_w')).cl (us_one _) (by simp; omega) (by simp; omega) ?_
    intro vo1_5_1 Soo1_5_2 wo1_5_3 hOo1_5_4 hS Eo1_5_5 huno1_5_6 hF
    clear huno1_5_6
    rw [← us_append] at hOo1_5_4
    simp only [List.nil_append] at hOo1_5_4
    replace Eo1_5_5 : Ext w' (g5 :: (g1 :: (bl [(go1_2_1, 46, #[])] ++ X))) wo1_5_3 (g5 :: (g1 :: (bl Soo1_5_2 ++ X))) := Eo1_5_5
    replace hS : St w wo1_5_3 ([(g5, 24, #[(.bool (false)), (.slice (none) (0) (0))]), (g1, 24, #[(.bool (ng)), (.slice (A_l) (l.length) (c_l))])] ++ Soo1_5_2) := hS
    obtain ⟨Ao1_5_7, co1_5_8, hvo1_5_10, huo1_5_9⟩ := UC.thaw (F := [(g5, 24, #[(.bool (false)), (.slice (none) (0) (0))]), (g1, 24, #[(.bool (ng)), (.slice (A_l) (l.length) (c_l))])]) hOo1_5_4 hS hX
    subst hvo1_5_10
    have Eo1_5_11 : Ext wo1_5_3 (g5 :: (g1 :: (bl Soo1_5_2 ++ X))) wo1_5_3 (g5 :: (g1 :: X)) := Ext.drop (by simp +contextual)
    replace huo1_5_9 : UC wo1_5_3 (g5 :: (g1 :: X)) Ao1_5_7 co1_5_8 (l) := huo1_5_9
    replace hS : St w wo1_5_3 [(g5, 24, #[(.bool (false)), (.slice (none) (0) (0))]), (g1, 24, #[(.bool (ng)), (.slice (A_l) (l.length) (c_l))])] := hS.drop (List.sublist_append_left _ _)
    have hA1 := ((hA.put_other _ rfl).cons (hF.get 8 _ rfl))
    exact ⟨2, rfl, ⟨go1_2_1, Ao1_5_7, co1_5_8, (hA1.take (hA1.take hA1.nil rfl) rfl), hS, ((E_w'.trans Eo1_5_5).trans Eo1_5_11), huo1_5_9, hOo1_2_6⟩, _, rfl, fun u hu => by cases hu <;> rfl⟩
  ·
   refine .inr (.inr ⟨rfl, ?_, trivial⟩)
   ·
    intro fa w' hΦ hF hB
    obtain ⟨go1_2_1, Ao1_5_7, co1_5_8, hA, hS, E_w', huo1_5_9, hOo1_2_6⟩ := hΦ
    replace hF := hF.cons (hB.val 1 _ 4 _ rfl rfl rfl rfl)
    replace hF := hF.cons (hA.get 8 _ rfl)
    refine wop rfl rfl ?_
    refine op_val hF rfl rfl (ex_build2 TfT.two24 (hF.ev rfl) (hF.ev rfl) rfl rfl) ?_; clear hF; intro hF
    have hA1 := ((hA.put_other _ rfl).cons (hF.get 9 _ rfl))
    exact ⟨3, rfl, ⟨go1_2_1, Ao1_5_7, co1_5_8, (hA1.take (hA1.take (hA1.take hA1.nil rfl) rfl) rfl), hS, E_w', huo1_5_9, hOo1_2_6⟩, _, rfl, fun u hu => by cases hu <;> rfl⟩
  ·
   refine .inr (.inr ⟨rfl, ?_, trivial⟩)
   ·
    intro fa w' hΦ hF hB
    obtain ⟨go1_2_1, Ao1_5_7, co1_5_8, hA, hS, E_w', huo1_5_9, hOo1_2_6⟩ := hΦ
    replace hF := hF.cons (hA.get 9 _ rfl)
    refine wop rfl rfl ?_
    refine op_store (X := (g5 :: (g1 :: X))) hF hS 0 rfl (by simp) rfl rfl rfl TfT.size24 rfl (Nat.le_of_ble_eq_true rfl) ?_
    intro wo1_7_1 hS Eo1_7_2
    replace hS : St w wo1_7_1 [(g5, 24, #[(.bool (ng)), (.slice (Ao1_5_7) ((l).length) (co1_5_8))]), (g1, 24, #[(.bool (ng)), (.slice (A_l) (l.length) (c_l))])] := hS
    exact ⟨4, rfl, ⟨go1_2_1, Ao1_5_7, co1_5_8, hA, hS, (E_w'.trans Eo1_7_2), (huo1_5_9.ext Eo1_7_2), hOo1_2_6⟩, undef, rfl, fun u hu => by cases hu <;> rfl⟩
 intro fa w9 hΦ hF hC
 obtain ⟨go1_2_1, Ao1_5_7, co1_5_8, hA, hS, E_w9, huo1_5_9, hOo1_2_6⟩ := hΦ
 clear hA hC
 refine x_tn ?_
 refine c_ret ?_
 refine end1 hF rfl (res_cell hF rfl TfT.row24 (hS.get 0 rfl) rfl) ?_
 exact ⟨_, rfl, (RawV.fin (L := l) ⟨_, _, _, rfl, (rfl), huo1_5_9⟩ (rfl) (rfl) (fun x hx => by simp [hx])), hS.below⟩

set_option maxHeartbeats 4000000 in
theorem law01_small_ok {w : World} {X : List Nat} (hX : ∀ m ∈ X, m < w.heap.size) {v_zs : Value} {zs : List (Bool × List Nat)} (h_zs : RawsV w X v_zs (zs)) :
    Calls Try.prog 12 #[v_zs] w (Ret fun r w' => (r = .bool ((zs.all fun p => decide ((p.2.length : Int) ≤ 16) && validL p.1 p.2))) ∧ Below w.heap.size w w') := by
 refine enter (N := 15) (fn := Try.f12) (vs := [v_zs]) Try.func12 rfl rfl rfl ?_
 intro fa hF
 obtain ⟨A_zs, c_zs, rfl, hl_zs, hc_zs⟩ := h_zs.form
 replace hF : Frm 15 fa [(0, (.slice (A_zs) (zs.length) (c_zs)))] := hF
 have hS := St.refl w
 refine c_seq ?_
 refine c_reg ?_
 refine st_val hF rfl rfl rfl (ex_assign (hF.ev rfl)) ?_
 clear hF fa; intro fa hF
 refine c_nil_then ?_
 refine c_seq ?_
 refine c_seq ?_
 refine c_reg ?_
 refine st_val hF rfl rfl rfl (ex_move (hF.ev rfl)) ?_
 clear hF fa; intro fa hF
 refine st_val hF rfl rfl rfl (ex_len TfT.sls47 (hF.ev rfl)) ?_
 clear hF fa; intro fa hF
 refine st_val hF rfl rfl rfl (ex_move (hF.ev rfl)) ?_
 clear hF fa; intro fa hF
 refine c_nil_then ?_
 refine c_block ?_
 refine c_loop (fun mu fa w' => ∃ k : Nat, Frm 15 fa [(0, (.slice (A_zs) (zs.length) (c_zs))), (5, (.slice (A_zs) (zs.length) (c_zs))), (6, (.int .i64 (((zs.length : Nat) : Int)))), (7, (.int .i64 (((k : Nat) : Int))))] ∧ St w w' [] ∧ Ext w X w' X ∧ (k ≤ zs.length) ∧ ((zs.take k).all (fun p => decide ((p.2.length : Int) ≤ 16) && validL p.1 p.2) = true) ∧ zs.length - k = mu) ?_ ?_
 ·
  exact ⟨_, 0, (hF.take (hF.take (hF.take (hF.take hF.nil (lk_int rfl (by omega))) rfl) rfl) rfl), hS, Ext.refl _ _, (by omega), (rfl), rfl⟩
 clear hF fa; intro n0_ fa w' hI
 clear hS
 obtain ⟨k, hF, hS, E2, hk, hz, rfl⟩ := hI
 rename World => w1
 refine c_seq ?_
 refine c_reg ?_
 refine st_val hF rfl rfl rfl (ex_lss (hF.ev rfl) (hF.ev rfl)) ?_
 clear hF fa; intro fa hF
 refine c_nil_then ?_
 refine c_seq ?_
 refine c_cond hF rfl (fun hc3 => ?_) (fun hc3 => ?_)
 ·
  have hc3p : ((k : Nat) : Int) < ((zs.length : Nat) : Int) := by first | simpa using hc3 | exact bang_t hc3 | exact bang_f hc3
  refine c_skip ?_
  refine x_tn ?_
  refine c_seq ?_
  refine c_block ?_
  refine c_seq ?_
  refine c_reg ?_
  obtain ⟨ad4, A5, c6, hA7, hq8, hu9⟩ := (h_zs.ext E2).at_ (k) (by omega)
  refine st_val hF rfl rfl rfl (ex_idxr (j := k) TfT.sl47 (hF.ev rfl) hA7 (hF.ev rfl) (by omega) (by omega)) ?_
  clear hF fa; intro fa hF
  refine st_val hF rfl rfl rfl (ex_loadn (cs := #[(.bool ((zs.getD (k) (false, [])).1)), (.slice (A5) ((zs.getD (k) (false, [])).2.length) (c6))]) TfT.row24 (hF.ev rfl) hq8) ?_
  clear hF fa; intro fa hF
  refine st rfl (op_alloc (X := X) hF hS rfl TfT.zero24 ?_)
  intro g10 w11 hg13 hS E12; refine gen_ ?_; clear hF fa; intro fa hF
  replace hS : St w w11 [(g10, 24, #[(.bool (false)), (.slice (none) (0) (0))])] := hS
  refine st rfl (op_store (X := (g10 :: X)) hF hS 0 rfl (by simp) rfl rfl rfl TfT.size24 rfl (Nat.le_of_ble_eq_true rfl) ?_)
  intro w14 hS E15
  replace hS : St w w14 [(g10, 24, #[(.bool ((zs.getD (k) (false, [])).1)), (.slice (A5) ((zs.getD (k) (false, [])).2.length) (c6))])] := hS
  refine c_nil_then ?_
  refine c_seq ?_
  refine c_reg ?_
  refine st_val hF rfl rfl rfl (ex_loadb TfT.row24 (hF.ev rfl) (hS.get 0 rfl) rfl) ?_
  clear hF fa; intro fa hF
  have hC := ref01_Small_ok (w := w14) (X := (g10 :: X)) (ng := ((zs.getD (k) (false, [])).1)) (l := ((zs.getD (k) (false, [])).2)) (hS.bnd hX) ⟨_, rfl, _, _, rfl, (hu9.ext (E12.trans E15))⟩ 16
  refine st rfl (op_call hF rfl TfT.body22 (args2 (hF.ev rfl) (hF.ev rfl)) hC ?_)
  clear hC
  rintro _ w16 ⟨rfl, hb17⟩
  refine gen_ ?_; clear hF fa; intro fa hF
  replace hS := hS.call hb17; have E18 := Ext.call (g10 :: X) hb17
  refine st_val hF rfl rfl rfl (ex_not (hF.ev rfl)) ?_
  clear hF fa; intro fa hF
  refine c_nil_then ?_
  refine c_cond hF rfl (fun hc19 => ?_) (fun hc19 => ?_)
  ·
   have hc19p : ¬ ((decide (((((zs.getD (k) (false, [])).2).length : Nat) : Int) ≤ ((16 : Int))) && validL ((zs.getD (k) (false, [])).1) ((zs.getD (k) (false, [])).2)) = true) := by first | simpa using hc19 | exact bang_t hc19 | exact bang_f hc19
   refine c_seq ?_
   refine c_reg ?_
   refine st_val hF rfl rfl rfl (ex_assign (hF.ev rfl)) ?_
   clear hF fa; intro fa hF
   refine c_nil_then ?_
   refine c_ret ?_
   refine x_br ?_
   refine x_tr ?_
   refine x_tr ?_
   refine x_br ?_
   refine x_tr ?_
   refine end1 hF rfl (res_tmp hF rfl) ?_
   exact ⟨_, rfl, (congrArg Value.bool (all_no (k := k) (by omega) ((Bool.not_eq_true _).mp (by assumption)))), hS.below⟩
  have hc19p : ¬ (¬ ((decide (((((zs.getD (k) (false, [])).2).length : Nat) : Int) ≤ ((16 : Int))) && validL ((zs.getD (k) (false, [])).1) ((zs.getD (k) (false, [])).2)) = true)) := by first | simpa using hc19 | exact bang_t hc19 | exact bang_f hc19
  refine c_skip ?_
  refine x_bn ?_
  refine x_tn ?_
  refine c_reg ?_
  refine st_val hF rfl rfl rfl (ex_add (hF.ev rfl) (hF.ev rfl) (wi64 (by omega) (by omega))) ?_
  clear hF fa; intro fa hF
  refine st_val hF rfl rfl rfl (ex_move (hF.ev rfl)) ?_
  clear hF fa; intro fa hF
  refine c_nil ?_
  refine x_tn ?_
  replace hS : St w w16 [] := hS.drop (List.sublist_cons_self _ _)
  have E20 : Ext w16 (g10 :: X) w16 X := Ext.drop (by simp +contextual)
  exact ⟨_, (by omega), (k + 1), (hF.take (hF.take (hF.take (hF.take hF.nil (lk_int rfl (by omega))) rfl) rfl) rfl), hS, ((((E2.trans E12).trans E15).trans E18).trans E20), (by omega), (all_step (by omega) hz (Decidable.not_not.mp (by assumption))), rfl⟩
 have hc3p : ¬ (((k : Nat) : Int) < ((zs.length : Nat) : Int)) := by first | simpa using hc3 | exact bang_t hc3 | exact bang_f hc3
 refine c_exit ?_
 refine x_te ?_
 refine x_te ?_
 refine x_bh ?_
 refine x_tn ?_
 refine c_seq ?_
 refine c_reg ?_
 refine st_val hF rfl rfl rfl (ex_assign (hF.ev rfl)) ?_
 clear hF fa; intro fa hF
 refine c_nil_then ?_
 refine c_ret ?_
 refine end1 hF rfl (res_tmp hF rfl) ?_
 exact ⟨_, rfl, (congrArg Value.bool (by rw [List.take_of_length_le (by omega)] at hz; exact hz.symm)), hS.below⟩

end Go.Proofs.Ytlaojdpcfenlkaa
