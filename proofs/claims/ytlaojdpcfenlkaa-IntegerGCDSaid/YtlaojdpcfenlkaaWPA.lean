/-
  What the functions parts do, each call by call.
  Conditions: none.
-/
import Derived.Test.YtlaojdpcfenlkaaChecked
import Derived.Test.YtlaojdpcfenlkaaSwBaseM
import Derived.Test.YtlaojdpcfenlkaaWA
import Derived.Test.YtlaojdpcfenlkaaWD
import Derived.Test.YtlaojdpcfenlkaaWG
namespace Go.Proofs.Ytlaojdpcfenlkaa
open Go Go.RowKit Go.Sw
set_option linter.unusedVariables false
namespace TfPA
theorem body42 : hasBody Try.prog 42 = true := by kernel_rfl
theorem body43 : hasBody Try.prog 43 = true := by kernel_rfl
theorem body47 : hasBody Try.prog 47 = true := by kernel_rfl
theorem body52 : hasBody Try.prog 52 = true := by kernel_rfl
theorem body53 : hasBody Try.prog 53 = true := by kernel_rfl
theorem body63 : hasBody Try.prog 63 = true := by kernel_rfl
theorem el46 : Sw.elemOf Try.prog 46 = some (#[.int .u32 0], 1, 4) := by kernel_rfl
theorem mixed : Try.prog.follows .mixedOrders = true := by kernel_rfl
theorem one46 : isOne Try.prog 46 = true := by kernel_rfl
theorem size46 : (Try.prog.info? 46).map (fun i => i.size) = some 1 := by kernel_rfl
theorem sl22 : sliceOf Try.prog 22 = some (46, 1) := by kernel_rfl
theorem sls22 : (sliceOf Try.prog 22).isSome = true := by kernel_rfl
theorem und46 : Try.prog.underlying 46 = some (TypeDesc.int .u32) := by kernel_rfl
theorem und54 : Try.prog.underlying 54 = some (TypeDesc.int .u64) := by kernel_rfl
theorem unds46 : (Try.prog.underlying 46).isSome = true := by kernel_rfl
theorem unds54 : (Try.prog.underlying 54).isSome = true := by kernel_rfl
end TfPA
set_option maxHeartbeats 4000000 in
theorem ref01_parts_ok {w : World} {X : List Nat} (hX : ∀ m ∈ X, m < w.heap.size) {v_a : Value} {a : List Nat} (h_a : UL w X v_a (a)) {v_b : Value} {b : List Nat} (h_b : UL w X v_b (b)) (hn_a : a.length ≤ 1000000000) (hn_b : b.length ≤ 1000000000) (hca : CanL a) (hcb : CanL b) (hpos : 0 < val b) :
    Calls Try.prog 51 #[v_a, v_b] w (Ret fun r w' => (∃ r0 r1, r = .tuple #[r0, r1] ∧ UL w' X r0 (lim (val a / val b)) ∧ UL w' X r1 (lim (val a % val b))) ∧ Below w.heap.size w w') := by
 refine enter (N := 173) (fn := Try.f51) (vs := [v_a, v_b]) Try.func51 rfl rfl rfl ?_
 intro fa hF
 obtain ⟨A_a, _, c_a, rfl, rfl, hu_a⟩ := h_a
 have hl_a := hu_a.len; have hc_a := hu_a.cap
 obtain ⟨A_b, _, c_b, rfl, rfl, hu_b⟩ := h_b
 have hl_b := hu_b.len; have hc_b := hu_b.cap
 replace hF : Frm 173 fa [(0, (.slice (A_a) (a.length) (c_a))), (1, (.slice (A_b) (b.length) (c_b)))] := hF
 have hS := St.refl w
 have hbn : 0 < b.length := by cases hq : b with | nil => rw [hq] at hpos; simp [val] at hpos | cons _ _ => simp
 have hae := hca.eq; have hbe := hcb.eq
 refine c_seq ?_
 refine c_reg ?_
 refine st_val hF rfl rfl rfl (ex_assign (hF.ev rfl)) ?_
 clear hF fa; intro fa hF
 refine st_val hF rfl rfl rfl (ex_assign (hF.ev rfl)) ?_
 clear hF fa; intro fa hF
 refine c_nil_then ?_
 refine c_cut (fun fa w' => Frm 173 fa [(0, (.slice (A_a) (a.length) (c_a))), (1, (.slice (A_b) (b.length) (c_b)))] ∧ w = w' ∧ (¬ (a.length ≤ 2 ∧ b.length ≤ 2))) ?_ ?_
 ·
  refine c_seq ?_
  refine c_reg ?_
  refine st_val hF rfl rfl rfl (ex_move (hF.ev rfl)) ?_
  clear hF fa; intro fa hF
  refine st_val hF rfl rfl rfl (ex_len TfPA.sls22 (hF.ev rfl)) ?_
  clear hF fa; intro fa hF
  refine st_val hF rfl rfl rfl (ex_leq (hF.ev rfl) (hF.ev rfl)) ?_
  clear hF fa; intro fa hF
  refine st_val hF rfl rfl rfl (ex_move (hF.ev rfl)) ?_
  clear hF fa; intro fa hF
  rcases Bool.eq_false_or_eq_true (decide (((a.length : Nat) : Int) ≤ 2)) with hg1 | hg1
  ·
   replace hF := hF.cons (t := 24) (v := .bool true) ((hF.get 24 _ rfl).trans (congrArg Value.bool hg1))
   have hg1p : ((a.length : Nat) : Int) ≤ 2 := by simpa using hg1
   refine stg_val hF rfl rfl rfl rfl (ex_move (hF.ev rfl)) ?_
   clear hF fa; intro fa hF
   refine stg_val hF rfl rfl rfl rfl (ex_len TfPA.sls22 (hF.ev rfl)) ?_
   clear hF fa; intro fa hF
   refine stg_val hF rfl rfl rfl rfl (ex_leq (hF.ev rfl) (hF.ev rfl)) ?_
   clear hF fa; intro fa hF
   refine st_val hF rfl rfl rfl (ex_pick (hF.ev rfl) (fun _ => hF.ev rfl) (v := undef) (fun h => by cases h) rfl) ?_
   clear hF fa; intro fa hF
   refine c_nil_then ?_
   refine c_cond hF rfl (fun hc2 => ?_) (fun hc2 => ?_)
   ·
    have hc2p : ((b.length : Nat) : Int) ≤ 2 := by first | simpa using hc2 | exact bang_t hc2 | exact bang_f hc2
    have ha18 : val a < 1000000000000000000 := lim_len_two (by rw [hae]; omega)
    have hb18 : val b < 1000000000000000000 := lim_len_two (by rw [hbe]; omega)
    refine c_seq ?_
    refine c_reg ?_
    refine st_val hF rfl rfl rfl (ex_move (hF.ev rfl)) ?_
    clear hF fa; intro fa hF
    have hC := ref01_short_ok (w := w) (X := X) (l := a) (hS.bnd hX) ⟨_, (a.length), _, rfl, (rfl), hu_a⟩ (by omega) (hca.1) (by omega)
    refine st rfl (op_call hF rfl TfPA.body52 (args1 (hF.ev rfl)) hC ?_)
    clear hC
    rintro _ w3 ⟨rfl, hb4⟩
    refine gen_ ?_; clear hF fa; intro fa hF
    replace hS := hS.call hb4; have E5 := Ext.call X hb4
    refine st_val hF rfl rfl rfl (ex_move (hF.ev rfl)) ?_
    clear hF fa; intro fa hF
    have hC := ref01_short_ok (w := w3) (X := X) (l := b) (hS.bnd hX) ⟨_, (b.length), _, rfl, (rfl), (hu_b.ext E5)⟩ (by omega) (hcb.1) (by omega)
    refine st rfl (op_call hF rfl TfPA.body52 (args1 (hF.ev rfl)) hC ?_)
    clear hC
    rintro _ w6 ⟨rfl, hb7⟩
    refine gen_ ?_; clear hF fa; intro fa hF
    replace hS := hS.call hb7; have E8 := Ext.call X hb7
    refine st_val hF rfl rfl rfl (ex_assign (hF.ev rfl)) ?_
    clear hF fa; intro fa hF
    refine st_val hF rfl rfl rfl (ex_assign (hF.ev rfl)) ?_
    clear hF fa; intro fa hF
    refine c_nil_then ?_
    refine c_seq ?_
    refine drawn2 (N := 173) (L0 := [(0, (.slice (A_a) (a.length) (c_a))), (1, (.slice (A_b) (b.length) (c_b))), (28, (.bool (decide (((b.length : Nat) : Int) ≤ 2)))), (6, (.int .u64 (((val a : Nat) : Int)))), (7, (.int .u64 (((val b : Nat) : Int))))]) [some (.int .u64 (((val a : Nat) : Int))), some (.int .u64 (((val b : Nat) : Int))), some (.int .u64 ((((val a) / (val b) : Nat) : Int))), none, some (.int .u64 (((val a : Nat) : Int))), some (.int .u64 (((val b : Nat) : Int))), some (.int .u64 ((((val a) % (val b) : Nat) : Int))), none, none, none] [3, 7, 8, 9] [[], [3], [3, 7], [3, 7, 8], [3, 7, 8, 9]] [[0, 1, 2], [0, 1, 2], [0], [0], [0, 1, 2, 3], [0, 1, 2, 3], [0, 1], [1], [2], [3]] 4 [
          fun fa w' => Frm 173 fa [] ∧ St w w' [] ∧ Ext w6 X w' X
          , fun fa w' => ∃ Ao3_3_4 : Option Addr, ∃ co3_3_5 : Nat, Frm 173 fa [(36, (.slice (Ao3_3_4) ((lim ((val a) / (val b))).length) (co3_3_5)))] ∧ St w w' [] ∧ Ext w6 X w' X ∧ UC w' X Ao3_3_4 co3_3_5 (lim ((val a) / (val b)))
          , fun fa w' => ∃ Ao3_3_4 : Option Addr, ∃ co3_3_5 : Nat, ∃ Ao3_7_4 : Option Addr, ∃ co3_7_5 : Nat, Frm 173 fa [(36, (.slice (Ao3_3_4) ((lim ((val a) / (val b))).length) (co3_3_5))), (40, (.slice (Ao3_7_4) ((lim ((val a) % (val b))).length) (co3_7_5)))] ∧ St w w' [] ∧ Ext w6 X w' X ∧ UC w' X Ao3_3_4 co3_3_5 (lim ((val a) / (val b))) ∧ UC w' X Ao3_7_4 co3_7_5 (lim ((val a) % (val b)))
          , fun fa w' => ∃ Ao3_3_4 : Option Addr, ∃ co3_3_5 : Nat, ∃ Ao3_7_4 : Option Addr, ∃ co3_7_5 : Nat, Frm 173 fa [(36, (.slice (Ao3_3_4) ((lim ((val a) / (val b))).length) (co3_3_5))), (40, (.slice (Ao3_7_4) ((lim ((val a) % (val b))).length) (co3_7_5))), (4, (.slice (Ao3_3_4) ((lim ((val a) / (val b))).length) (co3_3_5)))] ∧ St w w' [] ∧ Ext w6 X w' X ∧ UC w' X Ao3_3_4 co3_3_5 (lim ((val a) / (val b))) ∧ UC w' X Ao3_7_4 co3_7_5 (lim ((val a) % (val b)))
          , fun fa w' => ∃ Ao3_3_4 : Option Addr, ∃ co3_3_5 : Nat, ∃ Ao3_7_4 : Option Addr, ∃ co3_7_5 : Nat, Frm 173 fa [(36, (.slice (Ao3_3_4) ((lim ((val a) / (val b))).length) (co3_3_5))), (40, (.slice (Ao3_7_4) ((lim ((val a) % (val b))).length) (co3_7_5))), (4, (.slice (Ao3_3_4) ((lim ((val a) / (val b))).length) (co3_3_5))), (5, (.slice (Ao3_7_4) ((lim ((val a) % (val b))).length) (co3_7_5)))] ∧ St w w' [] ∧ Ext w6 X w' X ∧ UC w' X Ao3_3_4 co3_3_5 (lim ((val a) / (val b))) ∧ UC w' X Ao3_7_4 co3_7_5 (lim ((val a) % (val b)))
        ] TfPA.mixed rfl rfl rfl rfl rfl rfl (hF.take (hF.take (hF.take (hF.take (hF.take hF.nil rfl) rfl) rfl) rfl) rfl) rfl ⟨hF.nil, hS.drew, Ext.drew _ _⟩ ?_ ?_ ?_
    all_goals clear hF fa
    ·
     refine ⟨?_, ?_, ?_, ?_, ?_, trivial⟩
     ·
      rintro fa w' i o d v ho hd hna ⟨hA, hR⟩; exact ⟨hA.put_other v (freeOf_at (acts := [3, 7, 8, 9]) rfl ho hd hna), hR⟩
     ·
      rintro fa w' i o d v ho hd hna ⟨Ao3_3_4, co3_3_5, hA, hR⟩; exact ⟨Ao3_3_4, co3_3_5, hA.put_other v (freeOf_at (acts := [3, 7, 8, 9]) rfl ho hd hna), hR⟩
     ·
      rintro fa w' i o d v ho hd hna ⟨Ao3_3_4, co3_3_5, Ao3_7_4, co3_7_5, hA, hR⟩; exact ⟨Ao3_3_4, co3_3_5, Ao3_7_4, co3_7_5, hA.put_other v (freeOf_at (acts := [3, 7, 8, 9]) rfl ho hd hna), hR⟩
     ·
      rintro fa w' i o d v ho hd hna ⟨Ao3_3_4, co3_3_5, Ao3_7_4, co3_7_5, hA, hR⟩; exact ⟨Ao3_3_4, co3_3_5, Ao3_7_4, co3_7_5, hA.put_other v (freeOf_at (acts := [3, 7, 8, 9]) rfl ho hd hna), hR⟩
     ·
      rintro fa w' i o d v ho hd hna ⟨Ao3_3_4, co3_3_5, Ao3_7_4, co3_7_5, hA, hR⟩; exact ⟨Ao3_3_4, co3_3_5, Ao3_7_4, co3_7_5, hA.put_other v (freeOf_at (acts := [3, 7, 8, 9]) rfl ho hd hna), hR⟩
    ·
     refine ⟨?_, ?_, ?_, ?_, ?_, ?_, ?_, ?_, ?_, ?_, trivial⟩
     ·
      refine .inl ⟨rfl, _, _, rfl, rfl, fun s fa w' hΦ hF hB K hK => ?_⟩
      exact fl_val rfl rfl rfl (ex_move (hF.ev rfl)) hK
     ·
      refine .inl ⟨rfl, _, _, rfl, rfl, fun s fa w' hΦ hF hB K hK => ?_⟩
      exact fl_val rfl rfl rfl (ex_move (hF.ev rfl)) hK
     ·
      refine .inl ⟨rfl, _, _, rfl, rfl, fun s fa w' hΦ hF hB K hK => ?_⟩
      replace hF := hF.cons (hB.val 0 _ 33 _ rfl rfl rfl rfl)
      replace hF := hF.cons (hB.val 1 _ 34 _ rfl rfl rfl rfl)
      exact fl_val rfl rfl rfl (ex_quo (hF.ev rfl) (hF.ev rfl) (by omega) (q_u64 (x := val a) (y := val b) (by omega) (by omega) (by omega))) hK
     ·
      refine .inr (.inr ⟨rfl, ?_, trivial⟩)
      ·
       intro fa w' hΦ hF hB
       obtain ⟨hA, hS, E_w'⟩ := hΦ
       replace hF := hF.cons (hB.val 2 _ 35 _ rfl rfl rfl rfl)
       refine wop rfl rfl ?_
       have hC := ref01_limbs_ok (w := w') (X := X) (hS.bnd hX) ((val a) / (val b)) (Nat.lt_of_le_of_lt (Nat.div_le_self _ _) (by omega))
       refine op_call hF rfl TfPA.body53 (args1 (hF.ev (ev_int (b := (((val a) / (val b) : Nat) : Int)) rfl (by first | rfl | omega)))) hC ?_
       clear hC
       rintro _ wo3_3_1 ⟨⟨Ao3_3_4, _, co3_3_5, rfl, rfl, huo3_3_6⟩, hbo3_3_2⟩
       clear hF; intro hF
       replace hS := hS.call hbo3_3_2; have Eo3_3_3 := Ext.call X hbo3_3_2
       have hA1 := ((hA.put_other _ rfl).cons (hF.get 36 _ rfl))
       exact ⟨1, rfl, ⟨Ao3_3_4, co3_3_5, (hA1.take hA1.nil rfl), hS, (E_w'.trans Eo3_3_3), huo3_3_6⟩, _, rfl, fun u hu => by cases hu <;> rfl⟩
     ·
      refine .inl ⟨rfl, _, _, rfl, rfl, fun s fa w' hΦ hF hB K hK => ?_⟩
      exact fl_val rfl rfl rfl (ex_move (hF.ev rfl)) hK
     ·
      refine .inl ⟨rfl, _, _, rfl, rfl, fun s fa w' hΦ hF hB K hK => ?_⟩
      exact fl_val rfl rfl rfl (ex_move (hF.ev rfl)) hK
     ·
      refine .inl ⟨rfl, _, _, rfl, rfl, fun s fa w' hΦ hF hB K hK => ?_⟩
      replace hF := hF.cons (hB.val 4 _ 37 _ rfl rfl rfl rfl)
      replace hF := hF.cons (hB.val 5 _ 38 _ rfl rfl rfl rfl)
      exact fl_val rfl rfl rfl (ex_rem (hF.ev rfl) (hF.ev rfl) (by omega) (r_any (x := val a) (y := val b) (by omega) (by omega))) hK
     ·
      refine .inr (.inr ⟨rfl, ?_, trivial⟩)
      ·
       intro fa w' hΦ hF hB
       obtain ⟨Ao3_3_4, co3_3_5, hA, hS, E_w', huo3_3_6⟩ := hΦ
       replace hF := hF.cons (hB.val 6 _ 39 _ rfl rfl rfl rfl)
       refine wop rfl rfl ?_
       have hC := ref01_limbs_ok (w := w') (X := X) (hS.bnd hX) ((val a) % (val b)) (Nat.lt_of_le_of_lt (Nat.mod_le _ _) (by omega))
       refine op_call hF rfl TfPA.body53 (args1 (hF.ev (ev_int (b := (((val a) % (val b) : Nat) : Int)) rfl (by first | rfl | omega)))) hC ?_
       clear hC
       rintro _ wo3_7_1 ⟨⟨Ao3_7_4, _, co3_7_5, rfl, rfl, huo3_7_6⟩, hbo3_7_2⟩
       clear hF; intro hF
       replace hS := hS.call hbo3_7_2; have Eo3_7_3 := Ext.call X hbo3_7_2
       have hA1 := ((hA.put_other _ rfl).cons (hF.get 40 _ rfl))
       exact ⟨2, rfl, ⟨Ao3_3_4, co3_3_5, Ao3_7_4, co3_7_5, (hA1.take (hA1.take hA1.nil rfl) rfl), hS, (E_w'.trans Eo3_7_3), (huo3_3_6.ext Eo3_7_3), huo3_7_6⟩, _, rfl, fun u hu => by cases hu <;> rfl⟩
     ·
      refine .inr (.inr ⟨rfl, ?_, trivial⟩)
      ·
       intro fa w' hΦ hF hB
       obtain ⟨Ao3_3_4, co3_3_5, Ao3_7_4, co3_7_5, hA, hS, E_w', huo3_3_6, huo3_7_6⟩ := hΦ
       replace hF := hF.cons (hA.get 36 _ rfl)
       refine wop rfl rfl ?_
       refine op_val hF rfl rfl (ex_assign (hF.ev rfl)) ?_; clear hF; intro hF
       have hA1 := ((hA.put_other _ rfl).cons (hF.get 4 _ rfl))
       exact ⟨3, rfl, ⟨Ao3_3_4, co3_3_5, Ao3_7_4, co3_7_5, (hA1.take (hA1.take (hA1.take hA1.nil rfl) rfl) rfl), hS, E_w', huo3_3_6, huo3_7_6⟩, _, rfl, fun u hu => by cases hu <;> rfl⟩
     ·
      refine .inr (.inr ⟨rfl, ?_, trivial⟩)
      ·
       intro fa w' hΦ hF hB
       obtain ⟨Ao3_3_4, co3_3_5, Ao3_7_4, co3_7_5, hA, hS, E_w', huo3_3_6, huo3_7_6⟩ := hΦ
       replace hF := hF.cons (hA.get 40 _ rfl)
       refine wop rfl rfl ?_
       refine op_val hF rfl rfl (ex_assign (hF.ev rfl)) ?_; clear hF; intro hF
       have hA1 := ((hA.put_other _ rfl).cons (hF.get 5 _ rfl))
       exact ⟨4, rfl, ⟨Ao3_3_4, co3_3_5, Ao3_7_4, co3_7_5, (hA1.take (hA1.take (hA1.take (hA1.take hA1.nil rfl) rfl) rfl) rfl), hS, E_w', huo3_3_6, huo3_7_6⟩, _, rfl, fun u hu => by cases hu <;> rfl⟩
    intro fa w9 hΦ hF hC
    obtain ⟨Ao3_3_4, co3_3_5, Ao3_7_4, co3_7_5, hA, hS, E_w9, huo3_3_6, huo3_7_6⟩ := hΦ
    replace hF := hF.cons (hA.get 4 _ rfl)
    replace hF := hF.cons (hA.get 5 _ rfl)
    clear hA hC
    refine x_tn ?_
    refine c_ret ?_
    refine x_tr ?_
    refine end2 hF rfl (res_tmp hF rfl) (res_tmp hF rfl) ?_
    exact ⟨_, rfl, ⟨_, _, rfl, (UL.fin (L := (lim ((val a) / (val b)))) ⟨_, _, _, rfl, (rfl), huo3_3_6⟩ (rfl) (fun x hx => by simp [hx])), (UL.fin (L := (lim ((val a) % (val b)))) ⟨_, _, _, rfl, (rfl), huo3_7_6⟩ (rfl) (fun x hx => by simp [hx]))⟩, hS.below⟩
   have hc2p : ¬ (((b.length : Nat) : Int) ≤ 2) := by first | simpa using hc2 | exact bang_t hc2 | exact bang_f hc2
   refine c_skip ?_
   refine x_tn ?_
   exact ⟨(hF.take (hF.take hF.nil rfl) rfl), rfl, (by omega)⟩
  replace hF := hF.cons (t := 24) (v := .bool false) ((hF.get 24 _ rfl).trans (congrArg Value.bool hg1))
  have hg1p : ¬ (((a.length : Nat) : Int) ≤ 2) := by simpa using hg1
  refine st_skip hF rfl rfl rfl rfl rfl ?_
  clear hF fa; intro fa hF
  refine st_skip hF rfl rfl rfl rfl rfl ?_
  clear hF fa; intro fa hF
  refine st_skip hF rfl rfl rfl rfl rfl ?_
  clear hF fa; intro fa hF
  refine st_val hF rfl rfl rfl (ex_pick (hF.ev rfl) (u := undef) (fun h => by cases h) (fun _ => hF.ev rfl) rfl) ?_
  clear hF fa; intro fa hF
  refine c_nil_then ?_
  refine c_cond hF rfl (fun hc => ?_) (fun hc => ?_)
  ·
   cases hc
  refine c_skip ?_
  refine x_tn ?_
  exact ⟨(hF.take (hF.take hF.nil rfl) rfl), rfl, (by omega)⟩
 clear hF fa
 rintro fa _ ⟨hF, rfl, hbig⟩
 refine c_seq ?_
 have hbt := hcb.1.getD (b.length - 1)
 refine c_reg ?_
 refine st_val hF rfl rfl rfl (ex_move (hF.ev rfl)) ?_
 clear hF fa; intro fa hF
 refine st_val hF rfl rfl rfl (ex_move (hF.ev rfl)) ?_
 clear hF fa; intro fa hF
 refine st_val hF rfl rfl rfl (ex_len TfPA.sls22 (hF.ev rfl)) ?_
 clear hF fa; intro fa hF
 refine st_val hF rfl rfl rfl (ex_sub (hF.ev rfl) (hF.ev rfl) (wi64 (by omega) (by omega))) ?_
 clear hF fa; intro fa hF
 obtain ⟨ad10, hA11, hq12⟩ := hu_b.cl.at_ (us_get (l := b) (i := b.length - 1) (by omega))
 refine st_val hF rfl rfl rfl (ex_idx (j := b.length - 1) TfPA.sl22 (hF.ev rfl) hA11 (hF.ev rfl) (by omega) (by omega)) ?_
 clear hF fa; intro fa hF
 refine st_val hF rfl rfl rfl (ex_load1 TfPA.one46 (hF.ev rfl) hq12) ?_
 clear hF fa; intro fa hF
 refine st_val hF rfl rfl rfl (ex_conv TfPA.unds46 TfPA.und54 (hF.ev rfl) (wu64n (by omega))) ?_
 clear hF fa; intro fa hF
 refine st_val hF rfl rfl rfl (ex_add (hF.ev rfl) (hF.ev rfl) (wu64 (by omega) (by omega))) ?_
 clear hF fa; intro fa hF
 refine st_val hF rfl rfl rfl (ex_quo (hF.ev rfl) (hF.ev rfl) (by omega) (q_u64 (x := 1000000000) (y := (b.getD (b.length - 1) 0) + 1) (by omega) (by omega) (by omega))) ?_
 clear hF fa; intro fa hF
 refine st_val hF rfl rfl rfl (ex_conv TfPA.unds54 TfPA.und46 (hF.ev rfl) (wu32n (by have := Nat.div_le_self 1000000000 (b.getD (b.length - 1) 0 + 1); omega))) ?_
 clear hF fa; intro fa hF
 refine st_val hF rfl rfl rfl (ex_assign (hF.ev rfl)) ?_
 clear hF fa; intro fa hF
 refine c_nil_then ?_
 refine c_seq ?_
 obtain ⟨sc, hsc⟩ : ∃ sc, sc = 1000000000 / (b.getD (b.length - 1) 0 + 1) := ⟨_, rfl⟩
 rw [← hsc] at hF
 have hscB := scale_lt hcb rfl hbn hsc
 obtain ⟨hsc0, _, hvn, hvtop, hvP⟩ := scale_law (v := (lim (val b * sc))) hcb rfl hbn hsc (CanL.lim _) (by rw [val_lim])
 have hvL := fun i => (lb_lim (val b * sc)).getD i; have huL := fun i => (lb_lim (val a * sc)).getD i
 have hVp : 0 < (val b * sc) := Nat.mul_pos hpos hsc0
 have hlu := scaled_len (a := val a) hscB; rw [hca.eq] at hlu
 refine c_reg ?_
 refine st_val hF rfl rfl rfl (ex_move (hF.ev rfl)) ?_
 clear hF fa; intro fa hF
 refine st_val hF rfl rfl rfl (ex_move (hF.ev rfl)) ?_
 clear hF fa; intro fa hF
 have hC := ref01_by_ok (w := w) (X := X) (a := b) (hS.bnd hX) ⟨_, (b.length), _, rfl, (rfl), hu_b⟩ (sc) (by omega) (hcb.1) (hscB)
 rw [show (lim (val b * sc)) = (lim (val b * sc)) from rfl] at hC
 refine st rfl (op_call hF rfl TfPA.body63 (args2 (hF.ev rfl) (hF.ev (ev_int (b := ((sc : Nat) : Int)) rfl (by first | rfl | omega)))) hC ?_)
 clear hC
 rintro _ w13 ⟨⟨A16, _, c17, rfl, rfl, hu18⟩, hb14⟩
 refine gen_ ?_; clear hF fa; intro fa hF
 replace hS := hS.call hb14; have E15 := Ext.call X hb14
 refine st_val hF rfl rfl rfl (ex_assign (hF.ev rfl)) ?_
 clear hF fa; intro fa hF
 replace hF : Frm 173 fa [(0, (.slice (A_a) (a.length) (c_a))), (1, (.slice (A_b) (b.length) (c_b))), (8, (.int .u32 (((sc : Nat) : Int)))), (9, (.slice (A16) (((lim (val b * sc))).length) (c17)))] := (hF.take (hF.take (hF.take (hF.take hF.nil rfl) rfl) rfl) rfl)
 refine c_nil_then ?_
 refine c_seq ?_
 rw [← hvn] at hvtop
 have hvt := hvL ((lim (val b * sc)).length - 1)
 refine c_reg ?_
 refine st_val hF rfl rfl rfl (ex_move (hF.ev rfl)) ?_
 clear hF fa; intro fa hF
 refine st_val hF rfl rfl rfl (ex_move (hF.ev rfl)) ?_
 clear hF fa; intro fa hF
 refine st_val hF rfl rfl rfl (ex_len TfPA.sls22 (hF.ev rfl)) ?_
 clear hF fa; intro fa hF
 refine st_val hF rfl rfl rfl (ex_sub (hF.ev rfl) (hF.ev rfl) (wi64 (by omega) (by omega))) ?_
 clear hF fa; intro fa hF
 obtain ⟨ad19, hA20, hq21⟩ := hu18.cl.at_ (us_get (l := ((lim (val b * sc)))) (i := (lim (val b * sc)).length - 1) (by omega))
 refine st_val hF rfl rfl rfl (ex_idx (j := (lim (val b * sc)).length - 1) TfPA.sl22 (hF.ev rfl) hA20 (hF.ev rfl) (by omega) (by omega)) ?_
 clear hF fa; intro fa hF
 refine st_val hF rfl rfl rfl (ex_load1 TfPA.one46 (hF.ev rfl) hq21) ?_
 clear hF fa; intro fa hF
 refine st_val hF rfl rfl rfl (ex_conv TfPA.unds46 TfPA.und54 (hF.ev rfl) (wu64n (by omega))) ?_
 clear hF fa; intro fa hF
 refine st_val hF rfl rfl rfl (ex_assign (hF.ev rfl)) ?_
 clear hF fa; intro fa hF
 refine c_nil_then ?_
 refine c_seq ?_
 refine c_reg ?_
 refine st_val hF rfl rfl rfl (ex_assign (hF.ev rfl)) ?_
 clear hF fa; intro fa hF
 refine c_nil_then ?_
 refine c_seq ?_
 refine c_reg ?_
 refine st_val hF rfl rfl rfl (ex_move (hF.ev rfl)) ?_
 clear hF fa; intro fa hF
 refine st_val hF rfl rfl rfl (ex_len TfPA.sls22 (hF.ev rfl)) ?_
 clear hF fa; intro fa hF
 refine st_val hF rfl rfl rfl (ex_add (hF.ev rfl) (hF.ev rfl) (wi64 (by omega) (by omega))) ?_
 clear hF fa; intro fa hF
 refine st rfl (op_make (X := X) (nl := a.length + 1) (nc := a.length + 1) hF hS rfl TfPA.sl22 TfPA.el46 rfl rfl (by omega) (by omega) (by omega) (by omega) (by omega) (made_us _) ?_)
 intro g22 w23 hg25 hS E24; refine gen_ ?_; clear hF fa; intro fa hF
 replace hS : St w w23 [(g22, 46, (us (List.replicate ((a.length + 1) * 1) 0)).toArray)] := hS
 rw [Nat.mul_one] at hS
 refine st_val hF rfl rfl rfl (ex_assign (hF.ev rfl)) ?_
 clear hF fa; intro fa hF
 refine c_nil_then ?_
 refine c_seq ?_
 refine c_reg ?_
 refine st_val hF rfl rfl rfl (ex_move (hF.ev rfl)) ?_
 clear hF fa; intro fa hF
 refine st_val hF rfl rfl rfl (ex_move (hF.ev rfl)) ?_
 clear hF fa; intro fa hF
 have hC := ref01_by_ok (w := w23) (X := (g22 :: X)) (a := a) (hS.bnd hX) ⟨_, (a.length), _, rfl, (rfl), (hu_a.ext (E15.trans E24))⟩ (sc) (by omega) (hca.1) (hscB)
 rw [show (lim (val a * sc)) = (lim (val a * sc)) from rfl] at hC
 refine st rfl (op_call hF rfl TfPA.body63 (args2 (hF.ev rfl) (hF.ev (ev_int (b := ((sc : Nat) : Int)) rfl (by first | rfl | omega)))) hC ?_)
 clear hC
 rintro _ w26 ⟨⟨A29, _, c30, rfl, rfl, hu31⟩, hb27⟩
 refine gen_ ?_; clear hF fa; intro fa hF
 replace hS := hS.call hb27; have E28 := Ext.call (g22 :: X) hb27
 refine st_val hF rfl rfl rfl (ex_assign (hF.ev rfl)) ?_
 clear hF fa; intro fa hF
 replace hF : Frm 173 fa [(0, (.slice (A_a) (a.length) (c_a))), (1, (.slice (A_b) (b.length) (c_b))), (8, (.int .u32 (((sc : Nat) : Int)))), (9, (.slice (A16) (((lim (val b * sc))).length) (c17))), (10, (.int .u64 (((((lim (val b * sc))).getD ((lim (val b * sc)).length - 1) 0 : Nat) : Int)))), (11, (.slice (none) (0) (0))), (12, (.slice (some ⟨g22, 0, none⟩) (a.length + 1) (a.length + 1))), (13, (.slice (A29) (((lim (val a * sc))).length) (c30)))] := (hF.take (hF.take (hF.take (hF.take (hF.take (hF.take (hF.take (hF.take hF.nil rfl) rfl) rfl) rfl) rfl) rfl) rfl) rfl)
 refine c_nil_then ?_
 refine c_seq ?_
 refine c_reg ?_
 refine st_val hF rfl rfl rfl (ex_move (hF.ev rfl)) ?_
 clear hF fa; intro fa hF
 refine st_val hF rfl rfl rfl (ex_move (hF.ev rfl)) ?_
 clear hF fa; intro fa hF
 refine st_val hF rfl rfl rfl (ex_len TfPA.sls22 (hF.ev rfl)) ?_
 clear hF fa; intro fa hF
 refine st_val hF rfl rfl rfl (ex_slice_h (j := ((lim (val a * sc))).length) TfPA.sl22 (hF.ev rfl) (hF.ev rfl) (by omega) (by omega)) ?_
 clear hF fa; intro fa hF
 refine st_val hF rfl rfl rfl (ex_assign (hF.ev rfl)) ?_
 clear hF fa; intro fa hF
 refine c_nil_then ?_
 refine c_seq ?_
 refine c_seq ?_
 refine c_reg ?_
 refine st_val hF rfl rfl rfl (ex_move (hF.ev rfl)) ?_
 clear hF fa; intro fa hF
 refine st_val hF rfl rfl rfl (ex_len TfPA.sls22 (hF.ev rfl)) ?_
 clear hF fa; intro fa hF
 refine st_val hF rfl rfl rfl (ex_sub (hF.ev rfl) (hF.ev rfl) (wi64 (by omega) (by omega))) ?_
 clear hF fa; intro fa hF
 refine st_val hF rfl rfl rfl (ex_assign (hF.ev rfl)) ?_
 clear hF fa; intro fa hF
 refine c_nil_then ?_
 refine c_block ?_
 refine c_loop (fun mu fa w' => ∃ o : List Nat, ∃ R : Nat, ∃ j : Nat, ∃ Ar : Option Addr, ∃ cr : Nat, Frm 173 fa [(0, (.slice (A_a) (a.length) (c_a))), (1, (.slice (A_b) (b.length) (c_b))), (8, (.int .u32 (((sc : Nat) : Int)))), (9, (.slice (A16) (((lim (val b * sc))).length) (c17))), (10, (.int .u64 (((((lim (val b * sc))).getD ((lim (val b * sc)).length - 1) 0 : Nat) : Int)))), (12, (.slice (some ⟨g22, 0, none⟩) (((lim (val a * sc))).length) (a.length + 1))), (13, (.slice (A29) (((lim (val a * sc))).length) (c30))), (14, (.int .i64 (((j : Nat) : Int) - 1))), (11, (.slice (Ar) ((lim (R)).length) (cr)))] ∧ St w w' [(g22, 46, (us (o)).toArray)] ∧ Ext w26 (g22 :: X) w' (g22 :: X) ∧ UC w' (g22 :: X) Ar cr (lim (R)) ∧ (j ≤ (lim (val a * sc)).length) ∧ (o.length = a.length + 1) ∧ (Lb o) ∧ (val (o.drop (lim (val a * sc)).length) = 0) ∧ (val ((lim (val a * sc)).drop j) = (val b * sc) * val (o.drop j) + R) ∧ (R < (val b * sc)) ∧ j = mu) ?_ ?_
 ·
  exact ⟨_, List.replicate (a.length + 1) 0, 0, (lim (val a * sc)).length, none, 0, (hF.take (hF.take (hF.take (hF.take (hF.take (hF.take (hF.take (hF.take (hF.take hF.nil (lk_slice rfl (by first | omega | (rw [lim_zero]; rfl)))) (lk_int rfl (by omega))) rfl) rfl) rfl) rfl) rfl) rfl) rfl), hS, Ext.refl _ _, (by rw [lim_zero]; exact UC.nil (by omega)), (Nat.le_refl _), (by simp), (lb_zeros _), (by simp [val_zeros]), (by rw [val_drop_all (Nat.le_refl _)]; simp [val_zeros]), (hVp), rfl⟩
 clear hF fa; intro n0_ fa w' hI
 clear hS
 obtain ⟨o, R, j, Ar, cr, hF, hS, E33, hr, hj, hol, hbo, hz, hI, hR, rfl⟩ := hI
 rename World => w32
 refine c_seq ?_
 refine c_seq ?_
 refine c_reg ?_
 refine st_val hF rfl rfl rfl (ex_move (hF.ev rfl)) ?_
 clear hF fa; intro fa hF
 refine st_val hF rfl rfl rfl (ex_geq (hF.ev rfl) (hF.ev rfl)) ?_
 clear hF fa; intro fa hF
 refine c_nil_then ?_
 refine c_cond hF rfl (fun hc34 => ?_) (fun hc34 => ?_)
 ·
  have hc34p : (((j : Nat) : Int) - 1) ≥ 0 := by first | simpa using hc34 | exact bang_t hc34 | exact bang_f hc34
  refine c_skip ?_
  refine x_tn ?_
  refine c_seq ?_
  refine c_block ?_
  refine c_seq ?_
  have hxu := huL (j - 1)
  have hR2 := parts_head hxu hR
  have hR2l := lim_len_mul hR2; have hRl := lim_le_of_le (Nat.le_of_lt hR)
  have hra := (lb_lim ((lim (val a * sc)).getD (j - 1) 0 + 1000000000 * R)).getD (lim (val b * sc)).length; have hrb := (lb_lim ((lim (val a * sc)).getD (j - 1) 0 + 1000000000 * R)).getD ((lim (val b * sc)).length - 1)
  refine c_reg ?_
  refine st_val hF rfl rfl rfl (ex_move (hF.ev rfl)) ?_
  clear hF fa; intro fa hF
  refine st_val hF rfl rfl rfl (ex_move (hF.ev rfl)) ?_
  clear hF fa; intro fa hF
  obtain ⟨ad35, hA36, hq37⟩ := (hu31.ext E33).cl.at_ (us_get (l := ((lim (val a * sc)))) (i := j - 1) (by omega))
  refine st_val hF rfl rfl rfl (ex_idx (j := j - 1) TfPA.sl22 (hF.ev rfl) hA36 (hF.ev rfl) (by omega) (by omega)) ?_
  clear hF fa; intro fa hF
  refine st_val hF rfl rfl rfl (ex_load1 TfPA.one46 (hF.ev rfl) hq37) ?_
  clear hF fa; intro fa hF
  refine st rfl (op_lit_own (X := (g22 :: X)) hF hS rfl TfPA.sl22 TfPA.el46 rfl rfl (lits1 (hF.ev (ev_int (b := ((((lim (val a * sc))).getD (j - 1) 0 : Nat) : Int)) rfl (by omega)))) (fill_u1 (x := ((lim (val a * sc))).getD (j - 1) 0)) ?_)
  intro g38 w39 hg41 hS E40; refine gen_ ?_; clear hF fa; intro fa hF
  replace hS : St w w39 [(g38, 46, (us ([((lim (val a * sc))).getD (j - 1) 0])).toArray), (g22, 46, (us (o)).toArray)] := hS
  refine st_val hF rfl rfl rfl (ex_move (hF.ev rfl)) ?_
  clear hF fa; intro fa hF
  replace hS : St w w39 [(g22, 46, (us (o)).toArray), (g38, 46, (us ([((lim (val a * sc))).getD (j - 1) 0])).toArray)] := hS.perm (List.Perm.swap _ _ _)
  have E49 : Ext w39 (g38 :: (g22 :: X)) w39 (g22 :: (g38 :: X)) := Ext.drop (by simp +contextual)
  refine st rfl (op_append (X := X) (F := [(g22, 46, (us (o)).toArray)]) (So := [(g38, 46, (us ([((lim (val a * sc))).getD (j - 1) 0])).toArray)]) (l := us ([((lim (val a * sc))).getD (j - 1) 0])) (m := us ((lim (R)))) hF hS rfl TfPA.sl22 TfPA.el46 rfl rfl rfl (by simp) (OwV.full 46 g38 ([((lim (val a * sc))).getD (j - 1) 0]) (1) (1) (by first | rfl | (simp; done) | omega) (by first | rfl | (simp; done) | omega) (by simp)) (hr.ext (E40.trans E49)).cl (us_one _) (by first | (simp; done) | (simp; omega)) (by first | (simp; done) | (simp; omega)) ?_)
  intro v43 So44 w45 hO46 hS E47 hun48; refine gen_ ?_; clear hF fa; intro fa hF
  clear hun48
  rw [← us_append] at hO46
  replace E47 : Ext w39 (g22 :: (g38 :: X)) w45 (g22 :: (bl So44 ++ X)) := E47
  replace hS : St w w45 ([(g22, 46, (us (o)).toArray)] ++ So44) := hS
  obtain ⟨A50, c51, hv53, hu52⟩ := UC.thaw (F := [(g22, 46, (us (o)).toArray)]) hO46 hS hX
  subst hv53
  have E54 : Ext w45 (g22 :: (bl So44 ++ X)) w45 (g22 :: X) := Ext.drop (by simp +contextual)
  replace hu52 : UC w45 (g22 :: X) A50 c51 (([((lim (val a * sc))).getD (j - 1) 0]) ++ (lim (R))) := hu52
  replace hS : St w w45 [(g22, 46, (us (o)).toArray)] := hS.drop (List.sublist_append_left _ _)
  have hC := ref01_trim_ok (w := w45) (X := (g22 :: X)) (l := (([((lim (val a * sc))).getD (j - 1) 0]) ++ (lim (R)))) (hS.bnd hX) ⟨_, ((([((lim (val a * sc))).getD (j - 1) 0]) ++ (lim (R))).length), _, rfl, (rfl), hu52⟩
  rw [show (trimz (([((lim (val a * sc))).getD (j - 1) 0]) ++ (lim (R)))) = (lim ((lim (val a * sc)).getD (j - 1) 0 + 1000000000 * R)) from trimz_cons _ _ hxu] at hC
  refine st rfl (op_call hF rfl TfPA.body43 (args1 (hF.ev rfl)) hC ?_)
  clear hC
  rintro _ w55 ⟨⟨A58, _, c59, rfl, rfl, hu60⟩, hb56⟩
  refine gen_ ?_; clear hF fa; intro fa hF
  replace hS := hS.call hb56; have E57 := Ext.call (g22 :: X) hb56
  refine st_val hF rfl rfl rfl (ex_assign (hF.ev rfl)) ?_
  clear hF fa; intro fa hF
  replace hF : Frm 173 fa [(0, (.slice (A_a) (a.length) (c_a))), (1, (.slice (A_b) (b.length) (c_b))), (8, (.int .u32 (((sc : Nat) : Int)))), (9, (.slice (A16) (((lim (val b * sc))).length) (c17))), (10, (.int .u64 (((((lim (val b * sc))).getD ((lim (val b * sc)).length - 1) 0 : Nat) : Int)))), (12, (.slice (some ⟨g22, 0, none⟩) (((lim (val a * sc))).length) (a.length + 1))), (13, (.slice (A29) (((lim (val a * sc))).length) (c30))), (14, (.int .i64 (((j : Nat) : Int) - 1))), (11, (.slice (A58) (((lim ((lim (val a * sc)).getD (j - 1) 0 + 1000000000 * R))).length) (c59))), (76, (.bool (decide ((((j : Nat) : Int) - 1) ≥ 0))))] := (hF.take (hF.take (hF.take (hF.take (hF.take (hF.take (hF.take (hF.take (hF.take (hF.take hF.nil rfl) rfl) rfl) rfl) rfl) rfl) rfl) rfl) rfl) rfl)
  refine c_nil_then ?_
  refine c_seq ?_
  refine c_reg ?_
  refine st_val hF rfl rfl rfl (ex_assign (hF.ev rfl)) ?_
  clear hF fa; intro fa hF
  refine c_nil_then ?_
  refine c_cut (fun fa w' => ∃ h1 : Nat, Frm 173 fa [(0, (.slice (A_a) (a.length) (c_a))), (1, (.slice (A_b) (b.length) (c_b))), (8, (.int .u32 (((sc : Nat) : Int)))), (9, (.slice (A16) (((lim (val b * sc))).length) (c17))), (10, (.int .u64 (((((lim (val b * sc))).getD ((lim (val b * sc)).length - 1) 0 : Nat) : Int)))), (12, (.slice (some ⟨g22, 0, none⟩) (((lim (val a * sc))).length) (a.length + 1))), (13, (.slice (A29) (((lim (val a * sc))).length) (c30))), (14, (.int .i64 (((j : Nat) : Int) - 1))), (11, (.slice (A58) (((lim ((lim (val a * sc)).getD (j - 1) 0 + 1000000000 * R))).length) (c59))), (76, (.bool (decide ((((j : Nat) : Int) - 1) ≥ 0)))), (15, (.int .u64 (((h1 : Nat) : Int))))] ∧ w55 = w' ∧ (h1 = (lim ((lim (val a * sc)).getD (j - 1) 0 + 1000000000 * R)).getD (lim (val b * sc)).length 0 * 1000000000)) ?_ ?_
  ·
   refine c_seq ?_
   refine c_reg ?_
   refine st_val hF rfl rfl rfl (ex_move (hF.ev rfl)) ?_
   clear hF fa; intro fa hF
   refine st_val hF rfl rfl rfl (ex_len TfPA.sls22 (hF.ev rfl)) ?_
   clear hF fa; intro fa hF
   refine st_val hF rfl rfl rfl (ex_move (hF.ev rfl)) ?_
   clear hF fa; intro fa hF
   refine st_val hF rfl rfl rfl (ex_len TfPA.sls22 (hF.ev rfl)) ?_
   clear hF fa; intro fa hF
   refine st_val hF rfl rfl rfl (ex_gtr (hF.ev rfl) (hF.ev rfl)) ?_
   clear hF fa; intro fa hF
   refine c_nil_then ?_
   refine c_cond hF rfl (fun hc61 => ?_) (fun hc61 => ?_)
   ·
    have hc61p : ((((lim ((lim (val a * sc)).getD (j - 1) 0 + 1000000000 * R))).length : Nat) : Int) > ((((lim (val b * sc))).length : Nat) : Int) := by first | simpa using hc61 | exact bang_t hc61 | exact bang_f hc61
    refine c_reg ?_
    refine st_val hF rfl rfl rfl (ex_move (hF.ev rfl)) ?_
    clear hF fa; intro fa hF
    refine st_val hF rfl rfl rfl (ex_move (hF.ev rfl)) ?_
    clear hF fa; intro fa hF
    refine st_val hF rfl rfl rfl (ex_len TfPA.sls22 (hF.ev rfl)) ?_
    clear hF fa; intro fa hF
    obtain ⟨ad62, hA63, hq64⟩ := hu60.cl.at_ (us_get (l := ((lim ((lim (val a * sc)).getD (j - 1) 0 + 1000000000 * R)))) (i := (lim (val b * sc)).length) (by omega))
    refine st_val hF rfl rfl rfl (ex_idx (j := (lim (val b * sc)).length) TfPA.sl22 (hF.ev rfl) hA63 (hF.ev rfl) (by omega) (by omega)) ?_
    clear hF fa; intro fa hF
    refine st_val hF rfl rfl rfl (ex_load1 TfPA.one46 (hF.ev rfl) hq64) ?_
    clear hF fa; intro fa hF
    refine st_val hF rfl rfl rfl (ex_conv TfPA.unds46 TfPA.und54 (hF.ev rfl) (wu64n (by omega))) ?_
    clear hF fa; intro fa hF
    refine st_val hF rfl rfl rfl (ex_mul (hF.ev rfl) (hF.ev rfl) (wu64 (by omega) (by omega))) ?_
    clear hF fa; intro fa hF
    refine st_val hF rfl rfl rfl (ex_assign (hF.ev rfl)) ?_
    clear hF fa; intro fa hF
    refine c_nil ?_
    refine x_tn ?_
    exact ⟨((((lim ((lim (val a * sc)).getD (j - 1) 0 + 1000000000 * R))).getD ((lim (val b * sc)).length) 0) * 1000000000), (hF.take (hF.take (hF.take (hF.take (hF.take (hF.take (hF.take (hF.take (hF.take (hF.take (hF.take hF.nil (lk_int rfl (by omega))) rfl) rfl) rfl) rfl) rfl) rfl) rfl) rfl) rfl) rfl), rfl, (rfl)⟩
   have hc61p : ¬ (((((lim ((lim (val a * sc)).getD (j - 1) 0 + 1000000000 * R))).length : Nat) : Int) > ((((lim (val b * sc))).length : Nat) : Int)) := by first | simpa using hc61 | exact bang_t hc61 | exact bang_f hc61
   have hge0 := getD_none (l := (lim ((lim (val a * sc)).getD (j - 1) 0 + 1000000000 * R))) (k := (lim (val b * sc)).length) (by omega)
   refine c_skip ?_
   refine x_tn ?_
   exact ⟨(0), (hF.take (hF.take (hF.take (hF.take (hF.take (hF.take (hF.take (hF.take (hF.take (hF.take (hF.take hF.nil (lk_int rfl (by omega))) rfl) rfl) rfl) rfl) rfl) rfl) rfl) rfl) rfl) rfl), rfl, (by rw [hge0, Nat.zero_mul])⟩
  clear hF fa
  rintro fa _ ⟨h1, hF, rfl, hh1⟩
  refine c_cut (fun fa w' => ∃ h2 : Nat, Frm 173 fa [(0, (.slice (A_a) (a.length) (c_a))), (1, (.slice (A_b) (b.length) (c_b))), (8, (.int .u32 (((sc : Nat) : Int)))), (9, (.slice (A16) (((lim (val b * sc))).length) (c17))), (10, (.int .u64 (((((lim (val b * sc))).getD ((lim (val b * sc)).length - 1) 0 : Nat) : Int)))), (12, (.slice (some ⟨g22, 0, none⟩) (((lim (val a * sc))).length) (a.length + 1))), (13, (.slice (A29) (((lim (val a * sc))).length) (c30))), (14, (.int .i64 (((j : Nat) : Int) - 1))), (11, (.slice (A58) (((lim ((lim (val a * sc)).getD (j - 1) 0 + 1000000000 * R))).length) (c59))), (76, (.bool (decide ((((j : Nat) : Int) - 1) ≥ 0)))), (15, (.int .u64 (((h2 : Nat) : Int))))] ∧ w55 = w' ∧ (h2 = (lim ((lim (val a * sc)).getD (j - 1) 0 + 1000000000 * R)).getD (lim (val b * sc)).length 0 * 1000000000 + (lim ((lim (val a * sc)).getD (j - 1) 0 + 1000000000 * R)).getD ((lim (val b * sc)).length - 1) 0)) ?_ ?_
  ·
   refine c_seq ?_
   refine c_reg ?_
   refine st_val hF rfl rfl rfl (ex_move (hF.ev rfl)) ?_
   clear hF fa; intro fa hF
   refine st_val hF rfl rfl rfl (ex_len TfPA.sls22 (hF.ev rfl)) ?_
   clear hF fa; intro fa hF
   refine st_val hF rfl rfl rfl (ex_move (hF.ev rfl)) ?_
   clear hF fa; intro fa hF
   refine st_val hF rfl rfl rfl (ex_len TfPA.sls22 (hF.ev rfl)) ?_
   clear hF fa; intro fa hF
   refine st_val hF rfl rfl rfl (ex_geq (hF.ev rfl) (hF.ev rfl)) ?_
   clear hF fa; intro fa hF
   refine c_nil_then ?_
   refine c_cond hF rfl (fun hc65 => ?_) (fun hc65 => ?_)
   ·
    have hc65p : ((((lim ((lim (val a * sc)).getD (j - 1) 0 + 1000000000 * R))).length : Nat) : Int) ≥ ((((lim (val b * sc))).length : Nat) : Int) := by first | simpa using hc65 | exact bang_t hc65 | exact bang_f hc65
    refine c_reg ?_
    refine st_val hF rfl rfl rfl (ex_move (hF.ev rfl)) ?_
    clear hF fa; intro fa hF
    refine st_val hF rfl rfl rfl (ex_move (hF.ev rfl)) ?_
    clear hF fa; intro fa hF
    refine st_val hF rfl rfl rfl (ex_move (hF.ev rfl)) ?_
    clear hF fa; intro fa hF
    refine st_val hF rfl rfl rfl (ex_len TfPA.sls22 (hF.ev rfl)) ?_
    clear hF fa; intro fa hF
    refine st_val hF rfl rfl rfl (ex_sub (hF.ev rfl) (hF.ev rfl) (wi64 (by omega) (by omega))) ?_
    clear hF fa; intro fa hF
    obtain ⟨ad66, hA67, hq68⟩ := hu60.cl.at_ (us_get (l := ((lim ((lim (val a * sc)).getD (j - 1) 0 + 1000000000 * R)))) (i := (lim (val b * sc)).length - 1) (by omega))
    refine st_val hF rfl rfl rfl (ex_idx (j := (lim (val b * sc)).length - 1) TfPA.sl22 (hF.ev rfl) hA67 (hF.ev rfl) (by omega) (by omega)) ?_
    clear hF fa; intro fa hF
    refine st_val hF rfl rfl rfl (ex_load1 TfPA.one46 (hF.ev rfl) hq68) ?_
    clear hF fa; intro fa hF
    refine st_val hF rfl rfl rfl (ex_conv TfPA.unds46 TfPA.und54 (hF.ev rfl) (wu64n (by omega))) ?_
    clear hF fa; intro fa hF
    refine st_val hF rfl rfl rfl (ex_add (hF.ev rfl) (hF.ev rfl) (wu64 (by omega) (by omega))) ?_
    clear hF fa; intro fa hF
    refine st_val hF rfl rfl rfl (ex_assign (hF.ev rfl)) ?_
    clear hF fa; intro fa hF
    replace hF : Frm 173 fa [(0, (.slice (A_a) (a.length) (c_a))), (1, (.slice (A_b) (b.length) (c_b))), (8, (.int .u32 (((sc : Nat) : Int)))), (9, (.slice (A16) (((lim (val b * sc))).length) (c17))), (10, (.int .u64 (((((lim (val b * sc))).getD ((lim (val b * sc)).length - 1) 0 : Nat) : Int)))), (12, (.slice (some ⟨g22, 0, none⟩) (((lim (val a * sc))).length) (a.length + 1))), (13, (.slice (A29) (((lim (val a * sc))).length) (c30))), (14, (.int .i64 (((j : Nat) : Int) - 1))), (11, (.slice (A58) (((lim ((lim (val a * sc)).getD (j - 1) 0 + 1000000000 * R))).length) (c59))), (76, (.bool (decide ((((j : Nat) : Int) - 1) ≥ 0)))), (15, (.int .u64 (((h1 : Nat) : Int) + ((((lim ((lim (val a * sc)).getD (j - 1) 0 + 1000000000 * R))).getD ((lim (val b * sc)).length - 1) 0 : Nat) : Int)))), (103, (.bool (decide (((((lim ((lim (val a * sc)).getD (j - 1) 0 + 1000000000 * R))).length : Nat) : Int) ≥ ((((lim (val b * sc))).length : Nat) : Int)))))] := (hF.take (hF.take (hF.take (hF.take (hF.take (hF.take (hF.take (hF.take (hF.take (hF.take (hF.take (hF.take hF.nil rfl) rfl) rfl) rfl) rfl) rfl) rfl) rfl) rfl) rfl) rfl) rfl)
    refine c_nil ?_
    refine x_tn ?_
    exact ⟨(h1 + (((lim ((lim (val a * sc)).getD (j - 1) 0 + 1000000000 * R))).getD ((lim (val b * sc)).length - 1) 0)), (hF.take (hF.take (hF.take (hF.take (hF.take (hF.take (hF.take (hF.take (hF.take (hF.take (hF.take hF.nil (lk_int rfl (by omega))) rfl) rfl) rfl) rfl) rfl) rfl) rfl) rfl) rfl) rfl), rfl, (by rw [hh1])⟩
   have hc65p : ¬ (((((lim ((lim (val a * sc)).getD (j - 1) 0 + 1000000000 * R))).length : Nat) : Int) ≥ ((((lim (val b * sc))).length : Nat) : Int)) := by first | simpa using hc65 | exact bang_t hc65 | exact bang_f hc65
   have hge1 := getD_none (l := (lim ((lim (val a * sc)).getD (j - 1) 0 + 1000000000 * R))) (k := (lim (val b * sc)).length - 1) (by omega)
   refine c_skip ?_
   refine x_tn ?_
   exact ⟨(h1), (hF.take (hF.take (hF.take (hF.take (hF.take (hF.take (hF.take (hF.take (hF.take (hF.take (hF.take hF.nil (lk_int rfl (by omega))) rfl) rfl) rfl) rfl) rfl) rfl) rfl) rfl) rfl) rfl), rfl, (by rw [hh1, hge1, Nat.add_zero])⟩
  clear hF fa
  rintro fa _ ⟨h2, hF, rfl, hh2⟩
  refine c_seq ?_
  obtain ⟨hdge, hdh⟩ := digit_ge (V := (val b * sc)) (n := (lim (val b * sc)).length) rfl rfl (by omega) (top := (lim (val b * sc)).getD ((lim (val b * sc)).length - 1) 0) rfl hR2 (by omega)
  rw [← hh2] at hdge hdh
  refine c_reg ?_
  refine st_val hF rfl rfl rfl (ex_move (hF.ev rfl)) ?_
  clear hF fa; intro fa hF
  refine st_val hF rfl rfl rfl (ex_move (hF.ev rfl)) ?_
  clear hF fa; intro fa hF
  refine st_val hF rfl rfl rfl (ex_quo (hF.ev rfl) (hF.ev rfl) (by omega) (q_u64 (x := h2) (y := ((lim (val b * sc))).getD ((lim (val b * sc)).length - 1) 0) (by omega) (by omega) (by omega))) ?_
  clear hF fa; intro fa hF
  refine st_val hF rfl rfl rfl (ex_assign (hF.ev rfl)) ?_
  clear hF fa; intro fa hF
  refine c_nil_then ?_
  refine c_cut (fun fa w' => ∃ dg : Nat, Frm 173 fa [(0, (.slice (A_a) (a.length) (c_a))), (1, (.slice (A_b) (b.length) (c_b))), (8, (.int .u32 (((sc : Nat) : Int)))), (9, (.slice (A16) (((lim (val b * sc))).length) (c17))), (10, (.int .u64 (((((lim (val b * sc))).getD ((lim (val b * sc)).length - 1) 0 : Nat) : Int)))), (12, (.slice (some ⟨g22, 0, none⟩) (((lim (val a * sc))).length) (a.length + 1))), (13, (.slice (A29) (((lim (val a * sc))).length) (c30))), (14, (.int .i64 (((j : Nat) : Int) - 1))), (11, (.slice (A58) (((lim ((lim (val a * sc)).getD (j - 1) 0 + 1000000000 * R))).length) (c59))), (76, (.bool (decide ((((j : Nat) : Int) - 1) ≥ 0)))), (15, (.int .u64 (((h2 : Nat) : Int)))), (16, (.int .u64 (((dg : Nat) : Int))))] ∧ w55 = w' ∧ (dg ≤ 999999999) ∧ (((lim (val a * sc)).getD (j - 1) 0 + 1000000000 * R) < (dg + 1) * (val b * sc))) ?_ ?_
  ·
   refine c_seq ?_
   refine c_reg ?_
   refine st_val hF rfl rfl rfl (ex_move (hF.ev rfl)) ?_
   clear hF fa; intro fa hF
   refine st_val hF rfl rfl rfl (ex_gtr (hF.ev rfl) (hF.ev rfl)) ?_
   clear hF fa; intro fa hF
   refine c_nil_then ?_
   refine c_cond hF rfl (fun hc69 => ?_) (fun hc69 => ?_)
   ·
    have hc69p : ((h2 / (((lim (val b * sc))).getD ((lim (val b * sc)).length - 1) 0) : Nat) : Int) > 999999999 := by first | simpa using hc69 | exact bang_t hc69 | exact bang_f hc69
    refine c_reg ?_
    refine st_val hF rfl rfl rfl (ex_assign (hF.ev rfl)) ?_
    clear hF fa; intro fa hF
    refine c_nil ?_
    refine x_tn ?_
    exact ⟨999999999, (hF.take (hF.take (hF.take (hF.take (hF.take (hF.take (hF.take (hF.take (hF.take (hF.take (hF.take (hF.take hF.nil (lk_int rfl (by omega))) rfl) rfl) rfl) rfl) rfl) rfl) rfl) rfl) rfl) rfl) rfl), rfl, (by omega), (digit_cap hR2)⟩
   have hc69p : ¬ (((h2 / (((lim (val b * sc))).getD ((lim (val b * sc)).length - 1) 0) : Nat) : Int) > 999999999) := by first | simpa using hc69 | exact bang_t hc69 | exact bang_f hc69
   refine c_skip ?_
   refine x_tn ?_
   exact ⟨h2 / (((lim (val b * sc))).getD ((lim (val b * sc)).length - 1) 0), (hF.take (hF.take (hF.take (hF.take (hF.take (hF.take (hF.take (hF.take (hF.take (hF.take (hF.take (hF.take hF.nil (lk_int rfl (by omega))) rfl) rfl) rfl) rfl) rfl) rfl) rfl) rfl) rfl) rfl) rfl), rfl, (by omega), (hdge)⟩
  clear hF fa
  rintro fa _ ⟨dg, hF, rfl, hdg, hdgR⟩
  refine c_seq ?_
  refine c_reg ?_
  refine st_val hF rfl rfl rfl (ex_move (hF.ev rfl)) ?_
  clear hF fa; intro fa hF
  refine st_val hF rfl rfl rfl (ex_move (hF.ev rfl)) ?_
  clear hF fa; intro fa hF
  refine st_val hF rfl rfl rfl (ex_conv TfPA.unds54 TfPA.und46 (hF.ev rfl) (wu32n (by omega))) ?_
  clear hF fa; intro fa hF
  have hC := ref01_by_ok (w := w55) (X := (g22 :: X)) (a := ((lim (val b * sc)))) (hS.bnd hX) ⟨_, (((lim (val b * sc))).length), _, rfl, (rfl), (hu18.ext (((((((E24.trans E28).trans E33).trans E40).trans E49).trans E47).trans E54).trans E57))⟩ (dg) (by omega) (lb_lim _) (by omega)
  rw [show (lim (val (((lim (val b * sc)))) * dg)) = (lim ((val b * sc) * dg)) from by rw [val_lim]] at hC
  refine st rfl (op_call hF rfl TfPA.body63 (args2 (hF.ev rfl) (hF.ev (ev_int (b := ((dg : Nat) : Int)) rfl (by first | rfl | omega)))) hC ?_)
  clear hC
  rintro _ w70 ⟨⟨A73, _, c74, rfl, rfl, hu75⟩, hb71⟩
  refine gen_ ?_; clear hF fa; intro fa hF
  replace hS := hS.call hb71; have E72 := Ext.call (g22 :: X) hb71
  refine st_val hF rfl rfl rfl (ex_assign (hF.ev rfl)) ?_
  clear hF fa; intro fa hF
  refine c_nil_then ?_
  refine c_seq ?_
  refine c_block ?_
  refine c_loop (fun mu fa w' => ∃ dk : Nat, ∃ Ap : Option Addr, ∃ cp : Nat, Frm 173 fa [(0, (.slice (A_a) (a.length) (c_a))), (1, (.slice (A_b) (b.length) (c_b))), (8, (.int .u32 (((sc : Nat) : Int)))), (9, (.slice (A16) (((lim (val b * sc))).length) (c17))), (10, (.int .u64 (((((lim (val b * sc))).getD ((lim (val b * sc)).length - 1) 0 : Nat) : Int)))), (12, (.slice (some ⟨g22, 0, none⟩) (((lim (val a * sc))).length) (a.length + 1))), (13, (.slice (A29) (((lim (val a * sc))).length) (c30))), (14, (.int .i64 (((j : Nat) : Int) - 1))), (11, (.slice (A58) (((lim ((lim (val a * sc)).getD (j - 1) 0 + 1000000000 * R))).length) (c59))), (76, (.bool (decide ((((j : Nat) : Int) - 1) ≥ 0)))), (15, (.int .u64 (((h2 : Nat) : Int)))), (16, (.int .u64 (((dk : Nat) : Int)))), (17, (.slice (Ap) ((lim ((val b * sc) * dk)).length) (cp)))] ∧ St w w' [(g22, 46, (us (o)).toArray)] ∧ Ext w70 (g22 :: X) w' (g22 :: X) ∧ UC w' (g22 :: X) Ap cp (lim ((val b * sc) * dk)) ∧ (dk ≤ 999999999) ∧ (((lim (val a * sc)).getD (j - 1) 0 + 1000000000 * R) < (dk + 1) * (val b * sc)) ∧ dk = mu) ?_ ?_
  ·
   exact ⟨_, dg, A73, c74, (hF.take (hF.take (hF.take (hF.take (hF.take (hF.take (hF.take (hF.take (hF.take (hF.take (hF.take (hF.take (hF.take hF.nil (lk_slice rfl (by omega))) (lk_int rfl (by omega))) rfl) rfl) rfl) rfl) rfl) rfl) rfl) rfl) rfl) rfl) rfl), hS, Ext.refl _ _, hu75, (hdg), (hdgR), rfl⟩
  clear hF fa; intro n1_ fa w' hI
  clear hS
  obtain ⟨dk, Ap, cp, hF, hS, E77, hp, hdk, hdR, rfl⟩ := hI
  rename World => w76
  refine c_seq ?_
  refine c_seq ?_
  refine c_reg ?_
  refine st_val hF rfl rfl rfl (ex_move (hF.ev rfl)) ?_
  clear hF fa; intro fa hF
  refine st_val hF rfl rfl rfl (ex_move (hF.ev rfl)) ?_
  clear hF fa; intro fa hF
  have hC := ref01_compare_ok (w := w76) (X := (g22 :: X)) (a := (lim ((val b * sc) * dk))) (b := ((lim ((lim (val a * sc)).getD (j - 1) 0 + 1000000000 * R)))) (hS.bnd hX) ⟨_, ((lim ((val b * sc) * dk)).length), _, rfl, (rfl), hp⟩ ⟨_, (((lim ((lim (val a * sc)).getD (j - 1) 0 + 1000000000 * R))).length), _, rfl, (rfl), (hu60.ext (E72.trans E77))⟩ (CanL.lim _) (CanL.lim _)
  refine st rfl (op_call hF rfl TfPA.body42 (args2 (hF.ev rfl) (hF.ev rfl)) hC ?_)
  clear hC
  rintro _ w78 ⟨rfl, hb79⟩
  refine gen_ ?_; clear hF fa; intro fa hF
  replace hS := hS.call hb79; have E80 := Ext.call (g22 :: X) hb79
  refine st_val hF rfl rfl rfl (ex_gtr (hF.ev rfl) (hF.ev rfl)) ?_
  clear hF fa; intro fa hF
  refine c_nil_then ?_
  refine c_cond hF rfl (fun hc81 => ?_) (fun hc81 => ?_)
  ·
   have hc81p : (cmpN (val ((lim ((val b * sc) * dk)))) (val (((lim ((lim (val a * sc)).getD (j - 1) 0 + 1000000000 * R)))))) > 0 := by first | simpa using hc81 | exact bang_t hc81 | exact bang_f hc81
   have hgt := cmpN_gt0.1 hc81p; rw [val_lim, val_lim] at hgt
   have hdp : 0 < dk := by rcases Nat.eq_zero_or_pos dk with h0 | h0; rw [h0, Nat.mul_zero] at hgt; omega; exact h0
   have hVd := parts_dec (V := (val b * sc)) hdp; have hVle : (val b * sc) ≤ (val b * sc) * dk := Nat.le_mul_of_pos_right _ hdp
   refine c_skip ?_
   refine x_tn ?_
   refine c_block ?_
   refine c_seq ?_
   refine c_reg ?_
   refine st_val hF rfl rfl rfl (ex_move (hF.ev rfl)) ?_
   clear hF fa; intro fa hF
   refine st_val hF rfl rfl rfl (ex_sub (hF.ev rfl) (hF.ev rfl) (wu64 (by omega) (by omega))) ?_
   clear hF fa; intro fa hF
   refine st_val hF rfl rfl rfl (ex_assign (hF.ev rfl)) ?_
   clear hF fa; intro fa hF
   replace hF : Frm 173 fa [(0, (.slice (A_a) (a.length) (c_a))), (1, (.slice (A_b) (b.length) (c_b))), (8, (.int .u32 (((sc : Nat) : Int)))), (9, (.slice (A16) (((lim (val b * sc))).length) (c17))), (10, (.int .u64 (((((lim (val b * sc))).getD ((lim (val b * sc)).length - 1) 0 : Nat) : Int)))), (12, (.slice (some ⟨g22, 0, none⟩) (((lim (val a * sc))).length) (a.length + 1))), (13, (.slice (A29) (((lim (val a * sc))).length) (c30))), (14, (.int .i64 (((j : Nat) : Int) - 1))), (11, (.slice (A58) (((lim ((lim (val a * sc)).getD (j - 1) 0 + 1000000000 * R))).length) (c59))), (76, (.bool (decide ((((j : Nat) : Int) - 1) ≥ 0)))), (15, (.int .u64 (((h2 : Nat) : Int)))), (16, (.int .u64 (((dk : Nat) : Int) - 1))), (17, (.slice (Ap) ((lim ((val b * sc) * dk)).length) (cp))), (125, (.bool (decide ((cmpN (val ((lim ((val b * sc) * dk)))) (val (((lim ((lim (val a * sc)).getD (j - 1) 0 + 1000000000 * R)))))) > 0))))] := (hF.take (hF.take (hF.take (hF.take (hF.take (hF.take (hF.take (hF.take (hF.take (hF.take (hF.take (hF.take (hF.take (hF.take hF.nil rfl) rfl) rfl) rfl) rfl) rfl) rfl) rfl) rfl) rfl) rfl) rfl) rfl) rfl)
   refine c_nil_then ?_
   refine c_reg ?_
   refine st_val hF rfl rfl rfl (ex_move (hF.ev rfl)) ?_
   clear hF fa; intro fa hF
   refine st_val hF rfl rfl rfl (ex_move (hF.ev rfl)) ?_
   clear hF fa; intro fa hF
   have hC := ref01_minus_ok (w := w78) (X := (g22 :: X)) (x := (lim ((val b * sc) * dk))) (y := ((lim (val b * sc)))) (hS.bnd hX) ⟨_, ((lim ((val b * sc) * dk)).length), _, rfl, (rfl), (hp.ext E80)⟩ ⟨_, (((lim (val b * sc))).length), _, rfl, (rfl), (hu18.ext ((((((((((E24.trans E28).trans E33).trans E40).trans E49).trans E47).trans E54).trans E57).trans E72).trans E77).trans E80))⟩ (by have := scaled_len (a := (val b * sc)) (s := dk) (by omega); omega) (by omega) (lb_lim _) (lb_lim _) (lim_le_of_le hVle) (by rw [val_lim, val_lim]; exact hVle)
   rw [show (lim (val ((lim ((val b * sc) * dk))) - val (((lim (val b * sc)))))) = (lim ((val b * sc) * (dk - 1))) from by rw [val_lim, val_lim, hVd]] at hC
   refine st rfl (op_call hF rfl TfPA.body47 (args2 (hF.ev rfl) (hF.ev rfl)) hC ?_)
   clear hC
   rintro _ w82 ⟨⟨A85, _, c86, rfl, rfl, hu87⟩, hb83⟩
   refine gen_ ?_; clear hF fa; intro fa hF
   replace hS := hS.call hb83; have E84 := Ext.call (g22 :: X) hb83
   refine st_val hF rfl rfl rfl (ex_assign (hF.ev rfl)) ?_
   clear hF fa; intro fa hF
   refine c_nil ?_
   refine x_bn ?_
   refine x_tn ?_
   exact ⟨_, (by omega), (dk - 1), A85, c86, (hF.take (hF.take (hF.take (hF.take (hF.take (hF.take (hF.take (hF.take (hF.take (hF.take (hF.take (hF.take (hF.take hF.nil (lk_slice rfl (by omega))) (lk_int rfl (by omega))) rfl) rfl) rfl) rfl) rfl) rfl) rfl) rfl) rfl) rfl) rfl), hS, ((E77.trans E80).trans E84), hu87, (by omega), (by rw [Nat.sub_add_cancel hdp]; exact Nat.lt_of_lt_of_eq hgt (Nat.mul_comm _ _)), rfl⟩
  have hc81p : ¬ ((cmpN (val ((lim ((val b * sc) * dk)))) (val (((lim ((lim (val a * sc)).getD (j - 1) 0 + 1000000000 * R)))))) > 0) := by first | simpa using hc81 | exact bang_t hc81 | exact bang_f hc81
  have hle := mt cmpN_gt0.2 hc81p; rw [val_lim, val_lim] at hle
  have hle2 : (val b * sc) * dk ≤ ((lim (val a * sc)).getD (j - 1) 0 + 1000000000 * R) := by omega
  refine c_exit ?_
  refine x_te ?_
  refine x_te ?_
  refine x_bh ?_
  refine x_tn ?_
  refine c_seq ?_
  refine c_reg ?_
  refine st_val hF rfl rfl rfl (ex_move (hF.ev rfl)) ?_
  clear hF fa; intro fa hF
  refine st_val hF rfl rfl rfl (ex_move (hF.ev rfl)) ?_
  clear hF fa; intro fa hF
  have hC := ref01_minus_ok (w := w78) (X := (g22 :: X)) (x := ((lim ((lim (val a * sc)).getD (j - 1) 0 + 1000000000 * R)))) (y := (lim ((val b * sc) * dk))) (hS.bnd hX) ⟨_, (((lim ((lim (val a * sc)).getD (j - 1) 0 + 1000000000 * R))).length), _, rfl, (rfl), (hu60.ext ((E72.trans E77).trans E80))⟩ ⟨_, ((lim ((val b * sc) * dk)).length), _, rfl, (rfl), (hp.ext E80)⟩ (by omega) (by have := lim_le_of_le hle2; omega) (lb_lim _) (lb_lim _) (lim_le_of_le hle2) (by rw [val_lim, val_lim]; exact hle2)
  rw [show (lim (val (((lim ((lim (val a * sc)).getD (j - 1) 0 + 1000000000 * R)))) - val ((lim ((val b * sc) * dk))))) = (lim (((lim (val a * sc)).getD (j - 1) 0 + 1000000000 * R) - (val b * sc) * dk)) from by rw [val_lim, val_lim]] at hC
  refine st rfl (op_call hF rfl TfPA.body47 (args2 (hF.ev rfl) (hF.ev rfl)) hC ?_)
  clear hC
  rintro _ w88 ⟨⟨A91, _, c92, rfl, rfl, hu93⟩, hb89⟩
  refine gen_ ?_; clear hF fa; intro fa hF
  replace hS := hS.call hb89; have E90 := Ext.call (g22 :: X) hb89
  refine st_val hF rfl rfl rfl (ex_assign (hF.ev rfl)) ?_
  clear hF fa; intro fa hF
  replace hF : Frm 173 fa [(0, (.slice (A_a) (a.length) (c_a))), (1, (.slice (A_b) (b.length) (c_b))), (8, (.int .u32 (((sc : Nat) : Int)))), (9, (.slice (A16) (((lim (val b * sc))).length) (c17))), (10, (.int .u64 (((((lim (val b * sc))).getD ((lim (val b * sc)).length - 1) 0 : Nat) : Int)))), (12, (.slice (some ⟨g22, 0, none⟩) (((lim (val a * sc))).length) (a.length + 1))), (13, (.slice (A29) (((lim (val a * sc))).length) (c30))), (14, (.int .i64 (((j : Nat) : Int) - 1))), (11, (.slice (A91) (((lim (((lim (val a * sc)).getD (j - 1) 0 + 1000000000 * R) - (val b * sc) * dk))).length) (c92))), (76, (.bool (decide ((((j : Nat) : Int) - 1) ≥ 0)))), (15, (.int .u64 (((h2 : Nat) : Int)))), (16, (.int .u64 (((dk : Nat) : Int)))), (17, (.slice (Ap) ((lim ((val b * sc) * dk)).length) (cp))), (125, (.bool (decide ((cmpN (val ((lim ((val b * sc) * dk)))) (val (((lim ((lim (val a * sc)).getD (j - 1) 0 + 1000000000 * R)))))) > 0))))] := (hF.take (hF.take (hF.take (hF.take (hF.take (hF.take (hF.take (hF.take (hF.take (hF.take (hF.take (hF.take (hF.take (hF.take hF.nil rfl) rfl) rfl) rfl) rfl) rfl) rfl) rfl) rfl) rfl) rfl) rfl) rfl) rfl)
  refine c_nil_then ?_
  refine c_reg ?_
  refine st_val hF rfl rfl rfl (ex_move (hF.ev rfl)) ?_
  clear hF fa; intro fa hF
  refine st_val hF rfl rfl rfl (ex_move (hF.ev rfl)) ?_
  clear hF fa; intro fa hF
  refine st_val hF rfl rfl rfl (ex_move (hF.ev rfl)) ?_
  clear hF fa; intro fa hF
  refine st_val hF rfl rfl rfl (ex_conv TfPA.unds54 TfPA.und46 (hF.ev rfl) (wu32n (by omega))) ?_
  clear hF fa; intro fa hF
  refine st_val hF rfl rfl rfl (ex_idxo (j := j - 1) TfPA.sl22 (hF.ev rfl) (hF.ev rfl) (by omega) (by omega)) ?_
  clear hF fa; intro fa hF
  refine st rfl (op_store (vs := #[.int .u32 ((dk : Nat) : Int)]) (v := .int .u32 ((dk : Nat) : Int)) (X := (g22 :: X)) hF hS 0 rfl (by simp) rfl (ev_int rfl (by omega)) rfl TfPA.size46 rfl (us_fit (by first | omega | (simp; omega))) ?_)
  intro w94 hS E95
  rw [splice_us (by first | omega | (simp; omega))] at hS
  replace hS : St w w94 [(g22, 46, (us (o.set (j - 1) (dk))).toArray)] := hS
  refine c_nil ?_
  refine x_bn ?_
  refine x_tn ?_
  refine c_reg ?_
  refine st_val hF rfl rfl rfl (ex_move (hF.ev rfl)) ?_
  clear hF fa; intro fa hF
  refine st_val hF rfl rfl rfl (ex_sub (hF.ev rfl) (hF.ev rfl) (wi64 (by omega) (by omega))) ?_
  clear hF fa; intro fa hF
  refine st_val hF rfl rfl rfl (ex_assign (hF.ev rfl)) ?_
  clear hF fa; intro fa hF
  refine c_nil ?_
  refine x_tn ?_
  exact ⟨_, (by omega), o.set (j - 1) (dk), (((lim (val a * sc)).getD (j - 1) 0 + 1000000000 * R) - (val b * sc) * dk), (j - 1), A91, c92, (hF.take (hF.take (hF.take (hF.take (hF.take (hF.take (hF.take (hF.take (hF.take hF.nil (lk_slice rfl (by first | omega | (rw [lim_zero]; rfl)))) (lk_int rfl (by omega))) rfl) rfl) rfl) rfl) rfl) rfl) rfl), hS, ((((((((((E33.trans E40).trans E49).trans E47).trans E54).trans E57).trans E72).trans E77).trans E80).trans E90).trans E95), (hu93.ext E95), (by omega), (by simp; omega), (lb_set hbo (by omega)), (by rw [drop_set_lt (by omega)]; exact hz), (parts_step (by omega) hj (by omega) hI rfl hle2), (parts_lt hdR hle2), rfl⟩
 have hc34p : ¬ ((((j : Nat) : Int) - 1) ≥ 0) := by first | simpa using hc34 | exact bang_t hc34 | exact bang_f hc34
 refine c_exit ?_
 refine x_te ?_
 refine x_te ?_
 refine x_bh ?_
 refine x_tn ?_
 refine c_seq ?_
 refine c_reg ?_
 refine st_val hF rfl rfl rfl (ex_assign (hF.ev rfl)) ?_
 clear hF fa; intro fa hF
 refine c_nil_then ?_
 refine c_seq ?_
 have hRl := lim_le_of_le (Nat.le_of_lt hR)
 refine c_reg ?_
 refine st_val hF rfl rfl rfl (ex_move (hF.ev rfl)) ?_
 clear hF fa; intro fa hF
 refine st_val hF rfl rfl rfl (ex_len TfPA.sls22 (hF.ev rfl)) ?_
 clear hF fa; intro fa hF
 refine st rfl (op_make (X := (g22 :: X)) (nl := (lim (R)).length) (nc := (lim (R)).length) hF hS rfl TfPA.sl22 TfPA.el46 rfl rfl (by omega) (by omega) (by omega) (by omega) (by omega) (made_us _) ?_)
 intro g96 w97 hg99 hS E98; refine gen_ ?_; clear hF fa; intro fa hF
 replace hS : St w w97 [(g96, 46, (us (List.replicate (((lim (R)).length) * 1) 0)).toArray), (g22, 46, (us (o)).toArray)] := hS
 rw [Nat.mul_one] at hS
 refine st_val hF rfl rfl rfl (ex_assign (hF.ev rfl)) ?_
 clear hF fa; intro fa hF
 refine c_nil_then ?_
 refine c_seq ?_
 refine c_seq ?_
 refine c_reg ?_
 refine st_val hF rfl rfl rfl (ex_move (hF.ev rfl)) ?_
 clear hF fa; intro fa hF
 refine st_val hF rfl rfl rfl (ex_len TfPA.sls22 (hF.ev rfl)) ?_
 clear hF fa; intro fa hF
 refine st_val hF rfl rfl rfl (ex_sub (hF.ev rfl) (hF.ev rfl) (wi64 (by omega) (by omega))) ?_
 clear hF fa; intro fa hF
 refine st_val hF rfl rfl rfl (ex_assign (hF.ev rfl)) ?_
 clear hF fa; intro fa hF
 replace hF : Frm 173 fa [(0, (.slice (A_a) (a.length) (c_a))), (1, (.slice (A_b) (b.length) (c_b))), (8, (.int .u32 (((sc : Nat) : Int)))), (9, (.slice (A16) (((lim (val b * sc))).length) (c17))), (10, (.int .u64 (((((lim (val b * sc))).getD ((lim (val b * sc)).length - 1) 0 : Nat) : Int)))), (12, (.slice (some ⟨g22, 0, none⟩) (((lim (val a * sc))).length) (a.length + 1))), (13, (.slice (A29) (((lim (val a * sc))).length) (c30))), (14, (.int .i64 (((j : Nat) : Int) - 1))), (11, (.slice (Ar) ((lim (R)).length) (cr))), (76, (.bool (decide ((((j : Nat) : Int) - 1) ≥ 0)))), (18, (.int .u64 (0))), (19, (.slice (some ⟨g96, 0, none⟩) ((lim (R)).length) ((lim (R)).length))), (20, (.int .i64 ((((lim (R)).length : Nat) : Int) - 1)))] := (hF.take (hF.take (hF.take (hF.take (hF.take (hF.take (hF.take (hF.take (hF.take (hF.take (hF.take (hF.take (hF.take hF.nil rfl) rfl) rfl) rfl) rfl) rfl) rfl) rfl) rfl) rfl) rfl) rfl) rfl)
 refine c_nil_then ?_
 refine c_block ?_
 refine c_loop (fun mu fa w' => ∃ o3 : List Nat, ∃ rr : Nat, ∃ k : Nat, Frm 173 fa [(0, (.slice (A_a) (a.length) (c_a))), (1, (.slice (A_b) (b.length) (c_b))), (8, (.int .u32 (((sc : Nat) : Int)))), (9, (.slice (A16) (((lim (val b * sc))).length) (c17))), (10, (.int .u64 (((((lim (val b * sc))).getD ((lim (val b * sc)).length - 1) 0 : Nat) : Int)))), (12, (.slice (some ⟨g22, 0, none⟩) (((lim (val a * sc))).length) (a.length + 1))), (13, (.slice (A29) (((lim (val a * sc))).length) (c30))), (14, (.int .i64 (((j : Nat) : Int) - 1))), (11, (.slice (Ar) ((lim (R)).length) (cr))), (76, (.bool (decide ((((j : Nat) : Int) - 1) ≥ 0)))), (19, (.slice (some ⟨g96, 0, none⟩) ((lim (R)).length) ((lim (R)).length))), (18, (.int .u64 (((rr : Nat) : Int)))), (20, (.int .i64 (((k : Nat) : Int) - 1)))] ∧ St w w' [(g96, 46, (us (o3)).toArray), (g22, 46, (us (o)).toArray)] ∧ Ext w97 (g96 :: (g22 :: X)) w' (g96 :: (g22 :: X)) ∧ (k ≤ (lim R).length) ∧ (o3.length = (lim R).length) ∧ (Lb o3) ∧ (rr < sc) ∧ (val ((lim R).drop k) = sc * val (o3.drop k) + rr) ∧ k = mu) ?_ ?_
 ·
  exact ⟨_, List.replicate (lim R).length 0, 0, (lim R).length, (hF.take (hF.take (hF.take (hF.take (hF.take (hF.take (hF.take (hF.take (hF.take (hF.take (hF.take (hF.take (hF.take hF.nil (lk_int rfl (by omega))) (lk_int rfl (by omega))) rfl) rfl) rfl) rfl) rfl) rfl) rfl) rfl) rfl) rfl) rfl), hS, Ext.refl _ _, (Nat.le_refl _), (by simp), (lb_zeros _), (hsc0), (by rw [val_drop_all (Nat.le_refl _), val_drop_all (by simp)]; simp), rfl⟩
 clear hF fa; intro n2_ fa w' hI
 clear hS
 obtain ⟨o3, rr, k, hF, hS, E101, hk, ho3, hbo3, hrr, hv3, rfl⟩ := hI
 rename World => w100
 have hak := (lb_lim R).getD (k - 1)
 obtain ⟨hbl1, hbl2, hbl3⟩ := byword_lt hrr hscB hak (t := _) rfl
 refine c_seq ?_
 refine c_seq ?_
 refine c_reg ?_
 refine st_val hF rfl rfl rfl (ex_move (hF.ev rfl)) ?_
 clear hF fa; intro fa hF
 refine st_val hF rfl rfl rfl (ex_geq (hF.ev rfl) (hF.ev rfl)) ?_
 clear hF fa; intro fa hF
 refine c_nil_then ?_
 refine c_cond hF rfl (fun hc102 => ?_) (fun hc102 => ?_)
 ·
  have hc102p : (((k : Nat) : Int) - 1) ≥ 0 := by first | simpa using hc102 | exact bang_t hc102 | exact bang_f hc102
  refine c_skip ?_
  refine x_tn ?_
  refine c_seq ?_
  refine c_block ?_
  refine c_seq ?_
  refine c_reg ?_
  refine st_val hF rfl rfl rfl (ex_move (hF.ev rfl)) ?_
  clear hF fa; intro fa hF
  refine st_val hF rfl rfl rfl (ex_mul (hF.ev rfl) (hF.ev rfl) (wu64 (by omega) (by omega))) ?_
  clear hF fa; intro fa hF
  refine st_val hF rfl rfl rfl (ex_move (hF.ev rfl)) ?_
  clear hF fa; intro fa hF
  refine st_val hF rfl rfl rfl (ex_move (hF.ev rfl)) ?_
  clear hF fa; intro fa hF
  obtain ⟨ad103, hA104, hq105⟩ := (hr.ext (E98.trans E101)).cl.at_ (us_get (l := (lim (R))) (i := k - 1) (by omega))
  refine st_val hF rfl rfl rfl (ex_idx (j := k - 1) TfPA.sl22 (hF.ev rfl) hA104 (hF.ev rfl) (by omega) (by omega)) ?_
  clear hF fa; intro fa hF
  refine st_val hF rfl rfl rfl (ex_load1 TfPA.one46 (hF.ev rfl) hq105) ?_
  clear hF fa; intro fa hF
  refine st_val hF rfl rfl rfl (ex_conv TfPA.unds46 TfPA.und54 (hF.ev rfl) (wu64n (by omega))) ?_
  clear hF fa; intro fa hF
  refine st_val hF rfl rfl rfl (ex_add (hF.ev rfl) (hF.ev rfl) (wu64 (by omega) (by omega))) ?_
  clear hF fa; intro fa hF
  refine st_val hF rfl rfl rfl (ex_assign (hF.ev rfl)) ?_
  clear hF fa; intro fa hF
  refine c_nil_then ?_
  refine c_seq ?_
  refine c_reg ?_
  refine st_val hF rfl rfl rfl (ex_move (hF.ev rfl)) ?_
  clear hF fa; intro fa hF
  refine st_val hF rfl rfl rfl (ex_move (hF.ev rfl)) ?_
  clear hF fa; intro fa hF
  refine st_val hF rfl rfl rfl (ex_move (hF.ev rfl)) ?_
  clear hF fa; intro fa hF
  refine st_val hF rfl rfl rfl (ex_move (hF.ev rfl)) ?_
  clear hF fa; intro fa hF
  refine st_val hF rfl rfl rfl (ex_conv TfPA.unds46 TfPA.und54 (hF.ev rfl) (wu64n (by omega))) ?_
  clear hF fa; intro fa hF
  refine st_val hF rfl rfl rfl (ex_quo (hF.ev rfl) (hF.ev rfl) (by omega) (q_u64 (x := (rr * 1000000000) + ((lim (R)).getD (k - 1) 0)) (y := sc) (by omega) (by omega) (by omega))) ?_
  clear hF fa; intro fa hF
  refine st_val hF rfl rfl rfl (ex_conv TfPA.unds54 TfPA.und46 (hF.ev rfl) (wu32n (by omega))) ?_
  clear hF fa; intro fa hF
  refine st_val hF rfl rfl rfl (ex_idxo (j := k - 1) TfPA.sl22 (hF.ev rfl) (hF.ev rfl) (by omega) (by omega)) ?_
  clear hF fa; intro fa hF
  refine st rfl (op_store (vs := #[.int .u32 ((((rr * 1000000000) + ((lim (R)).getD (k - 1) 0)) / sc : Nat) : Int)]) (v := .int .u32 ((((rr * 1000000000) + ((lim (R)).getD (k - 1) 0)) / sc : Nat) : Int)) (X := (g96 :: (g22 :: X))) hF hS 0 rfl (by simp) rfl (ev_int rfl (by omega)) rfl TfPA.size46 rfl (us_fit (by first | omega | (simp; omega))) ?_)
  intro w106 hS E107
  rw [splice_us (by first | omega | (simp; omega))] at hS
  replace hS : St w w106 [(g96, 46, (us (o3.set (k - 1) (((rr * 1000000000) + ((lim (R)).getD (k - 1) 0)) / sc))).toArray), (g22, 46, (us (o)).toArray)] := hS
  replace hF : Frm 173 fa [(0, (.slice (A_a) (a.length) (c_a))), (1, (.slice (A_b) (b.length) (c_b))), (8, (.int .u32 (((sc : Nat) : Int)))), (9, (.slice (A16) (((lim (val b * sc))).length) (c17))), (10, (.int .u64 (((((lim (val b * sc))).getD ((lim (val b * sc)).length - 1) 0 : Nat) : Int)))), (12, (.slice (some ⟨g22, 0, none⟩) (((lim (val a * sc))).length) (a.length + 1))), (13, (.slice (A29) (((lim (val a * sc))).length) (c30))), (14, (.int .i64 (((j : Nat) : Int) - 1))), (11, (.slice (Ar) ((lim (R)).length) (cr))), (76, (.bool (decide ((((j : Nat) : Int) - 1) ≥ 0)))), (19, (.slice (some ⟨g96, 0, none⟩) ((lim (R)).length) ((lim (R)).length))), (18, (.int .u64 ((((rr : Nat) : Int) * 1000000000) + (((lim (R)).getD (k - 1) 0 : Nat) : Int)))), (20, (.int .i64 (((k : Nat) : Int) - 1))), (146, (.bool (decide ((((k : Nat) : Int) - 1) ≥ 0))))] := (hF.take (hF.take (hF.take (hF.take (hF.take (hF.take (hF.take (hF.take (hF.take (hF.take (hF.take (hF.take (hF.take (hF.take hF.nil rfl) rfl) rfl) rfl) rfl) rfl) rfl) rfl) rfl) rfl) rfl) rfl) rfl) rfl)
  refine c_nil_then ?_
  refine c_reg ?_
  refine st_val hF rfl rfl rfl (ex_move (hF.ev rfl)) ?_
  clear hF fa; intro fa hF
  refine st_val hF rfl rfl rfl (ex_move (hF.ev rfl)) ?_
  clear hF fa; intro fa hF
  refine st_val hF rfl rfl rfl (ex_conv TfPA.unds46 TfPA.und54 (hF.ev rfl) (wu64n (by omega))) ?_
  clear hF fa; intro fa hF
  refine st_val hF rfl rfl rfl (ex_rem (hF.ev rfl) (hF.ev rfl) (by omega) (r_any (x := (rr * 1000000000) + ((lim (R)).getD (k - 1) 0)) (y := sc) (by omega) (by omega))) ?_
  clear hF fa; intro fa hF
  refine st_val hF rfl rfl rfl (ex_assign (hF.ev rfl)) ?_
  clear hF fa; intro fa hF
  refine c_nil ?_
  refine x_bn ?_
  refine x_tn ?_
  refine c_reg ?_
  refine st_val hF rfl rfl rfl (ex_move (hF.ev rfl)) ?_
  clear hF fa; intro fa hF
  refine st_val hF rfl rfl rfl (ex_sub (hF.ev rfl) (hF.ev rfl) (wi64 (by omega) (by omega))) ?_
  clear hF fa; intro fa hF
  refine st_val hF rfl rfl rfl (ex_assign (hF.ev rfl)) ?_
  clear hF fa; intro fa hF
  refine c_nil ?_
  refine x_tn ?_
  exact ⟨_, (by omega), o3.set (k - 1) (((rr * 1000000000) + ((lim (R)).getD (k - 1) 0)) / sc), ((rr * 1000000000) + ((lim (R)).getD (k - 1) 0)) % sc, (k - 1), (hF.take (hF.take (hF.take (hF.take (hF.take (hF.take (hF.take (hF.take (hF.take (hF.take (hF.take (hF.take (hF.take hF.nil (lk_int rfl (by omega))) (lk_int rfl (by omega))) rfl) rfl) rfl) rfl) rfl) rfl) rfl) rfl) rfl) rfl) rfl), hS, (E101.trans E107), (by omega), (by simp; omega), (lb_set hbo3 hbl1), (hbl2), (byword_step (by omega) hk (by omega) hv3 rfl rfl), rfl⟩
 have hc102p : ¬ ((((k : Nat) : Int) - 1) ≥ 0) := by first | simpa using hc102 | exact bang_t hc102 | exact bang_f hc102
 refine c_exit ?_
 refine x_te ?_
 refine x_te ?_
 refine x_bh ?_
 refine x_tn ?_
 refine c_seq ?_
 refine c_reg ?_
 refine st_val hF rfl rfl rfl (ex_move (hF.ev rfl)) ?_
 clear hF fa; intro fa hF
 obtain ⟨hS1, hn1⟩ := hS.out hX 1 rfl
 have hu108 := UC.of_boxP (c := a.length + 1) (n := ((lim (val a * sc))).length) (L := o) (hS.get 1 rfl) hn1 (by unfold maxLen; omega) (by first | omega | (simp; omega)) (by first | omega | (simp; omega))
 have E109 : Ext w100 (g96 :: (g22 :: X)) w100 (g96 :: X) := Ext.drop (by simp +contextual)
 replace hu108 : UC w100 (g96 :: X) (some ⟨g22, 0, none⟩) (a.length + 1) (o.take (((lim (val a * sc))).length)) := hu108
 replace hS : St w w100 [(g96, 46, (us (o3)).toArray)] := hS1; clear hn1
 have hC := ref01_trim_ok (w := w100) (X := (g96 :: X)) (l := (o.take (((lim (val a * sc))).length))) (hS.bnd hX) ⟨_, (((lim (val a * sc))).length), _, rfl, (by rw [List.length_take]; omega), hu108⟩
 refine st rfl (op_call hF rfl TfPA.body43 (args1 (hF.ev rfl)) hC ?_)
 clear hC
 rintro _ w110 ⟨⟨A113, _, c114, rfl, rfl, hu115⟩, hb111⟩
 refine gen_ ?_; clear hF fa; intro fa hF
 replace hS := hS.call hb111; have E112 := Ext.call (g96 :: X) hb111
 refine st_val hF rfl rfl rfl (ex_move (hF.ev rfl)) ?_
 clear hF fa; intro fa hF
 obtain ⟨hS1, hn1⟩ := hS.out hX 0 rfl
 have hu116 := UC.of_box (L := o3) (hS.get 0 rfl) hn1 (by first | omega | (simp; omega))
 have E117 : Ext w110 (g96 :: X) w110 X := Ext.drop (by simp +contextual)
 replace hu116 : UC w110 X (some ⟨g96, 0, none⟩) (o3).length (o3) := hu116
 replace hS : St w w110 [] := hS1; clear hn1
 have hC := ref01_trim_ok (w := w110) (X := X) (l := o3) (hS.bnd hX) (UL.cap (n := (lim (R)).length) (c := (lim (R)).length) hu116 (by first | rfl | (simp; done) | omega) (by first | rfl | (simp; done) | omega))
 refine st rfl (op_call hF rfl TfPA.body43 (args1 (hF.ev rfl)) hC ?_)
 clear hC
 rintro _ w118 ⟨⟨A121, _, c122, rfl, rfl, hu123⟩, hb119⟩
 refine gen_ ?_; clear hF fa; intro fa hF
 replace hS := hS.call hb119; have E120 := Ext.call X hb119
 refine st_val hF rfl rfl rfl (ex_assign (hF.ev rfl)) ?_
 clear hF fa; intro fa hF
 refine st_val hF rfl rfl rfl (ex_assign (hF.ev rfl)) ?_
 clear hF fa; intro fa hF
 refine c_nil_then ?_
 refine c_ret ?_
 have hk0 : k = 0 := by omega
 subst hk0
 have hj0 : j = 0 := by omega
 subst hj0
 rw [List.drop_zero, List.drop_zero, val_lim] at hv3 hI
 have htk := val_split (U := o) (k := (lim (val a * sc)).length) (by omega)
 rw [hz, Nat.mul_zero, Nat.add_zero] at htk
 have hq := parts_end hsc0 hI hR hv3 hrr
 refine end2 hF rfl (res_tmp hF rfl) (res_tmp hF rfl) ?_
 exact ⟨_, rfl, ⟨_, _, rfl, (UL.fin (L := (trimz (o.take (((lim (val a * sc))).length)))) ⟨_, _, _, rfl, (rfl), (hu115.ext (E117.trans E120))⟩ (by rw [← lim_val _ (hbo.take _), ← htk, hq.1]) (fun x hx => by simp [hx])), (UL.fin (L := (trimz o3)) ⟨_, _, _, rfl, (rfl), hu123⟩ (by rw [← lim_val _ hbo3, hq.2]) (fun x hx => by simp [hx]))⟩, hS.below⟩

end Go.Proofs.Ytlaojdpcfenlkaa
