/-
  What the functions parts do, each call by call.
  What the functions answer, each out of its text by the abstract run.
  What the functions swarfref01.Sub, integer.Sub, swarfref01.Int64, integer.Int64, integer.DivMod answer, each out of its text by the abstract run.
  What the functions swarfref01.GCD, integer.GCD answer, each out of its text by the abstract run.
  What the functions answer, each out of its text by the abstract run.
  Contracts with two answers.
  Texts of integers: their bytes, and the number that digits stand for.
  What Parse makes of a text.
  What the functions stringslite.HasPrefix, stringslite.CutPrefix, strings.HasPrefix, strings.CutPrefix answer, each out of its text by the abstract run.
  What the functions strconv.small, strconv.FormatUint, strconv.FormatUint answer, each out of its text by the abstract run.
  What the functions answer, each out of its text by the abstract run.
  What the functions integer.Parse answer, each out of its text by the abstract run.
  What the functions stringslite.Index, stringslite.Cut, strings.Cut answer, each out of its text by the abstract run.
  Conditions: none.
-/
import Derived.Test.YtghlkihmnopenaaGreatDoorM8
import Derived.Test.YtghlkihmnopenaaGreatDoorChecked
import Derived.Laws.Strings
import Derived.Lib.Bytealg
import Derived.Lib.Builder
import Derived.Lib.Strings
import Derived.Lib.Walk
import Derived.Shelf.Strings.Builder1
set_option linter.all false
namespace Go.Proofs.YtghlkihmnopenaaGreatDoor
open Go Go.RowKit Go.Sw
set_option linter.unusedVariables false
set_option maxRecDepth 20000
namespace TfPA
theorem body103 : hasBody Tryz.prog 103 = true := by kernel_rfl
theorem body123 : hasBody Tryz.prog 123 = true := by kernel_rfl
theorem body60 : hasBody Tryz.prog 60 = true := by kernel_rfl
theorem body73 : hasBody Tryz.prog 73 = true := by kernel_rfl
theorem body74 : hasBody Tryz.prog 74 = true := by kernel_rfl
theorem body76 : hasBody Tryz.prog 76 = true := by kernel_rfl
theorem el62 : Sw.elemOf Tryz.prog 62 = some (#[.int .u32 0], 1, 4) := by kernel_rfl
theorem mixed : Tryz.prog.follows .mixedOrders = true := by kernel_rfl
theorem one62 : isOne Tryz.prog 62 = true := by kernel_rfl
theorem size62 : (Tryz.prog.info? 62).map (fun i => i.size) = some 1 := by kernel_rfl
theorem sl22 : sliceOf Tryz.prog 22 = some (62, 1) := by kernel_rfl
theorem sls22 : (sliceOf Tryz.prog 22).isSome = true := by kernel_rfl
theorem und62 : Tryz.prog.underlying 62 = some (TypeDesc.int .u32) := by kernel_rfl
theorem und75 : Tryz.prog.underlying 75 = some (TypeDesc.int .u64) := by kernel_rfl
theorem unds62 : (Tryz.prog.underlying 62).isSome = true := by kernel_rfl
theorem unds75 : (Tryz.prog.underlying 75).isSome = true := by kernel_rfl
end TfPA
set_option maxHeartbeats 4000000 in
theorem ref01_parts_ok {w : World} {X : List Nat} (hX : ∀ m ∈ X, m < w.heap.size) {v_a : Value} {a : List Nat} (h_a : UL w X v_a (a)) {v_b : Value} {b : List Nat} (h_b : UL w X v_b (b)) (hn_a : a.length ≤ 1000000000) (hn_b : b.length ≤ 1000000000) (hca : CanL a) (hcb : CanL b) (hpos : 0 < val b) :
    Calls Tryz.prog 102 #[v_a, v_b] w (Ret fun r w' => (∃ r0 r1, r = .tuple #[r0, r1] ∧ UL w' X r0 (lim (val a / val b)) ∧ UL w' X r1 (lim (val a % val b))) ∧ Below w.heap.size w w') := by
 refine enter (N := 173) (fn := Tryz.f102) (vs := [v_a, v_b]) Tryz.func102 rfl rfl rfl ?_
 intro fa hF
 obtain ⟨A_a, _, c_a, rfl, rfl, hu_a⟩ := h_a
 have hl_a := hu_a.len; have hc_a := hu_a.cap
 obtain ⟨A_b, _, c_b, rfl, rfl, hu_b⟩ := h_b
 have hl_b := hu_b.len; have hc_b := hu_b.cap
 replace hF : Frm 173 fa [(0, (.slice (A_a) (a.length) (c_a))), (1, (.slice (A_b) (b.length) (c_b)))] := hF
 have hS := St.refl w
 have hbn : 0 < b.length := by cases hq : b with | nil => rw [hq] at hpos; simp [val] at hpos | cons _ _ => simp
 have hae := hca.eq; have hbe := hcb.eq
 refine c_seq ?_
 refine c_reg ?_
 refine pr hF (pa rfl <| pa rfl <| PR.nil) ?_
 clear hF fa; intro fa hF
 refine c_nil_then ?_
 refine c_cut (fun fa w' => Frm 173 fa [(0, (.slice (A_a) (a.length) (c_a))), (1, (.slice (A_b) (b.length) (c_b)))] ∧ w = w' ∧ (¬ (a.length ≤ 2 ∧ b.length ≤ 2))) ?_ ?_
 ·
  refine c_seq ?_
  refine c_reg ?_
  refine pr hF (pm rfl <| pg (fun _ hF => ex_len TfPA.sls22 (hF.ev rfl)) <| pg (fun _ hF => ex_leq (hF.ev rfl) (hF.ev rfl)) <| pm rfl <| PR.nil) ?_
  clear hF fa; intro fa hF
  rcases Bool.eq_false_or_eq_true (decide (((a.length : Nat) : Int) ≤ 2)) with hg1 | hg1
  ·
   replace hF := hF.cons (t := 24) (v := .bool true) ((hF.get 24 _ rfl).trans (congrArg Value.bool hg1))
   have hg1p : ((a.length : Nat) : Int) ≤ 2 := by simpa using hg1
   refine pr hF (pgg (fun _ hF => ex_move (hF.ev rfl)) <| pgg (fun _ hF => ex_len TfPA.sls22 (hF.ev rfl)) <| pgg (fun _ hF => ex_leq (hF.ev rfl) (hF.ev rfl)) <| pg (fun _ hF => ex_pick (hF.ev rfl) (fun _ => hF.ev rfl) (v := undef) (fun h => by cases h) rfl) <| PR.nil) ?_
   clear hF fa; intro fa hF
   refine c_nil_then ?_
   refine c_cond hF rfl (fun hc2 => ?_) (fun hc2 => ?_)
   ·
    have hc2p : ((b.length : Nat) : Int) ≤ 2 := by first | simpa using hc2 | exact bang_t hc2 | exact bang_f hc2
    have ha18 : val a < 1000000000000000000 := lim_len_two (by rw [hae]; omega)
    have hb18 : val b < 1000000000000000000 := lim_len_two (by rw [hbe]; omega)
    refine c_seq ?_
    refine c_reg ?_
    refine pr hF (pm rfl <| PR.nil) ?_
    clear hF fa; intro fa hF
    have hC := ref01_short_ok (w := w) (X := X) (l := a) (hS.bnd hX) ⟨_, (a.length), _, rfl, (rfl), hu_a⟩ (by omega) (hca.1) (by omega)
    refine st rfl (op_call hF rfl TfPA.body103 (args1 (hF.ev rfl)) hC ?_)
    clear hC
    rintro _ w3 ⟨rfl, hb4⟩
    refine gen_ ?_; clear hF fa; intro fa hF
    replace hS := hS.call hb4; have E5 := Ext.call X hb4
    refine pr hF (pm rfl <| PR.nil) ?_
    clear hF fa; intro fa hF
    have hC := ref01_short_ok (w := w3) (X := X) (l := b) (hS.bnd hX) ⟨_, (b.length), _, rfl, (rfl), (hu_b.ext E5)⟩ (by omega) (hcb.1) (by omega)
    refine st rfl (op_call hF rfl TfPA.body103 (args1 (hF.ev rfl)) hC ?_)
    clear hC
    rintro _ w6 ⟨rfl, hb7⟩
    refine gen_ ?_; clear hF fa; intro fa hF
    replace hS := hS.call hb7; have E8 := Ext.call X hb7
    refine pr hF (pa rfl <| pa rfl <| PR.nil) ?_
    clear hF fa; intro fa hF
    refine c_nil_then ?_
    refine c_seq ?_
    refine drawn2 (N := 173) (L0 := [(0, (.slice (A_a) (a.length) (c_a))), (1, (.slice (A_b) (b.length) (c_b))), (28, (.bool (decide (((b.length : Nat) : Int) ≤ 2)))), (6, (.int .u64 (((val a : Nat) : Int)))), (7, (.int .u64 (((val b : Nat) : Int))))]) [some (.int .u64 (((val a : Nat) : Int))), some (.int .u64 (((val b : Nat) : Int))), some (.int .u64 ((((val a) / (val b) : Nat) : Int))), none, some (.int .u64 (((val a : Nat) : Int))), some (.int .u64 (((val b : Nat) : Int))), some (.int .u64 ((((val a) % (val b) : Nat) : Int))), none, none, none] [3, 7, 8, 9] [[], [3], [3, 7], [3, 7, 8], [3, 7, 8, 9]] [[0, 1, 2], [0, 1, 2], [0], [0], [0, 1, 2, 3], [0, 1, 2, 3], [0, 1], [1], [2], [3]] 4 [
          fun fa w' => Frm 173 fa [] ∧ St w w' [] ∧ Ext w6 X w' X
          , fun fa w' => ∃ Ao3_3_4 : Option Addr, ∃ co3_3_5 : Nat, Frm 173 fa [(36, (.slice (Ao3_3_4) ((lim ((val a) / (val b))).length) (co3_3_5)))] ∧ St w w' [] ∧ Ext w6 X w' X ∧ UC w' X Ao3_3_4 co3_3_5 (lim ((val a) / (val b)))
          , fun fa w' => ∃ Ao3_3_4 : Option Addr, ∃ co3_3_5 : Nat, ∃ Ao3_7_4 : Option Addr, ∃ co3_7_5 : Nat, Frm 173 fa [(36, (.slice (Ao3_3_4) ((lim ((val a) / (val b))).length) (co3_3_5))), (40, (.slice (Ao3_7_4) ((lim ((val a) % (val b))).length) (co3_7_5)))] ∧ St w w' [] ∧ Ext w6 X w' X ∧ UC w' X Ao3_3_4 co3_3_5 (lim ((val a) / (val b))) ∧ UC w' X Ao3_7_4 co3_7_5 (lim ((val a) % (val b)))
          , fun fa w' => ∃ Ao3_3_4 : Option Addr, ∃ co3_3_5 : Nat, ∃ Ao3_7_4 : Option Addr, ∃ co3_7_5 : Nat, Frm 173 fa [(36, (.slice (Ao3_3_4) ((lim ((val a) / (val b))).length) (co3_3_5))), (40, (.slice (Ao3_7_4) ((lim ((val a) % (val b))).length) (co3_7_5))), (4, (.slice (Ao3_3_4) ((lim ((val a) / (val b))).length) (co3_3_5)))] ∧ St w w' [] ∧ Ext w6 X w' X ∧ UC w' X Ao3_3_4 co3_3_5 (lim ((val a) / (val b))) ∧ UC w' X Ao3_7_4 co3_7_5 (lim ((val a) % (val b)))
          , fun fa w' => ∃ Ao3_3_4 : Option Addr, ∃ co3_3_5 : Nat, ∃ Ao3_7_4 : Option Addr, ∃ co3_7_5 : Nat, Frm 173 fa [(36, (.slice (Ao3_3_4) ((lim ((val a) / (val b))).length) (co3_3_5))), (40, (.slice (Ao3_7_4) ((lim ((val a) % (val b))).length) (co3_7_5))), (4, (.slice (Ao3_3_4) ((lim ((val a) / (val b))).length) (co3_3_5))), (5, (.slice (Ao3_7_4) ((lim ((val a) % (val b))).length) (co3_7_5)))] ∧ St w w' [] ∧ Ext w6 X w' X ∧ UC w' X Ao3_3_4 co3_3_5 (lim ((val a) / (val b))) ∧ UC w' X Ao3_7_4 co3_7_5 (lim ((val a) % (val b)))
        ] TfPA.mixed rfl rfl rfl rfl rfl rfl (hF.all ⟨rfl, rfl, rfl, rfl, rfl, trivial⟩) rfl ⟨hF.nil, hS.drew, Ext.drew _ _⟩ ?_ ?_ ?_
    all_goals clear hF fa
    ·
     refine ⟨?_, ?_, ?_, ?_, ?_, trivial⟩
     ·
      rintro fa w' i o d v ho hd hna ⟨hA, hR⟩; exact ⟨hA.put_other v (freeOf_at (acts := [3, 7, 8, 9]) rfl ho hd hna), hR⟩
     ·
      rintro fa w' i o d v ho hd hna ⟨Ao3_3_4, co3_3_5, hA, hR⟩; exact ⟨Ao3_3_4, co3_3_5, hA.put_other v (freeOf_at (acts := [3, 7, 8, 9]) rfl ho hd hna), hR⟩
     ·
      rintro fa w' i o d v ho hd hna ⟨Ao3_3_4, co3_3_5, Ao3_7_4, co3_7_5, hA, hR⟩; exact ⟨Ao3_3_4, co3_3_5, Ao3_7_4, co3_7_5, hA.put_other v (freeOf_at (acts := [3, 7, 8, 9]) rfl ho hd hna), hR⟩
     ·
      rintro fa w' i o d v ho hd hna ⟨Ao3_3_4, co3_3_5, Ao3_7_4, co3_7_5, hA, hR⟩; exact ⟨Ao3_3_4, co3_3_5, Ao3_7_4, co3_7_5, hA.put_other v (freeOf_at (acts := [3, 7, 8, 9]) rfl ho hd hna), hR⟩
     ·
      rintro fa w' i o d v ho hd hna ⟨Ao3_3_4, co3_3_5, Ao3_7_4, co3_7_5, hA, hR⟩; exact ⟨Ao3_3_4, co3_3_5, Ao3_7_4, co3_7_5, hA.put_other v (freeOf_at (acts := [3, 7, 8, 9]) rfl ho hd hna), hR⟩
    ·
     refine ⟨?_, ?_, ?_, ?_, ?_, ?_, ?_, ?_, ?_, ?_, trivial⟩
     ·
      refine .inl ⟨rfl, _, _, rfl, rfl, fun s fa w' hΦ hF hB K hK => ?_⟩
      exact fl_val rfl rfl rfl (ex_move (hF.ev rfl)) hK
     ·
      refine .inl ⟨rfl, _, _, rfl, rfl, fun s fa w' hΦ hF hB K hK => ?_⟩
      exact fl_val rfl rfl rfl (ex_move (hF.ev rfl)) hK
     ·
      refine .inl ⟨rfl, _, _, rfl, rfl, fun s fa w' hΦ hF hB K hK => ?_⟩
      replace hF := hF.cons (hB.val 0 _ 33 _ rfl rfl rfl rfl)
      replace hF := hF.cons (hB.val 1 _ 34 _ rfl rfl rfl rfl)
      exact fl_val rfl rfl rfl (ex_quo (hF.ev rfl) (hF.ev rfl) (by omega) (q_u64 (x := val a) (y := val b) (by omega) (by omega) (by omega))) hK
     ·
      refine .inr (.inr ⟨rfl, ?_, trivial⟩)
      ·
       intro fa w' hΦ hF hB
       obtain ⟨hA, hS, E_w'⟩ := hΦ
       replace hF := hF.cons (hB.val 2 _ 35 _ rfl rfl rfl rfl)
       refine wop rfl rfl ?_
       have hC := ref01_limbs_ok (w := w') (X := X) (hS.bnd hX) ((val a) / (val b)) (Nat.lt_of_le_of_lt (Nat.div_le_self _ _) (by omega))
       refine op_call hF rfl TfPA.body76 (args1 (hF.ev (ev_int (b := (((val a) / (val b) : Nat) : Int)) rfl (by first | rfl | omega)))) hC ?_
       clear hC
       rintro _ wo3_3_1 ⟨⟨Ao3_3_4, _, co3_3_5, rfl, rfl, huo3_3_6⟩, hbo3_3_2⟩
       clear hF; intro hF
       replace hS := hS.call hbo3_3_2; have Eo3_3_3 := Ext.call X hbo3_3_2
       have hA1 := ((hA.put_other _ rfl).cons (hF.get 36 _ rfl))
       exact ⟨1, rfl, ⟨Ao3_3_4, co3_3_5, (hA1.all ⟨rfl, trivial⟩), hS, (E_w'.trans Eo3_3_3), huo3_3_6⟩, _, rfl, fun u hu => by cases hu <;> rfl⟩
     ·
      refine .inl ⟨rfl, _, _, rfl, rfl, fun s fa w' hΦ hF hB K hK => ?_⟩
      exact fl_val rfl rfl rfl (ex_move (hF.ev rfl)) hK
     ·
      refine .inl ⟨rfl, _, _, rfl, rfl, fun s fa w' hΦ hF hB K hK => ?_⟩
      exact fl_val rfl rfl rfl (ex_move (hF.ev rfl)) hK
     ·
      refine .inl ⟨rfl, _, _, rfl, rfl, fun s fa w' hΦ hF hB K hK => ?_⟩
      replace hF := hF.cons (hB.val 4 _ 37 _ rfl rfl rfl rfl)
      replace hF := hF.cons (hB.val 5 _ 38 _ rfl rfl rfl rfl)
      exact fl_val rfl rfl rfl (ex_rem (hF.ev rfl) (hF.ev rfl) (by omega) (r_any (x := val a) (y := val b) (by omega) (by omega))) hK
     ·
      refine .inr (.inr ⟨rfl, ?_, trivial⟩)
      ·
       intro fa w' hΦ hF hB
       obtain ⟨Ao3_3_4, co3_3_5, hA, hS, E_w', huo3_3_6⟩ := hΦ
       replace hF := hF.cons (hB.val 6 _ 39 _ rfl rfl rfl rfl)
       refine wop rfl rfl ?_
       have hC := ref01_limbs_ok (w := w') (X := X) (hS.bnd hX) ((val a) % (val b)) (Nat.lt_of_le_of_lt (Nat.mod_le _ _) (by omega))
       refine op_call hF rfl TfPA.body76 (args1 (hF.ev (ev_int (b := (((val a) % (val b) : Nat) : Int)) rfl (by first | rfl | omega)))) hC ?_
       clear hC
       rintro _ wo3_7_1 ⟨⟨Ao3_7_4, _, co3_7_5, rfl, rfl, huo3_7_6⟩, hbo3_7_2⟩
       clear hF; intro hF
       replace hS := hS.call hbo3_7_2; have Eo3_7_3 := Ext.call X hbo3_7_2
       have hA1 := ((hA.put_other _ rfl).cons (hF.get 40 _ rfl))
       exact ⟨2, rfl, ⟨Ao3_3_4, co3_3_5, Ao3_7_4, co3_7_5, (hA1.all ⟨rfl, rfl, trivial⟩), hS, (E_w'.trans Eo3_7_3), (huo3_3_6.ext Eo3_7_3), huo3_7_6⟩, _, rfl, fun u hu => by cases hu <;> rfl⟩
     ·
      refine .inr (.inr ⟨rfl, ?_, trivial⟩)
      ·
       intro fa w' hΦ hF hB
       obtain ⟨Ao3_3_4, co3_3_5, Ao3_7_4, co3_7_5, hA, hS, E_w', huo3_3_6, huo3_7_6⟩ := hΦ
       replace hF := hF.cons (hA.get 36 _ rfl)
       refine wop rfl rfl ?_
       refine op_val hF rfl rfl (ex_assign (hF.ev rfl)) ?_; clear hF; intro hF
       have hA1 := ((hA.put_other _ rfl).cons (hF.get 4 _ rfl))
       exact ⟨3, rfl, ⟨Ao3_3_4, co3_3_5, Ao3_7_4, co3_7_5, (hA1.all ⟨rfl, rfl, rfl, trivial⟩), hS, E_w', huo3_3_6, huo3_7_6⟩, _, rfl, fun u hu => by cases hu <;> rfl⟩
     ·
      refine .inr (.inr ⟨rfl, ?_, trivial⟩)
      ·
       intro fa w' hΦ hF hB
       obtain ⟨Ao3_3_4, co3_3_5, Ao3_7_4, co3_7_5, hA, hS, E_w', huo3_3_6, huo3_7_6⟩ := hΦ
       replace hF := hF.cons (hA.get 40 _ rfl)
       refine wop rfl rfl ?_
       refine op_val hF rfl rfl (ex_assign (hF.ev rfl)) ?_; clear hF; intro hF
       have hA1 := ((hA.put_other _ rfl).cons (hF.get 5 _ rfl))
       exact ⟨4, rfl, ⟨Ao3_3_4, co3_3_5, Ao3_7_4, co3_7_5, (hA1.all ⟨rfl, rfl, rfl, rfl, trivial⟩), hS, E_w', huo3_3_6, huo3_7_6⟩, _, rfl, fun u hu => by cases hu <;> rfl⟩
    intro fa w9 hΦ hF hC
    obtain ⟨Ao3_3_4, co3_3_5, Ao3_7_4, co3_7_5, hA, hS, E_w9, huo3_3_6, huo3_7_6⟩ := hΦ
    replace hF := hF.cons (hA.get 4 _ rfl)
    replace hF := hF.cons (hA.get 5 _ rfl)
    clear hA hC
    refine x_tn ?_
    refine c_ret ?_
    refine x_tr ?_
    refine end2 hF rfl (res_tmp hF rfl) (res_tmp hF rfl) ?_
    exact ⟨_, rfl, ⟨_, _, rfl, (UL.fin (L := (lim ((val a) / (val b)))) ⟨_, _, _, rfl, (rfl), huo3_3_6⟩ (rfl) (fun x hx => by simp [hx])), (UL.fin (L := (lim ((val a) % (val b)))) ⟨_, _, _, rfl, (rfl), huo3_7_6⟩ (rfl) (fun x hx => by simp [hx]))⟩, hS.below⟩
   have hc2p : ¬ (((b.length : Nat) : Int) ≤ 2) := by first | simpa using hc2 | exact bang_t hc2 | exact bang_f hc2
   refine c_skip ?_
   refine x_tn ?_
   exact ⟨(hF.all ⟨rfl, rfl, trivial⟩), rfl, (by omega)⟩
  replace hF := hF.cons (t := 24) (v := .bool false) ((hF.get 24 _ rfl).trans (congrArg Value.bool hg1))
  have hg1p : ¬ (((a.length : Nat) : Int) ≤ 2) := by simpa using hg1
  refine pr hF (psk rfl rfl <| psk rfl rfl <| psk rfl rfl <| pg (fun _ hF => ex_pick (hF.ev rfl) (u := undef) (fun h => by cases h) (fun _ => hF.ev rfl) rfl) <| PR.nil) ?_
  clear hF fa; intro fa hF
  refine c_nil_then ?_
  refine c_cond hF rfl (fun hc => ?_) (fun hc => ?_)
  ·
   cases hc
  refine c_skip ?_
  refine x_tn ?_
  exact ⟨(hF.all ⟨rfl, rfl, trivial⟩), rfl, (by omega)⟩
 clear hF fa
 rintro fa _ ⟨hF, rfl, hbig⟩
 refine c_seq ?_
 have hbt := hcb.1.getD (b.length - 1)
 refine c_reg ?_
 refine pr hF (pm rfl <| pm rfl <| pg (fun _ hF => ex_len TfPA.sls22 (hF.ev rfl)) <| pg (fun _ hF => ex_sub (hF.ev rfl) (hF.ev rfl) vi64) <| PR.nil) ?_
 clear hF fa; intro fa hF
 obtain ⟨ad10, hA11, hq12⟩ := hu_b.cl.at_ (us_get (l := b) (i := b.length - 1) (by omega))
 refine pr hF (pg (fun _ hF => ex_idx (j := b.length - 1) TfPA.sl22 (hF.ev rfl) hA11 (hF.ev rfl) (by omega) (by omega)) <| pg (fun _ hF => ex_load1 TfPA.one62 (hF.ev rfl) hq12) <| pg (fun _ hF => ex_conv TfPA.unds62 TfPA.und75 (hF.ev rfl) (wu64n (by omega))) <| pg (fun _ hF => ex_add (hF.ev rfl) (hF.ev rfl) vu64) <| pg (fun _ hF => ex_quo (hF.ev rfl) (hF.ev rfl) (by omega) (q_u64 (x := 1000000000) (y := (b.getD (b.length - 1) 0) + 1) (by omega) (by omega) (by omega))) <| pg (fun _ hF => ex_conv TfPA.unds75 TfPA.und62 (hF.ev rfl) (wu32n (by have := Nat.div_le_self 1000000000 (b.getD (b.length - 1) 0 + 1); omega))) <| pa rfl <| PR.nil) ?_
 clear hF fa; intro fa hF
 refine c_nil_then ?_
 refine c_seq ?_
 obtain ⟨sc, hsc⟩ : ∃ sc, sc = 1000000000 / (b.getD (b.length - 1) 0 + 1) := ⟨_, rfl⟩
 rw [← hsc] at hF
 have hscB := scale_lt hcb rfl hbn hsc
 obtain ⟨hsc0, _, hvn, hvtop, hvP⟩ := scale_law (v := (lim (val b * sc))) hcb rfl hbn hsc (CanL.lim _) (by rw [val_lim])
 have hvL := fun i => (lb_lim (val b * sc)).getD i; have huL := fun i => (lb_lim (val a * sc)).getD i
 have hVp : 0 < (val b * sc) := Nat.mul_pos hpos hsc0
 have hlu := scaled_len (a := val a) hscB; rw [hca.eq] at hlu
 refine c_reg ?_
 refine pr hF (pm rfl <| pm rfl <| PR.nil) ?_
 clear hF fa; intro fa hF
 have hC := ref01_by_ok (w := w) (X := X) (a := b) (hS.bnd hX) ⟨_, (b.length), _, rfl, (rfl), hu_b⟩ (sc) (by omega) (hcb.1) (hscB)
 rw [show (lim (val b * sc)) = (lim (val b * sc)) from rfl] at hC
 refine st rfl (op_call hF rfl TfPA.body123 (args2 (hF.ev rfl) (hF.ev (ev_int (b := ((sc : Nat) : Int)) rfl (by first | rfl | omega)))) hC ?_)
 clear hC
 rintro _ w13 ⟨⟨A16, _, c17, rfl, rfl, hu18⟩, hb14⟩
 refine gen_ ?_; clear hF fa; intro fa hF
 replace hS := hS.call hb14; have E15 := Ext.call X hb14
 refine pr hF (pa rfl <| PR.nil) ?_
 clear hF fa; intro fa hF
 replace hF : Frm 173 fa [(0, (.slice (A_a) (a.length) (c_a))), (1, (.slice (A_b) (b.length) (c_b))), (8, (.int .u32 (((sc : Nat) : Int)))), (9, (.slice (A16) (((lim (val b * sc))).length) (c17)))] := (hF.all ⟨rfl, rfl, rfl, rfl, trivial⟩)
 refine c_nil_then ?_
 refine c_seq ?_
 rw [← hvn] at hvtop
 have hvt := hvL ((lim (val b * sc)).length - 1)
 refine c_reg ?_
 refine pr hF (pm rfl <| pm rfl <| pg (fun _ hF => ex_len TfPA.sls22 (hF.ev rfl)) <| pg (fun _ hF => ex_sub (hF.ev rfl) (hF.ev rfl) vi64) <| PR.nil) ?_
 clear hF fa; intro fa hF
 obtain ⟨ad19, hA20, hq21⟩ := hu18.cl.at_ (us_get (l := ((lim (val b * sc)))) (i := (lim (val b * sc)).length - 1) (by omega))
 refine pr hF (pg (fun _ hF => ex_idx (j := (lim (val b * sc)).length - 1) TfPA.sl22 (hF.ev rfl) hA20 (hF.ev rfl) (by omega) (by omega)) <| pg (fun _ hF => ex_load1 TfPA.one62 (hF.ev rfl) hq21) <| pg (fun _ hF => ex_conv TfPA.unds62 TfPA.und75 (hF.ev rfl) (wu64n (by omega))) <| pa rfl <| PR.nil) ?_
 clear hF fa; intro fa hF
 refine c_nil_then ?_
 refine c_seq ?_
 refine c_reg ?_
 refine pr hF (pa rfl <| PR.nil) ?_
 clear hF fa; intro fa hF
 refine c_nil_then ?_
 refine c_seq ?_
 refine c_reg ?_
 refine pr hF (pm rfl <| pg (fun _ hF => ex_len TfPA.sls22 (hF.ev rfl)) <| pg (fun _ hF => ex_add (hF.ev rfl) (hF.ev rfl) vi64) <| PR.nil) ?_
 clear hF fa; intro fa hF
 refine st rfl (op_make (X := X) (nl := a.length + 1) (nc := a.length + 1) hF hS rfl TfPA.sl22 TfPA.el62 rfl rfl (by omega) (by omega) (by omega) (by omega) (by omega) (made_us _) ?_)
 intro g22 w23 hg25 hS E24; refine gen_ ?_; clear hF fa; intro fa hF
 rw [Nat.mul_one] at hS
 refine pr hF (pa rfl <| PR.nil) ?_
 clear hF fa; intro fa hF
 refine c_nil_then ?_
 refine c_seq ?_
 refine c_reg ?_
 refine pr hF (pm rfl <| pm rfl <| PR.nil) ?_
 clear hF fa; intro fa hF
 have hC := ref01_by_ok (w := w23) (X := (g22 :: X)) (a := a) (hS.bnd hX) ⟨_, (a.length), _, rfl, (rfl), (hu_a.ext (E15.trans E24))⟩ (sc) (by omega) (hca.1) (hscB)
 rw [show (lim (val a * sc)) = (lim (val a * sc)) from rfl] at hC
 refine st rfl (op_call hF rfl TfPA.body123 (args2 (hF.ev rfl) (hF.ev (ev_int (b := ((sc : Nat) : Int)) rfl (by first | rfl | omega)))) hC ?_)
 clear hC
 rintro _ w26 ⟨⟨A29, _, c30, rfl, rfl, hu31⟩, hb27⟩
 refine gen_ ?_; clear hF fa; intro fa hF
 replace hS := hS.call hb27; have E28 := Ext.call (g22 :: X) hb27
 refine pr hF (pa rfl <| PR.nil) ?_
 clear hF fa; intro fa hF
 replace hF : Frm 173 fa [(0, (.slice (A_a) (a.length) (c_a))), (1, (.slice (A_b) (b.length) (c_b))), (8, (.int .u32 (((sc : Nat) : Int)))), (9, (.slice (A16) (((lim (val b * sc))).length) (c17))), (10, (.int .u64 (((((lim (val b * sc))).getD ((lim (val b * sc)).length - 1) 0 : Nat) : Int)))), (11, (.slice (none) (0) (0))), (12, (.slice (some ⟨g22, 0, none⟩) (a.length + 1) (a.length + 1))), (13, (.slice (A29) (((lim (val a * sc))).length) (c30)))] := (hF.all ⟨rfl, rfl, rfl, rfl, rfl, rfl, rfl, rfl, trivial⟩)
 refine c_nil_then ?_
 refine c_seq ?_
 refine c_reg ?_
 refine pr hF (pm rfl <| pm rfl <| pg (fun _ hF => ex_len TfPA.sls22 (hF.ev rfl)) <| pg (fun _ hF => ex_slice_h (j := ((lim (val a * sc))).length) TfPA.sl22 (hF.ev rfl) (hF.ev rfl) (by omega) (by omega)) <| pa rfl <| PR.nil) ?_
 clear hF fa; intro fa hF
 refine c_nil_then ?_
 refine c_seq ?_
 refine c_seq ?_
 refine c_reg ?_
 refine pr hF (pm rfl <| pg (fun _ hF => ex_len TfPA.sls22 (hF.ev rfl)) <| pg (fun _ hF => ex_sub (hF.ev rfl) (hF.ev rfl) vi64) <| pa rfl <| PR.nil) ?_
 clear hF fa; intro fa hF
 refine c_nil_then ?_
 refine c_block ?_
 refine c_loop (fun mu fa w' => ∃ o : List Nat, ∃ R : Nat, ∃ j : Nat, ∃ Ar : Option Addr, ∃ cr : Nat, Frm 173 fa [(0, (.slice (A_a) (a.length) (c_a))), (1, (.slice (A_b) (b.length) (c_b))), (8, (.int .u32 (((sc : Nat) : Int)))), (9, (.slice (A16) (((lim (val b * sc))).length) (c17))), (10, (.int .u64 (((((lim (val b * sc))).getD ((lim (val b * sc)).length - 1) 0 : Nat) : Int)))), (12, (.slice (some ⟨g22, 0, none⟩) (((lim (val a * sc))).length) (a.length + 1))), (13, (.slice (A29) (((lim (val a * sc))).length) (c30))), (14, (.int .i64 (((j : Nat) : Int) - 1))), (11, (.slice (Ar) ((lim (R)).length) (cr)))] ∧ St w w' [(g22, 62, (us (o)).toArray)] ∧ Ext w26 (g22 :: X) w' (g22 :: X) ∧ UC w' (g22 :: X) Ar cr (lim (R)) ∧ (j ≤ (lim (val a * sc)).length) ∧ (o.length = a.length + 1) ∧ (Lb o) ∧ (val (o.drop (lim (val a * sc)).length) = 0) ∧ (val ((lim (val a * sc)).drop j) = (val b * sc) * val (o.drop j) + R) ∧ (R < (val b * sc)) ∧ j = mu) ?_ ?_
 ·
  exact ⟨_, List.replicate (a.length + 1) 0, 0, (lim (val a * sc)).length, none, 0, (hF.all ⟨rfl, rfl, rfl, rfl, rfl, rfl, rfl, (lk_int rfl (by omega)), (lk_slice rfl (by first | omega | (rw [lim_zero]; rfl))), trivial⟩), hS, Ext.refl _ _, (by rw [lim_zero]; exact UC.nil (by omega)), (Nat.le_refl _), (by simp), (lb_zeros _), (by simp [val_zeros]), (by rw [val_drop_all (Nat.le_refl _)]; simp [val_zeros]), (hVp), rfl⟩
 clear hF fa; intro n0_ fa w' hI
 clear hS
 obtain ⟨o, R, j, Ar, cr, hF, hS, E33, hr, hj, hol, hbo, hz, hI, hR, rfl⟩ := hI
 rename World => w32
 refine c_seq ?_
 refine c_seq ?_
 refine c_reg ?_
 refine pr hF (pm rfl <| pg (fun _ hF => ex_geq (hF.ev rfl) (hF.ev rfl)) <| PR.nil) ?_
 clear hF fa; intro fa hF
 refine c_nil_then ?_
 refine c_cond hF rfl (fun hc34 => ?_) (fun hc34 => ?_)
 ·
  have hc34p : (((j : Nat) : Int) - 1) ≥ 0 := by first | simpa using hc34 | exact bang_t hc34 | exact bang_f hc34
  refine c_skip ?_
  refine x_tn ?_
  refine c_seq ?_
  refine c_block ?_
  refine c_seq ?_
  have hxu := huL (j - 1)
  have hR2 := parts_head hxu hR
  have hR2l := lim_len_mul hR2; have hRl := lim_le_of_le (Nat.le_of_lt hR)
  have hra := (lb_lim ((lim (val a * sc)).getD (j - 1) 0 + 1000000000 * R)).getD (lim (val b * sc)).length; have hrb := (lb_lim ((lim (val a * sc)).getD (j - 1) 0 + 1000000000 * R)).getD ((lim (val b * sc)).length - 1)
  refine c_reg ?_
  refine pr hF (pm rfl <| pm rfl <| PR.nil) ?_
  clear hF fa; intro fa hF
  obtain ⟨ad35, hA36, hq37⟩ := (hu31.ext E33).cl.at_ (us_get (l := ((lim (val a * sc)))) (i := j - 1) (by omega))
  refine pr hF (pg (fun _ hF => ex_idx (j := j - 1) TfPA.sl22 (hF.ev rfl) hA36 (hF.ev rfl) (by omega) (by omega)) <| pg (fun _ hF => ex_load1 TfPA.one62 (hF.ev rfl) hq37) <| PR.nil) ?_
  clear hF fa; intro fa hF
  refine st rfl (op_lit_own (X := (g22 :: X)) hF hS rfl TfPA.sl22 TfPA.el62 rfl rfl (lits1 (hF.ev (ev_int (b := ((((lim (val a * sc))).getD (j - 1) 0 : Nat) : Int)) rfl (by omega)))) (fill_u1 (x := ((lim (val a * sc))).getD (j - 1) 0)) ?_)
  intro g38 w39 hg41 hS E40; refine gen_ ?_; clear hF fa; intro fa hF
  refine pr hF (pm rfl <| PR.nil) ?_
  clear hF fa; intro fa hF
  replace hS : St w w39 [(g22, 62, (us (o)).toArray), (g38, 62, (us ([((lim (val a * sc))).getD (j - 1) 0])).toArray)] := hS.perm (List.Perm.swap _ _ _)
  have E49 : Ext w39 (g38 :: (g22 :: X)) w39 (g22 :: (g38 :: X)) := Ext.drop (by simp +contextual)
  refine st rfl (op_append (X := X) (F := [(g22, 62, (us (o)).toArray)]) (So := [(g38, 62, (us ([((lim (val a * sc))).getD (j - 1) 0])).toArray)]) (l := us ([((lim (val a * sc))).getD (j - 1) 0])) (m := us ((lim (R)))) hF hS rfl TfPA.sl22 TfPA.el62 rfl rfl rfl (by simp) (OwV.full 62 g38 ([((lim (val a * sc))).getD (j - 1) 0]) (1) (1) (by first | rfl | (simp; done) | omega) (by first | rfl | (simp; done) | omega) (by simp)) (hr.ext (E40.trans E49)).cl (us_one _) (by first | (simp; done) | (simp; omega)) (by first | (simp; done) | (simp; omega)) ?_)
  intro v43 So44 w45 hO46 hS E47 hun48; refine gen_ ?_; clear hF fa; intro fa hF
  clear hun48
  rw [← us_append] at hO46
  replace E47 : Ext w39 (g22 :: (g38 :: X)) w45 (g22 :: (bl So44 ++ X)) := E47
  replace hS : St w w45 ([(g22, 62, (us (o)).toArray)] ++ So44) := hS
  obtain ⟨A50, c51, hv53, hu52⟩ := UC.thaw (F := [(g22, 62, (us (o)).toArray)]) hO46 hS hX
  subst hv53
  have E54 : Ext w45 (g22 :: (bl So44 ++ X)) w45 (g22 :: X) := Ext.drop (by simp +contextual)
  replace hu52 : UC w45 (g22 :: X) A50 c51 (([((lim (val a * sc))).getD (j - 1) 0]) ++ (lim (R))) := hu52
  replace hS : St w w45 [(g22, 62, (us (o)).toArray)] := hS.drop (List.sublist_append_left _ _)
  have hC := ref01_trim_ok (w := w45) (X := (g22 :: X)) (l := (([((lim (val a * sc))).getD (j - 1) 0]) ++ (lim (R)))) (hS.bnd hX) ⟨_, ((([((lim (val a * sc))).getD (j - 1) 0]) ++ (lim (R))).length), _, rfl, (rfl), hu52⟩
  rw [show (trimz (([((lim (val a * sc))).getD (j - 1) 0]) ++ (lim (R)))) = (lim ((lim (val a * sc)).getD (j - 1) 0 + 1000000000 * R)) from trimz_cons _ _ hxu] at hC
  refine st rfl (op_call hF rfl TfPA.body60 (args1 (hF.ev rfl)) hC ?_)
  clear hC
  rintro _ w55 ⟨⟨A58, _, c59, rfl, rfl, hu60⟩, hb56⟩
  refine gen_ ?_; clear hF fa; intro fa hF
  replace hS := hS.call hb56; have E57 := Ext.call (g22 :: X) hb56
  refine pr hF (pa rfl <| PR.nil) ?_
  clear hF fa; intro fa hF
  replace hF : Frm 173 fa [(0, (.slice (A_a) (a.length) (c_a))), (1, (.slice (A_b) (b.length) (c_b))), (8, (.int .u32 (((sc : Nat) : Int)))), (9, (.slice (A16) (((lim (val b * sc))).length) (c17))), (10, (.int .u64 (((((lim (val b * sc))).getD ((lim (val b * sc)).length - 1) 0 : Nat) : Int)))), (12, (.slice (some ⟨g22, 0, none⟩) (((lim (val a * sc))).length) (a.length + 1))), (13, (.slice (A29) (((lim (val a * sc))).length) (c30))), (14, (.int .i64 (((j : Nat) : Int) - 1))), (11, (.slice (A58) (((lim ((lim (val a * sc)).getD (j - 1) 0 + 1000000000 * R))).length) (c59))), (76, (.bool (decide ((((j : Nat) : Int) - 1) ≥ 0))))] := (hF.all ⟨rfl, rfl, rfl, rfl, rfl, rfl, rfl, rfl, rfl, rfl, trivial⟩)
  refine c_nil_then ?_
  refine c_seq ?_
  refine c_reg ?_
  refine pr hF (pa rfl <| PR.nil) ?_
  clear hF fa; intro fa hF
  refine c_nil_then ?_
  refine c_cut (fun fa w' => ∃ h1 : Nat, Frm 173 fa [(0, (.slice (A_a) (a.length) (c_a))), (1, (.slice (A_b) (b.length) (c_b))), (8, (.int .u32 (((sc : Nat) : Int)))), (9, (.slice (A16) (((lim (val b * sc))).length) (c17))), (10, (.int .u64 (((((lim (val b * sc))).getD ((lim (val b * sc)).length - 1) 0 : Nat) : Int)))), (12, (.slice (some ⟨g22, 0, none⟩) (((lim (val a * sc))).length) (a.length + 1))), (13, (.slice (A29) (((lim (val a * sc))).length) (c30))), (14, (.int .i64 (((j : Nat) : Int) - 1))), (11, (.slice (A58) (((lim ((lim (val a * sc)).getD (j - 1) 0 + 1000000000 * R))).length) (c59))), (76, (.bool (decide ((((j : Nat) : Int) - 1) ≥ 0)))), (15, (.int .u64 (((h1 : Nat) : Int))))] ∧ w55 = w' ∧ (h1 = (lim ((lim (val a * sc)).getD (j - 1) 0 + 1000000000 * R)).getD (lim (val b * sc)).length 0 * 1000000000)) ?_ ?_
  ·
   refine c_seq ?_
   refine c_reg ?_
   refine pr hF (pm rfl <| pg (fun _ hF => ex_len TfPA.sls22 (hF.ev rfl)) <| pm rfl <| pg (fun _ hF => ex_len TfPA.sls22 (hF.ev rfl)) <| pg (fun _ hF => ex_gtr (hF.ev rfl) (hF.ev rfl)) <| PR.nil) ?_
   clear hF fa; intro fa hF
   refine c_nil_then ?_
   refine c_cond hF rfl (fun hc61 => ?_) (fun hc61 => ?_)
   ·
    have hc61p : ((((lim ((lim (val a * sc)).getD (j - 1) 0 + 1000000000 * R))).length : Nat) : Int) > ((((lim (val b * sc))).length : Nat) : Int) := by first | simpa using hc61 | exact bang_t hc61 | exact bang_f hc61
    refine c_reg ?_
    refine pr hF (pm rfl <| pm rfl <| pg (fun _ hF => ex_len TfPA.sls22 (hF.ev rfl)) <| PR.nil) ?_
    clear hF fa; intro fa hF
    obtain ⟨ad62, hA63, hq64⟩ := hu60.cl.at_ (us_get (l := ((lim ((lim (val a * sc)).getD (j - 1) 0 + 1000000000 * R)))) (i := (lim (val b * sc)).length) (by omega))
    refine pr hF (pg (fun _ hF => ex_idx (j := (lim (val b * sc)).length) TfPA.sl22 (hF.ev rfl) hA63 (hF.ev rfl) (by omega) (by omega)) <| pg (fun _ hF => ex_load1 TfPA.one62 (hF.ev rfl) hq64) <| pg (fun _ hF => ex_conv TfPA.unds62 TfPA.und75 (hF.ev rfl) (wu64n (by omega))) <| pg (fun _ hF => ex_mul (hF.ev rfl) (hF.ev rfl) vu64) <| pa rfl <| PR.nil) ?_
    clear hF fa; intro fa hF
    refine c_nil ?_
    refine x_tn ?_
    exact ⟨((((lim ((lim (val a * sc)).getD (j - 1) 0 + 1000000000 * R))).getD ((lim (val b * sc)).length) 0) * 1000000000), (hF.all ⟨rfl, rfl, rfl, rfl, rfl, rfl, rfl, rfl, rfl, rfl, (lk_int rfl (by omega)), trivial⟩), rfl, (rfl)⟩
   have hc61p : ¬ (((((lim ((lim (val a * sc)).getD (j - 1) 0 + 1000000000 * R))).length : Nat) : Int) > ((((lim (val b * sc))).length : Nat) : Int)) := by first | simpa using hc61 | exact bang_t hc61 | exact bang_f hc61
   have hge0 := getD_none (l := (lim ((lim (val a * sc)).getD (j - 1) 0 + 1000000000 * R))) (k := (lim (val b * sc)).length) (by omega)
   refine c_skip ?_
   refine x_tn ?_
   exact ⟨(0), (hF.all ⟨rfl, rfl, rfl, rfl, rfl, rfl, rfl, rfl, rfl, rfl, (lk_int rfl (by omega)), trivial⟩), rfl, (by rw [hge0, Nat.zero_mul])⟩
  clear hF fa
  rintro fa _ ⟨h1, hF, rfl, hh1⟩
  refine c_cut (fun fa w' => ∃ h2 : Nat, Frm 173 fa [(0, (.slice (A_a) (a.length) (c_a))), (1, (.slice (A_b) (b.length) (c_b))), (8, (.int .u32 (((sc : Nat) : Int)))), (9, (.slice (A16) (((lim (val b * sc))).length) (c17))), (10, (.int .u64 (((((lim (val b * sc))).getD ((lim (val b * sc)).length - 1) 0 : Nat) : Int)))), (12, (.slice (some ⟨g22, 0, none⟩) (((lim (val a * sc))).length) (a.length + 1))), (13, (.slice (A29) (((lim (val a * sc))).length) (c30))), (14, (.int .i64 (((j : Nat) : Int) - 1))), (11, (.slice (A58) (((lim ((lim (val a * sc)).getD (j - 1) 0 + 1000000000 * R))).length) (c59))), (76, (.bool (decide ((((j : Nat) : Int) - 1) ≥ 0)))), (15, (.int .u64 (((h2 : Nat) : Int))))] ∧ w55 = w' ∧ (h2 = (lim ((lim (val a * sc)).getD (j - 1) 0 + 1000000000 * R)).getD (lim (val b * sc)).length 0 * 1000000000 + (lim ((lim (val a * sc)).getD (j - 1) 0 + 1000000000 * R)).getD ((lim (val b * sc)).length - 1) 0)) ?_ ?_
  ·
   refine c_seq ?_
   refine c_reg ?_
   refine pr hF (pm rfl <| pg (fun _ hF => ex_len TfPA.sls22 (hF.ev rfl)) <| pm rfl <| pg (fun _ hF => ex_len TfPA.sls22 (hF.ev rfl)) <| pg (fun _ hF => ex_geq (hF.ev rfl) (hF.ev rfl)) <| PR.nil) ?_
   clear hF fa; intro fa hF
   refine c_nil_then ?_
   refine c_cond hF rfl (fun hc65 => ?_) (fun hc65 => ?_)
   ·
    have hc65p : ((((lim ((lim (val a * sc)).getD (j - 1) 0 + 1000000000 * R))).length : Nat) : Int) ≥ ((((lim (val b * sc))).length : Nat) : Int) := by first | simpa using hc65 | exact bang_t hc65 | exact bang_f hc65
    refine c_reg ?_
    refine pr hF (pm rfl <| pm rfl <| pm rfl <| pg (fun _ hF => ex_len TfPA.sls22 (hF.ev rfl)) <| pg (fun _ hF => ex_sub (hF.ev rfl) (hF.ev rfl) vi64) <| PR.nil) ?_
    clear hF fa; intro fa hF
    obtain ⟨ad66, hA67, hq68⟩ := hu60.cl.at_ (us_get (l := ((lim ((lim (val a * sc)).getD (j - 1) 0 + 1000000000 * R)))) (i := (lim (val b * sc)).length - 1) (by omega))
    refine pr hF (pg (fun _ hF => ex_idx (j := (lim (val b * sc)).length - 1) TfPA.sl22 (hF.ev rfl) hA67 (hF.ev rfl) (by omega) (by omega)) <| pg (fun _ hF => ex_load1 TfPA.one62 (hF.ev rfl) hq68) <| pg (fun _ hF => ex_conv TfPA.unds62 TfPA.und75 (hF.ev rfl) (wu64n (by omega))) <| pg (fun _ hF => ex_add (hF.ev rfl) (hF.ev rfl) vu64) <| pa rfl <| PR.nil) ?_
    clear hF fa; intro fa hF
    replace hF : Frm 173 fa [(0, (.slice (A_a) (a.length) (c_a))), (1, (.slice (A_b) (b.length) (c_b))), (8, (.int .u32 (((sc : Nat) : Int)))), (9, (.slice (A16) (((lim (val b * sc))).length) (c17))), (10, (.int .u64 (((((lim (val b * sc))).getD ((lim (val b * sc)).length - 1) 0 : Nat) : Int)))), (12, (.slice (some ⟨g22, 0, none⟩) (((lim (val a * sc))).length) (a.length + 1))), (13, (.slice (A29) (((lim (val a * sc))).length) (c30))), (14, (.int .i64 (((j : Nat) : Int) - 1))), (11, (.slice (A58) (((lim ((lim (val a * sc)).getD (j - 1) 0 + 1000000000 * R))).length) (c59))), (76, (.bool (decide ((((j : Nat) : Int) - 1) ≥ 0)))), (15, (.int .u64 (((h1 : Nat) : Int) + ((((lim ((lim (val a * sc)).getD (j - 1) 0 + 1000000000 * R))).getD ((lim (val b * sc)).length - 1) 0 : Nat) : Int)))), (103, (.bool (decide (((((lim ((lim (val a * sc)).getD (j - 1) 0 + 1000000000 * R))).length : Nat) : Int) ≥ ((((lim (val b * sc))).length : Nat) : Int)))))] := (hF.all ⟨rfl, rfl, rfl, rfl, rfl, rfl, rfl, rfl, rfl, rfl, rfl, rfl, trivial⟩)
    refine c_nil ?_
    refine x_tn ?_
    exact ⟨(h1 + (((lim ((lim (val a * sc)).getD (j - 1) 0 + 1000000000 * R))).getD ((lim (val b * sc)).length - 1) 0)), (hF.all ⟨rfl, rfl, rfl, rfl, rfl, rfl, rfl, rfl, rfl, rfl, (lk_int rfl (by omega)), trivial⟩), rfl, (by rw [hh1])⟩
   have hc65p : ¬ (((((lim ((lim (val a * sc)).getD (j - 1) 0 + 1000000000 * R))).length : Nat) : Int) ≥ ((((lim (val b * sc))).length : Nat) : Int)) := by first | simpa using hc65 | exact bang_t hc65 | exact bang_f hc65
   have hge1 := getD_none (l := (lim ((lim (val a * sc)).getD (j - 1) 0 + 1000000000 * R))) (k := (lim (val b * sc)).length - 1) (by omega)
   refine c_skip ?_
   refine x_tn ?_
   exact ⟨(h1), (hF.all ⟨rfl, rfl, rfl, rfl, rfl, rfl, rfl, rfl, rfl, rfl, (lk_int rfl (by omega)), trivial⟩), rfl, (by rw [hh1, hge1, Nat.add_zero])⟩
  clear hF fa
  rintro fa _ ⟨h2, hF, rfl, hh2⟩
  refine c_seq ?_
  obtain ⟨hdge, hdh⟩ := digit_ge (V := (val b * sc)) (n := (lim (val b * sc)).length) rfl rfl (by omega) (top := (lim (val b * sc)).getD ((lim (val b * sc)).length - 1) 0) rfl hR2 (by omega)
  rw [← hh2] at hdge hdh
  refine c_reg ?_
  refine pr hF (pm rfl <| pm rfl <| pg (fun _ hF => ex_quo (hF.ev rfl) (hF.ev rfl) (by omega) (q_u64 (x := h2) (y := ((lim (val b * sc))).getD ((lim (val b * sc)).length - 1) 0) (by omega) (by omega) (by omega))) <| pa rfl <| PR.nil) ?_
  clear hF fa; intro fa hF
  refine c_nil_then ?_
  refine c_cut (fun fa w' => ∃ dg : Nat, Frm 173 fa [(0, (.slice (A_a) (a.length) (c_a))), (1, (.slice (A_b) (b.length) (c_b))), (8, (.int .u32 (((sc : Nat) : Int)))), (9, (.slice (A16) (((lim (val b * sc))).length) (c17))), (10, (.int .u64 (((((lim (val b * sc))).getD ((lim (val b * sc)).length - 1) 0 : Nat) : Int)))), (12, (.slice (some ⟨g22, 0, none⟩) (((lim (val a * sc))).length) (a.length + 1))), (13, (.slice (A29) (((lim (val a * sc))).length) (c30))), (14, (.int .i64 (((j : Nat) : Int) - 1))), (11, (.slice (A58) (((lim ((lim (val a * sc)).getD (j - 1) 0 + 1000000000 * R))).length) (c59))), (76, (.bool (decide ((((j : Nat) : Int) - 1) ≥ 0)))), (15, (.int .u64 (((h2 : Nat) : Int)))), (16, (.int .u64 (((dg : Nat) : Int))))] ∧ w55 = w' ∧ (dg ≤ 999999999) ∧ (((lim (val a * sc)).getD (j - 1) 0 + 1000000000 * R) < (dg + 1) * (val b * sc))) ?_ ?_
  ·
   refine c_seq ?_
   refine c_reg ?_
   refine pr hF (pm rfl <| pg (fun _ hF => ex_gtr (hF.ev rfl) (hF.ev rfl)) <| PR.nil) ?_
   clear hF fa; intro fa hF
   refine c_nil_then ?_
   refine c_cond hF rfl (fun hc69 => ?_) (fun hc69 => ?_)
   ·
    have hc69p : ((h2 / (((lim (val b * sc))).getD ((lim (val b * sc)).length - 1) 0) : Nat) : Int) > 999999999 := by first | simpa using hc69 | exact bang_t hc69 | exact bang_f hc69
    refine c_reg ?_
    refine pr hF (pa rfl <| PR.nil) ?_
    clear hF fa; intro fa hF
    refine c_nil ?_
    refine x_tn ?_
    exact ⟨999999999, (hF.all ⟨rfl, rfl, rfl, rfl, rfl, rfl, rfl, rfl, rfl, rfl, rfl, (lk_int rfl (by omega)), trivial⟩), rfl, (by omega), (digit_cap hR2)⟩
   have hc69p : ¬ (((h2 / (((lim (val b * sc))).getD ((lim (val b * sc)).length - 1) 0) : Nat) : Int) > 999999999) := by first | simpa using hc69 | exact bang_t hc69 | exact bang_f hc69
   refine c_skip ?_
   refine x_tn ?_
   exact ⟨h2 / (((lim (val b * sc))).getD ((lim (val b * sc)).length - 1) 0), (hF.all ⟨rfl, rfl, rfl, rfl, rfl, rfl, rfl, rfl, rfl, rfl, rfl, (lk_int rfl (by omega)), trivial⟩), rfl, (by omega), (hdge)⟩
  clear hF fa
  rintro fa _ ⟨dg, hF, rfl, hdg, hdgR⟩
  refine c_seq ?_
  refine c_reg ?_
  refine pr hF (pm rfl <| pm rfl <| pg (fun _ hF => ex_conv TfPA.unds75 TfPA.und62 (hF.ev rfl) (wu32n (by omega))) <| PR.nil) ?_
  clear hF fa; intro fa hF
  have hC := ref01_by_ok (w := w55) (X := (g22 :: X)) (a := ((lim (val b * sc)))) (hS.bnd hX) ⟨_, (((lim (val b * sc))).length), _, rfl, (rfl), (hu18.ext (((((((E24.trans E28).trans E33).trans E40).trans E49).trans E47).trans E54).trans E57))⟩ (dg) (by omega) (lb_lim _) (by omega)
  rw [show (lim (val (((lim (val b * sc)))) * dg)) = (lim ((val b * sc) * dg)) from by rw [val_lim]] at hC
  refine st rfl (op_call hF rfl TfPA.body123 (args2 (hF.ev rfl) (hF.ev (ev_int (b := ((dg : Nat) : Int)) rfl (by first | rfl | omega)))) hC ?_)
  clear hC
  rintro _ w70 ⟨⟨A73, _, c74, rfl, rfl, hu75⟩, hb71⟩
  refine gen_ ?_; clear hF fa; intro fa hF
  replace hS := hS.call hb71; have E72 := Ext.call (g22 :: X) hb71
  refine pr hF (pa rfl <| PR.nil) ?_
  clear hF fa; intro fa hF
  refine c_nil_then ?_
  refine c_seq ?_
  refine c_block ?_
  refine c_loop (fun mu fa w' => ∃ dk : Nat, ∃ Ap : Option Addr, ∃ cp : Nat, Frm 173 fa [(0, (.slice (A_a) (a.length) (c_a))), (1, (.slice (A_b) (b.length) (c_b))), (8, (.int .u32 (((sc : Nat) : Int)))), (9, (.slice (A16) (((lim (val b * sc))).length) (c17))), (10, (.int .u64 (((((lim (val b * sc))).getD ((lim (val b * sc)).length - 1) 0 : Nat) : Int)))), (12, (.slice (some ⟨g22, 0, none⟩) (((lim (val a * sc))).length) (a.length + 1))), (13, (.slice (A29) (((lim (val a * sc))).length) (c30))), (14, (.int .i64 (((j : Nat) : Int) - 1))), (11, (.slice (A58) (((lim ((lim (val a * sc)).getD (j - 1) 0 + 1000000000 * R))).length) (c59))), (76, (.bool (decide ((((j : Nat) : Int) - 1) ≥ 0)))), (15, (.int .u64 (((h2 : Nat) : Int)))), (16, (.int .u64 (((dk : Nat) : Int)))), (17, (.slice (Ap) ((lim ((val b * sc) * dk)).length) (cp)))] ∧ St w w' [(g22, 62, (us (o)).toArray)] ∧ Ext w70 (g22 :: X) w' (g22 :: X) ∧ UC w' (g22 :: X) Ap cp (lim ((val b * sc) * dk)) ∧ (dk ≤ 999999999) ∧ (((lim (val a * sc)).getD (j - 1) 0 + 1000000000 * R) < (dk + 1) * (val b * sc)) ∧ dk = mu) ?_ ?_
  ·
   exact ⟨_, dg, A73, c74, (hF.all ⟨rfl, rfl, rfl, rfl, rfl, rfl, rfl, rfl, rfl, rfl, rfl, (lk_int rfl (by omega)), (lk_slice rfl (by omega)), trivial⟩), hS, Ext.refl _ _, hu75, (hdg), (hdgR), rfl⟩
  clear hF fa; intro n1_ fa w' hI
  clear hS
  obtain ⟨dk, Ap, cp, hF, hS, E77, hp, hdk, hdR, rfl⟩ := hI
  rename World => w76
  refine c_seq ?_
  refine c_seq ?_
  refine c_reg ?_
  refine pr hF (pm rfl <| pm rfl <| PR.nil) ?_
  clear hF fa; intro fa hF
  have hC := ref01_compare_ok (w := w76) (X := (g22 :: X)) (a := (lim ((val b * sc) * dk))) (b := ((lim ((lim (val a * sc)).getD (j - 1) 0 + 1000000000 * R)))) (hS.bnd hX) ⟨_, ((lim ((val b * sc) * dk)).length), _, rfl, (rfl), hp⟩ ⟨_, (((lim ((lim (val a * sc)).getD (j - 1) 0 + 1000000000 * R))).length), _, rfl, (rfl), (hu60.ext (E72.trans E77))⟩ (CanL.lim _) (CanL.lim _)
  refine st rfl (op_call hF rfl TfPA.body73 (args2 (hF.ev rfl) (hF.ev rfl)) hC ?_)
  clear hC
  rintro _ w78 ⟨rfl, hb79⟩
  refine gen_ ?_; clear hF fa; intro fa hF
  replace hS := hS.call hb79; have E80 := Ext.call (g22 :: X) hb79
  refine pr hF (pg (fun _ hF => ex_gtr (hF.ev rfl) (hF.ev rfl)) <| PR.nil) ?_
  clear hF fa; intro fa hF
  refine c_nil_then ?_
  refine c_cond hF rfl (fun hc81 => ?_) (fun hc81 => ?_)
  ·
   have hc81p : (cmpN (val ((lim ((val b * sc) * dk)))) (val (((lim ((lim (val a * sc)).getD (j - 1) 0 + 1000000000 * R)))))) > 0 := by first | simpa using hc81 | exact bang_t hc81 | exact bang_f hc81
   have hgt := cmpN_gt0.1 hc81p; rw [val_lim, val_lim] at hgt
   have hdp : 0 < dk := by rcases Nat.eq_zero_or_pos dk with h0 | h0; rw [h0, Nat.mul_zero] at hgt; omega; exact h0
   have hVd := parts_dec (V := (val b * sc)) hdp; have hVle : (val b * sc) ≤ (val b * sc) * dk := Nat.le_mul_of_pos_right _ hdp
   refine c_skip ?_
   refine x_tn ?_
   refine c_block ?_
   refine c_seq ?_
   refine c_reg ?_
   refine pr hF (pm rfl <| pg (fun _ hF => ex_sub (hF.ev rfl) (hF.ev rfl) vu64) <| pa rfl <| PR.nil) ?_
   clear hF fa; intro fa hF
   replace hF : Frm 173 fa [(0, (.slice (A_a) (a.length) (c_a))), (1, (.slice (A_b) (b.length) (c_b))), (8, (.int .u32 (((sc : Nat) : Int)))), (9, (.slice (A16) (((lim (val b * sc))).length) (c17))), (10, (.int .u64 (((((lim (val b * sc))).getD ((lim (val b * sc)).length - 1) 0 : Nat) : Int)))), (12, (.slice (some ⟨g22, 0, none⟩) (((lim (val a * sc))).length) (a.length + 1))), (13, (.slice (A29) (((lim (val a * sc))).length) (c30))), (14, (.int .i64 (((j : Nat) : Int) - 1))), (11, (.slice (A58) (((lim ((lim (val a * sc)).getD (j - 1) 0 + 1000000000 * R))).length) (c59))), (76, (.bool (decide ((((j : Nat) : Int) - 1) ≥ 0)))), (15, (.int .u64 (((h2 : Nat) : Int)))), (16, (.int .u64 (((dk : Nat) : Int) - 1))), (17, (.slice (Ap) ((lim ((val b * sc) * dk)).length) (cp))), (125, (.bool (decide ((cmpN (val ((lim ((val b * sc) * dk)))) (val (((lim ((lim (val a * sc)).getD (j - 1) 0 + 1000000000 * R)))))) > 0))))] := (hF.all ⟨rfl, rfl, rfl, rfl, rfl, rfl, rfl, rfl, rfl, rfl, rfl, rfl, rfl, rfl, trivial⟩)
   refine c_nil_then ?_
   refine c_reg ?_
   refine pr hF (pm rfl <| pm rfl <| PR.nil) ?_
   clear hF fa; intro fa hF
   have hC := ref01_minus_ok (w := w78) (X := (g22 :: X)) (x := (lim ((val b * sc) * dk))) (y := ((lim (val b * sc)))) (hS.bnd hX) ⟨_, ((lim ((val b * sc) * dk)).length), _, rfl, (rfl), (hp.ext E80)⟩ ⟨_, (((lim (val b * sc))).length), _, rfl, (rfl), (hu18.ext ((((((((((E24.trans E28).trans E33).trans E40).trans E49).trans E47).trans E54).trans E57).trans E72).trans E77).trans E80))⟩ (by have := scaled_len (a := (val b * sc)) (s := dk) (by omega); omega) (by omega) (lb_lim _) (lb_lim _) (lim_le_of_le hVle) (by rw [val_lim, val_lim]; exact hVle)
   rw [show (lim (val ((lim ((val b * sc) * dk))) - val (((lim (val b * sc)))))) = (lim ((val b * sc) * (dk - 1))) from by rw [val_lim, val_lim, hVd]] at hC
   refine st rfl (op_call hF rfl TfPA.body74 (args2 (hF.ev rfl) (hF.ev rfl)) hC ?_)
   clear hC
   rintro _ w82 ⟨⟨A85, _, c86, rfl, rfl, hu87⟩, hb83⟩
   refine gen_ ?_; clear hF fa; intro fa hF
   replace hS := hS.call hb83; have E84 := Ext.call (g22 :: X) hb83
   refine pr hF (pa rfl <| PR.nil) ?_
   clear hF fa; intro fa hF
   refine c_nil ?_
   refine x_bn ?_
   refine x_tn ?_
   exact ⟨_, (by omega), (dk - 1), A85, c86, (hF.all ⟨rfl, rfl, rfl, rfl, rfl, rfl, rfl, rfl, rfl, rfl, rfl, (lk_int rfl (by omega)), (lk_slice rfl (by omega)), trivial⟩), hS, ((E77.trans E80).trans E84), hu87, (by omega), (by rw [Nat.sub_add_cancel hdp]; exact Nat.lt_of_lt_of_eq hgt (Nat.mul_comm _ _)), rfl⟩
  have hc81p : ¬ ((cmpN (val ((lim ((val b * sc) * dk)))) (val (((lim ((lim (val a * sc)).getD (j - 1) 0 + 1000000000 * R)))))) > 0) := by first | simpa using hc81 | exact bang_t hc81 | exact bang_f hc81
  have hle := mt cmpN_gt0.2 hc81p; rw [val_lim, val_lim] at hle
  have hle2 : (val b * sc) * dk ≤ ((lim (val a * sc)).getD (j - 1) 0 + 1000000000 * R) := by omega
  refine c_exit ?_
  refine x_te ?_
  refine x_te ?_
  refine x_bh ?_
  refine x_tn ?_
  refine c_seq ?_
  refine c_reg ?_
  refine pr hF (pm rfl <| pm rfl <| PR.nil) ?_
  clear hF fa; intro fa hF
  have hC := ref01_minus_ok (w := w78) (X := (g22 :: X)) (x := ((lim ((lim (val a * sc)).getD (j - 1) 0 + 1000000000 * R)))) (y := (lim ((val b * sc) * dk))) (hS.bnd hX) ⟨_, (((lim ((lim (val a * sc)).getD (j - 1) 0 + 1000000000 * R))).length), _, rfl, (rfl), (hu60.ext ((E72.trans E77).trans E80))⟩ ⟨_, ((lim ((val b * sc) * dk)).length), _, rfl, (rfl), (hp.ext E80)⟩ (by omega) (by have := lim_le_of_le hle2; omega) (lb_lim _) (lb_lim _) (lim_le_of_le hle2) (by rw [val_lim, val_lim]; exact hle2)
  rw [show (lim (val (((lim ((lim (val a * sc)).getD (j - 1) 0 + 1000000000 * R)))) - val ((lim ((val b * sc) * dk))))) = (lim (((lim (val a * sc)).getD (j - 1) 0 + 1000000000 * R) - (val b * sc) * dk)) from by rw [val_lim, val_lim]] at hC
  refine st rfl (op_call hF rfl TfPA.body74 (args2 (hF.ev rfl) (hF.ev rfl)) hC ?_)
  clear hC
  rintro _ w88 ⟨⟨A91, _, c92, rfl, rfl, hu93⟩, hb89⟩
  refine gen_ ?_; clear hF fa; intro fa hF
  replace hS := hS.call hb89; have E90 := Ext.call (g22 :: X) hb89
  refine pr hF (pa rfl <| PR.nil) ?_
  clear hF fa; intro fa hF
  replace hF : Frm 173 fa [(0, (.slice (A_a) (a.length) (c_a))), (1, (.slice (A_b) (b.length) (c_b))), (8, (.int .u32 (((sc : Nat) : Int)))), (9, (.slice (A16) (((lim (val b * sc))).length) (c17))), (10, (.int .u64 (((((lim (val b * sc))).getD ((lim (val b * sc)).length - 1) 0 : Nat) : Int)))), (12, (.slice (some ⟨g22, 0, none⟩) (((lim (val a * sc))).length) (a.length + 1))), (13, (.slice (A29) (((lim (val a * sc))).length) (c30))), (14, (.int .i64 (((j : Nat) : Int) - 1))), (11, (.slice (A91) (((lim (((lim (val a * sc)).getD (j - 1) 0 + 1000000000 * R) - (val b * sc) * dk))).length) (c92))), (76, (.bool (decide ((((j : Nat) : Int) - 1) ≥ 0)))), (15, (.int .u64 (((h2 : Nat) : Int)))), (16, (.int .u64 (((dk : Nat) : Int)))), (17, (.slice (Ap) ((lim ((val b * sc) * dk)).length) (cp))), (125, (.bool (decide ((cmpN (val ((lim ((val b * sc) * dk)))) (val (((lim ((lim (val a * sc)).getD (j - 1) 0 + 1000000000 * R)))))) > 0))))] := (hF.all ⟨rfl, rfl, rfl, rfl, rfl, rfl, rfl, rfl, rfl, rfl, rfl, rfl, rfl, rfl, trivial⟩)
  refine c_nil_then ?_
  refine c_reg ?_
  refine pr hF (pm rfl <| pm rfl <| pm rfl <| pg (fun _ hF => ex_conv TfPA.unds75 TfPA.und62 (hF.ev rfl) (wu32n (by omega))) <| pg (fun _ hF => ex_idxo (j := j - 1) TfPA.sl22 (hF.ev rfl) (hF.ev rfl) (by omega) (by omega)) <| PR.nil) ?_
  clear hF fa; intro fa hF
  refine st rfl (op_store (vs := #[.int .u32 ((dk : Nat) : Int)]) (v := .int .u32 ((dk : Nat) : Int)) (X := (g22 :: X)) hF hS 0 rfl (by simp) rfl (ev_int rfl (by omega)) rfl TfPA.size62 rfl (us_fit (by first | omega | (simp; omega))) ?_)
  intro w94 hS E95
  rw [splice_us (by first | omega | (simp; omega))] at hS
  refine c_nil ?_
  refine x_bn ?_
  refine x_tn ?_
  refine c_reg ?_
  refine pr hF (pm rfl <| pg (fun _ hF => ex_sub (hF.ev rfl) (hF.ev rfl) vi64) <| pa rfl <| PR.nil) ?_
  clear hF fa; intro fa hF
  refine c_nil ?_
  refine x_tn ?_
  exact ⟨_, (by omega), o.set (j - 1) (dk), (((lim (val a * sc)).getD (j - 1) 0 + 1000000000 * R) - (val b * sc) * dk), (j - 1), A91, c92, (hF.all ⟨rfl, rfl, rfl, rfl, rfl, rfl, rfl, (lk_int rfl (by omega)), (lk_slice rfl (by first | omega | (rw [lim_zero]; rfl))), trivial⟩), hS, ((((((((((E33.trans E40).trans E49).trans E47).trans E54).trans E57).trans E72).trans E77).trans E80).trans E90).trans E95), (hu93.ext E95), (by omega), (by simp; omega), (lb_set hbo (by omega)), (by rw [drop_set_lt (by omega)]; exact hz), (parts_step (by omega) hj (by omega) hI rfl hle2), (parts_lt hdR hle2), rfl⟩
 have hc34p : ¬ ((((j : Nat) : Int) - 1) ≥ 0) := by first | simpa using hc34 | exact bang_t hc34 | exact bang_f hc34
 refine c_exit ?_
 refine x_te ?_
 refine x_te ?_
 refine x_bh ?_
 refine x_tn ?_
 refine c_seq ?_
 refine c_reg ?_
 refine pr hF (pa rfl <| PR.nil) ?_
 clear hF fa; intro fa hF
 refine c_nil_then ?_
 refine c_seq ?_
 have hRl := lim_le_of_le (Nat.le_of_lt hR)
 refine c_reg ?_
 refine pr hF (pm rfl <| pg (fun _ hF => ex_len TfPA.sls22 (hF.ev rfl)) <| PR.nil) ?_
 clear hF fa; intro fa hF
 refine st rfl (op_make (X := (g22 :: X)) (nl := (lim (R)).length) (nc := (lim (R)).length) hF hS rfl TfPA.sl22 TfPA.el62 rfl rfl (by omega) (by omega) (by omega) (by omega) (by omega) (made_us _) ?_)
 intro g96 w97 hg99 hS E98; refine gen_ ?_; clear hF fa; intro fa hF
 rw [Nat.mul_one] at hS
 refine pr hF (pa rfl <| PR.nil) ?_
 clear hF fa; intro fa hF
 refine c_nil_then ?_
 refine c_seq ?_
 refine c_seq ?_
 refine c_reg ?_
 refine pr hF (pm rfl <| pg (fun _ hF => ex_len TfPA.sls22 (hF.ev rfl)) <| pg (fun _ hF => ex_sub (hF.ev rfl) (hF.ev rfl) vi64) <| pa rfl <| PR.nil) ?_
 clear hF fa; intro fa hF
 replace hF : Frm 173 fa [(0, (.slice (A_a) (a.length) (c_a))), (1, (.slice (A_b) (b.length) (c_b))), (8, (.int .u32 (((sc : Nat) : Int)))), (9, (.slice (A16) (((lim (val b * sc))).length) (c17))), (10, (.int .u64 (((((lim (val b * sc))).getD ((lim (val b * sc)).length - 1) 0 : Nat) : Int)))), (12, (.slice (some ⟨g22, 0, none⟩) (((lim (val a * sc))).length) (a.length + 1))), (13, (.slice (A29) (((lim (val a * sc))).length) (c30))), (14, (.int .i64 (((j : Nat) : Int) - 1))), (11, (.slice (Ar) ((lim (R)).length) (cr))), (76, (.bool (decide ((((j : Nat) : Int) - 1) ≥ 0)))), (18, (.int .u64 (0))), (19, (.slice (some ⟨g96, 0, none⟩) ((lim (R)).length) ((lim (R)).length))), (20, (.int .i64 ((((lim (R)).length : Nat) : Int) - 1)))] := (hF.all ⟨rfl, rfl, rfl, rfl, rfl, rfl, rfl, rfl, rfl, rfl, rfl, rfl, rfl, trivial⟩)
 refine c_nil_then ?_
 refine c_block ?_
 refine c_loop (fun mu fa w' => ∃ o3 : List Nat, ∃ rr : Nat, ∃ k : Nat, Frm 173 fa [(0, (.slice (A_a) (a.length) (c_a))), (1, (.slice (A_b) (b.length) (c_b))), (8, (.int .u32 (((sc : Nat) : Int)))), (9, (.slice (A16) (((lim (val b * sc))).length) (c17))), (10, (.int .u64 (((((lim (val b * sc))).getD ((lim (val b * sc)).length - 1) 0 : Nat) : Int)))), (12, (.slice (some ⟨g22, 0, none⟩) (((lim (val a * sc))).length) (a.length + 1))), (13, (.slice (A29) (((lim (val a * sc))).length) (c30))), (14, (.int .i64 (((j : Nat) : Int) - 1))), (11, (.slice (Ar) ((lim (R)).length) (cr))), (76, (.bool (decide ((((j : Nat) : Int) - 1) ≥ 0)))), (19, (.slice (some ⟨g96, 0, none⟩) ((lim (R)).length) ((lim (R)).length))), (18, (.int .u64 (((rr : Nat) : Int)))), (20, (.int .i64 (((k : Nat) : Int) - 1)))] ∧ St w w' [(g96, 62, (us (o3)).toArray), (g22, 62, (us (o)).toArray)] ∧ Ext w97 (g96 :: (g22 :: X)) w' (g96 :: (g22 :: X)) ∧ (k ≤ (lim R).length) ∧ (o3.length = (lim R).length) ∧ (Lb o3) ∧ (rr < sc) ∧ (val ((lim R).drop k) = sc * val (o3.drop k) + rr) ∧ k = mu) ?_ ?_
 ·
  exact ⟨_, List.replicate (lim R).length 0, 0, (lim R).length, (hF.all ⟨rfl, rfl, rfl, rfl, rfl, rfl, rfl, rfl, rfl, rfl, rfl, (lk_int rfl (by omega)), (lk_int rfl (by omega)), trivial⟩), hS, Ext.refl _ _, (Nat.le_refl _), (by simp), (lb_zeros _), (hsc0), (by rw [val_drop_all (Nat.le_refl _), val_drop_all (by simp)]; simp), rfl⟩
 clear hF fa; intro n2_ fa w' hI
 clear hS
 obtain ⟨o3, rr, k, hF, hS, E101, hk, ho3, hbo3, hrr, hv3, rfl⟩ := hI
 rename World => w100
 have hak := (lb_lim R).getD (k - 1)
 obtain ⟨hbl1, hbl2, hbl3⟩ := byword_lt hrr hscB hak (t := _) rfl
 refine c_seq ?_
 refine c_seq ?_
 refine c_reg ?_
 refine pr hF (pm rfl <| pg (fun _ hF => ex_geq (hF.ev rfl) (hF.ev rfl)) <| PR.nil) ?_
 clear hF fa; intro fa hF
 refine c_nil_then ?_
 refine c_cond hF rfl (fun hc102 => ?_) (fun hc102 => ?_)
 ·
  have hc102p : (((k : Nat) : Int) - 1) ≥ 0 := by first | simpa using hc102 | exact bang_t hc102 | exact bang_f hc102
  refine c_skip ?_
  refine x_tn ?_
  refine c_seq ?_
  refine c_block ?_
  refine c_seq ?_
  refine c_reg ?_
  refine pr hF (pm rfl <| pg (fun _ hF => ex_mul (hF.ev rfl) (hF.ev rfl) vu64) <| pm rfl <| pm rfl <| PR.nil) ?_
  clear hF fa; intro fa hF
  obtain ⟨ad103, hA104, hq105⟩ := (hr.ext (E98.trans E101)).cl.at_ (us_get (l := (lim (R))) (i := k - 1) (by omega))
  refine pr hF (pg (fun _ hF => ex_idx (j := k - 1) TfPA.sl22 (hF.ev rfl) hA104 (hF.ev rfl) (by omega) (by omega)) <| pg (fun _ hF => ex_load1 TfPA.one62 (hF.ev rfl) hq105) <| pg (fun _ hF => ex_conv TfPA.unds62 TfPA.und75 (hF.ev rfl) (wu64n (by omega))) <| pg (fun _ hF => ex_add (hF.ev rfl) (hF.ev rfl) vu64) <| pa rfl <| PR.nil) ?_
  clear hF fa; intro fa hF
  refine c_nil_then ?_
  refine c_seq ?_
  refine c_reg ?_
  refine pr hF (pm rfl <| pm rfl <| pm rfl <| pm rfl <| pg (fun _ hF => ex_conv TfPA.unds62 TfPA.und75 (hF.ev rfl) (wu64n (by omega))) <| pg (fun _ hF => ex_quo (hF.ev rfl) (hF.ev rfl) (by omega) (q_u64 (x := (rr * 1000000000) + ((lim (R)).getD (k - 1) 0)) (y := sc) (by omega) (by omega) (by omega))) <| pg (fun _ hF => ex_conv TfPA.unds75 TfPA.und62 (hF.ev rfl) (wu32n (by omega))) <| pg (fun _ hF => ex_idxo (j := k - 1) TfPA.sl22 (hF.ev rfl) (hF.ev rfl) (by omega) (by omega)) <| PR.nil) ?_
  clear hF fa; intro fa hF
  refine st rfl (op_store (vs := #[.int .u32 ((((rr * 1000000000) + ((lim (R)).getD (k - 1) 0)) / sc : Nat) : Int)]) (v := .int .u32 ((((rr * 1000000000) + ((lim (R)).getD (k - 1) 0)) / sc : Nat) : Int)) (X := (g96 :: (g22 :: X))) hF hS 0 rfl (by simp) rfl (ev_int rfl (by omega)) rfl TfPA.size62 rfl (us_fit (by first | omega | (simp; omega))) ?_)
  intro w106 hS E107
  rw [splice_us (by first | omega | (simp; omega))] at hS
  replace hF : Frm 173 fa [(0, (.slice (A_a) (a.length) (c_a))), (1, (.slice (A_b) (b.length) (c_b))), (8, (.int .u32 (((sc : Nat) : Int)))), (9, (.slice (A16) (((lim (val b * sc))).length) (c17))), (10, (.int .u64 (((((lim (val b * sc))).getD ((lim (val b * sc)).length - 1) 0 : Nat) : Int)))), (12, (.slice (some ⟨g22, 0, none⟩) (((lim (val a * sc))).length) (a.length + 1))), (13, (.slice (A29) (((lim (val a * sc))).length) (c30))), (14, (.int .i64 (((j : Nat) : Int) - 1))), (11, (.slice (Ar) ((lim (R)).length) (cr))), (76, (.bool (decide ((((j : Nat) : Int) - 1) ≥ 0)))), (19, (.slice (some ⟨g96, 0, none⟩) ((lim (R)).length) ((lim (R)).length))), (18, (.int .u64 ((((rr : Nat) : Int) * 1000000000) + (((lim (R)).getD (k - 1) 0 : Nat) : Int)))), (20, (.int .i64 (((k : Nat) : Int) - 1))), (146, (.bool (decide ((((k : Nat) : Int) - 1) ≥ 0))))] := (hF.all ⟨rfl, rfl, rfl, rfl, rfl, rfl, rfl, rfl, rfl, rfl, rfl, rfl, rfl, rfl, trivial⟩)
  refine c_nil_then ?_
  refine c_reg ?_
  refine pr hF (pm rfl <| pm rfl <| pg (fun _ hF => ex_conv TfPA.unds62 TfPA.und75 (hF.ev rfl) (wu64n (by omega))) <| pg (fun _ hF => ex_rem (hF.ev rfl) (hF.ev rfl) (by omega) (r_any (x := (rr * 1000000000) + ((lim (R)).getD (k - 1) 0)) (y := sc) (by omega) (by omega))) <| pa rfl <| PR.nil) ?_
  clear hF fa; intro fa hF
  refine c_nil ?_
  refine x_bn ?_
  refine x_tn ?_
  refine c_reg ?_
  refine pr hF (pm rfl <| pg (fun _ hF => ex_sub (hF.ev rfl) (hF.ev rfl) vi64) <| pa rfl <| PR.nil) ?_
  clear hF fa; intro fa hF
  refine c_nil ?_
  refine x_tn ?_
  exact ⟨_, (by omega), o3.set (k - 1) (((rr * 1000000000) + ((lim (R)).getD (k - 1) 0)) / sc), ((rr * 1000000000) + ((lim (R)).getD (k - 1) 0)) % sc, (k - 1), (hF.all ⟨rfl, rfl, rfl, rfl, rfl, rfl, rfl, rfl, rfl, rfl, rfl, (lk_int rfl (by omega)), (lk_int rfl (by omega)), trivial⟩), hS, (E101.trans E107), (by omega), (by simp; omega), (lb_set hbo3 hbl1), (hbl2), (byword_step (by omega) hk (by omega) hv3 rfl rfl), rfl⟩
 have hc102p : ¬ ((((k : Nat) : Int) - 1) ≥ 0) := by first | simpa using hc102 | exact bang_t hc102 | exact bang_f hc102
 refine c_exit ?_
 refine x_te ?_
 refine x_te ?_
 refine x_bh ?_
 refine x_tn ?_
 refine c_seq ?_
 refine c_reg ?_
 refine pr hF (pm rfl <| PR.nil) ?_
 clear hF fa; intro fa hF
 obtain ⟨hS1, hn1⟩ := hS.out hX 1 rfl
 have hu108 := UC.of_boxP (c := a.length + 1) (n := ((lim (val a * sc))).length) (L := o) (hS.get 1 rfl) hn1 (by unfold maxLen; omega) (by first | omega | (simp; omega)) (by first | omega | (simp; omega))
 have E109 : Ext w100 (g96 :: (g22 :: X)) w100 (g96 :: X) := Ext.drop (by simp +contextual)
 replace hu108 : UC w100 (g96 :: X) (some ⟨g22, 0, none⟩) (a.length + 1) (o.take (((lim (val a * sc))).length)) := hu108
 replace hS : St w w100 [(g96, 62, (us (o3)).toArray)] := hS1; clear hn1
 have hC := ref01_trim_ok (w := w100) (X := (g96 :: X)) (l := (o.take (((lim (val a * sc))).length))) (hS.bnd hX) ⟨_, (((lim (val a * sc))).length), _, rfl, (by rw [List.length_take]; omega), hu108⟩
 refine st rfl (op_call hF rfl TfPA.body60 (args1 (hF.ev rfl)) hC ?_)
 clear hC
 rintro _ w110 ⟨⟨A113, _, c114, rfl, rfl, hu115⟩, hb111⟩
 refine gen_ ?_; clear hF fa; intro fa hF
 replace hS := hS.call hb111; have E112 := Ext.call (g96 :: X) hb111
 refine pr hF (pm rfl <| PR.nil) ?_
 clear hF fa; intro fa hF
 obtain ⟨hS1, hn1⟩ := hS.out hX 0 rfl
 have hu116 := UC.of_box (L := o3) (hS.get 0 rfl) hn1 (by first | omega | (simp; omega))
 have E117 : Ext w110 (g96 :: X) w110 X := Ext.drop (by simp +contextual)
 replace hu116 : UC w110 X (some ⟨g96, 0, none⟩) (o3).length (o3) := hu116
 replace hS : St w w110 [] := hS1; clear hn1
 have hC := ref01_trim_ok (w := w110) (X := X) (l := o3) (hS.bnd hX) (UL.cap (n := (lim (R)).length) (c := (lim (R)).length) hu116 (by first | rfl | (simp; done) | omega) (by first | rfl | (simp; done) | omega))
 refine st rfl (op_call hF rfl TfPA.body60 (args1 (hF.ev rfl)) hC ?_)
 clear hC
 rintro _ w118 ⟨⟨A121, _, c122, rfl, rfl, hu123⟩, hb119⟩
 refine gen_ ?_; clear hF fa; intro fa hF
 replace hS := hS.call hb119; have E120 := Ext.call X hb119
 refine pr hF (pa rfl <| pa rfl <| PR.nil) ?_
 clear hF fa; intro fa hF
 refine c_nil_then ?_
 refine c_ret ?_
 have hk0 : k = 0 := by omega
 subst hk0
 have hj0 : j = 0 := by omega
 subst hj0
 rw [List.drop_zero, List.drop_zero, val_lim] at hv3 hI
 have htk := val_split (U := o) (k := (lim (val a * sc)).length) (by omega)
 rw [hz, Nat.mul_zero, Nat.add_zero] at htk
 have hq := parts_end hsc0 hI hR hv3 hrr
 refine end2 hF rfl (res_tmp hF rfl) (res_tmp hF rfl) ?_
 exact ⟨_, rfl, ⟨_, _, rfl, (UL.fin (L := (trimz (o.take (((lim (val a * sc))).length)))) ⟨_, _, _, rfl, (rfl), (hu115.ext (E117.trans E120))⟩ (by rw [← lim_val _ (hbo.take _), ← htk, hq.1]) (fun x hx => by simp [hx])), (UL.fin (L := (trimz o3)) ⟨_, _, _, rfl, (rfl), hu123⟩ (by rw [← lim_val _ hbo3, hq.2]) (fun x hx => by simp [hx]))⟩, hS.below⟩

end Go.Proofs.YtghlkihmnopenaaGreatDoor

namespace Go.Proofs.YtghlkihmnopenaaGreatDoor
open Go Go.RowKit Go.Sw
set_option linter.unusedVariables false
set_option maxRecDepth 100000
set_option maxHeartbeats 8000000
instance (a b : List Nat) : DenI Tryz.prog 94 [.c (lmc a), .c (lmc b)] (a.length ≤ 100000000000 ∧ b.length ≤ 100000000000 ∧ Lb a ∧ Lb b ∧ 0 < val b) (.tup [.c (lmc (pad (dql a b) (val a / val b))), .c (lmc (pad (drl a b) (val a % val b)))]) := ⟨fun hp => den2 (by kernel_rfl) fun w X u v hX hu hv => (integer_divide_ok hX hu.ul hv.ul hp.1 hp.2.1 hp.2.2.1 hp.2.2.2.1 hp.2.2.2.2).mono fun e w' ⟨u, he, ⟨qs, rs, r0, r1, h1, h2, h3, h4, h5, h6, h7, h8, h9⟩, hb⟩ => ⟨u, he, by subst h1; obtain ⟨e1, e2⟩ := div_pads h4 h5 h6 h7 h8 h9; rw [← e1, ← e2]; exact tup2 (.c h2.rep) (.c h3.rep), hb⟩⟩
instance (a b : List Nat) : DenI Tryz.prog 102 [.c (lmc a), .c (lmc b)] (a.length ≤ 1000000000 ∧ b.length ≤ 1000000000 ∧ CanL a ∧ CanL b ∧ 0 < val b) (.tup [.c (lmc (lim (val a / val b))), .c (lmc (lim (val a % val b)))]) := ⟨fun hp => den2 (by kernel_rfl) fun w X u v hX hu hv => (ref01_parts_ok hX hu.ul hv.ul hp.1 hp.2.1 hp.2.2.1 hp.2.2.2.1 hp.2.2.2.2).mono fun e w' ⟨u, he, ⟨r0, r1, h1, h2, h3⟩, hb⟩ => ⟨u, he, by subst h1; exact tup2 (.c h2.rep) (.c h3.rep), hb⟩⟩
end Go.Proofs.YtghlkihmnopenaaGreatDoor

namespace Go.Proofs.YtghlkihmnopenaaGreatDoor
open Go Go.RowKit Go.Sw
set_option linter.unusedVariables false
set_option maxRecDepth 100000
set_option maxHeartbeats 8000000
instance rh_sub (a b : Int) : DenI Tryz.prog 35 [Z a, Z b] (sz a ≤ 1000000000 ∧ sz b ≤ 1000000000) (Z (a - b)) := ⟨fun hp => by
 refine den_of (τ := tab) tab_ok mixed_ Tryz.func35 rfl (by kernel_rfl) (by kernel_rfl) (by kernel_rfl) ?_
 repeat' ((try (conv => whnf)); first
  | refine call_0 ?_
  | refine call_i ?_ ?_
  | (with_reducible refine onB_t ?_)
  | (with_reducible refine onB_f ?_)
  | (with_reducible refine onB_d (fun _ => ?_) (fun _ => ?_))
  | (with_reducible refine onB_n (fun _ => ?_) (fun _ => ?_))
  | refine OnB.mk (fun _ => ?_) (fun _ => ?_)
  | refine obl_i ?_ ?_
  | refine Drw.mk (by kernel_rfl) ?_
  | refine mks_i ?_ ?_
  | refine slp_i ?_ ?_
  | (with_reducible refine elem_u ?_ ?_)
  | (with_reducible refine elem_0 ?_)
  | (with_reducible refine elem_1 ?_)
  | refine Ends.mk ?_)
 all_goals (try refine Pr.mk ?_)
 all_goals first
  | with_reducible exact hp.2
  | (rw [sz_neg]; exact hp)
  | (refine zsE ?_; omega)
  | skip⟩

instance ih_sub (a b : Int) : DenI Tryz.prog 96 [Z a, Z b] (sz a ≤ 1000000000 ∧ sz b ≤ 1000000000) (Z (a - b)) := ⟨fun hp => by
 refine den_of (τ := tab) tab_ok mixed_ Tryz.func96 rfl (by kernel_rfl) (by kernel_rfl) (by kernel_rfl) ?_
 repeat' ((try (conv => whnf)); first
  | refine call_0 ?_
  | refine call_i ?_ ?_
  | (with_reducible refine onB_t ?_)
  | (with_reducible refine onB_f ?_)
  | (with_reducible refine onB_d (fun _ => ?_) (fun _ => ?_))
  | (with_reducible refine onB_n (fun _ => ?_) (fun _ => ?_))
  | refine OnB.mk (fun _ => ?_) (fun _ => ?_)
  | refine obl_i ?_ ?_
  | refine Drw.mk (by kernel_rfl) ?_
  | refine mks_i ?_ ?_
  | refine slp_i ?_ ?_
  | (with_reducible refine elem_u ?_ ?_)
  | (with_reducible refine elem_0 ?_)
  | (with_reducible refine elem_1 ?_)
  | refine Ends.mk ?_)
 all_goals (try refine Pr.mk ?_)
 all_goals (try ((conv => whnf); first | rw [subc_1 (by assumption)] | rw [subc_2 (by assumption)]))
 all_goals (repeat' ((try (conv => whnf)); first
  | refine call_0 ?_
  | refine call_i ?_ ?_
  | (with_reducible refine onB_t ?_)
  | (with_reducible refine onB_f ?_)
  | (with_reducible refine onB_d (fun _ => ?_) (fun _ => ?_))
  | (with_reducible refine onB_n (fun _ => ?_) (fun _ => ?_))
  | refine OnB.mk (fun _ => ?_) (fun _ => ?_)
  | refine obl_i ?_ ?_
  | refine Drw.mk (by kernel_rfl) ?_
  | refine mks_i ?_ ?_
  | refine slp_i ?_ ?_
  | (with_reducible refine elem_u ?_ ?_)
  | (with_reducible refine elem_0 ?_)
  | (with_reducible refine elem_1 ?_)
  | refine Ends.mk ?_))
 all_goals (try refine Pr.mk ?_)
 all_goals first
  | (rw [sz_neg]; exact hp)
  | (refine zsE ?_; omega)
  | skip⟩

instance ih_divmod (a b : Int) : DenI Tryz.prog 59 [Z a, Z b] (sz a ≤ 1000000000 ∧ sz b ≤ 1000000000) (.tup [Z (a.fdiv b), Z (if b = 0 then 0 else a.fmod b), .int .i64 (if b = 0 then 6 else 0)]) := ⟨fun hp => by
 refine den_of (τ := tab) tab_ok mixed_ Tryz.func59 rfl (by kernel_rfl) (by kernel_rfl) (by kernel_rfl) ?_
 repeat' ((try (conv => whnf)); first
  | refine call_0 ?_
  | refine call_i ?_ ?_
  | (with_reducible refine onB_t ?_)
  | (with_reducible refine onB_f ?_)
  | (with_reducible refine onB_d (fun _ => ?_) (fun _ => ?_))
  | (with_reducible refine onB_n (fun _ => ?_) (fun _ => ?_))
  | refine OnB.mk (fun _ => ?_) (fun _ => ?_)
  | refine obl_i ?_ ?_
  | refine Drw.mk (by kernel_rfl) ?_
  | refine mks_i ?_ ?_
  | refine slp_i ?_ ?_
  | (with_reducible refine elem_u ?_ ?_)
  | (with_reducible refine elem_0 ?_)
  | (with_reducible refine elem_1 ?_)
  | refine Ends.mk ?_)
 all_goals (try refine Pr.mk ?_)
 all_goals (try simp (disch := assumption) only [val_lim, natAbs_sgnv, neg_sgnv, cast_len0, cast_len1, List.length_map, dqI, drI] at *)
 all_goals (try simp (disch := assumption) only [val_lim, natAbs_sgnv, neg_sgnv, cast_len0, cast_len1, List.length_map, dqI, drI] at *)
 all_goals first
  | omega
  | (have hb0 : b = 0 := (by omega); subst hb0; exact rdm_zero a)
  | with_reducible exact lb_pad _ _
  | with_reducible exact dv_pre hp.1 hp.2 (by assumption)
  | with_reducible exact ⟨sz_q hp.1 _, sz_o⟩
  | with_reducible exact ⟨sz_r hp.1 _, hp.2⟩
  | with_reducible exact rdm_turn (by assumption) (by assumption) (turn_sg (r := a.natAbs % b.natAbs) (by omega) (by assumption))
  | with_reducible exact rdm_keep (by assumption) (.inr (keep_sg (r := a.natAbs % b.natAbs) (by omega) (by assumption)))
  | with_reducible exact rdm_keep (by assumption) (.inl (by omega))
  | skip⟩

end Go.Proofs.YtghlkihmnopenaaGreatDoor

namespace Go.Proofs.YtghlkihmnopenaaGreatDoor
open Go Go.RowKit Go.Sw
set_option linter.unusedVariables false
set_option maxRecDepth 100000
set_option maxHeartbeats 8000000
instance rh_gcd (a b : Int) : DenI Tryz.prog 70 [Z a, Z b] (sz a ≤ 1000000000 ∧ sz b ≤ 1000000000) (Z ((Nat.gcd a.natAbs b.natAbs : Nat) : Int)) := ⟨fun hp => by
 refine den_of (τ := tab) tab_ok mixed_ Tryz.func70 rfl (by kernel_rfl) (by kernel_rfl) (by kernel_rfl) ?_
 repeat' ((try (conv => whnf)); first
  | refine call_0 ?_
  | refine call_i ?_ ?_
  | (with_reducible refine onB_t ?_)
  | (with_reducible refine onB_f ?_)
  | (with_reducible refine onB_d (fun _ => ?_) (fun _ => ?_))
  | (with_reducible refine onB_n (fun _ => ?_) (fun _ => ?_))
  | refine OnB.mk (fun _ => ?_) (fun _ => ?_)
  | refine obl_i ?_ ?_
  | refine Drw.mk (by kernel_rfl) ?_
  | refine mks_i ?_ ?_
  | refine slp_i ?_ ?_
  | (with_reducible refine elem_u ?_ ?_)
  | (with_reducible refine elem_0 ?_)
  | (with_reducible refine elem_1 ?_)
  | refine Ends.mk ?_)
 all_goals (try refine Pr.mk ?_)
 all_goals first
  | ((conv => whnf); refine Sw.Loop.inv (α := Nat × Nat) (fun x => [(4, .ptr 4 0), (5, .c (lmc (lim x.1))), (6, .c (lmc (lim x.2)))]) (fun x => [(4, .var [.v (.bool false), .sl 1 []])]) (fun x => Nat.gcd x.1 x.2 = Nat.gcd a.natAbs b.natAbs ∧ (lim x.1).length ≤ 1000000000 ∧ (lim x.2).length ≤ 1000000000) (fun x => x.2) (a.natAbs, b.natAbs) ?_ ?_ ?_ (fun x hx => ?_))
  | skip
 all_goals (repeat' ((try (conv => whnf)); first
  | refine call_0 ?_
  | refine call_i ?_ ?_
  | (with_reducible refine onB_t ?_)
  | (with_reducible refine onB_f ?_)
  | (with_reducible refine onB_d (fun _ => ?_) (fun _ => ?_))
  | (with_reducible refine onB_n (fun _ => ?_) (fun _ => ?_))
  | refine OnB.mk (fun _ => ?_) (fun _ => ?_)
  | refine obl_i ?_ ?_
  | refine Drw.mk (by kernel_rfl) ?_
  | refine mks_i ?_ ?_
  | refine slp_i ?_ ?_
  | (with_reducible refine elem_u ?_ ?_)
  | (with_reducible refine elem_0 ?_)
  | (with_reducible refine elem_1 ?_)
  | refine Ends.mk ?_))
 all_goals (try refine Pr.mk ?_)
 all_goals first
  | ((conv => whnf); refine Sw.Loop.inv (α := Nat × Nat) (fun y => [(4, .ptr 4 0), (9, .int .u64 (y.1 : Nat)), (10, .int .u64 (y.2 : Nat))]) (fun y => [(4, .var [.v (.bool false), .sl 1 []])]) (fun y => y.1 < 1000000000000000000 ∧ y.2 < 1000000000000000000 ∧ Nat.gcd y.1 y.2 = Nat.gcd a.natAbs b.natAbs) (fun y => y.2) x ?_ ?_ ?_ (fun y hy => ?_))
  | skip
 all_goals (repeat' ((try (conv => whnf)); first
  | refine call_0 ?_
  | refine call_i ?_ ?_
  | (with_reducible refine onB_t ?_)
  | (with_reducible refine onB_f ?_)
  | (with_reducible refine onB_d (fun _ => ?_) (fun _ => ?_))
  | (with_reducible refine onB_n (fun _ => ?_) (fun _ => ?_))
  | refine OnB.mk (fun _ => ?_) (fun _ => ?_)
  | refine obl_i ?_ ?_
  | refine Drw.mk (by kernel_rfl) ?_
  | refine mks_i ?_ ?_
  | refine slp_i ?_ ?_
  | (with_reducible refine elem_u ?_ ?_)
  | (with_reducible refine elem_0 ?_)
  | (with_reducible refine elem_1 ?_)
  | refine Ends.mk ?_))
 all_goals (try refine Pr.mk ?_)
 all_goals first | (show SubE _ _; repeat' (first | exact trivial | refine And.intro ?_ ?_)) | (show SubB _ _; repeat' (first | exact trivial | refine And.intro ?_ ?_)) | skip
 all_goals (try rfl)
 all_goals (try simp only [List.length_map] at *)
 all_goals first
  | with_reducible exact lb_lim _
  | with_reducible exact gv
  | with_reducible exact gpre hx.2.1 hx.2.2 (by omega)
  | with_reducible exact gshort (by omega)
  | (have hz := lim_len_zero (n := x.2); exact gshort (by omega))
  | exact ⟨trivial, hp.1, hp.2⟩
  | exact gv
  | (have hz := lim_len_zero (n := x.2); with_reducible exact gend (by omega) hx.1 (val_lim _))
  | with_reducible exact gend (by omega) hy.2.2 (val_lim _)
  | exact ⟨glt (by omega), glt (by omega), hx.1⟩
  | (have h3 : x.1 % x.2 < x.2 := Nat.mod_lt _ (by have hz := lim_len_zero (n := x.2); omega); ((conv => whnf); exact ⟨(x.2, x.1 % x.2), ⟨⟨rfl, rfl, gmod, trivial⟩, ⟨rfl, trivial⟩, ⟨gcd_turn hx.1 rfl, hx.2.2, Nat.le_trans (lim_le_of_le (Nat.le_of_lt h3)) hx.2.2⟩, h3⟩⟩))
  | (have h1 := hy.1; have h2 := hy.2.1; have h3 : y.1 % y.2 < y.2 := Nat.mod_lt _ (by omega); ((conv => whnf); exact ⟨(y.2, y.1 % y.2), ⟨⟨rfl, rfl, gm2, trivial⟩, ⟨rfl, trivial⟩, ⟨by show y.2 < _; omega, by show y.1 % y.2 < _; omega, gcd_turn hy.2.2 rfl⟩, h3⟩⟩))
  | omega
  | skip⟩

instance ih_gcd (a b : Int) : DenI Tryz.prog 82 [Z a, Z b] (sz a ≤ 1000000000 ∧ sz b ≤ 1000000000) (Z ((Nat.gcd a.natAbs b.natAbs : Nat) : Int)) := ⟨fun hp => by
 refine den_of (τ := tab) tab_ok mixed_ Tryz.func82 rfl (by kernel_rfl) (by kernel_rfl) (by kernel_rfl) ?_
 repeat' ((try (conv => whnf)); first
  | refine call_0 ?_
  | refine call_i ?_ ?_
  | (with_reducible refine onB_t ?_)
  | (with_reducible refine onB_f ?_)
  | (with_reducible refine onB_d (fun _ => ?_) (fun _ => ?_))
  | (with_reducible refine onB_n (fun _ => ?_) (fun _ => ?_))
  | refine OnB.mk (fun _ => ?_) (fun _ => ?_)
  | refine obl_i ?_ ?_
  | refine Drw.mk (by kernel_rfl) ?_
  | refine mks_i ?_ ?_
  | refine slp_i ?_ ?_
  | (with_reducible refine elem_u ?_ ?_)
  | (with_reducible refine elem_0 ?_)
  | (with_reducible refine elem_1 ?_)
  | refine Ends.mk ?_)
 all_goals (try refine Pr.mk ?_)
 all_goals first
  | ((conv => whnf); refine Sw.Loop.inv (α := Nat × Nat) (fun x => [(4, .ptr 4 0), (5, .ptr 5 0), (6, .ptr 6 0)]) (fun x => [(4, .var [.v (.bool false), .sl 1 []]), (5, .var [zs (x.1 : Nat), zl (x.1 : Nat)]), (6, .var [zs (x.2 : Nat), zl (x.2 : Nat)])]) (fun x => Nat.gcd x.1 x.2 = Nat.gcd a.natAbs b.natAbs ∧ sz ((x.1 : Nat) : Int) ≤ 1000000000 ∧ sz ((x.2 : Nat) : Int) ≤ 1000000000) (fun x => x.2) (a.natAbs, b.natAbs) ?_ ?_ ?_ (fun x hx => ?_))
  | skip
 all_goals (repeat' ((try (conv => whnf)); first
  | refine call_0 ?_
  | refine call_i ?_ ?_
  | (with_reducible refine onB_t ?_)
  | (with_reducible refine onB_f ?_)
  | (with_reducible refine onB_d (fun _ => ?_) (fun _ => ?_))
  | (with_reducible refine onB_n (fun _ => ?_) (fun _ => ?_))
  | refine OnB.mk (fun _ => ?_) (fun _ => ?_)
  | refine obl_i ?_ ?_
  | refine Drw.mk (by kernel_rfl) ?_
  | refine mks_i ?_ ?_
  | refine slp_i ?_ ?_
  | (with_reducible refine elem_u ?_ ?_)
  | (with_reducible refine elem_0 ?_)
  | (with_reducible refine elem_1 ?_)
  | refine Ends.mk ?_))
 all_goals (try refine Pr.mk ?_)
 all_goals first
  | ((conv => whnf); refine Sw.Loop.inv (α := Nat × Nat) (fun y => [(4, .ptr 4 0), (7, .int .u64 (y.1 : Nat)), (9, .int .u64 (y.2 : Nat))]) (fun y => [(4, .var [.v (.bool false), .sl 1 []])]) (fun y => y.1 < 1000000000000000000 ∧ y.2 < 1000000000000000000 ∧ Nat.gcd y.1 y.2 = Nat.gcd a.natAbs b.natAbs) (fun y => y.2) x ?_ ?_ ?_ (fun y hy => ?_))
  | skip
 all_goals (repeat' ((try (conv => whnf)); first
  | refine call_0 ?_
  | refine call_i ?_ ?_
  | (with_reducible refine onB_t ?_)
  | (with_reducible refine onB_f ?_)
  | (with_reducible refine onB_d (fun _ => ?_) (fun _ => ?_))
  | (with_reducible refine onB_n (fun _ => ?_) (fun _ => ?_))
  | refine OnB.mk (fun _ => ?_) (fun _ => ?_)
  | refine obl_i ?_ ?_
  | refine Drw.mk (by kernel_rfl) ?_
  | refine mks_i ?_ ?_
  | refine slp_i ?_ ?_
  | (with_reducible refine elem_u ?_ ?_)
  | (with_reducible refine elem_0 ?_)
  | (with_reducible refine elem_1 ?_)
  | refine Ends.mk ?_))
 all_goals (try refine Pr.mk ?_)
 all_goals first | (show SubE _ _; repeat' (first | exact trivial | refine And.intro ?_ ?_)) | (show SubB _ _; repeat' (first | exact trivial | refine And.intro ?_ ?_)) | skip
 all_goals (try rfl)
 all_goals (try simp only [List.length_map] at *)
 all_goals first
  | with_reducible exact lb_lim _
  | with_reducible exact lb_pad _ _
  | exact zcells _ _ (by rw [val_lim]; rfl)
  | exact ⟨trivial, hp.1, hp.2⟩
  | exact wif (by assumption)
  | exact ⟨sz_lt18 (by assumption), sz_lt18 (by assumption), hx.1⟩
  | with_reducible exact gdiv hx.2.1 hx.2.2 (by assumption)
  | omega
  | with_reducible exact gend (gzero (by assumption)) hx.1 (val_lim _)
  | with_reducible exact gend (by omega) hy.2.2 (val_pad _ _ (by omega))
  | (have h1 := hy.1; have h2 := hy.2.1; have h3 : y.1 % y.2 < y.2 := Nat.mod_lt _ (by omega); ((conv => whnf); exact ⟨(y.2, y.1 % y.2), ⟨⟨rfl, rfl, gm2, trivial⟩, ⟨rfl, trivial⟩, ⟨by show y.2 < _; omega, by show y.1 % y.2 < _; omega, gcd_turn hy.2.2 rfl⟩, h3⟩⟩))
  | (have h0 := gpos (by assumption); have h3 : x.1 % x.2 < x.2 := Nat.mod_lt _ h0; ((conv => whnf); exact ⟨(x.2, x.1 % x.2), ⟨⟨rfl, rfl, rfl, trivial⟩, ⟨rfl, rfl, zcells _ _ (gst (by assumption)), trivial⟩, ⟨gcd_turn hx.1 rfl, hx.2.2, Nat.le_trans (sz_mono (by rw [Int.natAbs_natCast, Int.natAbs_natCast]; exact Nat.le_of_lt h3)) hx.2.2⟩, h3⟩⟩))
  | (have h0 := hx.2.1; unfold sz at h0; omega)
  | skip⟩

end Go.Proofs.YtghlkihmnopenaaGreatDoor

namespace Go.Proofs.YtghlkihmnopenaaGreatDoor
open Go Go.RowKit Go.Sw
set_option linter.unusedVariables false
set_option maxRecDepth 100000
set_option maxHeartbeats 8000000

end Go.Proofs.YtghlkihmnopenaaGreatDoor

namespace Go.Sw
open Go Go.RowKit
set_option linter.unusedVariables false
/-- f answers r to xs where c holds, and s where it doesn't. -/
class DenC (P : Program) [Wld P] (f : FuncId) (xs : List AV) (pre : outParam Prop) (c : outParam Prop) (r s : outParam AV) : Prop where
  den : pre → (c → Den P f xs r) ∧ (¬c → Den P f xs s)
theorem call_c {P : Program} [Wld P] {f : FuncId} {xs : List AV} {pre c : Prop} {r s : AV} {k : AV → Prop} [h : DenC P f xs pre c r s] (hp : Pr pre) (h1 : c → k r) (h2 : ¬c → k s) : CallP (Den P) f xs k := by
  by_cases hc : c
  · exact ⟨r, (h.den hp.p).1 hc, h1 hc⟩
  · exact ⟨s, (h.den hp.p).2 hc, h2 hc⟩
theorem denC {P : Program} [Wld P] {f : FuncId} {xs : List AV} {pre c : Prop} {r s : AV} (h : pre → ∀ q, (c → q = r) → (¬c → q = s) → Den P f xs q) (hp : pre) : (c → Den P f xs r) ∧ (¬c → Den P f xs s) :=
  ⟨fun hc => h hp r (fun _ => rfl) (fun n => absurd hc n), fun hc => h hp s (fun n => absurd n hc) (fun _ => rfl)⟩
end Go.Sw

namespace Go.Sw
open Go Go.RowKit
set_option linter.unusedVariables false
/-- The bytes of a string. -/
def bsL (s : ByteArray) : List Nat := s.data.toList.map fun b => b.toNat
theorem bsL_len (s : ByteArray) : (bsL s).length = s.size := by simp [bsL]
theorem bsL_get (s : ByteArray) (j : Nat) : (s.data.toList.getD j 0).toNat = (bsL s).getD j 0 := by
  unfold bsL
  rw [List.getD_eq_getElem?_getD, List.getD_eq_getElem?_getD, List.getElem?_map]
  cases s.data.toList[j]? <;> rfl
theorem bsL_inj {a b : ByteArray} (h : bsL a = bsL b) : a = b := by
  have : a.data.toList = b.data.toList := by
    unfold bsL at h
    exact (List.map_inj_right (fun x y h => UInt8.toNat_inj.1 h)).1 h
  cases a; cases b
  simpa using this
theorem eqb_iff (a b : ByteArray) : (a.toList == b.toList) = decide (bsL a = bsL b) := by
  rw [ByteArray.toList_eq, ByteArray.toList_eq]
  by_cases h : bsL a = bsL b
  · rw [decide_eq_true h, bsL_inj h]; simp
  · rw [decide_eq_false h]
    rw [beq_eq_false_iff_ne]
    exact fun e => h (by unfold bsL; rw [e])
theorem bsL_ext (s : ByteArray) (a b : Nat) : bsL (s.extract a b) = ((bsL s).take b).drop a := by
  unfold bsL
  rw [ByteArray.data_extract, Array.toList_extract, List.extract_eq_take_drop, ← List.map_take, ← List.map_drop, List.drop_take]
theorem bytesC_eq (s : ByteArray) : bytesC s = (bsL s).map fun c => [Cell.v (.int .u8 (c : Nat))] := by unfold bytesC bsL; rw [List.map_map]; rfl
theorem strAt_i {s : ByteArray} {i : Int} {k : Int → Prop} (hp : Pr (0 ≤ i ∧ i < s.size)) (hk : k (((bsL s).getD i.toNat 0 : Nat) : Int)) : StrAt s i k := by
  obtain ⟨⟨h1, h2⟩⟩ := hp
  exact ⟨i.toNat, by omega, by omega, by rw [bsL_get]; exact hk⟩
theorem elem_b {s : ByteArray} {i : Int} {k : List Cell → Prop} (hp : Pr (0 ≤ i ∧ i < s.size)) (hk : k [.v (.int .u8 ((bsL s).getD i.toNat 0 : Nat))]) : Elem (bytesC s) i k := by
  rw [bytesC_eq]
  exact elem_map 0 (f := fun c : Nat => [Cell.v (.int .u8 (c : Nat))]) ⟨by rw [bsL_len]; exact hp.p⟩ hk
theorem bytesC_len (s : ByteArray) : (bytesC s).length = s.size := by simp [bytesC]
/-! ### Decimal digits -/
def decV (l : List Nat) : Nat := l.foldl (fun a c => 10 * a + (c - 48)) 0
theorem fold_dec (l : List Nat) : ∀ x, l.foldl (fun a c => 10 * a + (c - 48)) x = x * 10 ^ l.length + decV l := by
  induction l with
  | nil => intro x; simp [decV]
  | cons c r ih =>
    intro x
    unfold decV
    simp only [List.foldl_cons, List.length_cons]
    rw [ih, ih (10 * 0 + (c - 48)), Nat.pow_succ]
    grind
theorem decV_app (a b : List Nat) : decV (a ++ b) = decV a * 10 ^ b.length + decV b := by
  unfold decV
  rw [List.foldl_append, fold_dec]; rfl
theorem decV_snoc (a : List Nat) (c : Nat) : decV (a ++ [c]) = 10 * decV a + (c - 48) := by
  rw [decV_app]; simp [decV]; omega
theorem decV_lt {l : List Nat} (h : ∀ c ∈ l, c ≤ 57) : decV l < 10 ^ l.length := by
  induction l with
  | nil => decide
  | cons c r ih =>
    have h1 := ih fun x hx => h x (by simp [hx])
    have h2 := h c (by simp)
    rw [show c :: r = [c] ++ r from rfl, decV_app, List.length_append, Nat.pow_add]
    have h3 : decV [c] ≤ 9 := by simp [decV]; omega
    have := Nat.mul_le_mul_right (10 ^ r.length) h3
    simp only [List.length_singleton, Nat.pow_one]
    omega
/-- The number in the m-th group of nine digits from the end. -/
def chk (l : List Nat) (m : Nat) : Nat := decV ((l.take (l.length - 9 * m)).drop (l.length - 9 * (m + 1)))
def grp (l : List Nat) (m : Nat) : List Nat := (List.range m).map (chk l)
theorem grp_len (l : List Nat) (m : Nat) : (grp l m).length = m := by simp [grp]
theorem grp_snoc (l : List Nat) (m : Nat) : grp l (m + 1) = grp l m ++ [chk l m] := by simp [grp, List.range_succ]
theorem chk_lt {l : List Nat} (h : ∀ c ∈ l, c ≤ 57) (m : Nat) : chk l m < 1000000000 := by
  have h1 : decV ((l.take (l.length - 9 * m)).drop (l.length - 9 * (m + 1))) < 10 ^ ((l.take (l.length - 9 * m)).drop (l.length - 9 * (m + 1))).length :=
    decV_lt fun c hc => h c (List.mem_of_mem_take (List.mem_of_mem_drop hc))
  have h2 : ((l.take (l.length - 9 * m)).drop (l.length - 9 * (m + 1))).length ≤ 9 := by rw [List.length_drop, List.length_take]; omega
  have h3 : 10 ^ ((l.take (l.length - 9 * m)).drop (l.length - 9 * (m + 1))).length ≤ 10 ^ 9 := Nat.pow_le_pow_right (by decide) h2
  unfold chk
  omega
theorem grp_lb {l : List Nat} (h : ∀ c ∈ l, c ≤ 57) (m : Nat) : Lb (grp l m) := fun x hx => by
  obtain ⟨j, _, rfl⟩ := List.mem_map.1 hx
  exact chk_lt h j
theorem val_grp (l : List Nat) : ∀ m, val (grp l m) = decV (l.drop (l.length - 9 * m))
  | 0 => by simp [grp, val, decV]
  | m + 1 => by
    rw [grp_snoc, val_append, val_grp l m, grp_len]
    simp only [val, Nat.mul_zero, Nat.add_zero]
    have e : l.drop (l.length - 9 * (m + 1)) = (l.take (l.length - 9 * m)).drop (l.length - 9 * (m + 1)) ++ l.drop (l.length - 9 * m) := by
      have h1 := List.take_append_drop (l.length - 9 * m) l
      have h2 : l.length - 9 * (m + 1) ≤ (l.take (l.length - 9 * m)).length := by rw [List.length_take]; omega
      have h3 := List.drop_append_of_le_length (l₂ := l.drop (l.length - 9 * m)) h2
      rw [h1] at h3
      exact h3
    rw [e, decV_app]
    show decV _ + 1000000000 ^ m * chk l m = chk l m * 10 ^ _ + _
    by_cases hm : 9 * m ≤ l.length
    · have : (l.drop (l.length - 9 * m)).length = 9 * m := by rw [List.length_drop]; omega
      rw [this, show (1000000000 : Nat) = 10 ^ 9 from rfl, ← Nat.pow_mul]
      grind
    · have hz : chk l m = 0 := by
        unfold chk
        rw [show l.length - 9 * m = 0 by omega]
        simp [decV]
      rw [hz]; omega
theorem val_grp_all {l : List Nat} {m : Nat} (h : l.length ≤ 9 * m) : val (grp l m) = decV l := by rw [val_grp, show l.length - 9 * m = 0 by omega, List.drop_zero]
end Go.Sw

namespace Go.Sw
open Go Go.RowKit
set_option linter.unusedVariables false
@[reducible] def mB : ByteArray := ⟨#[45]⟩
@[reducible] def sB : ByteArray := ⟨#[47]⟩
@[reducible] def AV.str (s : ByteArray) : AV := .c (.v (.string s))
def pfx (s p : ByteArray) : Bool := decide (p.size ≤ s.size) && decide ((bsL s).take p.size = bsL p)
def cutP (s p : ByteArray) : ByteArray := if pfx s p = true then s.extract p.size s.size else s
theorem hp_y {s p : ByteArray} (h : (s.size : Int) ≥ p.size) : packA [AV.c (Cell.v (.bool ((s.extract 0 p.size).toList == p.toList)))] = AV.bool (pfx s p) := by
  refine bE ?_
  unfold pfx
  rw [eqb_iff, bsL_ext, decide_eq_true (show p.size ≤ s.size by omega), Bool.true_and, List.drop_zero]
theorem hp_n {s p : ByteArray} (h : ¬(s.size : Int) ≥ p.size) : packA [AV.c (Cell.v (.bool false))] = AV.bool (pfx s p) := by
  refine bE ?_
  unfold pfx
  rw [decide_eq_false (show ¬p.size ≤ s.size by omega)]; rfl
theorem cp_n {s p : ByteArray} (h : (!pfx s p) = true) : packA [AV.c (Cell.v (.string s)), AV.c (Cell.v (.bool false))] = AV.tup [AV.str (cutP s p), AV.bool (pfx s p)] := by
  have h : pfx s p = false := by simpa using h
  unfold cutP
  rw [h, if_neg (by decide)]; rfl
theorem cp_y {s p : ByteArray} (h : (!pfx s p) = false) : packA [AV.c (Cell.v (.string (s.extract p.size s.size))), AV.c (Cell.v (.bool true))] = AV.tup [AV.str (cutP s p), AV.bool (pfx s p)] := by
  have h : pfx s p = true := by simpa using h
  unfold cutP
  rw [h, if_pos rfl]; rfl
theorem pfx_le {s p : ByteArray} (h : (!pfx s p) = false) : p.size ≤ s.size := by
  have h : pfx s p = true := by simpa using h
  unfold pfx at h
  simp only [Bool.and_eq_true, decide_eq_true_eq] at h
  exact h.1
theorem cutP_size (s p : ByteArray) : (cutP s p).size ≤ s.size := by
  unfold cutP
  split
  · rw [ByteArray.size_extract]; omega
  · omega
def dgt (l : List Nat) (j : Nat) : Prop := 48 ≤ l.getD j 0 ∧ l.getD j 0 ≤ 57
instance {l : List Nat} {j : Nat} : Decidable (dgt l j) := by unfold dgt; infer_instance
/-- The text of an integer. -/
def okI (s : ByteArray) : Bool :=
  decide (0 < (cutP s mB).size) && (decide (s.size ≤ 65536) && (!(decide ((bsL (cutP s mB)).getD 0 0 = 48) && (decide (1 < (cutP s mB).size) || pfx s mB)) && decide (∀ j, j < (cutP s mB).size → dgt (bsL (cutP s mB)) j)))
def parN (s : ByteArray) : Int := if okI s = true then sgnv (pfx s mB) (decV (bsL (cutP s mB))) else 0
def parE (s : ByteArray) : Int := if okI s = true then 0 else 2
@[reducible] def parR (s : ByteArray) : AV := .tup [Z (parN s), .int .i64 (parE s)]
theorem z0_eq : Z 0 = AV.agg [Cell.v (.bool false), Cell.sl 1 []] := by
  show AV.agg [Cell.v (.bool (decide ((0 : Int) < 0))), lmc (lim (0 : Int).natAbs)] = _
  rw [show (0 : Int).natAbs = 0 from rfl, lim_zero]; rfl
theorem par_no {s : ByteArray} (h : okI s = false) : packA [AV.agg [Cell.v (.bool false), Cell.sl 1 []], AV.c (Cell.v (.int .i64 2))] = parR s := by
  unfold parR parN parE
  rw [h, if_neg (by decide), if_neg (by decide), z0_eq]; rfl
theorem par_yes {s : ByteArray} (h : okI s = true) {l : List Nat} (hl : val l = decV (bsL (cutP s mB))) : packA [Z (sgnv (pfx s mB) (val l)), AV.c (Cell.v (.int .i64 0))] = parR s := by
  unfold parR parN parE
  rw [h, if_pos rfl, if_pos rfl, hl]; rfl
theorem dgts {b : ByteArray} (h : ∀ j, j < b.size → dgt (bsL b) j) : ∀ c ∈ bsL b, c ≤ 57 := fun c hc => by
  obtain ⟨j, hj, e⟩ := List.getElem_of_mem hc
  have := h j (by rwa [bsL_len] at hj)
  unfold dgt at this
  rw [List.getD_eq_getElem?_getD, List.getElem?_eq_getElem hj, e] at this
  exact this.2
/-! ### The rounds of Parse -/
section
variable {s b : ByteArray} {k m : Nat}
theorem ok_n1 (h : bsL (cutP s mB) = bsL ⟨#[]⟩) : okI s = false := by
  have : (cutP s mB).size = 0 := by rw [← bsL_len, h]; rfl
  unfold okI; rw [decide_eq_false (by omega)]; rfl
theorem ok_n2 (h : (s.size : Int) > 65536) : okI s = false := by
  unfold okI; rw [decide_eq_false (show ¬s.size ≤ 65536 by omega)]; simp
theorem ok_n3 (h : (((bsL (cutP s mB)).getD 0 0 : Nat) : Int) = 48) (h2 : ((cutP s mB).size : Int) > 1) : okI s = false := by
  unfold okI
  rw [decide_eq_true (show (bsL (cutP s mB)).getD 0 0 = 48 by omega), decide_eq_true (show 1 < (cutP s mB).size by omega)]; simp
theorem ok_n4 (h : (((bsL (cutP s mB)).getD 0 0 : Nat) : Int) = 48) (h2 : pfx s mB = true) : okI s = false := by
  unfold okI
  rw [decide_eq_true (show (bsL (cutP s mB)).getD 0 0 = 48 by omega), h2]; simp
theorem ok_n5 (hk : k < (cutP s mB).size) (h : ¬dgt (bsL (cutP s mB)) k) : okI s = false := by
  unfold okI
  rw [decide_eq_false (show ¬∀ j, j < (cutP s mB).size → dgt (bsL (cutP s mB)) j from fun g => h (g k hk))]; simp
theorem ok_y (h1 : ¬bsL (cutP s mB) = bsL ⟨#[]⟩) (h2 : ¬(s.size : Int) > 65536) (h3 : ¬((((bsL (cutP s mB)).getD 0 0 : Nat) : Int) = 48 ∧ (((cutP s mB).size : Int) > 1 ∨ pfx s mB = true)))
    (h4 : ∀ j, j < (cutP s mB).size → dgt (bsL (cutP s mB)) j) : okI s = true := by
  have e1 : 0 < (cutP s mB).size := by
    refine Nat.pos_of_ne_zero fun e => h1 ?_
    have : (bsL (cutP s mB)).length = 0 := by rw [bsL_len, e]
    rw [List.length_eq_zero_iff.1 this]; rfl
  unfold okI
  rw [decide_eq_true e1, decide_eq_true (show s.size ≤ 65536 by omega), decide_eq_true h4]
  by_cases g : (bsL (cutP s mB)).getD 0 0 = 48
  · rw [decide_eq_true g, decide_eq_false (fun g2 => h3 ⟨by omega, .inl (by omega)⟩)]
    cases hp : pfx s mB with
    | true => exact absurd ⟨by omega, .inr hp⟩ h3
    | false => rfl
  · rw [decide_eq_false g]; rfl
theorem dg_lo (h : (((bsL b).getD k 0 : Nat) : Int) < 48) : ¬dgt (bsL b) k := fun g => by have := g.1; omega
theorem dg_hi (h : (((bsL b).getD k 0 : Nat) : Int) > 57) : ¬dgt (bsL b) k := fun g => by have := g.2; omega
theorem dg_step (h : ∀ j, j < k → dgt (bsL b) j) (h1 : ¬(((bsL b).getD k 0 : Nat) : Int) < 48) (h2 : ¬(((bsL b).getD k 0 : Nat) : Int) > 57) : ∀ j, j < k + 1 → dgt (bsL b) j := fun j hj => by
  rcases Nat.lt_succ_iff_lt_or_eq.1 hj with g | g
  · exact h j g
  · subst g; unfold dgt; omega
/-- The bytes of the m-th group from the end. -/
def gbs (b : ByteArray) (m : Nat) : List Nat := ((bsL b).take (b.size - 9 * m)).drop (b.size - 9 * (m + 1))
theorem gbs_len (b : ByteArray) (m : Nat) : (gbs b m).length = b.size - 9 * m - (b.size - 9 * (m + 1)) := by
  unfold gbs; rw [List.length_drop, List.length_take, bsL_len]; omega
theorem gbs_ext (b : ByteArray) (m : Nat) : bsL (b.extract (b.size - 9 * (m + 1)) (b.size - 9 * m)) = gbs b m := bsL_ext b _ _
theorem gbs_get (b : ByteArray) (m j : Nat) (h : j < (gbs b m).length) : (gbs b m).getD j 0 = (bsL b).getD (b.size - 9 * (m + 1) + j) 0 := by
  rw [gbs_len] at h
  unfold gbs
  rw [List.getD_eq_getElem?_getD, List.getD_eq_getElem?_getD, List.getElem?_drop, List.getElem?_take, if_pos (by omega)]
theorem gbs_dg (h : ∀ j, j < b.size → dgt (bsL b) j) (hj : k < (gbs b m).length) : 48 ≤ (gbs b m).getD k 0 ∧ (gbs b m).getD k 0 ≤ 57 := by
  have h2 := hj
  rw [gbs_len] at h2
  have := h (b.size - 9 * (m + 1) + k) (by omega)
  unfold dgt at this
  rw [gbs_get b m k hj]
  exact this
theorem gbs_lt (h : ∀ j, j < b.size → dgt (bsL b) j) (hj : k ≤ (gbs b m).length) : decV ((gbs b m).take k) < 10 ^ k := by
  have := decV_lt (l := (gbs b m).take k) fun c hc => dgts h c (List.mem_of_mem_take (List.mem_of_mem_drop (List.mem_of_mem_take hc)))
  rw [List.length_take, Nat.min_eq_left hj] at this
  exact this
theorem gbs_step (hj : k < (gbs b m).length) : decV ((gbs b m).take (k + 1)) = 10 * decV ((gbs b m).take k) + ((gbs b m).getD k 0 - 48) := by
  have : (gbs b m).take (k + 1) = (gbs b m).take k ++ [(gbs b m).getD k 0] := by
    rw [List.take_succ, List.getD_eq_getElem?_getD, List.getElem?_eq_getElem hj]; rfl
  rw [this, decV_snoc]
theorem gbs_end (b : ByteArray) (m : Nat) (hj : ¬k < (gbs b m).length) : decV ((gbs b m).take k) = chk (bsL b) m := by
  rw [List.take_of_length_le (by omega)]
  unfold gbs chk
  rw [bsL_len]
theorem u32_step {x : Nat} {c : Nat} (hx : x < 100000000) (hc : 48 ≤ c ∧ c ≤ 57) :
    IntKind.u32.wrap (IntKind.u32.wrap (10 * (x : Int)) + IntKind.u32.wrap (IntKind.u8.wrap ((c : Int) - 48))) = ((10 * x + (c - 48) : Nat) : Int) := by
  simp only [IntKind.wrap_u32, IntKind.wrap_u8]
  omega
theorem grpG {T : TypeId} {l : List Nat} {x : Nat} (h : x = chk l m) : some (Bk.grow T 1 (((grp l m).map fun x => [Cell.v (u32 x)]) ++ [[Cell.v (.int .u32 (x : Nat))]])) = some (Bk.grow T 1 ((grp l (m + 1)).map fun x => [Cell.v (u32 x)])) := by
  rw [grp_snoc, List.map_append, h]; rfl
theorem ne_size (h : ¬bsL b = bsL ⟨#[]⟩) : 0 ≤ (0 : Int) ∧ (0 : Int) < (b.size : Nat) := by
  refine ⟨Int.le_refl _, ?_⟩
  have : 0 < b.size := by
    refine Nat.pos_of_ne_zero fun e => h ?_
    have : (bsL b).length = 0 := by rw [bsL_len, e]
    rw [List.length_eq_zero_iff.1 this]; rfl
  omega
theorem gbs_u32 {q : Nat} (h : ∀ j, j < b.size → dgt (bsL b) j) (hq : q < (gbs b m).length) :
    some (AV.int .u32 (IntKind.u32.wrap (IntKind.u32.wrap (10 * (decV ((gbs b m).take q) : Nat)) + IntKind.u32.wrap (IntKind.u8.wrap (((bsL (b.extract (b.size - 9 * (m + 1)) (b.size - 9 * m))).getD q 0 : Nat) - 48))))) = some (AV.int .u32 (decV ((gbs b m).take (q + 1)) : Nat)) := by
  rw [gbs_ext, gbs_step hq]
  have h1 := gbs_lt (m := m) h (Nat.le_of_lt hq)
  have h2 : (gbs b m).length ≤ 9 := by rw [gbs_len]; omega
  have h3 : 10 ^ q ≤ 10 ^ 8 := Nat.pow_le_pow_right (by decide) (by omega)
  rw [u32_step (by omega) (gbs_dg h hq)]
theorem grpX {T : TypeId} {q : Nat} (hq : ¬q < (gbs b m).length) : some (Bk.grow T 1 (((grp (bsL b) m).map fun x => [Cell.v (u32 x)]) ++ [[Cell.v (.int .u32 (decV ((gbs b m).take q) : Nat))]])) = some (Bk.grow T 1 ((grp (bsL b) (m + 1)).map fun x => [Cell.v (u32 x)])) := grpG (gbs_end b m hq)
theorem ok_a {c n : Int} {p : Bool} (h : ¬c = 48) : ¬(c = 48 ∧ (n > 1 ∨ p = true)) := fun g => h g.1
theorem ok_b {c n : Int} {p : Bool} (h : ¬n > 1) (h2 : p = false) : ¬(c = 48 ∧ (n > 1 ∨ p = true)) := fun g => by
  rcases g.2 with g | g
  · exact h g
  · rw [h2] at g; cases g
theorem all_of (h1 : k ≤ b.size) (h2 : ¬(k : Int) < b.size) (h : ∀ j, j < k → dgt (bsL b) j) : ∀ j, j < b.size → dgt (bsL b) j := fun j hj => h j (by omega)
theorem grp_end (h : ¬((b.size : Nat) : Int) - 9 * (m : Int) > 0) : val (grp (bsL b) m) = decV (bsL b) := val_grp_all (by rw [bsL_len]; omega)
theorem ext_eq {a c a' c' : Nat} (h1 : a = a') (h2 : c = c') : some (AV.c (Cell.sl 1 (bytesC (b.extract a c)))) = some (AV.c (Cell.sl 1 (bytesC (b.extract a' c')))) := by rw [h1, h2]
end
/-! ### Small numbers -/
def digS : ByteArray := ⟨(((List.range 10).map fun i => UInt8.ofNat (48 + i)) ++ ((List.range 26).map fun i => UInt8.ofNat (97 + i))).toArray⟩
def smlS : ByteArray := ⟨((List.range 100).flatMap fun i => [UInt8.ofNat (48 + i / 10), UInt8.ofNat (48 + i % 10)]).toArray⟩
def smallS (n : Nat) : ByteArray := if n < 10 then digS.extract n (n + 1) else smlS.extract (2 * n) (2 * n + 2)
theorem small_1 {n : Nat} {L : ByteArray} (h : (n : Int) < 10) (hL : L = digS) : packA [AV.c (Cell.v (.string (L.extract n (IntKind.i64.wrap ((n : Int) + 1)).toNat)))] = AV.str (smallS n) := by
  rw [hL, wi64 (by omega) (by omega), show ((n : Int) + 1).toNat = n + 1 by omega]
  unfold smallS
  rw [if_pos (by omega)]; rfl
theorem small_2 {n : Nat} {L : ByteArray} (h : ¬(n : Int) < 10) (h2 : n < 100) (hL : L = smlS) : packA [AV.c (Cell.v (.string (L.extract (IntKind.i64.wrap ((n : Int) * 2)).toNat (IntKind.i64.wrap (IntKind.i64.wrap ((n : Int) * 2) + 2)).toNat)))] = AV.str (smallS n) := by
  rw [hL, wi64 (a := (n : Int) * 2) (by omega) (by omega), wi64 (by omega) (by omega), show ((n : Int) * 2 + 2).toNat = 2 * n + 2 by omega, show ((n : Int) * 2).toNat = 2 * n by omega]
  unfold smallS
  rw [if_neg (by omega)]; rfl
theorem small_p1 {n : Nat} {L : ByteArray} (h : (n : Int) < 10) (hL : (36 : Int) ≤ L.size) :
    0 ≤ (n : Int) ∧ (n : Int) ≤ IntKind.i64.wrap ((n : Int) + 1) ∧ IntKind.i64.wrap ((n : Int) + 1) ≤ L.size ∧ (L.size : Int) ≤ L.size ∧ ((none : Option Int).isSome = true → (some (IntKind.i64.wrap ((n : Int) + 1))).isSome = true) := by
  rw [wi64 (by omega) (by omega)]
  exact ⟨by omega, by omega, by omega, Int.le_refl _, fun _ => rfl⟩
theorem small_p2 {n : Nat} {L : ByteArray} (h2 : n < 100) (hL : (200 : Int) ≤ L.size) :
    0 ≤ IntKind.i64.wrap ((n : Int) * 2) ∧ IntKind.i64.wrap ((n : Int) * 2) ≤ IntKind.i64.wrap (IntKind.i64.wrap ((n : Int) * 2) + 2) ∧ IntKind.i64.wrap (IntKind.i64.wrap ((n : Int) * 2) + 2) ≤ L.size ∧ (L.size : Int) ≤ L.size ∧
      ((none : Option Int).isSome = true → (some (IntKind.i64.wrap (IntKind.i64.wrap ((n : Int) * 2) + 2))).isSome = true) := by
  rw [wi64 (a := (n : Int) * 2) (by omega) (by omega), wi64 (by omega) (by omega)]
  exact ⟨by omega, by omega, by omega, Int.le_refl _, fun _ => rfl⟩
/-! ### Cut at one byte -/
def ixB (s : ByteArray) (c : Int) : Int := Lib.indexByte s.data.toList c.toNat.toUInt8
def ixS (s p : ByteArray) : Int := if bsL p = bsL s then 0 else ixB s ((bsL p).getD 0 0 : Nat)
theorem ix_lt (l : List UInt8) (c : UInt8) : Lib.indexByte l c < l.length ∧ -1 ≤ Lib.indexByte l c := by
  induction l with
  | nil => simp [Lib.indexByte]
  | cons b r ih =>
    unfold Lib.indexByte
    split
    · simp only [List.length_cons]; omega
    · split
      · simp only [List.length_cons]; omega
      · simp only [List.length_cons]; omega
theorem ixB_lt (s : ByteArray) (c : Int) : ixB s c < s.size ∧ -1 ≤ ixB s c := by
  have := ix_lt s.data.toList c.toNat.toUInt8
  unfold ixB
  simpa using this
theorem ixS_lt {s p : ByteArray} (h : p.size = 1) : ixS s p < s.size ∧ -1 ≤ ixS s p := by
  unfold ixS
  split
  · rename_i e
    have : s.size = 1 := by rw [← bsL_len, ← e, bsL_len, h]
    omega
  · exact ixB_lt s _
def ctA (s p : ByteArray) : ByteArray := if 0 ≤ ixS s p then s.extract 0 (ixS s p).toNat else s
def ctB (s p : ByteArray) : ByteArray := if 0 ≤ ixS s p then s.extract (ixS s p + p.size).toNat s.size else ⟨#[]⟩
theorem ct_y {s p : ByteArray} (h : ixS s p ≥ 0) : packA [AV.c (Cell.v (.string (s.extract 0 (ixS s p).toNat))), AV.c (Cell.v (.string (s.extract (ixS s p + p.size).toNat s.size))), AV.c (Cell.v (.bool true))] = AV.tup [AV.str (ctA s p), AV.str (ctB s p), AV.bool (decide (0 ≤ ixS s p))] := by
  unfold ctA ctB
  rw [if_pos h, if_pos h, decide_eq_true (show 0 ≤ ixS s p from h)]; rfl
theorem ct_n {s p : ByteArray} (h : ¬ixS s p ≥ 0) : packA [AV.c (Cell.v (.string s)), AV.c (Cell.v (.string ⟨#[]⟩)), AV.c (Cell.v (.bool false))] = AV.tup [AV.str (ctA s p), AV.str (ctB s p), AV.bool (decide (0 ≤ ixS s p))] := by
  unfold ctA ctB
  rw [if_neg h, if_neg h, decide_eq_false (show ¬0 ≤ ixS s p from h)]; rfl
theorem ix_y {s p : ByteArray} (h : bsL p = bsL s) : packA [AV.c (Cell.v (.int .i64 0))] = AV.int .i64 (ixS s p) := by unfold ixS; rw [if_pos h]; rfl
theorem ix_n {s p : ByteArray} (h : ¬bsL p = bsL s) : packA [AV.c (Cell.v (.int .i64 (ixB s ((bsL p).getD 0 0 : Nat))))] = AV.int .i64 (ixS s p) := by unfold ixS; rw [if_neg h]; rfl
end Go.Sw

namespace Go.Proofs.YtghlkihmnopenaaGreatDoor
open Go Go.RowKit Go.Sw
set_option linter.unusedVariables false
set_option maxRecDepth 100000
set_option maxHeartbeats 8000000
set_option synthInstance.maxSize 4000
set_option synthInstance.maxHeartbeats 400000
instance s_hp (s p : ByteArray) : DenI Tryz.prog 136 [.str s, .str p] (True) (.bool (pfx s p)) := ⟨fun hp => by
 refine den_of (τ := tab) tab_ok mixed_ Tryz.func136 rfl (by kernel_rfl) (by kernel_rfl) (by kernel_rfl) ?_
 all_goals (repeat' ((try (conv => whnf)); first
  | refine call_0 ?_
  | refine call_i ?_ ?_
  | refine call_c ?_ (fun _ => ?_) (fun _ => ?_)
  | (with_reducible refine onB_t ?_)
  | (with_reducible refine onB_f ?_)
  | (with_reducible refine onB_d (fun _ => ?_) (fun _ => ?_))
  | (with_reducible refine onB_n (fun _ => ?_) (fun _ => ?_))
  | refine OnB.mk (fun _ => ?_) (fun _ => ?_)
  | refine obl_i ?_ ?_
  | refine Drw.mk (by kernel_rfl) ?_
  | refine mks_i ?_ ?_
  | refine slp_i ?_ ?_
  | (with_reducible refine elem_u ?_ ?_)
  | (with_reducible refine elem_0 ?_)
  | (with_reducible refine elem_1 ?_)
  | (with_reducible refine strAt_i ?_ ?_)
  | (with_reducible refine elem_b ?_ ?_)
  | refine Ends.mk ?_))
 all_goals (try refine Pr.mk ?_)
 all_goals (try simp only [Option.getD_some, Option.getD_none, Int.toNat_natCast, Int.toNat_zero] at *)
 all_goals first
  | exact hp_y (by assumption)
  | exact hp_n (by assumption)
  | rfl
  | omega
  | decide
  | ((repeat' apply And.intro) <;> first | omega | decide | (intro h; cases h; done) | (intro h; rfl))
  | skip⟩

instance s_cp0 (s p : ByteArray) : DenI Tryz.prog 125 [.str s, .str p] (True) (.tup [.str (cutP s p), .bool (pfx s p)]) := ⟨fun hp => by
 refine den_of (τ := tab) tab_ok mixed_ Tryz.func125 rfl (by kernel_rfl) (by kernel_rfl) (by kernel_rfl) ?_
 all_goals (repeat' ((try (conv => whnf)); first
  | refine call_0 ?_
  | refine call_i ?_ ?_
  | refine call_c ?_ (fun _ => ?_) (fun _ => ?_)
  | (with_reducible refine onB_t ?_)
  | (with_reducible refine onB_f ?_)
  | (with_reducible refine onB_d (fun _ => ?_) (fun _ => ?_))
  | (with_reducible refine onB_n (fun _ => ?_) (fun _ => ?_))
  | refine OnB.mk (fun _ => ?_) (fun _ => ?_)
  | refine obl_i ?_ ?_
  | refine Drw.mk (by kernel_rfl) ?_
  | refine mks_i ?_ ?_
  | refine slp_i ?_ ?_
  | (with_reducible refine elem_u ?_ ?_)
  | (with_reducible refine elem_0 ?_)
  | (with_reducible refine elem_1 ?_)
  | (with_reducible refine strAt_i ?_ ?_)
  | (with_reducible refine elem_b ?_ ?_)
  | refine Ends.mk ?_))
 all_goals (try refine Pr.mk ?_)
 all_goals (try simp only [Option.getD_some, Option.getD_none, Int.toNat_natCast, Int.toNat_zero] at *)
 all_goals first
  | exact cp_y (by assumption)
  | exact cp_n (by assumption)
  | (have z := pfx_le (by assumption); (repeat' apply And.intro) <;> first | omega | decide | (intro h; cases h; done))
  | rfl
  | omega
  | decide
  | ((repeat' apply And.intro) <;> first | omega | decide | (intro h; cases h; done) | (intro h; rfl))
  | skip⟩

instance s_hp2 (s p : ByteArray) : DenI Tryz.prog 129 [.str s, .str p] (True) (.bool (pfx s p)) := ⟨fun hp => by
 refine den_of (τ := tab) tab_ok mixed_ Tryz.func129 rfl (by kernel_rfl) (by kernel_rfl) (by kernel_rfl) ?_
 all_goals (repeat' ((try (conv => whnf)); first
  | refine call_0 ?_
  | refine call_i ?_ ?_
  | refine call_c ?_ (fun _ => ?_) (fun _ => ?_)
  | (with_reducible refine onB_t ?_)
  | (with_reducible refine onB_f ?_)
  | (with_reducible refine onB_d (fun _ => ?_) (fun _ => ?_))
  | (with_reducible refine onB_n (fun _ => ?_) (fun _ => ?_))
  | refine OnB.mk (fun _ => ?_) (fun _ => ?_)
  | refine obl_i ?_ ?_
  | refine Drw.mk (by kernel_rfl) ?_
  | refine mks_i ?_ ?_
  | refine slp_i ?_ ?_
  | (with_reducible refine elem_u ?_ ?_)
  | (with_reducible refine elem_0 ?_)
  | (with_reducible refine elem_1 ?_)
  | (with_reducible refine strAt_i ?_ ?_)
  | (with_reducible refine elem_b ?_ ?_)
  | refine Ends.mk ?_))
 all_goals (try refine Pr.mk ?_)
 all_goals (try simp only [Option.getD_some, Option.getD_none, Int.toNat_natCast, Int.toNat_zero] at *)
 all_goals first
  | rfl
  | omega
  | decide
  | ((repeat' apply And.intro) <;> first | omega | decide | (intro h; cases h; done) | (intro h; rfl))
  | skip⟩

instance s_cp (s p : ByteArray) : DenI Tryz.prog 105 [.str s, .str p] (True) (.tup [.str (cutP s p), .bool (pfx s p)]) := ⟨fun hp => by
 refine den_of (τ := tab) tab_ok mixed_ Tryz.func105 rfl (by kernel_rfl) (by kernel_rfl) (by kernel_rfl) ?_
 all_goals (repeat' ((try (conv => whnf)); first
  | refine call_0 ?_
  | refine call_i ?_ ?_
  | refine call_c ?_ (fun _ => ?_) (fun _ => ?_)
  | (with_reducible refine onB_t ?_)
  | (with_reducible refine onB_f ?_)
  | (with_reducible refine onB_d (fun _ => ?_) (fun _ => ?_))
  | (with_reducible refine onB_n (fun _ => ?_) (fun _ => ?_))
  | refine OnB.mk (fun _ => ?_) (fun _ => ?_)
  | refine obl_i ?_ ?_
  | refine Drw.mk (by kernel_rfl) ?_
  | refine mks_i ?_ ?_
  | refine slp_i ?_ ?_
  | (with_reducible refine elem_u ?_ ?_)
  | (with_reducible refine elem_0 ?_)
  | (with_reducible refine elem_1 ?_)
  | (with_reducible refine strAt_i ?_ ?_)
  | (with_reducible refine elem_b ?_ ?_)
  | refine Ends.mk ?_))
 all_goals (try refine Pr.mk ?_)
 all_goals (try simp only [Option.getD_some, Option.getD_none, Int.toNat_natCast, Int.toNat_zero] at *)
 all_goals first
  | rfl
  | omega
  | decide
  | ((repeat' apply And.intro) <;> first | omega | decide | (intro h; cases h; done) | (intro h; rfl))
  | skip⟩

end Go.Proofs.YtghlkihmnopenaaGreatDoor

namespace Go.Proofs.YtghlkihmnopenaaGreatDoor
open Go Go.RowKit Go.Sw
set_option linter.unusedVariables false
set_option maxRecDepth 100000
set_option maxHeartbeats 8000000
set_option synthInstance.maxSize 4000
set_option synthInstance.maxHeartbeats 400000
instance s_small (n : Nat) : DenI Tryz.prog 138 [.int .i64 (n : Nat)] (n < 100) (.str (smallS n)) := ⟨fun hp => by
 refine den_of (τ := tab) tab_ok mixed_ Tryz.func138 rfl (by kernel_rfl) (by kernel_rfl) (by kernel_rfl) ?_
 all_goals (repeat' ((try (conv => whnf)); first
  | refine call_0 ?_
  | refine call_i ?_ ?_
  | refine call_c ?_ (fun _ => ?_) (fun _ => ?_)
  | (with_reducible refine onB_t ?_)
  | (with_reducible refine onB_f ?_)
  | (with_reducible refine onB_d (fun _ => ?_) (fun _ => ?_))
  | (with_reducible refine onB_n (fun _ => ?_) (fun _ => ?_))
  | refine OnB.mk (fun _ => ?_) (fun _ => ?_)
  | refine obl_i ?_ ?_
  | refine Drw.mk (by kernel_rfl) ?_
  | refine mks_i ?_ ?_
  | refine slp_i ?_ ?_
  | (with_reducible refine elem_u ?_ ?_)
  | (with_reducible refine elem_0 ?_)
  | (with_reducible refine elem_1 ?_)
  | refine Ends.mk ?_))
 all_goals (try refine Pr.mk ?_)
 all_goals (try simp only [Option.getD_some, Option.getD_none, Int.toNat_natCast])
 · (refine small_p1 (by assumption) ?_; decide +kernel)
 · (refine small_1 (by assumption) ?_; decide +kernel)
 · (refine small_p2 hp ?_; decide +kernel)
 · (refine small_2 (by assumption) hp ?_; decide +kernel)⟩

instance s_smallz (z : Int) : DenI Tryz.prog 138 [.int .i64 z] (0 ≤ z ∧ z < 100) (.str (smallS z.toNat)) := ⟨fun hp => by
 obtain ⟨n, rfl⟩ := Int.eq_ofNat_of_zero_le hp.1
 exact (s_small n).den (by omega)⟩
instance s_fu0 (z : Int) : DenI Tryz.prog 127 [.int .u64 z, .int .i64 10] (0 ≤ z ∧ z < 100) (.str (smallS z.toNat)) := ⟨fun hp => by
 have w10 : IntKind.i64.wrap z = z := wi64 (by omega) (by omega)
 have hn : decide (z < 100) = true := decide_eq_true (by omega)
 all_goals refine den_of (τ := tab) tab_ok mixed_ Tryz.func127 rfl (by kernel_rfl) (by kernel_rfl) (by kernel_rfl) ?_
 all_goals (repeat' ((try (conv => whnf)); first
  | (with_reducible refine onB_yes (by assumption) ?_)
  | refine call_0 ?_
  | refine call_i ?_ ?_
  | refine call_c ?_ (fun _ => ?_) (fun _ => ?_)
  | (with_reducible refine onB_t ?_)
  | (with_reducible refine onB_f ?_)
  | (with_reducible refine onB_d (fun _ => ?_) (fun _ => ?_))
  | (with_reducible refine onB_n (fun _ => ?_) (fun _ => ?_))
  | refine OnB.mk (fun _ => ?_) (fun _ => ?_)
  | refine obl_i ?_ ?_
  | refine Drw.mk (by kernel_rfl) ?_
  | refine mks_i ?_ ?_
  | refine slp_i ?_ ?_
  | (with_reducible refine elem_u ?_ ?_)
  | (with_reducible refine elem_0 ?_)
  | (with_reducible refine elem_1 ?_)
  | refine Ends.mk ?_))
 all_goals (try refine Pr.mk ?_)
 all_goals (try rw [w10])
 · exact hp
 · rfl
 · (exfalso; omega)
 · (exfalso; omega)⟩

instance s_fu (z : Int) : DenI Tryz.prog 111 [.int .u64 z, .int .i64 10] (0 ≤ z ∧ z < 100) (.str (smallS z.toNat)) := ⟨fun hp => by
 refine den_of (τ := tab) tab_ok mixed_ Tryz.func111 rfl (by kernel_rfl) (by kernel_rfl) (by kernel_rfl) ?_
 all_goals (repeat' ((try (conv => whnf)); first
  | refine call_0 ?_
  | refine call_i ?_ ?_
  | refine call_c ?_ (fun _ => ?_) (fun _ => ?_)
  | (with_reducible refine onB_t ?_)
  | (with_reducible refine onB_f ?_)
  | (with_reducible refine onB_d (fun _ => ?_) (fun _ => ?_))
  | (with_reducible refine onB_n (fun _ => ?_) (fun _ => ?_))
  | refine OnB.mk (fun _ => ?_) (fun _ => ?_)
  | refine obl_i ?_ ?_
  | refine Drw.mk (by kernel_rfl) ?_
  | refine mks_i ?_ ?_
  | refine slp_i ?_ ?_
  | (with_reducible refine elem_u ?_ ?_)
  | (with_reducible refine elem_0 ?_)
  | (with_reducible refine elem_1 ?_)
  | refine Ends.mk ?_))
 all_goals (try refine Pr.mk ?_)
 · exact hp
 · rfl⟩

end Go.Proofs.YtghlkihmnopenaaGreatDoor

namespace Go.Proofs.YtghlkihmnopenaaGreatDoor
open Go Go.RowKit Go.Sw Go.Shelf
set_option linter.unusedVariables false
set_option maxRecDepth 100000
set_option maxHeartbeats 8000000
theorem sizeB : (Tryz.prog.info? 93).map (fun i => i.size) = some 2 := by kernel_rfl
theorem liesB : liesAt Tryz.prog Tryz.prog.depth 93 (2 / Tryz.prog.cellsOf 93) 0 93 1 = true := by kernel_rfl
theorem cc_used (b : Nat) (w : World) (h0 : w.cell? ⟨b, 0, none⟩ = some (.pointer (some ⟨b, 0, none⟩))) :
    Calls Tryz.prog 126 #[.pointer (some ⟨b, 0, none⟩)] w fun e w' => e = .returned (.tuple #[]) ∧ w' = w := by
  obtain ⟨j, hj, _⟩ := Option.map_eq_some_iff.1 sizeB
  go_enter Tryz.func126, Tryz.ntmps126
  go_wp2
  rw [Lib.run_neq_ptr_same w _ Tryz.underlying91 hj]
  go_wp2
  go_end0
  exact ⟨rfl, rfl⟩
theorem cc_fresh (b : Nat) (w : World) (h0 : w.cell? ⟨b, 0, none⟩ = some (.pointer none)) (hsh : w.shape? b = some (93, 2)) (hfz : w.frozen? ⟨b, 0, none⟩ = false) :
    Calls Tryz.prog 126 #[.pointer (some ⟨b, 0, none⟩)] w fun e w' => e = .returned (.tuple #[]) ∧ w' = w.setCell ⟨b, 0, none⟩ (.pointer (some ⟨b, 0, none⟩)) := by
  obtain ⟨j, hj, hjs⟩ := Option.map_eq_some_iff.1 sizeB
  go_enter Tryz.func126, Tryz.ntmps126
  go_wp2
  rw [Lib.run_to_unsafe w ⟨b, 0, none⟩ Tryz.underlying91 Tryz.underlying117 hj (by rw [hjs]; decide) hsh (Nat.zero_lt_succ 1)]
  simp only [Result.andThen]
  rw [Oper.upon_value]
  go_wp2
  rw [run_callFunc_extern Tryz.func137 (by kernel_rfl) (by kernel_rfl) (by kernel_rfl) (e := Extern.AbiNoEscape.same) (by kernel_rfl)]
  rw [Lib.run_noEscape]
  simp only [Result.andThen]
  rw [Oper.upon_value]
  go_wp2
  rw [Lib.run_from_unsafe w ⟨b, 0, none⟩ Tryz.underlying117 Tryz.underlying91 hj hsh liesB]
  simp only [Result.andThen]
  rw [Oper.upon_value]
  go_wp2
  go_end0
  exact ⟨rfl, rfl⟩
theorem cc (B b : Nat) (bs : List Value) (w : World) (h : Lib.IsBuilder 93 5 B b bs w) :
    Calls Tryz.prog 126 #[.pointer (some ⟨b, 0, none⟩)] w fun e w' => e = .returned (.tuple #[]) ∧ (Lib.BuilderAt 93 5 B b (.pointer (some ⟨b, 0, none⟩)) bs w' ∧ Below B w w') := by
  rcases h with h | h
  · refine (cc_fresh b w h.cell0 h.shape h.frozen0).mono ?_
    rintro e w' ⟨rfl, rfl⟩
    exact ⟨rfl, h.used _, (Below.refl B w).setCell (p := ⟨b, 0, none⟩) h.1 _⟩
  · refine (cc_used b w h.cell0).mono ?_
    rintro e w' ⟨rfl, rfl⟩
    exact ⟨rfl, h, Below.refl _ _⟩
theorem info5 : ∃ i0, Tryz.prog.info? 5 = some i0 ∧ i0.zero = some (.int .u8 0) ∧ i0.size = 1 ∧ i0.bytes = 1 := info_parts (by kernel_rfl)
theorem liesAt93 (w : World) {b : Nat} {x y : Value} (h : w.heap[b]? = some (.cells #[x, y] 93 (0, 0))) : b < w.heap.size := by
  rcases Nat.lt_or_ge b w.heap.size with h' | h'
  · exact h'
  · simp [Array.getElem?_eq_none h'] at h
theorem wb (B b : Nat) (bs : List Value) (c : Int) (w : World) (h : Lib.IsBuilder 93 5 B b bs w) (hlen : bs.length + 1 ≤ 1000000) (hBw : B ≤ w.heap.size) :
    Calls Tryz.prog 109 #[.pointer (some ⟨b, 0, none⟩), .int .u8 c] w fun e w' => e = .returned .nilIface ∧ (Lib.BuilderAt 93 5 B b (.pointer (some ⟨b, 0, none⟩)) (bs ++ [.int .u8 c]) w' ∧ Below B w w') := by
  obtain ⟨i0, hi, hz0, hz1, hz2⟩ := info5
  go_enter Tryz.func109, Tryz.ntmps109
  go_wp2_with (go_at_call 126; refine (cc B b bs _ h).mono ?_)
  rintro e w1 ⟨rfl, h1, hb1⟩
  obtain ⟨hB, v, hbk, hown, hne⟩ := h1
  have c0 : w1.cell? ⟨b, 0, none⟩ = some (.pointer (some ⟨b, 0, none⟩)) := by rw [Lib.cell_of_heap hbk]; rfl
  have c1 : w1.cell? ⟨b, 1, none⟩ = some v := by rw [Lib.cell_of_heap hbk]; rfl
  go_wp2_with (at_builtin; refine wpList_append_own _ rfl _ _ 88 rfl B 5 i0 (.int .u8 0) 1 1 Tryz.underlying88 hi hz0 hz1 hz2 rfl (by decide) _ _ _ rfl (hown.alloc _) ⟨w1.heap.size, 0, none⟩ 1 1 [.int .u8 c] rfl rfl ?c1 ?c2 ?c3 ?c4 ?c5 ?_)
  case c1 =>
    intro j u hj
    match j, hj with
    | 0, hj => simp at hj; subst hj; simp [Addr.add]
  case c2 => intro u hu; simp at hu; subst hu; rfl
  case c3 => unfold maxLen; omega
  case c4 => omega
  case c5 => have := hb1.size; simp; omega
  intro v' w2 hown' hgrow _
  have hlt := liesAt93 w1 hbk
  have hb2 : w2.heap[b]? = some (.cells #[.pointer (some ⟨b, 0, none⟩), v] 93 (0, 0)) := by
    rw [hgrow.block b (by simp; omega) (fun e => hne e.symm), Lib.alloc_old w1 _ b hlt]
    exact hbk
  have d0 : w2.cell? ⟨b, 0, none⟩ = some (.pointer (some ⟨b, 0, none⟩)) := by rw [Lib.cell_of_heap hb2]; rfl
  have d1 : w2.cell? ⟨b, 1, none⟩ = some v := by rw [Lib.cell_of_heap hb2]; rfl
  have f1 : w2.frozen? ⟨b, 1, none⟩ = false := Lib.frozen_of_heap hb2 1
  obtain ⟨g, cap, rfl⟩ : ∃ g cap, v' = .slice (some ⟨g, 0, none⟩) (bs.length + 1) cap := by
    rcases hown'.2 with ⟨_, h0⟩ | ⟨g, cap, cur, hv, _⟩
    · omega
    · exact ⟨g, cap, hv⟩
  go_wp2
  go_ret
  refine ⟨rfl, ?_, ?_⟩
  · exact Lib.BuilderAt.put (T := 93) (e := 5) hB hb2 (bs' := bs ++ [.int .u8 c]) (by simpa using hown') (by decide)
  · exact ((hb1.alloc (by have := hb1.size; omega) _).grown hgrow (by have := hb1.size; simp; omega) (fun k hk => (hown.lt k hk).1)).setCell (p := ⟨b, 1, none⟩) hB _
theorem ws (B b : Nat) (bs : List Value) (s : ByteArray) (w : World) (h : Lib.IsBuilder 93 5 B b bs w) (hlen : bs.length + s.size ≤ 1000000) (hBw : B ≤ w.heap.size) :
    Calls Tryz.prog 110 #[.pointer (some ⟨b, 0, none⟩), .string s] w fun e w' => e = .returned (.tuple #[.int .i64 s.size, .nilIface]) ∧ (Lib.BuilderAt 93 5 B b (.pointer (some ⟨b, 0, none⟩)) (bs ++ Lib.strCells s) w' ∧ Below B w w') := by
  obtain ⟨i0, hi, hz0, hz1, hz2⟩ := info5
  go_enter Tryz.func110, Tryz.ntmps110
  go_wp2_with (go_at_call 126; refine (cc B b bs _ h).mono ?_)
  rintro e w1 ⟨rfl, h1, hb1⟩
  obtain ⟨hB, v, hbk, hown, hne⟩ := h1
  have c0 : w1.cell? ⟨b, 0, none⟩ = some (.pointer (some ⟨b, 0, none⟩)) := by rw [Lib.cell_of_heap hbk]; rfl
  have c1 : w1.cell? ⟨b, 1, none⟩ = some v := by rw [Lib.cell_of_heap hbk]; rfl
  go_wp2_with (at_builtin; refine Lib.wpList_append_own_string _ rfl _ _ 88 9 rfl B 5 i0 Tryz.underlying88 Tryz.underlying9 hi hz0 hz1 hz2 _ _ _ rfl hown s rfl ?c3 ?c4 ?c5 ?_)
  case c3 => unfold maxLen; omega
  case c4 => omega
  case c5 => have := hb1.size; omega
  intro v' w2 hown' hgrow _
  have hlt := liesAt93 w1 hbk
  have hb2 : w2.heap[b]? = some (.cells #[.pointer (some ⟨b, 0, none⟩), v] 93 (0, 0)) := by
    rw [hgrow.block b hlt (fun e => hne e.symm)]
    exact hbk
  have d0 : w2.cell? ⟨b, 0, none⟩ = some (.pointer (some ⟨b, 0, none⟩)) := by rw [Lib.cell_of_heap hb2]; rfl
  have d1 : w2.cell? ⟨b, 1, none⟩ = some v := by rw [Lib.cell_of_heap hb2]; rfl
  have f1 : w2.frozen? ⟨b, 1, none⟩ = false := Lib.frozen_of_heap hb2 1
  obtain ⟨ao, n', cap, rfl⟩ : ∃ ao n' cap, v' = .slice ao n' cap := by
    rcases hown'.2 with ⟨hv, _⟩ | ⟨g, cap, cur, hv, _⟩
    · exact ⟨_, _, _, hv⟩
    · exact ⟨_, _, _, hv⟩
  go_wp2
  go_ret2
  refine ⟨rfl, ?_, ?_⟩
  · exact Lib.BuilderAt.put (T := 93) (e := 5) hB hb2 (bs' := bs ++ Lib.strCells s) (by simpa [Lib.strCells_length] using hown') (by decide)
  · exact (hb1.grown hgrow (by have := hb1.size; omega) (fun k hk => (hown.lt k hk).1)).setCell (p := ⟨b, 1, none⟩) hB _
def ren169 : Ren where
  f := fun x => match x with | 169 => 113 | n => n
  t := fun x => match x with | 70 => 91 | 9 => 9 | 0 => 0 | 72 => 93 | 37 => 88 | 127 => 114 | 3 => 3 | 5 => 5 | n => n
  g := fun x => x
theorem lays169 : Lays.n169 Tryz.prog ren169 where
  mixed := by kernel_rfl
  f169 := Eq.trans Tryz.func113 (congrArg some (Eq.refl (Body.n169 ren169)))
  t0 := Tryz.underlying0
  a0 := Tryz.isAgg0
  z0 := Tryz.sizeOf0
  v0 := Tryz.zeroValue0
  t3 := Tryz.underlying3
  a3 := Tryz.isAgg3
  z3 := Tryz.sizeOf3
  v3 := Tryz.zeroValue3
  t9 := Tryz.underlying9
  a9 := Tryz.isAgg9
  z9 := Tryz.sizeOf9
  v9 := Tryz.zeroValue9
  t37 := Tryz.underlying88
  a37 := Tryz.isAgg88
  z37 := Tryz.sizeOf88
  v37 := Tryz.zeroValue88
  t70 := Tryz.underlying91
  a70 := Tryz.isAgg91
  z70 := Tryz.sizeOf91
  v70 := Tryz.zeroValue91
  t72 := Tryz.underlying93
  a72 := Tryz.isAgg93
  z72 := Tryz.sizeOf93
  v72 := Tryz.zeroValue93
  t127 := Tryz.underlying114
  a127 := Tryz.isAgg114
  z127 := Tryz.sizeOf114
  v127 := Tryz.zeroValue114
theorem ext169 : Builder.Extra Tryz.prog ren169 where
  sizeBuilder := by kernel_rfl
  liesBuilder := by kernel_rfl
  t5 := Tryz.underlying5
  a5 := Tryz.isAgg5
  z5 := Tryz.sizeOf5
  v5 := Tryz.zeroValue5
  infoByte := by kernel_rfl
  cellsByte := by kernel_rfl
  sizeByte := by kernel_rfl
  neB5 := by decide
theorem FU {m : Nat} (hm : m < 100) (w : World) : Calls Tryz.prog 111 #[.int .u64 m, .int .i64 10] w fun e w' => e = .returned (.string (smallS m)) ∧ Below w.heap.size w w' := by
  have h := ((s_fu (m : Int)).den ⟨by omega, by omega⟩).old rfl
  refine (h.2 w [] [.int .u64 m, .int .i64 10] trivial (by simp) rfl (fun i u v hu hv => ?_)).mono ?_
  · match i, hu, hv with
    | 0, hu, hv => simp at hu hv; subst hu hv; exact .c (.v _ rfl)
    | 1, hu, hv => simp at hu hv; subst hu hv; exact .c (.v _ rfl)
  · rintro e w' ⟨u, rfl, hu, hb⟩
    refine ⟨?_, hb⟩
    cases hu.r with
    | d h => cases h with
      | c h => cases h; rfl
theorem al_size (w : World) (o : Obj) : (w.alloc o).heap.size = w.heap.size + 1 := by simp [World.alloc, -World.alloc_eq]
theorem al_new (w : World) (o : Obj) : (w.alloc o).heap[w.heap.size]? = some o := by simp [World.alloc, -World.alloc_eq]
theorem fmt_prep {w w1 : World} {x y : Array Value} {s t : TypeId} (hb : Below ((w.alloc (.cells x s)).alloc (.cells y t)).heap.size ((w.alloc (.cells x s)).alloc (.cells y t)) w1) :
    w1.heap[w.heap.size]? = some (.cells x s (0, 0)) ∧ w1.heap[w.heap.size + 1]? = some (.cells y t (0, 0)) ∧ Below w.heap.size w w1 ∧ w.heap.size + 2 ≤ w1.heap.size := by
  have e1 := al_size w (.cells x s)
  have e2 := al_size (w.alloc (.cells x s)) (.cells y t)
  refine ⟨?_, ?_, ⟨hb.os, hb.tape, hb.output, ?_, fun k hk => ?_⟩, ?_⟩
  · rw [hb.block _ (by omega), Lib.alloc_old _ _ _ (by omega), al_new]
  · rw [hb.block _ (by omega), ← e1, al_new]
  · have := hb.size; omega
  · rw [hb.block k (by omega), Lib.alloc_old _ _ _ (by omega), Lib.alloc_old _ _ _ hk]
  · have := hb.size; omega
theorem small_size {m : Nat} (h : m < 100) : (smallS m).size ≤ 2 ∧ 0 < (smallS m).size := by
  revert m; decide +kernel
theorem below3 {w w1 w2 w3 : World} {B : Nat} (h1 : Below w.heap.size w w1) (hB : w.heap.size ≤ B) (h2 : Below B w1 w2) (h3 : Below B w2 w3) : Below w.heap.size w w3 :=
  (h1.trans (h2.mono hB)).trans (h3.mono hB)
theorem small_ne {m : Nat} (h : m < 100) : (smallS m).data.toList ≠ [] := by
  revert m; decide +kernel
theorem cell_hdr {w2 : World} {g : Nat} {x y : Value} {t : TypeId} (h : w2.heap[g]? = some (.cells #[x, y] t (0, 0))) : w2.cell? ⟨g, 1, none⟩ = some y := by
  rw [Lib.cell_of_heap h]; rfl
theorem heap_lt {w : World} {b : Nat} {o : Obj} (h : w.heap[b]? = some o) : b < w.heap.size := by
  rcases Nat.lt_or_ge b w.heap.size with h' | h'
  · exact h'
  · simp [Array.getElem?_eq_none h'] at h
theorem bld_below {w w' : World} {T e : TypeId} {B b : Nat} {p : Value} {bs : List Value} (h : Lib.BuilderAt T e B b p bs w) (hb : Below w.heap.size w w') : Lib.BuilderAt T e B b p bs w' := by
  obtain ⟨h1, v, h2, h3, h4⟩ := h
  refine ⟨h1, v, by rw [hb.block b (heap_lt h2)]; exact h2, ⟨h3.1, ?_⟩, h4⟩
  rcases h3.2 with h | ⟨g, cap, cur, k1, k2, k3, k4⟩
  · exact .inl h
  · exact .inr ⟨g, cap, cur, k1, k2, by rw [hb.block g (heap_lt k3)]; exact k3, k4⟩
theorem fmt1 (m : Nat) (A : Addr) (cap : Nat) (w : World) (hA : A.block < w.heap.size) (hc : w.cell? A = some (.int .u32 m)) (h0 : 0 < m) (h1 : m < 100) :
    Calls Tryz.prog 83 #[.agg #[.bool false, .slice (some A) 1 cap]] w fun e w' => e = .returned (.string ⟨(smallS m).data.toList.toArray⟩) ∧ Below w.heap.size w w' := by
  go_enter Tryz.func83, Tryz.ntmps83
  go_wp2_with (go_at_call 111; refine (FU h1 _).mono ?_)
  rintro e w1 ⟨rfl, hb1⟩
  obtain ⟨q0, q1, hW, hsz⟩ := fmt_prep hb1
  have hB : Lib.IsBuilder 93 5 (w.heap.size + 1) (w.heap.size + 1) [] w1 := .inl ⟨Nat.le_refl _, .slice none 0 0, q1, World.ownsRow_nil _ _ _ _, by simp [Value.ownBlock]⟩
  clear hb1
  go_wp2_with (go_at_call 110; refine (ws _ _ _ (smallS m) _ hB (by have := (small_size h1).1; simp only [List.length_nil]; omega) (by omega)).mono ?_)
  rintro e w2 ⟨rfl, hB2, hb2⟩
  have q2 : w2.heap[w.heap.size]? = some (.cells #[.bool false, .slice (some A) 1 cap] 24 (0, 0)) := by rw [hb2.block _ (by omega)]; exact q0
  have c0 := cell_hdr q2
  go_wp2
  refine wp_loop_once ?_
  go_wp2_with (go_at_call 113; refine (Any.Builder_String lays169 ext169 _ _ (smallS m).data.toList _ (.inr hB2) (small_ne h1)).mono ?_)
  rintro e w3 ⟨rfl, hb3⟩
  go_wp2
  go_ret
  exact ⟨rfl, below3 hW (by omega) hb2 hb3⟩
theorem fmt2 (m : Nat) (A : Addr) (cap : Nat) (w : World) (hA : A.block < w.heap.size) (hc : w.cell? A = some (.int .u32 m)) (h0 : 0 < m) (h1 : m < 100) :
    Calls Tryz.prog 83 #[.agg #[.bool true, .slice (some A) 1 cap]] w fun e w' => e = .returned (.string ⟨(45 :: (smallS m).data.toList).toArray⟩) ∧ Below w.heap.size w w' := by
  go_enter Tryz.func83, Tryz.ntmps83
  have hc' : ∀ w1 : World, Below w.heap.size w w1 → w1.cell? A = some (.int .u32 m) := fun w1 h => by rw [h.cell hA]; exact hc
  have e1 := al_size w (.cells #[.bool true, .slice (some A) 1 cap] 24)
  have e2 := al_size (w.alloc (.cells #[.bool true, .slice (some A) 1 cap] 24)) (.cells #[.pointer none, .slice none 0 0] 93)
  obtain ⟨q0, q1, hW, hsz⟩ := fmt_prep (Below.refl _ ((w.alloc (.cells #[.bool true, .slice (some A) 1 cap] 24)).alloc (.cells #[.pointer none, .slice none 0 0] 93)))
  have hB : Lib.IsBuilder 93 5 (w.heap.size + 1) (w.heap.size + 1) [] ((w.alloc (.cells #[.bool true, .slice (some A) 1 cap] 24)).alloc (.cells #[.pointer none, .slice none 0 0] 93)) := .inl ⟨Nat.le_refl _, .slice none 0 0, q1, World.ownsRow_nil _ _ _ _, by simp [Value.ownBlock]⟩
  go_wp2_with (go_at_call 109; refine (wb _ _ _ 45 _ hB (by decide) (by omega)).mono ?_)
  rintro e w0 ⟨rfl, hB0, hb0⟩
  have hW0 : Below w.heap.size w w0 := hW.trans (hb0.mono (by omega))
  have q5 : w0.heap[w.heap.size]? = some (.cells #[.bool true, .slice (some A) 1 cap] 24 (0, 0)) := by rw [hb0.block _ (by omega)]; exact q0
  have c5 := cell_hdr q5
  have c6 := hc' w0 hW0
  clear hB q0 q1 hW
  have hs0 : w.heap.size + 2 ≤ w0.heap.size := by have := hb0.size; omega
  clear hb0
  go_wp2_with (go_at_call 111; refine (FU h1 _).mono ?_)
  rintro e w1 ⟨rfl, hb1⟩
  have hW1 : Below w.heap.size w w1 := hW0.trans (hb1.mono (by omega))
  have hB1 := bld_below hB0 hb1
  have q6 : w1.heap[w.heap.size]? = some (.cells #[.bool true, .slice (some A) 1 cap] 24 (0, 0)) := by rw [hb1.block _ (by omega)]; exact q5
  have hs1 : w.heap.size + 2 ≤ w1.heap.size := by have := hb1.size; omega
  clear hb1 c5 c6
  go_wp2_with (go_at_call 110; refine (ws _ _ _ (smallS m) _ (.inr hB1) (by have := (small_size h1).1; simp only [List.length_append, List.length_nil, List.length_cons]; omega) (by omega)).mono ?_)
  rintro e w2 ⟨rfl, hB2, hb2⟩
  have q2 : w2.heap[w.heap.size]? = some (.cells #[.bool true, .slice (some A) 1 cap] 24 (0, 0)) := by rw [hb2.block _ (by omega)]; exact q6
  have c0 := cell_hdr q2
  go_wp2
  refine wp_loop_once ?_
  go_wp2_with (go_at_call 113; refine (Any.Builder_String lays169 ext169 _ _ (45 :: (smallS m).data.toList) _ (.inr hB2) (by simp)).mono ?_)
  rintro e w3 ⟨rfl, hb3⟩
  go_wp2
  go_ret
  exact ⟨rfl, below3 hW1 (by omega) hb2 hb3⟩
theorem fmt0 (A : Option Addr) (cap : Nat) (b : Bool) (w : World) : Calls Tryz.prog 83 #[.agg #[.bool b, .slice A 0 cap]] w fun e w' => e = .returned (.string ⟨#[48]⟩) ∧ Below w.heap.size w w' := by
  go_enter Tryz.func83, Tryz.ntmps83
  go_wp2
  go_ret
  refine ⟨rfl, ⟨rfl, rfl, rfl, by rw [al_size]; omega, fun k hk => Lib.alloc_old _ _ _ hk⟩⟩
def fmtI (n : Int) : ByteArray := if n = 0 then ⟨#[48]⟩ else if n < 0 then ⟨(45 :: (smallS n.natAbs).data.toList).toArray⟩ else ⟨(smallS n.natAbs).data.toList.toArray⟩
theorem fmt_all {n : Int} (hp : n.natAbs < 100) {w : World} {X : List Nat} {u : Value} (hu : IntV w X u n) : Calls Tryz.prog 83 #[u] w fun e w' => e = .returned (.string (fmtI n)) ∧ Below w.heap.size w w' := by
  obtain ⟨_, rfl, A, c, rfl, hu⟩ := hu
  by_cases h0 : n = 0
  · subst h0
    rw [show (0 : Int).natAbs = 0 from rfl, lim_zero]
    exact fmt0 A c _ w
  · have hl : lim n.natAbs = [n.natAbs] := by rw [lim_pos (by omega), show n.natAbs / 1000000000 = 0 by omega, lim_zero, show n.natAbs % 1000000000 = n.natAbs by omega]
    rw [hl] at hu ⊢
    obtain ⟨ad, rfl, h1, _, h3⟩ := hu.cl (by simp [us])
    have hc := h3 0 (.int .u32 (n.natAbs : Nat)) rfl
    rw [show ad.add 0 = ad from by unfold Addr.add; simp] at hc
    unfold fmtI
    rw [if_neg h0]
    by_cases hn : n < 0
    · rw [if_pos hn, decide_eq_true hn]
      exact fmt2 n.natAbs ad c w h1 hc (by omega) hp
    · rw [if_neg hn, decide_eq_false hn]
      exact fmt1 n.natAbs ad c w h1 hc (by omega) hp
instance s_fmt (n : Int) : DenI Tryz.prog 83 [Z n] (n.natAbs < 100) (.str (fmtI n)) := ⟨fun hp => den1 (by kernel_rfl) fun w X u hX hu => (fmt_all hp hu.int_).mono fun e w' ⟨he, hb⟩ => ⟨_, he, .d (.c (.v _ rfl)), hb⟩⟩

end Go.Proofs.YtghlkihmnopenaaGreatDoor

namespace Go.Proofs.YtghlkihmnopenaaGreatDoor
open Go Go.RowKit Go.Sw
set_option linter.unusedVariables false
set_option maxRecDepth 100000
set_option maxHeartbeats 8000000
set_option synthInstance.maxSize 4000
set_option synthInstance.maxHeartbeats 400000
instance s_parse (s : ByteArray) : DenI Tryz.prog 78 [.str s] (True) (parR s) := ⟨fun hp => by
 have hcs := cutP_size s mB
 all_goals refine den_of (τ := tab) tab_ok mixed_ Tryz.func78 rfl (by kernel_rfl) (by kernel_rfl) (by kernel_rfl) ?_
 all_goals (repeat' ((try (conv => whnf)); first
  | refine call_0 ?_
  | refine call_i ?_ ?_
  | refine call_c ?_ (fun _ => ?_) (fun _ => ?_)
  | (with_reducible refine onB_t ?_)
  | (with_reducible refine onB_f ?_)
  | (with_reducible refine onB_d (fun _ => ?_) (fun _ => ?_))
  | (with_reducible refine onB_n (fun _ => ?_) (fun _ => ?_))
  | refine OnB.mk (fun _ => ?_) (fun _ => ?_)
  | refine obl_i ?_ ?_
  | refine Drw.mk (by kernel_rfl) ?_
  | refine mks_i ?_ ?_
  | refine slp_i ?_ ?_
  | (with_reducible refine elem_u ?_ ?_)
  | (with_reducible refine elem_0 ?_)
  | (with_reducible refine elem_1 ?_)
  | (with_reducible refine strAt_i ?_ ?_)
  | (with_reducible refine elem_b ?_ ?_)
  | refine Ends.mk ?_))
 all_goals (try refine Pr.mk ?_)
 all_goals (try simp only [Option.getD_some, Option.getD_none, Int.toNat_natCast, Int.toNat_zero, bytesC_len, bsL_len, ByteArray.size_extract, eqb_iff, decide_eq_true_eq, decide_eq_false_iff_not, List.foldl_cons, List.foldl_nil] at *)
 all_goals (try simp (disch := omega) only [wi64] at *)
 all_goals first
  | ((conv => whnf); refine Sw.Loop.inv (α := Nat) (fun k => [(0, .str s), (2, .ptr 2 0), (3, .int .i64 0), (4, .str (cutP s mB)), (5, .bool (pfx s mB)), (39, .int .i64 ((cutP s mB).size : Nat)), (40, .int .i64 (k : Nat))]) (fun k => [(2, .var [.v (.bool false), .sl 1 []])]) (fun k => k ≤ (cutP s mB).size ∧ ∀ j, j < k → dgt (bsL (cutP s mB)) j) (fun k => (cutP s mB).size - k) 0 ?_ ?_ ?_ (fun k hk => ?_))
  | skip
 all_goals (repeat' ((try (conv => whnf)); first
  | refine call_0 ?_
  | refine call_i ?_ ?_
  | refine call_c ?_ (fun _ => ?_) (fun _ => ?_)
  | (with_reducible refine onB_t ?_)
  | (with_reducible refine onB_f ?_)
  | (with_reducible refine onB_d (fun _ => ?_) (fun _ => ?_))
  | (with_reducible refine onB_n (fun _ => ?_) (fun _ => ?_))
  | refine OnB.mk (fun _ => ?_) (fun _ => ?_)
  | refine obl_i ?_ ?_
  | refine Drw.mk (by kernel_rfl) ?_
  | refine mks_i ?_ ?_
  | refine slp_i ?_ ?_
  | (with_reducible refine elem_u ?_ ?_)
  | (with_reducible refine elem_0 ?_)
  | (with_reducible refine elem_1 ?_)
  | (with_reducible refine strAt_i ?_ ?_)
  | (with_reducible refine elem_b ?_ ?_)
  | refine Ends.mk ?_))
 all_goals (try refine Pr.mk ?_)
 all_goals (try simp only [Option.getD_some, Option.getD_none, Int.toNat_natCast, Int.toNat_zero, bytesC_len, bsL_len, ByteArray.size_extract, eqb_iff, decide_eq_true_eq, decide_eq_false_iff_not, List.foldl_cons, List.foldl_nil] at *)
 all_goals (try simp (disch := omega) only [wi64] at *)
 all_goals first
  | ((conv => whnf); refine Sw.Loop.ghost 7 100 62 1 ?_ rfl rfl rfl (by decide))
  | skip
 all_goals first
  | ((conv => whnf); refine Sw.Loop.inv (α := Nat) (fun m => [(2, .ptr 2 0), (3, .int .i64 0), (4, .str (cutP s mB)), (5, .bool (pfx s mB)), (7, .gs 100 m), (8, .int .i64 (((cutP s mB).size : Int) - 9 * (m : Int)))]) (fun m => [(2, .var [.v (.bool false), .sl 1 []]), (100, .grow 62 1 ((grp (bsL (cutP s mB)) m).map fun x => [.v (u32 x)]))]) (fun m => 9 * m < (cutP s mB).size + 9 ∧ True) (fun m => (cutP s mB).size + 9 - 9 * m) 0 ?_ ?_ ?_ (fun m hm => ?_))
  | skip
 all_goals (repeat' ((try (conv => whnf)); first
  | refine call_0 ?_
  | refine call_i ?_ ?_
  | refine call_c ?_ (fun _ => ?_) (fun _ => ?_)
  | (with_reducible refine onB_t ?_)
  | (with_reducible refine onB_f ?_)
  | (with_reducible refine onB_d (fun _ => ?_) (fun _ => ?_))
  | (with_reducible refine onB_n (fun _ => ?_) (fun _ => ?_))
  | refine OnB.mk (fun _ => ?_) (fun _ => ?_)
  | refine obl_i ?_ ?_
  | refine Drw.mk (by kernel_rfl) ?_
  | refine mks_i ?_ ?_
  | refine slp_i ?_ ?_
  | (with_reducible refine elem_u ?_ ?_)
  | (with_reducible refine elem_0 ?_)
  | (with_reducible refine elem_1 ?_)
  | (with_reducible refine strAt_i ?_ ?_)
  | (with_reducible refine elem_b ?_ ?_)
  | refine Ends.mk ?_))
 all_goals (try refine Pr.mk ?_)
 all_goals (try simp only [Option.getD_some, Option.getD_none, Int.toNat_natCast, Int.toNat_zero, bytesC_len, bsL_len, ByteArray.size_extract, eqb_iff, decide_eq_true_eq, decide_eq_false_iff_not, List.foldl_cons, List.foldl_nil] at *)
 all_goals (try simp (disch := omega) only [wi64] at *)
 all_goals first
  | ((conv => whnf); refine Sw.Loop.inv (α := Nat) (fun q => [(2, .ptr 2 0), (3, .int .i64 0), (4, .str (cutP s mB)), (5, .bool (pfx s mB)), (7, .gs 100 m), (8, .int .i64 (((cutP s mB).size : Int) - 9 * (m : Int))), (67, .c (.sl 1 (bytesC ((cutP s mB).extract ((cutP s mB).size - 9 * (m + 1)) ((cutP s mB).size - 9 * m))))), (68, .int .i64 ((gbs (cutP s mB) m).length : Nat)), (69, .int .i64 (q : Nat)), (9, .int .u32 (decV ((gbs (cutP s mB) m).take q) : Nat))]) (fun q => [(2, .var [.v (.bool false), .sl 1 []]), (100, .grow 62 1 ((grp (bsL (cutP s mB)) m).map fun x => [.v (u32 x)]))]) (fun q => q ≤ (gbs (cutP s mB) m).length ∧ True) (fun q => (gbs (cutP s mB) m).length - q) 0 ?_ ?_ ?_ (fun q hq => ?_))
  | skip
 all_goals (repeat' ((try (conv => whnf)); first
  | refine call_0 ?_
  | refine call_i ?_ ?_
  | refine call_c ?_ (fun _ => ?_) (fun _ => ?_)
  | (with_reducible refine onB_t ?_)
  | (with_reducible refine onB_f ?_)
  | (with_reducible refine onB_d (fun _ => ?_) (fun _ => ?_))
  | (with_reducible refine onB_n (fun _ => ?_) (fun _ => ?_))
  | refine OnB.mk (fun _ => ?_) (fun _ => ?_)
  | refine obl_i ?_ ?_
  | refine Drw.mk (by kernel_rfl) ?_
  | refine mks_i ?_ ?_
  | refine slp_i ?_ ?_
  | (with_reducible refine elem_u ?_ ?_)
  | (with_reducible refine elem_0 ?_)
  | (with_reducible refine elem_1 ?_)
  | (with_reducible refine strAt_i ?_ ?_)
  | (with_reducible refine elem_b ?_ ?_)
  | refine Ends.mk ?_))
 all_goals (try refine Pr.mk ?_)
 all_goals first | (show SubE _ _; repeat' (first | exact trivial | refine And.intro ?_ ?_)) | (show SubB _ _; repeat' (first | exact trivial | refine And.intro ?_ ?_)) | skip
 all_goals (try rfl)
 all_goals (try simp only [Option.getD_some, Option.getD_none, Int.toNat_natCast, Int.toNat_zero, bytesC_len, bsL_len, ByteArray.size_extract, eqb_iff, decide_eq_true_eq, decide_eq_false_iff_not, List.foldl_cons, List.foldl_nil] at *)
 all_goals (try simp (disch := omega) only [wi64] at *)
 all_goals first
  | ((conv => whnf); exact ⟨k + 1, ⟨⟨rfl, rfl, rfl, rfl, rfl, rfl, inc64 (by omega), trivial⟩, ⟨rfl, trivial⟩, ⟨by omega, dg_step hk.2 (by assumption) (by assumption)⟩, by show (cutP s mB).size - (k + 1) < (cutP s mB).size - k; omega⟩⟩)
  | (have z := gbs_len (cutP s mB) m; ((conv => whnf); exact ⟨q + 1, ⟨⟨rfl, rfl, rfl, rfl, rfl, rfl, rfl, rfl, inc64 (by omega), gbs_u32 (all_of hk.1 (by assumption) hk.2) (by omega), trivial⟩, ⟨rfl, rfl, trivial⟩, ⟨by omega, trivial⟩, by show (gbs (cutP s mB) m).length - (q + 1) < (gbs (cutP s mB) m).length - q; omega⟩⟩))
  | ((conv => whnf); exact ⟨m + 1, ⟨⟨rfl, rfl, rfl, rfl, gsE (by simp [grp_len]), iS (by rw [wi64 (by omega) (by omega)]; omega), trivial⟩, ⟨rfl, grpX (by omega), trivial⟩, ⟨by omega, trivial⟩, by show (cutP s mB).size + 9 - 9 * (m + 1) < (cutP s mB).size + 9 - 9 * m; omega⟩⟩)
  | exact ne_size (by assumption)
  | exact ⟨Nat.zero_le _, fun j hj => by omega⟩
  | exact ⟨Nat.zero_le _, trivial⟩
  | exact ⟨by omega, trivial⟩
  | (refine ext_eq ?_ ?_ <;> first | omega | (split <;> omega))
  | (refine iS ?_; rw [gbs_len]; first | omega | (split <;> omega))
  | exact grp_lb (dgts (all_of hk.1 (by assumption) hk.2)) _
  | exact par_yes (ok_y (by assumption) (by assumption) (ok_a (by assumption)) (all_of hk.1 (by assumption) hk.2)) (grp_end (by assumption))
  | exact par_yes (ok_y (by assumption) (by assumption) (ok_b (by assumption) (by assumption)) (all_of hk.1 (by assumption) hk.2)) (grp_end (by assumption))
  | ((repeat' apply And.intro) <;> first | omega | (split <;> omega) | (intro h; rfl))
  | (simp only [List.length_map, List.length_append, grp_len, List.length_cons, List.length_nil]; omega)
  | (have z := gbs_len (cutP s mB) m; omega)
  | (rw [grp_len])
  | (rw [List.length_map, grp_len])
  | exact par_no (ok_n1 (by assumption))
  | exact par_no (ok_n2 (by assumption))
  | exact par_no (ok_n3 (by assumption) (by assumption))
  | exact par_no (ok_n4 (by assumption) (by assumption))
  | exact par_no (ok_n5 (k := k) (by omega) (dg_lo (by assumption)))
  | exact par_no (ok_n5 (k := k) (by omega) (dg_hi (by assumption)))
  | rfl
  | omega
  | skip⟩

end Go.Proofs.YtghlkihmnopenaaGreatDoor

namespace Go.Proofs.YtghlkihmnopenaaGreatDoor
open Go Go.RowKit Go.Sw
set_option linter.unusedVariables false
set_option maxRecDepth 100000
set_option maxHeartbeats 8000000
set_option synthInstance.maxSize 4000
set_option synthInstance.maxHeartbeats 400000
theorem idx_run (s : ByteArray) (c : Int) (w : World) :
    Calls Tryz.prog 132 #[.string s, .int .u8 c] w fun e w' => e = .returned (.int .i64 (Lib.indexByte s.data.toList c.toNat.toUInt8)) ∧ w' = w := by
  go_enter Tryz.func132, Tryz.ntmps132
  go_wp2
  rw [run_callFunc_extern Tryz.func145 (by kernel_rfl) (by kernel_rfl) (by kernel_rfl) (e := Extern.BytealgIndexByte.indexByte) (by kernel_rfl), Lib.run_indexByteString]
  simp only [Result.andThen]
  rw [Oper.upon_value]
  go_wp2
  go_ret
  exact ⟨rfl, rfl⟩
instance s_ixb (s : ByteArray) (c : Int) : DenI Tryz.prog 132 [.str s, .int .u8 c] True (.int .i64 (ixB s c)) := ⟨fun hp => den2 (by kernel_rfl) fun w X u v hX hu hv => by
 rw [hu.v, hv.v]
 exact (idx_run s c w).mono fun e w' ⟨he, hw⟩ => ⟨_, he, .d (.c (.v _ rfl)), by subst hw; exact Below.refl _ _⟩⟩

instance s_ix (s p : ByteArray) : DenI Tryz.prog 124 [.str s, .str p] (p.size = 1) (.int .i64 (ixS s p)) := ⟨fun hp => by
 have hp1 : (p.size : Int) = 1 := by omega
 have hb0 : decide ((p.size : Int) = 0) = false := decide_eq_false (by omega)
 have hb1 : decide ((p.size : Int) = 1) = true := decide_eq_true hp1
 all_goals refine den_of (τ := tab) tab_ok mixed_ Tryz.func124 rfl (by kernel_rfl) (by kernel_rfl) (by kernel_rfl) ?_
 all_goals (repeat' ((try (conv => whnf)); first
  | (with_reducible refine onB_yes (by assumption) ?_)
  | (with_reducible refine onB_no (by assumption) ?_)
  | refine call_0 ?_
  | refine call_i ?_ ?_
  | refine call_c ?_ (fun _ => ?_) (fun _ => ?_)
  | (with_reducible refine onB_t ?_)
  | (with_reducible refine onB_f ?_)
  | (with_reducible refine onB_d (fun _ => ?_) (fun _ => ?_))
  | (with_reducible refine onB_n (fun _ => ?_) (fun _ => ?_))
  | refine OnB.mk (fun _ => ?_) (fun _ => ?_)
  | refine obl_i ?_ ?_
  | refine Drw.mk (by kernel_rfl) ?_
  | refine mks_i ?_ ?_
  | refine slp_i ?_ ?_
  | (with_reducible refine elem_u ?_ ?_)
  | (with_reducible refine elem_0 ?_)
  | (with_reducible refine elem_1 ?_)
  | (with_reducible refine strAt_i ?_ ?_)
  | (with_reducible refine elem_b ?_ ?_)
  | refine Ends.mk ?_))
 all_goals (try refine Pr.mk ?_)
 all_goals (try simp only [eqb_iff, decide_eq_true_eq, decide_eq_false_iff_not, Int.toNat_zero] at *)
 all_goals first
  | exact ix_y (by assumption)
  | exact ix_n (by assumption)
  | omega
  | (constructor <;> omega)
  | skip⟩

instance s_cut0 (s p : ByteArray) : DenI Tryz.prog 104 [.str s, .str p] (p.size = 1 ∧ s.size ≤ 1000000) (.tup [.str (ctA s p), .str (ctB s p), .bool (decide (0 ≤ ixS s p))]) := ⟨fun hp => by
 have hx := ixS_lt (s := s) hp.1
 all_goals refine den_of (τ := tab) tab_ok mixed_ Tryz.func104 rfl (by kernel_rfl) (by kernel_rfl) (by kernel_rfl) ?_
 all_goals (repeat' ((try (conv => whnf)); first
  | refine call_0 ?_
  | refine call_i ?_ ?_
  | refine call_c ?_ (fun _ => ?_) (fun _ => ?_)
  | (with_reducible refine onB_t ?_)
  | (with_reducible refine onB_f ?_)
  | (with_reducible refine onB_d (fun _ => ?_) (fun _ => ?_))
  | (with_reducible refine onB_n (fun _ => ?_) (fun _ => ?_))
  | refine OnB.mk (fun _ => ?_) (fun _ => ?_)
  | refine obl_i ?_ ?_
  | refine Drw.mk (by kernel_rfl) ?_
  | refine mks_i ?_ ?_
  | refine slp_i ?_ ?_
  | (with_reducible refine elem_u ?_ ?_)
  | (with_reducible refine elem_0 ?_)
  | (with_reducible refine elem_1 ?_)
  | (with_reducible refine strAt_i ?_ ?_)
  | (with_reducible refine elem_b ?_ ?_)
  | refine Ends.mk ?_))
 all_goals (try refine Pr.mk ?_)
 all_goals (try simp only [Option.getD_some, Option.getD_none, Int.toNat_natCast, Int.toNat_zero] at *)
 all_goals (try simp (disch := omega) only [wi64] at *)
 all_goals first
  | exact ct_y (by assumption)
  | exact ct_n (by assumption)
  | exact hp.1
  | ((repeat' apply And.intro) <;> first | omega | (intro h; cases h; done) | (intro h; rfl))
  | skip⟩

instance s_cut (s p : ByteArray) : DenI Tryz.prog 77 [.str s, .str p] (p.size = 1 ∧ s.size ≤ 1000000) (.tup [.str (ctA s p), .str (ctB s p), .bool (decide (0 ≤ ixS s p))]) := ⟨fun hp => by
 refine den_of (τ := tab) tab_ok mixed_ Tryz.func77 rfl (by kernel_rfl) (by kernel_rfl) (by kernel_rfl) ?_
 all_goals (repeat' ((try (conv => whnf)); first
  | refine call_0 ?_
  | refine call_i ?_ ?_
  | refine call_c ?_ (fun _ => ?_) (fun _ => ?_)
  | (with_reducible refine onB_t ?_)
  | (with_reducible refine onB_f ?_)
  | (with_reducible refine onB_d (fun _ => ?_) (fun _ => ?_))
  | (with_reducible refine onB_n (fun _ => ?_) (fun _ => ?_))
  | refine OnB.mk (fun _ => ?_) (fun _ => ?_)
  | refine obl_i ?_ ?_
  | refine Drw.mk (by kernel_rfl) ?_
  | refine mks_i ?_ ?_
  | refine slp_i ?_ ?_
  | (with_reducible refine elem_u ?_ ?_)
  | (with_reducible refine elem_0 ?_)
  | (with_reducible refine elem_1 ?_)
  | (with_reducible refine strAt_i ?_ ?_)
  | (with_reducible refine elem_b ?_ ?_)
  | refine Ends.mk ?_))
 all_goals (try refine Pr.mk ?_)
 all_goals first
  | exact hp
  | rfl
  | skip⟩

end Go.Proofs.YtghlkihmnopenaaGreatDoor
