/-
  What the functions parts do, each call by call.
  What the functions answer, each out of its text by the abstract run.
  What the functions swarfref01.Sub, integer.Sub, swarfref01.Int64, integer.Int64, integer.DivMod answer, each out of its text by the abstract run.
  What the functions swarfref01.GCD, integer.GCD answer, each out of its text by the abstract run.
  What the functions answer, each out of its text by the abstract run.
  What the functions integer.Sqrt answer, each out of its text by the abstract run.
  What the functions rational.unit, rational.whole, rational.exact, rational.reduce answer, each out of its text by the abstract run.
  What the functions rational.FromInt64, rational.Sign, rational.Neg, rational.Mul, rational.Add, rational.Sub, rational.Floor answer, each out of its text by the abstract run.
  What the functions swarfref01.DivMod answer, each out of its text by the abstract run.
  What the functions swarfref02.unit, swarfref02.Of, swarfref02.FromInt64, swarfref02.Frac, swarfref02.Sign, swarfref02.Neg, swarfref02.Mul, swarfref02.Add, swarfref02.Sub, swarfref02.Cmp, swarfref02.Floor answer, each out of its text by the abstract run.
  What the functions swarfref01.Valid answer, each out of its text by the abstract run.
  What the functions swarfref02.Valid answer, each out of its text by the abstract run.
  What the functions swarfref01.Sqrt answer, each out of its text by the abstract run.
  Intervals of machine integers, and products of two words.
  What the functions filter.proper, filter.Neg, filter.abs, filter.Sign, swarfref04.Proper, bits.Mul64, filter.scaled answer, each out of its text by the abstract run.
  What the filter computes with its intervals, in plain integers and fractions.
  What the functions filter.FromRat, filter.Add, filter.root, filter.Sqrt answer, each out of its text by the abstract run.
  Conditions: none.
-/
import Derived.Test.YtigbdpkpaleboaaGreatDoorM8
import Derived.Test.YtigbdpkpaleboaaGreatDoorChecked
set_option linter.all false
namespace Go.Proofs.YtigbdpkpaleboaaGreatDoor
open Go Go.RowKit Go.Sw
set_option linter.unusedVariables false
set_option maxRecDepth 20000
namespace TfPA
theorem body100 : hasBody Tryz.prog 100 = true := by kernel_rfl
theorem body101 : hasBody Tryz.prog 101 = true := by kernel_rfl
theorem body102 : hasBody Tryz.prog 102 = true := by kernel_rfl
theorem body121 : hasBody Tryz.prog 121 = true := by kernel_rfl
theorem body132 : hasBody Tryz.prog 132 = true := by kernel_rfl
theorem body71 : hasBody Tryz.prog 71 = true := by kernel_rfl
theorem el120 : Sw.elemOf Tryz.prog 120 = some (#[.int .u32 0], 1, 4) := by kernel_rfl
theorem mixed : Tryz.prog.follows .mixedOrders = true := by kernel_rfl
theorem one120 : isOne Tryz.prog 120 = true := by kernel_rfl
theorem size120 : (Tryz.prog.info? 120).map (fun i => i.size) = some 1 := by kernel_rfl
theorem sl49 : sliceOf Tryz.prog 49 = some (120, 1) := by kernel_rfl
theorem sls49 : (sliceOf Tryz.prog 49).isSome = true := by kernel_rfl
theorem und120 : Tryz.prog.underlying 120 = some (TypeDesc.int .u32) := by kernel_rfl
theorem und99 : Tryz.prog.underlying 99 = some (TypeDesc.int .u64) := by kernel_rfl
theorem unds120 : (Tryz.prog.underlying 120).isSome = true := by kernel_rfl
theorem unds99 : (Tryz.prog.underlying 99).isSome = true := by kernel_rfl
end TfPA
set_option maxHeartbeats 4000000 in
theorem ref01_parts_ok {w : World} {X : List Nat} (hX : ∀ m ∈ X, m < w.heap.size) {v_a : Value} {a : List Nat} (h_a : UL w X v_a (a)) {v_b : Value} {b : List Nat} (h_b : UL w X v_b (b)) (hn_a : a.length ≤ 1000000000) (hn_b : b.length ≤ 1000000000) (hca : CanL a) (hcb : CanL b) (hpos : 0 < val b) :
    Calls Tryz.prog 120 #[v_a, v_b] w (Ret fun r w' => (∃ r0 r1, r = .tuple #[r0, r1] ∧ UL w' X r0 (lim (val a / val b)) ∧ UL w' X r1 (lim (val a % val b))) ∧ Below w.heap.size w w') := by
 refine enter (N := 173) (fn := Tryz.f120) (vs := [v_a, v_b]) Tryz.func120 rfl rfl rfl ?_
 intro fa hF
 obtain ⟨A_a, _, c_a, rfl, rfl, hu_a⟩ := h_a
 have hl_a := hu_a.len; have hc_a := hu_a.cap
 obtain ⟨A_b, _, c_b, rfl, rfl, hu_b⟩ := h_b
 have hl_b := hu_b.len; have hc_b := hu_b.cap
 replace hF : Frm 173 fa [(0, (.slice (A_a) (a.length) (c_a))), (1, (.slice (A_b) (b.length) (c_b)))] := hF
 have hS := St.refl w
 have hbn : 0 < b.length := by cases hq : b with | nil => rw [hq] at hpos; simp [val] at hpos | cons _ _ => simp
 have hae := hca.eq; have hbe := hcb.eq
 refine c_seq ?_
 refine c_reg ?_
 refine pr hF (pa rfl <| pa rfl <| PR.nil) ?_
 clear hF fa; intro fa hF
 refine c_nil_then ?_
 refine c_cut (fun fa w' => Frm 173 fa [(0, (.slice (A_a) (a.length) (c_a))), (1, (.slice (A_b) (b.length) (c_b)))] ∧ w = w' ∧ (¬ (a.length ≤ 2 ∧ b.length ≤ 2))) ?_ ?_
 ·
  refine c_seq ?_
  refine c_reg ?_
  refine pr hF (pm rfl <| pg (fun _ hF => ex_len TfPA.sls49 (hF.ev rfl)) <| pg (fun _ hF => ex_leq (hF.ev rfl) (hF.ev rfl)) <| pm rfl <| PR.nil) ?_
  clear hF fa; intro fa hF
  rcases Bool.eq_false_or_eq_true (decide (((a.length : Nat) : Int) ≤ 2)) with hg1 | hg1
  ·
   replace hF := hF.cons (t := 24) (v := .bool true) ((hF.get 24 _ rfl).trans (congrArg Value.bool hg1))
   have hg1p : ((a.length : Nat) : Int) ≤ 2 := by simpa using hg1
   refine pr hF (pgg (fun _ hF => ex_move (hF.ev rfl)) <| pgg (fun _ hF => ex_len TfPA.sls49 (hF.ev rfl)) <| pgg (fun _ hF => ex_leq (hF.ev rfl) (hF.ev rfl)) <| pg (fun _ hF => ex_pick (hF.ev rfl) (fun _ => hF.ev rfl) (v := undef) (fun h => by cases h) rfl) <| PR.nil) ?_
   clear hF fa; intro fa hF
   refine c_nil_then ?_
   refine c_cond hF rfl (fun hc2 => ?_) (fun hc2 => ?_)
   ·
    have hc2p : ((b.length : Nat) : Int) ≤ 2 := by first | simpa using hc2 | exact bang_t hc2 | exact bang_f hc2
    have ha18 : val a < 1000000000000000000 := lim_len_two (by rw [hae]; omega)
    have hb18 : val b < 1000000000000000000 := lim_len_two (by rw [hbe]; omega)
    refine c_seq ?_
    refine c_reg ?_
    refine pr hF (pm rfl <| PR.nil) ?_
    clear hF fa; intro fa hF
    have hC := ref01_short_ok (w := w) (X := X) (l := a) (hS.bnd hX) ⟨_, (a.length), _, rfl, (rfl), hu_a⟩ (by omega) (hca.1) (by omega)
    refine st rfl (op_call hF rfl TfPA.body121 (args1 (hF.ev rfl)) hC ?_)
    clear hC
    rintro _ w3 ⟨rfl, hb4⟩
    refine gen_ ?_; clear hF fa; intro fa hF
    replace hS := hS.call hb4; have E5 := Ext.call X hb4
    refine pr hF (pm rfl <| PR.nil) ?_
    clear hF fa; intro fa hF
    have hC := ref01_short_ok (w := w3) (X := X) (l := b) (hS.bnd hX) ⟨_, (b.length), _, rfl, (rfl), (hu_b.ext E5)⟩ (by omega) (hcb.1) (by omega)
    refine st rfl (op_call hF rfl TfPA.body121 (args1 (hF.ev rfl)) hC ?_)
    clear hC
    rintro _ w6 ⟨rfl, hb7⟩
    refine gen_ ?_; clear hF fa; intro fa hF
    replace hS := hS.call hb7; have E8 := Ext.call X hb7
    refine pr hF (pa rfl <| pa rfl <| PR.nil) ?_
    clear hF fa; intro fa hF
    refine c_nil_then ?_
    refine c_seq ?_
    refine drawn2 (N := 173) (L0 := [(0, (.slice (A_a) (a.length) (c_a))), (1, (.slice (A_b) (b.length) (c_b))), (28, (.bool (decide (((b.length : Nat) : Int) ≤ 2)))), (6, (.int .u64 (((val a : Nat) : Int)))), (7, (.int .u64 (((val b : Nat) : Int))))]) [some (.int .u64 (((val a : Nat) : Int))), some (.int .u64 (((val b : Nat) : Int))), some (.int .u64 ((((val a) / (val b) : Nat) : Int))), none, some (.int .u64 (((val a : Nat) : Int))), some (.int .u64 (((val b : Nat) : Int))), some (.int .u64 ((((val a) % (val b) : Nat) : Int))), none, none, none] [3, 7, 8, 9] [[], [3], [3, 7], [3, 7, 8], [3, 7, 8, 9]] [[0, 1, 2], [0, 1, 2], [0], [0], [0, 1, 2, 3], [0, 1, 2, 3], [0, 1], [1], [2], [3]] 4 [
          fun fa w' => Frm 173 fa [] ∧ St w w' [] ∧ Ext w6 X w' X
          , fun fa w' => ∃ Ao3_3_4 : Option Addr, ∃ co3_3_5 : Nat, Frm 173 fa [(36, (.slice (Ao3_3_4) ((lim ((val a) / (val b))).length) (co3_3_5)))] ∧ St w w' [] ∧ Ext w6 X w' X ∧ UC w' X Ao3_3_4 co3_3_5 (lim ((val a) / (val b)))
          , fun fa w' => ∃ Ao3_3_4 : Option Addr, ∃ co3_3_5 : Nat, ∃ Ao3_7_4 : Option Addr, ∃ co3_7_5 : Nat, Frm 173 fa [(36, (.slice (Ao3_3_4) ((lim ((val a) / (val b))).length) (co3_3_5))), (40, (.slice (Ao3_7_4) ((lim ((val a) % (val b))).length) (co3_7_5)))] ∧ St w w' [] ∧ Ext w6 X w' X ∧ UC w' X Ao3_3_4 co3_3_5 (lim ((val a) / (val b))) ∧ UC w' X Ao3_7_4 co3_7_5 (lim ((val a) % (val b)))
          , fun fa w' => ∃ Ao3_3_4 : Option Addr, ∃ co3_3_5 : Nat, ∃ Ao3_7_4 : Option Addr, ∃ co3_7_5 : Nat, Frm 173 fa [(36, (.slice (Ao3_3_4) ((lim ((val a) / (val b))).length) (co3_3_5))), (40, (.slice (Ao3_7_4) ((lim ((val a) % (val b))).length) (co3_7_5))), (4, (.slice (Ao3_3_4) ((lim ((val a) / (val b))).length) (co3_3_5)))] ∧ St w w' [] ∧ Ext w6 X w' X ∧ UC w' X Ao3_3_4 co3_3_5 (lim ((val a) / (val b))) ∧ UC w' X Ao3_7_4 co3_7_5 (lim ((val a) % (val b)))
          , fun fa w' => ∃ Ao3_3_4 : Option Addr, ∃ co3_3_5 : Nat, ∃ Ao3_7_4 : Option Addr, ∃ co3_7_5 : Nat, Frm 173 fa [(36, (.slice (Ao3_3_4) ((lim ((val a) / (val b))).length) (co3_3_5))), (40, (.slice (Ao3_7_4) ((lim ((val a) % (val b))).length) (co3_7_5))), (4, (.slice (Ao3_3_4) ((lim ((val a) / (val b))).length) (co3_3_5))), (5, (.slice (Ao3_7_4) ((lim ((val a) % (val b))).length) (co3_7_5)))] ∧ St w w' [] ∧ Ext w6 X w' X ∧ UC w' X Ao3_3_4 co3_3_5 (lim ((val a) / (val b))) ∧ UC w' X Ao3_7_4 co3_7_5 (lim ((val a) % (val b)))
        ] TfPA.mixed rfl rfl rfl rfl rfl rfl (hF.all ⟨rfl, rfl, rfl, rfl, rfl, trivial⟩) rfl ⟨hF.nil, hS.drew, Ext.drew _ _⟩ ?_ ?_ ?_
    all_goals clear hF fa
    ·
     refine ⟨?_, ?_, ?_, ?_, ?_, trivial⟩
     ·
      rintro fa w' i o d v ho hd hna ⟨hA, hR⟩; exact ⟨hA.put_other v (freeOf_at (acts := [3, 7, 8, 9]) rfl ho hd hna), hR⟩
     ·
      rintro fa w' i o d v ho hd hna ⟨Ao3_3_4, co3_3_5, hA, hR⟩; exact ⟨Ao3_3_4, co3_3_5, hA.put_other v (freeOf_at (acts := [3, 7, 8, 9]) rfl ho hd hna), hR⟩
     ·
      rintro fa w' i o d v ho hd hna ⟨Ao3_3_4, co3_3_5, Ao3_7_4, co3_7_5, hA, hR⟩; exact ⟨Ao3_3_4, co3_3_5, Ao3_7_4, co3_7_5, hA.put_other v (freeOf_at (acts := [3, 7, 8, 9]) rfl ho hd hna), hR⟩
     ·
      rintro fa w' i o d v ho hd hna ⟨Ao3_3_4, co3_3_5, Ao3_7_4, co3_7_5, hA, hR⟩; exact ⟨Ao3_3_4, co3_3_5, Ao3_7_4, co3_7_5, hA.put_other v (freeOf_at (acts := [3, 7, 8, 9]) rfl ho hd hna), hR⟩
     ·
      rintro fa w' i o d v ho hd hna ⟨Ao3_3_4, co3_3_5, Ao3_7_4, co3_7_5, hA, hR⟩; exact ⟨Ao3_3_4, co3_3_5, Ao3_7_4, co3_7_5, hA.put_other v (freeOf_at (acts := [3, 7, 8, 9]) rfl ho hd hna), hR⟩
    ·
     refine ⟨?_, ?_, ?_, ?_, ?_, ?_, ?_, ?_, ?_, ?_, trivial⟩
     ·
      refine .inl ⟨rfl, _, _, rfl, rfl, fun s fa w' hΦ hF hB K hK => ?_⟩
      exact fl_val rfl rfl rfl (ex_move (hF.ev rfl)) hK
     ·
      refine .inl ⟨rfl, _, _, rfl, rfl, fun s fa w' hΦ hF hB K hK => ?_⟩
      exact fl_val rfl rfl rfl (ex_move (hF.ev rfl)) hK
     ·
      refine .inl ⟨rfl, _, _, rfl, rfl, fun s fa w' hΦ hF hB K hK => ?_⟩
      replace hF := hF.cons (hB.val 0 _ 33 _ rfl rfl rfl rfl)
      replace hF := hF.cons (hB.val 1 _ 34 _ rfl rfl rfl rfl)
      exact fl_val rfl rfl rfl (ex_quo (hF.ev rfl) (hF.ev rfl) (by omega) (q_u64 (x := val a) (y := val b) (by omega) (by omega) (by omega))) hK
     ·
      refine .inr (.inr ⟨rfl, ?_, trivial⟩)
      ·
       intro fa w' hΦ hF hB
       obtain ⟨hA, hS, E_w'⟩ := hΦ
       replace hF := hF.cons (hB.val 2 _ 35 _ rfl rfl rfl rfl)
       refine wop rfl rfl ?_
       have hC := ref01_limbs_ok (w := w') (X := X) (hS.bnd hX) ((val a) / (val b)) (Nat.lt_of_le_of_lt (Nat.div_le_self _ _) (by omega))
       refine op_call hF rfl TfPA.body71 (args1 (hF.ev (ev_int (b := (((val a) / (val b) : Nat) : Int)) rfl (by first | rfl | omega)))) hC ?_
       clear hC
       rintro _ wo3_3_1 ⟨⟨Ao3_3_4, _, co3_3_5, rfl, rfl, huo3_3_6⟩, hbo3_3_2⟩
       clear hF; intro hF
       replace hS := hS.call hbo3_3_2; have Eo3_3_3 := Ext.call X hbo3_3_2
       have hA1 := ((hA.put_other _ rfl).cons (hF.get 36 _ rfl))
       exact ⟨1, rfl, ⟨Ao3_3_4, co3_3_5, (hA1.all ⟨rfl, trivial⟩), hS, (E_w'.trans Eo3_3_3), huo3_3_6⟩, _, rfl, fun u hu => by cases hu <;> rfl⟩
     ·
      refine .inl ⟨rfl, _, _, rfl, rfl, fun s fa w' hΦ hF hB K hK => ?_⟩
      exact fl_val rfl rfl rfl (ex_move (hF.ev rfl)) hK
     ·
      refine .inl ⟨rfl, _, _, rfl, rfl, fun s fa w' hΦ hF hB K hK => ?_⟩
      exact fl_val rfl rfl rfl (ex_move (hF.ev rfl)) hK
     ·
      refine .inl ⟨rfl, _, _, rfl, rfl, fun s fa w' hΦ hF hB K hK => ?_⟩
      replace hF := hF.cons (hB.val 4 _ 37 _ rfl rfl rfl rfl)
      replace hF := hF.cons (hB.val 5 _ 38 _ rfl rfl rfl rfl)
      exact fl_val rfl rfl rfl (ex_rem (hF.ev rfl) (hF.ev rfl) (by omega) (r_any (x := val a) (y := val b) (by omega) (by omega))) hK
     ·
      refine .inr (.inr ⟨rfl, ?_, trivial⟩)
      ·
       intro fa w' hΦ hF hB
       obtain ⟨Ao3_3_4, co3_3_5, hA, hS, E_w', huo3_3_6⟩ := hΦ
       replace hF := hF.cons (hB.val 6 _ 39 _ rfl rfl rfl rfl)
       refine wop rfl rfl ?_
       have hC := ref01_limbs_ok (w := w') (X := X) (hS.bnd hX) ((val a) % (val b)) (Nat.lt_of_le_of_lt (Nat.mod_le _ _) (by omega))
       refine op_call hF rfl TfPA.body71 (args1 (hF.ev (ev_int (b := (((val a) % (val b) : Nat) : Int)) rfl (by first | rfl | omega)))) hC ?_
       clear hC
       rintro _ wo3_7_1 ⟨⟨Ao3_7_4, _, co3_7_5, rfl, rfl, huo3_7_6⟩, hbo3_7_2⟩
       clear hF; intro hF
       replace hS := hS.call hbo3_7_2; have Eo3_7_3 := Ext.call X hbo3_7_2
       have hA1 := ((hA.put_other _ rfl).cons (hF.get 40 _ rfl))
       exact ⟨2, rfl, ⟨Ao3_3_4, co3_3_5, Ao3_7_4, co3_7_5, (hA1.all ⟨rfl, rfl, trivial⟩), hS, (E_w'.trans Eo3_7_3), (huo3_3_6.ext Eo3_7_3), huo3_7_6⟩, _, rfl, fun u hu => by cases hu <;> rfl⟩
     ·
      refine .inr (.inr ⟨rfl, ?_, trivial⟩)
      ·
       intro fa w' hΦ hF hB
       obtain ⟨Ao3_3_4, co3_3_5, Ao3_7_4, co3_7_5, hA, hS, E_w', huo3_3_6, huo3_7_6⟩ := hΦ
       replace hF := hF.cons (hA.get 36 _ rfl)
       refine wop rfl rfl ?_
       refine op_val hF rfl rfl (ex_assign (hF.ev rfl)) ?_; clear hF; intro hF
       have hA1 := ((hA.put_other _ rfl).cons (hF.get 4 _ rfl))
       exact ⟨3, rfl, ⟨Ao3_3_4, co3_3_5, Ao3_7_4, co3_7_5, (hA1.all ⟨rfl, rfl, rfl, trivial⟩), hS, E_w', huo3_3_6, huo3_7_6⟩, _, rfl, fun u hu => by cases hu <;> rfl⟩
     ·
      refine .inr (.inr ⟨rfl, ?_, trivial⟩)
      ·
       intro fa w' hΦ hF hB
       obtain ⟨Ao3_3_4, co3_3_5, Ao3_7_4, co3_7_5, hA, hS, E_w', huo3_3_6, huo3_7_6⟩ := hΦ
       replace hF := hF.cons (hA.get 40 _ rfl)
       refine wop rfl rfl ?_
       refine op_val hF rfl rfl (ex_assign (hF.ev rfl)) ?_; clear hF; intro hF
       have hA1 := ((hA.put_other _ rfl).cons (hF.get 5 _ rfl))
       exact ⟨4, rfl, ⟨Ao3_3_4, co3_3_5, Ao3_7_4, co3_7_5, (hA1.all ⟨rfl, rfl, rfl, rfl, trivial⟩), hS, E_w', huo3_3_6, huo3_7_6⟩, _, rfl, fun u hu => by cases hu <;> rfl⟩
    intro fa w9 hΦ hF hC
    obtain ⟨Ao3_3_4, co3_3_5, Ao3_7_4, co3_7_5, hA, hS, E_w9, huo3_3_6, huo3_7_6⟩ := hΦ
    replace hF := hF.cons (hA.get 4 _ rfl)
    replace hF := hF.cons (hA.get 5 _ rfl)
    clear hA hC
    refine x_tn ?_
    refine c_ret ?_
    refine x_tr ?_
    refine end2 hF rfl (res_tmp hF rfl) (res_tmp hF rfl) ?_
    exact ⟨_, rfl, ⟨_, _, rfl, (UL.fin (L := (lim ((val a) / (val b)))) ⟨_, _, _, rfl, (rfl), huo3_3_6⟩ (rfl) (fun x hx => by simp [hx])), (UL.fin (L := (lim ((val a) % (val b)))) ⟨_, _, _, rfl, (rfl), huo3_7_6⟩ (rfl) (fun x hx => by simp [hx]))⟩, hS.below⟩
   have hc2p : ¬ (((b.length : Nat) : Int) ≤ 2) := by first | simpa using hc2 | exact bang_t hc2 | exact bang_f hc2
   refine c_skip ?_
   refine x_tn ?_
   exact ⟨(hF.all ⟨rfl, rfl, trivial⟩), rfl, (by omega)⟩
  replace hF := hF.cons (t := 24) (v := .bool false) ((hF.get 24 _ rfl).trans (congrArg Value.bool hg1))
  have hg1p : ¬ (((a.length : Nat) : Int) ≤ 2) := by simpa using hg1
  refine pr hF (psk rfl rfl <| psk rfl rfl <| psk rfl rfl <| pg (fun _ hF => ex_pick (hF.ev rfl) (u := undef) (fun h => by cases h) (fun _ => hF.ev rfl) rfl) <| PR.nil) ?_
  clear hF fa; intro fa hF
  refine c_nil_then ?_
  refine c_cond hF rfl (fun hc => ?_) (fun hc => ?_)
  ·
   cases hc
  refine c_skip ?_
  refine x_tn ?_
  exact ⟨(hF.all ⟨rfl, rfl, trivial⟩), rfl, (by omega)⟩
 clear hF fa
 rintro fa _ ⟨hF, rfl, hbig⟩
 refine c_seq ?_
 have hbt := hcb.1.getD (b.length - 1)
 refine c_reg ?_
 refine pr hF (pm rfl <| pm rfl <| pg (fun _ hF => ex_len TfPA.sls49 (hF.ev rfl)) <| pg (fun _ hF => ex_sub (hF.ev rfl) (hF.ev rfl) vi64) <| PR.nil) ?_
 clear hF fa; intro fa hF
 obtain ⟨ad10, hA11, hq12⟩ := hu_b.cl.at_ (us_get (l := b) (i := b.length - 1) (by omega))
 refine pr hF (pg (fun _ hF => ex_idx (j := b.length - 1) TfPA.sl49 (hF.ev rfl) hA11 (hF.ev rfl) (by omega) (by omega)) <| pg (fun _ hF => ex_load1 TfPA.one120 (hF.ev rfl) hq12) <| pg (fun _ hF => ex_conv TfPA.unds120 TfPA.und99 (hF.ev rfl) (wu64n (by omega))) <| pg (fun _ hF => ex_add (hF.ev rfl) (hF.ev rfl) vu64) <| pg (fun _ hF => ex_quo (hF.ev rfl) (hF.ev rfl) (by omega) (q_u64 (x := 1000000000) (y := (b.getD (b.length - 1) 0) + 1) (by omega) (by omega) (by omega))) <| pg (fun _ hF => ex_conv TfPA.unds99 TfPA.und120 (hF.ev rfl) (wu32n (by have := Nat.div_le_self 1000000000 (b.getD (b.length - 1) 0 + 1); omega))) <| pa rfl <| PR.nil) ?_
 clear hF fa; intro fa hF
 refine c_nil_then ?_
 refine c_seq ?_
 obtain ⟨sc, hsc⟩ : ∃ sc, sc = 1000000000 / (b.getD (b.length - 1) 0 + 1) := ⟨_, rfl⟩
 rw [← hsc] at hF
 have hscB := scale_lt hcb rfl hbn hsc
 obtain ⟨hsc0, _, hvn, hvtop, hvP⟩ := scale_law (v := (lim (val b * sc))) hcb rfl hbn hsc (CanL.lim _) (by rw [val_lim])
 have hvL := fun i => (lb_lim (val b * sc)).getD i; have huL := fun i => (lb_lim (val a * sc)).getD i
 have hVp : 0 < (val b * sc) := Nat.mul_pos hpos hsc0
 have hlu := scaled_len (a := val a) hscB; rw [hca.eq] at hlu
 refine c_reg ?_
 refine pr hF (pm rfl <| pm rfl <| PR.nil) ?_
 clear hF fa; intro fa hF
 have hC := ref01_by_ok (w := w) (X := X) (a := b) (hS.bnd hX) ⟨_, (b.length), _, rfl, (rfl), hu_b⟩ (sc) (by omega) (hcb.1) (hscB)
 rw [show (lim (val b * sc)) = (lim (val b * sc)) from rfl] at hC
 refine st rfl (op_call hF rfl TfPA.body132 (args2 (hF.ev rfl) (hF.ev (ev_int (b := ((sc : Nat) : Int)) rfl (by first | rfl | omega)))) hC ?_)
 clear hC
 rintro _ w13 ⟨⟨A16, _, c17, rfl, rfl, hu18⟩, hb14⟩
 refine gen_ ?_; clear hF fa; intro fa hF
 replace hS := hS.call hb14; have E15 := Ext.call X hb14
 refine pr hF (pa rfl <| PR.nil) ?_
 clear hF fa; intro fa hF
 replace hF : Frm 173 fa [(0, (.slice (A_a) (a.length) (c_a))), (1, (.slice (A_b) (b.length) (c_b))), (8, (.int .u32 (((sc : Nat) : Int)))), (9, (.slice (A16) (((lim (val b * sc))).length) (c17)))] := (hF.all ⟨rfl, rfl, rfl, rfl, trivial⟩)
 refine c_nil_then ?_
 refine c_seq ?_
 rw [← hvn] at hvtop
 have hvt := hvL ((lim (val b * sc)).length - 1)
 refine c_reg ?_
 refine pr hF (pm rfl <| pm rfl <| pg (fun _ hF => ex_len TfPA.sls49 (hF.ev rfl)) <| pg (fun _ hF => ex_sub (hF.ev rfl) (hF.ev rfl) vi64) <| PR.nil) ?_
 clear hF fa; intro fa hF
 obtain ⟨ad19, hA20, hq21⟩ := hu18.cl.at_ (us_get (l := ((lim (val b * sc)))) (i := (lim (val b * sc)).length - 1) (by omega))
 refine pr hF (pg (fun _ hF => ex_idx (j := (lim (val b * sc)).length - 1) TfPA.sl49 (hF.ev rfl) hA20 (hF.ev rfl) (by omega) (by omega)) <| pg (fun _ hF => ex_load1 TfPA.one120 (hF.ev rfl) hq21) <| pg (fun _ hF => ex_conv TfPA.unds120 TfPA.und99 (hF.ev rfl) (wu64n (by omega))) <| pa rfl <| PR.nil) ?_
 clear hF fa; intro fa hF
 refine c_nil_then ?_
 refine c_seq ?_
 refine c_reg ?_
 refine pr hF (pa rfl <| PR.nil) ?_
 clear hF fa; intro fa hF
 refine c_nil_then ?_
 refine c_seq ?_
 refine c_reg ?_
 refine pr hF (pm rfl <| pg (fun _ hF => ex_len TfPA.sls49 (hF.ev rfl)) <| pg (fun _ hF => ex_add (hF.ev rfl) (hF.ev rfl) vi64) <| PR.nil) ?_
 clear hF fa; intro fa hF
 refine st rfl (op_make (X := X) (nl := a.length + 1) (nc := a.length + 1) hF hS rfl TfPA.sl49 TfPA.el120 rfl rfl (by omega) (by omega) (by omega) (by omega) (by omega) (made_us _) ?_)
 intro g22 w23 hg25 hS E24; refine gen_ ?_; clear hF fa; intro fa hF
 rw [Nat.mul_one] at hS
 refine pr hF (pa rfl <| PR.nil) ?_
 clear hF fa; intro fa hF
 refine c_nil_then ?_
 refine c_seq ?_
 refine c_reg ?_
 refine pr hF (pm rfl <| pm rfl <| PR.nil) ?_
 clear hF fa; intro fa hF
 have hC := ref01_by_ok (w := w23) (X := (g22 :: X)) (a := a) (hS.bnd hX) ⟨_, (a.length), _, rfl, (rfl), (hu_a.ext (E15.trans E24))⟩ (sc) (by omega) (hca.1) (hscB)
 rw [show (lim (val a * sc)) = (lim (val a * sc)) from rfl] at hC
 refine st rfl (op_call hF rfl TfPA.body132 (args2 (hF.ev rfl) (hF.ev (ev_int (b := ((sc : Nat) : Int)) rfl (by first | rfl | omega)))) hC ?_)
 clear hC
 rintro _ w26 ⟨⟨A29, _, c30, rfl, rfl, hu31⟩, hb27⟩
 refine gen_ ?_; clear hF fa; intro fa hF
 replace hS := hS.call hb27; have E28 := Ext.call (g22 :: X) hb27
 refine pr hF (pa rfl <| PR.nil) ?_
 clear hF fa; intro fa hF
 replace hF : Frm 173 fa [(0, (.slice (A_a) (a.length) (c_a))), (1, (.slice (A_b) (b.length) (c_b))), (8, (.int .u32 (((sc : Nat) : Int)))), (9, (.slice (A16) (((lim (val b * sc))).length) (c17))), (10, (.int .u64 (((((lim (val b * sc))).getD ((lim (val b * sc)).length - 1) 0 : Nat) : Int)))), (11, (.slice (none) (0) (0))), (12, (.slice (some ⟨g22, 0, none⟩) (a.length + 1) (a.length + 1))), (13, (.slice (A29) (((lim (val a * sc))).length) (c30)))] := (hF.all ⟨rfl, rfl, rfl, rfl, rfl, rfl, rfl, rfl, trivial⟩)
 refine c_nil_then ?_
 refine c_seq ?_
 refine c_reg ?_
 refine pr hF (pm rfl <| pm rfl <| pg (fun _ hF => ex_len TfPA.sls49 (hF.ev rfl)) <| pg (fun _ hF => ex_slice_h (j := ((lim (val a * sc))).length) TfPA.sl49 (hF.ev rfl) (hF.ev rfl) (by omega) (by omega)) <| pa rfl <| PR.nil) ?_
 clear hF fa; intro fa hF
 refine c_nil_then ?_
 refine c_seq ?_
 refine c_seq ?_
 refine c_reg ?_
 refine pr hF (pm rfl <| pg (fun _ hF => ex_len TfPA.sls49 (hF.ev rfl)) <| pg (fun _ hF => ex_sub (hF.ev rfl) (hF.ev rfl) vi64) <| pa rfl <| PR.nil) ?_
 clear hF fa; intro fa hF
 refine c_nil_then ?_
 refine c_block ?_
 refine c_loop (fun mu fa w' => ∃ o : List Nat, ∃ R : Nat, ∃ j : Nat, ∃ Ar : Option Addr, ∃ cr : Nat, Frm 173 fa [(0, (.slice (A_a) (a.length) (c_a))), (1, (.slice (A_b) (b.length) (c_b))), (8, (.int .u32 (((sc : Nat) : Int)))), (9, (.slice (A16) (((lim (val b * sc))).length) (c17))), (10, (.int .u64 (((((lim (val b * sc))).getD ((lim (val b * sc)).length - 1) 0 : Nat) : Int)))), (12, (.slice (some ⟨g22, 0, none⟩) (((lim (val a * sc))).length) (a.length + 1))), (13, (.slice (A29) (((lim (val a * sc))).length) (c30))), (14, (.int .i64 (((j : Nat) : Int) - 1))), (11, (.slice (Ar) ((lim (R)).length) (cr)))] ∧ St w w' [(g22, 120, (us (o)).toArray)] ∧ Ext w26 (g22 :: X) w' (g22 :: X) ∧ UC w' (g22 :: X) Ar cr (lim (R)) ∧ (j ≤ (lim (val a * sc)).length) ∧ (o.length = a.length + 1) ∧ (Lb o) ∧ (val (o.drop (lim (val a * sc)).length) = 0) ∧ (val ((lim (val a * sc)).drop j) = (val b * sc) * val (o.drop j) + R) ∧ (R < (val b * sc)) ∧ j = mu) ?_ ?_
 ·
  exact ⟨_, List.replicate (a.length + 1) 0, 0, (lim (val a * sc)).length, none, 0, (hF.all ⟨rfl, rfl, rfl, rfl, rfl, rfl, rfl, (lk_int rfl (by omega)), (lk_slice rfl (by first | omega | (rw [lim_zero]; rfl))), trivial⟩), hS, Ext.refl _ _, (by rw [lim_zero]; exact UC.nil (by omega)), (Nat.le_refl _), (by simp), (lb_zeros _), (by simp [val_zeros]), (by rw [val_drop_all (Nat.le_refl _)]; simp [val_zeros]), (hVp), rfl⟩
 clear hF fa; intro n0_ fa w' hI
 clear hS
 obtain ⟨o, R, j, Ar, cr, hF, hS, E33, hr, hj, hol, hbo, hz, hI, hR, rfl⟩ := hI
 rename World => w32
 refine c_seq ?_
 refine c_seq ?_
 refine c_reg ?_
 refine pr hF (pm rfl <| pg (fun _ hF => ex_geq (hF.ev rfl) (hF.ev rfl)) <| PR.nil) ?_
 clear hF fa; intro fa hF
 refine c_nil_then ?_
 refine c_cond hF rfl (fun hc34 => ?_) (fun hc34 => ?_)
 ·
  have hc34p : (((j : Nat) : Int) - 1) ≥ 0 := by first | simpa using hc34 | exact bang_t hc34 | exact bang_f hc34
  refine c_skip ?_
  refine x_tn ?_
  refine c_seq ?_
  refine c_block ?_
  refine c_seq ?_
  have hxu := huL (j - 1)
  have hR2 := parts_head hxu hR
  have hR2l := lim_len_mul hR2; have hRl := lim_le_of_le (Nat.le_of_lt hR)
  have hra := (lb_lim ((lim (val a * sc)).getD (j - 1) 0 + 1000000000 * R)).getD (lim (val b * sc)).length; have hrb := (lb_lim ((lim (val a * sc)).getD (j - 1) 0 + 1000000000 * R)).getD ((lim (val b * sc)).length - 1)
  refine c_reg ?_
  refine pr hF (pm rfl <| pm rfl <| PR.nil) ?_
  clear hF fa; intro fa hF
  obtain ⟨ad35, hA36, hq37⟩ := (hu31.ext E33).cl.at_ (us_get (l := ((lim (val a * sc)))) (i := j - 1) (by omega))
  refine pr hF (pg (fun _ hF => ex_idx (j := j - 1) TfPA.sl49 (hF.ev rfl) hA36 (hF.ev rfl) (by omega) (by omega)) <| pg (fun _ hF => ex_load1 TfPA.one120 (hF.ev rfl) hq37) <| PR.nil) ?_
  clear hF fa; intro fa hF
  refine st rfl (op_lit_own (X := (g22 :: X)) hF hS rfl TfPA.sl49 TfPA.el120 rfl rfl (lits1 (hF.ev (ev_int (b := ((((lim (val a * sc))).getD (j - 1) 0 : Nat) : Int)) rfl (by omega)))) (fill_u1 (x := ((lim (val a * sc))).getD (j - 1) 0)) ?_)
  intro g38 w39 hg41 hS E40; refine gen_ ?_; clear hF fa; intro fa hF
  refine pr hF (pm rfl <| PR.nil) ?_
  clear hF fa; intro fa hF
  replace hS : St w w39 [(g22, 120, (us (o)).toArray), (g38, 120, (us ([((lim (val a * sc))).getD (j - 1) 0])).toArray)] := hS.perm (List.Perm.swap _ _ _)
  have E49 : Ext w39 (g38 :: (g22 :: X)) w39 (g22 :: (g38 :: X)) := Ext.drop (by simp +contextual)
  refine st rfl (op_append (X := X) (F := [(g22, 120, (us (o)).toArray)]) (So := [(g38, 120, (us ([((lim (val a * sc))).getD (j - 1) 0])).toArray)]) (l := us ([((lim (val a * sc))).getD (j - 1) 0])) (m := us ((lim (R)))) hF hS rfl TfPA.sl49 TfPA.el120 rfl rfl rfl (by simp) (OwV.full 120 g38 ([((lim (val a * sc))).getD (j - 1) 0]) (1) (1) (by first | rfl | (simp; done) | omega) (by first | rfl | (simp; done) | omega) (by simp)) (hr.ext (E40.trans E49)).cl (us_one _) (by first | (simp; done) | (simp; omega)) (by first | (simp; done) | (simp; omega)) ?_)
  intro v43 So44 w45 hO46 hS E47 hun48; refine gen_ ?_; clear hF fa; intro fa hF
  clear hun48
  rw [← us_append] at hO46
  replace E47 : Ext w39 (g22 :: (g38 :: X)) w45 (g22 :: (bl So44 ++ X)) := E47
  replace hS : St w w45 ([(g22, 120, (us (o)).toArray)] ++ So44) := hS
  obtain ⟨A50, c51, hv53, hu52⟩ := UC.thaw (F := [(g22, 120, (us (o)).toArray)]) hO46 hS hX
  subst hv53
  have E54 : Ext w45 (g22 :: (bl So44 ++ X)) w45 (g22 :: X) := Ext.drop (by simp +contextual)
  replace hu52 : UC w45 (g22 :: X) A50 c51 (([((lim (val a * sc))).getD (j - 1) 0]) ++ (lim (R))) := hu52
  replace hS : St w w45 [(g22, 120, (us (o)).toArray)] := hS.drop (List.sublist_append_left _ _)
  have hC := ref01_trim_ok (w := w45) (X := (g22 :: X)) (l := (([((lim (val a * sc))).getD (j - 1) 0]) ++ (lim (R)))) (hS.bnd hX) ⟨_, ((([((lim (val a * sc))).getD (j - 1) 0]) ++ (lim (R))).length), _, rfl, (rfl), hu52⟩
  rw [show (trimz (([((lim (val a * sc))).getD (j - 1) 0]) ++ (lim (R)))) = (lim ((lim (val a * sc)).getD (j - 1) 0 + 1000000000 * R)) from trimz_cons _ _ hxu] at hC
  refine st rfl (op_call hF rfl TfPA.body102 (args1 (hF.ev rfl)) hC ?_)
  clear hC
  rintro _ w55 ⟨⟨A58, _, c59, rfl, rfl, hu60⟩, hb56⟩
  refine gen_ ?_; clear hF fa; intro fa hF
  replace hS := hS.call hb56; have E57 := Ext.call (g22 :: X) hb56
  refine pr hF (pa rfl <| PR.nil) ?_
  clear hF fa; intro fa hF
  replace hF : Frm 173 fa [(0, (.slice (A_a) (a.length) (c_a))), (1, (.slice (A_b) (b.length) (c_b))), (8, (.int .u32 (((sc : Nat) : Int)))), (9, (.slice (A16) (((lim (val b * sc))).length) (c17))), (10, (.int .u64 (((((lim (val b * sc))).getD ((lim (val b * sc)).length - 1) 0 : Nat) : Int)))), (12, (.slice (some ⟨g22, 0, none⟩) (((lim (val a * sc))).length) (a.length + 1))), (13, (.slice (A29) (((lim (val a * sc))).length) (c30))), (14, (.int .i64 (((j : Nat) : Int) - 1))), (11, (.slice (A58) (((lim ((lim (val a * sc)).getD (j - 1) 0 + 1000000000 * R))).length) (c59))), (76, (.bool (decide ((((j : Nat) : Int) - 1) ≥ 0))))] := (hF.all ⟨rfl, rfl, rfl, rfl, rfl, rfl, rfl, rfl, rfl, rfl, trivial⟩)
  refine c_nil_then ?_
  refine c_seq ?_
  refine c_reg ?_
  refine pr hF (pa rfl <| PR.nil) ?_
  clear hF fa; intro fa hF
  refine c_nil_then ?_
  refine c_cut (fun fa w' => ∃ h1 : Nat, Frm 173 fa [(0, (.slice (A_a) (a.length) (c_a))), (1, (.slice (A_b) (b.length) (c_b))), (8, (.int .u32 (((sc : Nat) : Int)))), (9, (.slice (A16) (((lim (val b * sc))).length) (c17))), (10, (.int .u64 (((((lim (val b * sc))).getD ((lim (val b * sc)).length - 1) 0 : Nat) : Int)))), (12, (.slice (some ⟨g22, 0, none⟩) (((lim (val a * sc))).length) (a.length + 1))), (13, (.slice (A29) (((lim (val a * sc))).length) (c30))), (14, (.int .i64 (((j : Nat) : Int) - 1))), (11, (.slice (A58) (((lim ((lim (val a * sc)).getD (j - 1) 0 + 1000000000 * R))).length) (c59))), (76, (.bool (decide ((((j : Nat) : Int) - 1) ≥ 0)))), (15, (.int .u64 (((h1 : Nat) : Int))))] ∧ w55 = w' ∧ (h1 = (lim ((lim (val a * sc)).getD (j - 1) 0 + 1000000000 * R)).getD (lim (val b * sc)).length 0 * 1000000000)) ?_ ?_
  ·
   refine c_seq ?_
   refine c_reg ?_
   refine pr hF (pm rfl <| pg (fun _ hF => ex_len TfPA.sls49 (hF.ev rfl)) <| pm rfl <| pg (fun _ hF => ex_len TfPA.sls49 (hF.ev rfl)) <| pg (fun _ hF => ex_gtr (hF.ev rfl) (hF.ev rfl)) <| PR.nil) ?_
   clear hF fa; intro fa hF
   refine c_nil_then ?_
   refine c_cond hF rfl (fun hc61 => ?_) (fun hc61 => ?_)
   ·
    have hc61p : ((((lim ((lim (val a * sc)).getD (j - 1) 0 + 1000000000 * R))).length : Nat) : Int) > ((((lim (val b * sc))).length : Nat) : Int) := by first | simpa using hc61 | exact bang_t hc61 | exact bang_f hc61
    refine c_reg ?_
    refine pr hF (pm rfl <| pm rfl <| pg (fun _ hF => ex_len TfPA.sls49 (hF.ev rfl)) <| PR.nil) ?_
    clear hF fa; intro fa hF
    obtain ⟨ad62, hA63, hq64⟩ := hu60.cl.at_ (us_get (l := ((lim ((lim (val a * sc)).getD (j - 1) 0 + 1000000000 * R)))) (i := (lim (val b * sc)).length) (by omega))
    refine pr hF (pg (fun _ hF => ex_idx (j := (lim (val b * sc)).length) TfPA.sl49 (hF.ev rfl) hA63 (hF.ev rfl) (by omega) (by omega)) <| pg (fun _ hF => ex_load1 TfPA.one120 (hF.ev rfl) hq64) <| pg (fun _ hF => ex_conv TfPA.unds120 TfPA.und99 (hF.ev rfl) (wu64n (by omega))) <| pg (fun _ hF => ex_mul (hF.ev rfl) (hF.ev rfl) vu64) <| pa rfl <| PR.nil) ?_
    clear hF fa; intro fa hF
    refine c_nil ?_
    refine x_tn ?_
    exact ⟨((((lim ((lim (val a * sc)).getD (j - 1) 0 + 1000000000 * R))).getD ((lim (val b * sc)).length) 0) * 1000000000), (hF.all ⟨rfl, rfl, rfl, rfl, rfl, rfl, rfl, rfl, rfl, rfl, (lk_int rfl (by omega)), trivial⟩), rfl, (rfl)⟩
   have hc61p : ¬ (((((lim ((lim (val a * sc)).getD (j - 1) 0 + 1000000000 * R))).length : Nat) : Int) > ((((lim (val b * sc))).length : Nat) : Int)) := by first | simpa using hc61 | exact bang_t hc61 | exact bang_f hc61
   have hge0 := getD_none (l := (lim ((lim (val a * sc)).getD (j - 1) 0 + 1000000000 * R))) (k := (lim (val b * sc)).length) (by omega)
   refine c_skip ?_
   refine x_tn ?_
   exact ⟨(0), (hF.all ⟨rfl, rfl, rfl, rfl, rfl, rfl, rfl, rfl, rfl, rfl, (lk_int rfl (by omega)), trivial⟩), rfl, (by rw [hge0, Nat.zero_mul])⟩
  clear hF fa
  rintro fa _ ⟨h1, hF, rfl, hh1⟩
  refine c_cut (fun fa w' => ∃ h2 : Nat, Frm 173 fa [(0, (.slice (A_a) (a.length) (c_a))), (1, (.slice (A_b) (b.length) (c_b))), (8, (.int .u32 (((sc : Nat) : Int)))), (9, (.slice (A16) (((lim (val b * sc))).length) (c17))), (10, (.int .u64 (((((lim (val b * sc))).getD ((lim (val b * sc)).length - 1) 0 : Nat) : Int)))), (12, (.slice (some ⟨g22, 0, none⟩) (((lim (val a * sc))).length) (a.length + 1))), (13, (.slice (A29) (((lim (val a * sc))).length) (c30))), (14, (.int .i64 (((j : Nat) : Int) - 1))), (11, (.slice (A58) (((lim ((lim (val a * sc)).getD (j - 1) 0 + 1000000000 * R))).length) (c59))), (76, (.bool (decide ((((j : Nat) : Int) - 1) ≥ 0)))), (15, (.int .u64 (((h2 : Nat) : Int))))] ∧ w55 = w' ∧ (h2 = (lim ((lim (val a * sc)).getD (j - 1) 0 + 1000000000 * R)).getD (lim (val b * sc)).length 0 * 1000000000 + (lim ((lim (val a * sc)).getD (j - 1) 0 + 1000000000 * R)).getD ((lim (val b * sc)).length - 1) 0)) ?_ ?_
  ·
   refine c_seq ?_
   refine c_reg ?_
   refine pr hF (pm rfl <| pg (fun _ hF => ex_len TfPA.sls49 (hF.ev rfl)) <| pm rfl <| pg (fun _ hF => ex_len TfPA.sls49 (hF.ev rfl)) <| pg (fun _ hF => ex_geq (hF.ev rfl) (hF.ev rfl)) <| PR.nil) ?_
   clear hF fa; intro fa hF
   refine c_nil_then ?_
   refine c_cond hF rfl (fun hc65 => ?_) (fun hc65 => ?_)
   ·
    have hc65p : ((((lim ((lim (val a * sc)).getD (j - 1) 0 + 1000000000 * R))).length : Nat) : Int) ≥ ((((lim (val b * sc))).length : Nat) : Int) := by first | simpa using hc65 | exact bang_t hc65 | exact bang_f hc65
    refine c_reg ?_
    refine pr hF (pm rfl <| pm rfl <| pm rfl <| pg (fun _ hF => ex_len TfPA.sls49 (hF.ev rfl)) <| pg (fun _ hF => ex_sub (hF.ev rfl) (hF.ev rfl) vi64) <| PR.nil) ?_
    clear hF fa; intro fa hF
    obtain ⟨ad66, hA67, hq68⟩ := hu60.cl.at_ (us_get (l := ((lim ((lim (val a * sc)).getD (j - 1) 0 + 1000000000 * R)))) (i := (lim (val b * sc)).length - 1) (by omega))
    refine pr hF (pg (fun _ hF => ex_idx (j := (lim (val b * sc)).length - 1) TfPA.sl49 (hF.ev rfl) hA67 (hF.ev rfl) (by omega) (by omega)) <| pg (fun _ hF => ex_load1 TfPA.one120 (hF.ev rfl) hq68) <| pg (fun _ hF => ex_conv TfPA.unds120 TfPA.und99 (hF.ev rfl) (wu64n (by omega))) <| pg (fun _ hF => ex_add (hF.ev rfl) (hF.ev rfl) vu64) <| pa rfl <| PR.nil) ?_
    clear hF fa; intro fa hF
    replace hF : Frm 173 fa [(0, (.slice (A_a) (a.length) (c_a))), (1, (.slice (A_b) (b.length) (c_b))), (8, (.int .u32 (((sc : Nat) : Int)))), (9, (.slice (A16) (((lim (val b * sc))).length) (c17))), (10, (.int .u64 (((((lim (val b * sc))).getD ((lim (val b * sc)).length - 1) 0 : Nat) : Int)))), (12, (.slice (some ⟨g22, 0, none⟩) (((lim (val a * sc))).length) (a.length + 1))), (13, (.slice (A29) (((lim (val a * sc))).length) (c30))), (14, (.int .i64 (((j : Nat) : Int) - 1))), (11, (.slice (A58) (((lim ((lim (val a * sc)).getD (j - 1) 0 + 1000000000 * R))).length) (c59))), (76, (.bool (decide ((((j : Nat) : Int) - 1) ≥ 0)))), (15, (.int .u64 (((h1 : Nat) : Int) + ((((lim ((lim (val a * sc)).getD (j - 1) 0 + 1000000000 * R))).getD ((lim (val b * sc)).length - 1) 0 : Nat) : Int)))), (103, (.bool (decide (((((lim ((lim (val a * sc)).getD (j - 1) 0 + 1000000000 * R))).length : Nat) : Int) ≥ ((((lim (val b * sc))).length : Nat) : Int)))))] := (hF.all ⟨rfl, rfl, rfl, rfl, rfl, rfl, rfl, rfl, rfl, rfl, rfl, rfl, trivial⟩)
    refine c_nil ?_
    refine x_tn ?_
    exact ⟨(h1 + (((lim ((lim (val a * sc)).getD (j - 1) 0 + 1000000000 * R))).getD ((lim (val b * sc)).length - 1) 0)), (hF.all ⟨rfl, rfl, rfl, rfl, rfl, rfl, rfl, rfl, rfl, rfl, (lk_int rfl (by omega)), trivial⟩), rfl, (by rw [hh1])⟩
   have hc65p : ¬ (((((lim ((lim (val a * sc)).getD (j - 1) 0 + 1000000000 * R))).length : Nat) : Int) ≥ ((((lim (val b * sc))).length : Nat) : Int)) := by first | simpa using hc65 | exact bang_t hc65 | exact bang_f hc65
   have hge1 := getD_none (l := (lim ((lim (val a * sc)).getD (j - 1) 0 + 1000000000 * R))) (k := (lim (val b * sc)).length - 1) (by omega)
   refine c_skip ?_
   refine x_tn ?_
   exact ⟨(h1), (hF.all ⟨rfl, rfl, rfl, rfl, rfl, rfl, rfl, rfl, rfl, rfl, (lk_int rfl (by omega)), trivial⟩), rfl, (by rw [hh1, hge1, Nat.add_zero])⟩
  clear hF fa
  rintro fa _ ⟨h2, hF, rfl, hh2⟩
  refine c_seq ?_
  obtain ⟨hdge, hdh⟩ := digit_ge (V := (val b * sc)) (n := (lim (val b * sc)).length) rfl rfl (by omega) (top := (lim (val b * sc)).getD ((lim (val b * sc)).length - 1) 0) rfl hR2 (by omega)
  rw [← hh2] at hdge hdh
  refine c_reg ?_
  refine pr hF (pm rfl <| pm rfl <| pg (fun _ hF => ex_quo (hF.ev rfl) (hF.ev rfl) (by omega) (q_u64 (x := h2) (y := ((lim (val b * sc))).getD ((lim (val b * sc)).length - 1) 0) (by omega) (by omega) (by omega))) <| pa rfl <| PR.nil) ?_
  clear hF fa; intro fa hF
  refine c_nil_then ?_
  refine c_cut (fun fa w' => ∃ dg : Nat, Frm 173 fa [(0, (.slice (A_a) (a.length) (c_a))), (1, (.slice (A_b) (b.length) (c_b))), (8, (.int .u32 (((sc : Nat) : Int)))), (9, (.slice (A16) (((lim (val b * sc))).length) (c17))), (10, (.int .u64 (((((lim (val b * sc))).getD ((lim (val b * sc)).length - 1) 0 : Nat) : Int)))), (12, (.slice (some ⟨g22, 0, none⟩) (((lim (val a * sc))).length) (a.length + 1))), (13, (.slice (A29) (((lim (val a * sc))).length) (c30))), (14, (.int .i64 (((j : Nat) : Int) - 1))), (11, (.slice (A58) (((lim ((lim (val a * sc)).getD (j - 1) 0 + 1000000000 * R))).length) (c59))), (76, (.bool (decide ((((j : Nat) : Int) - 1) ≥ 0)))), (15, (.int .u64 (((h2 : Nat) : Int)))), (16, (.int .u64 (((dg : Nat) : Int))))] ∧ w55 = w' ∧ (dg ≤ 999999999) ∧ (((lim (val a * sc)).getD (j - 1) 0 + 1000000000 * R) < (dg + 1) * (val b * sc))) ?_ ?_
  ·
   refine c_seq ?_
   refine c_reg ?_
   refine pr hF (pm rfl <| pg (fun _ hF => ex_gtr (hF.ev rfl) (hF.ev rfl)) <| PR.nil) ?_
   clear hF fa; intro fa hF
   refine c_nil_then ?_
   refine c_cond hF rfl (fun hc69 => ?_) (fun hc69 => ?_)
   ·
    have hc69p : ((h2 / (((lim (val b * sc))).getD ((lim (val b * sc)).length - 1) 0) : Nat) : Int) > 999999999 := by first | simpa using hc69 | exact bang_t hc69 | exact bang_f hc69
    refine c_reg ?_
    refine pr hF (pa rfl <| PR.nil) ?_
    clear hF fa; intro fa hF
    refine c_nil ?_
    refine x_tn ?_
    exact ⟨999999999, (hF.all ⟨rfl, rfl, rfl, rfl, rfl, rfl, rfl, rfl, rfl, rfl, rfl, (lk_int rfl (by omega)), trivial⟩), rfl, (by omega), (digit_cap hR2)⟩
   have hc69p : ¬ (((h2 / (((lim (val b * sc))).getD ((lim (val b * sc)).length - 1) 0) : Nat) : Int) > 999999999) := by first | simpa using hc69 | exact bang_t hc69 | exact bang_f hc69
   refine c_skip ?_
   refine x_tn ?_
   exact ⟨h2 / (((lim (val b * sc))).getD ((lim (val b * sc)).length - 1) 0), (hF.all ⟨rfl, rfl, rfl, rfl, rfl, rfl, rfl, rfl, rfl, rfl, rfl, (lk_int rfl (by omega)), trivial⟩), rfl, (by omega), (hdge)⟩
  clear hF fa
  rintro fa _ ⟨dg, hF, rfl, hdg, hdgR⟩
  refine c_seq ?_
  refine c_reg ?_
  refine pr hF (pm rfl <| pm rfl <| pg (fun _ hF => ex_conv TfPA.unds99 TfPA.und120 (hF.ev rfl) (wu32n (by omega))) <| PR.nil) ?_
  clear hF fa; intro fa hF
  have hC := ref01_by_ok (w := w55) (X := (g22 :: X)) (a := ((lim (val b * sc)))) (hS.bnd hX) ⟨_, (((lim (val b * sc))).length), _, rfl, (rfl), (hu18.ext (((((((E24.trans E28).trans E33).trans E40).trans E49).trans E47).trans E54).trans E57))⟩ (dg) (by omega) (lb_lim _) (by omega)
  rw [show (lim (val (((lim (val b * sc)))) * dg)) = (lim ((val b * sc) * dg)) from by rw [val_lim]] at hC
  refine st rfl (op_call hF rfl TfPA.body132 (args2 (hF.ev rfl) (hF.ev (ev_int (b := ((dg : Nat) : Int)) rfl (by first | rfl | omega)))) hC ?_)
  clear hC
  rintro _ w70 ⟨⟨A73, _, c74, rfl, rfl, hu75⟩, hb71⟩
  refine gen_ ?_; clear hF fa; intro fa hF
  replace hS := hS.call hb71; have E72 := Ext.call (g22 :: X) hb71
  refine pr hF (pa rfl <| PR.nil) ?_
  clear hF fa; intro fa hF
  refine c_nil_then ?_
  refine c_seq ?_
  refine c_block ?_
  refine c_loop (fun mu fa w' => ∃ dk : Nat, ∃ Ap : Option Addr, ∃ cp : Nat, Frm 173 fa [(0, (.slice (A_a) (a.length) (c_a))), (1, (.slice (A_b) (b.length) (c_b))), (8, (.int .u32 (((sc : Nat) : Int)))), (9, (.slice (A16) (((lim (val b * sc))).length) (c17))), (10, (.int .u64 (((((lim (val b * sc))).getD ((lim (val b * sc)).length - 1) 0 : Nat) : Int)))), (12, (.slice (some ⟨g22, 0, none⟩) (((lim (val a * sc))).length) (a.length + 1))), (13, (.slice (A29) (((lim (val a * sc))).length) (c30))), (14, (.int .i64 (((j : Nat) : Int) - 1))), (11, (.slice (A58) (((lim ((lim (val a * sc)).getD (j - 1) 0 + 1000000000 * R))).length) (c59))), (76, (.bool (decide ((((j : Nat) : Int) - 1) ≥ 0)))), (15, (.int .u64 (((h2 : Nat) : Int)))), (16, (.int .u64 (((dk : Nat) : Int)))), (17, (.slice (Ap) ((lim ((val b * sc) * dk)).length) (cp)))] ∧ St w w' [(g22, 120, (us (o)).toArray)] ∧ Ext w70 (g22 :: X) w' (g22 :: X) ∧ UC w' (g22 :: X) Ap cp (lim ((val b * sc) * dk)) ∧ (dk ≤ 999999999) ∧ (((lim (val a * sc)).getD (j - 1) 0 + 1000000000 * R) < (dk + 1) * (val b * sc)) ∧ dk = mu) ?_ ?_
  ·
   exact ⟨_, dg, A73, c74, (hF.all ⟨rfl, rfl, rfl, rfl, rfl, rfl, rfl, rfl, rfl, rfl, rfl, (lk_int rfl (by omega)), (lk_slice rfl (by omega)), trivial⟩), hS, Ext.refl _ _, hu75, (hdg), (hdgR), rfl⟩
  clear hF fa; intro n1_ fa w' hI
  clear hS
  obtain ⟨dk, Ap, cp, hF, hS, E77, hp, hdk, hdR, rfl⟩ := hI
  rename World => w76
  refine c_seq ?_
  refine c_seq ?_
  refine c_reg ?_
  refine pr hF (pm rfl <| pm rfl <| PR.nil) ?_
  clear hF fa; intro fa hF
  have hC := ref01_compare_ok (w := w76) (X := (g22 :: X)) (a := (lim ((val b * sc) * dk))) (b := ((lim ((lim (val a * sc)).getD (j - 1) 0 + 1000000000 * R)))) (hS.bnd hX) ⟨_, ((lim ((val b * sc) * dk)).length), _, rfl, (rfl), hp⟩ ⟨_, (((lim ((lim (val a * sc)).getD (j - 1) 0 + 1000000000 * R))).length), _, rfl, (rfl), (hu60.ext (E72.trans E77))⟩ (CanL.lim _) (CanL.lim _)
  refine st rfl (op_call hF rfl TfPA.body100 (args2 (hF.ev rfl) (hF.ev rfl)) hC ?_)
  clear hC
  rintro _ w78 ⟨rfl, hb79⟩
  refine gen_ ?_; clear hF fa; intro fa hF
  replace hS := hS.call hb79; have E80 := Ext.call (g22 :: X) hb79
  refine pr hF (pg (fun _ hF => ex_gtr (hF.ev rfl) (hF.ev rfl)) <| PR.nil) ?_
  clear hF fa; intro fa hF
  refine c_nil_then ?_
  refine c_cond hF rfl (fun hc81 => ?_) (fun hc81 => ?_)
  ·
   have hc81p : (cmpN (val ((lim ((val b * sc) * dk)))) (val (((lim ((lim (val a * sc)).getD (j - 1) 0 + 1000000000 * R)))))) > 0 := by first | simpa using hc81 | exact bang_t hc81 | exact bang_f hc81
   have hgt := cmpN_gt0.1 hc81p; rw [val_lim, val_lim] at hgt
   have hdp : 0 < dk := by rcases Nat.eq_zero_or_pos dk with h0 | h0; rw [h0, Nat.mul_zero] at hgt; omega; exact h0
   have hVd := parts_dec (V := (val b * sc)) hdp; have hVle : (val b * sc) ≤ (val b * sc) * dk := Nat.le_mul_of_pos_right _ hdp
   refine c_skip ?_
   refine x_tn ?_
   refine c_block ?_
   refine c_seq ?_
   refine c_reg ?_
   refine pr hF (pm rfl <| pg (fun _ hF => ex_sub (hF.ev rfl) (hF.ev rfl) vu64) <| pa rfl <| PR.nil) ?_
   clear hF fa; intro fa hF
   replace hF : Frm 173 fa [(0, (.slice (A_a) (a.length) (c_a))), (1, (.slice (A_b) (b.length) (c_b))), (8, (.int .u32 (((sc : Nat) : Int)))), (9, (.slice (A16) (((lim (val b * sc))).length) (c17))), (10, (.int .u64 (((((lim (val b * sc))).getD ((lim (val b * sc)).length - 1) 0 : Nat) : Int)))), (12, (.slice (some ⟨g22, 0, none⟩) (((lim (val a * sc))).length) (a.length + 1))), (13, (.slice (A29) (((lim (val a * sc))).length) (c30))), (14, (.int .i64 (((j : Nat) : Int) - 1))), (11, (.slice (A58) (((lim ((lim (val a * sc)).getD (j - 1) 0 + 1000000000 * R))).length) (c59))), (76, (.bool (decide ((((j : Nat) : Int) - 1) ≥ 0)))), (15, (.int .u64 (((h2 : Nat) : Int)))), (16, (.int .u64 (((dk : Nat) : Int) - 1))), (17, (.slice (Ap) ((lim ((val b * sc) * dk)).length) (cp))), (125, (.bool (decide ((cmpN (val ((lim ((val b * sc) * dk)))) (val (((lim ((lim (val a * sc)).getD (j - 1) 0 + 1000000000 * R)))))) > 0))))] := (hF.all ⟨rfl, rfl, rfl, rfl, rfl, rfl, rfl, rfl, rfl, rfl, rfl, rfl, rfl, rfl, trivial⟩)
   refine c_nil_then ?_
   refine c_reg ?_
   refine pr hF (pm rfl <| pm rfl <| PR.nil) ?_
   clear hF fa; intro fa hF
   have hC := ref01_minus_ok (w := w78) (X := (g22 :: X)) (x := (lim ((val b * sc) * dk))) (y := ((lim (val b * sc)))) (hS.bnd hX) ⟨_, ((lim ((val b * sc) * dk)).length), _, rfl, (rfl), (hp.ext E80)⟩ ⟨_, (((lim (val b * sc))).length), _, rfl, (rfl), (hu18.ext ((((((((((E24.trans E28).trans E33).trans E40).trans E49).trans E47).trans E54).trans E57).trans E72).trans E77).trans E80))⟩ (by have := scaled_len (a := (val b * sc)) (s := dk) (by omega); omega) (by omega) (lb_lim _) (lb_lim _) (lim_le_of_le hVle) (by rw [val_lim, val_lim]; exact hVle)
   rw [show (lim (val ((lim ((val b * sc) * dk))) - val (((lim (val b * sc)))))) = (lim ((val b * sc) * (dk - 1))) from by rw [val_lim, val_lim, hVd]] at hC
   refine st rfl (op_call hF rfl TfPA.body101 (args2 (hF.ev rfl) (hF.ev rfl)) hC ?_)
   clear hC
   rintro _ w82 ⟨⟨A85, _, c86, rfl, rfl, hu87⟩, hb83⟩
   refine gen_ ?_; clear hF fa; intro fa hF
   replace hS := hS.call hb83; have E84 := Ext.call (g22 :: X) hb83
   refine pr hF (pa rfl <| PR.nil) ?_
   clear hF fa; intro fa hF
   refine c_nil ?_
   refine x_bn ?_
   refine x_tn ?_
   exact ⟨_, (by omega), (dk - 1), A85, c86, (hF.all ⟨rfl, rfl, rfl, rfl, rfl, rfl, rfl, rfl, rfl, rfl, rfl, (lk_int rfl (by omega)), (lk_slice rfl (by omega)), trivial⟩), hS, ((E77.trans E80).trans E84), hu87, (by omega), (by rw [Nat.sub_add_cancel hdp]; exact Nat.lt_of_lt_of_eq hgt (Nat.mul_comm _ _)), rfl⟩
  have hc81p : ¬ ((cmpN (val ((lim ((val b * sc) * dk)))) (val (((lim ((lim (val a * sc)).getD (j - 1) 0 + 1000000000 * R)))))) > 0) := by first | simpa using hc81 | exact bang_t hc81 | exact bang_f hc81
  have hle := mt cmpN_gt0.2 hc81p; rw [val_lim, val_lim] at hle
  have hle2 : (val b * sc) * dk ≤ ((lim (val a * sc)).getD (j - 1) 0 + 1000000000 * R) := by omega
  refine c_exit ?_
  refine x_te ?_
  refine x_te ?_
  refine x_bh ?_
  refine x_tn ?_
  refine c_seq ?_
  refine c_reg ?_
  refine pr hF (pm rfl <| pm rfl <| PR.nil) ?_
  clear hF fa; intro fa hF
  have hC := ref01_minus_ok (w := w78) (X := (g22 :: X)) (x := ((lim ((lim (val a * sc)).getD (j - 1) 0 + 1000000000 * R)))) (y := (lim ((val b * sc) * dk))) (hS.bnd hX) ⟨_, (((lim ((lim (val a * sc)).getD (j - 1) 0 + 1000000000 * R))).length), _, rfl, (rfl), (hu60.ext ((E72.trans E77).trans E80))⟩ ⟨_, ((lim ((val b * sc) * dk)).length), _, rfl, (rfl), (hp.ext E80)⟩ (by omega) (by have := lim_le_of_le hle2; omega) (lb_lim _) (lb_lim _) (lim_le_of_le hle2) (by rw [val_lim, val_lim]; exact hle2)
  rw [show (lim (val (((lim ((lim (val a * sc)).getD (j - 1) 0 + 1000000000 * R)))) - val ((lim ((val b * sc) * dk))))) = (lim (((lim (val a * sc)).getD (j - 1) 0 + 1000000000 * R) - (val b * sc) * dk)) from by rw [val_lim, val_lim]] at hC
  refine st rfl (op_call hF rfl TfPA.body101 (args2 (hF.ev rfl) (hF.ev rfl)) hC ?_)
  clear hC
  rintro _ w88 ⟨⟨A91, _, c92, rfl, rfl, hu93⟩, hb89⟩
  refine gen_ ?_; clear hF fa; intro fa hF
  replace hS := hS.call hb89; have E90 := Ext.call (g22 :: X) hb89
  refine pr hF (pa rfl <| PR.nil) ?_
  clear hF fa; intro fa hF
  replace hF : Frm 173 fa [(0, (.slice (A_a) (a.length) (c_a))), (1, (.slice (A_b) (b.length) (c_b))), (8, (.int .u32 (((sc : Nat) : Int)))), (9, (.slice (A16) (((lim (val b * sc))).length) (c17))), (10, (.int .u64 (((((lim (val b * sc))).getD ((lim (val b * sc)).length - 1) 0 : Nat) : Int)))), (12, (.slice (some ⟨g22, 0, none⟩) (((lim (val a * sc))).length) (a.length + 1))), (13, (.slice (A29) (((lim (val a * sc))).length) (c30))), (14, (.int .i64 (((j : Nat) : Int) - 1))), (11, (.slice (A91) (((lim (((lim (val a * sc)).getD (j - 1) 0 + 1000000000 * R) - (val b * sc) * dk))).length) (c92))), (76, (.bool (decide ((((j : Nat) : Int) - 1) ≥ 0)))), (15, (.int .u64 (((h2 : Nat) : Int)))), (16, (.int .u64 (((dk : Nat) : Int)))), (17, (.slice (Ap) ((lim ((val b * sc) * dk)).length) (cp))), (125, (.bool (decide ((cmpN (val ((lim ((val b * sc) * dk)))) (val (((lim ((lim (val a * sc)).getD (j - 1) 0 + 1000000000 * R)))))) > 0))))] := (hF.all ⟨rfl, rfl, rfl, rfl, rfl, rfl, rfl, rfl, rfl, rfl, rfl, rfl, rfl, rfl, trivial⟩)
  refine c_nil_then ?_
  refine c_reg ?_
  refine pr hF (pm rfl <| pm rfl <| pm rfl <| pg (fun _ hF => ex_conv TfPA.unds99 TfPA.und120 (hF.ev rfl) (wu32n (by omega))) <| pg (fun _ hF => ex_idxo (j := j - 1) TfPA.sl49 (hF.ev rfl) (hF.ev rfl) (by omega) (by omega)) <| PR.nil) ?_
  clear hF fa; intro fa hF
  refine st rfl (op_store (vs := #[.int .u32 ((dk : Nat) : Int)]) (v := .int .u32 ((dk : Nat) : Int)) (X := (g22 :: X)) hF hS 0 rfl (by simp) rfl (ev_int rfl (by omega)) rfl TfPA.size120 rfl (us_fit (by first | omega | (simp; omega))) ?_)
  intro w94 hS E95
  rw [splice_us (by first | omega | (simp; omega))] at hS
  refine c_nil ?_
  refine x_bn ?_
  refine x_tn ?_
  refine c_reg ?_
  refine pr hF (pm rfl <| pg (fun _ hF => ex_sub (hF.ev rfl) (hF.ev rfl) vi64) <| pa rfl <| PR.nil) ?_
  clear hF fa; intro fa hF
  refine c_nil ?_
  refine x_tn ?_
  exact ⟨_, (by omega), o.set (j - 1) (dk), (((lim (val a * sc)).getD (j - 1) 0 + 1000000000 * R) - (val b * sc) * dk), (j - 1), A91, c92, (hF.all ⟨rfl, rfl, rfl, rfl, rfl, rfl, rfl, (lk_int rfl (by omega)), (lk_slice rfl (by first | omega | (rw [lim_zero]; rfl))), trivial⟩), hS, ((((((((((E33.trans E40).trans E49).trans E47).trans E54).trans E57).trans E72).trans E77).trans E80).trans E90).trans E95), (hu93.ext E95), (by omega), (by simp; omega), (lb_set hbo (by omega)), (by rw [drop_set_lt (by omega)]; exact hz), (parts_step (by omega) hj (by omega) hI rfl hle2), (parts_lt hdR hle2), rfl⟩
 have hc34p : ¬ ((((j : Nat) : Int) - 1) ≥ 0) := by first | simpa using hc34 | exact bang_t hc34 | exact bang_f hc34
 refine c_exit ?_
 refine x_te ?_
 refine x_te ?_
 refine x_bh ?_
 refine x_tn ?_
 refine c_seq ?_
 refine c_reg ?_
 refine pr hF (pa rfl <| PR.nil) ?_
 clear hF fa; intro fa hF
 refine c_nil_then ?_
 refine c_seq ?_
 have hRl := lim_le_of_le (Nat.le_of_lt hR)
 refine c_reg ?_
 refine pr hF (pm rfl <| pg (fun _ hF => ex_len TfPA.sls49 (hF.ev rfl)) <| PR.nil) ?_
 clear hF fa; intro fa hF
 refine st rfl (op_make (X := (g22 :: X)) (nl := (lim (R)).length) (nc := (lim (R)).length) hF hS rfl TfPA.sl49 TfPA.el120 rfl rfl (by omega) (by omega) (by omega) (by omega) (by omega) (made_us _) ?_)
 intro g96 w97 hg99 hS E98; refine gen_ ?_; clear hF fa; intro fa hF
 rw [Nat.mul_one] at hS
 refine pr hF (pa rfl <| PR.nil) ?_
 clear hF fa; intro fa hF
 refine c_nil_then ?_
 refine c_seq ?_
 refine c_seq ?_
 refine c_reg ?_
 refine pr hF (pm rfl <| pg (fun _ hF => ex_len TfPA.sls49 (hF.ev rfl)) <| pg (fun _ hF => ex_sub (hF.ev rfl) (hF.ev rfl) vi64) <| pa rfl <| PR.nil) ?_
 clear hF fa; intro fa hF
 replace hF : Frm 173 fa [(0, (.slice (A_a) (a.length) (c_a))), (1, (.slice (A_b) (b.length) (c_b))), (8, (.int .u32 (((sc : Nat) : Int)))), (9, (.slice (A16) (((lim (val b * sc))).length) (c17))), (10, (.int .u64 (((((lim (val b * sc))).getD ((lim (val b * sc)).length - 1) 0 : Nat) : Int)))), (12, (.slice (some ⟨g22, 0, none⟩) (((lim (val a * sc))).length) (a.length + 1))), (13, (.slice (A29) (((lim (val a * sc))).length) (c30))), (14, (.int .i64 (((j : Nat) : Int) - 1))), (11, (.slice (Ar) ((lim (R)).length) (cr))), (76, (.bool (decide ((((j : Nat) : Int) - 1) ≥ 0)))), (18, (.int .u64 (0))), (19, (.slice (some ⟨g96, 0, none⟩) ((lim (R)).length) ((lim (R)).length))), (20, (.int .i64 ((((lim (R)).length : Nat) : Int) - 1)))] := (hF.all ⟨rfl, rfl, rfl, rfl, rfl, rfl, rfl, rfl, rfl, rfl, rfl, rfl, rfl, trivial⟩)
 refine c_nil_then ?_
 refine c_block ?_
 refine c_loop (fun mu fa w' => ∃ o3 : List Nat, ∃ rr : Nat, ∃ k : Nat, Frm 173 fa [(0, (.slice (A_a) (a.length) (c_a))), (1, (.slice (A_b) (b.length) (c_b))), (8, (.int .u32 (((sc : Nat) : Int)))), (9, (.slice (A16) (((lim (val b * sc))).length) (c17))), (10, (.int .u64 (((((lim (val b * sc))).getD ((lim (val b * sc)).length - 1) 0 : Nat) : Int)))), (12, (.slice (some ⟨g22, 0, none⟩) (((lim (val a * sc))).length) (a.length + 1))), (13, (.slice (A29) (((lim (val a * sc))).length) (c30))), (14, (.int .i64 (((j : Nat) : Int) - 1))), (11, (.slice (Ar) ((lim (R)).length) (cr))), (76, (.bool (decide ((((j : Nat) : Int) - 1) ≥ 0)))), (19, (.slice (some ⟨g96, 0, none⟩) ((lim (R)).length) ((lim (R)).length))), (18, (.int .u64 (((rr : Nat) : Int)))), (20, (.int .i64 (((k : Nat) : Int) - 1)))] ∧ St w w' [(g96, 120, (us (o3)).toArray), (g22, 120, (us (o)).toArray)] ∧ Ext w97 (g96 :: (g22 :: X)) w' (g96 :: (g22 :: X)) ∧ (k ≤ (lim R).length) ∧ (o3.length = (lim R).length) ∧ (Lb o3) ∧ (rr < sc) ∧ (val ((lim R).drop k) = sc * val (o3.drop k) + rr) ∧ k = mu) ?_ ?_
 ·
  exact ⟨_, List.replicate (lim R).length 0, 0, (lim R).length, (hF.all ⟨rfl, rfl, rfl, rfl, rfl, rfl, rfl, rfl, rfl, rfl, rfl, (lk_int rfl (by omega)), (lk_int rfl (by omega)), trivial⟩), hS, Ext.refl _ _, (Nat.le_refl _), (by simp), (lb_zeros _), (hsc0), (by rw [val_drop_all (Nat.le_refl _), val_drop_all (by simp)]; simp), rfl⟩
 clear hF fa; intro n2_ fa w' hI
 clear hS
 obtain ⟨o3, rr, k, hF, hS, E101, hk, ho3, hbo3, hrr, hv3, rfl⟩ := hI
 rename World => w100
 have hak := (lb_lim R).getD (k - 1)
 obtain ⟨hbl1, hbl2, hbl3⟩ := byword_lt hrr hscB hak (t := _) rfl
 refine c_seq ?_
 refine c_seq ?_
 refine c_reg ?_
 refine pr hF (pm rfl <| pg (fun _ hF => ex_geq (hF.ev rfl) (hF.ev rfl)) <| PR.nil) ?_
 clear hF fa; intro fa hF
 refine c_nil_then ?_
 refine c_cond hF rfl (fun hc102 => ?_) (fun hc102 => ?_)
 ·
  have hc102p : (((k : Nat) : Int) - 1) ≥ 0 := by first | simpa using hc102 | exact bang_t hc102 | exact bang_f hc102
  refine c_skip ?_
  refine x_tn ?_
  refine c_seq ?_
  refine c_block ?_
  refine c_seq ?_
  refine c_reg ?_
  refine pr hF (pm rfl <| pg (fun _ hF => ex_mul (hF.ev rfl) (hF.ev rfl) vu64) <| pm rfl <| pm rfl <| PR.nil) ?_
  clear hF fa; intro fa hF
  obtain ⟨ad103, hA104, hq105⟩ := (hr.ext (E98.trans E101)).cl.at_ (us_get (l := (lim (R))) (i := k - 1) (by omega))
  refine pr hF (pg (fun _ hF => ex_idx (j := k - 1) TfPA.sl49 (hF.ev rfl) hA104 (hF.ev rfl) (by omega) (by omega)) <| pg (fun _ hF => ex_load1 TfPA.one120 (hF.ev rfl) hq105) <| pg (fun _ hF => ex_conv TfPA.unds120 TfPA.und99 (hF.ev rfl) (wu64n (by omega))) <| pg (fun _ hF => ex_add (hF.ev rfl) (hF.ev rfl) vu64) <| pa rfl <| PR.nil) ?_
  clear hF fa; intro fa hF
  refine c_nil_then ?_
  refine c_seq ?_
  refine c_reg ?_
  refine pr hF (pm rfl <| pm rfl <| pm rfl <| pm rfl <| pg (fun _ hF => ex_conv TfPA.unds120 TfPA.und99 (hF.ev rfl) (wu64n (by omega))) <| pg (fun _ hF => ex_quo (hF.ev rfl) (hF.ev rfl) (by omega) (q_u64 (x := (rr * 1000000000) + ((lim (R)).getD (k - 1) 0)) (y := sc) (by omega) (by omega) (by omega))) <| pg (fun _ hF => ex_conv TfPA.unds99 TfPA.und120 (hF.ev rfl) (wu32n (by omega))) <| pg (fun _ hF => ex_idxo (j := k - 1) TfPA.sl49 (hF.ev rfl) (hF.ev rfl) (by omega) (by omega)) <| PR.nil) ?_
  clear hF fa; intro fa hF
  refine st rfl (op_store (vs := #[.int .u32 ((((rr * 1000000000) + ((lim (R)).getD (k - 1) 0)) / sc : Nat) : Int)]) (v := .int .u32 ((((rr * 1000000000) + ((lim (R)).getD (k - 1) 0)) / sc : Nat) : Int)) (X := (g96 :: (g22 :: X))) hF hS 0 rfl (by simp) rfl (ev_int rfl (by omega)) rfl TfPA.size120 rfl (us_fit (by first | omega | (simp; omega))) ?_)
  intro w106 hS E107
  rw [splice_us (by first | omega | (simp; omega))] at hS
  replace hF : Frm 173 fa [(0, (.slice (A_a) (a.length) (c_a))), (1, (.slice (A_b) (b.length) (c_b))), (8, (.int .u32 (((sc : Nat) : Int)))), (9, (.slice (A16) (((lim (val b * sc))).length) (c17))), (10, (.int .u64 (((((lim (val b * sc))).getD ((lim (val b * sc)).length - 1) 0 : Nat) : Int)))), (12, (.slice (some ⟨g22, 0, none⟩) (((lim (val a * sc))).length) (a.length + 1))), (13, (.slice (A29) (((lim (val a * sc))).length) (c30))), (14, (.int .i64 (((j : Nat) : Int) - 1))), (11, (.slice (Ar) ((lim (R)).length) (cr))), (76, (.bool (decide ((((j : Nat) : Int) - 1) ≥ 0)))), (19, (.slice (some ⟨g96, 0, none⟩) ((lim (R)).length) ((lim (R)).length))), (18, (.int .u64 ((((rr : Nat) : Int) * 1000000000) + (((lim (R)).getD (k - 1) 0 : Nat) : Int)))), (20, (.int .i64 (((k : Nat) : Int) - 1))), (146, (.bool (decide ((((k : Nat) : Int) - 1) ≥ 0))))] := (hF.all ⟨rfl, rfl, rfl, rfl, rfl, rfl, rfl, rfl, rfl, rfl, rfl, rfl, rfl, rfl, trivial⟩)
  refine c_nil_then ?_
  refine c_reg ?_
  refine pr hF (pm rfl <| pm rfl <| pg (fun _ hF => ex_conv TfPA.unds120 TfPA.und99 (hF.ev rfl) (wu64n (by omega))) <| pg (fun _ hF => ex_rem (hF.ev rfl) (hF.ev rfl) (by omega) (r_any (x := (rr * 1000000000) + ((lim (R)).getD (k - 1) 0)) (y := sc) (by omega) (by omega))) <| pa rfl <| PR.nil) ?_
  clear hF fa; intro fa hF
  refine c_nil ?_
  refine x_bn ?_
  refine x_tn ?_
  refine c_reg ?_
  refine pr hF (pm rfl <| pg (fun _ hF => ex_sub (hF.ev rfl) (hF.ev rfl) vi64) <| pa rfl <| PR.nil) ?_
  clear hF fa; intro fa hF
  refine c_nil ?_
  refine x_tn ?_
  exact ⟨_, (by omega), o3.set (k - 1) (((rr * 1000000000) + ((lim (R)).getD (k - 1) 0)) / sc), ((rr * 1000000000) + ((lim (R)).getD (k - 1) 0)) % sc, (k - 1), (hF.all ⟨rfl, rfl, rfl, rfl, rfl, rfl, rfl, rfl, rfl, rfl, rfl, (lk_int rfl (by omega)), (lk_int rfl (by omega)), trivial⟩), hS, (E101.trans E107), (by omega), (by simp; omega), (lb_set hbo3 hbl1), (hbl2), (byword_step (by omega) hk (by omega) hv3 rfl rfl), rfl⟩
 have hc102p : ¬ ((((k : Nat) : Int) - 1) ≥ 0) := by first | simpa using hc102 | exact bang_t hc102 | exact bang_f hc102
 refine c_exit ?_
 refine x_te ?_
 refine x_te ?_
 refine x_bh ?_
 refine x_tn ?_
 refine c_seq ?_
 refine c_reg ?_
 refine pr hF (pm rfl <| PR.nil) ?_
 clear hF fa; intro fa hF
 obtain ⟨hS1, hn1⟩ := hS.out hX 1 rfl
 have hu108 := UC.of_boxP (c := a.length + 1) (n := ((lim (val a * sc))).length) (L := o) (hS.get 1 rfl) hn1 (by unfold maxLen; omega) (by first | omega | (simp; omega)) (by first | omega | (simp; omega))
 have E109 : Ext w100 (g96 :: (g22 :: X)) w100 (g96 :: X) := Ext.drop (by simp +contextual)
 replace hu108 : UC w100 (g96 :: X) (some ⟨g22, 0, none⟩) (a.length + 1) (o.take (((lim (val a * sc))).length)) := hu108
 replace hS : St w w100 [(g96, 120, (us (o3)).toArray)] := hS1; clear hn1
 have hC := ref01_trim_ok (w := w100) (X := (g96 :: X)) (l := (o.take (((lim (val a * sc))).length))) (hS.bnd hX) ⟨_, (((lim (val a * sc))).length), _, rfl, (by rw [List.length_take]; omega), hu108⟩
 refine st rfl (op_call hF rfl TfPA.body102 (args1 (hF.ev rfl)) hC ?_)
 clear hC
 rintro _ w110 ⟨⟨A113, _, c114, rfl, rfl, hu115⟩, hb111⟩
 refine gen_ ?_; clear hF fa; intro fa hF
 replace hS := hS.call hb111; have E112 := Ext.call (g96 :: X) hb111
 refine pr hF (pm rfl <| PR.nil) ?_
 clear hF fa; intro fa hF
 obtain ⟨hS1, hn1⟩ := hS.out hX 0 rfl
 have hu116 := UC.of_box (L := o3) (hS.get 0 rfl) hn1 (by first | omega | (simp; omega))
 have E117 : Ext w110 (g96 :: X) w110 X := Ext.drop (by simp +contextual)
 replace hu116 : UC w110 X (some ⟨g96, 0, none⟩) (o3).length (o3) := hu116
 replace hS : St w w110 [] := hS1; clear hn1
 have hC := ref01_trim_ok (w := w110) (X := X) (l := o3) (hS.bnd hX) (UL.cap (n := (lim (R)).length) (c := (lim (R)).length) hu116 (by first | rfl | (simp; done) | omega) (by first | rfl | (simp; done) | omega))
 refine st rfl (op_call hF rfl TfPA.body102 (args1 (hF.ev rfl)) hC ?_)
 clear hC
 rintro _ w118 ⟨⟨A121, _, c122, rfl, rfl, hu123⟩, hb119⟩
 refine gen_ ?_; clear hF fa; intro fa hF
 replace hS := hS.call hb119; have E120 := Ext.call X hb119
 refine pr hF (pa rfl <| pa rfl <| PR.nil) ?_
 clear hF fa; intro fa hF
 refine c_nil_then ?_
 refine c_ret ?_
 have hk0 : k = 0 := by omega
 subst hk0
 have hj0 : j = 0 := by omega
 subst hj0
 rw [List.drop_zero, List.drop_zero, val_lim] at hv3 hI
 have htk := val_split (U := o) (k := (lim (val a * sc)).length) (by omega)
 rw [hz, Nat.mul_zero, Nat.add_zero] at htk
 have hq := parts_end hsc0 hI hR hv3 hrr
 refine end2 hF rfl (res_tmp hF rfl) (res_tmp hF rfl) ?_
 exact ⟨_, rfl, ⟨_, _, rfl, (UL.fin (L := (trimz (o.take (((lim (val a * sc))).length)))) ⟨_, _, _, rfl, (rfl), (hu115.ext (E117.trans E120))⟩ (by rw [← lim_val _ (hbo.take _), ← htk, hq.1]) (fun x hx => by simp [hx])), (UL.fin (L := (trimz o3)) ⟨_, _, _, rfl, (rfl), hu123⟩ (by rw [← lim_val _ hbo3, hq.2]) (fun x hx => by simp [hx]))⟩, hS.below⟩

end Go.Proofs.YtigbdpkpaleboaaGreatDoor

namespace Go.Proofs.YtigbdpkpaleboaaGreatDoor
open Go Go.RowKit Go.Sw
set_option linter.unusedVariables false
set_option maxRecDepth 100000
set_option maxHeartbeats 8000000
instance (a b : List Nat) : DenI Tryz.prog 114 [.c (lmc a), .c (lmc b)] (a.length ≤ 100000000000 ∧ b.length ≤ 100000000000 ∧ Lb a ∧ Lb b ∧ 0 < val b) (.tup [.c (lmc (pad (dql a b) (val a / val b))), .c (lmc (pad (drl a b) (val a % val b)))]) := ⟨fun hp => den2 (by kernel_rfl) fun w X u v hX hu hv => (integer_divide_ok hX hu.ul hv.ul hp.1 hp.2.1 hp.2.2.1 hp.2.2.2.1 hp.2.2.2.2).mono fun e w' ⟨u, he, ⟨qs, rs, r0, r1, h1, h2, h3, h4, h5, h6, h7, h8, h9⟩, hb⟩ => ⟨u, he, by subst h1; obtain ⟨e1, e2⟩ := div_pads h4 h5 h6 h7 h8 h9; rw [← e1, ← e2]; exact tup2 (.c h2.rep) (.c h3.rep), hb⟩⟩
instance (a b : List Nat) : DenI Tryz.prog 120 [.c (lmc a), .c (lmc b)] (a.length ≤ 1000000000 ∧ b.length ≤ 1000000000 ∧ CanL a ∧ CanL b ∧ 0 < val b) (.tup [.c (lmc (lim (val a / val b))), .c (lmc (lim (val a % val b)))]) := ⟨fun hp => den2 (by kernel_rfl) fun w X u v hX hu hv => (ref01_parts_ok hX hu.ul hv.ul hp.1 hp.2.1 hp.2.2.1 hp.2.2.2.1 hp.2.2.2.2).mono fun e w' ⟨u, he, ⟨r0, r1, h1, h2, h3⟩, hb⟩ => ⟨u, he, by subst h1; exact tup2 (.c h2.rep) (.c h3.rep), hb⟩⟩
end Go.Proofs.YtigbdpkpaleboaaGreatDoor

namespace Go.Proofs.YtigbdpkpaleboaaGreatDoor
open Go Go.RowKit Go.Sw
set_option linter.unusedVariables false
set_option maxRecDepth 100000
set_option maxHeartbeats 8000000
instance rh_sub (a b : Int) : DenI Tryz.prog 122 [Z a, Z b] (sz a ≤ 1000000000 ∧ sz b ≤ 1000000000) (Z (a - b)) := ⟨fun hp => by
 refine den_of (τ := tab) tab_ok mixed_ Tryz.func122 rfl (by kernel_rfl) (by kernel_rfl) (by kernel_rfl) ?_
 repeat' ((try (conv => whnf)); first
  | refine call_0 ?_
  | refine call_i ?_ ?_
  | (with_reducible refine onB_t ?_)
  | (with_reducible refine onB_f ?_)
  | (with_reducible refine onB_d (fun _ => ?_) (fun _ => ?_))
  | (with_reducible refine onB_n (fun _ => ?_) (fun _ => ?_))
  | refine OnB.mk (fun _ => ?_) (fun _ => ?_)
  | refine obl_i ?_ ?_
  | refine Drw.mk (by kernel_rfl) ?_
  | refine mks_i ?_ ?_
  | refine slp_i ?_ ?_
  | (with_reducible refine elem_u ?_ ?_)
  | (with_reducible refine elem_0 ?_)
  | (with_reducible refine elem_1 ?_)
  | refine Ends.mk ?_)
 all_goals (try refine Pr.mk ?_)
 all_goals first
  | with_reducible exact hp.2
  | (rw [sz_neg]; exact hp)
  | (refine zsE ?_; omega)
  | skip⟩

instance ih_sub (a b : Int) : DenI Tryz.prog 131 [Z a, Z b] (sz a ≤ 1000000000 ∧ sz b ≤ 1000000000) (Z (a - b)) := ⟨fun hp => by
 refine den_of (τ := tab) tab_ok mixed_ Tryz.func131 rfl (by kernel_rfl) (by kernel_rfl) (by kernel_rfl) ?_
 repeat' ((try (conv => whnf)); first
  | refine call_0 ?_
  | refine call_i ?_ ?_
  | (with_reducible refine onB_t ?_)
  | (with_reducible refine onB_f ?_)
  | (with_reducible refine onB_d (fun _ => ?_) (fun _ => ?_))
  | (with_reducible refine onB_n (fun _ => ?_) (fun _ => ?_))
  | refine OnB.mk (fun _ => ?_) (fun _ => ?_)
  | refine obl_i ?_ ?_
  | refine Drw.mk (by kernel_rfl) ?_
  | refine mks_i ?_ ?_
  | refine slp_i ?_ ?_
  | (with_reducible refine elem_u ?_ ?_)
  | (with_reducible refine elem_0 ?_)
  | (with_reducible refine elem_1 ?_)
  | refine Ends.mk ?_)
 all_goals (try refine Pr.mk ?_)
 all_goals (try ((conv => whnf); first | rw [subc_1 (by assumption)] | rw [subc_2 (by assumption)]))
 all_goals (repeat' ((try (conv => whnf)); first
  | refine call_0 ?_
  | refine call_i ?_ ?_
  | (with_reducible refine onB_t ?_)
  | (with_reducible refine onB_f ?_)
  | (with_reducible refine onB_d (fun _ => ?_) (fun _ => ?_))
  | (with_reducible refine onB_n (fun _ => ?_) (fun _ => ?_))
  | refine OnB.mk (fun _ => ?_) (fun _ => ?_)
  | refine obl_i ?_ ?_
  | refine Drw.mk (by kernel_rfl) ?_
  | refine mks_i ?_ ?_
  | refine slp_i ?_ ?_
  | (with_reducible refine elem_u ?_ ?_)
  | (with_reducible refine elem_0 ?_)
  | (with_reducible refine elem_1 ?_)
  | refine Ends.mk ?_))
 all_goals (try refine Pr.mk ?_)
 all_goals first
  | (rw [sz_neg]; exact hp)
  | (refine zsE ?_; omega)
  | skip⟩

instance ih_divmod (a b : Int) : DenI Tryz.prog 115 [Z a, Z b] (sz a ≤ 1000000000 ∧ sz b ≤ 1000000000) (.tup [Z (a.fdiv b), Z (if b = 0 then 0 else a.fmod b), .int .i64 (if b = 0 then 6 else 0)]) := ⟨fun hp => by
 refine den_of (τ := tab) tab_ok mixed_ Tryz.func115 rfl (by kernel_rfl) (by kernel_rfl) (by kernel_rfl) ?_
 repeat' ((try (conv => whnf)); first
  | refine call_0 ?_
  | refine call_i ?_ ?_
  | (with_reducible refine onB_t ?_)
  | (with_reducible refine onB_f ?_)
  | (with_reducible refine onB_d (fun _ => ?_) (fun _ => ?_))
  | (with_reducible refine onB_n (fun _ => ?_) (fun _ => ?_))
  | refine OnB.mk (fun _ => ?_) (fun _ => ?_)
  | refine obl_i ?_ ?_
  | refine Drw.mk (by kernel_rfl) ?_
  | refine mks_i ?_ ?_
  | refine slp_i ?_ ?_
  | (with_reducible refine elem_u ?_ ?_)
  | (with_reducible refine elem_0 ?_)
  | (with_reducible refine elem_1 ?_)
  | refine Ends.mk ?_)
 all_goals (try refine Pr.mk ?_)
 all_goals (try simp (disch := assumption) only [val_lim, natAbs_sgnv, neg_sgnv, cast_len0, cast_len1, List.length_map, dqI, drI] at *)
 all_goals (try simp (disch := assumption) only [val_lim, natAbs_sgnv, neg_sgnv, cast_len0, cast_len1, List.length_map, dqI, drI] at *)
 all_goals first
  | omega
  | (have hb0 : b = 0 := (by omega); subst hb0; exact rdm_zero a)
  | with_reducible exact lb_pad _ _
  | with_reducible exact dv_pre hp.1 hp.2 (by assumption)
  | with_reducible exact ⟨sz_q hp.1 _, sz_o⟩
  | with_reducible exact ⟨sz_r hp.1 _, hp.2⟩
  | with_reducible exact rdm_turn (by assumption) (by assumption) (turn_sg (r := a.natAbs % b.natAbs) (by omega) (by assumption))
  | with_reducible exact rdm_keep (by assumption) (.inr (keep_sg (r := a.natAbs % b.natAbs) (by omega) (by assumption)))
  | with_reducible exact rdm_keep (by assumption) (.inl (by omega))
  | skip⟩

end Go.Proofs.YtigbdpkpaleboaaGreatDoor

namespace Go.Proofs.YtigbdpkpaleboaaGreatDoor
open Go Go.RowKit Go.Sw
set_option linter.unusedVariables false
set_option maxRecDepth 100000
set_option maxHeartbeats 8000000
instance rh_gcd (a b : Int) : DenI Tryz.prog 97 [Z a, Z b] (sz a ≤ 1000000000 ∧ sz b ≤ 1000000000) (Z ((Nat.gcd a.natAbs b.natAbs : Nat) : Int)) := ⟨fun hp => by
 refine den_of (τ := tab) tab_ok mixed_ Tryz.func97 rfl (by kernel_rfl) (by kernel_rfl) (by kernel_rfl) ?_
 repeat' ((try (conv => whnf)); first
  | refine call_0 ?_
  | refine call_i ?_ ?_
  | (with_reducible refine onB_t ?_)
  | (with_reducible refine onB_f ?_)
  | (with_reducible refine onB_d (fun _ => ?_) (fun _ => ?_))
  | (with_reducible refine onB_n (fun _ => ?_) (fun _ => ?_))
  | refine OnB.mk (fun _ => ?_) (fun _ => ?_)
  | refine obl_i ?_ ?_
  | refine Drw.mk (by kernel_rfl) ?_
  | refine mks_i ?_ ?_
  | refine slp_i ?_ ?_
  | (with_reducible refine elem_u ?_ ?_)
  | (with_reducible refine elem_0 ?_)
  | (with_reducible refine elem_1 ?_)
  | refine Ends.mk ?_)
 all_goals (try refine Pr.mk ?_)
 all_goals first
  | ((conv => whnf); refine Sw.Loop.inv (α := Nat × Nat) (fun x => [(4, .ptr 4 0), (5, .c (lmc (lim x.1))), (6, .c (lmc (lim x.2)))]) (fun x => [(4, .var [.v (.bool false), .sl 1 []])]) (fun x => Nat.gcd x.1 x.2 = Nat.gcd a.natAbs b.natAbs ∧ (lim x.1).length ≤ 1000000000 ∧ (lim x.2).length ≤ 1000000000) (fun x => x.2) (a.natAbs, b.natAbs) ?_ ?_ ?_ (fun x hx => ?_))
  | skip
 all_goals (repeat' ((try (conv => whnf)); first
  | refine call_0 ?_
  | refine call_i ?_ ?_
  | (with_reducible refine onB_t ?_)
  | (with_reducible refine onB_f ?_)
  | (with_reducible refine onB_d (fun _ => ?_) (fun _ => ?_))
  | (with_reducible refine onB_n (fun _ => ?_) (fun _ => ?_))
  | refine OnB.mk (fun _ => ?_) (fun _ => ?_)
  | refine obl_i ?_ ?_
  | refine Drw.mk (by kernel_rfl) ?_
  | refine mks_i ?_ ?_
  | refine slp_i ?_ ?_
  | (with_reducible refine elem_u ?_ ?_)
  | (with_reducible refine elem_0 ?_)
  | (with_reducible refine elem_1 ?_)
  | refine Ends.mk ?_))
 all_goals (try refine Pr.mk ?_)
 all_goals first
  | ((conv => whnf); refine Sw.Loop.inv (α := Nat × Nat) (fun y => [(4, .ptr 4 0), (9, .int .u64 (y.1 : Nat)), (10, .int .u64 (y.2 : Nat))]) (fun y => [(4, .var [.v (.bool false), .sl 1 []])]) (fun y => y.1 < 1000000000000000000 ∧ y.2 < 1000000000000000000 ∧ Nat.gcd y.1 y.2 = Nat.gcd a.natAbs b.natAbs) (fun y => y.2) x ?_ ?_ ?_ (fun y hy => ?_))
  | skip
 all_goals (repeat' ((try (conv => whnf)); first
  | refine call_0 ?_
  | refine call_i ?_ ?_
  | (with_reducible refine onB_t ?_)
  | (with_reducible refine onB_f ?_)
  | (with_reducible refine onB_d (fun _ => ?_) (fun _ => ?_))
  | (with_reducible refine onB_n (fun _ => ?_) (fun _ => ?_))
  | refine OnB.mk (fun _ => ?_) (fun _ => ?_)
  | refine obl_i ?_ ?_
  | refine Drw.mk (by kernel_rfl) ?_
  | refine mks_i ?_ ?_
  | refine slp_i ?_ ?_
  | (with_reducible refine elem_u ?_ ?_)
  | (with_reducible refine elem_0 ?_)
  | (with_reducible refine elem_1 ?_)
  | refine Ends.mk ?_))
 all_goals (try refine Pr.mk ?_)
 all_goals first | (show SubE _ _; repeat' (first | exact trivial | refine And.intro ?_ ?_)) | (show SubB _ _; repeat' (first | exact trivial | refine And.intro ?_ ?_)) | skip
 all_goals (try rfl)
 all_goals (try simp only [List.length_map] at *)
 all_goals first
  | with_reducible exact lb_lim _
  | with_reducible exact gv
  | with_reducible exact gpre hx.2.1 hx.2.2 (by omega)
  | with_reducible exact gshort (by omega)
  | (have hz := lim_len_zero (n := x.2); exact gshort (by omega))
  | exact ⟨trivial, hp.1, hp.2⟩
  | exact gv
  | (have hz := lim_len_zero (n := x.2); with_reducible exact gend (by omega) hx.1 (val_lim _))
  | with_reducible exact gend (by omega) hy.2.2 (val_lim _)
  | exact ⟨glt (by omega), glt (by omega), hx.1⟩
  | (have h3 : x.1 % x.2 < x.2 := Nat.mod_lt _ (by have hz := lim_len_zero (n := x.2); omega); ((conv => whnf); exact ⟨(x.2, x.1 % x.2), ⟨⟨rfl, rfl, gmod, trivial⟩, ⟨rfl, trivial⟩, ⟨gcd_turn hx.1 rfl, hx.2.2, Nat.le_trans (lim_le_of_le (Nat.le_of_lt h3)) hx.2.2⟩, h3⟩⟩))
  | (have h1 := hy.1; have h2 := hy.2.1; have h3 : y.1 % y.2 < y.2 := Nat.mod_lt _ (by omega); ((conv => whnf); exact ⟨(y.2, y.1 % y.2), ⟨⟨rfl, rfl, gm2, trivial⟩, ⟨rfl, trivial⟩, ⟨by show y.2 < _; omega, by show y.1 % y.2 < _; omega, gcd_turn hy.2.2 rfl⟩, h3⟩⟩))
  | omega
  | skip⟩

instance ih_gcd (a b : Int) : DenI Tryz.prog 87 [Z a, Z b] (sz a ≤ 1000000000 ∧ sz b ≤ 1000000000) (Z ((Nat.gcd a.natAbs b.natAbs : Nat) : Int)) := ⟨fun hp => by
 refine den_of (τ := tab) tab_ok mixed_ Tryz.func87 rfl (by kernel_rfl) (by kernel_rfl) (by kernel_rfl) ?_
 repeat' ((try (conv => whnf)); first
  | refine call_0 ?_
  | refine call_i ?_ ?_
  | (with_reducible refine onB_t ?_)
  | (with_reducible refine onB_f ?_)
  | (with_reducible refine onB_d (fun _ => ?_) (fun _ => ?_))
  | (with_reducible refine onB_n (fun _ => ?_) (fun _ => ?_))
  | refine OnB.mk (fun _ => ?_) (fun _ => ?_)
  | refine obl_i ?_ ?_
  | refine Drw.mk (by kernel_rfl) ?_
  | refine mks_i ?_ ?_
  | refine slp_i ?_ ?_
  | (with_reducible refine elem_u ?_ ?_)
  | (with_reducible refine elem_0 ?_)
  | (with_reducible refine elem_1 ?_)
  | refine Ends.mk ?_)
 all_goals (try refine Pr.mk ?_)
 all_goals first
  | ((conv => whnf); refine Sw.Loop.inv (α := Nat × Nat) (fun x => [(4, .ptr 4 0), (5, .ptr 5 0), (6, .ptr 6 0)]) (fun x => [(4, .var [.v (.bool false), .sl 1 []]), (5, .var [zs (x.1 : Nat), zl (x.1 : Nat)]), (6, .var [zs (x.2 : Nat), zl (x.2 : Nat)])]) (fun x => Nat.gcd x.1 x.2 = Nat.gcd a.natAbs b.natAbs ∧ sz ((x.1 : Nat) : Int) ≤ 1000000000 ∧ sz ((x.2 : Nat) : Int) ≤ 1000000000) (fun x => x.2) (a.natAbs, b.natAbs) ?_ ?_ ?_ (fun x hx => ?_))
  | skip
 all_goals (repeat' ((try (conv => whnf)); first
  | refine call_0 ?_
  | refine call_i ?_ ?_
  | (with_reducible refine onB_t ?_)
  | (with_reducible refine onB_f ?_)
  | (with_reducible refine onB_d (fun _ => ?_) (fun _ => ?_))
  | (with_reducible refine onB_n (fun _ => ?_) (fun _ => ?_))
  | refine OnB.mk (fun _ => ?_) (fun _ => ?_)
  | refine obl_i ?_ ?_
  | refine Drw.mk (by kernel_rfl) ?_
  | refine mks_i ?_ ?_
  | refine slp_i ?_ ?_
  | (with_reducible refine elem_u ?_ ?_)
  | (with_reducible refine elem_0 ?_)
  | (with_reducible refine elem_1 ?_)
  | refine Ends.mk ?_))
 all_goals (try refine Pr.mk ?_)
 all_goals first
  | ((conv => whnf); refine Sw.Loop.inv (α := Nat × Nat) (fun y => [(4, .ptr 4 0), (7, .int .u64 (y.1 : Nat)), (9, .int .u64 (y.2 : Nat))]) (fun y => [(4, .var [.v (.bool false), .sl 1 []])]) (fun y => y.1 < 1000000000000000000 ∧ y.2 < 1000000000000000000 ∧ Nat.gcd y.1 y.2 = Nat.gcd a.natAbs b.natAbs) (fun y => y.2) x ?_ ?_ ?_ (fun y hy => ?_))
  | skip
 all_goals (repeat' ((try (conv => whnf)); first
  | refine call_0 ?_
  | refine call_i ?_ ?_
  | (with_reducible refine onB_t ?_)
  | (with_reducible refine onB_f ?_)
  | (with_reducible refine onB_d (fun _ => ?_) (fun _ => ?_))
  | (with_reducible refine onB_n (fun _ => ?_) (fun _ => ?_))
  | refine OnB.mk (fun _ => ?_) (fun _ => ?_)
  | refine obl_i ?_ ?_
  | refine Drw.mk (by kernel_rfl) ?_
  | refine mks_i ?_ ?_
  | refine slp_i ?_ ?_
  | (with_reducible refine elem_u ?_ ?_)
  | (with_reducible refine elem_0 ?_)
  | (with_reducible refine elem_1 ?_)
  | refine Ends.mk ?_))
 all_goals (try refine Pr.mk ?_)
 all_goals first | (show SubE _ _; repeat' (first | exact trivial | refine And.intro ?_ ?_)) | (show SubB _ _; repeat' (first | exact trivial | refine And.intro ?_ ?_)) | skip
 all_goals (try rfl)
 all_goals (try simp only [List.length_map] at *)
 all_goals first
  | with_reducible exact lb_lim _
  | with_reducible exact lb_pad _ _
  | exact zcells _ _ (by rw [val_lim]; rfl)
  | exact ⟨trivial, hp.1, hp.2⟩
  | exact wif (by assumption)
  | exact ⟨sz_lt18 (by assumption), sz_lt18 (by assumption), hx.1⟩
  | with_reducible exact gdiv hx.2.1 hx.2.2 (by assumption)
  | omega
  | with_reducible exact gend (gzero (by assumption)) hx.1 (val_lim _)
  | with_reducible exact gend (by omega) hy.2.2 (val_pad _ _ (by omega))
  | (have h1 := hy.1; have h2 := hy.2.1; have h3 : y.1 % y.2 < y.2 := Nat.mod_lt _ (by omega); ((conv => whnf); exact ⟨(y.2, y.1 % y.2), ⟨⟨rfl, rfl, gm2, trivial⟩, ⟨rfl, trivial⟩, ⟨by show y.2 < _; omega, by show y.1 % y.2 < _; omega, gcd_turn hy.2.2 rfl⟩, h3⟩⟩))
  | (have h0 := gpos (by assumption); have h3 : x.1 % x.2 < x.2 := Nat.mod_lt _ h0; ((conv => whnf); exact ⟨(x.2, x.1 % x.2), ⟨⟨rfl, rfl, rfl, trivial⟩, ⟨rfl, rfl, zcells _ _ (gst (by assumption)), trivial⟩, ⟨gcd_turn hx.1 rfl, hx.2.2, Nat.le_trans (sz_mono (by rw [Int.natAbs_natCast, Int.natAbs_natCast]; exact Nat.le_of_lt h3)) hx.2.2⟩, h3⟩⟩))
  | (have h0 := hx.2.1; unfold sz at h0; omega)
  | skip⟩

end Go.Proofs.YtigbdpkpaleboaaGreatDoor

namespace Go.Proofs.YtigbdpkpaleboaaGreatDoor
open Go Go.RowKit Go.Sw
set_option linter.unusedVariables false
set_option maxRecDepth 100000
set_option maxHeartbeats 8000000

end Go.Proofs.YtigbdpkpaleboaaGreatDoor

namespace Go.Proofs.YtigbdpkpaleboaaGreatDoor
open Go Go.RowKit Go.Sw
set_option linter.unusedVariables false
set_option maxRecDepth 100000
set_option maxHeartbeats 8000000
instance (k : Nat) : DenI Tryz.prog 82 [.bool false, .c (.sl 1 (List.replicate k [Cell.v (.int .u32 0)] ++ [[Cell.v (.int .u32 1)]]))] True (Z ((1000000000 ^ k : Nat) : Int)) := ⟨fun _ => by
 have h := (inferInstance : DenI Tryz.prog 82 [.bool false, .c (lmc (List.replicate k 0 ++ [1]))] _ _).den ((lb_zeros k).append (Lb.cons (by omega) Lb.nil))
 rw [sqrt_start] at h
 unfold lmc at h
 rw [List.map_append, List.map_replicate] at h
 exact h⟩
instance i_sqrt (a : Int) : DenI Tryz.prog 116 [Z a] (sz a ≤ 100000000) (.tup [Z (if a < 0 then 0 else isq a.natAbs), .int .i64 (if a < 0 then 7 else 0)]) := ⟨fun hp => by
 refine den_of (τ := tab) tab_ok mixed_ Tryz.func116 rfl (by kernel_rfl) (by kernel_rfl) (by kernel_rfl) ?_
 repeat' ((try (conv => whnf)); first
  | refine call_0 ?_
  | refine call_i ?_ ?_
  | (with_reducible refine onB_t ?_)
  | (with_reducible refine onB_f ?_)
  | (with_reducible refine onB_d (fun _ => ?_) (fun _ => ?_))
  | (with_reducible refine onB_n (fun _ => ?_) (fun _ => ?_))
  | refine OnB.mk (fun _ => ?_) (fun _ => ?_)
  | refine obl_i ?_ ?_
  | refine Drw.mk (by kernel_rfl) ?_
  | refine mks_i ?_ ?_
  | refine slp_i ?_ ?_
  | (with_reducible refine elem_u ?_ ?_)
  | (with_reducible refine elem_0 ?_)
  | (with_reducible refine elem_1 ?_)
  | refine Ends.mk ?_)
 all_goals (try refine Pr.mk ?_)
 all_goals have hl : (lim a.natAbs).length ≤ 100000000 := hp
 all_goals first
  | ((conv => whnf); refine Sw.Loop.inv (α := Nat) (fun x => [(1, .ptr 1 0), (2, .ptr 2 0), (3, .int .i64 0), (5, .ptr 5 0), (6, .ptr 6 0)]) (fun x => [(1, .var [zs a, zl a]), (2, .var [.v (.bool false), .sl 1 []]), (5, .var [zs x, zl x]), (6, .var [zs 2, zl 2])]) (fun x => 0 < x ∧ a.natAbs < (x + 1) * (x + 1) ∧ sz x ≤ 200000000) (fun x => x) (1000000000 ^ (((lim a.natAbs).length + 1) / 2)) ?_ ?_ ?_ (fun x hx => ?_))
  | skip
 all_goals (repeat' ((try (conv => whnf)); first
  | refine call_0 ?_
  | refine call_i ?_ ?_
  | (with_reducible refine onB_t ?_)
  | (with_reducible refine onB_f ?_)
  | (with_reducible refine onB_d (fun _ => ?_) (fun _ => ?_))
  | (with_reducible refine onB_n (fun _ => ?_) (fun _ => ?_))
  | refine OnB.mk (fun _ => ?_) (fun _ => ?_)
  | refine obl_i ?_ ?_
  | refine Drw.mk (by kernel_rfl) ?_
  | refine mks_i ?_ ?_
  | refine slp_i ?_ ?_
  | (with_reducible refine elem_u ?_ ?_)
  | (with_reducible refine elem_0 ?_)
  | (with_reducible refine elem_1 ?_)
  | refine Ends.mk ?_))
 all_goals (try refine Pr.mk ?_)
 all_goals first | (show SubE _ _; repeat' (first | exact trivial | refine And.intro ?_ ?_)) | (show SubB _ _; repeat' (first | exact trivial | refine And.intro ?_ ?_)) | skip
 all_goals (try rfl)
 all_goals (try simp only [sgnI_lt0, sgnI_zero, sgnI_le0, sgnI_gt0, sgnI_ge0, sgnI_eq1, cmpI_lt0, cmpI_gt0, cmpI_eq0, cmpI_le0, cmpI_ge0, cmpR_of, sgnR_of, sgnR_lt0, sgnR_eq0, sgnR_gt0, sgnR_le0, sgnR_ge0, sgnR_eq1, cmpR_lt0, cmpR_gt0, cmpR_eq0, cmpR_le0, cmpR_ge0] at *)
 all_goals (try simp only [List.length_map, val_lim, cast_len0, cast_len1] at *)
 all_goals (try rw [half_len (by omega)])
 all_goals (try simp only [Int.toNat_natCast, List.length_replicate, List.length_append, List.length_cons, List.length_nil])
 all_goals (try simp only [fdiv_nat (show 0 ≤ a by omega), fdiv_two] at *)
 all_goals first
  | exact rsq_neg (by assumption)
  | exact rsq_zero (by assumption) (by assumption)
  | with_reducible exact rsq_end (by assumption) (by assumption) (by assumption)
  | ((conv => whnf); exact ⟨(x + a.natAbs / x) / 2, ⟨⟨rfl, rfl, rfl, rfl, rfl, trivial⟩, ⟨rfl, rfl, rfl, rfl, trivial⟩, rsq_step (by assumption) (by assumption) (by assumption), by show (x + a.natAbs / x) / 2 < x; omega⟩⟩)
  | exact sqrt_facts rfl hl
  | with_reducible rfl
  | (show ld _ _ = some _; rfl)
  | (have z1 := @sz_quot a; have z2 := sz_add; have z3 := sz_one; have z4 := sz_64 (n := 2) (by omega) (by omega); (repeat' apply And.intro) <;> first | assumption | omega | decide | (simp; done) | (have z5 := z1 (x := x); have z6 := z2 x ((a.natAbs / x : Nat) : Int); omega) | skip)⟩

end Go.Proofs.YtigbdpkpaleboaaGreatDoor

namespace Go.Proofs.YtigbdpkpaleboaaGreatDoor
open Go Go.RowKit Go.Sw
set_option linter.unusedVariables false
set_option maxRecDepth 100000
set_option maxHeartbeats 8000000
instance r_unit  : DenI Tryz.prog 88 [] (True) (Z 1) := ⟨fun hp => by
 refine den_of (τ := tab) tab_ok mixed_ Tryz.func88 rfl (by kernel_rfl) (by kernel_rfl) (by kernel_rfl) ?_
 repeat' ((try (conv => whnf)); first
  | refine call_0 ?_
  | refine call_i ?_ ?_
  | (with_reducible refine onB_t ?_)
  | (with_reducible refine onB_f ?_)
  | (with_reducible refine onB_d (fun _ => ?_) (fun _ => ?_))
  | (with_reducible refine onB_n (fun _ => ?_) (fun _ => ?_))
  | refine OnB.mk (fun _ => ?_) (fun _ => ?_)
  | refine obl_i ?_ ?_
  | refine Drw.mk (by kernel_rfl) ?_
  | refine mks_i ?_ ?_
  | refine slp_i ?_ ?_
  | (with_reducible refine elem_u ?_ ?_)
  | (with_reducible refine elem_0 ?_)
  | (with_reducible refine elem_1 ?_)
  | refine Ends.mk ?_)
 all_goals (try refine Pr.mk ?_)
 all_goals first | rfl | decide⟩

instance r_whole (n : Int) : DenI Tryz.prog 84 [Z n] (True) (R (n : Rat)) := ⟨fun hp => by
 refine den_of (τ := tab) tab_ok mixed_ Tryz.func84 rfl (by kernel_rfl) (by kernel_rfl) (by kernel_rfl) ?_
 repeat' ((try (conv => whnf)); first
  | refine call_0 ?_
  | refine call_i ?_ ?_
  | (with_reducible refine onB_t ?_)
  | (with_reducible refine onB_f ?_)
  | (with_reducible refine onB_d (fun _ => ?_) (fun _ => ?_))
  | (with_reducible refine onB_n (fun _ => ?_) (fun _ => ?_))
  | refine OnB.mk (fun _ => ?_) (fun _ => ?_)
  | refine obl_i ?_ ?_
  | refine Drw.mk (by kernel_rfl) ?_
  | refine mks_i ?_ ?_
  | refine slp_i ?_ ?_
  | (with_reducible refine elem_u ?_ ?_)
  | (with_reducible refine elem_0 ?_)
  | (with_reducible refine elem_1 ?_)
  | refine Ends.mk ?_)
 all_goals (try refine Pr.mk ?_)
 rfl⟩

instance r_exact (a b : Int) : DenI Tryz.prog 89 [Z a, Z b] (sz a ≤ 1000000000 ∧ sz b ≤ 1000000000) (Z (a.fdiv b)) := ⟨fun hp => by
 refine den_of (τ := tab) tab_ok mixed_ Tryz.func89 rfl (by kernel_rfl) (by kernel_rfl) (by kernel_rfl) ?_
 repeat' ((try (conv => whnf)); first
  | refine call_0 ?_
  | refine call_i ?_ ?_
  | (with_reducible refine onB_t ?_)
  | (with_reducible refine onB_f ?_)
  | (with_reducible refine onB_d (fun _ => ?_) (fun _ => ?_))
  | (with_reducible refine onB_n (fun _ => ?_) (fun _ => ?_))
  | refine OnB.mk (fun _ => ?_) (fun _ => ?_)
  | refine obl_i ?_ ?_
  | refine Drw.mk (by kernel_rfl) ?_
  | refine mks_i ?_ ?_
  | refine slp_i ?_ ?_
  | (with_reducible refine elem_u ?_ ?_)
  | (with_reducible refine elem_0 ?_)
  | (with_reducible refine elem_1 ?_)
  | refine Ends.mk ?_)
 all_goals (try refine Pr.mk ?_)
 all_goals first | rfl | exact hp⟩

instance r_reduce (n d : Int) : DenI Tryz.prog 58 [Z n, Z d] (d ≠ 0 ∧ sz n ≤ 1000000000 ∧ sz d ≤ 1000000000) (R ((n : Rat) / d)) := ⟨fun hp => by
 refine den_of (τ := tab) tab_ok mixed_ Tryz.func58 rfl (by kernel_rfl) (by kernel_rfl) (by kernel_rfl) ?_
 repeat' ((try (conv => whnf)); first
  | refine call_0 ?_
  | refine call_i ?_ ?_
  | (with_reducible refine onB_t ?_)
  | (with_reducible refine onB_f ?_)
  | (with_reducible refine onB_d (fun _ => ?_) (fun _ => ?_))
  | (with_reducible refine onB_n (fun _ => ?_) (fun _ => ?_))
  | refine OnB.mk (fun _ => ?_) (fun _ => ?_)
  | refine obl_i ?_ ?_
  | refine Drw.mk (by kernel_rfl) ?_
  | refine mks_i ?_ ?_
  | refine slp_i ?_ ?_
  | (with_reducible refine elem_u ?_ ?_)
  | (with_reducible refine elem_0 ?_)
  | (with_reducible refine elem_1 ?_)
  | refine Ends.mk ?_)
 all_goals (try refine Pr.mk ?_)
 all_goals obtain ⟨h0, h1, h2⟩ := hp
 all_goals (try simp only [sgnI_lt0, sgnI_zero, sgnI_le0, sgnI_gt0, sgnI_ge0, sgnI_eq1, cmpI_lt0, cmpI_gt0, cmpI_eq0, cmpI_le0, cmpI_ge0, cmpR_of, sgnR_of, sgnR_lt0, sgnR_eq0, sgnR_gt0, sgnR_le0, sgnR_ge0, sgnR_eq1, cmpR_lt0, cmpR_gt0, cmpR_eq0, cmpR_le0, cmpR_ge0] at *)
 all_goals first
  | (show packA _ = _; first | (by_cases hd : d < 0; (obtain ⟨q1, q2⟩ := red_neg (n := n) (d := d) hd; first | exact packR q1 q2 | (refine packR ?_ ?_ <;> simp_all)); (obtain ⟨q1, q2⟩ := red_pos (n := n) (d := d) (by omega); first | exact packR q1 q2 | (refine packR ?_ ?_ <;> simp_all))))
  | ((try simp only [sz_neg]); (repeat' apply And.intro) <;> first | assumption | exact sz_gcd (by (try simp only [sz_neg]); assumption) (by (try simp only [sz_neg]); assumption))⟩

end Go.Proofs.YtigbdpkpaleboaaGreatDoor

namespace Go.Proofs.YtigbdpkpaleboaaGreatDoor
open Go Go.RowKit Go.Sw
set_option linter.unusedVariables false
set_option maxRecDepth 100000
set_option maxHeartbeats 8000000
instance r_from (n : Int) : DenI Tryz.prog 57 [.int .i64 n] (-9223372036854775808 ≤ n ∧ n ≤ 9223372036854775807) (R (n : Rat)) := ⟨fun hp => by
 refine den_of (τ := tab) tab_ok mixed_ Tryz.func57 rfl (by kernel_rfl) (by kernel_rfl) (by kernel_rfl) ?_
 repeat' ((try (conv => whnf)); first
  | refine call_0 ?_
  | refine call_i ?_ ?_
  | (with_reducible refine onB_t ?_)
  | (with_reducible refine onB_f ?_)
  | (with_reducible refine onB_d (fun _ => ?_) (fun _ => ?_))
  | (with_reducible refine onB_n (fun _ => ?_) (fun _ => ?_))
  | refine OnB.mk (fun _ => ?_) (fun _ => ?_)
  | refine obl_i ?_ ?_
  | refine Drw.mk (by kernel_rfl) ?_
  | refine mks_i ?_ ?_
  | refine slp_i ?_ ?_
  | (with_reducible refine elem_u ?_ ?_)
  | (with_reducible refine elem_0 ?_)
  | (with_reducible refine elem_1 ?_)
  | refine Ends.mk ?_)
 all_goals (try refine Pr.mk ?_)
 all_goals (try simp only [sgnI_lt0, sgnI_zero, sgnI_le0, sgnI_gt0, sgnI_ge0, sgnI_eq1, cmpI_lt0, cmpI_gt0, cmpI_eq0, cmpI_le0, cmpI_ge0, cmpR_of, sgnR_of, sgnR_lt0, sgnR_eq0, sgnR_gt0, sgnR_le0, sgnR_ge0, sgnR_eq1, cmpR_lt0, cmpR_gt0, cmpR_eq0, cmpR_le0, cmpR_ge0] at *)
 all_goals first
  | (show packA _ = _; rfl)
  | ((repeat' apply And.intro) <;> first | assumption | omega | exact Int.mul_ne_zero (den_ne _) (den_ne _) | exact den_ne _ | grind [sz_mul, sz_add, sz_sub, sz_neg, rz_num, rz_den, rz_add, rz_mul, rz_neg, rz_sub, rz_int, sz_64, sz_one])⟩

instance r_sign (a : Rat) : DenI Tryz.prog 52 [R a] (True) (.int .i64 (sgnR a)) := ⟨fun hp => by
 refine den_of (τ := tab) tab_ok mixed_ Tryz.func52 rfl (by kernel_rfl) (by kernel_rfl) (by kernel_rfl) ?_
 repeat' ((try (conv => whnf)); first
  | refine call_0 ?_
  | refine call_i ?_ ?_
  | (with_reducible refine onB_t ?_)
  | (with_reducible refine onB_f ?_)
  | (with_reducible refine onB_d (fun _ => ?_) (fun _ => ?_))
  | (with_reducible refine onB_n (fun _ => ?_) (fun _ => ?_))
  | refine OnB.mk (fun _ => ?_) (fun _ => ?_)
  | refine obl_i ?_ ?_
  | refine Drw.mk (by kernel_rfl) ?_
  | refine mks_i ?_ ?_
  | refine slp_i ?_ ?_
  | (with_reducible refine elem_u ?_ ?_)
  | (with_reducible refine elem_0 ?_)
  | (with_reducible refine elem_1 ?_)
  | refine Ends.mk ?_)
 all_goals (try refine Pr.mk ?_)
 all_goals (try simp only [sgnI_lt0, sgnI_zero, sgnI_le0, sgnI_gt0, sgnI_ge0, sgnI_eq1, cmpI_lt0, cmpI_gt0, cmpI_eq0, cmpI_le0, cmpI_ge0, cmpR_of, sgnR_of, sgnR_lt0, sgnR_eq0, sgnR_gt0, sgnR_le0, sgnR_ge0, sgnR_eq1, cmpR_lt0, cmpR_gt0, cmpR_eq0, cmpR_le0, cmpR_ge0] at *)
 all_goals first
  | (show packA _ = _; rfl)
  | (skip)⟩

instance r_neg (a : Rat) : DenI Tryz.prog 90 [R a] (rz a ≤ 100000000) (R (-a)) := ⟨fun hp => by
 refine den_of (τ := tab) tab_ok mixed_ Tryz.func90 rfl (by kernel_rfl) (by kernel_rfl) (by kernel_rfl) ?_
 repeat' ((try (conv => whnf)); first
  | refine call_0 ?_
  | refine call_i ?_ ?_
  | (with_reducible refine onB_t ?_)
  | (with_reducible refine onB_f ?_)
  | (with_reducible refine onB_d (fun _ => ?_) (fun _ => ?_))
  | (with_reducible refine onB_n (fun _ => ?_) (fun _ => ?_))
  | refine OnB.mk (fun _ => ?_) (fun _ => ?_)
  | refine obl_i ?_ ?_
  | refine Drw.mk (by kernel_rfl) ?_
  | refine mks_i ?_ ?_
  | refine slp_i ?_ ?_
  | (with_reducible refine elem_u ?_ ?_)
  | (with_reducible refine elem_0 ?_)
  | (with_reducible refine elem_1 ?_)
  | refine Ends.mk ?_)
 all_goals (try refine Pr.mk ?_)
 all_goals (try simp only [sgnI_lt0, sgnI_zero, sgnI_le0, sgnI_gt0, sgnI_ge0, sgnI_eq1, cmpI_lt0, cmpI_gt0, cmpI_eq0, cmpI_le0, cmpI_ge0, cmpR_of, sgnR_of, sgnR_lt0, sgnR_eq0, sgnR_gt0, sgnR_le0, sgnR_ge0, sgnR_eq1, cmpR_lt0, cmpR_gt0, cmpR_eq0, cmpR_le0, cmpR_ge0] at *)
 all_goals first
  | (show packA _ = _; rfl)
  | ((repeat' apply And.intro) <;> first | assumption | omega | exact Int.mul_ne_zero (den_ne _) (den_ne _) | exact den_ne _ | grind [sz_mul, sz_add, sz_sub, sz_neg, rz_num, rz_den, rz_add, rz_mul, rz_neg, rz_sub, rz_int, sz_64, sz_one])⟩

instance r_mul (a b : Rat) : DenI Tryz.prog 60 [R a, R b] (rz a ≤ 100000000 ∧ rz b ≤ 100000000) (R (a * b)) := ⟨fun hp => by
 refine den_of (τ := tab) tab_ok mixed_ Tryz.func60 rfl (by kernel_rfl) (by kernel_rfl) (by kernel_rfl) ?_
 repeat' ((try (conv => whnf)); first
  | refine call_0 ?_
  | refine call_i ?_ ?_
  | (with_reducible refine onB_t ?_)
  | (with_reducible refine onB_f ?_)
  | (with_reducible refine onB_d (fun _ => ?_) (fun _ => ?_))
  | (with_reducible refine onB_n (fun _ => ?_) (fun _ => ?_))
  | refine OnB.mk (fun _ => ?_) (fun _ => ?_)
  | refine obl_i ?_ ?_
  | refine Drw.mk (by kernel_rfl) ?_
  | refine mks_i ?_ ?_
  | refine slp_i ?_ ?_
  | (with_reducible refine elem_u ?_ ?_)
  | (with_reducible refine elem_0 ?_)
  | (with_reducible refine elem_1 ?_)
  | refine Ends.mk ?_)
 all_goals (try refine Pr.mk ?_)
 all_goals (try simp only [sgnI_lt0, sgnI_zero, sgnI_le0, sgnI_gt0, sgnI_ge0, sgnI_eq1, cmpI_lt0, cmpI_gt0, cmpI_eq0, cmpI_le0, cmpI_ge0, cmpR_of, sgnR_of, sgnR_lt0, sgnR_eq0, sgnR_gt0, sgnR_le0, sgnR_ge0, sgnR_eq1, cmpR_lt0, cmpR_gt0, cmpR_eq0, cmpR_le0, cmpR_ge0] at *)
 all_goals first
  | (show packA _ = _; exact congrArg R (mul_div a b))
  | ((repeat' apply And.intro) <;> first | assumption | omega | exact Int.mul_ne_zero (den_ne _) (den_ne _) | exact den_ne _ | grind [sz_mul, sz_add, sz_sub, sz_neg, rz_num, rz_den, rz_add, rz_mul, rz_neg, rz_sub, rz_int, sz_64, sz_one])⟩

instance r_add (a b : Rat) : DenI Tryz.prog 62 [R a, R b] (rz a ≤ 100000000 ∧ rz b ≤ 100000000) (R (a + b)) := ⟨fun hp => by
 refine den_of (τ := tab) tab_ok mixed_ Tryz.func62 rfl (by kernel_rfl) (by kernel_rfl) (by kernel_rfl) ?_
 repeat' ((try (conv => whnf)); first
  | refine call_0 ?_
  | refine call_i ?_ ?_
  | (with_reducible refine onB_t ?_)
  | (with_reducible refine onB_f ?_)
  | (with_reducible refine onB_d (fun _ => ?_) (fun _ => ?_))
  | (with_reducible refine onB_n (fun _ => ?_) (fun _ => ?_))
  | refine OnB.mk (fun _ => ?_) (fun _ => ?_)
  | refine obl_i ?_ ?_
  | refine Drw.mk (by kernel_rfl) ?_
  | refine mks_i ?_ ?_
  | refine slp_i ?_ ?_
  | (with_reducible refine elem_u ?_ ?_)
  | (with_reducible refine elem_0 ?_)
  | (with_reducible refine elem_1 ?_)
  | refine Ends.mk ?_)
 all_goals (try refine Pr.mk ?_)
 all_goals (try simp only [sgnI_lt0, sgnI_zero, sgnI_le0, sgnI_gt0, sgnI_ge0, sgnI_eq1, cmpI_lt0, cmpI_gt0, cmpI_eq0, cmpI_le0, cmpI_ge0, cmpR_of, sgnR_of, sgnR_lt0, sgnR_eq0, sgnR_gt0, sgnR_le0, sgnR_ge0, sgnR_eq1, cmpR_lt0, cmpR_gt0, cmpR_eq0, cmpR_le0, cmpR_ge0] at *)
 all_goals first
  | (show packA _ = _; first | exact congrArg R (add_div a b) | exact congrArg R (add_div' a b (by assumption)))
  | ((repeat' apply And.intro) <;> first | assumption | omega | exact Int.mul_ne_zero (den_ne _) (den_ne _) | exact den_ne _ | grind [sz_mul, sz_add, sz_sub, sz_neg, rz_num, rz_den, rz_add, rz_mul, rz_neg, rz_sub, rz_int, sz_64, sz_one])⟩

instance r_sub (a b : Rat) : DenI Tryz.prog 59 [R a, R b] (rz a ≤ 100000000 ∧ rz b ≤ 100000000) (R (a - b)) := ⟨fun hp => by
 refine den_of (τ := tab) tab_ok mixed_ Tryz.func59 rfl (by kernel_rfl) (by kernel_rfl) (by kernel_rfl) ?_
 repeat' ((try (conv => whnf)); first
  | refine call_0 ?_
  | refine call_i ?_ ?_
  | (with_reducible refine onB_t ?_)
  | (with_reducible refine onB_f ?_)
  | (with_reducible refine onB_d (fun _ => ?_) (fun _ => ?_))
  | (with_reducible refine onB_n (fun _ => ?_) (fun _ => ?_))
  | refine OnB.mk (fun _ => ?_) (fun _ => ?_)
  | refine obl_i ?_ ?_
  | refine Drw.mk (by kernel_rfl) ?_
  | refine mks_i ?_ ?_
  | refine slp_i ?_ ?_
  | (with_reducible refine elem_u ?_ ?_)
  | (with_reducible refine elem_0 ?_)
  | (with_reducible refine elem_1 ?_)
  | refine Ends.mk ?_)
 all_goals (try refine Pr.mk ?_)
 all_goals (try simp only [sgnI_lt0, sgnI_zero, sgnI_le0, sgnI_gt0, sgnI_ge0, sgnI_eq1, cmpI_lt0, cmpI_gt0, cmpI_eq0, cmpI_le0, cmpI_ge0, cmpR_of, sgnR_of, sgnR_lt0, sgnR_eq0, sgnR_gt0, sgnR_le0, sgnR_ge0, sgnR_eq1, cmpR_lt0, cmpR_gt0, cmpR_eq0, cmpR_le0, cmpR_ge0] at *)
 all_goals first
  | (show packA _ = _; exact congrArg R (Rat.sub_eq_add_neg a b).symm)
  | ((repeat' apply And.intro) <;> first | assumption | omega | exact Int.mul_ne_zero (den_ne _) (den_ne _) | exact den_ne _ | grind [sz_mul, sz_add, sz_sub, sz_neg, rz_num, rz_den, rz_add, rz_mul, rz_neg, rz_sub, rz_int, sz_64, sz_one])⟩

end Go.Proofs.YtigbdpkpaleboaaGreatDoor

namespace Go.Proofs.YtigbdpkpaleboaaGreatDoor
open Go Go.RowKit Go.Sw
set_option linter.unusedVariables false
set_option maxRecDepth 100000
set_option maxHeartbeats 8000000
instance ri_divmod (a b : Int) : DenI Tryz.prog 98 [Z a, Z b] (sz a ≤ 500000000 ∧ sz b ≤ 500000000) (.tup [Z (a.fdiv b), Z (if b = 0 then 0 else a.fmod b), .int .i64 (if b = 0 then 6 else 0)]) := ⟨fun hp => by
 refine den_of (τ := tab) tab_ok mixed_ Tryz.func98 rfl (by kernel_rfl) (by kernel_rfl) (by kernel_rfl) ?_
 repeat' ((try (conv => whnf)); first
  | refine call_0 ?_
  | refine call_i ?_ ?_
  | (with_reducible refine onB_t ?_)
  | (with_reducible refine onB_f ?_)
  | (with_reducible refine onB_d (fun _ => ?_) (fun _ => ?_))
  | (with_reducible refine onB_n (fun _ => ?_) (fun _ => ?_))
  | refine OnB.mk (fun _ => ?_) (fun _ => ?_)
  | refine obl_i ?_ ?_
  | refine Drw.mk (by kernel_rfl) ?_
  | refine mks_i ?_ ?_
  | refine slp_i ?_ ?_
  | (with_reducible refine elem_u ?_ ?_)
  | (with_reducible refine elem_0 ?_)
  | (with_reducible refine elem_1 ?_)
  | refine Ends.mk ?_)
 all_goals (try refine Pr.mk ?_)
 all_goals (try simp only [List.length_map, val_lim, cast_len0, cast_len1] at *)
 all_goals obtain ⟨h1, h2⟩ := hp
 all_goals (try simp only [sgnI_lt0, sgnI_zero, sgnI_le0, sgnI_gt0, sgnI_ge0, sgnI_eq1, cmpI_lt0, cmpI_gt0, cmpI_eq0, cmpI_le0, cmpI_ge0, cmpR_of, sgnR_of, sgnR_lt0, sgnR_eq0, sgnR_gt0, sgnR_le0, sgnR_ge0, sgnR_eq1, cmpR_lt0, cmpR_gt0, cmpR_eq0, cmpR_le0, cmpR_ge0] at *)
 all_goals first
  | (show packA _ = _; (first | (have hb0 : b = 0 := (by omega); subst hb0; exact rdm_zero a) | with_reducible exact rdm_turn (by assumption) (by assumption) (by assumption) | with_reducible exact rdm_keep (by assumption) (.inl (by omega)) | with_reducible exact rdm_keep (by assumption) (.inr (by simp_all))))
  | (have z1 := sz_sgnv (decide (a < 0) != decide (b < 0)) (a.natAbs / b.natAbs) a (Nat.div_le_self _ _); have z2 := sz_sgnv (decide (a < 0)) (a.natAbs % b.natAbs) a (Nat.mod_le _ _); have z3 := sz_one; (repeat' apply And.intro) <;> first | assumption | omega | exact CanL.lim _ | exact lb_lim _ | exact trimz_lim _ | (unfold sz at *; omega) | skip)⟩

end Go.Proofs.YtigbdpkpaleboaaGreatDoor

namespace Go.Proofs.YtigbdpkpaleboaaGreatDoor
open Go Go.RowKit Go.Sw
set_option linter.unusedVariables false
set_option maxRecDepth 100000
set_option maxHeartbeats 8000000
instance rr_unit  : DenI Tryz.prog 43 [] (True) (Z 1) := ⟨fun hp => by
 refine den_of (τ := tab) tab_ok mixed_ Tryz.func43 rfl (by kernel_rfl) (by kernel_rfl) (by kernel_rfl) ?_
 repeat' ((try (conv => whnf)); first
  | refine call_0 ?_
  | refine call_i ?_ ?_
  | (with_reducible refine onB_t ?_)
  | (with_reducible refine onB_f ?_)
  | (with_reducible refine onB_d (fun _ => ?_) (fun _ => ?_))
  | (with_reducible refine onB_n (fun _ => ?_) (fun _ => ?_))
  | refine OnB.mk (fun _ => ?_) (fun _ => ?_)
  | refine obl_i ?_ ?_
  | refine Drw.mk (by kernel_rfl) ?_
  | refine mks_i ?_ ?_
  | refine slp_i ?_ ?_
  | (with_reducible refine elem_u ?_ ?_)
  | (with_reducible refine elem_0 ?_)
  | (with_reducible refine elem_1 ?_)
  | refine Ends.mk ?_)
 all_goals (try refine Pr.mk ?_)
 all_goals first | rfl | decide⟩

instance rr_of (n d : Int) : DenI Tryz.prog 68 [Z n, Z d] (d ≠ 0 ∧ sz n ≤ 500000000 ∧ sz d ≤ 500000000) (R ((n : Rat) / d)) := ⟨fun hp => by
 refine den_of (τ := tab) tab_ok mixed_ Tryz.func68 rfl (by kernel_rfl) (by kernel_rfl) (by kernel_rfl) ?_
 repeat' ((try (conv => whnf)); first
  | refine call_0 ?_
  | refine call_i ?_ ?_
  | (with_reducible refine onB_t ?_)
  | (with_reducible refine onB_f ?_)
  | (with_reducible refine onB_d (fun _ => ?_) (fun _ => ?_))
  | (with_reducible refine onB_n (fun _ => ?_) (fun _ => ?_))
  | refine OnB.mk (fun _ => ?_) (fun _ => ?_)
  | refine obl_i ?_ ?_
  | refine Drw.mk (by kernel_rfl) ?_
  | refine mks_i ?_ ?_
  | refine slp_i ?_ ?_
  | (with_reducible refine elem_u ?_ ?_)
  | (with_reducible refine elem_0 ?_)
  | (with_reducible refine elem_1 ?_)
  | refine Ends.mk ?_)
 all_goals (try refine Pr.mk ?_)
 all_goals obtain ⟨h0, h1, h2⟩ := hp
 all_goals (try simp only [sgnI_lt0, sgnI_zero, sgnI_le0, sgnI_gt0, sgnI_ge0, sgnI_eq1, cmpI_lt0, cmpI_gt0, cmpI_eq0, cmpI_le0, cmpI_ge0, cmpR_of, sgnR_of, sgnR_lt0, sgnR_eq0, sgnR_gt0, sgnR_le0, sgnR_ge0, sgnR_eq1, cmpR_lt0, cmpR_gt0, cmpR_eq0, cmpR_le0, cmpR_ge0] at *)
 all_goals first
  | (show packA _ = _; first | (by_cases hd : d < 0; (obtain ⟨q1, q2⟩ := red_neg (n := n) (d := d) hd; first | exact packR q1 q2 | (refine packR ?_ ?_ <;> simp_all)); (obtain ⟨q1, q2⟩ := red_pos (n := n) (d := d) (by omega); first | exact packR q1 q2 | (refine packR ?_ ?_ <;> simp_all))))
  | ((try simp only [sz_neg]); (repeat' apply And.intro) <;> first | assumption | omega | exact sz_gcd (by (try simp only [sz_neg]); assumption) (by (try simp only [sz_neg]); assumption))⟩

instance rr_from (n : Int) : DenI Tryz.prog 16 [.int .i64 n] (-9223372036854775808 ≤ n ∧ n ≤ 9223372036854775807) (R (n : Rat)) := ⟨fun hp => by
 refine den_of (τ := tab) tab_ok mixed_ Tryz.func16 rfl (by kernel_rfl) (by kernel_rfl) (by kernel_rfl) ?_
 repeat' ((try (conv => whnf)); first
  | refine call_0 ?_
  | refine call_i ?_ ?_
  | (with_reducible refine onB_t ?_)
  | (with_reducible refine onB_f ?_)
  | (with_reducible refine onB_d (fun _ => ?_) (fun _ => ?_))
  | (with_reducible refine onB_n (fun _ => ?_) (fun _ => ?_))
  | refine OnB.mk (fun _ => ?_) (fun _ => ?_)
  | refine obl_i ?_ ?_
  | refine Drw.mk (by kernel_rfl) ?_
  | refine mks_i ?_ ?_
  | refine slp_i ?_ ?_
  | (with_reducible refine elem_u ?_ ?_)
  | (with_reducible refine elem_0 ?_)
  | (with_reducible refine elem_1 ?_)
  | refine Ends.mk ?_)
 all_goals (try refine Pr.mk ?_)
 all_goals (try simp only [sgnI_lt0, sgnI_zero, sgnI_le0, sgnI_gt0, sgnI_ge0, sgnI_eq1, cmpI_lt0, cmpI_gt0, cmpI_eq0, cmpI_le0, cmpI_ge0, cmpR_of, sgnR_of, sgnR_lt0, sgnR_eq0, sgnR_gt0, sgnR_le0, sgnR_ge0, sgnR_eq1, cmpR_lt0, cmpR_gt0, cmpR_eq0, cmpR_le0, cmpR_ge0] at *)
 all_goals first
  | (show packA _ = _; rfl)
  | (exact hp)⟩

instance rr_sign (a : Rat) : DenI Tryz.prog 36 [R a] (True) (.int .i64 (sgnR a)) := ⟨fun hp => by
 refine den_of (τ := tab) tab_ok mixed_ Tryz.func36 rfl (by kernel_rfl) (by kernel_rfl) (by kernel_rfl) ?_
 repeat' ((try (conv => whnf)); first
  | refine call_0 ?_
  | refine call_i ?_ ?_
  | (with_reducible refine onB_t ?_)
  | (with_reducible refine onB_f ?_)
  | (with_reducible refine onB_d (fun _ => ?_) (fun _ => ?_))
  | (with_reducible refine onB_n (fun _ => ?_) (fun _ => ?_))
  | refine OnB.mk (fun _ => ?_) (fun _ => ?_)
  | refine obl_i ?_ ?_
  | refine Drw.mk (by kernel_rfl) ?_
  | refine mks_i ?_ ?_
  | refine slp_i ?_ ?_
  | (with_reducible refine elem_u ?_ ?_)
  | (with_reducible refine elem_0 ?_)
  | (with_reducible refine elem_1 ?_)
  | refine Ends.mk ?_)
 all_goals (try refine Pr.mk ?_)
 all_goals (try simp only [sgnI_lt0, sgnI_zero, sgnI_le0, sgnI_gt0, sgnI_ge0, sgnI_eq1, cmpI_lt0, cmpI_gt0, cmpI_eq0, cmpI_le0, cmpI_ge0, cmpR_of, sgnR_of, sgnR_lt0, sgnR_eq0, sgnR_gt0, sgnR_le0, sgnR_ge0, sgnR_eq1, cmpR_lt0, cmpR_gt0, cmpR_eq0, cmpR_le0, cmpR_ge0] at *)
 all_goals first
  | (show packA _ = _; rfl)
  | (skip)⟩

instance rr_neg (a : Rat) : DenI Tryz.prog 125 [R a] (rz a ≤ 100000000) (R (-a)) := ⟨fun hp => by
 refine den_of (τ := tab) tab_ok mixed_ Tryz.func125 rfl (by kernel_rfl) (by kernel_rfl) (by kernel_rfl) ?_
 repeat' ((try (conv => whnf)); first
  | refine call_0 ?_
  | refine call_i ?_ ?_
  | (with_reducible refine onB_t ?_)
  | (with_reducible refine onB_f ?_)
  | (with_reducible refine onB_d (fun _ => ?_) (fun _ => ?_))
  | (with_reducible refine onB_n (fun _ => ?_) (fun _ => ?_))
  | refine OnB.mk (fun _ => ?_) (fun _ => ?_)
  | refine obl_i ?_ ?_
  | refine Drw.mk (by kernel_rfl) ?_
  | refine mks_i ?_ ?_
  | refine slp_i ?_ ?_
  | (with_reducible refine elem_u ?_ ?_)
  | (with_reducible refine elem_0 ?_)
  | (with_reducible refine elem_1 ?_)
  | refine Ends.mk ?_)
 all_goals (try refine Pr.mk ?_)
 all_goals (try simp only [sgnI_lt0, sgnI_zero, sgnI_le0, sgnI_gt0, sgnI_ge0, sgnI_eq1, cmpI_lt0, cmpI_gt0, cmpI_eq0, cmpI_le0, cmpI_ge0, cmpR_of, sgnR_of, sgnR_lt0, sgnR_eq0, sgnR_gt0, sgnR_le0, sgnR_ge0, sgnR_eq1, cmpR_lt0, cmpR_gt0, cmpR_eq0, cmpR_le0, cmpR_ge0] at *)
 all_goals first
  | (show packA _ = _; rfl)
  | ((repeat' apply And.intro) <;> first | assumption | omega | exact Int.mul_ne_zero (den_ne _) (den_ne _) | exact den_ne _ | grind [sz_mul, sz_add, sz_sub, sz_neg, rz_num, rz_den, rz_add, rz_mul, rz_neg, rz_sub, rz_int, sz_64, sz_one])⟩

instance rr_mul (a b : Rat) : DenI Tryz.prog 40 [R a, R b] (rz a ≤ 100000000 ∧ rz b ≤ 100000000) (R (a * b)) := ⟨fun hp => by
 refine den_of (τ := tab) tab_ok mixed_ Tryz.func40 rfl (by kernel_rfl) (by kernel_rfl) (by kernel_rfl) ?_
 repeat' ((try (conv => whnf)); first
  | refine call_0 ?_
  | refine call_i ?_ ?_
  | (with_reducible refine onB_t ?_)
  | (with_reducible refine onB_f ?_)
  | (with_reducible refine onB_d (fun _ => ?_) (fun _ => ?_))
  | (with_reducible refine onB_n (fun _ => ?_) (fun _ => ?_))
  | refine OnB.mk (fun _ => ?_) (fun _ => ?_)
  | refine obl_i ?_ ?_
  | refine Drw.mk (by kernel_rfl) ?_
  | refine mks_i ?_ ?_
  | refine slp_i ?_ ?_
  | (with_reducible refine elem_u ?_ ?_)
  | (with_reducible refine elem_0 ?_)
  | (with_reducible refine elem_1 ?_)
  | refine Ends.mk ?_)
 all_goals (try refine Pr.mk ?_)
 all_goals (try simp only [sgnI_lt0, sgnI_zero, sgnI_le0, sgnI_gt0, sgnI_ge0, sgnI_eq1, cmpI_lt0, cmpI_gt0, cmpI_eq0, cmpI_le0, cmpI_ge0, cmpR_of, sgnR_of, sgnR_lt0, sgnR_eq0, sgnR_gt0, sgnR_le0, sgnR_ge0, sgnR_eq1, cmpR_lt0, cmpR_gt0, cmpR_eq0, cmpR_le0, cmpR_ge0] at *)
 all_goals first
  | (show packA _ = _; exact congrArg R (mul_div a b))
  | ((repeat' apply And.intro) <;> first | assumption | omega | exact Int.mul_ne_zero (den_ne _) (den_ne _) | exact den_ne _ | grind [sz_mul, sz_add, sz_sub, sz_neg, rz_num, rz_den, rz_add, rz_mul, rz_neg, rz_sub, rz_int, sz_64, sz_one])⟩

instance rr_add (a b : Rat) : DenI Tryz.prog 39 [R a, R b] (rz a ≤ 100000000 ∧ rz b ≤ 100000000) (R (a + b)) := ⟨fun hp => by
 refine den_of (τ := tab) tab_ok mixed_ Tryz.func39 rfl (by kernel_rfl) (by kernel_rfl) (by kernel_rfl) ?_
 repeat' ((try (conv => whnf)); first
  | refine call_0 ?_
  | refine call_i ?_ ?_
  | (with_reducible refine onB_t ?_)
  | (with_reducible refine onB_f ?_)
  | (with_reducible refine onB_d (fun _ => ?_) (fun _ => ?_))
  | (with_reducible refine onB_n (fun _ => ?_) (fun _ => ?_))
  | refine OnB.mk (fun _ => ?_) (fun _ => ?_)
  | refine obl_i ?_ ?_
  | refine Drw.mk (by kernel_rfl) ?_
  | refine mks_i ?_ ?_
  | refine slp_i ?_ ?_
  | (with_reducible refine elem_u ?_ ?_)
  | (with_reducible refine elem_0 ?_)
  | (with_reducible refine elem_1 ?_)
  | refine Ends.mk ?_)
 all_goals (try refine Pr.mk ?_)
 all_goals (try simp only [sgnI_lt0, sgnI_zero, sgnI_le0, sgnI_gt0, sgnI_ge0, sgnI_eq1, cmpI_lt0, cmpI_gt0, cmpI_eq0, cmpI_le0, cmpI_ge0, cmpR_of, sgnR_of, sgnR_lt0, sgnR_eq0, sgnR_gt0, sgnR_le0, sgnR_ge0, sgnR_eq1, cmpR_lt0, cmpR_gt0, cmpR_eq0, cmpR_le0, cmpR_ge0] at *)
 all_goals first
  | (show packA _ = _; exact congrArg R (add_div a b))
  | ((repeat' apply And.intro) <;> first | assumption | omega | exact Int.mul_ne_zero (den_ne _) (den_ne _) | exact den_ne _ | grind [sz_mul, sz_add, sz_sub, sz_neg, rz_num, rz_den, rz_add, rz_mul, rz_neg, rz_sub, rz_int, sz_64, sz_one])⟩

instance rr_sub (a b : Rat) : DenI Tryz.prog 124 [R a, R b] (rz a ≤ 100000000 ∧ rz b ≤ 100000000) (R (a - b)) := ⟨fun hp => by
 refine den_of (τ := tab) tab_ok mixed_ Tryz.func124 rfl (by kernel_rfl) (by kernel_rfl) (by kernel_rfl) ?_
 repeat' ((try (conv => whnf)); first
  | refine call_0 ?_
  | refine call_i ?_ ?_
  | (with_reducible refine onB_t ?_)
  | (with_reducible refine onB_f ?_)
  | (with_reducible refine onB_d (fun _ => ?_) (fun _ => ?_))
  | (with_reducible refine onB_n (fun _ => ?_) (fun _ => ?_))
  | refine OnB.mk (fun _ => ?_) (fun _ => ?_)
  | refine obl_i ?_ ?_
  | refine Drw.mk (by kernel_rfl) ?_
  | refine mks_i ?_ ?_
  | refine slp_i ?_ ?_
  | (with_reducible refine elem_u ?_ ?_)
  | (with_reducible refine elem_0 ?_)
  | (with_reducible refine elem_1 ?_)
  | refine Ends.mk ?_)
 all_goals (try refine Pr.mk ?_)
 all_goals (try simp only [sgnI_lt0, sgnI_zero, sgnI_le0, sgnI_gt0, sgnI_ge0, sgnI_eq1, cmpI_lt0, cmpI_gt0, cmpI_eq0, cmpI_le0, cmpI_ge0, cmpR_of, sgnR_of, sgnR_lt0, sgnR_eq0, sgnR_gt0, sgnR_le0, sgnR_ge0, sgnR_eq1, cmpR_lt0, cmpR_gt0, cmpR_eq0, cmpR_le0, cmpR_ge0] at *)
 all_goals first
  | (show packA _ = _; exact congrArg R (Rat.sub_eq_add_neg a b).symm)
  | ((repeat' apply And.intro) <;> first | assumption | omega | exact Int.mul_ne_zero (den_ne _) (den_ne _) | exact den_ne _ | grind [sz_mul, sz_add, sz_sub, sz_neg, rz_num, rz_den, rz_add, rz_mul, rz_neg, rz_sub, rz_int, sz_64, sz_one])⟩

instance rr_cmp (a b : Rat) : DenI Tryz.prog 133 [R a, R b] (rz a ≤ 100000000 ∧ rz b ≤ 100000000) (.int .i64 (cmpR a b)) := ⟨fun hp => by
 refine den_of (τ := tab) tab_ok mixed_ Tryz.func133 rfl (by kernel_rfl) (by kernel_rfl) (by kernel_rfl) ?_
 repeat' ((try (conv => whnf)); first
  | refine call_0 ?_
  | refine call_i ?_ ?_
  | (with_reducible refine onB_t ?_)
  | (with_reducible refine onB_f ?_)
  | (with_reducible refine onB_d (fun _ => ?_) (fun _ => ?_))
  | (with_reducible refine onB_n (fun _ => ?_) (fun _ => ?_))
  | refine OnB.mk (fun _ => ?_) (fun _ => ?_)
  | refine obl_i ?_ ?_
  | refine Drw.mk (by kernel_rfl) ?_
  | refine mks_i ?_ ?_
  | refine slp_i ?_ ?_
  | (with_reducible refine elem_u ?_ ?_)
  | (with_reducible refine elem_0 ?_)
  | (with_reducible refine elem_1 ?_)
  | refine Ends.mk ?_)
 all_goals (try refine Pr.mk ?_)
 all_goals (try simp only [sgnI_lt0, sgnI_zero, sgnI_le0, sgnI_gt0, sgnI_ge0, sgnI_eq1, cmpI_lt0, cmpI_gt0, cmpI_eq0, cmpI_le0, cmpI_ge0, cmpR_of, sgnR_of, sgnR_lt0, sgnR_eq0, sgnR_gt0, sgnR_le0, sgnR_ge0, sgnR_eq1, cmpR_lt0, cmpR_gt0, cmpR_eq0, cmpR_le0, cmpR_ge0] at *)
 all_goals first
  | (show packA _ = _; rfl)
  | ((repeat' apply And.intro) <;> first | assumption | omega | exact Int.mul_ne_zero (den_ne _) (den_ne _) | exact den_ne _ | grind [sz_mul, sz_add, sz_sub, sz_neg, rz_num, rz_den, rz_add, rz_mul, rz_neg, rz_sub, rz_int, sz_64, sz_one])⟩

end Go.Proofs.YtigbdpkpaleboaaGreatDoor

namespace Go.Proofs.YtigbdpkpaleboaaGreatDoor
open Go Go.RowKit Go.Sw
set_option linter.unusedVariables false
set_option maxRecDepth 100000
set_option maxHeartbeats 8000000
instance ri_valid (neg : Bool) (l : List Nat) : DenI Tryz.prog 103 [Zr neg l] (l.length ≤ 9223372036854775807) (.bool (validL neg l)) := ⟨fun hp => by
 refine den_of (τ := tab) tab_ok mixed_ Tryz.func103 rfl (by kernel_rfl) (by kernel_rfl) (by kernel_rfl) ?_
 repeat' ((try (conv => whnf)); first
  | refine call_0 ?_
  | refine call_i ?_ ?_
  | (with_reducible refine onB_t ?_)
  | (with_reducible refine onB_f ?_)
  | (with_reducible refine onB_d (fun _ => ?_) (fun _ => ?_))
  | (with_reducible refine onB_n (fun _ => ?_) (fun _ => ?_))
  | refine OnB.mk (fun _ => ?_) (fun _ => ?_)
  | refine obl_i ?_ ?_
  | refine Drw.mk (by kernel_rfl) ?_
  | refine mks_i ?_ ?_
  | refine slp_i ?_ ?_
  | (with_reducible refine elem_u ?_ ?_)
  | (with_reducible refine elem_0 ?_)
  | (with_reducible refine elem_1 ?_)
  | refine Ends.mk ?_)
 all_goals (try refine Pr.mk ?_)
 all_goals first
  | ((conv => whnf); refine Sw.Loop.inv (α := Nat) (fun x => [(1, .ptr 1 0), (2, .bool false), (3, .int .i64 x)]) (fun x => [(1, .var [.v (.bool neg), lmc l])]) (fun x => x ≤ l.length ∧ ∀ j, j < x → l.getD j 0 < 1000000000) (fun x => l.length - x) 0 ?_ ?_ ?_ (fun x hx => ?_))
  | skip
 all_goals (repeat' ((try (conv => whnf)); first
  | refine call_0 ?_
  | refine call_i ?_ ?_
  | (with_reducible refine onB_t ?_)
  | (with_reducible refine onB_f ?_)
  | (with_reducible refine onB_d (fun _ => ?_) (fun _ => ?_))
  | (with_reducible refine onB_n (fun _ => ?_) (fun _ => ?_))
  | refine OnB.mk (fun _ => ?_) (fun _ => ?_)
  | refine obl_i ?_ ?_
  | refine Drw.mk (by kernel_rfl) ?_
  | refine mks_i ?_ ?_
  | refine slp_i ?_ ?_
  | (with_reducible refine elem_u ?_ ?_)
  | (with_reducible refine elem_0 ?_)
  | (with_reducible refine elem_1 ?_)
  | refine Ends.mk ?_))
 all_goals (try refine Pr.mk ?_)
 all_goals first | (show SubE _ _; repeat' (first | exact trivial | refine And.intro ?_ ?_)) | (show SubB _ _; repeat' (first | exact trivial | refine And.intro ?_ ?_)) | skip
 all_goals (try rfl)
 all_goals (try simp only [List.length_map, Int.toNat_natCast] at *)
 all_goals first
  | exact bE (rv_bad (x := x) (by omega) (by assumption))
  | (refine bE ?_; rw [rv_end hx (by assumption)]; (have hh : (trimz l).length = l.length := by omega); simp_all; done)
  | (refine bE ?_; rw [rv_end hx (by assumption)]; (have hh : ¬(trimz l).length = l.length := by omega); simp_all; done)
  | ((conv => whnf); exact ⟨x + 1, ⟨⟨rfl, rfl, inc64 (by omega), trivial⟩, ⟨rfl, trivial⟩, ⟨by omega, fun j hj => by rcases Nat.lt_succ_iff_lt_or_eq.1 hj with h | h; exact hx.2 j h; subst h; omega⟩, by show l.length - (x + 1) < l.length - x; omega⟩⟩)
  | omega
  | exact ⟨by omega, fun j hj => by omega⟩⟩

end Go.Proofs.YtigbdpkpaleboaaGreatDoor

namespace Go.Proofs.YtigbdpkpaleboaaGreatDoor
open Go Go.RowKit Go.Sw
set_option linter.unusedVariables false
set_option maxRecDepth 100000
set_option maxHeartbeats 8000000
instance rr_valid (n1 : Bool) (l1 : List Nat) (n2 : Bool) (l2 : List Nat) : DenI Tryz.prog 72 [Rr n1 l1 n2 l2] (l1.length ≤ 1000000000 ∧ l2.length ≤ 1000000000) (.bool (validR n1 l1 n2 l2)) := ⟨fun hp => by
 rcases valid_cases n1 l1 n2 l2 with h | ⟨x, rfl, rfl, h⟩ | ⟨x, y, rfl, rfl, rfl, rfl⟩
 all_goals refine den_of (τ := tab) tab_ok mixed_ Tryz.func72 rfl (by kernel_rfl) (by kernel_rfl) (by kernel_rfl) ?_
 all_goals (repeat' ((try (conv => whnf)); first
  | refine call_0 ?_
  | refine call_i ?_ ?_
  | (with_reducible refine onB_t ?_)
  | (with_reducible refine onB_f ?_)
  | (with_reducible refine onB_d (fun _ => ?_) (fun _ => ?_))
  | (with_reducible refine onB_n (fun _ => ?_) (fun _ => ?_))
  | refine OnB.mk (fun _ => ?_) (fun _ => ?_)
  | refine obl_i ?_ ?_
  | refine Drw.mk (by kernel_rfl) ?_
  | refine mks_i ?_ ?_
  | refine slp_i ?_ ?_
  | (with_reducible refine elem_u ?_ ?_)
  | (with_reducible refine elem_0 ?_)
  | (with_reducible refine elem_1 ?_)
  | refine Ends.mk ?_))
 all_goals (try refine Pr.mk ?_)
 all_goals first
  | (simp only [validL_lim] at *; exfalso; simp_all; done)
  | (exfalso; clear hp; simp at *; done)
  | (exfalso; simp_all; done)
  | (refine bE ?_; rw [validR_int]; simp_all; done)
  | exact bE (by unfold validR; simp_all)
  | exact hp
  | (first | exact Nat.le_trans hp.1 (by decide) | exact Nat.le_trans hp.2 (by decide))⟩

end Go.Proofs.YtigbdpkpaleboaaGreatDoor

namespace Go.Proofs.YtigbdpkpaleboaaGreatDoor
open Go Go.RowKit Go.Sw
set_option linter.unusedVariables false
set_option maxRecDepth 100000
set_option maxHeartbeats 8000000
instance ri_sqrt (a : Int) : DenI Tryz.prog 93 [Z a] (sz a ≤ 100000000) (.tup [Z (if a < 0 then 0 else isq a.natAbs), .int .i64 (if a < 0 then 7 else 0)]) := ⟨fun hp => by
 refine den_of (τ := tab) tab_ok mixed_ Tryz.func93 rfl (by kernel_rfl) (by kernel_rfl) (by kernel_rfl) ?_
 repeat' ((try (conv => whnf)); first
  | refine call_0 ?_
  | refine call_i ?_ ?_
  | (with_reducible refine onB_t ?_)
  | (with_reducible refine onB_f ?_)
  | (with_reducible refine onB_d (fun _ => ?_) (fun _ => ?_))
  | (with_reducible refine onB_n (fun _ => ?_) (fun _ => ?_))
  | refine OnB.mk (fun _ => ?_) (fun _ => ?_)
  | refine obl_i ?_ ?_
  | refine Drw.mk (by kernel_rfl) ?_
  | refine mks_i ?_ ?_
  | refine slp_i ?_ ?_
  | (with_reducible refine elem_u ?_ ?_)
  | (with_reducible refine elem_0 ?_)
  | (with_reducible refine elem_1 ?_)
  | refine Ends.mk ?_)
 all_goals (try refine Pr.mk ?_)
 all_goals have hl : (lim a.natAbs).length ≤ 100000000 := hp
 all_goals first
  | ((conv => whnf); refine Sw.Loop.inv (α := Nat) (fun x => [(1, .ptr 1 0), (2, .ptr 2 0), (3, .int .i64 0), (4, .ptr 4 0), (5, .ptr 5 0)]) (fun x => [(1, .var [zs a, zl a]), (2, .var [.v (.bool false), .sl 1 []]), (4, .var [zs x, zl x]), (5, .var [zs 2, zl 2])]) (fun x => 0 < x ∧ a.natAbs < (x + 1) * (x + 1) ∧ sz x ≤ 200000000) (fun x => x) (1000000000 ^ (((lim a.natAbs).length + 1) / 2)) ?_ ?_ ?_ (fun x hx => ?_))
  | skip
 all_goals (repeat' ((try (conv => whnf)); first
  | refine call_0 ?_
  | refine call_i ?_ ?_
  | (with_reducible refine onB_t ?_)
  | (with_reducible refine onB_f ?_)
  | (with_reducible refine onB_d (fun _ => ?_) (fun _ => ?_))
  | (with_reducible refine onB_n (fun _ => ?_) (fun _ => ?_))
  | refine OnB.mk (fun _ => ?_) (fun _ => ?_)
  | refine obl_i ?_ ?_
  | refine Drw.mk (by kernel_rfl) ?_
  | refine mks_i ?_ ?_
  | refine slp_i ?_ ?_
  | (with_reducible refine elem_u ?_ ?_)
  | (with_reducible refine elem_0 ?_)
  | (with_reducible refine elem_1 ?_)
  | refine Ends.mk ?_))
 all_goals (try refine Pr.mk ?_)
 all_goals first | (show SubE _ _; repeat' (first | exact trivial | refine And.intro ?_ ?_)) | (show SubB _ _; repeat' (first | exact trivial | refine And.intro ?_ ?_)) | skip
 all_goals (try rfl)
 all_goals (try simp only [sgnI_lt0, sgnI_zero, sgnI_le0, sgnI_gt0, sgnI_ge0, sgnI_eq1, cmpI_lt0, cmpI_gt0, cmpI_eq0, cmpI_le0, cmpI_ge0, cmpR_of, sgnR_of, sgnR_lt0, sgnR_eq0, sgnR_gt0, sgnR_le0, sgnR_ge0, sgnR_eq1, cmpR_lt0, cmpR_gt0, cmpR_eq0, cmpR_le0, cmpR_ge0] at *)
 all_goals (try simp only [List.length_map, val_lim, cast_len0, cast_len1] at *)
 all_goals (try rw [half_len (by omega)])
 all_goals (try simp only [fdiv_nat (show 0 ≤ a by omega), fdiv_two] at *)
 all_goals first
  | exact rsq_neg (by assumption)
  | exact rsq_zero (by assumption) (by assumption)
  | with_reducible exact rsq_end (by assumption) (by assumption) (by assumption)
  | ((conv => whnf); exact ⟨(x + a.natAbs / x) / 2, ⟨⟨rfl, rfl, rfl, rfl, rfl, trivial⟩, ⟨rfl, rfl, rfl, rfl, trivial⟩, rsq_step (by assumption) (by assumption) (by assumption), by show (x + a.natAbs / x) / 2 < x; omega⟩⟩)
  | (refine (congrArg (fun c => some (Bk.var c)) ?_ : some (Bk.var _) = some (Bk.var _)); exact pow_cells _)
  | exact sqrt_facts rfl hl
  | (have z1 := @sz_quot a; have z2 := sz_add; have z3 := sz_one; have z4 := sz_64 (n := 2) (by omega) (by omega); (repeat' apply And.intro) <;> first | assumption | omega | decide | (simp only [Int.toNat_natCast, List.length_replicate, List.length_append, List.length_cons, List.length_nil]; omega) | (simp; done) | (have z5 := z1 (x := x); have z6 := z2 x ((a.natAbs / x : Nat) : Int); omega) | skip)⟩

end Go.Proofs.YtigbdpkpaleboaaGreatDoor

namespace Go.Sw
open Go
set_option linter.unusedVariables false
/-- An interval whose ends are not too great. -/
def mkI (l h : Int) : Option (Int × Int) := if -2305843009213693952 ≤ l ∧ h ≤ 2305843009213693952 then some (l, h) else none
theorem w1 {q : Int} (h0 : 0 ≤ q) (h : ¬q > 2305843009213693952) : IntKind.i64.wrap q = q := wi64 (by omega) (by omega)
theorem w2 {q : Int} (h0 : 0 ≤ q) (h : ¬q > 2305843009213693952) : IntKind.i64.wrap (q + 1) = q + 1 := wi64 (by omega) (by omega)
theorem w3 {q : Int} (h0 : 0 ≤ q) (h : ¬q > 2305843009213693952) : IntKind.i64.wrap (0 - q) = -q := by rw [wi64 (by omega) (by omega)]; omega
end Go.Sw

namespace Go.Proofs.YtigbdpkpaleboaaGreatDoor
open Go Go.RowKit Go.Sw
set_option linter.unusedVariables false
set_option maxRecDepth 100000
set_option maxHeartbeats 8000000

end Go.Proofs.YtigbdpkpaleboaaGreatDoor

namespace Go.Sw
open Go
set_option linter.unusedVariables false
def addI (a b : Int × Int) : Option (Int × Int) := mkI (a.1 + b.1) (a.2 + b.2)
end Go.Sw

namespace Go.Proofs.YtigbdpkpaleboaaGreatDoor
open Go Go.RowKit Go.Sw
set_option linter.unusedVariables false
set_option maxRecDepth 100000
set_option maxHeartbeats 8000000

end Go.Proofs.YtigbdpkpaleboaaGreatDoor
