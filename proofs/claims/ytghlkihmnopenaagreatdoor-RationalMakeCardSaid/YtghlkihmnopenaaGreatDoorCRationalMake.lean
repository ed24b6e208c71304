/-
  Plain laws of fractions: raw integers, the simplest number in its law.
  What the functions swarflaw02.RationalMake answer, each out of its text by the abstract run.
  Make, FromInt64 and Frac give numbers in lowest terms, or ErrZero: the law returns true for every two integers and two numbers.
  Conditions: none.
-/
import Derived.Test.YtghlkihmnopenaaGreatDoorM10
set_option linter.all false
namespace Go.Sw
open Go
set_option linter.unusedVariables false
theorem zr_cases (k : Int) (neg : Bool) (l : List Nat) : (decide ((l.length : Int) ≤ k) && validL neg l) = false ∨ ∃ a : Int, neg = decide (a < 0) ∧ l = lim a.natAbs ∧ sz a ≤ k.toNat ∧ (decide (((lim a.natAbs).length : Int) ≤ k) && validL (decide (a < 0)) (lim a.natAbs)) = true := by
  cases h : (decide ((l.length : Int) ≤ k) && validL neg l) with
  | false => exact .inl rfl
  | true =>
    right
    have h' := h
    simp only [Bool.and_eq_true, decide_eq_true_eq] at h'
    obtain ⟨a, rfl, rfl⟩ := validL_ex h'.2
    refine ⟨a, rfl, rfl, ?_, h⟩
    unfold sz; omega
/-! ### The simplest number -/
theorem red_le {n d : Int} (hd : 0 < d) : ((n : Rat) / d).num.natAbs ≤ n.natAbs ∧ ((n : Rat) / d).den ≤ d.natAbs := by
  obtain ⟨h1, h2⟩ := red_pos (n := n) hd
  have hg : 0 < Nat.gcd n.natAbs d.natAbs := Nat.gcd_pos_of_pos_right _ (by omega)
  have k1 : (((n : Rat) / d).num).natAbs ≤ n.natAbs := by
    rw [h1, Int.fdiv_eq_ediv_of_nonneg _ (by omega)]
    have : (Nat.gcd n.natAbs d.natAbs : Int) ∣ n := Int.ofNat_dvd_left.2 (Nat.gcd_dvd_left _ _)
    rw [Int.natAbs_ediv_of_dvd this]
    exact Nat.div_le_self _ _
  have k2 : ((((n : Rat) / d).den : Int)).natAbs ≤ d.natAbs := by
    rw [h2, Int.fdiv_eq_ediv_of_nonneg _ (by omega)]
    have : (Nat.gcd n.natAbs d.natAbs : Int) ∣ d := Int.ofNat_dvd_left.2 (Nat.gcd_dvd_right _ _)
    rw [Int.natAbs_ediv_of_dvd this]
    exact Nat.div_le_self _ _
  exact ⟨k1, by omega⟩
theorem smp_all {a b : Rat} (h : a < b) (ha : rz a ≤ 12) (hb : rz b ≤ 12) :
    (a < smp a b ∧ smp a b < b) ∧ rz (smp a b) ≤ 2000000 ∧ ∀ y : Rat, a < y → y < b → (smp a b).den ≤ y.den ∧ (smp a b).num.natAbs ≤ y.num.natAbs := by
  unfold smp
  split
  · rename_i g
    refine ⟨g, Nat.le_trans rz_0 (by decide), fun y _ _ => ?_⟩
    have := y.den_pos
    have e1 : (0 : Rat).den = 1 := rfl
    have e2 : (0 : Rat).num = 0 := rfl
    rw [e1, e2]; exact ⟨this, Nat.zero_le _⟩
  · split
    · rename_i g1 g2
      have g3 : ¬0 < b := fun k => g1 ⟨g2, k⟩
      have p := smp_b h g3 (Nat.le_trans ha (by decide)) (Nat.le_trans hb (by decide))
      obtain ⟨M, hM, k⟩ := BT_ini p.1 p.2.1 p.2.2.1 p.2.2.2
      rw [Rat.neg_den, Rat.neg_den, Nat.add_comm] at k
      have e := btw_pos _ k
      have e2 := e.2 rfl
      refine ⟨⟨by grind, by grind⟩, by rw [rz_neg]; exact btw_rz k hM, fun y h1 h2 => ?_⟩
      have e3 := btw_min _ k (-y) (by grind) (fun _ => by grind)
      have e4 : 0 ≤ (btw (a.den + b.den) (-b) (-a) true).num := Rat.num_nonneg.2 (by have := p.1; have := e.1; grind)
      rw [Rat.neg_den] at e3 ⊢
      rw [Rat.neg_num] at e3 ⊢
      exact ⟨e3.1, by omega⟩
    · rename_i g1 g2
      have p := smp_c h g2 (Nat.le_trans ha (by decide)) (Nat.le_trans hb (by decide))
      obtain ⟨M, hM, k⟩ := BT_ini p.1 p.2.1 p.2.2.1 p.2.2.2
      have e := btw_pos _ k
      have e2 := e.2 rfl
      refine ⟨⟨e.1, e2⟩, btw_rz k hM, fun y h1 h2 => ?_⟩
      have e3 := btw_min _ k y h1 (fun _ => h2)
      have e4 : 0 ≤ (btw (a.den + b.den) a b true).num := Rat.num_nonneg.2 (by have := p.1; have := e.1; grind)
      exact ⟨e3.1, by omega⟩
theorem smp_loop {a b : Rat} (h : a < b) (ha : rz a ≤ 12) (hb : rz b ≤ 12) {d : Nat} (hd : 1 ≤ d) (h1 : (((d : Nat) : Int) : Rat) < (((smp a b).den : Int) : Rat))
    (h2 : (((a * (((d : Nat) : Int) : Rat)).floor + 1 : Int) : Rat) / (((d : Nat) : Int) : Rat) < b) : False := by
  obtain ⟨_, _, hm⟩ := smp_all h ha hb
  have hd0 : (0 : Rat) < (((d : Nat) : Int) : Rat) := by
    have := Rat.intCast_lt_intCast.2 (show (0 : Int) < ((d : Nat) : Int) by omega)
    simpa using this
  have hlt : a < (((a * (((d : Nat) : Int) : Rat)).floor + 1 : Int) : Rat) / (((d : Nat) : Int) : Rat) := by
    rw [Rat.lt_div_iff hd0]
    exact Rat.lt_floor_add_one _
  have k := (hm _ hlt h2).1
  have k2 := (red_le (n := (a * (((d : Nat) : Int) : Rat)).floor + 1) (d := ((d : Nat) : Int)) (by omega)).2
  have k3 := Rat.intCast_lt_intCast.1 h1
  omega
theorem smp_last {a b : Rat} (h : a < b) (ha : rz a ≤ 12) (hb : rz b ≤ 12) (h0 : ¬smp a b = 0)
    (h1 : a < (((smp a b).num - sgnR (smp a b) : Int) : Rat) / (((smp a b).den : Int) : Rat)) (h2 : (((smp a b).num - sgnR (smp a b) : Int) : Rat) / (((smp a b).den : Int) : Rat) < b) : False := by
  obtain ⟨_, _, hm⟩ := smp_all h ha hb
  have k := (hm _ h1 h2).2
  have k2 := (red_le (n := (smp a b).num - sgnR (smp a b)) (d := ((smp a b).den : Int)) (den_pos _)).1
  have k3 := num_nz h0
  have e : sgnR (smp a b) = if (smp a b).num < 0 then -1 else 1 := by
    rw [← sgnR_of]; unfold sgnI; rw [if_neg k3]
  by_cases g : (smp a b).num < 0
  · rw [if_pos g] at e; rw [e] at k k2; omega
  · rw [if_neg g] at e; rw [e] at k k2; omega
theorem smp_z {a : Rat} {d : Nat} (ha : rz a ≤ 12) (hd : 1 ≤ d ∧ d ≤ 300) : rz (((d : Nat) : Int) : Rat) ≤ 4 ∧ rz (a * (((d : Nat) : Int) : Rat)) ≤ 16 ∧ sz (a * (((d : Nat) : Int) : Rat)).floor ≤ 16 ∧ sz 1 ≤ 1 ∧ sz ((a * (((d : Nat) : Int) : Rat)).floor + 1) ≤ 20 ∧ sz ((d : Nat) : Int) ≤ 3 ∧
    rz ((((a * (((d : Nat) : Int) : Rat)).floor + 1 : Int) : Rat) / (((d : Nat) : Int) : Rat)) ≤ 24 := by
  have h1 : rz (((d : Nat) : Int) : Rat) ≤ 4 := rz_i _ (by omega) (by omega)
  have h2 := rz_mul a (((d : Nat) : Int) : Rat)
  have h3 := sz_floor (a * (((d : Nat) : Int) : Rat))
  have h4 := sz_add (a * (((d : Nat) : Int) : Rat)).floor 1
  have h5 := sz_one
  have h6 : sz ((d : Nat) : Int) ≤ 3 := sz_64 (by omega) (by omega)
  have h7 := rz_red (n := (a * (((d : Nat) : Int) : Rat)).floor + 1) (d := ((d : Nat) : Int)) (by omega)
  refine ⟨h1, by omega, by omega, h5, by omega, h6, by omega⟩
theorem smp_w {x : Rat} (h : rz x ≤ 2000000) : (-1 ≤ sgnR x ∧ sgnR x ≤ 1) ∧ sz x.num ≤ 2000000 ∧ sz (sgnR x) ≤ 3 ∧ sz (x.num - sgnR x) ≤ 2000010 ∧ sz (x.den : Int) ≤ 2000000 ∧
    rz ((((x.num - sgnR x : Int)) : Rat) / (((x.den : Int)) : Rat)) ≤ 4000010 ∧ (x.den : Int) ≠ 0 := by
  have h1 := sgnR_lim x
  have h2 := rz_num x
  have h3 := rz_den x
  have h4 : sz (sgnR x) ≤ 3 := sz_64 (by omega) (by omega)
  have h5 := sz_sub x.num (sgnR x)
  have h6 := rz_red (n := x.num - sgnR x) (d := (x.den : Int)) (den_ne x)
  refine ⟨h1, by omega, h4, by omega, by omega, by omega, den_ne x⟩
theorem nandB {P Q : Prop} [Decidable P] [Decidable Q] (h : P → Q → False) : (!(decide P && decide Q)) = true := by
  by_cases p : P
  · rw [decide_eq_true p, decide_eq_false (h p)]; rfl
  · rw [decide_eq_false p]; rfl
end Go.Sw

namespace Go.Proofs.YtghlkihmnopenaaGreatDoor
open Go Go.RowKit Go.Sw
set_option linter.unusedVariables false
set_option maxRecDepth 100000
set_option maxHeartbeats 8000000
set_option synthInstance.maxSize 4000
set_option synthInstance.maxHeartbeats 400000
instance L_make (s1 : Bool) (l1 : List Nat) (s2 : Bool) (l2 : List Nat) (x y : Int) : DenI Tryz.prog 8 [Zr s1 l1, Zr s2 l2, .agg [.v (.int .i64 x), .v (.int .i64 y)]] (-9223372036854775808 ≤ x ∧ x ≤ 9223372036854775807 ∧ -9223372036854775808 ≤ y ∧ y ≤ 9223372036854775807) (.bool true) := ⟨fun hp => by
 rcases zr_cases 6 s1 l1 with h1 | ⟨a, rfl, rfl, hz1, h1⟩ <;> rcases zr_cases 6 s2 l2 with h2 | ⟨b, rfl, rfl, hz2, h2⟩
 all_goals (try have i_a : SzB a 6 := ⟨hz1⟩)
 all_goals (try have i_b : SzB b 6 := ⟨hz2⟩)
 all_goals (try have i_ra : RzB (a : Rat) 7 := ⟨Nat.le_trans (rz_int a) (Nat.succ_le_succ hz1)⟩)
 all_goals (try have i_rb : RzB (b : Rat) 7 := ⟨Nat.le_trans (rz_int b) (Nat.succ_le_succ hz2)⟩)
 all_goals have i_x : RzB (x : Rat) 4 := ⟨rz_i x hp.1 hp.2.1⟩
 all_goals have i_xy : RzB ((x : Rat) / (y : Rat)) 6 := ⟨rz_q' x y ⟨hp.1, hp.2.1⟩ hp.2.2⟩
 all_goals refine den_of (τ := tab) tab_ok mixed_ Tryz.func8 rfl (by kernel_rfl) (by kernel_rfl) (by kernel_rfl) ?_
 all_goals (repeat' ((try (conv => whnf)); first
  | refine call_0 ?_
  | refine call_i ?_ ?_
  | refine call_c ?_ (fun _ => ?_) (fun _ => ?_)
  | (with_reducible refine onB_t ?_)
  | (with_reducible refine onB_f ?_)
  | (with_reducible refine onB_d (fun _ => ?_) (fun _ => ?_))
  | (with_reducible refine onB_n (fun _ => ?_) (fun _ => ?_))
  | refine OnB.mk (fun _ => ?_) (fun _ => ?_)
  | refine obl_i ?_ ?_
  | refine Drw.mk (by kernel_rfl) ?_
  | refine mks_i ?_ ?_
  | refine slp_i ?_ ?_
  | (with_reducible refine elem_u ?_ ?_)
  | (with_reducible refine elem_0 ?_)
  | (with_reducible refine elem_1 ?_)
  | refine Ends.mk ?_))
 all_goals (try refine Pr.mk ?_)
 all_goals (try simp only [sgnI_lt0, sgnI_zero, sgnI_le0, sgnI_gt0, sgnI_ge0, sgnI_eq1, cmpI_lt0, cmpI_gt0, cmpI_eq0, cmpI_le0, cmpI_ge0, cmpR_of, sgnR_of, sgnR_lt0, sgnR_eq0, sgnR_gt0, sgnR_le0, sgnR_ge0, sgnR_eq1, cmpR_lt0, cmpR_gt0, cmpR_eq0, cmpR_le0, cmpR_ge0] at *)
 all_goals first
  | rfl
  | trivial
  | exact hp
  | omega
  | ((repeat' apply And.intro) <;> first | exact szb (by omega) | omega)
  | ((repeat' apply And.intro) <;> first | assumption | exact rzb (by omega) | exact szb (by omega) | exact Int.mul_ne_zero (den_ne _) (den_ne _))
  | rfl
  | trivial
  | ((repeat' apply And.intro) <;> first | assumption | exact rzb (by omega) | exact szb (by omega) | exact Int.mul_ne_zero (den_ne _) (den_ne _))
  | (exfalso; exact absurd rfl (by assumption))
  | (exfalso; grind)
  | (refine bE ?_; simp_all; done)
  | (exfalso; simp_all; done)
  | skip⟩

end Go.Proofs.YtghlkihmnopenaaGreatDoor

namespace Go.Proofs.YtghlkihmnopenaaGreatDoor
open Go Go.RowKit Go.Sw Go.ChangeShapes Go.WideShapes Go.ChangeAt
set_option maxRecDepth 100000
theorem RationalMake_den : ∀ xs, FitAs [.cons (.bool) (.cons (.slice (.int .u32)) .nil), .cons (.bool) (.cons (.slice (.int .u32)) .nil), .cons (.int .i64) (.cons (.int .i64) .nil)] xs → Den Tryz.prog 8 xs (.bool true) := by
  rintro xs ⟨_, _, ⟨_, ⟨_, _, ⟨b1, rfl⟩, ⟨_, _, fl2, rfl, rfl⟩, rfl⟩, rfl⟩, ⟨_, _, ⟨_, ⟨_, _, ⟨b3, rfl⟩, ⟨_, _, fl4, rfl, rfl⟩, rfl⟩, rfl⟩, ⟨_, _, ⟨_, ⟨_, _, ⟨n5, wn5, rfl⟩, ⟨_, _, ⟨n6, wn6, rfl⟩, rfl, rfl⟩, rfl⟩, rfl⟩, rfl, rfl⟩, rfl⟩, rfl⟩
  obtain ⟨l2, zl2, yl2, rfl⟩ := fit_limbs fl2
  obtain ⟨l4, zl4, yl4, rfl⟩ := fit_limbs fl4
  have wn5 := wfI64 wn5
  have wn6 := wfI64 wn6
  simp only [List.append_nil, List.nil_append, List.cons_append]
  exact DenI.den (P := Tryz.prog) (f := 8) (by (repeat' apply And.intro) <;> first | trivial | omega)
set_option maxHeartbeats 800000 in
theorem RationalMake_lifted (os : Os) (started : os.Started) (H : Type) (enc : TypeId × Value → H) :
    ReturnsInHanded {} Tryz.checked os 8 .any (fun w args => (Rows.rationalMakeSpec.pre enc Tryz.prog Tryz.f8 [] false w args ∧ laidMetH Tryz.prog Rows.rationalMakeRow.laid w) ∧ sizedMet enc Tryz.prog Tryz.f8 (OpenSpec.ofChange Rows.rationalMakeSpec) false w args) (Rows.rationalMakeSpec.post enc Tryz.prog Tryz.f8 false true false false) := by
  refine returnsInHanded_of_change_and (C := Tryz.checked) (X := fun w _ => laidMetH Tryz.prog Rows.rationalMakeRow.laid w) (fun _ _ _ hh h => h.of_heap hh) Tryz.own started (by kernel_rfl) Tryz.func8
    (ChangeSpec.witness_shaped (enc := enc) (C := Tryz.checked) (os := os) (X := fun w _ => laidMetH Tryz.prog Rows.rationalMakeRow.laid w) false (World.laidAll Tryz.prog os Rows.rationalMakeRow.laid) #[.agg #[.bool false, .slice none 0 0], .agg #[.bool false, .slice none 0 0], .agg #[.int .i64 0, .int .i64 0]] 12 (World.laidAll_os _ _ _)
      (World.shaped_of_ZipB (by kernel_rfl) (by kernel_rfl)) (by kernel_rfl) (by kernel_rfl) (by kernel_rfl)
      (by rw [MakeChecks.laidMetH_plain _ _ _ (by kernel_rfl)]; exact laidMet_laidAll _ (by kernel_rfl) (by kernel_rfl))) ?_
  intro W base args ds gs before hval0 hW _ _ _ _
  have hW' := hW
  obtain ⟨p, q, hA0, hV, rfl, _, _⟩ := hW
  have hA : DataW.TrodAll enc Tryz.prog W 0 (fun _ => true) true Tryz.f8.params.toList args.toList ds p := hA0
  obtain ⟨rfl, rfl⟩ := trodVars_none hV
  obtain ⟨d0, d1, d2, rfl⟩ := len3 (show ds.length = 3 from trodAll_len hA)
  simp only [List.append_nil] at hW'
  have hlt : ∀ x ∈ p, x.block < W.heap.size := fun x hx => by simpa using hW'.lt x hx
  refine (law_run (Ts := [.cons (.bool) (.cons (.slice (.int .u32)) .nil), .cons (.bool) (.cons (.slice (.int .u32)) .nil), .cons (.int .i64) (.cons (.int .i64) .nil)]) (by kernel_rfl) RationalMake_den (fun j t v hj ha => hval0 j t v (by simpa using hj) (by simpa using ha)) hA).mono fun e W' he => ?_
  obtain ⟨_, rfl, rfl, hb⟩ := he
  refine ⟨_, rfl, _, _, _, [], _, [], hW', ?_, trodAll_below Tryz.laidOut hb (by kernel_rfl) hlt hA, rfl, hb.frame _, fun h => by cases h⟩
  exact trodAll_mk1 (shut_bool Tryz.underlying4 _)
theorem RationalMake_row : Rows.RationalMakeSaid :=
  OpenClaim.holds_of_wide 8 Tryz.f8 rfl rfl rfl rfl rfl rfl rfl ⟨rfl, rfl, rfl, rfl, rfl⟩ rfl rfl rfl rfl rfl (by kernel_rfl) Tryz.func8 (by kernel_rfl)
    (of_decide_eq_true (by kernel_rfl)) (by unfold Func.isWrapper; first | (rw [if_pos (by decide +kernel)]; kernel_rfl) | (rw [if_neg (by decide +kernel)]; exact ⟨rfl, rfl⟩))
    (fun os started H enc _ => RationalMake_lifted os started H enc)
theorem RationalMake_holds : Rows.RationalMakeCardSaid :=
  Claim7.holds_tied_plain_at .later [] [.data, .data, .data] true (true, "b1b54a3cdfadc512e161576f3b042f79bb56210ac94dbdacb5ba0d7036b5e27c") false RationalMake_row (fun _ h => by cases h) (by kernel_rfl) (fun _ h => by cases h) rationalMake_row_tie rfl ⟨rfl, rfl⟩ (by kernel_rfl) rfl
    (fun f fn hf hfn => by
      obtain rfl : f = 8 := Option.some.inj ((show Tryz.prog.funcNamed "swarf/swarflaw02.RationalMake" = some 8 by kernel_rfl).symm.trans hf) |>.symm
      obtain rfl : fn = Tryz.f8 := (Option.some.inj (Tryz.func8.symm.trans hfn)).symm
      exact ⟨by kernel_rfl, fun j t ht => by
        have hm : t ∈ Tryz.f8.params.toList := Array.mem_toList_iff.2 (Array.mem_of_getElem? ht)
        have hall : (Tryz.f8.params.toList.all fun u => !Tryz.prog.wantsStandIn u) = true := by kernel_rfl
        exact (show Tryz.prog.wantsStandIn t = false by simpa using List.all_eq_true.1 hall t hm)⟩)
    (by kernel_rfl)
#print axioms RationalMake_holds
end Go.Proofs.YtghlkihmnopenaaGreatDoor
