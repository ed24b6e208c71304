/-
  Plain laws of fractions: raw integers, the simplest number in its law.
  What the functions swarfref02.Between answer, each out of its text by the abstract run.
  What the functions swarflaw02.RationalSimplest answer, each out of its text by the abstract run.
  Simplest gives the simplest number between two others: the law returns true for every two fractions.
  Conditions: none.
-/
import Derived.Test.YtghlkihmnopenaaGreatDoorM10
set_option linter.all false
namespace Go.Sw
open Go
set_option linter.unusedVariables false
theorem zr_cases (k : Int) (neg : Bool) (l : List Nat) : (decide ((l.length : Int) ≤ k) && validL neg l) = false ∨ ∃ a : Int, neg = decide (a < 0) ∧ l = lim a.natAbs ∧ sz a ≤ k.toNat ∧ (decide (((lim a.natAbs).length : Int) ≤ k) && validL (decide (a < 0)) (lim a.natAbs)) = true := by
  cases h : (decide ((l.length : Int) ≤ k) && validL neg l) with
  | false => exact .inl rfl
  | true =>
    right
    have h' := h
    simp only [Bool.and_eq_true, decide_eq_true_eq] at h'
    obtain ⟨a, rfl, rfl⟩ := validL_ex h'.2
    refine ⟨a, rfl, rfl, ?_, h⟩
    unfold sz; omega
/-! ### The simplest number -/
theorem red_le {n d : Int} (hd : 0 < d) : ((n : Rat) / d).num.natAbs ≤ n.natAbs ∧ ((n : Rat) / d).den ≤ d.natAbs := by
  obtain ⟨h1, h2⟩ := red_pos (n := n) hd
  have hg : 0 < Nat.gcd n.natAbs d.natAbs := Nat.gcd_pos_of_pos_right _ (by omega)
  have k1 : (((n : Rat) / d).num).natAbs ≤ n.natAbs := by
    rw [h1, Int.fdiv_eq_ediv_of_nonneg _ (by omega)]
    have : (Nat.gcd n.natAbs d.natAbs : Int) ∣ n := Int.ofNat_dvd_left.2 (Nat.gcd_dvd_left _ _)
    rw [Int.natAbs_ediv_of_dvd this]
    exact Nat.div_le_self _ _
  have k2 : ((((n : Rat) / d).den : Int)).natAbs ≤ d.natAbs := by
    rw [h2, Int.fdiv_eq_ediv_of_nonneg _ (by omega)]
    have : (Nat.gcd n.natAbs d.natAbs : Int) ∣ d := Int.ofNat_dvd_left.2 (Nat.gcd_dvd_right _ _)
    rw [Int.natAbs_ediv_of_dvd this]
    exact Nat.div_le_self _ _
  exact ⟨k1, by omega⟩
theorem smp_all {a b : Rat} (h : a < b) (ha : rz a ≤ 12) (hb : rz b ≤ 12) :
    (a < smp a b ∧ smp a b < b) ∧ rz (smp a b) ≤ 2000000 ∧ ∀ y : Rat, a < y → y < b → (smp a b).den ≤ y.den ∧ (smp a b).num.natAbs ≤ y.num.natAbs := by
  unfold smp
  split
  · rename_i g
    refine ⟨g, Nat.le_trans rz_0 (by decide), fun y _ _ => ?_⟩
    have := y.den_pos
    have e1 : (0 : Rat).den = 1 := rfl
    have e2 : (0 : Rat).num = 0 := rfl
    rw [e1, e2]; exact ⟨this, Nat.zero_le _⟩
  · split
    · rename_i g1 g2
      have g3 : ¬0 < b := fun k => g1 ⟨g2, k⟩
      have p := smp_b h g3 (Nat.le_trans ha (by decide)) (Nat.le_trans hb (by decide))
      obtain ⟨M, hM, k⟩ := BT_ini p.1 p.2.1 p.2.2.1 p.2.2.2
      rw [Rat.neg_den, Rat.neg_den, Nat.add_comm] at k
      have e := btw_pos _ k
      have e2 := e.2 rfl
      refine ⟨⟨by grind, by grind⟩, by rw [rz_neg]; exact btw_rz k hM, fun y h1 h2 => ?_⟩
      have e3 := btw_min _ k (-y) (by grind) (fun _ => by grind)
      have e4 : 0 ≤ (btw (a.den + b.den) (-b) (-a) true).num := Rat.num_nonneg.2 (by have := p.1; have := e.1; grind)
      rw [Rat.neg_den] at e3 ⊢
      rw [Rat.neg_num] at e3 ⊢
      exact ⟨e3.1, by omega⟩
    · rename_i g1 g2
      have p := smp_c h g2 (Nat.le_trans ha (by decide)) (Nat.le_trans hb (by decide))
      obtain ⟨M, hM, k⟩ := BT_ini p.1 p.2.1 p.2.2.1 p.2.2.2
      have e := btw_pos _ k
      have e2 := e.2 rfl
      refine ⟨⟨e.1, e2⟩, btw_rz k hM, fun y h1 h2 => ?_⟩
      have e3 := btw_min _ k y h1 (fun _ => h2)
      have e4 : 0 ≤ (btw (a.den + b.den) a b true).num := Rat.num_nonneg.2 (by have := p.1; have := e.1; grind)
      exact ⟨e3.1, by omega⟩
theorem smp_loop {a b : Rat} (h : a < b) (ha : rz a ≤ 12) (hb : rz b ≤ 12) {d : Nat} (hd : 1 ≤ d) (h1 : (((d : Nat) : Int) : Rat) < (((smp a b).den : Int) : Rat))
    (h2 : (((a * (((d : Nat) : Int) : Rat)).floor + 1 : Int) : Rat) / (((d : Nat) : Int) : Rat) < b) : False := by
  obtain ⟨_, _, hm⟩ := smp_all h ha hb
  have hd0 : (0 : Rat) < (((d : Nat) : Int) : Rat) := by
    have := Rat.intCast_lt_intCast.2 (show (0 : Int) < ((d : Nat) : Int) by omega)
    simpa using this
  have hlt : a < (((a * (((d : Nat) : Int) : Rat)).floor + 1 : Int) : Rat) / (((d : Nat) : Int) : Rat) := by
    rw [Rat.lt_div_iff hd0]
    exact Rat.lt_floor_add_one _
  have k := (hm _ hlt h2).1
  have k2 := (red_le (n := (a * (((d : Nat) : Int) : Rat)).floor + 1) (d := ((d : Nat) : Int)) (by omega)).2
  have k3 := Rat.intCast_lt_intCast.1 h1
  omega
theorem smp_last {a b : Rat} (h : a < b) (ha : rz a ≤ 12) (hb : rz b ≤ 12) (h0 : ¬smp a b = 0)
    (h1 : a < (((smp a b).num - sgnR (smp a b) : Int) : Rat) / (((smp a b).den : Int) : Rat)) (h2 : (((smp a b).num - sgnR (smp a b) : Int) : Rat) / (((smp a b).den : Int) : Rat) < b) : False := by
  obtain ⟨_, _, hm⟩ := smp_all h ha hb
  have k := (hm _ h1 h2).2
  have k2 := (red_le (n := (smp a b).num - sgnR (smp a b)) (d := ((smp a b).den : Int)) (den_pos _)).1
  have k3 := num_nz h0
  have e : sgnR (smp a b) = if (smp a b).num < 0 then -1 else 1 := by
    rw [← sgnR_of]; unfold sgnI; rw [if_neg k3]
  by_cases g : (smp a b).num < 0
  · rw [if_pos g] at e; rw [e] at k k2; omega
  · rw [if_neg g] at e; rw [e] at k k2; omega
theorem smp_z {a : Rat} {d : Nat} (ha : rz a ≤ 12) (hd : 1 ≤ d ∧ d ≤ 300) : rz (((d : Nat) : Int) : Rat) ≤ 4 ∧ rz (a * (((d : Nat) : Int) : Rat)) ≤ 16 ∧ sz (a * (((d : Nat) : Int) : Rat)).floor ≤ 16 ∧ sz 1 ≤ 1 ∧ sz ((a * (((d : Nat) : Int) : Rat)).floor + 1) ≤ 20 ∧ sz ((d : Nat) : Int) ≤ 3 ∧
    rz ((((a * (((d : Nat) : Int) : Rat)).floor + 1 : Int) : Rat) / (((d : Nat) : Int) : Rat)) ≤ 24 := by
  have h1 : rz (((d : Nat) : Int) : Rat) ≤ 4 := rz_i _ (by omega) (by omega)
  have h2 := rz_mul a (((d : Nat) : Int) : Rat)
  have h3 := sz_floor (a * (((d : Nat) : Int) : Rat))
  have h4 := sz_add (a * (((d : Nat) : Int) : Rat)).floor 1
  have h5 := sz_one
  have h6 : sz ((d : Nat) : Int) ≤ 3 := sz_64 (by omega) (by omega)
  have h7 := rz_red (n := (a * (((d : Nat) : Int) : Rat)).floor + 1) (d := ((d : Nat) : Int)) (by omega)
  refine ⟨h1, by omega, by omega, h5, by omega, h6, by omega⟩
theorem smp_w {x : Rat} (h : rz x ≤ 2000000) : (-1 ≤ sgnR x ∧ sgnR x ≤ 1) ∧ sz x.num ≤ 2000000 ∧ sz (sgnR x) ≤ 3 ∧ sz (x.num - sgnR x) ≤ 2000010 ∧ sz (x.den : Int) ≤ 2000000 ∧
    rz ((((x.num - sgnR x : Int)) : Rat) / (((x.den : Int)) : Rat)) ≤ 4000010 ∧ (x.den : Int) ≠ 0 := by
  have h1 := sgnR_lim x
  have h2 := rz_num x
  have h3 := rz_den x
  have h4 : sz (sgnR x) ≤ 3 := sz_64 (by omega) (by omega)
  have h5 := sz_sub x.num (sgnR x)
  have h6 := rz_red (n := x.num - sgnR x) (d := (x.den : Int)) (den_ne x)
  refine ⟨h1, by omega, h4, by omega, by omega, by omega, den_ne x⟩
theorem nandB {P Q : Prop} [Decidable P] [Decidable Q] (h : P → Q → False) : (!(decide P && decide Q)) = true := by
  by_cases p : P
  · rw [decide_eq_true p, decide_eq_false (h p)]; rfl
  · rw [decide_eq_false p]; rfl
end Go.Sw

namespace Go.Proofs.YtghlkihmnopenaaGreatDoor
open Go Go.RowKit Go.Sw
set_option linter.unusedVariables false
set_option maxRecDepth 100000
set_option maxHeartbeats 8000000
set_option synthInstance.maxSize 4000
set_option synthInstance.maxHeartbeats 400000
instance g_btw (a x b : Rat) : DenI Tryz.prog 30 [R a, R x, R b] (rz a ≤ 10000000 ∧ rz x ≤ 10000000 ∧ rz b ≤ 10000000) (.bool (decide (a < x) && decide (x < b))) := ⟨fun hp => by
 have i_a : RzB a 10000000 := ⟨hp.1⟩
 have i_x : RzB x 10000000 := ⟨hp.2.1⟩
 have i_b : RzB b 10000000 := ⟨hp.2.2⟩
 all_goals refine den_of (τ := tab) tab_ok mixed_ Tryz.func30 rfl (by kernel_rfl) (by kernel_rfl) (by kernel_rfl) ?_
 all_goals (repeat' ((try (conv => whnf)); first
  | refine call_0 ?_
  | refine call_i ?_ ?_
  | refine call_c ?_ (fun _ => ?_) (fun _ => ?_)
  | (with_reducible refine onB_t ?_)
  | (with_reducible refine onB_f ?_)
  | (with_reducible refine onB_d (fun _ => ?_) (fun _ => ?_))
  | (with_reducible refine onB_n (fun _ => ?_) (fun _ => ?_))
  | refine OnB.mk (fun _ => ?_) (fun _ => ?_)
  | refine obl_i ?_ ?_
  | refine Drw.mk (by kernel_rfl) ?_
  | refine mks_i ?_ ?_
  | refine slp_i ?_ ?_
  | (with_reducible refine elem_u ?_ ?_)
  | (with_reducible refine elem_0 ?_)
  | (with_reducible refine elem_1 ?_)
  | refine Ends.mk ?_))
 all_goals (try refine Pr.mk ?_)
 all_goals (try simp only [sgnI_lt0, sgnI_zero, sgnI_le0, sgnI_gt0, sgnI_ge0, sgnI_eq1, cmpI_lt0, cmpI_gt0, cmpI_eq0, cmpI_le0, cmpI_ge0, cmpR_of, sgnR_of, sgnR_lt0, sgnR_eq0, sgnR_gt0, sgnR_le0, sgnR_ge0, sgnR_eq1, cmpR_lt0, cmpR_gt0, cmpR_eq0, cmpR_le0, cmpR_ge0] at *)
 all_goals first
  | (refine bE ?_; simp_all; done)
  | ((repeat' apply And.intro) <;> first | assumption | exact rzb (by omega) | exact szb (by omega) | exact Int.mul_ne_zero (den_ne _) (den_ne _))
  | skip⟩

end Go.Proofs.YtghlkihmnopenaaGreatDoor

namespace Go.Proofs.YtghlkihmnopenaaGreatDoor
open Go Go.RowKit Go.Sw
set_option linter.unusedVariables false
set_option maxRecDepth 100000
set_option maxHeartbeats 8000000
set_option synthInstance.maxSize 4000
set_option synthInstance.maxHeartbeats 400000
instance L_simp (p1 : Bool) (l1 : List Nat) (q1 : Bool) (m1 : List Nat) (p2 : Bool) (l2 : List Nat) (q2 : Bool) (m2 : List Nat) : DenI Tryz.prog 5 [Rr p1 l1 q1 m1, Rr p2 l2 q2 m2] (True) (.bool true) := ⟨fun hp => by
 cases hv : ((okr 6 (p1, l1, q1, m1) && (okr 6 (p2, l2, q2, m2))))
 rotate_left
 all_goals (try (simp only [Bool.and_eq_true] at hv; obtain ⟨e1, e2⟩ := hv; obtain ⟨a, rfl, rfl, rfl, rfl, hz1, h1⟩ := okr_get e1; obtain ⟨b, rfl, rfl, rfl, rfl, hz2, h2⟩ := okr_get e2; clear e1 e2))
 all_goals (try have i_a : RzB a 12 := ⟨hz1⟩)
 all_goals (try have i_b : RzB b 12 := ⟨hz2⟩)
 all_goals (try by_cases hab : a < b)
 all_goals (try have hs := smp_all hab hz1 hz2)
 all_goals (try have i_s : RzB (smp a b) 2000000 := ⟨hs.2.1⟩)
 all_goals refine den_of (τ := tab) tab_ok mixed_ Tryz.func5 rfl (by kernel_rfl) (by kernel_rfl) (by kernel_rfl) ?_
 all_goals (repeat' ((try (conv => whnf)); first
  | refine call_0 ?_
  | refine call_i ?_ ?_
  | refine call_c ?_ (fun _ => ?_) (fun _ => ?_)
  | (with_reducible refine onB_t ?_)
  | (with_reducible refine onB_f ?_)
  | (with_reducible refine onB_d (fun _ => ?_) (fun _ => ?_))
  | (with_reducible refine onB_n (fun _ => ?_) (fun _ => ?_))
  | refine OnB.mk (fun _ => ?_) (fun _ => ?_)
  | refine obl_i ?_ ?_
  | refine Drw.mk (by kernel_rfl) ?_
  | refine mks_i ?_ ?_
  | refine slp_i ?_ ?_
  | (with_reducible refine elem_u ?_ ?_)
  | (with_reducible refine elem_0 ?_)
  | (with_reducible refine elem_1 ?_)
  | refine Ends.mk ?_))
 all_goals (try refine Pr.mk ?_)
 all_goals first
  | ((conv => whnf); refine Sw.Loop.inv (α := Nat) (fun d => [(2, .ptr 2 0), (3, .ptr 3 0), (4, .bool false), (5, .ptr 5 0), (9, .int .i64 (d : Nat))]) (fun d => [(2, .var [zs a.num, zl a.num, zs (a.den : Int), zl (a.den : Int)]), (3, .var [zs b.num, zl b.num, zs (b.den : Int), zl (b.den : Int)]), (5, .var [zs (smp a b).num, zl (smp a b).num, zs ((smp a b).den : Int), zl ((smp a b).den : Int)])]) (fun d => 1 ≤ d ∧ d ≤ 300) (fun d => 300 - d) 1 ?_ ?_ ?_ (fun d hd => ?_))
  | skip
 all_goals (repeat' ((try (conv => whnf)); first
  | refine call_0 ?_
  | refine call_i ?_ ?_
  | refine call_c ?_ (fun _ => ?_) (fun _ => ?_)
  | (with_reducible refine onB_t ?_)
  | (with_reducible refine onB_f ?_)
  | (with_reducible refine onB_d (fun _ => ?_) (fun _ => ?_))
  | (with_reducible refine onB_n (fun _ => ?_) (fun _ => ?_))
  | refine OnB.mk (fun _ => ?_) (fun _ => ?_)
  | refine obl_i ?_ ?_
  | refine Drw.mk (by kernel_rfl) ?_
  | refine mks_i ?_ ?_
  | refine slp_i ?_ ?_
  | (with_reducible refine elem_u ?_ ?_)
  | (with_reducible refine elem_0 ?_)
  | (with_reducible refine elem_1 ?_)
  | refine Ends.mk ?_))
 all_goals (try refine Pr.mk ?_)
 all_goals first | (show SubE _ _; repeat' (first | exact trivial | refine And.intro ?_ ?_)) | (show SubB _ _; repeat' (first | exact trivial | refine And.intro ?_ ?_)) | skip
 all_goals (try rfl)
 all_goals (try simp only [sgnI_lt0, sgnI_zero, sgnI_le0, sgnI_gt0, sgnI_ge0, sgnI_eq1, cmpI_lt0, cmpI_gt0, cmpI_eq0, cmpI_le0, cmpI_ge0, cmpR_of, sgnR_of, sgnR_lt0, sgnR_eq0, sgnR_gt0, sgnR_le0, sgnR_ge0, sgnR_eq1, cmpR_lt0, cmpR_gt0, cmpR_eq0, cmpR_le0, cmpR_ge0] at *)
 all_goals first
  | (have i1 : rz (((d : Nat) : Int) : Rat) ≤ 4 := rz_i _ (by omega) (by omega); have i2 := rz_int ((smp a b).den : Int); have i3 := rz_den (smp a b); have i4 := hs.2.1; constructor <;> omega)
  | (exfalso; exact smp_loop hab hz1 hz2 hd.1 (by assumption) (by assumption))
  | (have z := smp_z (a := a) (d := d) hz1 hd; obtain ⟨z1, z2, z3, z4, z5, z6, z7⟩ := z; (repeat' apply And.intro) <;> first | omega | (exact rzb (by omega)))
  | (have z := smp_w hs.2.1; obtain ⟨z1, z2, z3, z4, z5, z6, z7⟩ := z; (repeat' apply And.intro) <;> first | omega | (exact rzb (by omega)))
  | ((conv => whnf); exact ⟨d + 1, ⟨⟨rfl, rfl, rfl, rfl, inc64 (by omega), trivial⟩, ⟨rfl, rfl, rfl, trivial⟩, ⟨by omega, by omega⟩, by show 300 - (d + 1) < 300 - d; omega⟩⟩)
  | exact bE (nandB (smp_last hab hz1 hz2 (by assumption)))
  | omega
  | contradiction
  | exact ⟨Nat.le_trans (szb (n := (smp a b).num) (by omega)) (by decide), Nat.le_trans (szb (n := ((smp a b).den : Int)) (by omega)) (by decide)⟩
  | (exfalso; rename_i g; rw [validR_R] at g; cases g; done)
  | (exfalso; rename_i g _ _; rw [validR_R] at g; cases g; done)
  | rfl
  | trivial
  | ((repeat' apply And.intro) <;> first | assumption | exact rzb (by omega) | exact szb (by omega) | exact Int.mul_ne_zero (den_ne _) (den_ne _))
  | (exfalso; exact absurd rfl (by assumption))
  | (exfalso; grind)
  | (refine bE ?_; simp_all; done)
  | (exfalso; simp_all; done)
  | skip⟩

end Go.Proofs.YtghlkihmnopenaaGreatDoor

namespace Go.Proofs.YtghlkihmnopenaaGreatDoor
open Go Go.RowKit Go.Sw Go.ChangeShapes Go.WideShapes Go.ChangeAt
set_option maxRecDepth 100000
theorem RationalSimplest_den : ∀ xs, FitAs [.cons (.cons (.bool) (.cons (.slice (.int .u32)) .nil)) (.cons (.cons (.bool) (.cons (.slice (.int .u32)) .nil)) .nil), .cons (.cons (.bool) (.cons (.slice (.int .u32)) .nil)) (.cons (.cons (.bool) (.cons (.slice (.int .u32)) .nil)) .nil)] xs → Den Tryz.prog 5 xs (.bool true) := by
  rintro xs ⟨_, _, ⟨_, ⟨_, _, ⟨_, _, ⟨b1, rfl⟩, ⟨_, _, fl2, rfl, rfl⟩, rfl⟩, ⟨_, _, ⟨_, _, ⟨b3, rfl⟩, ⟨_, _, fl4, rfl, rfl⟩, rfl⟩, rfl, rfl⟩, rfl⟩, rfl⟩, ⟨_, _, ⟨_, ⟨_, _, ⟨_, _, ⟨b5, rfl⟩, ⟨_, _, fl6, rfl, rfl⟩, rfl⟩, ⟨_, _, ⟨_, _, ⟨b7, rfl⟩, ⟨_, _, fl8, rfl, rfl⟩, rfl⟩, rfl, rfl⟩, rfl⟩, rfl⟩, rfl, rfl⟩, rfl⟩
  obtain ⟨l2, zl2, yl2, rfl⟩ := fit_limbs fl2
  obtain ⟨l4, zl4, yl4, rfl⟩ := fit_limbs fl4
  obtain ⟨l6, zl6, yl6, rfl⟩ := fit_limbs fl6
  obtain ⟨l8, zl8, yl8, rfl⟩ := fit_limbs fl8
  simp only [List.append_nil, List.nil_append, List.cons_append]
  exact DenI.den (P := Tryz.prog) (f := 5) (by (repeat' apply And.intro) <;> first | trivial | omega)
set_option maxHeartbeats 800000 in
theorem RationalSimplest_lifted (os : Os) (started : os.Started) (H : Type) (enc : TypeId × Value → H) :
    ReturnsInHanded {} Tryz.checked os 5 .any (fun w args => (Rows.rationalSimplestSpec.pre enc Tryz.prog Tryz.f5 [] false w args ∧ laidMetH Tryz.prog Rows.rationalSimplestRow.laid w) ∧ sizedMet enc Tryz.prog Tryz.f5 (OpenSpec.ofChange Rows.rationalSimplestSpec) false w args) (Rows.rationalSimplestSpec.post enc Tryz.prog Tryz.f5 false true false false) := by
  refine returnsInHanded_of_change_and (C := Tryz.checked) (X := fun w _ => laidMetH Tryz.prog Rows.rationalSimplestRow.laid w) (fun _ _ _ hh h => h.of_heap hh) Tryz.own started (by kernel_rfl) Tryz.func5
    (ChangeSpec.witness_shaped (enc := enc) (C := Tryz.checked) (os := os) (X := fun w _ => laidMetH Tryz.prog Rows.rationalSimplestRow.laid w) false (World.laidAll Tryz.prog os Rows.rationalSimplestRow.laid) #[.agg #[.bool false, .slice none 0 0, .bool false, .slice none 0 0], .agg #[.bool false, .slice none 0 0, .bool false, .slice none 0 0]] 12 (World.laidAll_os _ _ _)
      (World.shaped_of_ZipB (by kernel_rfl) (by kernel_rfl)) (by kernel_rfl) (by kernel_rfl) (by kernel_rfl)
      (by rw [MakeChecks.laidMetH_plain _ _ _ (by kernel_rfl)]; exact laidMet_laidAll _ (by kernel_rfl) (by kernel_rfl))) ?_
  intro W base args ds gs before hval0 hW _ _ _ _
  have hW' := hW
  obtain ⟨p, q, hA0, hV, rfl, _, _⟩ := hW
  have hA : DataW.TrodAll enc Tryz.prog W 0 (fun _ => true) true Tryz.f5.params.toList args.toList ds p := hA0
  obtain ⟨rfl, rfl⟩ := trodVars_none hV
  obtain ⟨d0, d1, rfl⟩ := len2 (show ds.length = 2 from trodAll_len hA)
  simp only [List.append_nil] at hW'
  have hlt : ∀ x ∈ p, x.block < W.heap.size := fun x hx => by simpa using hW'.lt x hx
  refine (law_run (Ts := [.cons (.cons (.bool) (.cons (.slice (.int .u32)) .nil)) (.cons (.cons (.bool) (.cons (.slice (.int .u32)) .nil)) .nil), .cons (.cons (.bool) (.cons (.slice (.int .u32)) .nil)) (.cons (.cons (.bool) (.cons (.slice (.int .u32)) .nil)) .nil)]) (by kernel_rfl) RationalSimplest_den (fun j t v hj ha => hval0 j t v (by simpa using hj) (by simpa using ha)) hA).mono fun e W' he => ?_
  obtain ⟨_, rfl, rfl, hb⟩ := he
  refine ⟨_, rfl, _, _, _, [], _, [], hW', ?_, trodAll_below Tryz.laidOut hb (by kernel_rfl) hlt hA, rfl, hb.frame _, fun h => by cases h⟩
  exact trodAll_mk1 (shut_bool Tryz.underlying4 _)
theorem RationalSimplest_row : Rows.RationalSimplestSaid :=
  OpenClaim.holds_of_wide 5 Tryz.f5 rfl rfl rfl rfl rfl rfl rfl ⟨rfl, rfl, rfl, rfl, rfl⟩ rfl rfl rfl rfl rfl (by kernel_rfl) Tryz.func5 (by kernel_rfl)
    (of_decide_eq_true (by kernel_rfl)) (by unfold Func.isWrapper; first | (rw [if_pos (by decide +kernel)]; kernel_rfl) | (rw [if_neg (by decide +kernel)]; exact ⟨rfl, rfl⟩))
    (fun os started H enc _ => RationalSimplest_lifted os started H enc)
theorem RationalSimplest_holds : Rows.RationalSimplestCardSaid :=
  Claim7.holds_tied_plain_at .later [] [.data, .data, .data] true (true, "b1b54a3cdfadc512e161576f3b042f79bb56210ac94dbdacb5ba0d7036b5e27c") false RationalSimplest_row (fun _ h => by cases h) (by kernel_rfl) (fun _ h => by cases h) rationalSimplest_row_tie rfl ⟨rfl, rfl⟩ (by kernel_rfl) rfl
    (fun f fn hf hfn => by
      obtain rfl : f = 5 := Option.some.inj ((show Tryz.prog.funcNamed "swarf/swarflaw02.RationalSimplest" = some 5 by kernel_rfl).symm.trans hf) |>.symm
      obtain rfl : fn = Tryz.f5 := (Option.some.inj (Tryz.func5.symm.trans hfn)).symm
      exact ⟨by kernel_rfl, fun j t ht => by
        have hm : t ∈ Tryz.f5.params.toList := Array.mem_toList_iff.2 (Array.mem_of_getElem? ht)
        have hall : (Tryz.f5.params.toList.all fun u => !Tryz.prog.wantsStandIn u) = true := by kernel_rfl
        exact (show Tryz.prog.wantsStandIn t = false by simpa using List.all_eq_true.1 hall t hm)⟩)
    (by kernel_rfl)
#print axioms RationalSimplest_holds
end Go.Proofs.YtghlkihmnopenaaGreatDoor
