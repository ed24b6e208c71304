/-
  Multiples of lines, and circles through three points.
  What the functions swarflaw08.SupportSame answer, each out of its text by the abstract run.
  SameLine and SameCircle tell whether lines and circles contain the same points: the law returns true for every two lines and every number.
  Conditions: none.
-/
import Derived.Test.YtkcoahciohejkaaGreatM11
set_option linter.all false
namespace Go.Sw
open Go
set_option linter.unusedVariables false
theorem sgnR_mul (a b : Rat) : sgnR (a * b) = sgnR a * sgnR b := by
  rcases sgn_cases a with ⟨a1, a2⟩ | ⟨a1, a2⟩ | ⟨a1, a2⟩ <;> rcases sgn_cases b with ⟨b1, b2⟩ | ⟨b1, b2⟩ | ⟨b1, b2⟩ <;> rw [a2, b2]
  · have := Rat.mul_pos (show 0 < -a by grind) (show 0 < -b by grind); rw [sgnR_eq1.2 (by grind)]; rfl
  · rw [sgnR_eq0.2 (by grind)]; rfl
  · have := Rat.mul_pos (show 0 < -a by grind) b1; unfold sgnR; rw [if_pos (by grind)]; rfl
  · rw [sgnR_eq0.2 (by grind)]; rfl
  · rw [sgnR_eq0.2 (by grind)]; rfl
  · rw [sgnR_eq0.2 (by grind)]; rfl
  · have := Rat.mul_pos a1 (show 0 < -b by grind); unfold sgnR; rw [if_pos (by grind)]; rfl
  · rw [sgnR_eq0.2 (by grind)]; rfl
  · rw [sgnR_eq1.2 (Rat.mul_pos a1 b1)]; rfl
theorem cmpR_scale {k x y : Rat} (h : 0 < k) : cmpR (k * x) (k * y) = cmpR x y := by
  have p : ∀ u v : Rat, u < v → k * u < k * v := fun u v h' => by
    have := Rat.mul_pos h (show 0 < v - u by grind); grind
  by_cases h1 : x < y
  · rw [cmpR_m h1, cmpR_m (p _ _ h1)]
  · by_cases h2 : y < x
    · rw [cmpR_1 h2, cmpR_1 (p _ _ h2)]
    · have : x = y := by grind
      subst this; rw [cmpR_z rfl, cmpR_z rfl]
theorem exI_scale {k A B C : Rat} (hk : k ≠ 0) : exI (k * A) (k * B) C = sgnR k * exI A B C := by
  have hkk : 0 < k * k := by
    have h1 := sq_nn k
    have : k * k ≠ 0 := fun e => by rcases Rat.mul_eq_zero.1 e with h | h <;> exact hk h
    grind
  have ks : sgnR k = 1 ∨ sgnR k = -1 := by
    rcases sgn_cases k with ⟨a1, a2⟩ | ⟨a1, a2⟩ | ⟨a1, a2⟩
    · exact .inr a2
    · exact absurd a1 hk
    · exact .inl a2
  unfold exI
  rw [sgnR_mul k A, sgnR_mul k B, show k * A * (k * A) = k * k * (A * A) by grind, show k * B * (k * B) * C = k * k * (B * B * C) by grind, cmpR_scale hkk]
  simp only [Int.mul_assoc]
  generalize sgnR B * sgnR C = t
  generalize sgnR A = u
  rcases ks with e | e <;> rw [e]
  · simp only [Int.one_mul]
  · simp only [Int.neg_mul, Int.one_mul]
    by_cases h1 : u = t ∨ t = 0
    · have h2 : -u = -t ∨ -t = 0 := by omega
      rw [if_pos h1, if_pos h2]
    · have h2 : ¬(-u = -t ∨ -t = 0) := by omega
      rw [if_neg h1, if_neg h2]
      by_cases h3 : u = 0
      · have h4 : -u = 0 := by omega
        rw [if_pos h3, if_pos h4]
      · have h4 : ¬-u = 0 := by omega
        rw [if_neg h3, if_neg h4]
section
variable (a b c d e f : Rat)
theorem sl_1 : (decide (a * e = d * b) && (decide (a * f = d * c) && decide (b * f = e * c))) = (decide (a * e = b * d) && (decide (a * f = c * d) && decide (b * f = c * e))) := by
  rw [Rat.mul_comm d b, Rat.mul_comm d c, Rat.mul_comm e c]
theorem sl_2 : (decide (d * b = a * e) && (decide (d * c = a * f) && decide (e * c = b * f))) = (decide (a * e = b * d) && (decide (a * f = c * d) && decide (b * f = c * e))) := by
  rw [Rat.mul_comm d b, Rat.mul_comm d c, Rat.mul_comm e c, decide_eq_decide.2 (eq_comm (a := b * d)), decide_eq_decide.2 (eq_comm (a := c * d)), decide_eq_decide.2 (eq_comm (a := c * e))]
end
theorem wu16n {n : Nat} (h : n ≤ 65535) : IntKind.u16.wrap ((n : Nat) : Int) = ((n : Nat) : Int) := by
  simp [IntKind.wrap, IntKind.bits, IntKind.signed]; omega
theorem sgn_n3 {n : Int} (h : n ≠ 0) : sgnR ((n : Rat) / ((3 : Int) : Rat)) = if n < 0 then -1 else 1 := by
  have e : ((n : Int) : Rat) / ((3 : Int) : Rat) = (n : Rat) * (1 / 3) := by
    have : ((3 : Int) : Rat) = 3 := by decide +kernel
    rw [this]; grind
  have p : sgnR (1 / 3) = 1 := by decide +kernel
  rw [e, sgnR_mul, p, Int.mul_one]
  by_cases h0 : n < 0
  · rw [if_pos h0]
    have : (n : Rat) < ((0 : Int) : Rat) := Rat.intCast_lt_intCast.2 h0
    have z : ((0 : Int) : Rat) = 0 := rfl
    unfold sgnR; rw [if_pos (by rw [z] at this; exact this)]
  · rw [if_neg h0]
    have : ((0 : Int) : Rat) < (n : Rat) := Rat.intCast_lt_intCast.2 (by omega)
    have z : ((0 : Int) : Rat) = 0 := rfl
    exact sgnR_eq1.2 (by rw [z] at this; exact this)
theorem n3_ne {n : Int} (h : n ≠ 0) : ((n : Rat) / ((3 : Int) : Rat)) ≠ 0 := q_ne h (by decide)
theorem side_scale {n : Int} (h : n ≠ 0) {a b c x y u v w : Rat} : exI (a * ((n : Rat) / ((3 : Int) : Rat)) * x + b * ((n : Rat) / ((3 : Int) : Rat)) * y - c * ((n : Rat) / ((3 : Int) : Rat))) (a * ((n : Rat) / ((3 : Int) : Rat)) * u + b * ((n : Rat) / ((3 : Int) : Rat)) * v) w =
    (if n < 0 then -1 else 1) * exI (a * x + b * y - c) (a * u + b * v) w := by
  rw [← sgn_n3 h, ← exI_scale (n3_ne h)]
  congr 1 <;> grind
theorem sc_m {n : Int} (h : n < 0) {a b c x y u v w : Rat} : decide (exI (a * ((n : Rat) / ((3 : Int) : Rat)) * x + b * ((n : Rat) / ((3 : Int) : Rat)) * y - c * ((n : Rat) / ((3 : Int) : Rat))) (a * ((n : Rat) / ((3 : Int) : Rat)) * u + b * ((n : Rat) / ((3 : Int) : Rat)) * v) w = IntKind.i64.wrap (-1 * exI (a * x + b * y - c) (a * u + b * v) w)) = true := by
  have z := exI_lim (a * x + b * y - c) (a * u + b * v) w
  have h0 : n ≠ 0 := by omega
  rw [wi64 (by omega) (by omega), side_scale h0, if_pos h]; exact decide_eq_true rfl
theorem sc_p {n : Int} (h0 : ¬n = 0) (h : ¬n < 0) {a b c x y u v w : Rat} : decide (exI (a * ((n : Rat) / ((3 : Int) : Rat)) * x + b * ((n : Rat) / ((3 : Int) : Rat)) * y - c * ((n : Rat) / ((3 : Int) : Rat))) (a * ((n : Rat) / ((3 : Int) : Rat)) * u + b * ((n : Rat) / ((3 : Int) : Rat)) * v) w = IntKind.i64.wrap (1 * exI (a * x + b * y - c) (a * u + b * v) w)) = true := by
  have z := exI_lim (a * x + b * y - c) (a * u + b * v) w
  rw [wi64 (by omega) (by omega), side_scale h0, if_neg h]; exact decide_eq_true rfl
theorem sl_3 {a b c t : Rat} : (decide (a * (b * t) = a * t * b) && (decide (a * (c * t) = a * t * c) && decide (b * (c * t) = b * t * c))) = true := by
  simp only [Bool.and_eq_true, decide_eq_true_eq]; refine ⟨by grind, by grind, by grind⟩
end Go.Sw

namespace Go.Proofs.YtkcoahciohejkaaGreat
open Go Go.RowKit Go.Sw
set_option linter.unusedVariables false
set_option maxRecDepth 100000
set_option maxHeartbeats 8000000
set_option synthInstance.maxSize 4000
set_option synthInstance.maxHeartbeats 400000
instance l_of_0 (ax bx ay bb : Int) (c : Nat) : DenI Tryz.prog 19 [.agg [.v (.int .i16 ax), .v (.int .i16 bx), .v (.int .i16 ay), .v (.int .i16 bb), .v (.int .u16 (IntKind.u16.wrap ((c : Nat) : Int))), .v (.int .u8 0)]] (smallI ax ∧ smallI bx ∧ smallI ay ∧ smallI bb ∧ c ≤ 65535) (Q5 (ptI ax bx ay bb c 0).ax (ptI ax bx ay bb c 0).bx (ptI ax bx ay bb c 0).ay (ptI ax bx ay bb c 0).bb (ptI ax bx ay bb c 0).c) := ⟨fun h => by
  have h5 := h.2.2.2.2
  rw [wu16n h5]
  exact (inferInstance : DenI Tryz.prog 19 [.agg [.v (.int .i16 ax), .v (.int .i16 bx), .v (.int .i16 ay), .v (.int .i16 bb), .v (.int .u16 (c : Nat)), .v (.int .u8 ((0 : Nat) : Int))]] _ _).den (by unfold smallI at *; omega)⟩
instance L_same (a b c : Int) (d : Nat) (a2 b2 c2 : Int) (d2 : Nat) (n : Int) : DenI Tryz.prog 9 [.agg [.v (.int .i16 a), .v (.int .i16 b), .v (.int .i16 c), .v (.int .u8 (d : Nat))], .agg [.v (.int .i16 a2), .v (.int .i16 b2), .v (.int .i16 c2), .v (.int .u8 (d2 : Nat))], .int .i16 n] (smallI a ∧ smallI b ∧ smallI c ∧ d ≤ 255 ∧ smallI a2 ∧ smallI b2 ∧ smallI c2 ∧ d2 ≤ 255 ∧ smallI n) (.bool true) := ⟨fun hp => by
 obtain ⟨p1, p2, p3, p4, p5, p6, p7, p8, p9⟩ := hp
 obtain ⟨ka, kb, kc, kn⟩ := lnI_ok (a := a) (b := b) (c := c) (d := d) (by assumption) (by assumption) (by assumption)
 have i_ka : RzB (lnI a b c d).a 8 := ⟨ka⟩
 have i_kb : RzB (lnI a b c d).b 8 := ⟨kb⟩
 have i_kc : RzB (lnI a b c d).c 8 := ⟨kc⟩
 obtain ⟨ja, jb, jc, jn⟩ := lnI_ok (a := a2) (b := b2) (c := c2) (d := d2) (by assumption) (by assumption) (by assumption)
 have i_ja : RzB (lnI a2 b2 c2 d2).a 8 := ⟨ja⟩
 have i_jb : RzB (lnI a2 b2 c2 d2).b 8 := ⟨jb⟩
 have i_jc : RzB (lnI a2 b2 c2 d2).c 8 := ⟨jc⟩
 obtain ⟨m1, m2, m3, m4, m5, mok⟩ := ptI_ok (ax := a2) (bx := b2) (ay := c2) (bb := a) (c := d2) (d := 0) (by assumption) (by assumption) (by assumption) (by assumption) (by omega) (by omega)
 have i_m1 : RzB (ptI a2 b2 c2 a d2 0).ax 40 := ⟨m1⟩
 have i_m2 : RzB (ptI a2 b2 c2 a d2 0).bx 40 := ⟨m2⟩
 have i_m3 : RzB (ptI a2 b2 c2 a d2 0).ay 40 := ⟨m3⟩
 have i_m4 : RzB (ptI a2 b2 c2 a d2 0).bb 40 := ⟨m4⟩
 have i_m5 : RzB (ptI a2 b2 c2 a d2 0).c 40 := ⟨m5⟩
 have i_n : RzB (((n : Int) : Rat) / ((3 : Int) : Rat)) 6 := ⟨rz_q' _ _ (by unfold smallI at *; omega) (by omega)⟩
 have ok0 : okP 0 0 0 := .inl ⟨rfl, rfl, rfl⟩
 all_goals refine den_of (τ := tab) tab_ok mixed_ Tryz.func9 rfl (by kernel_rfl) (by kernel_rfl) (by kernel_rfl) ?_
 all_goals (repeat' ((try (conv => whnf)); first
  | refine call_0 ?_
  | refine call_i ?_ ?_
  | refine call_c ?_ (fun _ => ?_) (fun _ => ?_)
  | (with_reducible refine onB_t ?_)
  | (with_reducible refine onB_f ?_)
  | (with_reducible refine onB_d (fun _ => ?_) (fun _ => ?_))
  | (with_reducible refine onB_n (fun _ => ?_) (fun _ => ?_))
  | refine OnB.mk (fun _ => ?_) (fun _ => ?_)
  | refine obl_i ?_ ?_
  | refine Drw.mk (by kernel_rfl) ?_
  | refine mks_i ?_ ?_
  | refine slp_i ?_ ?_
  | (with_reducible refine elem_u ?_ ?_)
  | (with_reducible refine elem_0 ?_)
  | (with_reducible refine elem_1 ?_)
  | refine Ends.mk ?_))
 all_goals (try refine Pr.mk ?_)
 all_goals (try simp (disch := (unfold smallI at *; omega)) only [wi64, dm8] at *)
 all_goals (try simp only [sgnI_lt0, sgnI_zero, sgnI_le0, sgnI_gt0, sgnI_ge0, sgnI_eq1, cmpI_lt0, cmpI_gt0, cmpI_eq0, cmpI_le0, cmpI_ge0, cmpR_of, sgnR_of, sgnR_lt0, sgnR_eq0, sgnR_gt0, sgnR_le0, sgnR_ge0, sgnR_eq1, cmpR_lt0, cmpR_gt0, cmpR_eq0, cmpR_le0, cmpR_ge0] at *)
 all_goals (try simp only [validR_R] at *)
 all_goals first
  | rfl
  | (unfold smallI at *; omega)
  | ((repeat' apply And.intro) <;> first | assumption | exact rzb (by omega) | exact szb (by omega))
  | (exfalso; rename (_ != _) = true => h; rw [sl_1, bne_self_eq_false] at h; exact Bool.noConfusion h)
  | (exfalso; rename (_ != _) = true => h; rw [sl_2, bne_self_eq_false] at h; exact Bool.noConfusion h)
  | (refine bE ?_; have q := sc_m (n := n) (a := (lnI a b c d).a) (b := (lnI a b c d).b) (c := (lnI a b c d).c) (x := (ptI a2 b2 c2 a d2 0).ax) (y := (ptI a2 b2 c2 a d2 0).ay) (u := (ptI a2 b2 c2 a d2 0).bx) (v := (ptI a2 b2 c2 a d2 0).bb) (w := (ptI a2 b2 c2 a d2 0).c) (by assumption); exact q)
  | (refine bE ?_; have q := sc_p (n := n) (a := (lnI a b c d).a) (b := (lnI a b c d).b) (c := (lnI a b c d).c) (x := (ptI a2 b2 c2 a d2 0).ax) (y := (ptI a2 b2 c2 a d2 0).ay) (u := (ptI a2 b2 c2 a d2 0).bx) (v := (ptI a2 b2 c2 a d2 0).bb) (w := (ptI a2 b2 c2 a d2 0).c) (by assumption) (by assumption); exact q)
  | (exfalso; rename (_ && _) = false => h; rw [sl_3] at h; exact Bool.noConfusion h)
  | (refine bE ?_; simp; done)
  | (exfalso; simp at *; done)
  | (exfalso; simp_all; done)
  | skip⟩

end Go.Proofs.YtkcoahciohejkaaGreat

namespace Go.Proofs.YtkcoahciohejkaaGreat
open Go Go.RowKit Go.Sw Go.ChangeShapes Go.WideShapes Go.ChangeAt
set_option maxRecDepth 100000
theorem SupportSame_den : ∀ xs, FitAs [.cons (.int .i16) (.cons (.int .i16) (.cons (.int .i16) (.cons (.int .u8) .nil))), .cons (.int .i16) (.cons (.int .i16) (.cons (.int .i16) (.cons (.int .u8) .nil))), .int .i16] xs → Den Tryz.prog 9 xs (.bool true) := by
  rintro xs ⟨_, _, ⟨_, ⟨_, _, ⟨n1, wn1, rfl⟩, ⟨_, _, ⟨n2, wn2, rfl⟩, ⟨_, _, ⟨n3, wn3, rfl⟩, ⟨_, _, ⟨n4, wn4, rfl⟩, rfl, rfl⟩, rfl⟩, rfl⟩, rfl⟩, rfl⟩, ⟨_, _, ⟨_, ⟨_, _, ⟨n5, wn5, rfl⟩, ⟨_, _, ⟨n6, wn6, rfl⟩, ⟨_, _, ⟨n7, wn7, rfl⟩, ⟨_, _, ⟨n8, wn8, rfl⟩, rfl, rfl⟩, rfl⟩, rfl⟩, rfl⟩, rfl⟩, ⟨_, _, ⟨_, gn9, rfl⟩, rfl, rfl⟩, rfl⟩, rfl⟩
  have wn1 := wfI16 wn1
  have wn2 := wfI16 wn2
  have wn3 := wfI16 wn3
  obtain ⟨mn4, rfl, hmn4⟩ := wfNat (by simp) wn4
  have hmn4 : mn4 < 256 := hmn4
  have wn5 := wfI16 wn5
  have wn6 := wfI16 wn6
  have wn7 := wfI16 wn7
  obtain ⟨mn8, rfl, hmn8⟩ := wfNat (by simp) wn8
  have hmn8 : mn8 < 256 := hmn8
  obtain ⟨n9, wn9, rfl⟩ := fit_int gn9
  have wn9 := wfI16 wn9
  simp only [List.append_nil, List.nil_append, List.cons_append]
  exact DenI.den (P := Tryz.prog) (f := 9) (by unfold smallI; (repeat' apply And.intro) <;> first | trivial | omega)
set_option maxHeartbeats 800000 in
theorem SupportSame_lifted (os : Os) (started : os.Started) (H : Type) (enc : TypeId × Value → H) :
    ReturnsInHanded {} Tryz.checked os 9 .any (Rows.supportSameSpec.pre6 enc Tryz.prog Tryz.f9 Rows.supportSameRow.domain false) (Rows.supportSameSpec.post enc Tryz.prog Tryz.f9 false true false false) := by
  refine returnsInHanded_of_change (C := Tryz.checked) Tryz.own started (by kernel_rfl) Tryz.func9
    (ChangeSpec.witness6 (enc := enc) (C := Tryz.checked) false ⟨#[], #[.agg #[.int .i16 0, .int .i16 0, .int .i16 0, .int .u8 0], .agg #[.int .i16 0, .int .i16 0, .int .i16 0, .int .u8 0], .int .i16 0], []⟩ 12 (by kernel_rfl) (by kernel_rfl) (by kernel_rfl) (by kernel_rfl)) ?_
  intro W base args ds gs before hval0 hW _ _
  have hW' := hW
  obtain ⟨p, q, hA0, hV, rfl, _, _⟩ := hW
  have hA : DataW.TrodAll enc Tryz.prog W 0 (fun _ => true) true Tryz.f9.params.toList args.toList ds p := hA0
  obtain ⟨rfl, rfl⟩ := trodVars_none hV
  obtain ⟨d0, d1, d2, rfl⟩ := len3 (show ds.length = 3 from trodAll_len hA)
  simp only [List.append_nil] at hW'
  have hlt : ∀ x ∈ p, x.block < W.heap.size := fun x hx => by simpa using hW'.lt x hx
  refine (law_run (Ts := [.cons (.int .i16) (.cons (.int .i16) (.cons (.int .i16) (.cons (.int .u8) .nil))), .cons (.int .i16) (.cons (.int .i16) (.cons (.int .i16) (.cons (.int .u8) .nil))), .int .i16]) (by kernel_rfl) SupportSame_den (fun j t v hj ha => hval0 j t v (by simpa using hj) (by simpa using ha)) hA).mono fun e W' he => ?_
  obtain ⟨_, rfl, rfl, hb⟩ := he
  refine ⟨_, rfl, _, _, _, [], _, [], hW', ?_, trodAll_below Tryz.laidOut hb (by kernel_rfl) hlt hA, rfl, hb.frame _, fun h => by cases h⟩
  exact trodAll_mk1 (shut_bool Tryz.underlying4 _)
theorem SupportSame_holds : Rows.SupportSameSaid :=
  OpenClaim.holds_of_wide 9 Tryz.f9 rfl rfl rfl rfl rfl rfl rfl ⟨rfl, rfl, rfl, rfl, rfl⟩ rfl rfl rfl rfl rfl (by kernel_rfl) Tryz.func9 (by kernel_rfl)
    (of_decide_eq_true (by kernel_rfl)) (by unfold Func.isWrapper; first | (rw [if_pos (by decide +kernel)]; kernel_rfl) | (rw [if_neg (by decide +kernel)]; exact ⟨rfl, rfl⟩))
    (fun os started H enc _ => SupportSame_lifted os started H enc)
#print axioms SupportSame_holds
end Go.Proofs.YtkcoahciohejkaaGreat
