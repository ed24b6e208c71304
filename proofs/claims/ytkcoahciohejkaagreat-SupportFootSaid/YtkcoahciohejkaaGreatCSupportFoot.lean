/-
  What the functions swarflaw08.SupportFoot answer, each out of its text by the abstract run.
  Foot gives the nearest point of a line: the law returns true for every line and point.
  Conditions: none.
-/
import Derived.Test.YtkcoahciohejkaaGreatM11
set_option linter.all false
namespace Go.Proofs.YtkcoahciohejkaaGreat
open Go Go.RowKit Go.Sw
set_option linter.unusedVariables false
set_option maxRecDepth 100000
set_option maxHeartbeats 8000000
set_option synthInstance.maxSize 4000
set_option synthInstance.maxHeartbeats 400000
instance L_foot (a b c : Int) (d : Nat) (x y : Int) (e : Nat) : DenI Tryz.prog 6 [.agg [.v (.int .i16 a), .v (.int .i16 b), .v (.int .i16 c), .v (.int .u8 (d : Nat))], .agg [.v (.int .i16 x), .v (.int .i16 y), .v (.int .u8 (e : Nat))]] (smallI a ∧ smallI b ∧ smallI c ∧ d ≤ 255 ∧ smallI x ∧ smallI y ∧ e ≤ 255) (.bool true) := ⟨fun hp => by
 obtain ⟨p1, p2, p3, p4, p5, p6, p7⟩ := hp
 obtain ⟨ka, kb, kc, kn⟩ := lnI_ok (a := a) (b := b) (c := c) (d := d) (by assumption) (by assumption) (by assumption)
 have i_ka : RzB (lnI a b c d).a 8 := ⟨ka⟩
 have i_kb : RzB (lnI a b c d).b 8 := ⟨kb⟩
 have i_kc : RzB (lnI a b c d).c 8 := ⟨kc⟩
 have i_a : RzB (((x : Int) : Rat) / (((e : Int) + 1 : Int) : Rat)) 6 := ⟨rz_q' _ _ (by unfold smallI at *; omega) (by omega)⟩
 have i_b : RzB (((y : Int) : Rat) / (((e : Int) + 1 : Int) : Rat)) 6 := ⟨rz_q' _ _ (by unfold smallI at *; omega) (by omega)⟩
 have ok0 : okP 0 0 0 := .inl ⟨rfl, rfl, rfl⟩
 all_goals refine den_of (τ := tab) tab_ok mixed_ Tryz.func6 rfl (by kernel_rfl) (by kernel_rfl) (by kernel_rfl) ?_
 all_goals (repeat' ((try (conv => whnf)); first
  | refine call_0 ?_
  | refine call_i ?_ ?_
  | refine call_c ?_ (fun _ => ?_) (fun _ => ?_)
  | (with_reducible refine onB_t ?_)
  | (with_reducible refine onB_f ?_)
  | (with_reducible refine onB_d (fun _ => ?_) (fun _ => ?_))
  | (with_reducible refine onB_n (fun _ => ?_) (fun _ => ?_))
  | refine OnB.mk (fun _ => ?_) (fun _ => ?_)
  | refine obl_i ?_ ?_
  | refine Drw.mk (by kernel_rfl) ?_
  | refine mks_i ?_ ?_
  | refine slp_i ?_ ?_
  | (with_reducible refine elem_u ?_ ?_)
  | (with_reducible refine elem_0 ?_)
  | (with_reducible refine elem_1 ?_)
  | refine Ends.mk ?_))
 all_goals (try refine Pr.mk ?_)
 all_goals (try simp (disch := (unfold smallI at *; omega)) only [wi64, dm8] at *)
 all_goals (try simp only [sgnI_lt0, sgnI_zero, sgnI_le0, sgnI_gt0, sgnI_ge0, sgnI_eq1, cmpI_lt0, cmpI_gt0, cmpI_eq0, cmpI_le0, cmpI_ge0, cmpR_of, sgnR_of, sgnR_lt0, sgnR_eq0, sgnR_gt0, sgnR_le0, sgnR_ge0, sgnR_eq1, cmpR_lt0, cmpR_gt0, cmpR_eq0, cmpR_le0, cmpR_ge0] at *)
 all_goals (try simp only [validR_R] at *)
 all_goals first
  | rfl
  | (unfold smallI at *; omega)
  | ((repeat' apply And.intro) <;> first | assumption | exact rzb (by omega) | exact szb (by omega))
  | (exfalso; have f1 := foot_1 (c := (lnI a b c d).c) (x := ((x : Int) : Rat) / (((e : Int) + 1 : Int) : Rat)) (y := ((y : Int) : Rat) / (((e : Int) + 1 : Int) : Rat)) kn; simp_all; done)
  | (exfalso; rename ¬exI _ _ _ = 0 => h; exact h (ex0 (foot_2 kn) (by grind)))
  | (refine bE (decide_eq_true ?_); exact foot_3)
  | (refine bE (decide_eq_true ?_); grind)
  | exact kn
  | (refine bE ?_; simp; done)
  | (exfalso; simp at *; done)
  | (exfalso; simp_all; done)
  | skip⟩

end Go.Proofs.YtkcoahciohejkaaGreat

namespace Go.Proofs.YtkcoahciohejkaaGreat
open Go Go.RowKit Go.Sw Go.ChangeShapes Go.WideShapes Go.ChangeAt
set_option maxRecDepth 100000
theorem SupportFoot_den : ∀ xs, FitAs [.cons (.int .i16) (.cons (.int .i16) (.cons (.int .i16) (.cons (.int .u8) .nil))), .cons (.int .i16) (.cons (.int .i16) (.cons (.int .u8) .nil))] xs → Den Tryz.prog 6 xs (.bool true) := by
  rintro xs ⟨_, _, ⟨_, ⟨_, _, ⟨n1, wn1, rfl⟩, ⟨_, _, ⟨n2, wn2, rfl⟩, ⟨_, _, ⟨n3, wn3, rfl⟩, ⟨_, _, ⟨n4, wn4, rfl⟩, rfl, rfl⟩, rfl⟩, rfl⟩, rfl⟩, rfl⟩, ⟨_, _, ⟨_, ⟨_, _, ⟨n5, wn5, rfl⟩, ⟨_, _, ⟨n6, wn6, rfl⟩, ⟨_, _, ⟨n7, wn7, rfl⟩, rfl, rfl⟩, rfl⟩, rfl⟩, rfl⟩, rfl, rfl⟩, rfl⟩
  have wn1 := wfI16 wn1
  have wn2 := wfI16 wn2
  have wn3 := wfI16 wn3
  obtain ⟨mn4, rfl, hmn4⟩ := wfNat (by simp) wn4
  have hmn4 : mn4 < 256 := hmn4
  have wn5 := wfI16 wn5
  have wn6 := wfI16 wn6
  obtain ⟨mn7, rfl, hmn7⟩ := wfNat (by simp) wn7
  have hmn7 : mn7 < 256 := hmn7
  simp only [List.append_nil, List.nil_append, List.cons_append]
  exact DenI.den (P := Tryz.prog) (f := 6) (by unfold smallI; (repeat' apply And.intro) <;> first | trivial | omega)
set_option maxHeartbeats 800000 in
theorem SupportFoot_lifted (os : Os) (started : os.Started) (H : Type) (enc : TypeId × Value → H) :
    ReturnsInHanded {} Tryz.checked os 6 .any (Rows.supportFootSpec.pre6 enc Tryz.prog Tryz.f6 Rows.supportFootRow.domain false) (Rows.supportFootSpec.post enc Tryz.prog Tryz.f6 false true false false) := by
  refine returnsInHanded_of_change (C := Tryz.checked) Tryz.own started (by kernel_rfl) Tryz.func6
    (ChangeSpec.witness6 (enc := enc) (C := Tryz.checked) false ⟨#[], #[.agg #[.int .i16 0, .int .i16 0, .int .i16 0, .int .u8 0], .agg #[.int .i16 0, .int .i16 0, .int .u8 0]], []⟩ 12 (by kernel_rfl) (by kernel_rfl) (by kernel_rfl) (by kernel_rfl)) ?_
  intro W base args ds gs before hval0 hW _ _
  have hW' := hW
  obtain ⟨p, q, hA0, hV, rfl, _, _⟩ := hW
  have hA : DataW.TrodAll enc Tryz.prog W 0 (fun _ => true) true Tryz.f6.params.toList args.toList ds p := hA0
  obtain ⟨rfl, rfl⟩ := trodVars_none hV
  obtain ⟨d0, d1, rfl⟩ := len2 (show ds.length = 2 from trodAll_len hA)
  simp only [List.append_nil] at hW'
  have hlt : ∀ x ∈ p, x.block < W.heap.size := fun x hx => by simpa using hW'.lt x hx
  refine (law_run (Ts := [.cons (.int .i16) (.cons (.int .i16) (.cons (.int .i16) (.cons (.int .u8) .nil))), .cons (.int .i16) (.cons (.int .i16) (.cons (.int .u8) .nil))]) (by kernel_rfl) SupportFoot_den (fun j t v hj ha => hval0 j t v (by simpa using hj) (by simpa using ha)) hA).mono fun e W' he => ?_
  obtain ⟨_, rfl, rfl, hb⟩ := he
  refine ⟨_, rfl, _, _, _, [], _, [], hW', ?_, trodAll_below Tryz.laidOut hb (by kernel_rfl) hlt hA, rfl, hb.frame _, fun h => by cases h⟩
  exact trodAll_mk1 (shut_bool Tryz.underlying4 _)
theorem SupportFoot_holds : Rows.SupportFootSaid :=
  OpenClaim.holds_of_wide 6 Tryz.f6 rfl rfl rfl rfl rfl rfl rfl ⟨rfl, rfl, rfl, rfl, rfl⟩ rfl rfl rfl rfl rfl (by kernel_rfl) Tryz.func6 (by kernel_rfl)
    (of_decide_eq_true (by kernel_rfl)) (by unfold Func.isWrapper; first | (rw [if_pos (by decide +kernel)]; kernel_rfl) | (rw [if_neg (by decide +kernel)]; exact ⟨rfl, rfl⟩))
    (fun os started H enc _ => SupportFoot_lifted os started H enc)
#print axioms SupportFoot_holds
end Go.Proofs.YtkcoahciohejkaaGreat
