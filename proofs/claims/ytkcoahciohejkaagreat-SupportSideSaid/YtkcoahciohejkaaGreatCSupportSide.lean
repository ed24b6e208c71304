/-
  What the functions swarflaw08.SupportSide answer, each out of its text by the abstract run.
  Side gives the sign at any point with a root: the law returns true for every line and point.
  Conditions: none.
-/
import Derived.Test.YtkcoahciohejkaaGreatM11
set_option linter.all false
namespace Go.Proofs.YtkcoahciohejkaaGreat
open Go Go.RowKit Go.Sw
set_option linter.unusedVariables false
set_option maxRecDepth 100000
set_option maxHeartbeats 8000000
set_option synthInstance.maxSize 4000
set_option synthInstance.maxHeartbeats 400000
instance L_side (a b c : Int) (d : Nat) (ax bx ay bb : Int) (g e : Nat) : DenI Tryz.prog 4 [.agg [.v (.int .i16 a), .v (.int .i16 b), .v (.int .i16 c), .v (.int .u8 (d : Nat))], .agg [.v (.int .i16 ax), .v (.int .i16 bx), .v (.int .i16 ay), .v (.int .i16 bb), .v (.int .u16 (g : Nat)), .v (.int .u8 (e : Nat))]] (smallI a ∧ smallI b ∧ smallI c ∧ d ≤ 255 ∧ smallI ax ∧ smallI bx ∧ smallI ay ∧ smallI bb ∧ g ≤ 65535 ∧ e ≤ 255) (.bool true) := ⟨fun hp => by
 obtain ⟨p1, p2, p3, p4, p5, p6, p7, p8, p9, p10⟩ := hp
 obtain ⟨ka, kb, kc, kn⟩ := lnI_ok (a := a) (b := b) (c := c) (d := d) (by assumption) (by assumption) (by assumption)
 have i_ka : RzB (lnI a b c d).a 8 := ⟨ka⟩
 have i_kb : RzB (lnI a b c d).b 8 := ⟨kb⟩
 have i_kc : RzB (lnI a b c d).c 8 := ⟨kc⟩
 obtain ⟨m1, m2, m3, m4, m5, mok⟩ := ptI_ok (ax := ax) (bx := bx) (ay := ay) (bb := bb) (c := g) (d := e) (by assumption) (by assumption) (by assumption) (by assumption) (by omega) (by omega)
 have i_m1 : RzB (ptI ax bx ay bb g e).ax 40 := ⟨m1⟩
 have i_m2 : RzB (ptI ax bx ay bb g e).bx 40 := ⟨m2⟩
 have i_m3 : RzB (ptI ax bx ay bb g e).ay 40 := ⟨m3⟩
 have i_m4 : RzB (ptI ax bx ay bb g e).bb 40 := ⟨m4⟩
 have i_m5 : RzB (ptI ax bx ay bb g e).c 40 := ⟨m5⟩
 all_goals refine den_of (τ := tab) tab_ok mixed_ Tryz.func4 rfl (by kernel_rfl) (by kernel_rfl) (by kernel_rfl) ?_
 all_goals (repeat' ((try (conv => whnf)); first
  | refine call_0 ?_
  | refine call_i ?_ ?_
  | refine call_c ?_ (fun _ => ?_) (fun _ => ?_)
  | (with_reducible refine onB_t ?_)
  | (with_reducible refine onB_f ?_)
  | (with_reducible refine onB_d (fun _ => ?_) (fun _ => ?_))
  | (with_reducible refine onB_n (fun _ => ?_) (fun _ => ?_))
  | refine OnB.mk (fun _ => ?_) (fun _ => ?_)
  | refine obl_i ?_ ?_
  | refine Drw.mk (by kernel_rfl) ?_
  | refine mks_i ?_ ?_
  | refine slp_i ?_ ?_
  | (with_reducible refine elem_u ?_ ?_)
  | (with_reducible refine elem_0 ?_)
  | (with_reducible refine elem_1 ?_)
  | refine Ends.mk ?_))
 all_goals (try refine Pr.mk ?_)
 all_goals first
  | rfl
  | (unfold smallI at *; omega)
  | ((repeat' apply And.intro) <;> first | assumption | exact rzb (by omega) | exact szb (by omega))
  | (refine bE ?_; simp; done)
  | (exfalso; simp at *; done)
  | (exfalso; simp_all; done)
  | skip⟩

end Go.Proofs.YtkcoahciohejkaaGreat

namespace Go.Proofs.YtkcoahciohejkaaGreat
open Go Go.RowKit Go.Sw Go.ChangeShapes Go.WideShapes Go.ChangeAt
set_option maxRecDepth 100000
theorem SupportSide_den : ∀ xs, FitAs [.cons (.int .i16) (.cons (.int .i16) (.cons (.int .i16) (.cons (.int .u8) .nil))), .cons (.int .i16) (.cons (.int .i16) (.cons (.int .i16) (.cons (.int .i16) (.cons (.int .u16) (.cons (.int .u8) .nil)))))] xs → Den Tryz.prog 4 xs (.bool true) := by
  rintro xs ⟨_, _, ⟨_, ⟨_, _, ⟨n1, wn1, rfl⟩, ⟨_, _, ⟨n2, wn2, rfl⟩, ⟨_, _, ⟨n3, wn3, rfl⟩, ⟨_, _, ⟨n4, wn4, rfl⟩, rfl, rfl⟩, rfl⟩, rfl⟩, rfl⟩, rfl⟩, ⟨_, _, ⟨_, ⟨_, _, ⟨n5, wn5, rfl⟩, ⟨_, _, ⟨n6, wn6, rfl⟩, ⟨_, _, ⟨n7, wn7, rfl⟩, ⟨_, _, ⟨n8, wn8, rfl⟩, ⟨_, _, ⟨n9, wn9, rfl⟩, ⟨_, _, ⟨n10, wn10, rfl⟩, rfl, rfl⟩, rfl⟩, rfl⟩, rfl⟩, rfl⟩, rfl⟩, rfl⟩, rfl, rfl⟩, rfl⟩
  have wn1 := wfI16 wn1
  have wn2 := wfI16 wn2
  have wn3 := wfI16 wn3
  obtain ⟨mn4, rfl, hmn4⟩ := wfNat (by simp) wn4
  have hmn4 : mn4 < 256 := hmn4
  have wn5 := wfI16 wn5
  have wn6 := wfI16 wn6
  have wn7 := wfI16 wn7
  have wn8 := wfI16 wn8
  obtain ⟨mn9, rfl, hmn9⟩ := wfNat (by simp) wn9
  have hmn9 : mn9 < 65536 := hmn9
  obtain ⟨mn10, rfl, hmn10⟩ := wfNat (by simp) wn10
  have hmn10 : mn10 < 256 := hmn10
  simp only [List.append_nil, List.nil_append, List.cons_append]
  exact DenI.den (P := Tryz.prog) (f := 4) (by unfold smallI; (repeat' apply And.intro) <;> first | trivial | omega)
set_option maxHeartbeats 800000 in
theorem SupportSide_lifted (os : Os) (started : os.Started) (H : Type) (enc : TypeId × Value → H) :
    ReturnsInHanded {} Tryz.checked os 4 .any (Rows.supportSideSpec.pre6 enc Tryz.prog Tryz.f4 Rows.supportSideRow.domain false) (Rows.supportSideSpec.post enc Tryz.prog Tryz.f4 false true false false) := by
  refine returnsInHanded_of_change (C := Tryz.checked) Tryz.own started (by kernel_rfl) Tryz.func4
    (ChangeSpec.witness6 (enc := enc) (C := Tryz.checked) false ⟨#[], #[.agg #[.int .i16 0, .int .i16 0, .int .i16 0, .int .u8 0], .agg #[.int .i16 0, .int .i16 0, .int .i16 0, .int .i16 0, .int .u16 0, .int .u8 0]], []⟩ 12 (by kernel_rfl) (by kernel_rfl) (by kernel_rfl) (by kernel_rfl)) ?_
  intro W base args ds gs before hval0 hW _ _
  have hW' := hW
  obtain ⟨p, q, hA0, hV, rfl, _, _⟩ := hW
  have hA : DataW.TrodAll enc Tryz.prog W 0 (fun _ => true) true Tryz.f4.params.toList args.toList ds p := hA0
  obtain ⟨rfl, rfl⟩ := trodVars_none hV
  obtain ⟨d0, d1, rfl⟩ := len2 (show ds.length = 2 from trodAll_len hA)
  simp only [List.append_nil] at hW'
  have hlt : ∀ x ∈ p, x.block < W.heap.size := fun x hx => by simpa using hW'.lt x hx
  refine (law_run (Ts := [.cons (.int .i16) (.cons (.int .i16) (.cons (.int .i16) (.cons (.int .u8) .nil))), .cons (.int .i16) (.cons (.int .i16) (.cons (.int .i16) (.cons (.int .i16) (.cons (.int .u16) (.cons (.int .u8) .nil)))))]) (by kernel_rfl) SupportSide_den (fun j t v hj ha => hval0 j t v (by simpa using hj) (by simpa using ha)) hA).mono fun e W' he => ?_
  obtain ⟨_, rfl, rfl, hb⟩ := he
  refine ⟨_, rfl, _, _, _, [], _, [], hW', ?_, trodAll_below Tryz.laidOut hb (by kernel_rfl) hlt hA, rfl, hb.frame _, fun h => by cases h⟩
  exact trodAll_mk1 (shut_bool Tryz.underlying4 _)
theorem SupportSide_holds : Rows.SupportSideSaid :=
  OpenClaim.holds_of_wide 4 Tryz.f4 rfl rfl rfl rfl rfl rfl rfl ⟨rfl, rfl, rfl, rfl, rfl⟩ rfl rfl rfl rfl rfl (by kernel_rfl) Tryz.func4 (by kernel_rfl)
    (of_decide_eq_true (by kernel_rfl)) (by unfold Func.isWrapper; first | (rw [if_pos (by decide +kernel)]; kernel_rfl) | (rw [if_neg (by decide +kernel)]; exact ⟨rfl, rfl⟩))
    (fun os started H enc _ => SupportSide_lifted os started H enc)
#print axioms SupportSide_holds
end Go.Proofs.YtkcoahciohejkaaGreat
