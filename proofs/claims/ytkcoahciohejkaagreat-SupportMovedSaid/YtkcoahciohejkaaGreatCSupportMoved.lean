/-
  What the functions swarflaw08.SupportMoved answer, each out of its text by the abstract run.
  Translations change neither Side nor Inside: the law returns true for every line, circle and point.
  Conditions: none.
-/
import Derived.Test.YtkcoahciohejkaaGreatM11
set_option linter.all false
namespace Go.Proofs.YtkcoahciohejkaaGreat
open Go Go.RowKit Go.Sw
set_option linter.unusedVariables false
set_option maxRecDepth 100000
set_option maxHeartbeats 8000000
set_option synthInstance.maxSize 4000
set_option synthInstance.maxHeartbeats 400000
instance L_mov (a b c : Int) (d : Nat) (x y : Int) (qq dd : Nat) (ax bx ay bb : Int) (g e : Nat) : DenI Tryz.prog 8 [.agg [.v (.int .i16 a), .v (.int .i16 b), .v (.int .i16 c), .v (.int .u8 (d : Nat))], .agg [.v (.int .i16 x), .v (.int .i16 y), .v (.int .u16 (qq : Nat)), .v (.int .u8 (dd : Nat))], .agg [.v (.int .i16 ax), .v (.int .i16 bx), .v (.int .i16 ay), .v (.int .i16 bb), .v (.int .u16 (g : Nat)), .v (.int .u8 (e : Nat))]] (smallI a ∧ smallI b ∧ smallI c ∧ d ≤ 255 ∧ smallI x ∧ smallI y ∧ qq ≤ 65535 ∧ dd ≤ 255 ∧ smallI ax ∧ smallI bx ∧ smallI ay ∧ smallI bb ∧ g ≤ 65535 ∧ e ≤ 255) (.bool true) := ⟨fun hp => by
 obtain ⟨p1, p2, p3, p4, p5, p6, p7, p8, p9, p10, p11, p12, p13, p14⟩ := hp
 obtain ⟨ka, kb, kc, kn⟩ := lnI_ok (a := a) (b := b) (c := c) (d := d) (by assumption) (by assumption) (by assumption)
 have i_ka : RzB (lnI a b c d).a 8 := ⟨ka⟩
 have i_kb : RzB (lnI a b c d).b 8 := ⟨kb⟩
 have i_kc : RzB (lnI a b c d).c 8 := ⟨kc⟩
 obtain ⟨ja, jb, jc⟩ := ciI_ok (x := x) (y := y) (q := qq) (d := dd) (by assumption) (by assumption) (by omega)
 have i_ja : RzB (ciI x y qq dd).a 8 := ⟨ja⟩
 have i_jb : RzB (ciI x y qq dd).b 8 := ⟨jb⟩
 have i_jc : RzB (ciI x y qq dd).c 8 := ⟨jc⟩
 obtain ⟨m1, m2, m3, m4, m5, mok⟩ := ptI_ok (ax := ax) (bx := bx) (ay := ay) (bb := bb) (c := g) (d := e) (by assumption) (by assumption) (by assumption) (by assumption) (by omega) (by omega)
 have i_m1 : RzB (ptI ax bx ay bb g e).ax 40 := ⟨m1⟩
 have i_m2 : RzB (ptI ax bx ay bb g e).bx 40 := ⟨m2⟩
 have i_m3 : RzB (ptI ax bx ay bb g e).ay 40 := ⟨m3⟩
 have i_m4 : RzB (ptI ax bx ay bb g e).bb 40 := ⟨m4⟩
 have i_m5 : RzB (ptI ax bx ay bb g e).c 40 := ⟨m5⟩
 have i_v : RzB (((a : Int) : Rat) / ((2 : Int) : Rat)) 6 := ⟨rz_q' _ _ (by unfold smallI at *; omega) (by omega)⟩
 have i_w : RzB ((c : Int) : Rat) 4 := ⟨rz_i _ (by unfold smallI at *; omega) (by unfold smallI at *; omega)⟩
 have ok0 : okP 0 0 0 := .inl ⟨rfl, rfl, rfl⟩
 all_goals refine den_of (τ := tab) tab_ok mixed_ Tryz.func8 rfl (by kernel_rfl) (by kernel_rfl) (by kernel_rfl) ?_
 all_goals (repeat' ((try (conv => whnf)); first
  | refine call_0 ?_
  | refine call_i ?_ ?_
  | refine call_c ?_ (fun _ => ?_) (fun _ => ?_)
  | (with_reducible refine onB_t ?_)
  | (with_reducible refine onB_f ?_)
  | (with_reducible refine onB_d (fun _ => ?_) (fun _ => ?_))
  | (with_reducible refine onB_n (fun _ => ?_) (fun _ => ?_))
  | refine OnB.mk (fun _ => ?_) (fun _ => ?_)
  | refine obl_i ?_ ?_
  | refine Drw.mk (by kernel_rfl) ?_
  | refine mks_i ?_ ?_
  | refine slp_i ?_ ?_
  | (with_reducible refine elem_u ?_ ?_)
  | (with_reducible refine elem_0 ?_)
  | (with_reducible refine elem_1 ?_)
  | refine Ends.mk ?_))
 all_goals (try refine Pr.mk ?_)
 all_goals (try simp (disch := (unfold smallI at *; omega)) only [wi64, dm8] at *)
 all_goals (try simp only [sgnI_lt0, sgnI_zero, sgnI_le0, sgnI_gt0, sgnI_ge0, sgnI_eq1, cmpI_lt0, cmpI_gt0, cmpI_eq0, cmpI_le0, cmpI_ge0, cmpR_of, sgnR_of, sgnR_lt0, sgnR_eq0, sgnR_gt0, sgnR_le0, sgnR_ge0, sgnR_eq1, cmpR_lt0, cmpR_gt0, cmpR_eq0, cmpR_le0, cmpR_ge0] at *)
 all_goals (try simp only [validR_R] at *)
 all_goals first
  | rfl
  | (unfold smallI at *; omega)
  | ((repeat' apply And.intro) <;> first | assumption | exact rzb (by omega) | exact szb (by omega))
  | (refine bE ?_; rw [decide_eq_true_eq]; refine congrArg (- ·) ?_; congr 1 <;> grind)
  | (refine bE (decide_eq_true ?_); refine congrArg (fun n : Int => -n) ?_; congr 1 <;> grind)
  | (exfalso; rename ¬exI _ _ _ = exI _ _ _ => h; exact h (by congr 1 <;> grind))
  | (refine bE ?_; simp; done)
  | (exfalso; simp at *; done)
  | (exfalso; simp_all; done)
  | skip⟩

end Go.Proofs.YtkcoahciohejkaaGreat

namespace Go.Proofs.YtkcoahciohejkaaGreat
open Go Go.RowKit Go.Sw Go.ChangeShapes Go.WideShapes Go.ChangeAt
set_option maxRecDepth 100000
theorem SupportMoved_den : ∀ xs, FitAs [.cons (.int .i16) (.cons (.int .i16) (.cons (.int .i16) (.cons (.int .u8) .nil))), .cons (.int .i16) (.cons (.int .i16) (.cons (.int .u16) (.cons (.int .u8) .nil))), .cons (.int .i16) (.cons (.int .i16) (.cons (.int .i16) (.cons (.int .i16) (.cons (.int .u16) (.cons (.int .u8) .nil)))))] xs → Den Tryz.prog 8 xs (.bool true) := by
  rintro xs ⟨_, _, ⟨_, ⟨_, _, ⟨n1, wn1, rfl⟩, ⟨_, _, ⟨n2, wn2, rfl⟩, ⟨_, _, ⟨n3, wn3, rfl⟩, ⟨_, _, ⟨n4, wn4, rfl⟩, rfl, rfl⟩, rfl⟩, rfl⟩, rfl⟩, rfl⟩, ⟨_, _, ⟨_, ⟨_, _, ⟨n5, wn5, rfl⟩, ⟨_, _, ⟨n6, wn6, rfl⟩, ⟨_, _, ⟨n7, wn7, rfl⟩, ⟨_, _, ⟨n8, wn8, rfl⟩, rfl, rfl⟩, rfl⟩, rfl⟩, rfl⟩, rfl⟩, ⟨_, _, ⟨_, ⟨_, _, ⟨n9, wn9, rfl⟩, ⟨_, _, ⟨n10, wn10, rfl⟩, ⟨_, _, ⟨n11, wn11, rfl⟩, ⟨_, _, ⟨n12, wn12, rfl⟩, ⟨_, _, ⟨n13, wn13, rfl⟩, ⟨_, _, ⟨n14, wn14, rfl⟩, rfl, rfl⟩, rfl⟩, rfl⟩, rfl⟩, rfl⟩, rfl⟩, rfl⟩, rfl, rfl⟩, rfl⟩, rfl⟩
  have wn1 := wfI16 wn1
  have wn2 := wfI16 wn2
  have wn3 := wfI16 wn3
  obtain ⟨mn4, rfl, hmn4⟩ := wfNat (by simp) wn4
  have hmn4 : mn4 < 256 := hmn4
  have wn5 := wfI16 wn5
  have wn6 := wfI16 wn6
  obtain ⟨mn7, rfl, hmn7⟩ := wfNat (by simp) wn7
  have hmn7 : mn7 < 65536 := hmn7
  obtain ⟨mn8, rfl, hmn8⟩ := wfNat (by simp) wn8
  have hmn8 : mn8 < 256 := hmn8
  have wn9 := wfI16 wn9
  have wn10 := wfI16 wn10
  have wn11 := wfI16 wn11
  have wn12 := wfI16 wn12
  obtain ⟨mn13, rfl, hmn13⟩ := wfNat (by simp) wn13
  have hmn13 : mn13 < 65536 := hmn13
  obtain ⟨mn14, rfl, hmn14⟩ := wfNat (by simp) wn14
  have hmn14 : mn14 < 256 := hmn14
  simp only [List.append_nil, List.nil_append, List.cons_append]
  exact DenI.den (P := Tryz.prog) (f := 8) (by unfold smallI; (repeat' apply And.intro) <;> first | trivial | omega)
set_option maxHeartbeats 800000 in
theorem SupportMoved_lifted (os : Os) (started : os.Started) (H : Type) (enc : TypeId × Value → H) :
    ReturnsInHanded {} Tryz.checked os 8 .any (Rows.supportMovedSpec.pre6 enc Tryz.prog Tryz.f8 Rows.supportMovedRow.domain false) (Rows.supportMovedSpec.post enc Tryz.prog Tryz.f8 false true false false) := by
  refine returnsInHanded_of_change (C := Tryz.checked) Tryz.own started (by kernel_rfl) Tryz.func8
    (ChangeSpec.witness6 (enc := enc) (C := Tryz.checked) false ⟨#[], #[.agg #[.int .i16 0, .int .i16 0, .int .i16 0, .int .u8 0], .agg #[.int .i16 0, .int .i16 0, .int .u16 0, .int .u8 0], .agg #[.int .i16 0, .int .i16 0, .int .i16 0, .int .i16 0, .int .u16 0, .int .u8 0]], []⟩ 12 (by kernel_rfl) (by kernel_rfl) (by kernel_rfl) (by kernel_rfl)) ?_
  intro W base args ds gs before hval0 hW _ _
  have hW' := hW
  obtain ⟨p, q, hA0, hV, rfl, _, _⟩ := hW
  have hA : DataW.TrodAll enc Tryz.prog W 0 (fun _ => true) true Tryz.f8.params.toList args.toList ds p := hA0
  obtain ⟨rfl, rfl⟩ := trodVars_none hV
  obtain ⟨d0, d1, d2, rfl⟩ := len3 (show ds.length = 3 from trodAll_len hA)
  simp only [List.append_nil] at hW'
  have hlt : ∀ x ∈ p, x.block < W.heap.size := fun x hx => by simpa using hW'.lt x hx
  refine (law_run (Ts := [.cons (.int .i16) (.cons (.int .i16) (.cons (.int .i16) (.cons (.int .u8) .nil))), .cons (.int .i16) (.cons (.int .i16) (.cons (.int .u16) (.cons (.int .u8) .nil))), .cons (.int .i16) (.cons (.int .i16) (.cons (.int .i16) (.cons (.int .i16) (.cons (.int .u16) (.cons (.int .u8) .nil)))))]) (by kernel_rfl) SupportMoved_den (fun j t v hj ha => hval0 j t v (by simpa using hj) (by simpa using ha)) hA).mono fun e W' he => ?_
  obtain ⟨_, rfl, rfl, hb⟩ := he
  refine ⟨_, rfl, _, _, _, [], _, [], hW', ?_, trodAll_below Tryz.laidOut hb (by kernel_rfl) hlt hA, rfl, hb.frame _, fun h => by cases h⟩
  exact trodAll_mk1 (shut_bool Tryz.underlying4 _)
theorem SupportMoved_holds : Rows.SupportMovedSaid :=
  OpenClaim.holds_of_wide 8 Tryz.f8 rfl rfl rfl rfl rfl rfl rfl ⟨rfl, rfl, rfl, rfl, rfl⟩ rfl rfl rfl rfl rfl (by kernel_rfl) Tryz.func8 (by kernel_rfl)
    (of_decide_eq_true (by kernel_rfl)) (by unfold Func.isWrapper; first | (rw [if_pos (by decide +kernel)]; kernel_rfl) | (rw [if_neg (by decide +kernel)]; exact ⟨rfl, rfl⟩))
    (fun os started H enc _ => SupportMoved_lifted os started H enc)
#print axioms SupportMoved_holds
end Go.Proofs.YtkcoahciohejkaaGreat
