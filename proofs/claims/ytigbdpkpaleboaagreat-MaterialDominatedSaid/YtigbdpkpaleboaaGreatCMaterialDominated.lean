/-
  What the functions swarflaw52.MaterialDominated answer, each out of its text by the abstract run.
  Dominated is exact for level cuts, and where a dominated cut removes something the other one removes at least as much: the law returns true for every two cuts and every point.
  Conditions: none.
-/
import Derived.Test.YtigbdpkpaleboaaGreatM11
set_option linter.all false
namespace Go.Proofs.YtigbdpkpaleboaaGreat
open Go Go.RowKit Go.Sw
set_option linter.unusedVariables false
set_option maxRecDepth 100000
set_option maxHeartbeats 8000000
set_option synthInstance.maxSize 4000
set_option synthInstance.maxHeartbeats 400000
instance L_dom (a b c d e f : Int) (r : Nat) (g h k l m n : Int) (s : Nat) (x y : Int) (w : Nat) : DenI Tryz.prog 4 [.agg [.v (.int .i16 a), .v (.int .i16 b), .v (.int .i16 c), .v (.int .i16 d), .v (.int .i16 e), .v (.int .i16 f), .v (.int .u8 (r : Nat)), .v (.int .i16 g), .v (.int .i16 h), .v (.int .i16 k), .v (.int .i16 l), .v (.int .i16 m), .v (.int .i16 n), .v (.int .u8 (s : Nat))], .agg [.v (.int .i16 x), .v (.int .i16 y), .v (.int .u8 (w : Nat))]] (smallI a ∧ smallI b ∧ smallI c ∧ smallI d ∧ smallI e ∧ smallI f ∧ r ≤ 255 ∧ smallI g ∧ smallI h ∧ smallI k ∧ smallI l ∧ smallI m ∧ smallI n ∧ s ≤ 255 ∧ smallI x ∧ smallI y ∧ w ≤ 255) (.bool true) := ⟨fun hp => by
 obtain ⟨p1, p2, p3, p4, p5, p6, p7, p8, p9, p10, p11, p12, p13, p14, p15, p16, p17⟩ := hp
 have m_a : medI a := (by unfold medI smallI at *; omega)
 have m_b : medI b := (by unfold medI smallI at *; omega)
 have m_c : medI c := (by unfold medI smallI at *; omega)
 have m_d : medI d := (by unfold medI smallI at *; omega)
 have m_e : medI e := (by unfold medI smallI at *; omega)
 have m_f : medI f := (by unfold medI smallI at *; omega)
 have m_r : medI ((r : Nat) : Int) := (by unfold medI; omega)
 have m_g : medI g := (by unfold medI smallI at *; omega)
 have m_h : medI h := (by unfold medI smallI at *; omega)
 have m_k : medI k := (by unfold medI smallI at *; omega)
 have m_l : medI l := (by unfold medI smallI at *; omega)
 have m_m : medI m := (by unfold medI smallI at *; omega)
 have m_n : medI n := (by unfold medI smallI at *; omega)
 have m_s : medI ((s : Nat) : Int) := (by unfold medI; omega)
 have i_qx : RzB (((x : Int) : Rat) / (((w : Int) + 1 : Int) : Rat)) 6 := ⟨rz_q' _ _ (by unfold smallI at *; omega) (by omega)⟩
 have i_qy : RzB (((y : Int) : Rat) / (((w : Int) + 1 : Int) : Rat)) 6 := ⟨rz_q' _ _ (by unfold smallI at *; omega) (by omega)⟩
 all_goals refine den_of (τ := tab) tab_ok mixed_ Tryz.func4 rfl (by kernel_rfl) (by kernel_rfl) (by kernel_rfl) ?_
 all_goals (repeat' ((try (conv => whnf)); first
  | refine call_0 ?_
  | refine call_i ?_ ?_
  | refine call_c ?_ (fun _ => ?_) (fun _ => ?_)
  | (with_reducible refine onB_t ?_)
  | (with_reducible refine onB_f ?_)
  | (with_reducible refine onB_d (fun _ => ?_) (fun _ => ?_))
  | (with_reducible refine onB_n (fun _ => ?_) (fun _ => ?_))
  | refine OnB.mk (fun _ => ?_) (fun _ => ?_)
  | refine obl_i ?_ ?_
  | refine Drw.mk (by kernel_rfl) ?_
  | refine mks_i ?_ ?_
  | refine slp_i ?_ ?_
  | (with_reducible refine elem_u ?_ ?_)
  | (with_reducible refine elem_0 ?_)
  | (with_reducible refine elem_1 ?_)
  | refine Ends.mk ?_))
 all_goals (try refine Pr.mk ?_)
 all_goals (try simp (disch := (unfold smallI at *; omega)) only [wi64, dm8] at *)
 all_goals (try simp only [sgnI_lt0, sgnI_zero, sgnI_le0, sgnI_gt0, sgnI_ge0, sgnI_eq1, cmpI_lt0, cmpI_gt0, cmpI_eq0, cmpI_le0, cmpI_ge0, cmpR_of, sgnR_of, sgnR_lt0, sgnR_eq0, sgnR_gt0, sgnR_le0, sgnR_ge0, sgnR_eq1, cmpR_lt0, cmpR_gt0, cmpR_eq0, cmpR_le0, cmpR_ge0] at *)
 all_goals first
  | rfl
  | contradiction
  | (unfold smallI at *; omega)
  | (unfold medI at *; omega)
  | exact cmP (okR_swr (c := (⟨g, h, k, l, m, n, (s : Nat)⟩ : Cut7)) ⟨m_g, m_h, m_k, m_l, m_m, m_n, m_s⟩ i_qx.h i_qy.h (by assumption)) (okR_swr (c := (⟨a, b, c, d, e, f, (r : Nat)⟩ : Cut7)) ⟨m_a, m_b, m_c, m_d, m_e, m_f, m_r⟩ i_qx.h i_qy.h (by assumption))
  | (exfalso; exact absurd (dom_on (by assumption) (by assumption)) (by assumption))
  | exact bE (decide_eq_true (dom_le (by assumption)))
  | ((repeat' apply And.intro) <;> first | assumption | exact rzb (by omega) | exact szb (by omega) | (unfold medI at *; omega))
  | (refine bE ?_; simp; done)
  | (exfalso; simp at *; done)
  | (exfalso; simp_all; done)
  | skip⟩

end Go.Proofs.YtigbdpkpaleboaaGreat

namespace Go.Proofs.YtigbdpkpaleboaaGreat
open Go Go.RowKit Go.Sw Go.ChangeShapes Go.WideShapes Go.ChangeAt
set_option maxRecDepth 100000
theorem MaterialDominated_den : ∀ xs, FitAs [.cons (.cons (.cons (.int .i16) (.cons (.int .i16) (.cons (.int .i16) .nil))) (.cons (.cons (.int .i16) (.cons (.int .i16) (.cons (.int .i16) .nil))) (.cons (.int .u8) .nil))) (.cons (.cons (.cons (.int .i16) (.cons (.int .i16) (.cons (.int .i16) .nil))) (.cons (.cons (.int .i16) (.cons (.int .i16) (.cons (.int .i16) .nil))) (.cons (.int .u8) .nil))) .nil), .cons (.int .i16) (.cons (.int .i16) (.cons (.int .u8) .nil))] xs → Den Tryz.prog 4 xs (.bool true) := by
  rintro xs ⟨_, _, ⟨_, ⟨_, _, ⟨_, _, ⟨_, _, ⟨n1, wn1, rfl⟩, ⟨_, _, ⟨n2, wn2, rfl⟩, ⟨_, _, ⟨n3, wn3, rfl⟩, rfl, rfl⟩, rfl⟩, rfl⟩, ⟨_, _, ⟨_, _, ⟨n4, wn4, rfl⟩, ⟨_, _, ⟨n5, wn5, rfl⟩, ⟨_, _, ⟨n6, wn6, rfl⟩, rfl, rfl⟩, rfl⟩, rfl⟩, ⟨_, _, ⟨n7, wn7, rfl⟩, rfl, rfl⟩, rfl⟩, rfl⟩, ⟨_, _, ⟨_, _, ⟨_, _, ⟨n8, wn8, rfl⟩, ⟨_, _, ⟨n9, wn9, rfl⟩, ⟨_, _, ⟨n10, wn10, rfl⟩, rfl, rfl⟩, rfl⟩, rfl⟩, ⟨_, _, ⟨_, _, ⟨n11, wn11, rfl⟩, ⟨_, _, ⟨n12, wn12, rfl⟩, ⟨_, _, ⟨n13, wn13, rfl⟩, rfl, rfl⟩, rfl⟩, rfl⟩, ⟨_, _, ⟨n14, wn14, rfl⟩, rfl, rfl⟩, rfl⟩, rfl⟩, rfl, rfl⟩, rfl⟩, rfl⟩, ⟨_, _, ⟨_, ⟨_, _, ⟨n15, wn15, rfl⟩, ⟨_, _, ⟨n16, wn16, rfl⟩, ⟨_, _, ⟨n17, wn17, rfl⟩, rfl, rfl⟩, rfl⟩, rfl⟩, rfl⟩, rfl, rfl⟩, rfl⟩
  have wn1 := wfI16 wn1
  have wn2 := wfI16 wn2
  have wn3 := wfI16 wn3
  have wn4 := wfI16 wn4
  have wn5 := wfI16 wn5
  have wn6 := wfI16 wn6
  obtain ⟨mn7, rfl, hmn7⟩ := wfNat (by simp) wn7
  have hmn7 : mn7 < 256 := hmn7
  have wn8 := wfI16 wn8
  have wn9 := wfI16 wn9
  have wn10 := wfI16 wn10
  have wn11 := wfI16 wn11
  have wn12 := wfI16 wn12
  have wn13 := wfI16 wn13
  obtain ⟨mn14, rfl, hmn14⟩ := wfNat (by simp) wn14
  have hmn14 : mn14 < 256 := hmn14
  have wn15 := wfI16 wn15
  have wn16 := wfI16 wn16
  obtain ⟨mn17, rfl, hmn17⟩ := wfNat (by simp) wn17
  have hmn17 : mn17 < 256 := hmn17
  simp only [List.append_nil, List.nil_append, List.cons_append]
  exact DenI.den (P := Tryz.prog) (f := 4) (by unfold smallI; (repeat' apply And.intro) <;> first | trivial | omega)
set_option maxHeartbeats 800000 in
theorem MaterialDominated_lifted (os : Os) (started : os.Started) (H : Type) (enc : TypeId × Value → H) :
    ReturnsInHanded {} Tryz.checked os 4 .any (Rows.materialDominatedSpec.pre6 enc Tryz.prog Tryz.f4 Rows.materialDominatedRow.domain false) (Rows.materialDominatedSpec.post enc Tryz.prog Tryz.f4 false true false false) := by
  refine returnsInHanded_of_change (C := Tryz.checked) Tryz.own started (by kernel_rfl) Tryz.func4
    (ChangeSpec.witness6 (enc := enc) (C := Tryz.checked) false ⟨#[], #[.agg #[.int .i16 0, .int .i16 0, .int .i16 0, .int .i16 0, .int .i16 0, .int .i16 0, .int .u8 0, .int .i16 0, .int .i16 0, .int .i16 0, .int .i16 0, .int .i16 0, .int .i16 0, .int .u8 0], .agg #[.int .i16 0, .int .i16 0, .int .u8 0]], []⟩ 12 (by kernel_rfl) (by kernel_rfl) (by kernel_rfl) (by kernel_rfl)) ?_
  intro W base args ds gs before hval0 hW _ _
  have hW' := hW
  obtain ⟨p, q, hA0, hV, rfl, _, _⟩ := hW
  have hA : DataW.TrodAll enc Tryz.prog W 0 (fun _ => true) true Tryz.f4.params.toList args.toList ds p := hA0
  obtain ⟨rfl, rfl⟩ := trodVars_none hV
  obtain ⟨d0, d1, rfl⟩ := len2 (show ds.length = 2 from trodAll_len hA)
  simp only [List.append_nil] at hW'
  have hlt : ∀ x ∈ p, x.block < W.heap.size := fun x hx => by simpa using hW'.lt x hx
  refine (law_run (Ts := [.cons (.cons (.cons (.int .i16) (.cons (.int .i16) (.cons (.int .i16) .nil))) (.cons (.cons (.int .i16) (.cons (.int .i16) (.cons (.int .i16) .nil))) (.cons (.int .u8) .nil))) (.cons (.cons (.cons (.int .i16) (.cons (.int .i16) (.cons (.int .i16) .nil))) (.cons (.cons (.int .i16) (.cons (.int .i16) (.cons (.int .i16) .nil))) (.cons (.int .u8) .nil))) .nil), .cons (.int .i16) (.cons (.int .i16) (.cons (.int .u8) .nil))]) (by kernel_rfl) MaterialDominated_den (fun j t v hj ha => hval0 j t v (by simpa using hj) (by simpa using ha)) hA).mono fun e W' he => ?_
  obtain ⟨_, rfl, rfl, hb⟩ := he
  refine ⟨_, rfl, _, _, _, [], _, [], hW', ?_, trodAll_below Tryz.laidOut hb (by kernel_rfl) hlt hA, rfl, hb.frame _, fun h => by cases h⟩
  exact trodAll_mk1 (shut_bool Tryz.underlying4 _)
theorem MaterialDominated_holds : Rows.MaterialDominatedSaid :=
  OpenClaim.holds_of_wide 4 Tryz.f4 rfl rfl rfl rfl rfl rfl rfl ⟨rfl, rfl, rfl, rfl, rfl⟩ rfl rfl rfl rfl rfl (by kernel_rfl) Tryz.func4 (by kernel_rfl)
    (of_decide_eq_true (by kernel_rfl)) (by unfold Func.isWrapper; first | (rw [if_pos (by decide +kernel)]; kernel_rfl) | (rw [if_neg (by decide +kernel)]; exact ⟨rfl, rfl⟩))
    (fun os started H enc _ => MaterialDominated_lifted os started H enc)
#print axioms MaterialDominated_holds
end Go.Proofs.YtigbdpkpaleboaaGreat
