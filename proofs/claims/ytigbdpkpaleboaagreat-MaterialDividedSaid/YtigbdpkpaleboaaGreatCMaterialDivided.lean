/-
  What the functions swarflaw52.MaterialDivided$1, swarflaw52.MaterialDivided answer, each out of its text by the abstract run.
  Dividing a cut at a point of its way changes no height: the law returns true for every cut, share and point.
  Conditions: none.
-/
import Derived.Test.YtigbdpkpaleboaaGreatM13
set_option linter.all false
namespace Go.Proofs.YtigbdpkpaleboaaGreat
open Go Go.RowKit Go.Sw
set_option linter.unusedVariables false
set_option maxRecDepth 100000
set_option maxHeartbeats 8000000
set_option synthInstance.maxSize 4000
set_option synthInstance.maxHeartbeats 400000
instance v_at (a b c d e f m : Int) : DenI Tryz.prog 22 [.int .i64 m, .c (.p [.v (.int .i64 (a)), .v (.int .i64 (b)), .v (.int .i64 (c))]), .c (.p [.v (.int .i64 (d)), .v (.int .i64 (e)), .v (.int .i64 (f))])] (smallI a ∧ smallI b ∧ smallI c ∧ smallI d ∧ smallI e ∧ smallI f ∧ 0 ≤ m ∧ m ≤ 10) (.agg [.v (.int .i64 (a + m * d)), .v (.int .i64 (b + m * e)), .v (.int .i64 (c + m * f))]) := ⟨fun hp => by
 obtain ⟨s1, s2, s3, s4, s5, s6, m0, m1⟩ := hp
 have q1 := sm_mul s4 m0 m1
 have q2 := sm_mul s5 m0 m1
 have q3 := sm_mul s6 m0 m1
 all_goals refine den_of (τ := tab) tab_ok mixed_ Tryz.func22 rfl (by kernel_rfl) (by kernel_rfl) (by kernel_rfl) ?_
 all_goals (repeat' ((try (conv => whnf)); first
  | refine call_0 ?_
  | refine call_i ?_ ?_
  | refine call_c ?_ (fun _ => ?_) (fun _ => ?_)
  | (with_reducible refine onB_t ?_)
  | (with_reducible refine onB_f ?_)
  | (with_reducible refine onB_d (fun _ => ?_) (fun _ => ?_))
  | (with_reducible refine onB_n (fun _ => ?_) (fun _ => ?_))
  | refine OnB.mk (fun _ => ?_) (fun _ => ?_)
  | refine obl_i ?_ ?_
  | refine Drw.mk (by kernel_rfl) ?_
  | refine mks_i ?_ ?_
  | refine slp_i ?_ ?_
  | (with_reducible refine elem_u ?_ ?_)
  | (with_reducible refine elem_0 ?_)
  | (with_reducible refine elem_1 ?_)
  | refine Ends.mk ?_))
 all_goals (try refine Pr.mk ?_)
 all_goals (try simp (disch := (unfold smallI at *; omega)) only [wi64] at *)
 all_goals first
  | rfl
  | skip⟩

instance v_h1 (u1 u2 u3 u4 u5 u6 u7 top : Int) (x y : Rat) : DenI Tryz.prog 19 [.c (.sl 7 [[.v (.int .i64 (u1)), .v (.int .i64 (u2)), .v (.int .i64 (u3)), .v (.int .i64 (u4)), .v (.int .i64 (u5)), .v (.int .i64 (u6)), .v (.int .i64 (u7))]]), .int .i64 top, Q2 x y] (medC ⟨u1, u2, u3, u4, u5, u6, u7⟩ ∧ medI top ∧ rz x ≤ 6 ∧ rz y ≤ 6) (Q3 (hgt x y [(⟨u1, u2, u3, u4, u5, u6, u7⟩ : Cut7)] ⟨(top : Rat), 0, 0⟩).a (hgt x y [(⟨u1, u2, u3, u4, u5, u6, u7⟩ : Cut7)] ⟨(top : Rat), 0, 0⟩).b (hgt x y [(⟨u1, u2, u3, u4, u5, u6, u7⟩ : Cut7)] ⟨(top : Rat), 0, 0⟩).c) := ⟨fun hp => (inferInstance : DenI Tryz.prog 19 [.c (.sl 7 ([(⟨u1, u2, u3, u4, u5, u6, u7⟩ : Cut7)].map cuC)), .int .i64 top, Q2 x y] _ _).den ⟨fun c hc => by simp only [List.mem_singleton] at hc; subst hc; exact hp.1, hp.2.1, hp.2.2.1, hp.2.2.2, by simp⟩⟩
instance v_h2 (u1 u2 u3 u4 u5 u6 u7 v1 v2 v3 v4 v5 v6 v7 top : Int) (x y : Rat) : DenI Tryz.prog 19 [.c (.sl 7 [[.v (.int .i64 (u1)), .v (.int .i64 (u2)), .v (.int .i64 (u3)), .v (.int .i64 (u4)), .v (.int .i64 (u5)), .v (.int .i64 (u6)), .v (.int .i64 (u7))], [.v (.int .i64 (v1)), .v (.int .i64 (v2)), .v (.int .i64 (v3)), .v (.int .i64 (v4)), .v (.int .i64 (v5)), .v (.int .i64 (v6)), .v (.int .i64 (v7))]]), .int .i64 top, Q2 x y] (medC ⟨u1, u2, u3, u4, u5, u6, u7⟩ ∧ medC ⟨v1, v2, v3, v4, v5, v6, v7⟩ ∧ medI top ∧ rz x ≤ 6 ∧ rz y ≤ 6) (Q3 (hgt x y [(⟨u1, u2, u3, u4, u5, u6, u7⟩ : Cut7), (⟨v1, v2, v3, v4, v5, v6, v7⟩ : Cut7)] ⟨(top : Rat), 0, 0⟩).a (hgt x y [(⟨u1, u2, u3, u4, u5, u6, u7⟩ : Cut7), (⟨v1, v2, v3, v4, v5, v6, v7⟩ : Cut7)] ⟨(top : Rat), 0, 0⟩).b (hgt x y [(⟨u1, u2, u3, u4, u5, u6, u7⟩ : Cut7), (⟨v1, v2, v3, v4, v5, v6, v7⟩ : Cut7)] ⟨(top : Rat), 0, 0⟩).c) := ⟨fun hp => (inferInstance : DenI Tryz.prog 19 [.c (.sl 7 ([(⟨u1, u2, u3, u4, u5, u6, u7⟩ : Cut7), (⟨v1, v2, v3, v4, v5, v6, v7⟩ : Cut7)].map cuC)), .int .i64 top, Q2 x y] _ _).den ⟨fun c hc => by simp only [List.mem_cons, List.not_mem_nil, or_false] at hc; rcases hc with hc | hc <;> subst hc; exact hp.1; exact hp.2.1, hp.2.2.1, hp.2.2.2.1, hp.2.2.2.2, by simp⟩⟩
instance L_div (a b c d e f : Int) (r p q : Nat) (x y : Int) (w : Nat) : DenI Tryz.prog 6 [.agg [.v (.int .i16 a), .v (.int .i16 b), .v (.int .i16 c), .v (.int .i16 d), .v (.int .i16 e), .v (.int .i16 f), .v (.int .u8 (r : Nat))], .agg [.v (.int .u8 (p : Nat)), .v (.int .u8 (q : Nat))], .agg [.v (.int .i16 x), .v (.int .i16 y), .v (.int .u8 (w : Nat))]] (smallI a ∧ smallI b ∧ smallI c ∧ smallI d ∧ smallI e ∧ smallI f ∧ r ≤ 255 ∧ p ≤ 255 ∧ q ≤ 255 ∧ smallI x ∧ smallI y ∧ w ≤ 255) (.bool true) := ⟨fun hp => by
 obtain ⟨p1, p2, p3, p4, p5, p6, p7, p8, p9, p10, p11, p12⟩ := hp
 have i_qx : RzB (((x : Int) : Rat) / (((w : Int) + 1 : Int) : Rat)) 6 := ⟨rz_q' _ _ (by unfold smallI at *; omega) (by omega)⟩
 have i_qy : RzB (((y : Int) : Rat) / (((w : Int) + 1 : Int) : Rat)) 6 := ⟨rz_q' _ _ (by unfold smallI at *; omega) (by omega)⟩
 have hk := @dvK_le p q
 have ht : medI 1000000 := (by unfold medI; decide)
 have mW := dv_medW p1 p2 p3 p4 p5 p6 p7 (n := q % 7 + 2) (by omega)
 have mK := dv_medW p1 p2 p3 p4 p5 p6 p7 (n := p % (q % 7 + 3)) (by omega)
 have mL := dv_medL p1 p2 p3 p4 p5 p6 p7 (k := p % (q % 7 + 3)) (n := q % 7 + 2) (by omega) (by omega)
 have oW := okR_hgt i_qx.h i_qy.h (L := [_]) (fun c hc => (by rw [List.mem_singleton] at hc; subst hc; exact mW)) (okR_int ht)
 have oP := okR_hgt i_qx.h i_qy.h (L := [_, _]) (fun c hc => (by rcases List.mem_cons.1 hc with hc | hc; subst hc; exact mK; rw [List.mem_singleton] at hc; subst hc; exact mL)) (okR_int ht)
 all_goals refine den_of (τ := tab) tab_ok mixed_ Tryz.func6 rfl (by kernel_rfl) (by kernel_rfl) (by kernel_rfl) ?_
 all_goals (repeat' ((try (conv => whnf)); first
  | refine call_0 ?_
  | refine call_i ?_ ?_
  | refine call_c ?_ (fun _ => ?_) (fun _ => ?_)
  | (with_reducible refine onB_t ?_)
  | (with_reducible refine onB_f ?_)
  | (with_reducible refine onB_d (fun _ => ?_) (fun _ => ?_))
  | (with_reducible refine onB_n (fun _ => ?_) (fun _ => ?_))
  | refine OnB.mk (fun _ => ?_) (fun _ => ?_)
  | refine obl_i ?_ ?_
  | refine Drw.mk (by kernel_rfl) ?_
  | refine mks_i ?_ ?_
  | refine slp_i ?_ ?_
  | (with_reducible refine elem_u ?_ ?_)
  | (with_reducible refine elem_0 ?_)
  | (with_reducible refine elem_1 ?_)
  | refine Ends.mk ?_))
 all_goals (try refine Pr.mk ?_)
 all_goals (try simp (disch := (unfold smallI at *; omega)) only [wi64, dm8] at *)
 all_goals (try simp only [sgnI_lt0, sgnI_zero, sgnI_le0, sgnI_gt0, sgnI_ge0, sgnI_eq1, cmpI_lt0, cmpI_gt0, cmpI_eq0, cmpI_le0, cmpI_ge0, cmpR_of, sgnR_of, sgnR_lt0, sgnR_eq0, sgnR_gt0, sgnR_le0, sgnR_ge0, sgnR_eq1, cmpR_lt0, cmpR_gt0, cmpR_eq0, cmpR_le0, cmpR_ge0] at *)
 all_goals (try simp only [dvN, dvN1, dvK, Int.zero_mul, Int.add_zero] at *)
 all_goals (try simp (disch := omega) only [wi64] at *)
 all_goals first
  | rfl
  | contradiction
  | (unfold smallI at *; omega)
  | (unfold medI at *; omega)
  | exact ⟨p1, p2, p3, p4, p5, p6, by omega, by omega⟩
  | exact ⟨mW, ht, i_qx.h, i_qy.h⟩
  | exact ⟨mK, mL, ht, i_qx.h, i_qy.h⟩
  | omega
  | exact isP2 oP oW
  | (have z := oW.r20; refine ⟨?_, ?_, ?_⟩ <;> omega)
  | exact bE (dv_is (by decide) (by omega) hk oP)
  | (refine bE ?_; exact oW.ok)
  | (exfalso; rename_i hh; rw [oW.ok] at hh; cases hh; done)
  | ((repeat' apply And.intro) <;> first | assumption | exact rzb (by omega) | exact szb (by omega) | (unfold medI at *; omega))
  | (refine bE ?_; simp; done)
  | (exfalso; simp at *; done)
  | (exfalso; simp_all; done)
  | skip⟩

end Go.Proofs.YtigbdpkpaleboaaGreat

namespace Go.Proofs.YtigbdpkpaleboaaGreat
open Go Go.RowKit Go.Sw Go.ChangeShapes Go.WideShapes Go.ChangeAt
set_option maxRecDepth 100000
theorem MaterialDivided_den : ∀ xs, FitAs [.cons (.cons (.int .i16) (.cons (.int .i16) (.cons (.int .i16) .nil))) (.cons (.cons (.int .i16) (.cons (.int .i16) (.cons (.int .i16) .nil))) (.cons (.int .u8) .nil)), .cons (.int .u8) (.cons (.int .u8) .nil), .cons (.int .i16) (.cons (.int .i16) (.cons (.int .u8) .nil))] xs → Den Tryz.prog 6 xs (.bool true) := by
  rintro xs ⟨_, _, ⟨_, ⟨_, _, ⟨_, _, ⟨n1, wn1, rfl⟩, ⟨_, _, ⟨n2, wn2, rfl⟩, ⟨_, _, ⟨n3, wn3, rfl⟩, rfl, rfl⟩, rfl⟩, rfl⟩, ⟨_, _, ⟨_, _, ⟨n4, wn4, rfl⟩, ⟨_, _, ⟨n5, wn5, rfl⟩, ⟨_, _, ⟨n6, wn6, rfl⟩, rfl, rfl⟩, rfl⟩, rfl⟩, ⟨_, _, ⟨n7, wn7, rfl⟩, rfl, rfl⟩, rfl⟩, rfl⟩, rfl⟩, ⟨_, _, ⟨_, ⟨_, _, ⟨n8, wn8, rfl⟩, ⟨_, _, ⟨n9, wn9, rfl⟩, rfl, rfl⟩, rfl⟩, rfl⟩, ⟨_, _, ⟨_, ⟨_, _, ⟨n10, wn10, rfl⟩, ⟨_, _, ⟨n11, wn11, rfl⟩, ⟨_, _, ⟨n12, wn12, rfl⟩, rfl, rfl⟩, rfl⟩, rfl⟩, rfl⟩, rfl, rfl⟩, rfl⟩, rfl⟩
  have wn1 := wfI16 wn1
  have wn2 := wfI16 wn2
  have wn3 := wfI16 wn3
  have wn4 := wfI16 wn4
  have wn5 := wfI16 wn5
  have wn6 := wfI16 wn6
  obtain ⟨mn7, rfl, hmn7⟩ := wfNat (by simp) wn7
  have hmn7 : mn7 < 256 := hmn7
  obtain ⟨mn8, rfl, hmn8⟩ := wfNat (by simp) wn8
  have hmn8 : mn8 < 256 := hmn8
  obtain ⟨mn9, rfl, hmn9⟩ := wfNat (by simp) wn9
  have hmn9 : mn9 < 256 := hmn9
  have wn10 := wfI16 wn10
  have wn11 := wfI16 wn11
  obtain ⟨mn12, rfl, hmn12⟩ := wfNat (by simp) wn12
  have hmn12 : mn12 < 256 := hmn12
  simp only [List.append_nil, List.nil_append, List.cons_append]
  exact DenI.den (P := Tryz.prog) (f := 6) (by unfold smallI; (repeat' apply And.intro) <;> first | trivial | assumption | omega)
set_option maxHeartbeats 800000 in
theorem MaterialDivided_lifted (os : Os) (started : os.Started) (H : Type) (enc : TypeId × Value → H) :
    ReturnsInHanded {} Tryz.checked os 6 .any (Rows.materialDividedSpec.pre6 enc Tryz.prog Tryz.f6 Rows.materialDividedRow.domain false) (Rows.materialDividedSpec.post enc Tryz.prog Tryz.f6 false true false false) := by
  refine returnsInHanded_of_change (C := Tryz.checked) Tryz.own started (by kernel_rfl) Tryz.func6
    (ChangeSpec.witness6 (enc := enc) (C := Tryz.checked) false ⟨#[], #[.agg #[.int .i16 0, .int .i16 0, .int .i16 0, .int .i16 0, .int .i16 0, .int .i16 0, .int .u8 0], .agg #[.int .u8 0, .int .u8 0], .agg #[.int .i16 0, .int .i16 0, .int .u8 0]], []⟩ 12 (by kernel_rfl) (by kernel_rfl) (by kernel_rfl) (by kernel_rfl)) ?_
  intro W base args ds gs before hval0 hW _ _
  have hW' := hW
  obtain ⟨p, q, hA0, hV, rfl, _, _⟩ := hW
  have hA : DataW.TrodAll enc Tryz.prog W 0 (fun _ => true) true Tryz.f6.params.toList args.toList ds p := hA0
  obtain ⟨rfl, rfl⟩ := trodVars_none hV
  obtain ⟨d0, d1, d2, rfl⟩ := len3 (show ds.length = 3 from trodAll_len hA)
  simp only [List.append_nil] at hW'
  have hlt : ∀ x ∈ p, x.block < W.heap.size := fun x hx => by simpa using hW'.lt x hx
  refine (law_run (Ts := [.cons (.cons (.int .i16) (.cons (.int .i16) (.cons (.int .i16) .nil))) (.cons (.cons (.int .i16) (.cons (.int .i16) (.cons (.int .i16) .nil))) (.cons (.int .u8) .nil)), .cons (.int .u8) (.cons (.int .u8) .nil), .cons (.int .i16) (.cons (.int .i16) (.cons (.int .u8) .nil))]) (by kernel_rfl) MaterialDivided_den (fun j t v hj ha => hval0 j t v (by simpa using hj) (by simpa using ha)) hA).mono fun e W' he => ?_
  obtain ⟨_, rfl, rfl, hb⟩ := he
  refine ⟨_, rfl, _, _, _, [], _, [], hW', ?_, trodAll_below Tryz.laidOut hb (by kernel_rfl) hlt hA, rfl, hb.frame _, fun h => by cases h⟩
  exact trodAll_mk1 (shut_bool Tryz.underlying4 _)
theorem MaterialDivided_holds : Rows.MaterialDividedSaid :=
  OpenClaim.holds_of_wide 6 Tryz.f6 rfl rfl rfl rfl rfl rfl rfl ⟨rfl, rfl, rfl, rfl, rfl⟩ rfl rfl rfl rfl rfl (by kernel_rfl) Tryz.func6 (by kernel_rfl)
    (of_decide_eq_true (by kernel_rfl)) (by unfold Func.isWrapper; first | (rw [if_pos (by decide +kernel)]; kernel_rfl) | (rw [if_neg (by decide +kernel)]; exact ⟨rfl, rfl⟩))
    (fun os started H enc _ => MaterialDivided_lifted os started H enc)
#print axioms MaterialDivided_holds
end Go.Proofs.YtigbdpkpaleboaaGreat
