/-
  What the functions swarflaw52.MaterialOrder answer, each out of its text by the abstract run.
  The order of cuts does not matter, and further cuts do not raise the material: the law returns true for every list of cuts and every point.
  Conditions: none.
-/
import Derived.Test.YtigbdpkpaleboaaGreatM13
set_option linter.all false
namespace Go.Proofs.YtigbdpkpaleboaaGreat
open Go Go.RowKit Go.Sw
set_option linter.unusedVariables false
set_option maxRecDepth 100000
set_option maxHeartbeats 8000000
set_option synthInstance.maxSize 4000
set_option synthInstance.maxHeartbeats 400000
instance l_of2 (L : List Cut7) (a b c d : Nat) : DenI Tryz.prog 20 [.c (.sl 7 (((((L.map cuC).take a).drop b) ++ (((L.map cuC).take c).drop d)).reverse))] ((cutM L a b c d).length ≤ 12) (.c (.sl 7 ((cutM L a b c d).map cuC))) := ⟨fun hp => by rw [cutM_map]; exact (inferInstance : DenI Tryz.prog 20 [.c (.sl 7 ((cutM L a b c d).map cuC))] (_ ≤ 12) (.c (.sl 7 (_)))).den hp⟩
instance l_of3 (L : List Cut7) (a b : Nat) : DenI Tryz.prog 20 [.c (.sl 7 (((L.map cuC).take a).drop b))] (((L.take a).drop b).length ≤ 12) (.c (.sl 7 (((L.take a).drop b).map cuC))) := ⟨fun hp => by rw [part_map]; exact (inferInstance : DenI Tryz.prog 20 [.c (.sl 7 (((L.take a).drop b).map cuC))] (_ ≤ 12) (.c (.sl 7 (_)))).den hp⟩
instance L_ord (L : List Stk) (k : Nat) (x y : Int) (w : Nat) : DenI Tryz.prog 9 [.c (.sl 7 (L.map stC)), .int .u8 (k : Nat), .agg [.v (.int .i16 x), .v (.int .i16 y), .v (.int .u8 (w : Nat))]] ((∀ s ∈ L, okS s) ∧ k ≤ 255 ∧ smallI x ∧ smallI y ∧ w ≤ 255) (.bool true) := ⟨fun hp => by
 obtain ⟨hs, p1, p2, p3, p4⟩ := hp
 have ht : medI 50 := (by unfold medI; omega)
 have hM := meds_of hs
 have hl := len12 (L := L)
 have i_qx : RzB (((x : Int) : Rat) / (((w : Int) + 1 : Int) : Rat)) 6 := ⟨rz_q' _ _ (by unfold smallI at *; omega) (by omega)⟩
 have i_qy : RzB (((y : Int) : Rat) / (((w : Int) + 1 : Int) : Rat)) 6 := ⟨rz_q' _ _ (by unfold smallI at *; omega) (by omega)⟩
 have hn : ∀ l : Nat, 0 < l → k % l < l := fun l h => Nat.mod_lt k h
 have ow := okR_hgt (L := ((L.take 12).map ofS)) i_qx.h i_qy.h hM (okR_int ht)
 have ou := fun n => okR_hgt (L := turnL ((L.take 12).map ofS) n) i_qx.h i_qy.h (turn_med hM) (okR_int ht)
 have op := fun n => okR_hgt (L := ((L.take 12).map ofS).take n) i_qx.h i_qy.h (take_med hM) (okR_int ht)
 all_goals refine den_of (τ := tab) tab_ok mixed_ Tryz.func9 rfl (by kernel_rfl) (by kernel_rfl) (by kernel_rfl) ?_
 all_goals (repeat' ((try (conv => whnf)); first
  | refine call_0 ?_
  | refine call_i ?_ ?_
  | refine call_c ?_ (fun _ => ?_) (fun _ => ?_)
  | (with_reducible refine onB_t ?_)
  | (with_reducible refine onB_f ?_)
  | (with_reducible refine onB_d (fun _ => ?_) (fun _ => ?_))
  | (with_reducible refine onB_n (fun _ => ?_) (fun _ => ?_))
  | refine OnB.mk (fun _ => ?_) (fun _ => ?_)
  | refine obl_i ?_ ?_
  | refine Drw.mk (by kernel_rfl) ?_
  | refine mks_i ?_ ?_
  | refine slp_i ?_ ?_
  | (with_reducible refine elem_u ?_ ?_)
  | (with_reducible refine elem_0 ?_)
  | (with_reducible refine elem_1 ?_)
  | refine Ends.mk ?_))
 all_goals (try refine Pr.mk ?_)
 all_goals (try simp (disch := (unfold smallI at *; omega)) only [wi64, dm8] at *)
 all_goals (try simp only [sgnI_lt0, sgnI_zero, sgnI_le0, sgnI_gt0, sgnI_ge0, sgnI_eq1, cmpI_lt0, cmpI_gt0, cmpI_eq0, cmpI_le0, cmpI_ge0, cmpR_of, sgnR_of, sgnR_lt0, sgnR_eq0, sgnR_gt0, sgnR_le0, sgnR_ge0, sgnR_eq1, cmpR_lt0, cmpR_gt0, cmpR_eq0, cmpR_le0, cmpR_ge0] at *)
 all_goals (try generalize ((L.take 12).map ofS) = M at *)
 all_goals (try simp only [Option.getD_none, Option.getD_some, List.length_map, tmodNN, Int.toNat_natCast, tn0, cutM_turn, List.take_length, List.drop_zero] at *)
 all_goals first
  | rfl
  | contradiction
  | (unfold smallI at *; omega)
  | (unfold medI at *; omega)
  | exact hs
  | exact hl
  | exact ⟨hM, ht, i_qx.h, i_qy.h, hl⟩
  | exact ⟨turn_med hM, ht, i_qx.h, i_qy.h, by rw [turn_len]; exact hl⟩
  | exact ⟨take_med hM, ht, i_qx.h, i_qy.h, take_len hl⟩
  | (rw [turn_len]; exact hl)
  | exact take_len hl
  | (have z := hn M.length (by omega); simp only [List.length_append, List.length_drop, List.length_take, List.length_map]; refine ⟨trivial, ?_⟩; omega)
  | exact List.length_reverse.symm
  | (refine bE ?_; exact decide_eq_true (ord_sub (by decide)))
  | (exfalso; rename_i hh; rw [ord_is (by decide) ow] at hh; cases hh; done)
  | (exfalso; rename_i hh; rw [(op _).ok] at hh; cases hh; done)
  | exact bE (ord_is (by decide) ow)
  | exact isP2 ow (ou _)
  | exact cmP ow (op _)
  | (have z := (op (k % M.length)).r20; refine ⟨?_, ?_, ?_⟩ <;> omega)
  | (refine bE ?_; exact (op _).ok)
  | (have z := hn M.length (by omega); omega)
  | (have z := hn M.length (by omega); refine ⟨by omega, by omega, by omega, by omega, fun h => ?_⟩; first | exact h | cases h)
  | (have z := hn M.length (by omega); simp only [List.length_append, List.length_drop, List.length_take, List.length_map]; omega)
  | ((repeat' apply And.intro) <;> first | assumption | exact rzb (by omega) | exact szb (by omega) | (unfold medI at *; omega))
  | (refine bE ?_; simp; done)
  | (exfalso; simp at *; done)
  | (exfalso; simp_all; done)
  | skip⟩

end Go.Proofs.YtigbdpkpaleboaaGreat

namespace Go.Proofs.YtigbdpkpaleboaaGreat
open Go Go.RowKit Go.Sw Go.ChangeShapes Go.WideShapes Go.ChangeAt
set_option maxRecDepth 100000
theorem MaterialOrder_den : ∀ xs, FitAs [.slice (.cons (.cons (.int .i16) (.cons (.int .i16) (.cons (.int .i16) .nil))) (.cons (.cons (.int .i16) (.cons (.int .i16) (.cons (.int .i16) .nil))) (.cons (.int .u8) .nil))), .int .u8, .cons (.int .i16) (.cons (.int .i16) (.cons (.int .u8) .nil))] xs → Den Tryz.prog 9 xs (.bool true) := by
  rintro xs ⟨_, _, ⟨_, ge1, rfl⟩, ⟨_, _, ⟨_, gn2, rfl⟩, ⟨_, _, ⟨_, ⟨_, _, ⟨n3, wn3, rfl⟩, ⟨_, _, ⟨n4, wn4, rfl⟩, ⟨_, _, ⟨n5, wn5, rfl⟩, rfl, rfl⟩, rfl⟩, rfl⟩, rfl⟩, rfl, rfl⟩, rfl⟩, rfl⟩
  obtain ⟨e1, ze1, ye1, rfl⟩ := fit_stks ge1
  obtain ⟨n2, wn2, rfl⟩ := fit_int gn2
  obtain ⟨mn2, rfl, hmn2⟩ := wfNat (by simp) wn2
  have hmn2 : mn2 < 256 := hmn2
  have wn3 := wfI16 wn3
  have wn4 := wfI16 wn4
  obtain ⟨mn5, rfl, hmn5⟩ := wfNat (by simp) wn5
  have hmn5 : mn5 < 256 := hmn5
  simp only [List.append_nil, List.nil_append, List.cons_append]
  exact DenI.den (P := Tryz.prog) (f := 9) (by unfold smallI; (repeat' apply And.intro) <;> first | trivial | assumption | omega)
set_option maxHeartbeats 800000 in
theorem MaterialOrder_lifted (os : Os) (started : os.Started) (H : Type) (enc : TypeId × Value → H) :
    ReturnsInHanded {} Tryz.checked os 9 .any (Rows.materialOrderSpec.pre6 enc Tryz.prog Tryz.f9 Rows.materialOrderRow.domain false) (Rows.materialOrderSpec.post enc Tryz.prog Tryz.f9 false true false false) := by
  refine returnsInHanded_of_change (C := Tryz.checked) Tryz.own started (by kernel_rfl) Tryz.func9
    (ChangeSpec.witness6 (enc := enc) (C := Tryz.checked) false ⟨#[], #[.slice none 0 0, .int .u8 0, .agg #[.int .i16 0, .int .i16 0, .int .u8 0]], []⟩ 12 (by kernel_rfl) (by kernel_rfl) (by kernel_rfl) (by kernel_rfl)) ?_
  intro W base args ds gs before hval0 hW _ _
  have hW' := hW
  obtain ⟨p, q, hA0, hV, rfl, _, _⟩ := hW
  have hA : DataW.TrodAll enc Tryz.prog W 0 (fun _ => true) true Tryz.f9.params.toList args.toList ds p := hA0
  obtain ⟨rfl, rfl⟩ := trodVars_none hV
  obtain ⟨d0, d1, d2, rfl⟩ := len3 (show ds.length = 3 from trodAll_len hA)
  simp only [List.append_nil] at hW'
  have hlt : ∀ x ∈ p, x.block < W.heap.size := fun x hx => by simpa using hW'.lt x hx
  refine (law_run (Ts := [.slice (.cons (.cons (.int .i16) (.cons (.int .i16) (.cons (.int .i16) .nil))) (.cons (.cons (.int .i16) (.cons (.int .i16) (.cons (.int .i16) .nil))) (.cons (.int .u8) .nil))), .int .u8, .cons (.int .i16) (.cons (.int .i16) (.cons (.int .u8) .nil))]) (by kernel_rfl) MaterialOrder_den (fun j t v hj ha => hval0 j t v (by simpa using hj) (by simpa using ha)) hA).mono fun e W' he => ?_
  obtain ⟨_, rfl, rfl, hb⟩ := he
  refine ⟨_, rfl, _, _, _, [], _, [], hW', ?_, trodAll_below Tryz.laidOut hb (by kernel_rfl) hlt hA, rfl, hb.frame _, fun h => by cases h⟩
  exact trodAll_mk1 (shut_bool Tryz.underlying4 _)
theorem MaterialOrder_holds : Rows.MaterialOrderSaid :=
  OpenClaim.holds_of_wide 9 Tryz.f9 rfl rfl rfl rfl rfl rfl rfl ⟨rfl, rfl, rfl, rfl, rfl⟩ rfl rfl rfl rfl rfl (by kernel_rfl) Tryz.func9 (by kernel_rfl)
    (of_decide_eq_true (by kernel_rfl)) (by unfold Func.isWrapper; first | (rw [if_pos (by decide +kernel)]; kernel_rfl) | (rw [if_neg (by decide +kernel)]; exact ⟨rfl, rfl⟩))
    (fun os started H enc _ => MaterialOrder_lifted os started H enc)
#print axioms MaterialOrder_holds
end Go.Proofs.YtigbdpkpaleboaaGreat
