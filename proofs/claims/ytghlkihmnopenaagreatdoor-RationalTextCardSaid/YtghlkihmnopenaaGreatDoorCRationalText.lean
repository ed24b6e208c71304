/-
  What the functions swarflaw02.RationalText answer, each out of its text by the abstract run.
  Format gives the specified text, and Parse restores the number and reads no other string: the law returns true for every fraction and string.
  Conditions: none.
-/
import Derived.Test.YtghlkihmnopenaaGreatDoorM13
set_option linter.all false
namespace Go.Proofs.YtghlkihmnopenaaGreatDoor
open Go Go.RowKit Go.Sw
set_option linter.unusedVariables false
set_option maxRecDepth 100000
set_option maxHeartbeats 8000000
set_option synthInstance.maxSize 4000
set_option synthInstance.maxHeartbeats 400000
instance t_pfm (a : Rat) : DenI Tryz.prog 36 [.str (fmtQ a)] (rz a ≤ 1000) (.tup [R a, .int .i64 0]) := ⟨fun h => by
 have z := (inferInstance : DenI Tryz.prog 36 [.str (fmtQ a)] _ (prsR (fmtQ a))).den (by have := fmtQ_le h (by decide); omega)
 rwa [prs_fmt2 h] at z⟩
instance L_text (p1 : Bool) (l1 : List Nat) (q1 : Bool) (m1 : List Nat) (s : ByteArray) : DenI Tryz.prog 6 [Rr p1 l1 q1 m1, .str s] (True) (.bool true) := ⟨fun hp => by
 rcases okr_cases 6 p1 l1 q1 m1 with h | ⟨a, rfl, rfl, rfl, rfl, hz1, h⟩ <;> rcases hb : prsOk s with _ | _
 all_goals (try have i_a : RzB a 12 := ⟨hz1⟩)
 all_goals first
  | (have hN := prs_z hb; have i1 : DenI Tryz.prog 36 [.str s] (s.size ≤ 1000) (.tup [.agg [.v (.bool false), .sl 1 [], .v (.bool false), .sl 1 []], .int .i64 2]) := ⟨fun h => by have z := (inferInstance : DenI Tryz.prog 36 [.str s] _ (prsR s)).den (by omega); rwa [hN] at z⟩; have i2 : DenI Tryz.prog 39 [.str s] (s.size ≤ 1000) (.tup [.agg [.v (.bool false), .sl 1 [], .v (.bool false), .sl 1 []], .int .i64 2]) := ⟨fun h => by have z := (inferInstance : DenI Tryz.prog 39 [.str s] _ (prsR s)).den (by omega); rwa [hN] at z⟩; clear hN)
  | (have hN := (rf_yes hb).2; have i1 : DenI Tryz.prog 36 [.str s] (s.size ≤ 1000) (.tup [R (rfA s), .int .i64 0]) := ⟨fun h => by have z := (inferInstance : DenI Tryz.prog 36 [.str s] _ (prsR s)).den (by omega); rwa [hN] at z⟩; have i2 : DenI Tryz.prog 39 [.str s] (s.size ≤ 1000) (.tup [R (rfA s), .int .i64 0]) := ⟨fun h => by have z := (inferInstance : DenI Tryz.prog 39 [.str s] _ (prsR s)).den (by omega); rwa [hN] at z⟩; clear hN)
 all_goals refine den_of (τ := tabs) tabs_ok mixed_ Tryz.func6 rfl (by kernel_rfl) (by kernel_rfl) (by kernel_rfl) ?_
 all_goals (repeat' ((try (conv => whnf)); first
  | refine call_0 ?_
  | refine call_i ?_ ?_
  | refine call_c ?_ (fun _ => ?_) (fun _ => ?_)
  | (with_reducible refine onB_t ?_)
  | (with_reducible refine onB_f ?_)
  | (with_reducible refine onB_d (fun _ => ?_) (fun _ => ?_))
  | (with_reducible refine onB_n (fun _ => ?_) (fun _ => ?_))
  | refine OnB.mk (fun _ => ?_) (fun _ => ?_)
  | refine obl_i ?_ ?_
  | refine Drw.mk (by kernel_rfl) ?_
  | refine mks_i ?_ ?_
  | refine slp_i ?_ ?_
  | (with_reducible refine elem_u ?_ ?_)
  | (with_reducible refine elem_0 ?_)
  | (with_reducible refine elem_1 ?_)
  | refine Ends.mk ?_))
 all_goals (try refine Pr.mk ?_)
 all_goals (try simp only [sgnI_lt0, sgnI_zero, sgnI_le0, sgnI_gt0, sgnI_ge0, sgnI_eq1, cmpI_lt0, cmpI_gt0, cmpI_eq0, cmpI_le0, cmpI_ge0, cmpR_of, sgnR_of, sgnR_lt0, sgnR_eq0, sgnR_gt0, sgnR_le0, sgnR_ge0, sgnR_eq1, cmpR_lt0, cmpR_gt0, cmpR_eq0, cmpR_le0, cmpR_ge0] at *)
 all_goals (try clear i1 i2)
 all_goals first
  | omega
  | (have z := hz1; omega)
  | (have z := rfA_sz (s := s) (by omega) hb; omega)
  | (have z := rfA_sz (s := s) (by omega) hb; constructor <;> omega)
  | rfl
  | trivial
  | ((repeat' apply And.intro) <;> first | assumption | exact rzb (by omega) | exact szb (by omega) | exact Int.mul_ne_zero (den_ne _) (den_ne _))
  | (exfalso; exact absurd rfl (by assumption))
  | (exfalso; grind)
  | (refine bE ?_; simp_all; done)
  | (exfalso; simp_all; done)
  | skip⟩

end Go.Proofs.YtghlkihmnopenaaGreatDoor

namespace Go.Proofs.YtghlkihmnopenaaGreatDoor
open Go Go.RowKit Go.Sw Go.ChangeShapes Go.WideShapes Go.ChangeAt
set_option maxRecDepth 100000
theorem RationalText_den : ∀ xs, FitAs [.cons (.cons (.bool) (.cons (.slice (.int .u32)) .nil)) (.cons (.cons (.bool) (.cons (.slice (.int .u32)) .nil)) .nil), .str] xs → Den Tryz.prog 6 xs (.bool true) := by
  rintro xs ⟨_, _, ⟨_, ⟨_, _, ⟨_, _, ⟨b1, rfl⟩, ⟨_, _, fl2, rfl, rfl⟩, rfl⟩, ⟨_, _, ⟨_, _, ⟨b3, rfl⟩, ⟨_, _, fl4, rfl, rfl⟩, rfl⟩, rfl, rfl⟩, rfl⟩, rfl⟩, ⟨_, _, ⟨_, gs5, rfl⟩, rfl, rfl⟩, rfl⟩
  obtain ⟨l2, zl2, yl2, rfl⟩ := fit_limbs fl2
  obtain ⟨l4, zl4, yl4, rfl⟩ := fit_limbs fl4
  obtain ⟨s5, zs5, rfl⟩ := fit_str gs5
  try simp only [List.append_nil, List.nil_append, List.cons_append]
  exact DenI.den (P := Tryz.prog) (f := 6) (by (repeat' apply And.intro) <;> first | trivial | omega)
theorem RationalText_world {W : World} (h : laidMetH Tryz.prog Rows.rationalTextRow.laid W) : Wld.ok Tryz.prog W := by
  rw [MakeChecks.laidMetH_plain _ _ _ (by kernel_rfl)] at h
  exact tab_of (zs := Lib.pow10Tab) (g := 1) (t := 131) (e := 75) h (List.mem_of_getElem? (i := 2) (by kernel_rfl)) (by kernel_rfl) (by kernel_rfl) Tryz.underlying131 Tryz.underlying75 (by kernel_rfl) (by kernel_rfl)
set_option maxHeartbeats 800000 in
theorem RationalText_lifted (os : Os) (started : os.Started) (H : Type) (enc : TypeId × Value → H) :
    ReturnsInHanded {} Tryz.checked os 6 .any (fun w args => (Rows.rationalTextSpec.pre enc Tryz.prog Tryz.f6 [] false w args ∧ laidMetH Tryz.prog Rows.rationalTextRow.laid w) ∧ sizedMet enc Tryz.prog Tryz.f6 (OpenSpec.ofChange Rows.rationalTextSpec) false w args) (Rows.rationalTextSpec.post enc Tryz.prog Tryz.f6 false true false false) := by
  refine returnsInHanded_of_change_and (C := Tryz.checked) (X := fun w _ => laidMetH Tryz.prog Rows.rationalTextRow.laid w) (fun _ _ _ hh h => h.of_heap hh) Tryz.own started (by kernel_rfl) Tryz.func6
    (ChangeSpec.witness_shaped (enc := enc) (C := Tryz.checked) (os := os) (X := fun w _ => laidMetH Tryz.prog Rows.rationalTextRow.laid w) false (World.laidAll Tryz.prog os Rows.rationalTextRow.laid) #[.agg #[.bool false, .slice none 0 0, .bool false, .slice none 0 0], .string ByteArray.empty] 12 (World.laidAll_os _ _ _)
      (World.shaped_of_ZipB (by kernel_rfl) (by kernel_rfl)) (by kernel_rfl) (by kernel_rfl) (by kernel_rfl)
      (by rw [MakeChecks.laidMetH_plain _ _ _ (by kernel_rfl)]; exact laidMet_laidAll _ (by kernel_rfl) (by kernel_rfl))) ?_
  intro W base args ds gs before hval0 hW _ _ hL _
  have hW' := hW
  obtain ⟨p, q, hA0, hV, rfl, _, _⟩ := hW
  have hA : DataW.TrodAll enc Tryz.prog W 0 (fun _ => true) true Tryz.f6.params.toList args.toList ds p := hA0
  obtain ⟨rfl, rfl⟩ := trodVars_none hV
  obtain ⟨d0, d1, rfl⟩ := len2 (show ds.length = 2 from trodAll_len hA)
  simp only [List.append_nil] at hW'
  have hlt : ∀ x ∈ p, x.block < W.heap.size := fun x hx => by simpa using hW'.lt x hx
  refine (law_run (Ts := [.cons (.cons (.bool) (.cons (.slice (.int .u32)) .nil)) (.cons (.cons (.bool) (.cons (.slice (.int .u32)) .nil)) .nil), .str]) (by kernel_rfl) RationalText_den (fun j t v hj ha => hval0 j t v (by simpa using hj) (by simpa using ha)) hA (RationalText_world hL)).mono fun e W' he => ?_
  obtain ⟨_, rfl, rfl, hb⟩ := he
  refine ⟨_, rfl, _, _, _, [], _, [], hW', ?_, trodAll_below Tryz.laidOut hb (by kernel_rfl) hlt hA, rfl, hb.frame _, fun h => by cases h⟩
  exact trodAll_mk1 (shut_bool Tryz.underlying4 _)
theorem RationalText_row : Rows.RationalTextSaid :=
  OpenClaim.holds_of_wide 6 Tryz.f6 rfl rfl rfl rfl rfl rfl rfl ⟨rfl, rfl, rfl, rfl, rfl⟩ rfl rfl rfl rfl rfl (by kernel_rfl) Tryz.func6 (by kernel_rfl)
    (of_decide_eq_true (by kernel_rfl)) (by unfold Func.isWrapper; first | (rw [if_pos (by decide +kernel)]; kernel_rfl) | (rw [if_neg (by decide +kernel)]; exact ⟨rfl, rfl⟩))
    (fun os started H enc _ => RationalText_lifted os started H enc)
theorem RationalText_holds : Rows.RationalTextCardSaid :=
  Claim7.holds_tied_plain_at .later [] [.data, .data, .data] true (true, "b1b54a3cdfadc512e161576f3b042f79bb56210ac94dbdacb5ba0d7036b5e27c") false RationalText_row (fun _ h => by cases h) (by kernel_rfl) (fun _ h => by cases h) rationalText_row_tie rfl ⟨rfl, rfl⟩ (by kernel_rfl) rfl
    (fun f fn hf hfn => by
      obtain rfl : f = 6 := Option.some.inj ((show Tryz.prog.funcNamed "swarf/swarflaw02.RationalText" = some 6 by kernel_rfl).symm.trans hf) |>.symm
      obtain rfl : fn = Tryz.f6 := (Option.some.inj (Tryz.func6.symm.trans hfn)).symm
      exact ⟨by kernel_rfl, fun j t ht => by
        have hm : t ∈ Tryz.f6.params.toList := Array.mem_toList_iff.2 (Array.mem_of_getElem? ht)
        have hall : (Tryz.f6.params.toList.all fun u => !Tryz.prog.wantsStandIn u) = true := by kernel_rfl
        exact (show Tryz.prog.wantsStandIn t = false by simpa using List.all_eq_true.1 hall t hm)⟩)
    (by kernel_rfl)
#print axioms RationalText_holds
end Go.Proofs.YtghlkihmnopenaaGreatDoor
