/-
  What the functions swarflaw04.FilterSqrt answer, each out of its text by the abstract run.
  Sqrt gives the specified interval, which contains the square roots, or false: the law returns true for every interval and share.
  Conditions: none.
-/
import Derived.Test.YtjhekoechimbnaaM9
set_option linter.all false
namespace Go.Proofs.Ytjhekoechimbnaa
open Go Go.RowKit Go.Sw
set_option linter.unusedVariables false
set_option maxRecDepth 100000
set_option maxHeartbeats 8000000
instance L_sqrt (a b : Int) (s : Nat) : DenI Try.prog 6 [Iv a b, .int .u8 s] (-9223372036854775808 ≤ a ∧ a ≤ 9223372036854775807 ∧ -9223372036854775808 ≤ b ∧ b ≤ 9223372036854775807 ∧ s < 256) (.bool true) := ⟨fun hp => by
 refine den_of (τ := tab) tab_ok mixed_ Try.func6 rfl (by kernel_rfl) (by kernel_rfl) (by kernel_rfl) ?_
 repeat' ((try (conv => whnf)); first
  | refine call_0 ?_
  | refine call_i ?_ ?_
  | (with_reducible refine onB_t ?_)
  | (with_reducible refine onB_f ?_)
  | (with_reducible refine onB_d (fun _ => ?_) (fun _ => ?_))
  | (with_reducible refine onB_n (fun _ => ?_) (fun _ => ?_))
  | refine OnB.mk (fun _ => ?_) (fun _ => ?_)
  | refine obl_i ?_ ?_
  | refine Drw.mk (by kernel_rfl) ?_
  | refine mks_i ?_ ?_
  | refine slp_i ?_ ?_
  | (with_reducible refine elem_u ?_ ?_)
  | (with_reducible refine elem_0 ?_)
  | (with_reducible refine elem_1 ?_)
  | refine Ends.mk ?_)
 all_goals (try refine Pr.mk ?_)
 all_goals (try simp only [prIv_b] at *)
 all_goals first
  | rfl
  | omega
  | (have z := ivB_sqrt (x := (a, b)) ⟨by simp only; omega, by simp only; omega, by simp only; omega⟩; have z1 := rz_b a b s (by omega) (by omega) (by omega); unfold ivB at z; have z2 := rz_sq z.1 (by omega); have z3 := rz_sq (a := ((sqrtI (a, b)).getD (0, 0)).2) (by omega) z.2.2; have z4 := rz_kk (btwR a b s); have z5 := rz_k; omega)
  | exact bE (decide_eq_true (sqrt_law (by omega) (by omega) (by assumption) (by assumption)).2)
  | (rename_i g1 g2 g3 g4 g5 g6; exact absurd (sqrt_law (by omega) (by omega) g2 g3).1 g4)
  | omega
  | (exfalso; simp at *; done)
  | (refine bE ?_; simp; done)
  | (exfalso; simp_all; done)
  | skip⟩

end Go.Proofs.Ytjhekoechimbnaa

namespace Go.Proofs.Ytjhekoechimbnaa
open Go Go.RowKit Go.Sw Go.ChangeShapes Go.WideShapes Go.ChangeAt
set_option maxRecDepth 100000
theorem FilterSqrt_den : ∀ xs, FitAs [.cons (.int .i64) (.cons (.int .i64) .nil), .int .u8] xs → Den Try.prog 6 xs (.bool true) := by
  rintro xs ⟨_, _, ⟨_, ⟨_, _, ⟨n1, wn1, rfl⟩, ⟨_, _, ⟨n2, wn2, rfl⟩, rfl, rfl⟩, rfl⟩, rfl⟩, ⟨_, _, ⟨_, gn3, rfl⟩, rfl, rfl⟩, rfl⟩
  have wn1 := wfI64 wn1
  have wn2 := wfI64 wn2
  obtain ⟨n3, wn3, rfl⟩ := fit_int gn3
  obtain ⟨mn3, rfl, hmn3⟩ := wfNat (by simp) wn3
  simp only [List.append_nil, List.nil_append, List.cons_append]
  exact DenI.den (P := Try.prog) (f := 6) (by (repeat' apply And.intro) <;> first | trivial | omega)
set_option maxHeartbeats 800000 in
theorem FilterSqrt_lifted (os : Os) (started : os.Started) (H : Type) (enc : TypeId × Value → H) :
    ReturnsInHanded {} Try.checked os 6 .any (Rows.filterSqrtSpec.pre6 enc Try.prog Try.f6 Rows.filterSqrtRow.domain false) (Rows.filterSqrtSpec.post enc Try.prog Try.f6 false true false false) := by
  refine returnsInHanded_of_change (C := Try.checked) Try.own started (by kernel_rfl) Try.func6
    (ChangeSpec.witness6 (enc := enc) (C := Try.checked) false ⟨#[], #[.agg #[.int .i64 0, .int .i64 0], .int .u8 0], []⟩ 12 (by kernel_rfl) (by kernel_rfl) (by kernel_rfl) (by kernel_rfl)) ?_
  intro W base args ds gs before hval0 hW _ _
  have hW' := hW
  obtain ⟨p, q, hA0, hV, rfl, _, _⟩ := hW
  have hA : DataW.TrodAll enc Try.prog W 0 (fun _ => true) true Try.f6.params.toList args.toList ds p := hA0
  obtain ⟨rfl, rfl⟩ := trodVars_none hV
  obtain ⟨d0, d1, rfl⟩ := len2 (show ds.length = 2 from trodAll_len hA)
  simp only [List.append_nil] at hW'
  have hlt : ∀ x ∈ p, x.block < W.heap.size := fun x hx => by simpa using hW'.lt x hx
  refine (law_run (Ts := [.cons (.int .i64) (.cons (.int .i64) .nil), .int .u8]) (by kernel_rfl) FilterSqrt_den (fun j t v hj ha => hval0 j t v (by simpa using hj) (by simpa using ha)) hA).mono fun e W' he => ?_
  obtain ⟨_, rfl, rfl, hb⟩ := he
  refine ⟨_, rfl, _, _, _, [], _, [], hW', ?_, trodAll_below Try.laidOut hb (by kernel_rfl) hlt hA, rfl, hb.frame _, fun h => by cases h⟩
  exact trodAll_mk1 (shut_bool Try.underlying4 _)
theorem FilterSqrt_holds : Rows.FilterSqrtSaid :=
  OpenClaim.holds_of_wide 6 Try.f6 rfl rfl rfl rfl rfl rfl rfl ⟨rfl, rfl, rfl, rfl, rfl⟩ rfl rfl rfl rfl rfl (by kernel_rfl) Try.func6 (by kernel_rfl)
    (of_decide_eq_true (by kernel_rfl)) (by unfold Func.isWrapper; first | (rw [if_pos (by decide +kernel)]; kernel_rfl) | (rw [if_neg (by decide +kernel)]; exact ⟨rfl, rfl⟩))
    (fun os started H enc _ => FilterSqrt_lifted os started H enc)
#print axioms FilterSqrt_holds
end Go.Proofs.Ytjhekoechimbnaa
