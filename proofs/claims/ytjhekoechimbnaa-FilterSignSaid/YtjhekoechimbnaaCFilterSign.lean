/-
  What the functions swarflaw04.FilterSign, swarflaw04.FilterSums answer, each out of its text by the abstract run.
  Sign gives the sign of all numbers of an interval: the law returns true for every interval.
  Conditions: none.
-/
import Derived.Test.YtjhekoechimbnaaM9
set_option linter.all false
namespace Go.Proofs.Ytjhekoechimbnaa
open Go Go.RowKit Go.Sw
set_option linter.unusedVariables false
set_option maxRecDepth 100000
set_option maxHeartbeats 8000000
instance L_sign (l h : Int) : DenI Try.prog 8 [Iv l h] (-9223372036854775808 ≤ l ∧ l ≤ 9223372036854775807 ∧ -9223372036854775808 ≤ h ∧ h ≤ 9223372036854775807) (.bool true) := ⟨fun hp => by
 refine den_of (τ := tab) tab_ok mixed_ Try.func8 rfl (by kernel_rfl) (by kernel_rfl) (by kernel_rfl) ?_
 repeat' ((try (conv => whnf)); first
  | refine call_0 ?_
  | refine call_i ?_ ?_
  | (with_reducible refine onB_t ?_)
  | (with_reducible refine onB_f ?_)
  | (with_reducible refine onB_d (fun _ => ?_) (fun _ => ?_))
  | (with_reducible refine onB_n (fun _ => ?_) (fun _ => ?_))
  | refine OnB.mk (fun _ => ?_) (fun _ => ?_)
  | refine obl_i ?_ ?_
  | refine Drw.mk (by kernel_rfl) ?_
  | refine mks_i ?_ ?_
  | refine slp_i ?_ ?_
  | (with_reducible refine elem_u ?_ ?_)
  | (with_reducible refine elem_0 ?_)
  | (with_reducible refine elem_1 ?_)
  | refine Ends.mk ?_)
 all_goals (try refine Pr.mk ?_)
 all_goals (try simp only [prIv_b] at *)
 all_goals first
  | rfl
  | omega
  | (exfalso; simp at *; done)
  | (refine bE ?_; simp; done)
  | (exfalso; simp_all; done)⟩

instance L_sums (a b c d : Int) : DenI Try.prog 4 [Iv a b, Iv c d] (-9223372036854775808 ≤ a ∧ a ≤ 9223372036854775807 ∧ -9223372036854775808 ≤ b ∧ b ≤ 9223372036854775807 ∧ -9223372036854775808 ≤ c ∧ c ≤ 9223372036854775807 ∧ -9223372036854775808 ≤ d ∧ d ≤ 9223372036854775807) (.bool true) := ⟨fun hp => by
 refine den_of (τ := tab) tab_ok mixed_ Try.func4 rfl (by kernel_rfl) (by kernel_rfl) (by kernel_rfl) ?_
 repeat' ((try (conv => whnf)); first
  | refine call_0 ?_
  | refine call_i ?_ ?_
  | (with_reducible refine onB_t ?_)
  | (with_reducible refine onB_f ?_)
  | (with_reducible refine onB_d (fun _ => ?_) (fun _ => ?_))
  | (with_reducible refine onB_n (fun _ => ?_) (fun _ => ?_))
  | refine OnB.mk (fun _ => ?_) (fun _ => ?_)
  | refine obl_i ?_ ?_
  | refine Drw.mk (by kernel_rfl) ?_
  | refine mks_i ?_ ?_
  | refine slp_i ?_ ?_
  | (with_reducible refine elem_u ?_ ?_)
  | (with_reducible refine elem_0 ?_)
  | (with_reducible refine elem_1 ?_)
  | refine Ends.mk ?_)
 all_goals (try refine Pr.mk ?_)
 all_goals (try simp only [prIv_b] at *)
 all_goals first
  | rfl
  | omega
  | (exfalso; simp at *; done)
  | (refine bE ?_; simp; done)
  | (exfalso; simp_all; done)⟩

end Go.Proofs.Ytjhekoechimbnaa

namespace Go.Proofs.Ytjhekoechimbnaa
open Go Go.RowKit Go.Sw Go.ChangeShapes Go.WideShapes Go.ChangeAt
set_option maxRecDepth 100000
theorem FilterSign_den : ∀ xs, FitAs [.cons (.int .i64) (.cons (.int .i64) .nil)] xs → Den Try.prog 8 xs (.bool true) := by
  rintro xs ⟨_, _, ⟨_, ⟨_, _, ⟨n1, wn1, rfl⟩, ⟨_, _, ⟨n2, wn2, rfl⟩, rfl, rfl⟩, rfl⟩, rfl⟩, rfl, rfl⟩
  have wn1 := wfI64 wn1
  have wn2 := wfI64 wn2
  simp only [List.append_nil, List.nil_append, List.cons_append]
  exact DenI.den (P := Try.prog) (f := 8) (by (repeat' apply And.intro) <;> first | trivial | omega)
set_option maxHeartbeats 800000 in
theorem FilterSign_lifted (os : Os) (started : os.Started) (H : Type) (enc : TypeId × Value → H) :
    ReturnsInHanded {} Try.checked os 8 .any (Rows.filterSignSpec.pre6 enc Try.prog Try.f8 Rows.filterSignRow.domain false) (Rows.filterSignSpec.post enc Try.prog Try.f8 false true false false) := by
  refine returnsInHanded_of_change (C := Try.checked) Try.own started (by kernel_rfl) Try.func8
    (ChangeSpec.witness6 (enc := enc) (C := Try.checked) false ⟨#[], #[.agg #[.int .i64 0, .int .i64 0]], []⟩ 12 (by kernel_rfl) (by kernel_rfl) (by kernel_rfl) (by kernel_rfl)) ?_
  intro W base args ds gs before hval0 hW _ _
  have hW' := hW
  obtain ⟨p, q, hA0, hV, rfl, _, _⟩ := hW
  have hA : DataW.TrodAll enc Try.prog W 0 (fun _ => true) true Try.f8.params.toList args.toList ds p := hA0
  obtain ⟨rfl, rfl⟩ := trodVars_none hV
  obtain ⟨d0, rfl⟩ := len1 (show ds.length = 1 from trodAll_len hA)
  simp only [List.append_nil] at hW'
  have hlt : ∀ x ∈ p, x.block < W.heap.size := fun x hx => by simpa using hW'.lt x hx
  refine (law_run (Ts := [.cons (.int .i64) (.cons (.int .i64) .nil)]) (by kernel_rfl) FilterSign_den (fun j t v hj ha => hval0 j t v (by simpa using hj) (by simpa using ha)) hA).mono fun e W' he => ?_
  obtain ⟨_, rfl, rfl, hb⟩ := he
  refine ⟨_, rfl, _, _, _, [], _, [], hW', ?_, trodAll_below Try.laidOut hb (by kernel_rfl) hlt hA, rfl, hb.frame _, fun h => by cases h⟩
  exact trodAll_mk1 (shut_bool Try.underlying4 _)
theorem FilterSign_holds : Rows.FilterSignSaid :=
  OpenClaim.holds_of_wide 8 Try.f8 rfl rfl rfl rfl rfl rfl rfl ⟨rfl, rfl, rfl, rfl, rfl⟩ rfl rfl rfl rfl rfl (by kernel_rfl) Try.func8 (by kernel_rfl)
    (of_decide_eq_true (by kernel_rfl)) (by unfold Func.isWrapper; first | (rw [if_pos (by decide +kernel)]; kernel_rfl) | (rw [if_neg (by decide +kernel)]; exact ⟨rfl, rfl⟩))
    (fun os started H enc _ => FilterSign_lifted os started H enc)
#print axioms FilterSign_holds
end Go.Proofs.Ytjhekoechimbnaa
