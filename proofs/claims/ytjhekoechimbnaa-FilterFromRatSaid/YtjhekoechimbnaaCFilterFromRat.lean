/-
  What the functions swarflaw04.FilterFromRat answer, each out of its text by the abstract run.
  FromRat gives the specified interval, which contains the number, or false: the law returns true for every number.
  Conditions: none.
-/
import Derived.Test.YtjhekoechimbnaaM9
set_option linter.all false
namespace Go.Proofs.Ytjhekoechimbnaa
open Go Go.RowKit Go.Sw
set_option linter.unusedVariables false
set_option maxRecDepth 100000
set_option maxHeartbeats 8000000
instance L_from (p1 : Bool) (l1 : List Nat) (q1 : Bool) (m1 : List Nat) : DenI Try.prog 3 [.agg [.v (.bool p1), lmc l1, .v (.bool q1), lmc m1]] (True) (.bool true) := ⟨fun hp => by
 rcases okr_cases 8 p1 l1 q1 m1 with h | ⟨a, rfl, rfl, rfl, rfl, hz, h⟩
 all_goals refine den_of (τ := tab) tab_ok mixed_ Try.func3 rfl (by kernel_rfl) (by kernel_rfl) (by kernel_rfl) ?_
 all_goals (repeat' ((try (conv => whnf)); first
  | refine call_0 ?_
  | refine call_i ?_ ?_
  | (with_reducible refine onB_t ?_)
  | (with_reducible refine onB_f ?_)
  | (with_reducible refine onB_d (fun _ => ?_) (fun _ => ?_))
  | (with_reducible refine onB_n (fun _ => ?_) (fun _ => ?_))
  | refine OnB.mk (fun _ => ?_) (fun _ => ?_)
  | refine obl_i ?_ ?_
  | refine Drw.mk (by kernel_rfl) ?_
  | refine mks_i ?_ ?_
  | refine slp_i ?_ ?_
  | (with_reducible refine elem_u ?_ ?_)
  | (with_reducible refine elem_0 ?_)
  | (with_reducible refine elem_1 ?_)
  | refine Ends.mk ?_))
 all_goals (try refine Pr.mk ?_)
 all_goals first
  | rfl
  | exact bE (in_from (by assumption))
  | (have z := ivB_from a; unfold ivB at z; omega)
  | omega
  | (exfalso; simp at *; done)
  | (refine bE ?_; simp; done)
  | (exfalso; simp_all; done)⟩

end Go.Proofs.Ytjhekoechimbnaa

namespace Go.Proofs.Ytjhekoechimbnaa
open Go Go.RowKit Go.Sw Go.ChangeShapes Go.WideShapes Go.ChangeAt
set_option maxRecDepth 100000
theorem FilterFromRat_den : ∀ xs, FitAs [.cons (.cons (.bool) (.cons (.slice (.int .u32)) .nil)) (.cons (.cons (.bool) (.cons (.slice (.int .u32)) .nil)) .nil)] xs → Den Try.prog 3 xs (.bool true) := by
  rintro xs ⟨_, _, ⟨_, ⟨_, _, ⟨_, _, ⟨b1, rfl⟩, ⟨_, _, fl2, rfl, rfl⟩, rfl⟩, ⟨_, _, ⟨_, _, ⟨b3, rfl⟩, ⟨_, _, fl4, rfl, rfl⟩, rfl⟩, rfl, rfl⟩, rfl⟩, rfl⟩, rfl, rfl⟩
  obtain ⟨l2, zl2, yl2, rfl⟩ := fit_limbs fl2
  obtain ⟨l4, zl4, yl4, rfl⟩ := fit_limbs fl4
  simp only [List.append_nil, List.nil_append, List.cons_append]
  exact DenI.den (P := Try.prog) (f := 3) (by (repeat' apply And.intro) <;> first | trivial | omega)
set_option maxHeartbeats 800000 in
theorem FilterFromRat_lifted (os : Os) (started : os.Started) (H : Type) (enc : TypeId × Value → H) :
    ReturnsInHanded {} Try.checked os 3 .any (Rows.filterFromRatSpec.pre6 enc Try.prog Try.f3 Rows.filterFromRatRow.domain false) (Rows.filterFromRatSpec.post enc Try.prog Try.f3 false true false false) := by
  refine returnsInHanded_of_change (C := Try.checked) Try.own started (by kernel_rfl) Try.func3
    (ChangeSpec.witness6 (enc := enc) (C := Try.checked) false ⟨#[], #[.agg #[.bool false, .slice none 0 0, .bool false, .slice none 0 0]], []⟩ 12 (by kernel_rfl) (by kernel_rfl) (by kernel_rfl) (by kernel_rfl)) ?_
  intro W base args ds gs before hval0 hW _ _
  have hW' := hW
  obtain ⟨p, q, hA0, hV, rfl, _, _⟩ := hW
  have hA : DataW.TrodAll enc Try.prog W 0 (fun _ => true) true Try.f3.params.toList args.toList ds p := hA0
  obtain ⟨rfl, rfl⟩ := trodVars_none hV
  obtain ⟨d0, rfl⟩ := len1 (show ds.length = 1 from trodAll_len hA)
  simp only [List.append_nil] at hW'
  have hlt : ∀ x ∈ p, x.block < W.heap.size := fun x hx => by simpa using hW'.lt x hx
  refine (law_run (Ts := [.cons (.cons (.bool) (.cons (.slice (.int .u32)) .nil)) (.cons (.cons (.bool) (.cons (.slice (.int .u32)) .nil)) .nil)]) (by kernel_rfl) FilterFromRat_den (fun j t v hj ha => hval0 j t v (by simpa using hj) (by simpa using ha)) hA).mono fun e W' he => ?_
  obtain ⟨_, rfl, rfl, hb⟩ := he
  refine ⟨_, rfl, _, _, _, [], _, [], hW', ?_, trodAll_below Try.laidOut hb (by kernel_rfl) hlt hA, rfl, hb.frame _, fun h => by cases h⟩
  exact trodAll_mk1 (shut_bool Try.underlying4 _)
theorem FilterFromRat_holds : Rows.FilterFromRatSaid :=
  OpenClaim.holds_of_wide 3 Try.f3 rfl rfl rfl rfl rfl rfl rfl ⟨rfl, rfl, rfl, rfl, rfl⟩ rfl rfl rfl rfl rfl (by kernel_rfl) Try.func3 (by kernel_rfl)
    (of_decide_eq_true (by kernel_rfl)) (by unfold Func.isWrapper; first | (rw [if_pos (by decide +kernel)]; kernel_rfl) | (rw [if_neg (by decide +kernel)]; exact ⟨rfl, rfl⟩))
    (fun os started H enc _ => FilterFromRat_lifted os started H enc)
#print axioms FilterFromRat_holds
end Go.Proofs.Ytjhekoechimbnaa
