/-
  What the functions swarflaw04.FilterParts answer, each out of its text by the abstract run.
  Parts of intervals lead to parts of the results: the law returns true for every two intervals and cuts.
  Conditions: none.
-/
import Derived.Test.YtjhekoechimbnaaM9
set_option linter.all false
namespace Go.Proofs.Ytjhekoechimbnaa
open Go Go.RowKit Go.Sw
set_option linter.unusedVariables false
set_option maxRecDepth 100000
set_option maxHeartbeats 8000000
instance L_parts (a b c d : Int) (t1 t2 t3 t4 : Nat) : DenI Try.prog 10 [Iv a b, Iv c d, .agg [.v (.int .u32 t1), .v (.int .u32 t2), .v (.int .u32 t3), .v (.int .u32 t4)]] (-9223372036854775808 ≤ a ∧ a ≤ 9223372036854775807 ∧ -9223372036854775808 ≤ b ∧ b ≤ 9223372036854775807 ∧ -9223372036854775808 ≤ c ∧ c ≤ 9223372036854775807 ∧ -9223372036854775808 ≤ d ∧ d ≤ 9223372036854775807 ∧ t1 < 4294967296 ∧ t2 < 4294967296 ∧ t3 < 4294967296 ∧ t4 < 4294967296) (.bool true) := ⟨fun hp => by
 refine den_of (τ := tab) tab_ok mixed_ Try.func10 rfl (by kernel_rfl) (by kernel_rfl) (by kernel_rfl) ?_
 repeat' ((try (conv => whnf)); first
  | refine call_0 ?_
  | refine call_i ?_ ?_
  | (with_reducible refine onB_t ?_)
  | (with_reducible refine onB_f ?_)
  | (with_reducible refine onB_d (fun _ => ?_) (fun _ => ?_))
  | (with_reducible refine onB_n (fun _ => ?_) (fun _ => ?_))
  | refine OnB.mk (fun _ => ?_) (fun _ => ?_)
  | refine obl_i ?_ ?_
  | refine Drw.mk (by kernel_rfl) ?_
  | refine mks_i ?_ ?_
  | refine slp_i ?_ ?_
  | (with_reducible refine elem_u ?_ ?_)
  | (with_reducible refine elem_0 ?_)
  | (with_reducible refine elem_1 ?_)
  | refine Ends.mk ?_)
 all_goals (try refine Pr.mk ?_)
 all_goals (try simp only [prIv_b, Prod.eta] at *)
 all_goals first
  | rfl
  | omega
  | (exfalso; simp at *; done)
  | (refine bE ?_; simp; done)
  | (exfalso; simp_all; done)
  | skip
 all_goals (have hu := partI_sub (a := a) (b := b) (by omega) t1 t2; have hv := partI_sub (a := c) (b := d) (by omega) t3 t4; have fA := pA hu hv; have fM := pM hu hv; have fS := pS hu; have fN := sqN (u := partI a b t1 t2); generalize partI a b t1 t2 = u at *; generalize partI c d t3 t4 = v at *; unfold sub wOk at *; simp only at *)
 all_goals first
  | omega
  | (exfalso; simp_all; done)
  | (refine bE ?_; simp_all; done)
  | skip⟩

end Go.Proofs.Ytjhekoechimbnaa

namespace Go.Proofs.Ytjhekoechimbnaa
open Go Go.RowKit Go.Sw Go.ChangeShapes Go.WideShapes Go.ChangeAt
set_option maxRecDepth 100000
theorem FilterParts_den : ∀ xs, FitAs [.cons (.int .i64) (.cons (.int .i64) .nil), .cons (.int .i64) (.cons (.int .i64) .nil), .cons (.int .u32) (.cons (.int .u32) (.cons (.int .u32) (.cons (.int .u32) .nil)))] xs → Den Try.prog 10 xs (.bool true) := by
  rintro xs ⟨_, _, ⟨_, ⟨_, _, ⟨n1, wn1, rfl⟩, ⟨_, _, ⟨n2, wn2, rfl⟩, rfl, rfl⟩, rfl⟩, rfl⟩, ⟨_, _, ⟨_, ⟨_, _, ⟨n3, wn3, rfl⟩, ⟨_, _, ⟨n4, wn4, rfl⟩, rfl, rfl⟩, rfl⟩, rfl⟩, ⟨_, _, ⟨_, ⟨_, _, ⟨n5, wn5, rfl⟩, ⟨_, _, ⟨n6, wn6, rfl⟩, ⟨_, _, ⟨n7, wn7, rfl⟩, ⟨_, _, ⟨n8, wn8, rfl⟩, rfl, rfl⟩, rfl⟩, rfl⟩, rfl⟩, rfl⟩, rfl, rfl⟩, rfl⟩, rfl⟩
  have wn1 := wfI64 wn1
  have wn2 := wfI64 wn2
  have wn3 := wfI64 wn3
  have wn4 := wfI64 wn4
  obtain ⟨mn5, rfl, hmn5⟩ := wfNat (by simp) wn5
  obtain ⟨mn6, rfl, hmn6⟩ := wfNat (by simp) wn6
  obtain ⟨mn7, rfl, hmn7⟩ := wfNat (by simp) wn7
  obtain ⟨mn8, rfl, hmn8⟩ := wfNat (by simp) wn8
  simp only [List.append_nil, List.nil_append, List.cons_append]
  exact DenI.den (P := Try.prog) (f := 10) (by (repeat' apply And.intro) <;> first | trivial | omega)
set_option maxHeartbeats 800000 in
theorem FilterParts_lifted (os : Os) (started : os.Started) (H : Type) (enc : TypeId × Value → H) :
    ReturnsInHanded {} Try.checked os 10 .any (Rows.filterPartsSpec.pre6 enc Try.prog Try.f10 Rows.filterPartsRow.domain false) (Rows.filterPartsSpec.post enc Try.prog Try.f10 false true false false) := by
  refine returnsInHanded_of_change (C := Try.checked) Try.own started (by kernel_rfl) Try.func10
    (ChangeSpec.witness6 (enc := enc) (C := Try.checked) false ⟨#[], #[.agg #[.int .i64 0, .int .i64 0], .agg #[.int .i64 0, .int .i64 0], .agg #[.int .u32 0, .int .u32 0, .int .u32 0, .int .u32 0]], []⟩ 12 (by kernel_rfl) (by kernel_rfl) (by kernel_rfl) (by kernel_rfl)) ?_
  intro W base args ds gs before hval0 hW _ _
  have hW' := hW
  obtain ⟨p, q, hA0, hV, rfl, _, _⟩ := hW
  have hA : DataW.TrodAll enc Try.prog W 0 (fun _ => true) true Try.f10.params.toList args.toList ds p := hA0
  obtain ⟨rfl, rfl⟩ := trodVars_none hV
  obtain ⟨d0, d1, d2, rfl⟩ := len3 (show ds.length = 3 from trodAll_len hA)
  simp only [List.append_nil] at hW'
  have hlt : ∀ x ∈ p, x.block < W.heap.size := fun x hx => by simpa using hW'.lt x hx
  refine (law_run (Ts := [.cons (.int .i64) (.cons (.int .i64) .nil), .cons (.int .i64) (.cons (.int .i64) .nil), .cons (.int .u32) (.cons (.int .u32) (.cons (.int .u32) (.cons (.int .u32) .nil)))]) (by kernel_rfl) FilterParts_den (fun j t v hj ha => hval0 j t v (by simpa using hj) (by simpa using ha)) hA).mono fun e W' he => ?_
  obtain ⟨_, rfl, rfl, hb⟩ := he
  refine ⟨_, rfl, _, _, _, [], _, [], hW', ?_, trodAll_below Try.laidOut hb (by kernel_rfl) hlt hA, rfl, hb.frame _, fun h => by cases h⟩
  exact trodAll_mk1 (shut_bool Try.underlying4 _)
theorem FilterParts_holds : Rows.FilterPartsSaid :=
  OpenClaim.holds_of_wide 10 Try.f10 rfl rfl rfl rfl rfl rfl rfl ⟨rfl, rfl, rfl, rfl, rfl⟩ rfl rfl rfl rfl rfl (by kernel_rfl) Try.func10 (by kernel_rfl)
    (of_decide_eq_true (by kernel_rfl)) (by unfold Func.isWrapper; first | (rw [if_pos (by decide +kernel)]; kernel_rfl) | (rw [if_neg (by decide +kernel)]; exact ⟨rfl, rfl⟩))
    (fun os started H enc _ => FilterParts_lifted os started H enc)
#print axioms FilterParts_holds
end Go.Proofs.Ytjhekoechimbnaa
