/-
  Valid accepts exactly the valid integers: the law returns true for every integer.
  Conditions: none.
-/
import Derived.Test.YtlaojdpcfenlkaaRA
import Derived.Test.YtlaojdpcfenlkaaWLV
namespace Go.Proofs.Ytlaojdpcfenlkaa
open Go Go.RowKit Go.Sw Go.ChangeShapes Go.WideShapes Go.ChangeAt
theorem IntegerValid_any {w : World} {v0 : Value} {na : Bool} {la : List Nat} (h0 : RawV w [] v0 na la) : Calls Try.prog 9 #[v0] w (Ret fun r w' => r = .bool true ∧ Below w.heap.size w w') := by
  exact law01_IntegerValid_ok (by simp) h0

set_option maxHeartbeats 800000 in
set_option maxRecDepth 100000 in
theorem IntegerValid_lifted (os : Os) (started : os.Started) (H : Type) (enc : TypeId × Value → H) :
    ReturnsInHanded {} Try.checked os 9 .any (Rows.integerValidSpec.pre6 enc Try.prog Try.f9 Rows.integerValidRow.domain false) (Rows.integerValidSpec.post enc Try.prog Try.f9 false true false false) := by
  refine returnsInHanded_of_change (C := Try.checked) Try.own started (by kernel_rfl) Try.func9
    (ChangeSpec.witness6 (enc := enc) (C := Try.checked) false ⟨#[], #[.agg #[.bool false, .slice none 0 0]], []⟩ 8 (by kernel_rfl) (by kernel_rfl) (by kernel_rfl) (by kernel_rfl)) ?_
  intro W base args ds gs before hval0 hW _ _
  have hval : ∀ (j : Nat) t v, Try.f9.params[j]? = some t → args[j]? = some v → Value.okWide Try.prog W .any base t v := hval0
  have hW' := hW
  obtain ⟨p, q, hA0, hV, rfl, _, _⟩ := hW
  have hA : DataW.TrodAll enc Try.prog W 0 (fun _ => true) true Try.f9.params.toList args.toList ds p := hA0
  rw [Try.params9] at hA hval
  obtain ⟨v0, d0, rfl, rfl, h0⟩ := trodAll_one hA
  obtain ⟨rfl, rfl⟩ := trodVars_none hV
  clear hA0 hval0
  simp only [List.append_nil] at hW'
  have hlt : ∀ x ∈ p, x.block < W.heap.size := fun x hx => by simpa using hW'.lt x hx
  obtain ⟨n0, l0, r0⟩ := raw24 (hval 0 24 v0 rfl rfl) h0
  refine (IntegerValid_any r0).mono fun e W' he => ?_
  obtain ⟨_, rfl, rfl, hb⟩ := he
  have harg0 : DataW.Trod enc Try.prog W' 0 (fun b => decide (b < W.heap.size)) true 24 v0 d0 p := Below.trod Try.laidOut (by kernel_rfl) (of_decide_eq_true (by kernel_rfl)) h0 hb (fun x hx => hlt x (hx))
  refine ⟨_, rfl, _, _, _, [], _, [], hW', ?_, (trodAll_mk1 harg0), rfl, hb.frame _, fun h => by cases h⟩
  exact trodAll_mk1 (shut_bool Try.underlying4 _)
theorem IntegerValid_holds : Rows.IntegerValidSaid :=
  OpenClaim.holds_of_wide 9 Try.f9 rfl rfl rfl rfl rfl rfl rfl ⟨rfl, rfl, rfl, rfl, rfl⟩ rfl rfl rfl rfl rfl (by kernel_rfl) Try.func9 (by kernel_rfl)
    (of_decide_eq_true (by kernel_rfl)) (by unfold Func.isWrapper; first | (rw [if_pos (by decide +kernel)]; kernel_rfl) | (rw [if_neg (by decide +kernel)]; exact ⟨rfl, rfl⟩))
    (fun os started H enc _ => IntegerValid_lifted os started H enc)
#print axioms IntegerValid_holds
end Go.Proofs.Ytlaojdpcfenlkaa
