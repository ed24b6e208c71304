/-
  Sqrt gives the square root, rounded down, or ErrNegative: the law returns true for every integer.
  Conditions: none.
-/
import Derived.Test.YtlaojdpcfenlkaaRA
import Derived.Test.YtlaojdpcfenlkaaWLQ
namespace Go.Proofs.Ytlaojdpcfenlkaa
open Go Go.RowKit Go.Sw Go.ChangeShapes Go.WideShapes Go.ChangeAt
theorem IntegerSqrt_any {w : World} {v0 : Value} {na : Bool} {la : List Nat} (h0 : RawV w [] v0 na la) : Calls Try.prog 5 #[v0] w (Ret fun r w' => r = .bool true ∧ Below w.heap.size w w') := by
  cases hq : ([(na, la)].all fun p => decide ((p.2.length : Int) ≤ 16) && validL p.1 p.2) with
  | false => exact swarflaw01_IntegerSqrt_bad_ok (by simp) h0 hq
  | true =>
    simp only [List.all_cons, List.all_nil, Bool.and_true, Bool.and_eq_true, decide_eq_true_eq] at hq
    obtain ⟨k01, k02⟩ := hq
    obtain ⟨g0, s0⟩ := raw_int (n := 16) h0 (by omega) k02
    exact law01_IntegerSqrt_ok (by simp) g0 s0

set_option maxHeartbeats 800000 in
set_option maxRecDepth 100000 in
theorem IntegerSqrt_lifted (os : Os) (started : os.Started) (H : Type) (enc : TypeId × Value → H) :
    ReturnsInHanded {} Try.checked os 5 .any (Rows.integerSqrtSpec.pre6 enc Try.prog Try.f5 Rows.integerSqrtRow.domain false) (Rows.integerSqrtSpec.post enc Try.prog Try.f5 false true false false) := by
  refine returnsInHanded_of_change (C := Try.checked) Try.own started (by kernel_rfl) Try.func5
    (ChangeSpec.witness6 (enc := enc) (C := Try.checked) false ⟨#[], #[.agg #[.bool false, .slice none 0 0]], []⟩ 8 (by kernel_rfl) (by kernel_rfl) (by kernel_rfl) (by kernel_rfl)) ?_
  intro W base args ds gs before hval0 hW _ _
  have hval : ∀ (j : Nat) t v, Try.f5.params[j]? = some t → args[j]? = some v → Value.okWide Try.prog W .any base t v := hval0
  have hW' := hW
  obtain ⟨p, q, hA0, hV, rfl, _, _⟩ := hW
  have hA : DataW.TrodAll enc Try.prog W 0 (fun _ => true) true Try.f5.params.toList args.toList ds p := hA0
  rw [Try.params5] at hA hval
  obtain ⟨v0, d0, rfl, rfl, h0⟩ := trodAll_one hA
  obtain ⟨rfl, rfl⟩ := trodVars_none hV
  clear hA0 hval0
  simp only [List.append_nil] at hW'
  have hlt : ∀ x ∈ p, x.block < W.heap.size := fun x hx => by simpa using hW'.lt x hx
  obtain ⟨n0, l0, r0⟩ := raw24 (hval 0 24 v0 rfl rfl) h0
  refine (IntegerSqrt_any r0).mono fun e W' he => ?_
  obtain ⟨_, rfl, rfl, hb⟩ := he
  have harg0 : DataW.Trod enc Try.prog W' 0 (fun b => decide (b < W.heap.size)) true 24 v0 d0 p := Below.trod Try.laidOut (by kernel_rfl) (of_decide_eq_true (by kernel_rfl)) h0 hb (fun x hx => hlt x (hx))
  refine ⟨_, rfl, _, _, _, [], _, [], hW', ?_, (trodAll_mk1 harg0), rfl, hb.frame _, fun h => by cases h⟩
  exact trodAll_mk1 (shut_bool Try.underlying4 _)
theorem IntegerSqrt_holds : Rows.IntegerSqrtSaid :=
  OpenClaim.holds_of_wide 5 Try.f5 rfl rfl rfl rfl rfl rfl rfl ⟨rfl, rfl, rfl, rfl, rfl⟩ rfl rfl rfl rfl rfl (by kernel_rfl) Try.func5 (by kernel_rfl)
    (of_decide_eq_true (by kernel_rfl)) (by unfold Func.isWrapper; first | (rw [if_pos (by decide +kernel)]; kernel_rfl) | (rw [if_neg (by decide +kernel)]; exact ⟨rfl, rfl⟩))
    (fun os started H enc _ => IntegerSqrt_lifted os started H enc)
#print axioms IntegerSqrt_holds
end Go.Proofs.Ytlaojdpcfenlkaa
