/-
  FromInt64 and Int64 are as specified: the law returns true for every number and every integer.
  Conditions: none.
-/
import Derived.Test.YtlaojdpcfenlkaaRA
import Derived.Test.YtlaojdpcfenlkaaWLI
namespace Go.Proofs.Ytlaojdpcfenlkaa
open Go Go.RowKit Go.Sw Go.ChangeShapes Go.WideShapes Go.ChangeAt
theorem IntegerInt64_any {w : World} {n : Int} {v1 : Value} {na : Bool} {la : List Nat} (hn1 : -9223372036854775808 ≤ n) (hn2 : n ≤ 9223372036854775807) (h1 : RawV w [] v1 na la) : Calls Try.prog 10 #[(.int .i64 n), v1] w (Ret fun r w' => r = .bool true ∧ Below w.heap.size w w') := by
  cases hq : ([(na, la)].all fun p => decide ((p.2.length : Int) ≤ 16) && validL p.1 p.2) with
  | false => exact swarflaw01_IntegerInt64_bad_ok (by simp) n h1 hn1 hn2 hq
  | true =>
    simp only [List.all_cons, List.all_nil, Bool.and_true, Bool.and_eq_true, decide_eq_true_eq] at hq
    obtain ⟨k11, k12⟩ := hq
    obtain ⟨g1, s1⟩ := raw_int (n := 16) h1 (by omega) k12
    exact law01_IntegerInt64_ok (by simp) n g1 hn1 hn2 s1

set_option maxHeartbeats 800000 in
set_option maxRecDepth 100000 in
theorem IntegerInt64_lifted (os : Os) (started : os.Started) (H : Type) (enc : TypeId × Value → H) :
    ReturnsInHanded {} Try.checked os 10 .any (Rows.integerInt64Spec.pre6 enc Try.prog Try.f10 Rows.integerInt64Row.domain false) (Rows.integerInt64Spec.post enc Try.prog Try.f10 false true false false) := by
  refine returnsInHanded_of_change (C := Try.checked) Try.own started (by kernel_rfl) Try.func10
    (ChangeSpec.witness6 (enc := enc) (C := Try.checked) false ⟨#[], #[.int .i64 0, .agg #[.bool false, .slice none 0 0]], []⟩ 8 (by kernel_rfl) (by kernel_rfl) (by kernel_rfl) (by kernel_rfl)) ?_
  intro W base args ds gs before hval0 hW _ _
  have hval : ∀ (j : Nat) t v, Try.f10.params[j]? = some t → args[j]? = some v → Value.okWide Try.prog W .any base t v := hval0
  have hW' := hW
  obtain ⟨p, q, hA0, hV, rfl, _, _⟩ := hW
  have hA : DataW.TrodAll enc Try.prog W 0 (fun _ => true) true Try.f10.params.toList args.toList ds p := hA0
  rw [Try.params10] at hA hval
  obtain ⟨v0, v1, d0, d1, p0, p1, rfl, rfl, rfl, h0, h1⟩ := trodAll_two hA
  obtain ⟨rfl, rfl⟩ := trodVars_none hV
  clear hA0 hval0
  simp only [List.append_nil] at hW'
  have hlt : ∀ x ∈ p0 ++ p1, x.block < W.heap.size := fun x hx => by simpa using hW'.lt x hx
  obtain ⟨m, rfl, rfl, rfl, wm⟩ := open_int Try.underlying2 (hval 0 2 v0 rfl rfl) h0
  obtain ⟨wm1, wm2⟩ := okI64 wm
  obtain ⟨n1, l1, r1⟩ := raw24 (hval 1 24 v1 rfl rfl) h1
  refine (IntegerInt64_any wm1 wm2 r1).mono fun e W' he => ?_
  obtain ⟨_, rfl, rfl, hb⟩ := he
  have harg1 : DataW.Trod enc Try.prog W' 0 (fun b => decide (b < W.heap.size)) true 24 v1 d1 p1 := Below.trod Try.laidOut (by kernel_rfl) (of_decide_eq_true (by kernel_rfl)) h1 hb (fun x hx => hlt x (List.mem_append.2 (.inr hx)))
  refine ⟨_, rfl, _, _, _, [], _, [], hW', ?_, (trodAll_mk2 (shut_int Try.underlying2 wm) harg1), rfl, hb.frame _, fun h => by cases h⟩
  exact trodAll_mk1 (shut_bool Try.underlying4 _)
theorem IntegerInt64_holds : Rows.IntegerInt64Said :=
  OpenClaim.holds_of_wide 10 Try.f10 rfl rfl rfl rfl rfl rfl rfl ⟨rfl, rfl, rfl, rfl, rfl⟩ rfl rfl rfl rfl rfl (by kernel_rfl) Try.func10 (by kernel_rfl)
    (of_decide_eq_true (by kernel_rfl)) (by unfold Func.isWrapper; first | (rw [if_pos (by decide +kernel)]; kernel_rfl) | (rw [if_neg (by decide +kernel)]; exact ⟨rfl, rfl⟩))
    (fun os started H enc _ => IntegerInt64_lifted os started H enc)
#print axioms IntegerInt64_holds
end Go.Proofs.Ytlaojdpcfenlkaa
