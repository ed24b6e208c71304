/-
  GCD gives the greatest common divisor: the law returns true for every three integers.
  Conditions: none.
-/
import Derived.Test.YtlaojdpcfenlkaaRA
import Derived.Test.YtlaojdpcfenlkaaWLG
namespace Go.Proofs.Ytlaojdpcfenlkaa
open Go Go.RowKit Go.Sw Go.ChangeShapes Go.WideShapes Go.ChangeAt
theorem IntegerGCD_any {w : World} {v0 : Value} {na : Bool} {la : List Nat} {v1 : Value} {nb : Bool} {lb : List Nat} {v2 : Value} {nc : Bool} {lc : List Nat} (h0 : RawV w [] v0 na la) (h1 : RawV w [] v1 nb lb) (h2 : RawV w [] v2 nc lc) : Calls Try.prog 4 #[v0, v1, v2] w (Ret fun r w' => r = .bool true ∧ Below w.heap.size w w') := by
  cases hq : ((decide ((la.length : Int) ≤ 6) && validL na la) && (decide ((lb.length : Int) ≤ 6) && validL nb lb) && (decide ((lc.length : Int) ≤ 6) && validL nc lc)) with
  | false => exact swarflaw01_IntegerGCD_bad_ok (by simp) h0 h1 h2 hq
  | true =>
    simp only [Bool.and_eq_true, decide_eq_true_eq] at hq
    obtain ⟨⟨⟨k01, k02⟩, k11, k12⟩, k21, k22⟩ := hq
    obtain ⟨g0, s0⟩ := raw_int (n := 6) h0 (by omega) k02
    obtain ⟨g1, s1⟩ := raw_int (n := 6) h1 (by omega) k12
    obtain ⟨g2, s2⟩ := raw_int (n := 6) h2 (by omega) k22
    exact law01_IntegerGCD_ok (by simp) g0 g1 g2 s0 s1 s2

set_option maxHeartbeats 800000 in
set_option maxRecDepth 100000 in
theorem IntegerGCD_lifted (os : Os) (started : os.Started) (H : Type) (enc : TypeId × Value → H) :
    ReturnsInHanded {} Try.checked os 4 .any (Rows.integerGCDSpec.pre6 enc Try.prog Try.f4 Rows.integerGCDRow.domain false) (Rows.integerGCDSpec.post enc Try.prog Try.f4 false true false false) := by
  refine returnsInHanded_of_change (C := Try.checked) Try.own started (by kernel_rfl) Try.func4
    (ChangeSpec.witness6 (enc := enc) (C := Try.checked) false ⟨#[], #[.agg #[.bool false, .slice none 0 0], .agg #[.bool false, .slice none 0 0], .agg #[.bool false, .slice none 0 0]], []⟩ 8 (by kernel_rfl) (by kernel_rfl) (by kernel_rfl) (by kernel_rfl)) ?_
  intro W base args ds gs before hval0 hW _ _
  have hval : ∀ (j : Nat) t v, Try.f4.params[j]? = some t → args[j]? = some v → Value.okWide Try.prog W .any base t v := hval0
  have hW' := hW
  obtain ⟨p, q, hA0, hV, rfl, _, _⟩ := hW
  have hA : DataW.TrodAll enc Try.prog W 0 (fun _ => true) true Try.f4.params.toList args.toList ds p := hA0
  rw [Try.params4] at hA hval
  obtain ⟨v0, v1, v2, d0, d1, d2, p0, p1, p2, rfl, rfl, rfl, h0, h1, h2⟩ := trodAll_three hA
  obtain ⟨rfl, rfl⟩ := trodVars_none hV
  clear hA0 hval0
  simp only [List.append_nil] at hW'
  have hlt : ∀ x ∈ p0 ++ p1 ++ p2, x.block < W.heap.size := fun x hx => by simpa using hW'.lt x hx
  obtain ⟨n0, l0, r0⟩ := raw24 (hval 0 24 v0 rfl rfl) h0
  obtain ⟨n1, l1, r1⟩ := raw24 (hval 1 24 v1 rfl rfl) h1
  obtain ⟨n2, l2, r2⟩ := raw24 (hval 2 24 v2 rfl rfl) h2
  refine (IntegerGCD_any r0 r1 r2).mono fun e W' he => ?_
  obtain ⟨_, rfl, rfl, hb⟩ := he
  have harg0 : DataW.Trod enc Try.prog W' 0 (fun b => decide (b < W.heap.size)) true 24 v0 d0 p0 := Below.trod Try.laidOut (by kernel_rfl) (of_decide_eq_true (by kernel_rfl)) h0 hb (fun x hx => hlt x (List.mem_append.2 (.inl (List.mem_append.2 (.inl hx)))))
  have harg1 : DataW.Trod enc Try.prog W' 0 (fun b => decide (b < W.heap.size)) true 24 v1 d1 p1 := Below.trod Try.laidOut (by kernel_rfl) (of_decide_eq_true (by kernel_rfl)) h1 hb (fun x hx => hlt x (List.mem_append.2 (.inl (List.mem_append.2 (.inr hx)))))
  have harg2 : DataW.Trod enc Try.prog W' 0 (fun b => decide (b < W.heap.size)) true 24 v2 d2 p2 := Below.trod Try.laidOut (by kernel_rfl) (of_decide_eq_true (by kernel_rfl)) h2 hb (fun x hx => hlt x (List.mem_append.2 (.inr hx)))
  have hall : DataW.TrodAll enc Try.prog W' 0 (fun b => decide (b < W.heap.size)) true [24, 24, 24] [v0, v1, v2] [d0, d1, d2] (p0 ++ p1 ++ p2) := by
    rw [List.append_assoc]
    exact trodAll_mk3 harg0 harg1 harg2
  refine ⟨_, rfl, _, _, _, [], _, [], hW', ?_, hall, rfl, hb.frame _, fun h => by cases h⟩
  exact trodAll_mk1 (shut_bool Try.underlying4 _)
theorem IntegerGCD_holds : Rows.IntegerGCDSaid :=
  OpenClaim.holds_of_wide 4 Try.f4 rfl rfl rfl rfl rfl rfl rfl ⟨rfl, rfl, rfl, rfl, rfl⟩ rfl rfl rfl rfl rfl (by kernel_rfl) Try.func4 (by kernel_rfl)
    (of_decide_eq_true (by kernel_rfl)) (by unfold Func.isWrapper; first | (rw [if_pos (by decide +kernel)]; kernel_rfl) | (rw [if_neg (by decide +kernel)]; exact ⟨rfl, rfl⟩))
    (fun os started H enc _ => IntegerGCD_lifted os started H enc)
#print axioms IntegerGCD_holds
end Go.Proofs.Ytlaojdpcfenlkaa
