/-
  What the functions swarflaw04.FilterSide answer, each out of its text by the abstract run.
  Side gives the specified sign, and where it is known it is the exact one: the law returns true for every line and point.
  Conditions: none.
-/
import Derived.Test.YtjhekoechimbnaaM9
set_option linter.all false
namespace Go.Proofs.Ytjhekoechimbnaa
open Go Go.RowKit Go.Sw
set_option linter.unusedVariables false
set_option maxRecDepth 100000
set_option maxHeartbeats 8000000
instance L_side (p1 : Bool) (l1 : List Nat) (q1 : Bool) (m1 : List Nat) (p2 : Bool) (l2 : List Nat) (q2 : Bool) (m2 : List Nat) (p3 : Bool) (l3 : List Nat) (q3 : Bool) (m3 : List Nat) (p4 : Bool) (l4 : List Nat) (q4 : Bool) (m4 : List Nat) (p5 : Bool) (l5 : List Nat) (q5 : Bool) (m5 : List Nat) (p6 : Bool) (l6 : List Nat) (q6 : Bool) (m6 : List Nat) (p7 : Bool) (l7 : List Nat) (q7 : Bool) (m7 : List Nat) (p8 : Bool) (l8 : List Nat) (q8 : Bool) (m8 : List Nat) : DenI Try.prog 9 [.agg [.v (.bool p1), lmc l1, .v (.bool q1), lmc m1, .v (.bool p2), lmc l2, .v (.bool q2), lmc m2, .v (.bool p3), lmc l3, .v (.bool q3), lmc m3], .agg [.v (.bool p4), lmc l4, .v (.bool q4), lmc m4, .v (.bool p5), lmc l5, .v (.bool q5), lmc m5, .v (.bool p6), lmc l6, .v (.bool q6), lmc m6, .v (.bool p7), lmc l7, .v (.bool q7), lmc m7, .v (.bool p8), lmc l8, .v (.bool q8), lmc m8]] (True) (.bool true) := ⟨fun hp => by
 cases hv : ((okr 3 (p1, l1, q1, m1) && (okr 3 (p2, l2, q2, m2) && (okr 3 (p3, l3, q3, m3) && (okr 3 (p4, l4, q4, m4) && (okr 3 (p5, l5, q5, m5) && (okr 3 (p6, l6, q6, m6) && (okr 3 (p7, l7, q7, m7) && (okr 3 (p8, l8, q8, m8))))))))))
 rotate_left
 all_goals (try (simp only [Bool.and_eq_true] at hv; obtain ⟨e1, e2, e3, e4, e5, e6, e7, e8⟩ := hv; obtain ⟨la, rfl, rfl, rfl, rfl, hz1, h1⟩ := okr_get e1; obtain ⟨lb, rfl, rfl, rfl, rfl, hz2, h2⟩ := okr_get e2; obtain ⟨lc, rfl, rfl, rfl, rfl, hz3, h3⟩ := okr_get e3; obtain ⟨ax, rfl, rfl, rfl, rfl, hz4, h4⟩ := okr_get e4; obtain ⟨bx, rfl, rfl, rfl, rfl, hz5, h5⟩ := okr_get e5; obtain ⟨ay, rfl, rfl, rfl, rfl, hz6, h6⟩ := okr_get e6; obtain ⟨bb, rfl, rfl, rfl, rfl, hz7, h7⟩ := okr_get e7; obtain ⟨c, rfl, rfl, rfl, rfl, hz8, h8⟩ := okr_get e8; clear e1 e2 e3 e4 e5 e6 e7 e8))
 all_goals refine den_of (τ := tab) tab_ok mixed_ Try.func9 rfl (by kernel_rfl) (by kernel_rfl) (by kernel_rfl) ?_
 all_goals (repeat' ((try (conv => whnf)); first
  | refine call_0 ?_
  | refine call_i ?_ ?_
  | (with_reducible refine onB_t ?_)
  | (with_reducible refine onB_f ?_)
  | (with_reducible refine onB_d (fun _ => ?_) (fun _ => ?_))
  | (with_reducible refine onB_n (fun _ => ?_) (fun _ => ?_))
  | refine OnB.mk (fun _ => ?_) (fun _ => ?_)
  | refine obl_i ?_ ?_
  | refine Drw.mk (by kernel_rfl) ?_
  | refine mks_i ?_ ?_
  | refine slp_i ?_ ?_
  | (with_reducible refine elem_u ?_ ?_)
  | (with_reducible refine elem_0 ?_)
  | (with_reducible refine elem_1 ?_)
  | refine Ends.mk ?_))
 all_goals (try refine Pr.mk ?_)
 all_goals first
  | rfl
  | (have z1 := rz_mul la ax; have z2 := rz_mul lb ay; have z3 := rz_mul la bx; have z4 := rz_mul lb bb; have z5 := rz_add (la * ax) (lb * ay); have z6 := rz_sub (la * ax + lb * ay) lc; have z7 := rz_add (la * bx) (lb * bb); omega)
  | omega
  | (exfalso; simp at *; done)
  | (refine bE ?_; simp; done)
  | (exfalso; simp_all; done)
  | exact bE (decide_eq_true (side_n (by assumption)))
  | skip⟩

end Go.Proofs.Ytjhekoechimbnaa

namespace Go.Proofs.Ytjhekoechimbnaa
open Go Go.RowKit Go.Sw Go.ChangeShapes Go.WideShapes Go.ChangeAt
set_option maxRecDepth 100000
theorem FilterSide_den : ∀ xs, FitAs [.cons (.cons (.cons (.bool) (.cons (.slice (.int .u32)) .nil)) (.cons (.cons (.bool) (.cons (.slice (.int .u32)) .nil)) .nil)) (.cons (.cons (.cons (.bool) (.cons (.slice (.int .u32)) .nil)) (.cons (.cons (.bool) (.cons (.slice (.int .u32)) .nil)) .nil)) (.cons (.cons (.cons (.bool) (.cons (.slice (.int .u32)) .nil)) (.cons (.cons (.bool) (.cons (.slice (.int .u32)) .nil)) .nil)) .nil)), .cons (.cons (.cons (.bool) (.cons (.slice (.int .u32)) .nil)) (.cons (.cons (.bool) (.cons (.slice (.int .u32)) .nil)) .nil)) (.cons (.cons (.cons (.bool) (.cons (.slice (.int .u32)) .nil)) (.cons (.cons (.bool) (.cons (.slice (.int .u32)) .nil)) .nil)) (.cons (.cons (.cons (.bool) (.cons (.slice (.int .u32)) .nil)) (.cons (.cons (.bool) (.cons (.slice (.int .u32)) .nil)) .nil)) (.cons (.cons (.cons (.bool) (.cons (.slice (.int .u32)) .nil)) (.cons (.cons (.bool) (.cons (.slice (.int .u32)) .nil)) .nil)) (.cons (.cons (.cons (.bool) (.cons (.slice (.int .u32)) .nil)) (.cons (.cons (.bool) (.cons (.slice (.int .u32)) .nil)) .nil)) .nil))))] xs → Den Try.prog 9 xs (.bool true) := by
  rintro xs ⟨_, _, ⟨_, ⟨_, _, ⟨_, _, ⟨_, _, ⟨b1, rfl⟩, ⟨_, _, fl2, rfl, rfl⟩, rfl⟩, ⟨_, _, ⟨_, _, ⟨b3, rfl⟩, ⟨_, _, fl4, rfl, rfl⟩, rfl⟩, rfl, rfl⟩, rfl⟩, ⟨_, _, ⟨_, _, ⟨_, _, ⟨b5, rfl⟩, ⟨_, _, fl6, rfl, rfl⟩, rfl⟩, ⟨_, _, ⟨_, _, ⟨b7, rfl⟩, ⟨_, _, fl8, rfl, rfl⟩, rfl⟩, rfl, rfl⟩, rfl⟩, ⟨_, _, ⟨_, _, ⟨_, _, ⟨b9, rfl⟩, ⟨_, _, fl10, rfl, rfl⟩, rfl⟩, ⟨_, _, ⟨_, _, ⟨b11, rfl⟩, ⟨_, _, fl12, rfl, rfl⟩, rfl⟩, rfl, rfl⟩, rfl⟩, rfl, rfl⟩, rfl⟩, rfl⟩, rfl⟩, ⟨_, _, ⟨_, ⟨_, _, ⟨_, _, ⟨_, _, ⟨b13, rfl⟩, ⟨_, _, fl14, rfl, rfl⟩, rfl⟩, ⟨_, _, ⟨_, _, ⟨b15, rfl⟩, ⟨_, _, fl16, rfl, rfl⟩, rfl⟩, rfl, rfl⟩, rfl⟩, ⟨_, _, ⟨_, _, ⟨_, _, ⟨b17, rfl⟩, ⟨_, _, fl18, rfl, rfl⟩, rfl⟩, ⟨_, _, ⟨_, _, ⟨b19, rfl⟩, ⟨_, _, fl20, rfl, rfl⟩, rfl⟩, rfl, rfl⟩, rfl⟩, ⟨_, _, ⟨_, _, ⟨_, _, ⟨b21, rfl⟩, ⟨_, _, fl22, rfl, rfl⟩, rfl⟩, ⟨_, _, ⟨_, _, ⟨b23, rfl⟩, ⟨_, _, fl24, rfl, rfl⟩, rfl⟩, rfl, rfl⟩, rfl⟩, ⟨_, _, ⟨_, _, ⟨_, _, ⟨b25, rfl⟩, ⟨_, _, fl26, rfl, rfl⟩, rfl⟩, ⟨_, _, ⟨_, _, ⟨b27, rfl⟩, ⟨_, _, fl28, rfl, rfl⟩, rfl⟩, rfl, rfl⟩, rfl⟩, ⟨_, _, ⟨_, _, ⟨_, _, ⟨b29, rfl⟩, ⟨_, _, fl30, rfl, rfl⟩, rfl⟩, ⟨_, _, ⟨_, _, ⟨b31, rfl⟩, ⟨_, _, fl32, rfl, rfl⟩, rfl⟩, rfl, rfl⟩, rfl⟩, rfl, rfl⟩, rfl⟩, rfl⟩, rfl⟩, rfl⟩, rfl⟩, rfl, rfl⟩, rfl⟩
  obtain ⟨l2, zl2, yl2, rfl⟩ := fit_limbs fl2
  obtain ⟨l4, zl4, yl4, rfl⟩ := fit_limbs fl4
  obtain ⟨l6, zl6, yl6, rfl⟩ := fit_limbs fl6
  obtain ⟨l8, zl8, yl8, rfl⟩ := fit_limbs fl8
  obtain ⟨l10, zl10, yl10, rfl⟩ := fit_limbs fl10
  obtain ⟨l12, zl12, yl12, rfl⟩ := fit_limbs fl12
  obtain ⟨l14, zl14, yl14, rfl⟩ := fit_limbs fl14
  obtain ⟨l16, zl16, yl16, rfl⟩ := fit_limbs fl16
  obtain ⟨l18, zl18, yl18, rfl⟩ := fit_limbs fl18
  obtain ⟨l20, zl20, yl20, rfl⟩ := fit_limbs fl20
  obtain ⟨l22, zl22, yl22, rfl⟩ := fit_limbs fl22
  obtain ⟨l24, zl24, yl24, rfl⟩ := fit_limbs fl24
  obtain ⟨l26, zl26, yl26, rfl⟩ := fit_limbs fl26
  obtain ⟨l28, zl28, yl28, rfl⟩ := fit_limbs fl28
  obtain ⟨l30, zl30, yl30, rfl⟩ := fit_limbs fl30
  obtain ⟨l32, zl32, yl32, rfl⟩ := fit_limbs fl32
  simp only [List.append_nil, List.nil_append, List.cons_append]
  exact DenI.den (P := Try.prog) (f := 9) (by (repeat' apply And.intro) <;> first | trivial | omega)
set_option maxHeartbeats 800000 in
theorem FilterSide_lifted (os : Os) (started : os.Started) (H : Type) (enc : TypeId × Value → H) :
    ReturnsInHanded {} Try.checked os 9 .any (Rows.filterSideSpec.pre6 enc Try.prog Try.f9 Rows.filterSideRow.domain false) (Rows.filterSideSpec.post enc Try.prog Try.f9 false true false false) := by
  refine returnsInHanded_of_change (C := Try.checked) Try.own started (by kernel_rfl) Try.func9
    (ChangeSpec.witness6 (enc := enc) (C := Try.checked) false ⟨#[], #[.agg #[.bool false, .slice none 0 0, .bool false, .slice none 0 0, .bool false, .slice none 0 0, .bool false, .slice none 0 0, .bool false, .slice none 0 0, .bool false, .slice none 0 0], .agg #[.bool false, .slice none 0 0, .bool false, .slice none 0 0, .bool false, .slice none 0 0, .bool false, .slice none 0 0, .bool false, .slice none 0 0, .bool false, .slice none 0 0, .bool false, .slice none 0 0, .bool false, .slice none 0 0, .bool false, .slice none 0 0, .bool false, .slice none 0 0]], []⟩ 12 (by kernel_rfl) (by kernel_rfl) (by kernel_rfl) (by kernel_rfl)) ?_
  intro W base args ds gs before hval0 hW _ _
  have hW' := hW
  obtain ⟨p, q, hA0, hV, rfl, _, _⟩ := hW
  have hA : DataW.TrodAll enc Try.prog W 0 (fun _ => true) true Try.f9.params.toList args.toList ds p := hA0
  obtain ⟨rfl, rfl⟩ := trodVars_none hV
  obtain ⟨d0, d1, rfl⟩ := len2 (show ds.length = 2 from trodAll_len hA)
  simp only [List.append_nil] at hW'
  have hlt : ∀ x ∈ p, x.block < W.heap.size := fun x hx => by simpa using hW'.lt x hx
  refine (law_run (Ts := [.cons (.cons (.cons (.bool) (.cons (.slice (.int .u32)) .nil)) (.cons (.cons (.bool) (.cons (.slice (.int .u32)) .nil)) .nil)) (.cons (.cons (.cons (.bool) (.cons (.slice (.int .u32)) .nil)) (.cons (.cons (.bool) (.cons (.slice (.int .u32)) .nil)) .nil)) (.cons (.cons (.cons (.bool) (.cons (.slice (.int .u32)) .nil)) (.cons (.cons (.bool) (.cons (.slice (.int .u32)) .nil)) .nil)) .nil)), .cons (.cons (.cons (.bool) (.cons (.slice (.int .u32)) .nil)) (.cons (.cons (.bool) (.cons (.slice (.int .u32)) .nil)) .nil)) (.cons (.cons (.cons (.bool) (.cons (.slice (.int .u32)) .nil)) (.cons (.cons (.bool) (.cons (.slice (.int .u32)) .nil)) .nil)) (.cons (.cons (.cons (.bool) (.cons (.slice (.int .u32)) .nil)) (.cons (.cons (.bool) (.cons (.slice (.int .u32)) .nil)) .nil)) (.cons (.cons (.cons (.bool) (.cons (.slice (.int .u32)) .nil)) (.cons (.cons (.bool) (.cons (.slice (.int .u32)) .nil)) .nil)) (.cons (.cons (.cons (.bool) (.cons (.slice (.int .u32)) .nil)) (.cons (.cons (.bool) (.cons (.slice (.int .u32)) .nil)) .nil)) .nil))))]) (by kernel_rfl) FilterSide_den (fun j t v hj ha => hval0 j t v (by simpa using hj) (by simpa using ha)) hA).mono fun e W' he => ?_
  obtain ⟨_, rfl, rfl, hb⟩ := he
  refine ⟨_, rfl, _, _, _, [], _, [], hW', ?_, trodAll_below Try.laidOut hb (by kernel_rfl) hlt hA, rfl, hb.frame _, fun h => by cases h⟩
  exact trodAll_mk1 (shut_bool Try.underlying4 _)
theorem FilterSide_holds : Rows.FilterSideSaid :=
  OpenClaim.holds_of_wide 9 Try.f9 rfl rfl rfl rfl rfl rfl rfl ⟨rfl, rfl, rfl, rfl, rfl⟩ rfl rfl rfl rfl rfl (by kernel_rfl) Try.func9 (by kernel_rfl)
    (of_decide_eq_true (by kernel_rfl)) (by unfold Func.isWrapper; first | (rw [if_pos (by decide +kernel)]; kernel_rfl) | (rw [if_neg (by decide +kernel)]; exact ⟨rfl, rfl⟩))
    (fun os started H enc _ => FilterSide_lifted os started H enc)
#print axioms FilterSide_holds
end Go.Proofs.Ytjhekoechimbnaa
