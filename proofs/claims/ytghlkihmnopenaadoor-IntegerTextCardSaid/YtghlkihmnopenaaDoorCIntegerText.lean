/-
  What the functions swarflaw01.IntegerText answer, each out of its text by the abstract run.
  Format gives the decimal text, and Parse restores the integer and reads no other string: the law returns true for every integer and string.
  Conditions: none.
-/
import Derived.Test.YtghlkihmnopenaaDoorM11
set_option linter.all false
namespace Go.Proofs.YtghlkihmnopenaaDoor
open Go Go.RowKit Go.Sw
set_option linter.unusedVariables false
set_option maxRecDepth 100000
set_option maxHeartbeats 8000000
set_option synthInstance.maxSize 4000
set_option synthInstance.maxHeartbeats 400000
instance t_pfd (a : Int) : DenI Tryd.prog 8 [.str (fmtD a)] (sz a ≤ 1000) (.tup [Z a, .int .i64 0]) := ⟨fun h => by
 have z := (inferInstance : DenI Tryd.prog 8 [.str (fmtD a)] _ (parR (fmtD a))).den trivial
 have h2 := fmtD_le h (by decide)
 unfold parR at z
 rwa [parN_fmt (by omega), parE_fmt (by omega)] at z⟩
instance L_itext (p1 : Bool) (l1 : List Nat) (s : ByteArray) : DenI Tryd.prog 3 [Zr p1 l1, .str s] (True) (.bool true) := ⟨fun hp => by
 rcases zi_cases 16 p1 l1 with h1 | ⟨a, rfl, rfl, hz1, h1⟩
 all_goals refine den_of (τ := tabs) tabs_ok mixed_ Tryd.func3 rfl (by kernel_rfl) (by kernel_rfl) (by kernel_rfl) ?_
 all_goals (repeat' ((try (conv => whnf)); first
  | refine call_0 ?_
  | refine call_i ?_ ?_
  | refine call_c ?_ (fun _ => ?_) (fun _ => ?_)
  | (with_reducible refine onB_t ?_)
  | (with_reducible refine onB_f ?_)
  | (with_reducible refine onB_d (fun _ => ?_) (fun _ => ?_))
  | (with_reducible refine onB_n (fun _ => ?_) (fun _ => ?_))
  | refine OnB.mk (fun _ => ?_) (fun _ => ?_)
  | refine obl_i ?_ ?_
  | refine Drw.mk (by kernel_rfl) ?_
  | refine mks_i ?_ ?_
  | refine slp_i ?_ ?_
  | (with_reducible refine elem_u ?_ ?_)
  | (with_reducible refine elem_0 ?_)
  | (with_reducible refine elem_1 ?_)
  | refine Ends.mk ?_))
 all_goals (try refine Pr.mk ?_)
 all_goals (try simp only [sgnI_lt0, sgnI_zero, sgnI_le0, sgnI_gt0, sgnI_ge0, sgnI_eq1, cmpI_lt0, cmpI_gt0, cmpI_eq0, cmpI_le0, cmpI_ge0, cmpR_of, sgnR_of, sgnR_lt0, sgnR_eq0, sgnR_gt0, sgnR_le0, sgnR_ge0, sgnR_eq1, cmpR_lt0, cmpR_gt0, cmpR_eq0, cmpR_le0, cmpR_ge0] at *)
 all_goals first
  | (have z := hz1; omega)
  | rfl
  | trivial
  | (exfalso; exact absurd rfl (by assumption))
  | (refine bE ?_; simp_all; done)
  | (exfalso; simp_all; done)
  | skip⟩

end Go.Proofs.YtghlkihmnopenaaDoor

namespace Go.Proofs.YtghlkihmnopenaaDoor
open Go Go.RowKit Go.Sw Go.ChangeShapes Go.WideShapes Go.ChangeAt
set_option maxRecDepth 100000
theorem IntegerText_den : ∀ xs, FitAs [.cons (.bool) (.cons (.slice (.int .u32)) .nil), .str] xs → Den Tryd.prog 3 xs (.bool true) := by
  rintro xs ⟨_, _, ⟨_, ⟨_, _, ⟨b1, rfl⟩, ⟨_, _, fl2, rfl, rfl⟩, rfl⟩, rfl⟩, ⟨_, _, ⟨_, gs3, rfl⟩, rfl, rfl⟩, rfl⟩
  obtain ⟨l2, zl2, yl2, rfl⟩ := fit_limbs fl2
  obtain ⟨s3, zs3, rfl⟩ := fit_str gs3
  try simp only [List.append_nil, List.nil_append, List.cons_append]
  exact DenI.den (P := Tryd.prog) (f := 3) (by (repeat' apply And.intro) <;> first | trivial | omega)
theorem IntegerText_world {W : World} (h : laidMetH Tryd.prog Rows.integerTextRow.laid W) : Wld.ok Tryd.prog W := by
  rw [MakeChecks.laidMetH_plain _ _ _ (by kernel_rfl)] at h
  exact tab_of (zs := Lib.pow10Tab) (g := 0) (t := 93) (e := 53) h (List.mem_of_getElem? (i := 2) (by kernel_rfl)) (by kernel_rfl) (by kernel_rfl) Tryd.underlying93 Tryd.underlying53 (by kernel_rfl) (by kernel_rfl)
set_option maxHeartbeats 800000 in
theorem IntegerText_lifted (os : Os) (started : os.Started) (H : Type) (enc : TypeId × Value → H) :
    ReturnsInHanded {} Tryd.checked os 3 .any (fun w args => (Rows.integerTextSpec.pre enc Tryd.prog Tryd.f3 [] false w args ∧ laidMetH Tryd.prog Rows.integerTextRow.laid w) ∧ sizedMet enc Tryd.prog Tryd.f3 (OpenSpec.ofChange Rows.integerTextSpec) false w args) (Rows.integerTextSpec.post enc Tryd.prog Tryd.f3 false true false false) := by
  refine returnsInHanded_of_change_and (C := Tryd.checked) (X := fun w _ => laidMetH Tryd.prog Rows.integerTextRow.laid w) (fun _ _ _ hh h => h.of_heap hh) Tryd.own started (by kernel_rfl) Tryd.func3
    (ChangeSpec.witness_shaped (enc := enc) (C := Tryd.checked) (os := os) (X := fun w _ => laidMetH Tryd.prog Rows.integerTextRow.laid w) false (World.laidAll Tryd.prog os Rows.integerTextRow.laid) #[.agg #[.bool false, .slice none 0 0], .string ByteArray.empty] 12 (World.laidAll_os _ _ _)
      (World.shaped_of_ZipB (by kernel_rfl) (by kernel_rfl)) (by kernel_rfl) (by kernel_rfl) (by kernel_rfl)
      (by rw [MakeChecks.laidMetH_plain _ _ _ (by kernel_rfl)]; exact laidMet_laidAll _ (by kernel_rfl) (by kernel_rfl))) ?_
  intro W base args ds gs before hval0 hW _ _ hL _
  have hW' := hW
  obtain ⟨p, q, hA0, hV, rfl, _, _⟩ := hW
  have hA : DataW.TrodAll enc Tryd.prog W 0 (fun _ => true) true Tryd.f3.params.toList args.toList ds p := hA0
  obtain ⟨rfl, rfl⟩ := trodVars_none hV
  obtain ⟨d0, d1, rfl⟩ := len2 (show ds.length = 2 from trodAll_len hA)
  simp only [List.append_nil] at hW'
  have hlt : ∀ x ∈ p, x.block < W.heap.size := fun x hx => by simpa using hW'.lt x hx
  refine (law_run (Ts := [.cons (.bool) (.cons (.slice (.int .u32)) .nil), .str]) (by kernel_rfl) IntegerText_den (fun j t v hj ha => hval0 j t v (by simpa using hj) (by simpa using ha)) hA (IntegerText_world hL)).mono fun e W' he => ?_
  obtain ⟨_, rfl, rfl, hb⟩ := he
  refine ⟨_, rfl, _, _, _, [], _, [], hW', ?_, trodAll_below Tryd.laidOut hb (by kernel_rfl) hlt hA, rfl, hb.frame _, fun h => by cases h⟩
  exact trodAll_mk1 (shut_bool Tryd.underlying4 _)
theorem IntegerText_row : Rows.IntegerTextSaid :=
  OpenClaim.holds_of_wide 3 Tryd.f3 rfl rfl rfl rfl rfl rfl rfl ⟨rfl, rfl, rfl, rfl, rfl⟩ rfl rfl rfl rfl rfl (by kernel_rfl) Tryd.func3 (by kernel_rfl)
    (of_decide_eq_true (by kernel_rfl)) (by unfold Func.isWrapper; first | (rw [if_pos (by decide +kernel)]; kernel_rfl) | (rw [if_neg (by decide +kernel)]; exact ⟨rfl, rfl⟩))
    (fun os started H enc _ => IntegerText_lifted os started H enc)
theorem IntegerText_holds : Rows.IntegerTextCardSaid :=
  Claim7.holds_tied_plain_at .later [] [.data, .data, .data] true (true, "956bed09c434a2d595ef210180814e3fae6aeaa55b3eb3367eab7d69a98e4e11") false IntegerText_row (fun _ h => by cases h) (by kernel_rfl) (fun _ h => by cases h) integerText_row_tie rfl ⟨rfl, rfl⟩ (by kernel_rfl) rfl
    (fun f fn hf hfn => by
      obtain rfl : f = 3 := Option.some.inj ((show Tryd.prog.funcNamed "swarf/swarflaw01.IntegerText" = some 3 by kernel_rfl).symm.trans hf) |>.symm
      obtain rfl : fn = Tryd.f3 := (Option.some.inj (Tryd.func3.symm.trans hfn)).symm
      exact ⟨by kernel_rfl, fun j t ht => by
        have hm : t ∈ Tryd.f3.params.toList := Array.mem_toList_iff.2 (Array.mem_of_getElem? ht)
        have hall : (Tryd.f3.params.toList.all fun u => !Tryd.prog.wantsStandIn u) = true := by kernel_rfl
        exact (show Tryd.prog.wantsStandIn t = false by simpa using List.all_eq_true.1 hall t hm)⟩)
    (by kernel_rfl)
#print axioms IntegerText_holds
end Go.Proofs.YtghlkihmnopenaaDoor
