/-
  What the functions swarflaw08.SupportValid answer, each out of its text by the abstract run.
  ValidLine, ValidCircle and SameCircle give what is specified, for any fields: the law returns true for every line and circle.
  Conditions: none.
-/
import Derived.Test.YtkcoahciohejkaaGreatM11
set_option linter.all false
namespace Go.Proofs.YtkcoahciohejkaaGreat
open Go Go.RowKit Go.Sw
set_option linter.unusedVariables false
set_option maxRecDepth 100000
set_option maxHeartbeats 8000000
set_option synthInstance.maxSize 4000
set_option synthInstance.maxHeartbeats 400000
instance L_val (s1 : Bool) (k1 : List Nat) (s2 : Bool) (k2 : List Nat) (s3 : Bool) (k3 : List Nat) (s4 : Bool) (k4 : List Nat) (s5 : Bool) (k5 : List Nat) (s6 : Bool) (k6 : List Nat) (t1 : Bool) (m1 : List Nat) (t2 : Bool) (m2 : List Nat) (t3 : Bool) (m3 : List Nat) (t4 : Bool) (m4 : List Nat) (t5 : Bool) (m5 : List Nat) (t6 : Bool) (m6 : List Nat) (x y : Int) (qq d : Nat) : DenI Tryz.prog 10 [.agg [.v (.bool s1), lmc k1, .v (.bool s2), lmc k2, .v (.bool s3), lmc k3, .v (.bool s4), lmc k4, .v (.bool s5), lmc k5, .v (.bool s6), lmc k6], .agg [.v (.bool t1), lmc m1, .v (.bool t2), lmc m2, .v (.bool t3), lmc m3, .v (.bool t4), lmc m4, .v (.bool t5), lmc m5, .v (.bool t6), lmc m6], .agg [.v (.int .i16 x), .v (.int .i16 y), .v (.int .u16 (qq : Nat)), .v (.int .u8 (d : Nat))]] (smallI x ∧ smallI y ∧ qq ≤ 65535 ∧ d ≤ 255) (.bool true) := ⟨fun hp => by
 obtain ⟨p1, p2, p3, p4⟩ := hp
 obtain ⟨ja, jb, jc⟩ := ciI_ok (x := x) (y := y) (q := qq) (d := d) (by assumption) (by assumption) (by omega)
 have i_ja : RzB (ciI x y qq d).a 8 := ⟨ja⟩
 have i_jb : RzB (ciI x y qq d).b 8 := ⟨jb⟩
 have i_jc : RzB (ciI x y qq d).c 8 := ⟨jc⟩
 have ok0 : okP 0 0 0 := .inl ⟨rfl, rfl, rfl⟩
 by_cases v0 : vcR t1 m1 t2 m2 t3 m3 t4 m4 t5 m5 t6 m6 = true
 all_goals (try (have v9 : vcR t1 m1 t2 m2 t3 m3 t4 m4 t5 m5 t6 m6 = false := Bool.eq_false_iff.2 v0))
 all_goals (try (have v1 := vc_1 v0; have v2 := vc_2 v0; have v3 := vc_3 v0; (obtain ⟨ea, rfl, rfl, rfl, rfl⟩ := validR_ex v1); (obtain ⟨eb, rfl, rfl, rfl, rfl⟩ := validR_ex v2); (obtain ⟨ec, rfl, rfl, rfl, rfl⟩ := validR_ex v3)))
 all_goals refine den_of (τ := tab) tab_ok mixed_ Tryz.func10 rfl (by kernel_rfl) (by kernel_rfl) (by kernel_rfl) ?_
 all_goals (repeat' ((try (conv => whnf)); first
  | refine call_0 ?_
  | refine call_i ?_ ?_
  | refine call_c ?_ (fun _ => ?_) (fun _ => ?_)
  | (with_reducible refine onB_t ?_)
  | (with_reducible refine onB_f ?_)
  | (with_reducible refine onB_hn (by assumption) ?_)
  | (with_reducible refine onB_hy (by assumption) ?_)
  | (with_reducible refine onB_ne ?_)
  | (with_reducible refine onB_d (fun _ => ?_) (fun _ => ?_))
  | (with_reducible refine onB_n (fun _ => ?_) (fun _ => ?_))
  | refine OnB.mk (fun _ => ?_) (fun _ => ?_)
  | refine obl_i ?_ ?_
  | refine Drw.mk (by kernel_rfl) ?_
  | refine mks_i ?_ ?_
  | refine slp_i ?_ ?_
  | (with_reducible refine elem_u ?_ ?_)
  | (with_reducible refine elem_0 ?_)
  | (with_reducible refine elem_1 ?_)
  | refine Ends.mk ?_))
 all_goals (try refine Pr.mk ?_)
 all_goals first
  | ((conv => whnf); refine Sw.Loop.unroll ?_)
  | skip
 all_goals (repeat' ((try rw [w01]); (try rw [w11]); (try rw [w21]); (try rw [w31]); (try rw [w41]); (try rw [w51]); (try (conv => whnf)); first
  | refine call_0 ?_
  | refine call_i ?_ ?_
  | (with_reducible refine onB_t ?_)
  | (with_reducible refine onB_f ?_)
  | refine onB_yes (by simp only [List.length_cons, List.length_nil]; decide) ?_
  | refine onB_no (by simp only [List.length_cons, List.length_nil]; decide) ?_
  | refine onB_yes (by decide) ?_
  | refine onB_no (by decide) ?_
  | (with_reducible refine onB_hn (by assumption) ?_)
  | (with_reducible refine onB_hy (by assumption) ?_)
  | (with_reducible refine onB_ne ?_)
  | (with_reducible refine onB_d (fun _ => ?_) (fun _ => ?_))
  | (with_reducible refine onB_n (fun _ => ?_) (fun _ => ?_))
  | refine OnB.mk (fun _ => ?_) (fun _ => ?_)
  | refine obl_i ?_ ?_
  | refine Drw.mk (by kernel_rfl) ?_
  | refine mks_i ?_ ?_
  | refine slp_i ?_ ?_
  | (with_reducible refine elem_u ?_ ?_)
  | (with_reducible refine elem_0 ?_)
  | (with_reducible refine elem_1 ?_)
  | (with_reducible refine elem_2 ?_)
  | (with_reducible refine elem_3 ?_)
  | (with_reducible refine elem_4 ?_)
  | (with_reducible refine elem_5 ?_)
  | refine Ends.mk ?_))
 all_goals (try refine Pr.mk ?_)
 all_goals first
  | ((conv => whnf); refine Sw.Loop.unroll ?_)
  | skip
 all_goals (repeat' ((try rw [w01]); (try rw [w11]); (try rw [w21]); (try rw [w31]); (try rw [w41]); (try rw [w51]); (try (conv => whnf)); first
  | refine call_0 ?_
  | refine call_i ?_ ?_
  | (with_reducible refine onB_t ?_)
  | (with_reducible refine onB_f ?_)
  | refine onB_yes (by simp only [List.length_cons, List.length_nil]; decide) ?_
  | refine onB_no (by simp only [List.length_cons, List.length_nil]; decide) ?_
  | refine onB_yes (by decide) ?_
  | refine onB_no (by decide) ?_
  | (with_reducible refine onB_hn (by assumption) ?_)
  | (with_reducible refine onB_hy (by assumption) ?_)
  | (with_reducible refine onB_ne ?_)
  | (with_reducible refine onB_d (fun _ => ?_) (fun _ => ?_))
  | (with_reducible refine onB_n (fun _ => ?_) (fun _ => ?_))
  | refine OnB.mk (fun _ => ?_) (fun _ => ?_)
  | refine obl_i ?_ ?_
  | refine Drw.mk (by kernel_rfl) ?_
  | refine mks_i ?_ ?_
  | refine slp_i ?_ ?_
  | (with_reducible refine elem_u ?_ ?_)
  | (with_reducible refine elem_0 ?_)
  | (with_reducible refine elem_1 ?_)
  | (with_reducible refine elem_2 ?_)
  | (with_reducible refine elem_3 ?_)
  | (with_reducible refine elem_4 ?_)
  | (with_reducible refine elem_5 ?_)
  | refine Ends.mk ?_))
 all_goals (try refine Pr.mk ?_)
 all_goals first
  | ((conv => whnf); refine Sw.Loop.unroll ?_)
  | skip
 all_goals (repeat' ((try rw [w01]); (try rw [w11]); (try rw [w21]); (try rw [w31]); (try rw [w41]); (try rw [w51]); (try (conv => whnf)); first
  | refine call_0 ?_
  | refine call_i ?_ ?_
  | (with_reducible refine onB_t ?_)
  | (with_reducible refine onB_f ?_)
  | refine onB_yes (by simp only [List.length_cons, List.length_nil]; decide) ?_
  | refine onB_no (by simp only [List.length_cons, List.length_nil]; decide) ?_
  | refine onB_yes (by decide) ?_
  | refine onB_no (by decide) ?_
  | (with_reducible refine onB_hn (by assumption) ?_)
  | (with_reducible refine onB_hy (by assumption) ?_)
  | (with_reducible refine onB_ne ?_)
  | (with_reducible refine onB_d (fun _ => ?_) (fun _ => ?_))
  | (with_reducible refine onB_n (fun _ => ?_) (fun _ => ?_))
  | refine OnB.mk (fun _ => ?_) (fun _ => ?_)
  | refine obl_i ?_ ?_
  | refine Drw.mk (by kernel_rfl) ?_
  | refine mks_i ?_ ?_
  | refine slp_i ?_ ?_
  | (with_reducible refine elem_u ?_ ?_)
  | (with_reducible refine elem_0 ?_)
  | (with_reducible refine elem_1 ?_)
  | (with_reducible refine elem_2 ?_)
  | (with_reducible refine elem_3 ?_)
  | (with_reducible refine elem_4 ?_)
  | (with_reducible refine elem_5 ?_)
  | refine Ends.mk ?_))
 all_goals (try refine Pr.mk ?_)
 all_goals first
  | ((conv => whnf); refine Sw.Loop.unroll ?_)
  | skip
 all_goals (repeat' ((try rw [w01]); (try rw [w11]); (try rw [w21]); (try rw [w31]); (try rw [w41]); (try rw [w51]); (try (conv => whnf)); first
  | refine call_0 ?_
  | refine call_i ?_ ?_
  | (with_reducible refine onB_t ?_)
  | (with_reducible refine onB_f ?_)
  | refine onB_yes (by simp only [List.length_cons, List.length_nil]; decide) ?_
  | refine onB_no (by simp only [List.length_cons, List.length_nil]; decide) ?_
  | refine onB_yes (by decide) ?_
  | refine onB_no (by decide) ?_
  | (with_reducible refine onB_hn (by assumption) ?_)
  | (with_reducible refine onB_hy (by assumption) ?_)
  | (with_reducible refine onB_ne ?_)
  | (with_reducible refine onB_d (fun _ => ?_) (fun _ => ?_))
  | (with_reducible refine onB_n (fun _ => ?_) (fun _ => ?_))
  | refine OnB.mk (fun _ => ?_) (fun _ => ?_)
  | refine obl_i ?_ ?_
  | refine Drw.mk (by kernel_rfl) ?_
  | refine mks_i ?_ ?_
  | refine slp_i ?_ ?_
  | (with_reducible refine elem_u ?_ ?_)
  | (with_reducible refine elem_0 ?_)
  | (with_reducible refine elem_1 ?_)
  | (with_reducible refine elem_2 ?_)
  | (with_reducible refine elem_3 ?_)
  | (with_reducible refine elem_4 ?_)
  | (with_reducible refine elem_5 ?_)
  | refine Ends.mk ?_))
 all_goals (try refine Pr.mk ?_)
 all_goals first
  | ((conv => whnf); refine Sw.Loop.unroll ?_)
  | skip
 all_goals (repeat' ((try rw [w01]); (try rw [w11]); (try rw [w21]); (try rw [w31]); (try rw [w41]); (try rw [w51]); (try (conv => whnf)); first
  | refine call_0 ?_
  | refine call_i ?_ ?_
  | (with_reducible refine onB_t ?_)
  | (with_reducible refine onB_f ?_)
  | refine onB_yes (by simp only [List.length_cons, List.length_nil]; decide) ?_
  | refine onB_no (by simp only [List.length_cons, List.length_nil]; decide) ?_
  | refine onB_yes (by decide) ?_
  | refine onB_no (by decide) ?_
  | (with_reducible refine onB_hn (by assumption) ?_)
  | (with_reducible refine onB_hy (by assumption) ?_)
  | (with_reducible refine onB_ne ?_)
  | (with_reducible refine onB_d (fun _ => ?_) (fun _ => ?_))
  | (with_reducible refine onB_n (fun _ => ?_) (fun _ => ?_))
  | refine OnB.mk (fun _ => ?_) (fun _ => ?_)
  | refine obl_i ?_ ?_
  | refine Drw.mk (by kernel_rfl) ?_
  | refine mks_i ?_ ?_
  | refine slp_i ?_ ?_
  | (with_reducible refine elem_u ?_ ?_)
  | (with_reducible refine elem_0 ?_)
  | (with_reducible refine elem_1 ?_)
  | (with_reducible refine elem_2 ?_)
  | (with_reducible refine elem_3 ?_)
  | (with_reducible refine elem_4 ?_)
  | (with_reducible refine elem_5 ?_)
  | refine Ends.mk ?_))
 all_goals (try refine Pr.mk ?_)
 all_goals first
  | ((conv => whnf); refine Sw.Loop.unroll ?_)
  | skip
 all_goals (repeat' ((try rw [w01]); (try rw [w11]); (try rw [w21]); (try rw [w31]); (try rw [w41]); (try rw [w51]); (try (conv => whnf)); first
  | refine call_0 ?_
  | refine call_i ?_ ?_
  | (with_reducible refine onB_t ?_)
  | (with_reducible refine onB_f ?_)
  | refine onB_yes (by simp only [List.length_cons, List.length_nil]; decide) ?_
  | refine onB_no (by simp only [List.length_cons, List.length_nil]; decide) ?_
  | refine onB_yes (by decide) ?_
  | refine onB_no (by decide) ?_
  | (with_reducible refine onB_hn (by assumption) ?_)
  | (with_reducible refine onB_hy (by assumption) ?_)
  | (with_reducible refine onB_ne ?_)
  | (with_reducible refine onB_d (fun _ => ?_) (fun _ => ?_))
  | (with_reducible refine onB_n (fun _ => ?_) (fun _ => ?_))
  | refine OnB.mk (fun _ => ?_) (fun _ => ?_)
  | refine obl_i ?_ ?_
  | refine Drw.mk (by kernel_rfl) ?_
  | refine mks_i ?_ ?_
  | refine slp_i ?_ ?_
  | (with_reducible refine elem_u ?_ ?_)
  | (with_reducible refine elem_0 ?_)
  | (with_reducible refine elem_1 ?_)
  | (with_reducible refine elem_2 ?_)
  | (with_reducible refine elem_3 ?_)
  | (with_reducible refine elem_4 ?_)
  | (with_reducible refine elem_5 ?_)
  | refine Ends.mk ?_))
 all_goals (try refine Pr.mk ?_)
 all_goals first
  | ((conv => whnf); refine Sw.Loop.unroll ?_)
  | skip
 all_goals (repeat' ((try rw [w01]); (try rw [w11]); (try rw [w21]); (try rw [w31]); (try rw [w41]); (try rw [w51]); (try (conv => whnf)); first
  | refine call_0 ?_
  | refine call_i ?_ ?_
  | (with_reducible refine onB_t ?_)
  | (with_reducible refine onB_f ?_)
  | refine onB_yes (by simp only [List.length_cons, List.length_nil]; decide) ?_
  | refine onB_no (by simp only [List.length_cons, List.length_nil]; decide) ?_
  | refine onB_yes (by decide) ?_
  | refine onB_no (by decide) ?_
  | (with_reducible refine onB_hn (by assumption) ?_)
  | (with_reducible refine onB_hy (by assumption) ?_)
  | (with_reducible refine onB_ne ?_)
  | (with_reducible refine onB_d (fun _ => ?_) (fun _ => ?_))
  | (with_reducible refine onB_n (fun _ => ?_) (fun _ => ?_))
  | refine OnB.mk (fun _ => ?_) (fun _ => ?_)
  | refine obl_i ?_ ?_
  | refine Drw.mk (by kernel_rfl) ?_
  | refine mks_i ?_ ?_
  | refine slp_i ?_ ?_
  | (with_reducible refine elem_u ?_ ?_)
  | (with_reducible refine elem_0 ?_)
  | (with_reducible refine elem_1 ?_)
  | (with_reducible refine elem_2 ?_)
  | (with_reducible refine elem_3 ?_)
  | (with_reducible refine elem_4 ?_)
  | (with_reducible refine elem_5 ?_)
  | refine Ends.mk ?_))
 all_goals (try refine Pr.mk ?_)
 all_goals (try simp only [List.length_map] at *)
 all_goals (try simp (disch := (unfold smallI at *; omega)) only [wi64, dm8] at *)
 all_goals (try simp only [sgnI_lt0, sgnI_zero, sgnI_le0, sgnI_gt0, sgnI_ge0, sgnI_eq1, cmpI_lt0, cmpI_gt0, cmpI_eq0, cmpI_le0, cmpI_ge0, cmpR_of, sgnR_of, sgnR_lt0, sgnR_eq0, sgnR_gt0, sgnR_le0, sgnR_ge0, sgnR_eq1, cmpR_lt0, cmpR_gt0, cmpR_eq0, cmpR_le0, cmpR_ge0] at *)
 all_goals (try simp only [validR_R] at *)
 all_goals first
  | rfl
  | (unfold smallI at *; omega)
  | ((repeat' apply And.intro) <;> first | assumption | exact rzb (by omega) | exact szb (by omega))
  | omega
  | (exfalso; rename (vcR _ _ _ _ _ _ _ _ _ _ _ _ != _) = true => h; unfold vcR at h; simp only [validR_R, sgnv_num, pos_num, Bool.true_and, bne_self_eq_false, Bool.false_eq_true] at h; done)
  | ((repeat' apply And.intro) <;> first | assumption | (unfold rz sz; omega) | omega)
  | (refine bE ?_; simp; done)
  | (exfalso; simp at *; done)
  | (exfalso; simp_all; done)
  | skip⟩

end Go.Proofs.YtkcoahciohejkaaGreat

namespace Go.Proofs.YtkcoahciohejkaaGreat
open Go Go.RowKit Go.Sw Go.ChangeShapes Go.WideShapes Go.ChangeAt
set_option maxRecDepth 100000
theorem SupportValid_den : ∀ xs, FitAs [.cons (.cons (.cons (.bool) (.cons (.slice (.int .u32)) .nil)) (.cons (.cons (.bool) (.cons (.slice (.int .u32)) .nil)) .nil)) (.cons (.cons (.cons (.bool) (.cons (.slice (.int .u32)) .nil)) (.cons (.cons (.bool) (.cons (.slice (.int .u32)) .nil)) .nil)) (.cons (.cons (.cons (.bool) (.cons (.slice (.int .u32)) .nil)) (.cons (.cons (.bool) (.cons (.slice (.int .u32)) .nil)) .nil)) .nil)), .cons (.cons (.cons (.bool) (.cons (.slice (.int .u32)) .nil)) (.cons (.cons (.bool) (.cons (.slice (.int .u32)) .nil)) .nil)) (.cons (.cons (.cons (.bool) (.cons (.slice (.int .u32)) .nil)) (.cons (.cons (.bool) (.cons (.slice (.int .u32)) .nil)) .nil)) (.cons (.cons (.cons (.bool) (.cons (.slice (.int .u32)) .nil)) (.cons (.cons (.bool) (.cons (.slice (.int .u32)) .nil)) .nil)) .nil)), .cons (.int .i16) (.cons (.int .i16) (.cons (.int .u16) (.cons (.int .u8) .nil)))] xs → Den Tryz.prog 10 xs (.bool true) := by
  rintro xs ⟨_, _, ⟨_, ⟨_, _, ⟨_, _, ⟨_, _, ⟨b1, rfl⟩, ⟨_, _, fl2, rfl, rfl⟩, rfl⟩, ⟨_, _, ⟨_, _, ⟨b3, rfl⟩, ⟨_, _, fl4, rfl, rfl⟩, rfl⟩, rfl, rfl⟩, rfl⟩, ⟨_, _, ⟨_, _, ⟨_, _, ⟨b5, rfl⟩, ⟨_, _, fl6, rfl, rfl⟩, rfl⟩, ⟨_, _, ⟨_, _, ⟨b7, rfl⟩, ⟨_, _, fl8, rfl, rfl⟩, rfl⟩, rfl, rfl⟩, rfl⟩, ⟨_, _, ⟨_, _, ⟨_, _, ⟨b9, rfl⟩, ⟨_, _, fl10, rfl, rfl⟩, rfl⟩, ⟨_, _, ⟨_, _, ⟨b11, rfl⟩, ⟨_, _, fl12, rfl, rfl⟩, rfl⟩, rfl, rfl⟩, rfl⟩, rfl, rfl⟩, rfl⟩, rfl⟩, rfl⟩, ⟨_, _, ⟨_, ⟨_, _, ⟨_, _, ⟨_, _, ⟨b13, rfl⟩, ⟨_, _, fl14, rfl, rfl⟩, rfl⟩, ⟨_, _, ⟨_, _, ⟨b15, rfl⟩, ⟨_, _, fl16, rfl, rfl⟩, rfl⟩, rfl, rfl⟩, rfl⟩, ⟨_, _, ⟨_, _, ⟨_, _, ⟨b17, rfl⟩, ⟨_, _, fl18, rfl, rfl⟩, rfl⟩, ⟨_, _, ⟨_, _, ⟨b19, rfl⟩, ⟨_, _, fl20, rfl, rfl⟩, rfl⟩, rfl, rfl⟩, rfl⟩, ⟨_, _, ⟨_, _, ⟨_, _, ⟨b21, rfl⟩, ⟨_, _, fl22, rfl, rfl⟩, rfl⟩, ⟨_, _, ⟨_, _, ⟨b23, rfl⟩, ⟨_, _, fl24, rfl, rfl⟩, rfl⟩, rfl, rfl⟩, rfl⟩, rfl, rfl⟩, rfl⟩, rfl⟩, rfl⟩, ⟨_, _, ⟨_, ⟨_, _, ⟨n25, wn25, rfl⟩, ⟨_, _, ⟨n26, wn26, rfl⟩, ⟨_, _, ⟨n27, wn27, rfl⟩, ⟨_, _, ⟨n28, wn28, rfl⟩, rfl, rfl⟩, rfl⟩, rfl⟩, rfl⟩, rfl⟩, rfl, rfl⟩, rfl⟩, rfl⟩
  obtain ⟨l2, zl2, yl2, rfl⟩ := fit_limbs fl2
  obtain ⟨l4, zl4, yl4, rfl⟩ := fit_limbs fl4
  obtain ⟨l6, zl6, yl6, rfl⟩ := fit_limbs fl6
  obtain ⟨l8, zl8, yl8, rfl⟩ := fit_limbs fl8
  obtain ⟨l10, zl10, yl10, rfl⟩ := fit_limbs fl10
  obtain ⟨l12, zl12, yl12, rfl⟩ := fit_limbs fl12
  obtain ⟨l14, zl14, yl14, rfl⟩ := fit_limbs fl14
  obtain ⟨l16, zl16, yl16, rfl⟩ := fit_limbs fl16
  obtain ⟨l18, zl18, yl18, rfl⟩ := fit_limbs fl18
  obtain ⟨l20, zl20, yl20, rfl⟩ := fit_limbs fl20
  obtain ⟨l22, zl22, yl22, rfl⟩ := fit_limbs fl22
  obtain ⟨l24, zl24, yl24, rfl⟩ := fit_limbs fl24
  have wn25 := wfI16 wn25
  have wn26 := wfI16 wn26
  obtain ⟨mn27, rfl, hmn27⟩ := wfNat (by simp) wn27
  have hmn27 : mn27 < 65536 := hmn27
  obtain ⟨mn28, rfl, hmn28⟩ := wfNat (by simp) wn28
  have hmn28 : mn28 < 256 := hmn28
  simp only [List.append_nil, List.nil_append, List.cons_append]
  exact DenI.den (P := Tryz.prog) (f := 10) (by unfold smallI; (repeat' apply And.intro) <;> first | trivial | omega)
set_option maxHeartbeats 800000 in
theorem SupportValid_lifted (os : Os) (started : os.Started) (H : Type) (enc : TypeId × Value → H) :
    ReturnsInHanded {} Tryz.checked os 10 .any (Rows.supportValidSpec.pre6 enc Tryz.prog Tryz.f10 Rows.supportValidRow.domain false) (Rows.supportValidSpec.post enc Tryz.prog Tryz.f10 false true false false) := by
  refine returnsInHanded_of_change (C := Tryz.checked) Tryz.own started (by kernel_rfl) Tryz.func10
    (ChangeSpec.witness6 (enc := enc) (C := Tryz.checked) false ⟨#[], #[.agg #[.bool false, .slice none 0 0, .bool false, .slice none 0 0, .bool false, .slice none 0 0, .bool false, .slice none 0 0, .bool false, .slice none 0 0, .bool false, .slice none 0 0], .agg #[.bool false, .slice none 0 0, .bool false, .slice none 0 0, .bool false, .slice none 0 0, .bool false, .slice none 0 0, .bool false, .slice none 0 0, .bool false, .slice none 0 0], .agg #[.int .i16 0, .int .i16 0, .int .u16 0, .int .u8 0]], []⟩ 12 (by kernel_rfl) (by kernel_rfl) (by kernel_rfl) (by kernel_rfl)) ?_
  intro W base args ds gs before hval0 hW _ _
  have hW' := hW
  obtain ⟨p, q, hA0, hV, rfl, _, _⟩ := hW
  have hA : DataW.TrodAll enc Tryz.prog W 0 (fun _ => true) true Tryz.f10.params.toList args.toList ds p := hA0
  obtain ⟨rfl, rfl⟩ := trodVars_none hV
  obtain ⟨d0, d1, d2, rfl⟩ := len3 (show ds.length = 3 from trodAll_len hA)
  simp only [List.append_nil] at hW'
  have hlt : ∀ x ∈ p, x.block < W.heap.size := fun x hx => by simpa using hW'.lt x hx
  refine (law_run (Ts := [.cons (.cons (.cons (.bool) (.cons (.slice (.int .u32)) .nil)) (.cons (.cons (.bool) (.cons (.slice (.int .u32)) .nil)) .nil)) (.cons (.cons (.cons (.bool) (.cons (.slice (.int .u32)) .nil)) (.cons (.cons (.bool) (.cons (.slice (.int .u32)) .nil)) .nil)) (.cons (.cons (.cons (.bool) (.cons (.slice (.int .u32)) .nil)) (.cons (.cons (.bool) (.cons (.slice (.int .u32)) .nil)) .nil)) .nil)), .cons (.cons (.cons (.bool) (.cons (.slice (.int .u32)) .nil)) (.cons (.cons (.bool) (.cons (.slice (.int .u32)) .nil)) .nil)) (.cons (.cons (.cons (.bool) (.cons (.slice (.int .u32)) .nil)) (.cons (.cons (.bool) (.cons (.slice (.int .u32)) .nil)) .nil)) (.cons (.cons (.cons (.bool) (.cons (.slice (.int .u32)) .nil)) (.cons (.cons (.bool) (.cons (.slice (.int .u32)) .nil)) .nil)) .nil)), .cons (.int .i16) (.cons (.int .i16) (.cons (.int .u16) (.cons (.int .u8) .nil)))]) (by kernel_rfl) SupportValid_den (fun j t v hj ha => hval0 j t v (by simpa using hj) (by simpa using ha)) hA).mono fun e W' he => ?_
  obtain ⟨_, rfl, rfl, hb⟩ := he
  refine ⟨_, rfl, _, _, _, [], _, [], hW', ?_, trodAll_below Tryz.laidOut hb (by kernel_rfl) hlt hA, rfl, hb.frame _, fun h => by cases h⟩
  exact trodAll_mk1 (shut_bool Tryz.underlying4 _)
theorem SupportValid_holds : Rows.SupportValidSaid :=
  OpenClaim.holds_of_wide 10 Tryz.f10 rfl rfl rfl rfl rfl rfl rfl ⟨rfl, rfl, rfl, rfl, rfl⟩ rfl rfl rfl rfl rfl (by kernel_rfl) Tryz.func10 (by kernel_rfl)
    (of_decide_eq_true (by kernel_rfl)) (by unfold Func.isWrapper; first | (rw [if_pos (by decide +kernel)]; kernel_rfl) | (rw [if_neg (by decide +kernel)]; exact ⟨rfl, rfl⟩))
    (fun os started H enc _ => SupportValid_lifted os started H enc)
#print axioms SupportValid_holds
end Go.Proofs.YtkcoahciohejkaaGreat
