/-
  What the functions swarfref05.two, swarfref05.Sign, swarfref05.Sub, swarfref05.Cmp, swarfref05.Equal, swarfref05.CmpRat, swarfref03.Valid, swarfref03.Int answer, each out of its text by the abstract run.
  A cut that is dominated removes nothing that the other one does not remove.
  The order of roots, as the program finds it.
  Roots are totally ordered; no cut reaches below its ends; the least height of several cuts.
  Lists of cuts, as the runs make them.
  What the functions swarfref52.pos, swarfref52.Of, swarflaw52.is, swarfref52.Dominated, material.Dominated answer, each out of its text by the abstract run.
  What the functions swarflaw52.awake answer, each out of its text by the abstract run.
  Contracts under facts of the world: a stronger condition lifts them; a package's map of names.
  Leaves of the runs of the order of roots.
  The cuts that no other one dominates reach as low as all of them.
  The loops over lists of cuts.
  Tools, magazines and motions, in plain numbers.
  What the functions answer, each out of its text by the abstract run.
  What the functions tool.length, swarfref27.length, tool.Find$1, tool.Valid, swarfref27.Good answer, each out of its text by the abstract run.
  What the functions api.Tool], tool.Find, swarfref27.Find, tool.Magazine, swarfref27.Magazine answer, each out of its text by the abstract run.
  slices.Clone over abstract values, at structs.
  Conditions: none.
-/
import Derived.Test.YtigbdpkpaleboaaGreatDoorM11
import Derived.Maps.Keyed
import Derived.Maps.StringElems
import Derived.LaidMore
import Derived.OpenShut
import Derived.ProofKit
import Derived.WalkKit
import Derived.Shelf.SlicesE.Clone
set_option linter.all false
namespace Go.Proofs.YtigbdpkpaleboaaGreatDoor
open Go Go.RowKit Go.Sw
set_option linter.unusedVariables false
set_option maxRecDepth 100000
set_option maxHeartbeats 8000000
set_option synthInstance.maxSize 4000
set_option synthInstance.maxHeartbeats 400000
instance x_two (a b c : Rat) : DenI Tryz.prog 123 [R a, R b, R c] (rz a ≤ 4000000 ∧ rz b ≤ 4000000 ∧ rz c ≤ 4000000) (.int .i64 (exI a b c)) := ⟨fun hp => by
 have i_a : RzB a 4000000 := ⟨hp.1⟩
 have i_b : RzB b 4000000 := ⟨hp.2.1⟩
 have i_c : RzB c 4000000 := ⟨hp.2.2⟩
 all_goals refine den_of (τ := tab) tab_ok mixed_ Tryz.func123 rfl (by kernel_rfl) (by kernel_rfl) (by kernel_rfl) ?_
 all_goals (repeat' ((try (conv => whnf)); first
  | refine call_0 ?_
  | refine call_i ?_ ?_
  | refine call_c ?_ (fun _ => ?_) (fun _ => ?_)
  | (with_reducible refine onB_t ?_)
  | (with_reducible refine onB_f ?_)
  | (with_reducible refine onB_d (fun _ => ?_) (fun _ => ?_))
  | (with_reducible refine onB_n (fun _ => ?_) (fun _ => ?_))
  | refine OnB.mk (fun _ => ?_) (fun _ => ?_)
  | refine obl_i ?_ ?_
  | refine Drw.mk (by kernel_rfl) ?_
  | refine mks_i ?_ ?_
  | refine slp_i ?_ ?_
  | (with_reducible refine elem_u ?_ ?_)
  | (with_reducible refine elem_0 ?_)
  | (with_reducible refine elem_1 ?_)
  | refine Ends.mk ?_))
 all_goals (try refine Pr.mk ?_)
 all_goals (try simp only [sgnI_lt0, sgnI_zero, sgnI_le0, sgnI_gt0, sgnI_ge0, sgnI_eq1, cmpI_lt0, cmpI_gt0, cmpI_eq0, cmpI_le0, cmpI_ge0, cmpR_of, sgnR_of, sgnR_lt0, sgnR_eq0, sgnR_gt0, sgnR_le0, sgnR_ge0, sgnR_eq1, cmpR_lt0, cmpR_gt0, cmpR_eq0, cmpR_le0, cmpR_ge0] at *)
 all_goals (try simp only [w_ss, w_sc, w_xs, w_xx] at *)
 all_goals first
  | contradiction
  | with_reducible exact tw_1 (by assumption)
  | with_reducible exact tw_2 (by assumption) (by assumption)
  | with_reducible exact tw_3 (by assumption) (by assumption)
  | with_reducible exact tw_4 (by assumption) (by assumption) (by assumption)
  | ((repeat' apply And.intro) <;> first | assumption | exact rzb (by omega) | exact szb (by omega) | exact Int.mul_ne_zero (den_ne _) (den_ne _))
  | skip⟩

instance x_sign (a b c d m n : Rat) : DenI Tryz.prog 104 [Q6 a b c d m n] (rz a ≤ 80010 ∧ rz b ≤ 80010 ∧ rz c ≤ 80010 ∧ rz d ≤ 80010 ∧ rz m ≤ 80010 ∧ rz n ≤ 80010 ∧ 0 ≤ m ∧ 0 ≤ n) (.int .i64 (sg4 a b c d m n)) := ⟨fun hp => by
 have i_a : RzB a 80010 := ⟨hp.1⟩
 have i_b : RzB b 80010 := ⟨hp.2.1⟩
 have i_c : RzB c 80010 := ⟨hp.2.2.1⟩
 have i_d : RzB d 80010 := ⟨hp.2.2.2.1⟩
 have i_m : RzB m 80010 := ⟨hp.2.2.2.2.1⟩
 have i_n : RzB n 80010 := ⟨hp.2.2.2.2.2.1⟩
 have hpre := hp.2.2.2.2.2.2
 all_goals refine den_of (τ := tab) tab_ok mixed_ Tryz.func104 rfl (by kernel_rfl) (by kernel_rfl) (by kernel_rfl) ?_
 all_goals (repeat' ((try (conv => whnf)); first
  | refine call_0 ?_
  | refine call_i ?_ ?_
  | refine call_c ?_ (fun _ => ?_) (fun _ => ?_)
  | (with_reducible refine onB_t ?_)
  | (with_reducible refine onB_f ?_)
  | (with_reducible refine onB_d (fun _ => ?_) (fun _ => ?_))
  | (with_reducible refine onB_n (fun _ => ?_) (fun _ => ?_))
  | refine OnB.mk (fun _ => ?_) (fun _ => ?_)
  | refine obl_i ?_ ?_
  | refine Drw.mk (by kernel_rfl) ?_
  | refine mks_i ?_ ?_
  | refine slp_i ?_ ?_
  | (with_reducible refine elem_u ?_ ?_)
  | (with_reducible refine elem_0 ?_)
  | (with_reducible refine elem_1 ?_)
  | refine Ends.mk ?_))
 all_goals (try refine Pr.mk ?_)
 all_goals (try simp only [sgnI_lt0, sgnI_zero, sgnI_le0, sgnI_gt0, sgnI_ge0, sgnI_eq1, cmpI_lt0, cmpI_gt0, cmpI_eq0, cmpI_le0, cmpI_ge0, cmpR_of, sgnR_of, sgnR_lt0, sgnR_eq0, sgnR_gt0, sgnR_le0, sgnR_ge0, sgnR_eq1, cmpR_lt0, cmpR_gt0, cmpR_eq0, cmpR_le0, cmpR_ge0] at *)
 all_goals (try simp only [w_ss, w_sc, w_xs, w_xx] at *)
 all_goals first
  | contradiction
  | (exfalso; grind)
  | with_reducible exact s4_1 (by assumption)
  | with_reducible exact s4_2 (by assumption) (by assumption)
  | with_reducible exact s4_3 (by assumption) (by assumption)
  | with_reducible exact s4_4 (by assumption) (by assumption) (by assumption)
  | ((repeat' apply And.intro) <;> first | assumption | exact rzb (by omega) | exact szb (by omega) | exact Int.mul_ne_zero (den_ne _) (den_ne _))
  | skip⟩

instance x_sub (a b c d e f : Rat) : DenI Tryz.prog 105 [Q3 a b c, Q3 d e f] (rz a ≤ 80000 ∧ rz b ≤ 80000 ∧ rz c ≤ 80000 ∧ rz d ≤ 80000 ∧ rz e ≤ 80000 ∧ rz f ≤ 80000) (Q6 (a - d) b (-e) 0 c f) := ⟨fun hp => by
 have i_a : RzB a 80000 := ⟨hp.1⟩
 have i_b : RzB b 80000 := ⟨hp.2.1⟩
 have i_c : RzB c 80000 := ⟨hp.2.2.1⟩
 have i_d : RzB d 80000 := ⟨hp.2.2.2.1⟩
 have i_e : RzB e 80000 := ⟨hp.2.2.2.2.1⟩
 have i_f : RzB f 80000 := ⟨hp.2.2.2.2.2⟩
 all_goals refine den_of (τ := tab) tab_ok mixed_ Tryz.func105 rfl (by kernel_rfl) (by kernel_rfl) (by kernel_rfl) ?_
 all_goals (repeat' ((try (conv => whnf)); first
  | refine call_0 ?_
  | refine call_i ?_ ?_
  | refine call_c ?_ (fun _ => ?_) (fun _ => ?_)
  | (with_reducible refine onB_t ?_)
  | (with_reducible refine onB_f ?_)
  | (with_reducible refine onB_d (fun _ => ?_) (fun _ => ?_))
  | (with_reducible refine onB_n (fun _ => ?_) (fun _ => ?_))
  | refine OnB.mk (fun _ => ?_) (fun _ => ?_)
  | refine obl_i ?_ ?_
  | refine Drw.mk (by kernel_rfl) ?_
  | refine mks_i ?_ ?_
  | refine slp_i ?_ ?_
  | (with_reducible refine elem_u ?_ ?_)
  | (with_reducible refine elem_0 ?_)
  | (with_reducible refine elem_1 ?_)
  | refine Ends.mk ?_))
 all_goals (try refine Pr.mk ?_)
 all_goals (try simp only [sgnI_lt0, sgnI_zero, sgnI_le0, sgnI_gt0, sgnI_ge0, sgnI_eq1, cmpI_lt0, cmpI_gt0, cmpI_eq0, cmpI_le0, cmpI_ge0, cmpR_of, sgnR_of, sgnR_lt0, sgnR_eq0, sgnR_gt0, sgnR_le0, sgnR_ge0, sgnR_eq1, cmpR_lt0, cmpR_gt0, cmpR_eq0, cmpR_le0, cmpR_ge0] at *)
 all_goals first
  | rfl
  | (simp only [redB, redC, mkA, mkB, mkC, cooC, ptC, *, true_or, or_true, if_true, if_false, or_self, and_self, and_true, true_and, and_false, false_and, not_true, not_false_iff, Bool.false_eq_true, decide_true, decide_false, Bool.or_true, Bool.true_or, Bool.or_false, Bool.false_or]; rfl)
  | ((repeat' apply And.intro) <;> first | assumption | exact rzb (by omega) | exact szb (by omega) | exact Int.mul_ne_zero (den_ne _) (den_ne _))
  | (exfalso; simp_all; done)
  | (exfalso; grind)
  | omega
  | ((repeat' apply And.intro) <;> first | assumption | exact rzb (by omega) | exact szb (by omega) | exact Int.mul_ne_zero (den_ne _) (den_ne _))
  | skip⟩

instance x_cmp (a b c d e f : Rat) : DenI Tryz.prog 73 [Q3 a b c, Q3 d e f] (rz a ≤ 20000 ∧ rz b ≤ 20000 ∧ rz c ≤ 20000 ∧ rz d ≤ 20000 ∧ rz e ≤ 20000 ∧ rz f ≤ 20000 ∧ 0 ≤ c ∧ 0 ≤ f) (.int .i64 (cmp4 a b c d e f)) := ⟨fun hp => by
 have i_a : RzB a 20000 := ⟨hp.1⟩
 have i_b : RzB b 20000 := ⟨hp.2.1⟩
 have i_c : RzB c 20000 := ⟨hp.2.2.1⟩
 have i_d : RzB d 20000 := ⟨hp.2.2.2.1⟩
 have i_e : RzB e 20000 := ⟨hp.2.2.2.2.1⟩
 have i_f : RzB f 20000 := ⟨hp.2.2.2.2.2.1⟩
 have hpre := hp.2.2.2.2.2.2
 all_goals refine den_of (τ := tab) tab_ok mixed_ Tryz.func73 rfl (by kernel_rfl) (by kernel_rfl) (by kernel_rfl) ?_
 all_goals (repeat' ((try (conv => whnf)); first
  | refine call_0 ?_
  | refine call_i ?_ ?_
  | refine call_c ?_ (fun _ => ?_) (fun _ => ?_)
  | (with_reducible refine onB_t ?_)
  | (with_reducible refine onB_f ?_)
  | (with_reducible refine onB_d (fun _ => ?_) (fun _ => ?_))
  | (with_reducible refine onB_n (fun _ => ?_) (fun _ => ?_))
  | refine OnB.mk (fun _ => ?_) (fun _ => ?_)
  | refine obl_i ?_ ?_
  | refine Drw.mk (by kernel_rfl) ?_
  | refine mks_i ?_ ?_
  | refine slp_i ?_ ?_
  | (with_reducible refine elem_u ?_ ?_)
  | (with_reducible refine elem_0 ?_)
  | (with_reducible refine elem_1 ?_)
  | refine Ends.mk ?_))
 all_goals (try refine Pr.mk ?_)
 all_goals (try simp only [sgnI_lt0, sgnI_zero, sgnI_le0, sgnI_gt0, sgnI_ge0, sgnI_eq1, cmpI_lt0, cmpI_gt0, cmpI_eq0, cmpI_le0, cmpI_ge0, cmpR_of, sgnR_of, sgnR_lt0, sgnR_eq0, sgnR_gt0, sgnR_le0, sgnR_ge0, sgnR_eq1, cmpR_lt0, cmpR_gt0, cmpR_eq0, cmpR_le0, cmpR_ge0] at *)
 all_goals first
  | rfl
  | exact ⟨rzb (by omega), rzb (by omega), rzb (by omega), rzb (by omega), rzb (by omega), rzb (by omega), hpre⟩
  | ((repeat' apply And.intro) <;> first | assumption | exact rzb (by omega) | exact szb (by omega) | exact Int.mul_ne_zero (den_ne _) (den_ne _))
  | skip⟩

instance x_eq (a b c d e f : Rat) : DenI Tryz.prog 45 [Q3 a b c, Q3 d e f] (rz a ≤ 20000 ∧ rz b ≤ 20000 ∧ rz c ≤ 20000 ∧ rz d ≤ 20000 ∧ rz e ≤ 20000 ∧ rz f ≤ 20000 ∧ 0 ≤ c ∧ 0 ≤ f) (.bool (decide (cmp4 a b c d e f = 0))) := ⟨fun hp => by
 have i_a : RzB a 20000 := ⟨hp.1⟩
 have i_b : RzB b 20000 := ⟨hp.2.1⟩
 have i_c : RzB c 20000 := ⟨hp.2.2.1⟩
 have i_d : RzB d 20000 := ⟨hp.2.2.2.1⟩
 have i_e : RzB e 20000 := ⟨hp.2.2.2.2.1⟩
 have i_f : RzB f 20000 := ⟨hp.2.2.2.2.2.1⟩
 have hpre := hp.2.2.2.2.2.2
 all_goals refine den_of (τ := tab) tab_ok mixed_ Tryz.func45 rfl (by kernel_rfl) (by kernel_rfl) (by kernel_rfl) ?_
 all_goals (repeat' ((try (conv => whnf)); first
  | refine call_0 ?_
  | refine call_i ?_ ?_
  | refine call_c ?_ (fun _ => ?_) (fun _ => ?_)
  | (with_reducible refine onB_t ?_)
  | (with_reducible refine onB_f ?_)
  | (with_reducible refine onB_d (fun _ => ?_) (fun _ => ?_))
  | (with_reducible refine onB_n (fun _ => ?_) (fun _ => ?_))
  | refine OnB.mk (fun _ => ?_) (fun _ => ?_)
  | refine obl_i ?_ ?_
  | refine Drw.mk (by kernel_rfl) ?_
  | refine mks_i ?_ ?_
  | refine slp_i ?_ ?_
  | (with_reducible refine elem_u ?_ ?_)
  | (with_reducible refine elem_0 ?_)
  | (with_reducible refine elem_1 ?_)
  | refine Ends.mk ?_))
 all_goals (try refine Pr.mk ?_)
 all_goals (try simp only [sgnI_lt0, sgnI_zero, sgnI_le0, sgnI_gt0, sgnI_ge0, sgnI_eq1, cmpI_lt0, cmpI_gt0, cmpI_eq0, cmpI_le0, cmpI_ge0, cmpR_of, sgnR_of, sgnR_lt0, sgnR_eq0, sgnR_gt0, sgnR_le0, sgnR_ge0, sgnR_eq1, cmpR_lt0, cmpR_gt0, cmpR_eq0, cmpR_le0, cmpR_ge0] at *)
 all_goals first
  | rfl
  | exact ⟨rzb (by omega), rzb (by omega), rzb (by omega), rzb (by omega), rzb (by omega), rzb (by omega), hpre⟩
  | ((repeat' apply And.intro) <;> first | assumption | exact rzb (by omega) | exact szb (by omega) | exact Int.mul_ne_zero (den_ne _) (den_ne _))
  | skip⟩

instance x_valid (a b c : Rat) : DenI Tryz.prog 44 [Q3 a b c] (rz a ≤ 100000 ∧ rz b ≤ 100000 ∧ rz c ≤ 100000) (.bool (okQ b c)) := ⟨fun hp => by
 have i_a : RzB a 100000 := ⟨hp.1⟩
 have i_b : RzB b 100000 := ⟨hp.2.1⟩
 have i_c : RzB c 100000 := ⟨hp.2.2⟩
 all_goals refine den_of (τ := tab) tab_ok mixed_ Tryz.func44 rfl (by kernel_rfl) (by kernel_rfl) (by kernel_rfl) ?_
 all_goals (repeat' ((try (conv => whnf)); first
  | refine call_0 ?_
  | refine call_i ?_ ?_
  | refine call_c ?_ (fun _ => ?_) (fun _ => ?_)
  | (with_reducible refine onB_t ?_)
  | (with_reducible refine onB_f ?_)
  | (with_reducible refine onB_d (fun _ => ?_) (fun _ => ?_))
  | (with_reducible refine onB_n (fun _ => ?_) (fun _ => ?_))
  | refine OnB.mk (fun _ => ?_) (fun _ => ?_)
  | refine obl_i ?_ ?_
  | refine Drw.mk (by kernel_rfl) ?_
  | refine mks_i ?_ ?_
  | refine slp_i ?_ ?_
  | (with_reducible refine elem_u ?_ ?_)
  | (with_reducible refine elem_0 ?_)
  | (with_reducible refine elem_1 ?_)
  | refine Ends.mk ?_))
 all_goals (try refine Pr.mk ?_)
 all_goals (try simp only [sgnI_lt0, sgnI_zero, sgnI_le0, sgnI_gt0, sgnI_ge0, sgnI_eq1, cmpI_lt0, cmpI_gt0, cmpI_eq0, cmpI_le0, cmpI_ge0, cmpR_of, sgnR_of, sgnR_lt0, sgnR_eq0, sgnR_gt0, sgnR_le0, sgnR_ge0, sgnR_eq1, cmpR_lt0, cmpR_gt0, cmpR_eq0, cmpR_le0, cmpR_ge0] at *)
 all_goals (try simp only [validR_R] at *)
 all_goals first
  | (refine bE ?_; unfold okQ; simp [*]; done)
  | ((repeat' apply And.intro) <;> first | assumption | exact rzb (by omega) | exact szb (by omega) | exact Int.mul_ne_zero (den_ne _) (den_ne _))
  | (exfalso; simp_all; done)
  | (exfalso; grind)
  | omega
  | skip⟩

instance x_int (n : Int)  : DenI Tryz.prog 18 [.int .i64 n] (-9223372036854775808 ≤ n ∧ n ≤ 9223372036854775807) (Q3 (n : Rat) 0 0) := ⟨fun hp => by
 refine den_of (τ := tab) tab_ok mixed_ Tryz.func18 rfl (by kernel_rfl) (by kernel_rfl) (by kernel_rfl) ?_
 all_goals (repeat' ((try (conv => whnf)); first
  | refine call_0 ?_
  | refine call_i ?_ ?_
  | refine call_c ?_ (fun _ => ?_) (fun _ => ?_)
  | (with_reducible refine onB_t ?_)
  | (with_reducible refine onB_f ?_)
  | (with_reducible refine onB_d (fun _ => ?_) (fun _ => ?_))
  | (with_reducible refine onB_n (fun _ => ?_) (fun _ => ?_))
  | refine OnB.mk (fun _ => ?_) (fun _ => ?_)
  | refine obl_i ?_ ?_
  | refine Drw.mk (by kernel_rfl) ?_
  | refine mks_i ?_ ?_
  | refine slp_i ?_ ?_
  | (with_reducible refine elem_u ?_ ?_)
  | (with_reducible refine elem_0 ?_)
  | (with_reducible refine elem_1 ?_)
  | refine Ends.mk ?_))
 all_goals (try refine Pr.mk ?_)
 all_goals (try simp only [sgnI_lt0, sgnI_zero, sgnI_le0, sgnI_gt0, sgnI_ge0, sgnI_eq1, cmpI_lt0, cmpI_gt0, cmpI_eq0, cmpI_le0, cmpI_ge0, cmpR_of, sgnR_of, sgnR_lt0, sgnR_eq0, sgnR_gt0, sgnR_le0, sgnR_ge0, sgnR_eq1, cmpR_lt0, cmpR_gt0, cmpR_eq0, cmpR_le0, cmpR_ge0] at *)
 all_goals first
  | rfl
  | exact hp
  | exact Nat.le_trans (rz_i _ hp.1 hp.2) (by decide)
  | ((repeat' apply And.intro) <;> first | assumption | exact rzb (by omega) | exact szb (by omega) | exact Int.mul_ne_zero (den_ne _) (den_ne _))
  | skip⟩

end Go.Proofs.YtigbdpkpaleboaaGreatDoor

namespace Go.Sw
open Go
set_option linter.unusedVariables false
/-- The reference's and the program's test. -/
def domP (cf cg : Rat) (cfz : Int) (ct cu : Rat) (ctz : Int) (cr : Int) (bf bg : Rat) (bfz : Int) (bt bu : Rat) (btz : Int) (br : Int) : Prop :=
  cfz = ctz ∧ bfz = btz ∧ bfz ≤ cfz ∧ swOn bf bg bt bu (br - cr) cf cg ∧ swOn bf bg bt bu (br - cr) ct cu
instance {cf cg ct cu bf bg bt bu : Rat} {cfz ctz cr bfz btz br : Int} : Decidable (domP cf cg cfz ct cu ctz cr bf bg bfz bt bu btz br) := by unfold domP; infer_instance
section
variable {cf cg ct cu bf bg bt bu x y : Rat} {cfz ctz cr bfz btz br : Int}
end
end Go.Sw

namespace Go.Sw
open Go
set_option linter.unusedVariables false
section
variable {a b c d m n e f : Rat}
end
/-! ### Cuts -/
structure Cut7 where
  fx : Int
  fy : Int
  fz : Int
  tx : Int
  ty : Int
  tz : Int
  r : Int
@[reducible] def cuC (c : Cut7) : List Cell := [.v (.int .i64 c.fx), .v (.int .i64 c.fy), .v (.int .i64 c.fz), .v (.int .i64 c.tx), .v (.int .i64 c.ty), .v (.int .i64 c.tz), .v (.int .i64 c.r)]
@[reducible] def swo (c : Cut7) (x y : Rat) : Prop := swOn (c.fx : Rat) (c.fy : Rat) (c.tx : Rat) (c.ty : Rat) c.r x y
@[reducible] def swr (c : Cut7) (x y : Rat) : Rt := swR (c.fx : Rat) (c.fy : Rat) c.fz (c.tx : Rat) (c.ty : Rat) c.tz (c.r : Rat) x y
@[reducible] def dm (c d : Cut7) : Prop := domP (c.fx : Rat) (c.fy : Rat) c.fz (c.tx : Rat) (c.ty : Rat) c.tz c.r (d.fx : Rat) (d.fy : Rat) d.fz (d.tx : Rat) (d.ty : Rat) d.tz d.r
@[reducible] def cmpQ (p q : Rt) : Int := cmp4 p.a p.b p.c q.a q.b q.c
def hStep (x y : Rat) (o : Rt) (c : Cut7) : Rt := if swo c x y ∧ cmpQ (swr c x y) o < 0 then swr c x y else o
def hgt (x y : Rat) (L : List Cut7) (o : Rt) : Rt := L.foldl (hStep x y) o
/-- A valid root with small numbers. -/
structure OkR (o : Rt) : Prop where
  ok : okQ o.b o.c = true
  a : rz o.a ≤ 10000
  b : rz o.b ≤ 1000
  c : rz o.c ≤ 5000
theorem OkR.nn {o : Rt} (h : OkR o) : 0 ≤ o.c := okQ_nn h.ok
end Go.Sw

namespace Go.Sw
open Go
set_option linter.unusedVariables false
theorem cmpQ_self {p : Rt} (hp : 0 ≤ p.c) : cmpQ p p = 0 := cmp4_self hp
/-! ### The least height -/
structure Least (x y : Rat) (L : List Cut7) (o h : Rt) : Prop where
  nn : 0 ≤ h.c
  top : cmpQ h o ≤ 0
  all : ∀ c ∈ L, swo c x y → cmpQ h (swr c x y) ≤ 0
  one : h = o ∨ ∃ c ∈ L, swo c x y ∧ h = swr c x y
theorem Least.nil {x y : Rat} {o : Rt} (h : 0 ≤ o.c) : Least x y [] o o := ⟨h, by rw [cmpQ_self h]; decide, fun c hc => by simp at hc, .inl rfl⟩
end Go.Sw

namespace Go.Sw
open Go
set_option linter.unusedVariables false
def cu0 : Cut7 := ⟨0, 0, 0, 0, 0, 0, 0⟩
theorem take_snoc {α : Type} {L : List α} {i : Nat} (d : α) (h : i < L.length) : L.take (i + 1) = L.take i ++ [L.getD i d] := by
  rw [List.take_succ, List.getD_eq_getElem?_getD, List.getElem?_eq_getElem h]; rfl
section
variable {cf cg ct cu bf bg bt bu x y : Rat} {cfz ctz cr bfz btz br : Int}
end
end Go.Sw

namespace Go.Proofs.YtigbdpkpaleboaaGreatDoor
open Go Go.RowKit Go.Sw
set_option linter.unusedVariables false
set_option maxRecDepth 100000
set_option maxHeartbeats 8000000
set_option synthInstance.maxSize 4000
set_option synthInstance.maxHeartbeats 400000
instance l_is (a b c d e f : Rat) : DenI Tryz.prog 17 [Q3 a b c, Q3 d e f] (rz a ≤ 20000 ∧ rz b ≤ 20000 ∧ rz c ≤ 20000 ∧ rz d ≤ 20000 ∧ rz e ≤ 20000 ∧ rz f ≤ 20000 ∧ 0 ≤ f) (.bool (okQ b c && decide (cmp4 a b c d e f = 0))) := ⟨fun hp => by
 have i_a : RzB a 20000 := ⟨hp.1⟩
 have i_b : RzB b 20000 := ⟨hp.2.1⟩
 have i_c : RzB c 20000 := ⟨hp.2.2.1⟩
 have i_d : RzB d 20000 := ⟨hp.2.2.2.1⟩
 have i_e : RzB e 20000 := ⟨hp.2.2.2.2.1⟩
 have i_f : RzB f 20000 := ⟨hp.2.2.2.2.2.1⟩
 have hpre := hp.2.2.2.2.2.2
 all_goals refine den_of (τ := tab) tab_ok mixed_ Tryz.func17 rfl (by kernel_rfl) (by kernel_rfl) (by kernel_rfl) ?_
 all_goals (repeat' ((try (conv => whnf)); first
  | refine call_0 ?_
  | refine call_i ?_ ?_
  | refine call_c ?_ (fun _ => ?_) (fun _ => ?_)
  | (with_reducible refine onB_t ?_)
  | (with_reducible refine onB_f ?_)
  | (with_reducible refine onB_d (fun _ => ?_) (fun _ => ?_))
  | (with_reducible refine onB_n (fun _ => ?_) (fun _ => ?_))
  | refine OnB.mk (fun _ => ?_) (fun _ => ?_)
  | refine obl_i ?_ ?_
  | refine Drw.mk (by kernel_rfl) ?_
  | refine mks_i ?_ ?_
  | refine slp_i ?_ ?_
  | (with_reducible refine elem_u ?_ ?_)
  | (with_reducible refine elem_0 ?_)
  | (with_reducible refine elem_1 ?_)
  | refine Ends.mk ?_))
 all_goals (try refine Pr.mk ?_)
 all_goals (try simp only [sgnI_lt0, sgnI_zero, sgnI_le0, sgnI_gt0, sgnI_ge0, sgnI_eq1, cmpI_lt0, cmpI_gt0, cmpI_eq0, cmpI_le0, cmpI_ge0, cmpR_of, sgnR_of, sgnR_lt0, sgnR_eq0, sgnR_gt0, sgnR_le0, sgnR_ge0, sgnR_eq1, cmpR_lt0, cmpR_gt0, cmpR_eq0, cmpR_le0, cmpR_ge0] at *)
 all_goals first
  | (refine ⟨rzb (by omega), rzb (by omega), rzb (by omega), rzb (by omega), rzb (by omega), rzb (by omega), okQ_nn (by assumption), hpre⟩)
  | (refine bE ?_; simp [*]; done)
  | ((repeat' apply And.intro) <;> first | assumption | exact rzb (by omega) | exact szb (by omega) | exact Int.mul_ne_zero (den_ne _) (den_ne _))
  | skip⟩

end Go.Proofs.YtigbdpkpaleboaaGreatDoor

namespace Go.Proofs.YtigbdpkpaleboaaGreatDoor
open Go Go.RowKit Go.Sw
set_option linter.unusedVariables false
set_option maxRecDepth 100000
set_option maxHeartbeats 8000000
set_option synthInstance.maxSize 4000
set_option synthInstance.maxHeartbeats 400000
instance w_1 : DenI Tryz.prog 13 [.agg [.v (.int .i64 0), .v (.int .i64 0), .v (.int .i64 (-1)), .v (.int .i64 10), .v (.int .i64 0), .v (.int .i64 (-1)), .v (.int .i64 3)], Q2 ((5 : Int) : Rat) ((3 : Int) : Rat)] True (.tup [Q3 (-1) 0 0, .bool true]) := ⟨fun _ => by
  have h := ((inferInstance : DenC Tryz.prog 13 [.agg [.v (.int .i64 0), .v (.int .i64 0), .v (.int .i64 (-1)), .v (.int .i64 10), .v (.int .i64 0), .v (.int .i64 (-1)), .v (.int .i64 3)], Q2 ((5 : Int) : Rat) ((3 : Int) : Rat)] _ _ _ _).den (by unfold medI; decide +kernel)).1 (show swOn ((0 : Int) : Rat) ((0 : Int) : Rat) ((10 : Int) : Rat) ((0 : Int) : Rat) 3 ((5 : Int) : Rat) ((3 : Int) : Rat) by decide +kernel)
  rw [show (swR ((0 : Int) : Rat) ((0 : Int) : Rat) (-1) ((10 : Int) : Rat) ((0 : Int) : Rat) (-1) ((3 : Int) : Rat) ((5 : Int) : Rat) ((3 : Int) : Rat)).a = (-1) by decide +kernel, show (swR ((0 : Int) : Rat) ((0 : Int) : Rat) (-1) ((10 : Int) : Rat) ((0 : Int) : Rat) (-1) ((3 : Int) : Rat) ((5 : Int) : Rat) ((3 : Int) : Rat)).b = 0 by decide +kernel, show (swR ((0 : Int) : Rat) ((0 : Int) : Rat) (-1) ((10 : Int) : Rat) ((0 : Int) : Rat) (-1) ((3 : Int) : Rat) ((5 : Int) : Rat) ((3 : Int) : Rat)).c = 0 by decide +kernel] at h
  exact h⟩
instance w_2 : DenI Tryz.prog 13 [.agg [.v (.int .i64 0), .v (.int .i64 0), .v (.int .i64 (-1)), .v (.int .i64 10), .v (.int .i64 0), .v (.int .i64 (-1)), .v (.int .i64 3)], Q2 ((14 : Int) : Rat) ((0 : Int) : Rat)] True (.tup [ZQ3, .bool false]) := ⟨fun _ => ((inferInstance : DenC Tryz.prog 13 [.agg [.v (.int .i64 0), .v (.int .i64 0), .v (.int .i64 (-1)), .v (.int .i64 10), .v (.int .i64 0), .v (.int .i64 (-1)), .v (.int .i64 3)], Q2 ((14 : Int) : Rat) ((0 : Int) : Rat)] _ _ _ _).den (by unfold medI; decide +kernel)).2 (show ¬swOn ((0 : Int) : Rat) ((0 : Int) : Rat) ((10 : Int) : Rat) ((0 : Int) : Rat) 3 ((14 : Int) : Rat) ((0 : Int) : Rat) by decide +kernel)⟩
instance w_3 : DenI Tryz.prog 13 [.agg [.v (.int .i64 0), .v (.int .i64 0), .v (.int .i64 0), .v (.int .i64 10), .v (.int .i64 0), .v (.int .i64 (-10)), .v (.int .i64 3)], Q2 ((5 : Int) : Rat) ((0 : Int) : Rat)] True (.tup [Q3 (-8) 0 0, .bool true]) := ⟨fun _ => by
  have h := ((inferInstance : DenC Tryz.prog 13 [.agg [.v (.int .i64 0), .v (.int .i64 0), .v (.int .i64 0), .v (.int .i64 10), .v (.int .i64 0), .v (.int .i64 (-10)), .v (.int .i64 3)], Q2 ((5 : Int) : Rat) ((0 : Int) : Rat)] _ _ _ _).den (by unfold medI; decide +kernel)).1 (show swOn ((0 : Int) : Rat) ((0 : Int) : Rat) ((10 : Int) : Rat) ((0 : Int) : Rat) 3 ((5 : Int) : Rat) ((0 : Int) : Rat) by decide +kernel)
  rw [show (swR ((0 : Int) : Rat) ((0 : Int) : Rat) 0 ((10 : Int) : Rat) ((0 : Int) : Rat) (-10) ((3 : Int) : Rat) ((5 : Int) : Rat) ((0 : Int) : Rat)).a = (-8) by decide +kernel, show (swR ((0 : Int) : Rat) ((0 : Int) : Rat) 0 ((10 : Int) : Rat) ((0 : Int) : Rat) (-10) ((3 : Int) : Rat) ((5 : Int) : Rat) ((0 : Int) : Rat)).b = 0 by decide +kernel, show (swR ((0 : Int) : Rat) ((0 : Int) : Rat) 0 ((10 : Int) : Rat) ((0 : Int) : Rat) (-10) ((3 : Int) : Rat) ((5 : Int) : Rat) ((0 : Int) : Rat)).c = 0 by decide +kernel] at h
  exact h⟩
instance w_4 : DenI Tryz.prog 13 [.agg [.v (.int .i64 0), .v (.int .i64 0), .v (.int .i64 0), .v (.int .i64 10), .v (.int .i64 0), .v (.int .i64 (-10)), .v (.int .i64 3)], Q2 ((10 : Int) : Rat) ((3 : Int) : Rat)] True (.tup [Q3 (-10) 0 0, .bool true]) := ⟨fun _ => by
  have h := ((inferInstance : DenC Tryz.prog 13 [.agg [.v (.int .i64 0), .v (.int .i64 0), .v (.int .i64 0), .v (.int .i64 10), .v (.int .i64 0), .v (.int .i64 (-10)), .v (.int .i64 3)], Q2 ((10 : Int) : Rat) ((3 : Int) : Rat)] _ _ _ _).den (by unfold medI; decide +kernel)).1 (show swOn ((0 : Int) : Rat) ((0 : Int) : Rat) ((10 : Int) : Rat) ((0 : Int) : Rat) 3 ((10 : Int) : Rat) ((3 : Int) : Rat) by decide +kernel)
  rw [show (swR ((0 : Int) : Rat) ((0 : Int) : Rat) 0 ((10 : Int) : Rat) ((0 : Int) : Rat) (-10) ((3 : Int) : Rat) ((10 : Int) : Rat) ((3 : Int) : Rat)).a = (-10) by decide +kernel, show (swR ((0 : Int) : Rat) ((0 : Int) : Rat) 0 ((10 : Int) : Rat) ((0 : Int) : Rat) (-10) ((3 : Int) : Rat) ((10 : Int) : Rat) ((3 : Int) : Rat)).b = 0 by decide +kernel, show (swR ((0 : Int) : Rat) ((0 : Int) : Rat) 0 ((10 : Int) : Rat) ((0 : Int) : Rat) (-10) ((3 : Int) : Rat) ((10 : Int) : Rat) ((3 : Int) : Rat)).c = 0 by decide +kernel] at h
  exact h⟩
instance w_5 : DenI Tryz.prog 13 [.agg [.v (.int .i64 0), .v (.int .i64 0), .v (.int .i64 0), .v (.int .i64 10), .v (.int .i64 0), .v (.int .i64 (-10)), .v (.int .i64 3)], Q2 ((5 : Int) : Rat) ((1 : Int) : Rat)] True (.tup [Q3 (-5) (-1 / 10) 800, .bool true]) := ⟨fun _ => by
  have h := ((inferInstance : DenC Tryz.prog 13 [.agg [.v (.int .i64 0), .v (.int .i64 0), .v (.int .i64 0), .v (.int .i64 10), .v (.int .i64 0), .v (.int .i64 (-10)), .v (.int .i64 3)], Q2 ((5 : Int) : Rat) ((1 : Int) : Rat)] _ _ _ _).den (by unfold medI; decide +kernel)).1 (show swOn ((0 : Int) : Rat) ((0 : Int) : Rat) ((10 : Int) : Rat) ((0 : Int) : Rat) 3 ((5 : Int) : Rat) ((1 : Int) : Rat) by decide +kernel)
  rw [show (swR ((0 : Int) : Rat) ((0 : Int) : Rat) 0 ((10 : Int) : Rat) ((0 : Int) : Rat) (-10) ((3 : Int) : Rat) ((5 : Int) : Rat) ((1 : Int) : Rat)).a = (-5) by decide +kernel, show (swR ((0 : Int) : Rat) ((0 : Int) : Rat) 0 ((10 : Int) : Rat) ((0 : Int) : Rat) (-10) ((3 : Int) : Rat) ((5 : Int) : Rat) ((1 : Int) : Rat)).b = (-1 / 10) by decide +kernel, show (swR ((0 : Int) : Rat) ((0 : Int) : Rat) 0 ((10 : Int) : Rat) ((0 : Int) : Rat) (-10) ((3 : Int) : Rat) ((5 : Int) : Rat) ((1 : Int) : Rat)).c = 800 by decide +kernel] at h
  exact h⟩
instance l_awake  : DenI Tryz.prog 4 [] (True) (.bool true) := ⟨fun hp => by
 refine den_of (τ := tab) tab_ok mixed_ Tryz.func4 rfl (by kernel_rfl) (by kernel_rfl) (by kernel_rfl) ?_
 all_goals (repeat' ((try (conv => whnf)); first
  | refine call_0 ?_
  | refine call_i ?_ ?_
  | refine call_c ?_ (fun _ => ?_) (fun _ => ?_)
  | (with_reducible refine onB_t ?_)
  | (with_reducible refine onB_f ?_)
  | refine onB_yes (by decide +kernel) ?_
  | refine onB_no (by decide +kernel) ?_
  | (with_reducible refine onB_d (fun _ => ?_) (fun _ => ?_))
  | (with_reducible refine onB_n (fun _ => ?_) (fun _ => ?_))
  | refine OnB.mk (fun _ => ?_) (fun _ => ?_)
  | refine obl_i ?_ ?_
  | refine Drw.mk (by kernel_rfl) ?_
  | refine mks_i ?_ ?_
  | refine slp_i ?_ ?_
  | (with_reducible refine elem_u ?_ ?_)
  | (with_reducible refine elem_0 ?_)
  | (with_reducible refine elem_1 ?_)
  | refine Ends.mk ?_))
 all_goals (try refine Pr.mk ?_)
 all_goals first
  | rfl
  | contradiction
  | (exfalso; omega)
  | (refine bE ?_; decide +kernel)
  | decide +kernel
  | (unfold okP; decide +kernel)
  | (exfalso; rename_i h; revert h; decide +kernel)
  | ((repeat' apply And.intro) <;> decide +kernel)
  | skip⟩

end Go.Proofs.YtigbdpkpaleboaaGreatDoor

namespace Go.Sw
open Go Go.RowKit
set_option linter.unusedVariables false
theorem den_lift {P : Program} (i j : Wld P) (hij : ∀ w, j.ok w → i.ok w) {f : FuncId} {xs : List AV} {r : AV} (h : @Den P i f xs r) : @Den P j f xs r := by
  revert h
  unfold Den
  split
  · exact id
  · exact id
  · exact fun h => ⟨h.1, fun w X vs hW => h.2 w X vs (hij w hW)⟩
/-- A package's variable that holds a map from whole numbers to texts. -/
structure MapSays (P : Program) (t : TypeId) (g : Nat) (f : Int → ByteArray) (w : World) : Prop where
  ex : ∃ bm es clock, w.cell? ⟨g, 0, none⟩ = some (.map (some bm)) ∧ w.heap[bm]? = some (.map es clock) ∧ ∀ w' : World, w'.heap[bm]? = some (.map es clock) → ∀ k : Int, -9223372036854775808 ≤ k → k ≤ 9223372036854775807 → (Instr.lookup t (.map (some bm)) (.int .i64 k) false).run P w' = .ok (.string (f k)) w'
theorem MapSays.keep {P : Program} {t : TypeId} {g : Nat} {f : Int → ByteArray} {w w' : World} (h : MapSays P t g f w) (hb : Below w.heap.size w w') : MapSays P t g f w' := by
  obtain ⟨bm, es, clock, h1, h2, h3⟩ := h.ex
  have hl : bm < w.heap.size := by
    rcases Nat.lt_or_ge bm w.heap.size with h' | h'
    · exact h'
    · rw [Array.getElem?_eq_none h'] at h2; cases h2
  have hg : g < w.heap.size := by
    rcases Nat.lt_or_ge g w.heap.size with h' | h'
    · exact h'
    · simp [World.cell?, Array.getElem?_eq_none h'] at h1
  exact ⟨bm, es, clock, (hb.cell (p := ⟨g, 0, none⟩) hg).trans h1, (hb.block bm hl).trans h2, h3⟩
theorem MapSays.run {P : Program} {t : TypeId} {g : Nat} {f : Int → ByteArray} {w : World} (h : MapSays P t g f w) (k : Int) (h1 : -9223372036854775808 ≤ k) (h2 : k ≤ 9223372036854775807) :
    ∃ bm, w.cell? ⟨g, 0, none⟩ = some (.map (some bm)) ∧ (Instr.lookup t (.map (some bm)) (.int .i64 k) false).run P w = .ok (.string (f k)) w := by
  obtain ⟨bm, es, clock, a, b, c⟩ := h.ex
  exact ⟨bm, a, c w b k h1 h2⟩
theorem mapSays_of {P : Program} {t k e : TypeId} {nm : String} {g : Nat} {f : Int → ByteArray} {entries : List (Lit × DataW Unit)} {W : World} (h : laidMet P [(nm, .map entries)] W)
    (hg : P.globalNamed nm = some g) (htg : (P.globals[g]?).map (·.type) = some t) (ht : P.underlying t = some (.map k e)) (hk : P.underlying k = some (.int .i64)) (he : P.underlying e = some .string)
    (hz : ∀ w, (zeroValue e).run P w = .ok (.string { data := #[] }) w)
    (hf : ∀ k : Int, (DataW.map entries).atKey (.int .i64 k) (.lit (.string [])) = .lit (.string (f k).data.toList)) : MapSays P t g f W := by
  obtain ⟨ps, ⟨g0, t0, cs0, f0, p0, q0, hg0, ht0, hv0, hd0, _⟩, _⟩ := h
  obtain rfl := Option.some.inj (hg.symm.trans hg0)
  obtain rfl := Option.some.inj (htg.symm.trans ht0)
  rcases WideElems.open_map ht hd0 with ⟨_, hx⟩ | ⟨bm, es, clock, m, rfl, hcs, hb, _, F, hx⟩
  · simp at hx
  simp only [Prod.mk.injEq] at hx
  have hcell : W.cell? ⟨g, 0, none⟩ = some (.map (some bm)) := by
    have := World.var?_cell hg0 hv0 0
    rw [Array.eq_one_of_toList hcs] at this
    simpa using this
  refine ⟨bm, es, clock, hcell, hb, fun w' hb' k' h1 h2 => ?_⟩
  have hw : (Lit.int .i64 k').wf = true := by
    simp only [Lit.wf, Bool.and_eq_true, decide_eq_true_eq]
    simp [IntKind.min, IntKind.max, IntKind.signed, IntKind.bits]
    omega
  have hfk := hf k'
  rcases Maps.fit_look (w := w') false (Maps.int_keyed hk) ht (hz w') hb' F (Maps.keyOf_int_mk hk hw) with ⟨hrun, _, hat⟩ | ⟨e0, y, _, _, hrun, hR, hat, _⟩
  · have := hat (.lit (.string []))
    rw [← hx.1, hfk] at this
    have h0 : (f k').data.toList = [] := by simpa using this
    have h3 : f k' = { data := #[] } := by
      cases hfk' : f k' with
      | mk d => rw [hfk'] at h0; simp at h0; rw [h0]
    rw [h3]; simpa using hrun
  · obtain ⟨s, hs, hy, _⟩ := WideElems.elemAt_string he hR
    have := hat (.lit (.string []))
    rw [← hx.1, hfk, hy] at this
    have h0 : (f k').data.toList = s.data.toList := by simpa using this
    have h3 : f k' = s := by
      cases hfk' : f k' with
      | mk d => cases s with | mk d' => rw [hfk'] at h0; simp at h0; rw [h0]
    rw [h3]; rw [hs] at hrun; simpa using hrun
end Go.Sw

namespace Go.Sw
open Go
set_option linter.unusedVariables false
section
variable {a b c d e f m n : Rat}
end
end Go.Sw

namespace Go.Sw
open Go
set_option linter.unusedVariables false
/-- The cut i falls by the cut k. -/
def badI (L : List Cut7) (i k : Nat) : Prop := dm (L.getD i cu0) (L.getD k cu0) ∧ (k < i ∨ i < k ∧ ¬dm (L.getD k cu0) (L.getD i cu0))
instance {L : List Cut7} {i k : Nat} : Decidable (badI L i k) := by unfold badI; infer_instance
end Go.Sw

namespace Go.Sw
open Go
set_option linter.unusedVariables false
section
variable {x y : Rat} {L : List Cut7} {o : Rt} {k : Nat}
theorem growK {T : TypeId} {L : List Cut7} {k : Nat} (h : k < L.length) : some (Bk.grow T 7 ((L.take k).map cuC ++ [cuC (L.getD k cu0)])) = some (Bk.grow T 7 ((L.take (k + 1)).map cuC)) := by
  rw [take_snoc cu0 h, List.map_append]; rfl
theorem ofK_end {L : List Cut7} {k : Nat} (h1 : k ≤ L.length) (h2 : ¬k < L.length) : packA [AV.c (Cell.sl 7 ((L.take k).map cuC))] = AV.c (Cell.sl 7 (L.map cuC)) := by
  have : k = L.length := by omega
  subst this
  rw [List.take_length]; rfl
def frst (p : Nat → Bool) : Nat → Nat → Int
  | 0, _ => -1
  | n + 1, k => if p k = true then (k : Int) else frst p n (k + 1)
theorem frst_no {p : Nat → Bool} {n k : Nat} (hk : k < n) (h : p k = false) : frst p (n - (k + 1)) (k + 1) = frst p (n - k) k := by
  rw [show n - k = n - (k + 1) + 1 by omega]
  show _ = if p k = true then _ else _
  rw [h, if_neg (by decide)]
theorem frst_yes {p : Nat → Bool} {n k : Nat} (hk : k < n) (h : p k = true) : frst p (n - k) k = k := by
  rw [show n - k = n - (k + 1) + 1 by omega]
  show (if p k = true then _ else _) = _
  rw [if_pos h]
theorem frst_end {p : Nat → Bool} {n k : Nat} (hk : ¬k < n) : frst p (n - k) k = -1 := by
  rw [show n - k = 0 by omega]; rfl
end
end Go.Sw

namespace Go.Sw
open Go Go.RowKit
set_option linter.unusedVariables false
def kindName (k : Int) : ByteArray := if k = 1 then ⟨#[109, 105, 108, 108]⟩ else if k = 2 then ⟨#[100, 114, 105, 108, 108]⟩ else if k = 3 then ⟨#[99, 104, 97, 109, 102, 101, 114]⟩ else if k = 4 then ⟨#[112, 114, 111, 98, 101]⟩ else ⟨#[]⟩
theorem kind_in {k : Int} (h : ¬kindName k = ⟨#[]⟩) : 1 ≤ k ∧ k ≤ 4 := by
  unfold kindName at h
  split at h
  · omega
  · split at h
    · omega
    · split at h
      · omega
      · split at h
        · omega
        · exact absurd rfl h
theorem kind_inB {k : Int} (h : ((kindName k).toList == ({ data := #[] } : ByteArray).toList) = false) : 1 ≤ k ∧ k ≤ 4 := kind_in fun e => by rw [e] at h; simp at h
theorem kind_outB {k : Int} (h : ((kindName k).toList == ({ data := #[] } : ByteArray).toList) = true) : ¬(1 ≤ k ∧ k ≤ 4) := by
  intro hk
  have : k = 1 ∨ k = 2 ∨ k = 3 ∨ k = 4 := by omega
  rcases this with rfl | rfl | rfl | rfl <;> exact absurd h (by decide +kernel)
structure Mo9 where
  (a b c d e f rate tool blk : Int)
def mo0 : Mo9 := ⟨0, 0, 0, 0, 0, 0, 0, 0, 0⟩
@[reducible] def moC (m : Mo9) : List Cell := [.v (.int .i64 m.a), .v (.int .i64 m.b), .v (.int .i64 m.c), .v (.int .i64 m.d), .v (.int .i64 m.e), .v (.int .i64 m.f), .v (.int .i64 m.rate), .v (.int .i64 m.tool), .v (.int .i64 m.blk)]
structure T8 where
  (n k r f h s e p : Int)
def to0 : T8 := ⟨0, 0, 0, 0, 0, 0, 0, 0⟩
@[reducible] def toC (t : T8) : List Cell := [.v (.int .i64 t.n), .v (.int .i64 t.k), .v (.int .i64 t.r), .v (.int .i64 t.f), .v (.int .i64 t.h), .v (.int .i64 t.s), .v (.int .i64 t.e), .v (.int .i64 t.p)]
def okK (t : T8) : Prop := -9223372036854775808 ≤ t.k ∧ t.k ≤ 9223372036854775807
@[reducible] def lenP (x : Int) : Prop := 1 ≤ x ∧ x ≤ 10000000
@[reducible] def goodP (t : T8) : Prop := (1 ≤ t.n ∧ t.n ≤ 9999) ∧ (1 ≤ t.k ∧ t.k ≤ 4) ∧ lenP t.r ∧ lenP t.f ∧ lenP t.s ∧ lenP t.e ∧ lenP t.p ∧ t.r ≤ t.h ∧ t.h ≤ 10000000 ∧ t.s ≤ t.f
theorem goodI_n {t : T8} (h : ¬goodP t) : packA [AV.c (Cell.v (.int .i64 1))] = AV.int .i64 (if goodP t then 0 else 1) := by rw [if_neg h]; rfl
theorem goodI_y {t : T8} (h : goodP t) : packA [AV.c (Cell.v (.int .i64 0))] = AV.int .i64 (if goodP t then 0 else 1) := by rw [if_pos h]; rfl
theorem goodB_n {t : T8} (h : ¬goodP t) : packA [AV.c (Cell.v (.bool false))] = AV.bool (decide (goodP t)) := by rw [decide_eq_false h]; rfl
theorem goodB_d {t : T8} {q : Prop} [Decidable q] (h : q ↔ goodP t) : packA [AV.c (Cell.v (.bool (decide q)))] = AV.bool (decide (goodP t)) := by rw [decide_eq_decide.2 h]; rfl
/-- Where a number is first found. -/
def fI (T : List T8) (n : Int) : Int := frst (fun i => decide ((T.getD i to0).n = n)) T.length 0
def fX (T : List T8) (n : Int) : Int := if fI T n < 0 then 0 else fI T n
def magC (T : List T8) : Int :=
  if T.all (fun t => decide (goodP t)) = true then (if (List.range T.length).any (fun i => decide (fX T (T.getD i to0).n < (i : Int))) = true then 5 else 0) else 1
def cutOf (T : List T8) (m : Mo9) : Cut7 := ⟨m.a, m.b, m.c, m.d, m.e, m.f, (T.getD (fX T m.tool).toNat to0).r⟩
def cutE (M : List Mo9) (T : List T8) : Int := if magC T = 0 then (if M.all (fun m => decide (0 ≤ fI T m.tool)) = true then 0 else 4) else magC T
def cutL (M : List Mo9) (T : List T8) : List Cut7 := if cutE M T = 0 then M.map (cutOf T) else []
def lowS (m : Int) (c : Cut7) : Int := if c.tz < (if c.fz < m then c.fz else m) then c.tz else (if c.fz < m then c.fz else m)
def lowZ (L : List Cut7) : Int := L.foldl lowS (L.getD 0 cu0).fz
theorem getT {L : List T8} {P : T8 → Prop} (h : ∀ t ∈ L, P t) {i : Nat} (hi : i < L.length) : P (L.getD i to0) := by
  rw [List.getD_eq_getElem?_getD, List.getElem?_eq_getElem hi]; exact h _ (List.getElem_mem hi)
theorem frst_lt (p : Nat → Bool) : ∀ n k, (0 ≤ frst p n k ∧ frst p n k < (n : Int) + k) ∨ frst p n k = -1
  | 0, _ => .inr rfl
  | n + 1, k => by
    show (0 ≤ (if p k = true then (k : Int) else frst p n (k + 1)) ∧ (if p k = true then (k : Int) else frst p n (k + 1)) < _) ∨ (if p k = true then (k : Int) else frst p n (k + 1)) = -1
    split
    · left; omega
    · rcases frst_lt p n (k + 1) with h | h
      · left; omega
      · exact .inr h
theorem fI_lt (T : List T8) (n : Int) : (0 ≤ fI T n ∧ fI T n < T.length) ∨ fI T n = -1 := by
  have := frst_lt (fun i => decide ((T.getD i to0).n = n)) T.length 0
  unfold fI; omega
theorem fX_ok {T : List T8} {n : Int} (h : 0 ≤ fI T n) : fX T n = fI T n ∧ 0 ≤ fX T n ∧ fX T n < T.length := by
  have := fI_lt T n
  unfold fX
  rw [if_neg (by omega)]; omega
/-! The rounds of the search. -/
theorem fi_step {T : List T8} {n : Int} {k : Nat} (h1 : frst (fun i => decide ((T.getD i to0).n = n)) (T.length - k) k = fI T n) (hk : k < T.length) (h : ¬(T.getD k to0).n = n) :
    frst (fun i => decide ((T.getD i to0).n = n)) (T.length - (k + 1)) (k + 1) = fI T n := by
  rw [← h1]; exact frst_no hk (decide_eq_false h)
theorem fi_yes {T : List T8} {n : Int} {k : Nat} (h1 : frst (fun i => decide ((T.getD i to0).n = n)) (T.length - k) k = fI T n) (hk : k < T.length) (h : (T.getD k to0).n = n) : fI T n = k := by
  rw [← h1]; exact frst_yes hk (decide_eq_true h)
theorem fi_no {T : List T8} {n : Int} {k : Nat} (h1 : frst (fun i => decide ((T.getD i to0).n = n)) (T.length - k) k = fI T n) (hk : ¬k < T.length) : fI T n = -1 := by
  rw [← h1]; exact frst_end hk
/-! The magazine. -/
theorem mag_bad {T : List T8} {i : Nat} (hi : i < T.length) (h : ¬goodP (T.getD i to0)) : magC T = 1 := by
  unfold magC
  rw [if_neg]
  intro ha
  have := List.all_eq_true.1 ha (T.getD i to0) (by rw [List.getD_eq_getElem?_getD, List.getElem?_eq_getElem hi]; exact List.getElem_mem hi)
  exact h (of_decide_eq_true this)
theorem mag_all {T : List T8} {i : Nat} (hi : ¬i < T.length) (h : ∀ j, j < i → goodP (T.getD j to0)) : T.all (fun t => decide (goodP t)) = true := by
  rw [List.all_eq_true]
  intro t ht
  obtain ⟨j, hj, rfl⟩ := List.getElem_of_mem ht
  have := h j (by omega)
  rw [List.getD_eq_getElem?_getD, List.getElem?_eq_getElem hj] at this
  exact decide_eq_true this
theorem mag_dup {T : List T8} {i : Nat} (ha : T.all (fun t => decide (goodP t)) = true) (hi : i < T.length) (h : fX T (T.getD i to0).n < (i : Int)) : magC T = 5 := by
  unfold magC
  rw [if_pos ha, if_pos]
  rw [List.any_eq_true]
  exact ⟨i, List.mem_range.2 hi, decide_eq_true h⟩
theorem mag_ok {T : List T8} {i : Nat} (ha : T.all (fun t => decide (goodP t)) = true) (hi : ¬i < T.length) (h : ∀ j, j < i → ¬fX T (T.getD j to0).n < (j : Int)) : magC T = 0 := by
  unfold magC
  rw [if_pos ha, if_neg]
  intro hx
  obtain ⟨j, hj, hd⟩ := List.any_eq_true.1 hx
  exact h j (by have := List.mem_range.1 hj; omega) (of_decide_eq_true hd)
theorem all_up {p : Nat → Prop} {k : Nat} (h : ∀ j, j < k → p j) (hk : p k) : ∀ j, j < k + 1 → p j := fun j hj => by
  rcases Nat.lt_or_ge j k with h' | h'
  · exact h j h'
  · have : j = k := by omega
    subst this; exact hk
theorem if_bad {p : Prop} [Decidable p] (h : ¬(if p then (0 : Int) else 1) = 0) : ¬p := fun hp => h (if_pos hp)
theorem if_good {p : Prop} [Decidable p] (h : (if p then (0 : Int) else 1) = 0) : p := by
  by_cases hp : p
  · exact hp
  · rw [if_neg hp] at h; cases h
/-! The cuts. -/
theorem cut_mag {M : List Mo9} {T : List T8} (h : ¬magC T = 0) : cutE M T = magC T ∧ cutL M T = [] := by
  have h1 : cutE M T = magC T := by unfold cutE; rw [if_neg h]
  refine ⟨h1, ?_⟩
  unfold cutL
  rw [h1, if_neg h]
theorem getM_mem {M : List Mo9} {i : Nat} (hi : i < M.length) : M.getD i mo0 ∈ M := by
  rw [List.getD_eq_getElem?_getD, List.getElem?_eq_getElem hi]; exact List.getElem_mem hi
theorem cut_miss {M : List Mo9} {T : List T8} (h0 : magC T = 0) {i : Nat} (hi : i < M.length) (h : fI T (M.getD i mo0).tool < 0) : cutE M T = 4 ∧ cutL M T = [] := by
  have h1 : cutE M T = 4 := by
    unfold cutE
    rw [if_pos h0, if_neg]
    intro ha
    have := of_decide_eq_true (List.all_eq_true.1 ha _ (getM_mem hi))
    omega
  refine ⟨h1, ?_⟩
  unfold cutL
  rw [h1, if_neg (by decide)]
theorem cut_ok {M : List Mo9} {T : List T8} (h0 : magC T = 0) {i : Nat} (hi : ¬i < M.length) (h : ∀ j, j < i → 0 ≤ fI T (M.getD j mo0).tool) : cutE M T = 0 ∧ cutL M T = M.map (cutOf T) := by
  have h1 : cutE M T = 0 := by
    unfold cutE
    rw [if_pos h0, if_pos]
    rw [List.all_eq_true]
    intro m hm
    obtain ⟨j, hj, rfl⟩ := List.getElem_of_mem hm
    have := h j (by omega)
    rw [List.getD_eq_getElem?_getD, List.getElem?_eq_getElem hj] at this
    exact decide_eq_true this
  refine ⟨h1, ?_⟩
  unfold cutL
  rw [h1, if_pos rfl]
theorem cutL_len {M : List Mo9} {T : List T8} : (cutL M T).length ≤ M.length := by
  unfold cutL; split <;> simp
theorem takeM {M : List Mo9} {f : Mo9 → Cut7} {k : Nat} (hk : k < M.length) : (M.take (k + 1)).map f = (M.take k).map f ++ [f (M.getD k mo0)] := by
  rw [List.take_succ, List.map_append, List.getElem?_eq_getElem hk, List.getD_eq_getElem?_getD, List.getElem?_eq_getElem hk]; rfl
theorem takeM_end {M : List Mo9} {f : Mo9 → Cut7} {k : Nat} (hk : k ≤ M.length) (hn : ¬k < M.length) : (M.take k).map f = M.map f := by
  rw [List.take_of_length_le (by omega)]
/-! The lowest place. -/
theorem low_step {L : List Cut7} {k : Nat} (hk : k < L.length) {x : Int} : (L.take (k + 1)).foldl lowS x = lowS ((L.take k).foldl lowS x) (L.getD k cu0) := by
  rw [List.take_succ, List.foldl_append, List.getElem?_eq_getElem hk, List.getD_eq_getElem?_getD, List.getElem?_eq_getElem hk]; rfl
theorem low_end {L : List Cut7} {k : Nat} (hk : ¬k < L.length) : (L.take k).foldl lowS (L.getD 0 cu0).fz = lowZ L := by
  rw [List.take_of_length_le (by omega)]; rfl
/-! Ends of the runs. -/
theorem pI {a b : Int} (h : a = b) : packA [AV.c (Cell.v (.int .i64 a))] = AV.int .i64 b := by rw [h]; rfl
theorem fnd_n {T : List T8} {m : Int} (h : fI T m < 0) : packA [AV.c (Cell.v (.int .i64 0)), AV.c (Cell.v (.int .i64 4))] = AV.tup [AV.int .i64 (fX T m), AV.int .i64 (if fI T m < 0 then 4 else 0)] := by
  unfold fX; rw [if_pos h, if_pos h]; rfl
theorem fnd_y {T : List T8} {m a : Int} (h : ¬fI T m < 0) (ha : a = fI T m) : packA [AV.c (Cell.v (.int .i64 a)), AV.c (Cell.v (.int .i64 0))] = AV.tup [AV.int .i64 (fX T m), AV.int .i64 (if fI T m < 0 then 4 else 0)] := by
  unfold fX; rw [if_neg h, if_neg h, ha]; rfl
theorem mag_v {T : List T8} {p : Prop} [Decidable p] (h : ¬(if p then (0 : Int) else 1) = 0) (hm : magC T = 1) : (if p then (0 : Int) else 1) = magC T := by
  rw [if_neg (if_bad h), hm]
theorem growM {T : TypeId} {M : List Mo9} {f : Mo9 → Cut7} {k : Nat} (h : k < M.length) : some (Bk.grow T 7 (((M.take k).map f).map cuC ++ [cuC (f (M.getD k mo0))])) = some (Bk.grow T 7 (((M.take (k + 1)).map f).map cuC)) := by
  rw [takeM h, List.map_append]; rfl
theorem er_y {p : Prop} [Decidable p] (h : ¬(if p then (4 : Int) else 0) = 0) : p := by
  by_cases hp : p
  · exact hp
  · rw [if_neg hp] at h; exact absurd rfl h
theorem er_n {p : Prop} [Decidable p] (h : (if p then (4 : Int) else 0) = 0) : ¬p := fun hp => by rw [if_pos hp] at h; cases h
theorem cut_i {T : List T8} {m : Int} (h : (if fI T m < 0 then (4 : Int) else 0) = 0) : 0 ≤ fI T m := by have := er_n h; omega
theorem cut_p {T : List T8} {m : Int} (h : (if fI T m < 0 then (4 : Int) else 0) = 0) : 0 ≤ fX T m ∧ fX T m < T.length := (fX_ok (cut_i h)).2
theorem cut_r0 {M : List Mo9} {T : List T8} {e : Int} (h : cutE M T = e ∧ cutL M T = []) (he : ¬e = 0) : packA [AV.c (Cell.sl 0 []), AV.c (Cell.v (.int .i64 e))] = AV.tup [AV.c (Cell.sl (if cutE M T = 0 then 7 else 0) ((cutL M T).map cuC)), AV.int .i64 (cutE M T)] := by
  rw [h.1, h.2, if_neg he]; rfl
theorem cut_m4 {M : List Mo9} {T : List T8} (h0 : magC T = 0) {k : Nat} (hk : k < M.length) (h : ¬(if fI T (M.getD k mo0).tool < 0 then (4 : Int) else 0) = 0) : cutE M T = (if fI T (M.getD k mo0).tool < 0 then (4 : Int) else 0) ∧ cutL M T = [] := by
  rw [if_pos (er_y h)]; exact cut_miss h0 hk (er_y h)
theorem cut_end {M : List Mo9} {T : List T8} (h0 : magC T = 0) {k : Nat} (h1 : k ≤ M.length) (hk : ¬k < M.length) (h : ∀ j, j < k → 0 ≤ fI T (M.getD j mo0).tool) :
    packA [AV.c (Cell.sl 7 (((M.take k).map (cutOf T)).map cuC)), AV.c (Cell.v (.int .i64 0))] = AV.tup [AV.c (Cell.sl (if cutE M T = 0 then 7 else 0) ((cutL M T).map cuC)), AV.int .i64 (cutE M T)] := by
  have h2 := cut_ok h0 hk h
  rw [h2.1, h2.2, takeM_end h1 hk, if_pos rfl]; rfl
theorem cut_s {M : List Mo9} {T : List T8} : (if cutE M T = 0 then 7 else 0) = 7 ∨ (cutL M T).map cuC = [] := by
  by_cases h : cutE M T = 0
  · exact .inl (if_pos h)
  · right; unfold cutL; rw [if_neg h]; rfl
theorem low_e0 {L : List Cut7} (h : L.length = 0) : packA [AV.c (Cell.v (.int .i64 0)), AV.c (Cell.v (.bool false))] = AV.tup [AV.int .i64 (lowZ L), AV.bool (decide (¬L.length = 0))] := by
  have : L = [] := List.eq_nil_of_length_eq_zero h
  subst this; rfl
theorem low_e1 {L : List Cut7} {k : Nat} (h : ¬L.length = 0) (hk : ¬k < L.length) : packA [AV.c (Cell.v (.int .i64 ((L.take k).foldl lowS (L.getD 0 cu0).fz))), AV.c (Cell.v (.bool true))] = AV.tup [AV.int .i64 (lowZ L), AV.bool (decide (¬L.length = 0))] := by
  rw [low_end hk, decide_eq_true h]; rfl
end Go.Sw

namespace Go.Proofs.YtigbdpkpaleboaaGreatDoor
open Go Go.RowKit Go.Sw
set_option linter.unusedVariables false
set_option maxRecDepth 100000
set_option maxHeartbeats 8000000
instance (priority := 2000) wls_ : Wld Tryz.prog := ⟨MapSays Tryz.prog 126 0 kindName, fun h hb => h.keep hb, [], fun _ _ _ h => by cases h⟩
instance wlift_ {f : FuncId} {xs : List AV} {pre : Prop} {r : AV} [h : @DenI Tryz.prog wld_ f xs pre r] : @DenI Tryz.prog wls_ f xs pre r := ⟨fun hp => den_lift wld_ wls_ (fun _ _ => trivial) (h.den hp)⟩
def tabs : Tab := tab
theorem tabs_ok : @tabOk Tryz.prog wls_ tabs = true := by kernel_rfl
theorem kn_walk (bm : Nat) (k : Int) (s : ByteArray) (w : World) (hc : w.cell? ⟨0, 0, none⟩ = some (.map (some bm))) (hrun : (Instr.lookup 126 (.map (some bm)) (.int .i64 k) false).run Tryz.prog w = .ok (.string s) w) :
    Calls Tryz.prog 74 #[.int .i64 k] w fun e w' => e = .returned (.string s) ∧ w' = w := by
  go_enter Tryz.func74, Tryz.ntmps74
  go_wp2
  go_ret
  exact ⟨rfl, rfl⟩
instance k_name (k : Int) : DenI Tryz.prog 74 [.c (.v (.int .i64 k))] (-9223372036854775808 ≤ k ∧ k ≤ 9223372036854775807) (.c (.v (.string (kindName k)))) := ⟨fun hp => by
  refine Den.of ⟨by kernel_rfl, fun w X vs hW hX hl hr => ?_⟩ rfl
  match vs, hl with
  | [u], _ =>
  have hu : u = .int .i64 k := by
    have := hr 0 u _ rfl rfl
    cases this with
    | c h => cases h; rfl
  subst hu
  obtain ⟨bm, h1, h2⟩ := MapSays.run hW k hp.1 hp.2
  refine Calls.mono (kn_walk bm k _ w h1 h2) ?_
  rintro e w' ⟨rfl, rfl⟩
  exact ⟨_, rfl, (RepR.d (.c (.v _ rfl))).f, Below.refl _ _⟩⟩
end Go.Proofs.YtigbdpkpaleboaaGreatDoor

namespace Go.Proofs.YtigbdpkpaleboaaGreatDoor
open Go Go.RowKit Go.Sw
set_option linter.unusedVariables false
set_option maxRecDepth 100000
set_option maxHeartbeats 8000000
set_option synthInstance.maxSize 4000
set_option synthInstance.maxHeartbeats 400000
instance k_len (x : Int) : DenI Tryz.prog 75 [.int .i64 x] (True) (.bool (decide (lenP x))) := ⟨fun hp => by
 refine den_of (τ := tabs) tabs_ok mixed_ Tryz.func75 rfl (by kernel_rfl) (by kernel_rfl) (by kernel_rfl) ?_
 all_goals (repeat' ((try (conv => whnf)); first
  | refine call_0 ?_
  | refine call_i ?_ ?_
  | refine call_c ?_ (fun _ => ?_) (fun _ => ?_)
  | (with_reducible refine onB_t ?_)
  | (with_reducible refine onB_f ?_)
  | (with_reducible refine onB_d (fun _ => ?_) (fun _ => ?_))
  | (with_reducible refine onB_n (fun _ => ?_) (fun _ => ?_))
  | refine OnB.mk (fun _ => ?_) (fun _ => ?_)
  | refine obl_i ?_ ?_
  | refine Drw.mk (by kernel_rfl) ?_
  | refine mks_i ?_ ?_
  | refine slp_i ?_ ?_
  | (with_reducible refine elem_u ?_ ?_)
  | (with_reducible refine elem_0 ?_)
  | (with_reducible refine elem_1 ?_)
  | refine Ends.mk ?_))
 all_goals (try refine Pr.mk ?_)
 all_goals (try simp only [sgnI_lt0, sgnI_zero, sgnI_le0, sgnI_gt0, sgnI_ge0, sgnI_eq1, cmpI_lt0, cmpI_gt0, cmpI_eq0, cmpI_le0, cmpI_ge0, cmpR_of, sgnR_of, sgnR_lt0, sgnR_eq0, sgnR_gt0, sgnR_le0, sgnR_ge0, sgnR_eq1, cmpR_lt0, cmpR_gt0, cmpR_eq0, cmpR_le0, cmpR_ge0] at *)
 all_goals (try simp only [List.length_map, Int.toNat_natCast] at *)
 all_goals first
  | (refine bE ?_; simp only [lenP]; first | (exact decide_eq_true (by omega)) | exact (decide_eq_false (by omega)) | (apply decide_eq_decide.2; omega))
  | (refine congrArg (fun b => AV.bool b) ?_; first | exact (decide_eq_false (by omega)).symm | exact decide_eq_decide.2 (by omega))
  | rfl
  | contradiction
  | omega
  | skip⟩

instance k_len2 (x : Int) : DenI Tryz.prog 76 [.int .i64 x] (True) (.bool (decide (lenP x))) := ⟨fun hp => by
 refine den_of (τ := tabs) tabs_ok mixed_ Tryz.func76 rfl (by kernel_rfl) (by kernel_rfl) (by kernel_rfl) ?_
 all_goals (repeat' ((try (conv => whnf)); first
  | refine call_0 ?_
  | refine call_i ?_ ?_
  | refine call_c ?_ (fun _ => ?_) (fun _ => ?_)
  | (with_reducible refine onB_t ?_)
  | (with_reducible refine onB_f ?_)
  | (with_reducible refine onB_d (fun _ => ?_) (fun _ => ?_))
  | (with_reducible refine onB_n (fun _ => ?_) (fun _ => ?_))
  | refine OnB.mk (fun _ => ?_) (fun _ => ?_)
  | refine obl_i ?_ ?_
  | refine Drw.mk (by kernel_rfl) ?_
  | refine mks_i ?_ ?_
  | refine slp_i ?_ ?_
  | (with_reducible refine elem_u ?_ ?_)
  | (with_reducible refine elem_0 ?_)
  | (with_reducible refine elem_1 ?_)
  | refine Ends.mk ?_))
 all_goals (try refine Pr.mk ?_)
 all_goals (try simp only [sgnI_lt0, sgnI_zero, sgnI_le0, sgnI_gt0, sgnI_ge0, sgnI_eq1, cmpI_lt0, cmpI_gt0, cmpI_eq0, cmpI_le0, cmpI_ge0, cmpR_of, sgnR_of, sgnR_lt0, sgnR_eq0, sgnR_gt0, sgnR_le0, sgnR_ge0, sgnR_eq1, cmpR_lt0, cmpR_gt0, cmpR_eq0, cmpR_le0, cmpR_ge0] at *)
 all_goals (try simp only [List.length_map, Int.toNat_natCast] at *)
 all_goals first
  | (refine congrArg (fun b => AV.bool b) ?_; first | exact (decide_eq_false (by omega)).symm | exact decide_eq_decide.2 (by omega))
  | rfl
  | contradiction
  | omega
  | skip⟩

instance k_at (n k r f h s e p m : Int) : DenI Tryz.prog 48 [.agg [.v (.int .i64 n), .v (.int .i64 k), .v (.int .i64 r), .v (.int .i64 f), .v (.int .i64 h), .v (.int .i64 s), .v (.int .i64 e), .v (.int .i64 p)], .c (.p [.v (.int .i64 m)])] (True) (.bool (decide (n = m))) := ⟨fun hp => by
 refine den_of (τ := tabs) tabs_ok mixed_ Tryz.func48 rfl (by kernel_rfl) (by kernel_rfl) (by kernel_rfl) ?_
 all_goals (repeat' ((try (conv => whnf)); first
  | refine call_0 ?_
  | refine call_i ?_ ?_
  | refine call_c ?_ (fun _ => ?_) (fun _ => ?_)
  | (with_reducible refine onB_t ?_)
  | (with_reducible refine onB_f ?_)
  | (with_reducible refine onB_d (fun _ => ?_) (fun _ => ?_))
  | (with_reducible refine onB_n (fun _ => ?_) (fun _ => ?_))
  | refine OnB.mk (fun _ => ?_) (fun _ => ?_)
  | refine obl_i ?_ ?_
  | refine Drw.mk (by kernel_rfl) ?_
  | refine mks_i ?_ ?_
  | refine slp_i ?_ ?_
  | (with_reducible refine elem_u ?_ ?_)
  | (with_reducible refine elem_0 ?_)
  | (with_reducible refine elem_1 ?_)
  | refine Ends.mk ?_))
 all_goals (try refine Pr.mk ?_)
 all_goals (try simp only [sgnI_lt0, sgnI_zero, sgnI_le0, sgnI_gt0, sgnI_ge0, sgnI_eq1, cmpI_lt0, cmpI_gt0, cmpI_eq0, cmpI_le0, cmpI_ge0, cmpR_of, sgnR_of, sgnR_lt0, sgnR_eq0, sgnR_gt0, sgnR_le0, sgnR_ge0, sgnR_eq1, cmpR_lt0, cmpR_gt0, cmpR_eq0, cmpR_le0, cmpR_ge0] at *)
 all_goals (try simp only [List.length_map, Int.toNat_natCast] at *)
 all_goals first
  | rfl
  | contradiction
  | omega
  | skip⟩

instance k_valid (n k r f h s e p : Int) : DenI Tryz.prog 46 [.agg [.v (.int .i64 n), .v (.int .i64 k), .v (.int .i64 r), .v (.int .i64 f), .v (.int .i64 h), .v (.int .i64 s), .v (.int .i64 e), .v (.int .i64 p)]] (-9223372036854775808 ≤ k ∧ k ≤ 9223372036854775807) (.int .i64 (if goodP ⟨n, k, r, f, h, s, e, p⟩ then 0 else 1)) := ⟨fun hp => by
 refine den_of (τ := tabs) tabs_ok mixed_ Tryz.func46 rfl (by kernel_rfl) (by kernel_rfl) (by kernel_rfl) ?_
 all_goals (repeat' ((try (conv => whnf)); first
  | refine call_0 ?_
  | refine call_i ?_ ?_
  | refine call_c ?_ (fun _ => ?_) (fun _ => ?_)
  | (with_reducible refine onB_t ?_)
  | (with_reducible refine onB_f ?_)
  | (with_reducible refine onB_d (fun _ => ?_) (fun _ => ?_))
  | (with_reducible refine onB_n (fun _ => ?_) (fun _ => ?_))
  | refine OnB.mk (fun _ => ?_) (fun _ => ?_)
  | refine obl_i ?_ ?_
  | refine Drw.mk (by kernel_rfl) ?_
  | refine mks_i ?_ ?_
  | refine slp_i ?_ ?_
  | (with_reducible refine elem_u ?_ ?_)
  | (with_reducible refine elem_0 ?_)
  | (with_reducible refine elem_1 ?_)
  | refine Ends.mk ?_))
 all_goals (try refine Pr.mk ?_)
 all_goals first
  | ((conv => whnf); refine Sw.Loop.unroll ?_)
  | skip
 all_goals (repeat' ((try rw [w01]); (try rw [w11]); (try rw [w21]); (try rw [w31]); (try rw [w41]); (try rw [w51]); (try (conv => whnf)); first
  | refine call_0 ?_
  | refine call_i ?_ ?_
  | refine call_c ?_ (fun _ => ?_) (fun _ => ?_)
  | (with_reducible refine onB_t ?_)
  | (with_reducible refine onB_f ?_)
  | refine onB_dy (by first | decide | (simp only [List.length_cons, List.length_nil]; done) | (simp only [List.length_cons, List.length_nil]; decide)) ?_
  | refine onB_dn (by first | decide | (simp only [List.length_cons, List.length_nil]; done) | (simp only [List.length_cons, List.length_nil]; decide)) ?_
  | (with_reducible refine onB_d (fun _ => ?_) (fun _ => ?_))
  | (with_reducible refine onB_n (fun _ => ?_) (fun _ => ?_))
  | refine OnB.mk (fun _ => ?_) (fun _ => ?_)
  | refine obl_i ?_ ?_
  | refine Drw.mk (by kernel_rfl) ?_
  | refine mks_i ?_ ?_
  | refine slp_i ?_ ?_
  | (with_reducible refine elem_u ?_ ?_)
  | (with_reducible refine elem_0 ?_)
  | (with_reducible refine elem_1 ?_)
  | (with_reducible refine elem_2 ?_)
  | (with_reducible refine elem_3 ?_)
  | (with_reducible refine elem_4 ?_)
  | (with_reducible refine elem_5 ?_)
  | refine Ends.mk ?_))
 all_goals (try refine Pr.mk ?_)
 all_goals first
  | ((conv => whnf); refine Sw.Loop.unroll ?_)
  | skip
 all_goals (repeat' ((try rw [w01]); (try rw [w11]); (try rw [w21]); (try rw [w31]); (try rw [w41]); (try rw [w51]); (try (conv => whnf)); first
  | refine call_0 ?_
  | refine call_i ?_ ?_
  | refine call_c ?_ (fun _ => ?_) (fun _ => ?_)
  | (with_reducible refine onB_t ?_)
  | (with_reducible refine onB_f ?_)
  | refine onB_dy (by first | decide | (simp only [List.length_cons, List.length_nil]; done) | (simp only [List.length_cons, List.length_nil]; decide)) ?_
  | refine onB_dn (by first | decide | (simp only [List.length_cons, List.length_nil]; done) | (simp only [List.length_cons, List.length_nil]; decide)) ?_
  | (with_reducible refine onB_d (fun _ => ?_) (fun _ => ?_))
  | (with_reducible refine onB_n (fun _ => ?_) (fun _ => ?_))
  | refine OnB.mk (fun _ => ?_) (fun _ => ?_)
  | refine obl_i ?_ ?_
  | refine Drw.mk (by kernel_rfl) ?_
  | refine mks_i ?_ ?_
  | refine slp_i ?_ ?_
  | (with_reducible refine elem_u ?_ ?_)
  | (with_reducible refine elem_0 ?_)
  | (with_reducible refine elem_1 ?_)
  | (with_reducible refine elem_2 ?_)
  | (with_reducible refine elem_3 ?_)
  | (with_reducible refine elem_4 ?_)
  | (with_reducible refine elem_5 ?_)
  | refine Ends.mk ?_))
 all_goals (try refine Pr.mk ?_)
 all_goals first
  | ((conv => whnf); refine Sw.Loop.unroll ?_)
  | skip
 all_goals (repeat' ((try rw [w01]); (try rw [w11]); (try rw [w21]); (try rw [w31]); (try rw [w41]); (try rw [w51]); (try (conv => whnf)); first
  | refine call_0 ?_
  | refine call_i ?_ ?_
  | refine call_c ?_ (fun _ => ?_) (fun _ => ?_)
  | (with_reducible refine onB_t ?_)
  | (with_reducible refine onB_f ?_)
  | refine onB_dy (by first | decide | (simp only [List.length_cons, List.length_nil]; done) | (simp only [List.length_cons, List.length_nil]; decide)) ?_
  | refine onB_dn (by first | decide | (simp only [List.length_cons, List.length_nil]; done) | (simp only [List.length_cons, List.length_nil]; decide)) ?_
  | (with_reducible refine onB_d (fun _ => ?_) (fun _ => ?_))
  | (with_reducible refine onB_n (fun _ => ?_) (fun _ => ?_))
  | refine OnB.mk (fun _ => ?_) (fun _ => ?_)
  | refine obl_i ?_ ?_
  | refine Drw.mk (by kernel_rfl) ?_
  | refine mks_i ?_ ?_
  | refine slp_i ?_ ?_
  | (with_reducible refine elem_u ?_ ?_)
  | (with_reducible refine elem_0 ?_)
  | (with_reducible refine elem_1 ?_)
  | (with_reducible refine elem_2 ?_)
  | (with_reducible refine elem_3 ?_)
  | (with_reducible refine elem_4 ?_)
  | (with_reducible refine elem_5 ?_)
  | refine Ends.mk ?_))
 all_goals (try refine Pr.mk ?_)
 all_goals first
  | ((conv => whnf); refine Sw.Loop.unroll ?_)
  | skip
 all_goals (repeat' ((try rw [w01]); (try rw [w11]); (try rw [w21]); (try rw [w31]); (try rw [w41]); (try rw [w51]); (try (conv => whnf)); first
  | refine call_0 ?_
  | refine call_i ?_ ?_
  | refine call_c ?_ (fun _ => ?_) (fun _ => ?_)
  | (with_reducible refine onB_t ?_)
  | (with_reducible refine onB_f ?_)
  | refine onB_dy (by first | decide | (simp only [List.length_cons, List.length_nil]; done) | (simp only [List.length_cons, List.length_nil]; decide)) ?_
  | refine onB_dn (by first | decide | (simp only [List.length_cons, List.length_nil]; done) | (simp only [List.length_cons, List.length_nil]; decide)) ?_
  | (with_reducible refine onB_d (fun _ => ?_) (fun _ => ?_))
  | (with_reducible refine onB_n (fun _ => ?_) (fun _ => ?_))
  | refine OnB.mk (fun _ => ?_) (fun _ => ?_)
  | refine obl_i ?_ ?_
  | refine Drw.mk (by kernel_rfl) ?_
  | refine mks_i ?_ ?_
  | refine slp_i ?_ ?_
  | (with_reducible refine elem_u ?_ ?_)
  | (with_reducible refine elem_0 ?_)
  | (with_reducible refine elem_1 ?_)
  | (with_reducible refine elem_2 ?_)
  | (with_reducible refine elem_3 ?_)
  | (with_reducible refine elem_4 ?_)
  | (with_reducible refine elem_5 ?_)
  | refine Ends.mk ?_))
 all_goals (try refine Pr.mk ?_)
 all_goals first
  | ((conv => whnf); refine Sw.Loop.unroll ?_)
  | skip
 all_goals (repeat' ((try rw [w01]); (try rw [w11]); (try rw [w21]); (try rw [w31]); (try rw [w41]); (try rw [w51]); (try (conv => whnf)); first
  | refine call_0 ?_
  | refine call_i ?_ ?_
  | refine call_c ?_ (fun _ => ?_) (fun _ => ?_)
  | (with_reducible refine onB_t ?_)
  | (with_reducible refine onB_f ?_)
  | refine onB_dy (by first | decide | (simp only [List.length_cons, List.length_nil]; done) | (simp only [List.length_cons, List.length_nil]; decide)) ?_
  | refine onB_dn (by first | decide | (simp only [List.length_cons, List.length_nil]; done) | (simp only [List.length_cons, List.length_nil]; decide)) ?_
  | (with_reducible refine onB_d (fun _ => ?_) (fun _ => ?_))
  | (with_reducible refine onB_n (fun _ => ?_) (fun _ => ?_))
  | refine OnB.mk (fun _ => ?_) (fun _ => ?_)
  | refine obl_i ?_ ?_
  | refine Drw.mk (by kernel_rfl) ?_
  | refine mks_i ?_ ?_
  | refine slp_i ?_ ?_
  | (with_reducible refine elem_u ?_ ?_)
  | (with_reducible refine elem_0 ?_)
  | (with_reducible refine elem_1 ?_)
  | (with_reducible refine elem_2 ?_)
  | (with_reducible refine elem_3 ?_)
  | (with_reducible refine elem_4 ?_)
  | (with_reducible refine elem_5 ?_)
  | refine Ends.mk ?_))
 all_goals (try refine Pr.mk ?_)
 all_goals first
  | ((conv => whnf); refine Sw.Loop.unroll ?_)
  | skip
 all_goals (repeat' ((try rw [w01]); (try rw [w11]); (try rw [w21]); (try rw [w31]); (try rw [w41]); (try rw [w51]); (try (conv => whnf)); first
  | refine call_0 ?_
  | refine call_i ?_ ?_
  | refine call_c ?_ (fun _ => ?_) (fun _ => ?_)
  | (with_reducible refine onB_t ?_)
  | (with_reducible refine onB_f ?_)
  | refine onB_dy (by first | decide | (simp only [List.length_cons, List.length_nil]; done) | (simp only [List.length_cons, List.length_nil]; decide)) ?_
  | refine onB_dn (by first | decide | (simp only [List.length_cons, List.length_nil]; done) | (simp only [List.length_cons, List.length_nil]; decide)) ?_
  | (with_reducible refine onB_d (fun _ => ?_) (fun _ => ?_))
  | (with_reducible refine onB_n (fun _ => ?_) (fun _ => ?_))
  | refine OnB.mk (fun _ => ?_) (fun _ => ?_)
  | refine obl_i ?_ ?_
  | refine Drw.mk (by kernel_rfl) ?_
  | refine mks_i ?_ ?_
  | refine slp_i ?_ ?_
  | (with_reducible refine elem_u ?_ ?_)
  | (with_reducible refine elem_0 ?_)
  | (with_reducible refine elem_1 ?_)
  | (with_reducible refine elem_2 ?_)
  | (with_reducible refine elem_3 ?_)
  | (with_reducible refine elem_4 ?_)
  | (with_reducible refine elem_5 ?_)
  | refine Ends.mk ?_))
 all_goals (try refine Pr.mk ?_)
 all_goals first
  | ((conv => whnf); refine Sw.Loop.unroll ?_)
  | skip
 all_goals (repeat' ((try rw [w01]); (try rw [w11]); (try rw [w21]); (try rw [w31]); (try rw [w41]); (try rw [w51]); (try (conv => whnf)); first
  | refine call_0 ?_
  | refine call_i ?_ ?_
  | refine call_c ?_ (fun _ => ?_) (fun _ => ?_)
  | (with_reducible refine onB_t ?_)
  | (with_reducible refine onB_f ?_)
  | refine onB_dy (by first | decide | (simp only [List.length_cons, List.length_nil]; done) | (simp only [List.length_cons, List.length_nil]; decide)) ?_
  | refine onB_dn (by first | decide | (simp only [List.length_cons, List.length_nil]; done) | (simp only [List.length_cons, List.length_nil]; decide)) ?_
  | (with_reducible refine onB_d (fun _ => ?_) (fun _ => ?_))
  | (with_reducible refine onB_n (fun _ => ?_) (fun _ => ?_))
  | refine OnB.mk (fun _ => ?_) (fun _ => ?_)
  | refine obl_i ?_ ?_
  | refine Drw.mk (by kernel_rfl) ?_
  | refine mks_i ?_ ?_
  | refine slp_i ?_ ?_
  | (with_reducible refine elem_u ?_ ?_)
  | (with_reducible refine elem_0 ?_)
  | (with_reducible refine elem_1 ?_)
  | (with_reducible refine elem_2 ?_)
  | (with_reducible refine elem_3 ?_)
  | (with_reducible refine elem_4 ?_)
  | (with_reducible refine elem_5 ?_)
  | refine Ends.mk ?_))
 all_goals (try refine Pr.mk ?_)
 all_goals (try simp only [sgnI_lt0, sgnI_zero, sgnI_le0, sgnI_gt0, sgnI_ge0, sgnI_eq1, cmpI_lt0, cmpI_gt0, cmpI_eq0, cmpI_le0, cmpI_ge0, cmpR_of, sgnR_of, sgnR_lt0, sgnR_eq0, sgnR_gt0, sgnR_le0, sgnR_ge0, sgnR_eq1, cmpR_lt0, cmpR_gt0, cmpR_eq0, cmpR_le0, cmpR_ge0] at *)
 all_goals (try simp only [List.length_map, Int.toNat_natCast] at *)
 all_goals first
  | (refine goodI_n (fun hg => ?_); (try have hk1 := kind_inB (by assumption)); (try have hk2 := kind_outB (by assumption)); simp only [goodP, lenP] at *; omega)
  | (refine goodI_y ?_; (try have hk1 := kind_inB (by assumption)); (try have hk2 := kind_outB (by assumption)); simp only [goodP, lenP] at *; omega)
  | rfl
  | contradiction
  | omega
  | skip⟩

instance k_good (n k r f h s e p : Int) : DenI Tryz.prog 49 [.agg [.v (.int .i64 n), .v (.int .i64 k), .v (.int .i64 r), .v (.int .i64 f), .v (.int .i64 h), .v (.int .i64 s), .v (.int .i64 e), .v (.int .i64 p)]] (True) (.bool (decide (goodP ⟨n, k, r, f, h, s, e, p⟩))) := ⟨fun hp => by
 refine den_of (τ := tabs) tabs_ok mixed_ Tryz.func49 rfl (by kernel_rfl) (by kernel_rfl) (by kernel_rfl) ?_
 all_goals (repeat' ((try (conv => whnf)); first
  | refine call_0 ?_
  | refine call_i ?_ ?_
  | refine call_c ?_ (fun _ => ?_) (fun _ => ?_)
  | (with_reducible refine onB_t ?_)
  | (with_reducible refine onB_f ?_)
  | (with_reducible refine onB_d (fun _ => ?_) (fun _ => ?_))
  | (with_reducible refine onB_n (fun _ => ?_) (fun _ => ?_))
  | refine OnB.mk (fun _ => ?_) (fun _ => ?_)
  | refine obl_i ?_ ?_
  | refine Drw.mk (by kernel_rfl) ?_
  | refine mks_i ?_ ?_
  | refine slp_i ?_ ?_
  | (with_reducible refine elem_u ?_ ?_)
  | (with_reducible refine elem_0 ?_)
  | (with_reducible refine elem_1 ?_)
  | refine Ends.mk ?_))
 all_goals (try refine Pr.mk ?_)
 all_goals (try simp only [sgnI_lt0, sgnI_zero, sgnI_le0, sgnI_gt0, sgnI_ge0, sgnI_eq1, cmpI_lt0, cmpI_gt0, cmpI_eq0, cmpI_le0, cmpI_ge0, cmpR_of, sgnR_of, sgnR_lt0, sgnR_eq0, sgnR_gt0, sgnR_le0, sgnR_ge0, sgnR_eq1, cmpR_lt0, cmpR_gt0, cmpR_eq0, cmpR_le0, cmpR_ge0] at *)
 all_goals (try simp only [List.length_map, Int.toNat_natCast] at *)
 all_goals first
  | (refine goodB_d ?_; simp only [goodP, lenP] at *; omega)
  | (refine goodB_n (fun hg => ?_); simp only [goodP, lenP] at *; omega)
  | rfl
  | contradiction
  | omega
  | skip⟩

end Go.Proofs.YtigbdpkpaleboaaGreatDoor

namespace Go.Proofs.YtigbdpkpaleboaaGreatDoor
open Go Go.RowKit Go.Sw
set_option linter.unusedVariables false
set_option maxRecDepth 100000
set_option maxHeartbeats 8000000
set_option synthInstance.maxSize 4000
set_option synthInstance.maxHeartbeats 400000
instance k_ix (T : List T8) (m : Int) : DenI Tryz.prog 47 [.c (.sl 8 (T.map toC)), .c (.fn 48 [.p [.v (.int .i64 m)]])] (T.length ≤ 20) (.int .i64 (fI T m)) := ⟨fun hp => by
 refine den_of (τ := tabs) tabs_ok mixed_ Tryz.func47 rfl (by kernel_rfl) (by kernel_rfl) (by kernel_rfl) ?_
 all_goals (repeat' ((try (conv => whnf)); first
  | refine call_0 ?_
  | refine call_i ?_ ?_
  | refine call_c ?_ (fun _ => ?_) (fun _ => ?_)
  | (with_reducible refine onB_t ?_)
  | (with_reducible refine onB_f ?_)
  | (with_reducible refine onB_d (fun _ => ?_) (fun _ => ?_))
  | (with_reducible refine onB_n (fun _ => ?_) (fun _ => ?_))
  | refine OnB.mk (fun _ => ?_) (fun _ => ?_)
  | refine obl_i ?_ ?_
  | refine Drw.mk (by kernel_rfl) ?_
  | refine mks_i ?_ ?_
  | refine slp_i ?_ ?_
  | (with_reducible refine elem_u ?_ ?_)
  | (with_reducible refine elem_0 ?_)
  | (with_reducible refine elem_1 ?_)
  | refine Ends.mk ?_))
 all_goals (try refine Pr.mk ?_)
 all_goals first
  | ((conv => whnf); refine Sw.Loop.inv (α := Nat) (fun k => [(0, .c (.sl 8 (T.map toC))), (1, .c (.fn 48 [.p [.v (.int .i64 m)]])), (6, .c (.sl 8 (T.map toC))), (7, .int .i64 ((T.map toC).length : Nat)), (8, .int .i64 (k : Nat))]) (fun k => []) (fun k => k ≤ T.length ∧ frst (fun i => decide ((T.getD i to0).n = m)) (T.length - k) k = fI T m) (fun k => T.length - k) 0 ?_ ?_ ?_ (fun k hk => ?_))
  | skip
 all_goals (repeat' ((try (conv => whnf)); first
  | refine call_0 ?_
  | refine call_i ?_ ?_
  | refine call_c ?_ (fun _ => ?_) (fun _ => ?_)
  | (with_reducible refine onB_t ?_)
  | (with_reducible refine onB_f ?_)
  | (with_reducible refine onB_d (fun _ => ?_) (fun _ => ?_))
  | (with_reducible refine onB_n (fun _ => ?_) (fun _ => ?_))
  | refine OnB.mk (fun _ => ?_) (fun _ => ?_)
  | refine obl_i ?_ ?_
  | refine Drw.mk (by kernel_rfl) ?_
  | refine mks_i ?_ ?_
  | refine slp_i ?_ ?_
  | (with_reducible refine elem_u ?_ ?_)
  | (with_reducible refine elem_0 ?_)
  | (with_reducible refine elem_1 ?_)
  | refine elem_map to0 ?_ ?_
  | refine Ends.mk ?_))
 all_goals (try refine Pr.mk ?_)
 all_goals first | (show SubE _ _; repeat' (first | exact trivial | refine And.intro ?_ ?_)) | (show SubB _ _; repeat' (first | exact trivial | refine And.intro ?_ ?_)) | skip
 all_goals (try rfl)
 all_goals (try simp only [sgnI_lt0, sgnI_zero, sgnI_le0, sgnI_gt0, sgnI_ge0, sgnI_eq1, cmpI_lt0, cmpI_gt0, cmpI_eq0, cmpI_le0, cmpI_ge0, cmpR_of, sgnR_of, sgnR_lt0, sgnR_eq0, sgnR_gt0, sgnR_le0, sgnR_ge0, sgnR_eq1, cmpR_lt0, cmpR_gt0, cmpR_eq0, cmpR_le0, cmpR_ge0] at *)
 all_goals (try simp only [List.length_map, Int.toNat_natCast] at *)
 all_goals first
  | ((conv => whnf); exact ⟨k + 1, ⟨⟨rfl, rfl, rfl, rfl, inc64 (by omega), trivial⟩, ⟨⟩, ⟨by omega, fi_step hk.2 (by omega) (by assumption)⟩, by show T.length - (k + 1) < T.length - k; omega⟩⟩)
  | exact pI (fi_yes hk.2 (by omega) (by assumption)).symm
  | exact pI (fi_no hk.2 (by omega)).symm
  | exact ⟨Nat.zero_le _, rfl⟩
  | rfl
  | contradiction
  | omega
  | skip⟩

instance k_find (T : List T8) (m : Int) : DenI Tryz.prog 20 [.c (.sl 8 (T.map toC)), .int .i64 m] (T.length ≤ 20) (.tup [.int .i64 (fX T m), .int .i64 (if fI T m < 0 then 4 else 0)]) := ⟨fun hp => by
 refine den_of (τ := tabs) tabs_ok mixed_ Tryz.func20 rfl (by kernel_rfl) (by kernel_rfl) (by kernel_rfl) ?_
 all_goals (repeat' ((try (conv => whnf)); first
  | refine call_0 ?_
  | refine call_i ?_ ?_
  | refine call_c ?_ (fun _ => ?_) (fun _ => ?_)
  | (with_reducible refine onB_t ?_)
  | (with_reducible refine onB_f ?_)
  | (with_reducible refine onB_d (fun _ => ?_) (fun _ => ?_))
  | (with_reducible refine onB_n (fun _ => ?_) (fun _ => ?_))
  | refine OnB.mk (fun _ => ?_) (fun _ => ?_)
  | refine obl_i ?_ ?_
  | refine Drw.mk (by kernel_rfl) ?_
  | refine mks_i ?_ ?_
  | refine slp_i ?_ ?_
  | (with_reducible refine elem_u ?_ ?_)
  | (with_reducible refine elem_0 ?_)
  | (with_reducible refine elem_1 ?_)
  | refine Ends.mk ?_))
 all_goals (try refine Pr.mk ?_)
 all_goals (try simp only [sgnI_lt0, sgnI_zero, sgnI_le0, sgnI_gt0, sgnI_ge0, sgnI_eq1, cmpI_lt0, cmpI_gt0, cmpI_eq0, cmpI_le0, cmpI_ge0, cmpR_of, sgnR_of, sgnR_lt0, sgnR_eq0, sgnR_gt0, sgnR_le0, sgnR_ge0, sgnR_eq1, cmpR_lt0, cmpR_gt0, cmpR_eq0, cmpR_le0, cmpR_ge0] at *)
 all_goals (try simp only [List.length_map, Int.toNat_natCast] at *)
 all_goals first
  | exact fnd_n (by assumption)
  | exact fnd_y (by assumption) rfl
  | rfl
  | contradiction
  | omega
  | skip⟩

instance k_find2 (T : List T8) (m : Int) : DenI Tryz.prog 22 [.c (.sl 8 (T.map toC)), .int .i64 m] (T.length ≤ 20) (.tup [.int .i64 (fX T m), .int .i64 (if fI T m < 0 then 4 else 0)]) := ⟨fun hp => by
 refine den_of (τ := tabs) tabs_ok mixed_ Tryz.func22 rfl (by kernel_rfl) (by kernel_rfl) (by kernel_rfl) ?_
 all_goals (repeat' ((try (conv => whnf)); first
  | refine call_0 ?_
  | refine call_i ?_ ?_
  | refine call_c ?_ (fun _ => ?_) (fun _ => ?_)
  | (with_reducible refine onB_t ?_)
  | (with_reducible refine onB_f ?_)
  | (with_reducible refine onB_d (fun _ => ?_) (fun _ => ?_))
  | (with_reducible refine onB_n (fun _ => ?_) (fun _ => ?_))
  | refine OnB.mk (fun _ => ?_) (fun _ => ?_)
  | refine obl_i ?_ ?_
  | refine Drw.mk (by kernel_rfl) ?_
  | refine mks_i ?_ ?_
  | refine slp_i ?_ ?_
  | (with_reducible refine elem_u ?_ ?_)
  | (with_reducible refine elem_0 ?_)
  | (with_reducible refine elem_1 ?_)
  | refine Ends.mk ?_))
 all_goals (try refine Pr.mk ?_)
 all_goals first
  | ((conv => whnf); refine Sw.Loop.inv (α := Nat) (fun k => [(0, .c (.sl 8 (T.map toC))), (1, .int .i64 m), (6, .int .i64 (k : Nat))]) (fun k => []) (fun k => k ≤ T.length ∧ frst (fun i => decide ((T.getD i to0).n = m)) (T.length - k) k = fI T m) (fun k => T.length - k) 0 ?_ ?_ ?_ (fun k hk => ?_))
  | skip
 all_goals (repeat' ((try (conv => whnf)); first
  | refine call_0 ?_
  | refine call_i ?_ ?_
  | refine call_c ?_ (fun _ => ?_) (fun _ => ?_)
  | (with_reducible refine onB_t ?_)
  | (with_reducible refine onB_f ?_)
  | (with_reducible refine onB_d (fun _ => ?_) (fun _ => ?_))
  | (with_reducible refine onB_n (fun _ => ?_) (fun _ => ?_))
  | refine OnB.mk (fun _ => ?_) (fun _ => ?_)
  | refine obl_i ?_ ?_
  | refine Drw.mk (by kernel_rfl) ?_
  | refine mks_i ?_ ?_
  | refine slp_i ?_ ?_
  | (with_reducible refine elem_u ?_ ?_)
  | (with_reducible refine elem_0 ?_)
  | (with_reducible refine elem_1 ?_)
  | refine elem_map to0 ?_ ?_
  | refine Ends.mk ?_))
 all_goals (try refine Pr.mk ?_)
 all_goals first | (show SubE _ _; repeat' (first | exact trivial | refine And.intro ?_ ?_)) | (show SubB _ _; repeat' (first | exact trivial | refine And.intro ?_ ?_)) | skip
 all_goals (try rfl)
 all_goals (try simp only [sgnI_lt0, sgnI_zero, sgnI_le0, sgnI_gt0, sgnI_ge0, sgnI_eq1, cmpI_lt0, cmpI_gt0, cmpI_eq0, cmpI_le0, cmpI_ge0, cmpR_of, sgnR_of, sgnR_lt0, sgnR_eq0, sgnR_gt0, sgnR_le0, sgnR_ge0, sgnR_eq1, cmpR_lt0, cmpR_gt0, cmpR_eq0, cmpR_le0, cmpR_ge0] at *)
 all_goals (try simp only [List.length_map, Int.toNat_natCast] at *)
 all_goals first
  | ((conv => whnf); exact ⟨k + 1, ⟨⟨rfl, rfl, inc64 (by omega), trivial⟩, ⟨⟩, ⟨by omega, fi_step hk.2 (by omega) (by assumption)⟩, by show T.length - (k + 1) < T.length - k; omega⟩⟩)
  | (have z := fi_yes hk.2 (by omega) (by assumption); exact fnd_y (by omega) z.symm)
  | (have z := fi_no hk.2 (by omega); exact fnd_n (by omega))
  | exact ⟨Nat.zero_le _, rfl⟩
  | rfl
  | contradiction
  | omega
  | skip⟩

instance k_mag (T : List T8) : DenI Tryz.prog 19 [.c (.sl 8 (T.map toC))] ((∀ t ∈ T, okK t) ∧ T.length ≤ 20) (.int .i64 (magC T)) := ⟨fun hp => by
 obtain ⟨hT, hl⟩ := hp
 all_goals refine den_of (τ := tabs) tabs_ok mixed_ Tryz.func19 rfl (by kernel_rfl) (by kernel_rfl) (by kernel_rfl) ?_
 all_goals (repeat' ((try (conv => whnf)); first
  | refine call_0 ?_
  | refine call_i ?_ ?_
  | refine call_c ?_ (fun _ => ?_) (fun _ => ?_)
  | (with_reducible refine onB_t ?_)
  | (with_reducible refine onB_f ?_)
  | (with_reducible refine onB_d (fun _ => ?_) (fun _ => ?_))
  | (with_reducible refine onB_n (fun _ => ?_) (fun _ => ?_))
  | refine OnB.mk (fun _ => ?_) (fun _ => ?_)
  | refine obl_i ?_ ?_
  | refine Drw.mk (by kernel_rfl) ?_
  | refine mks_i ?_ ?_
  | refine slp_i ?_ ?_
  | (with_reducible refine elem_u ?_ ?_)
  | (with_reducible refine elem_0 ?_)
  | (with_reducible refine elem_1 ?_)
  | refine Ends.mk ?_))
 all_goals (try refine Pr.mk ?_)
 all_goals first
  | ((conv => whnf); refine Sw.Loop.inv (α := Nat) (fun k => [(0, .c (.sl 8 (T.map toC))), (13, .c (.sl 8 (T.map toC))), (14, .int .i64 ((T.map toC).length : Nat)), (15, .int .i64 (k : Nat))]) (fun k => []) (fun k => k ≤ T.length ∧ ∀ j, j < k → goodP (T.getD j to0)) (fun k => T.length - k) 0 ?_ ?_ ?_ (fun k hk => ?_))
  | skip
 all_goals (repeat' ((try (conv => whnf)); first
  | refine call_0 ?_
  | refine call_i ?_ ?_
  | refine call_c ?_ (fun _ => ?_) (fun _ => ?_)
  | (with_reducible refine onB_t ?_)
  | (with_reducible refine onB_f ?_)
  | (with_reducible refine onB_d (fun _ => ?_) (fun _ => ?_))
  | (with_reducible refine onB_n (fun _ => ?_) (fun _ => ?_))
  | refine OnB.mk (fun _ => ?_) (fun _ => ?_)
  | refine obl_i ?_ ?_
  | refine Drw.mk (by kernel_rfl) ?_
  | refine mks_i ?_ ?_
  | refine slp_i ?_ ?_
  | (with_reducible refine elem_u ?_ ?_)
  | (with_reducible refine elem_0 ?_)
  | (with_reducible refine elem_1 ?_)
  | refine elem_map to0 ?_ ?_
  | refine Ends.mk ?_))
 all_goals (try refine Pr.mk ?_)
 all_goals first | (show SubE _ _; repeat' (first | exact trivial | refine And.intro ?_ ?_)) | (show SubB _ _; repeat' (first | exact trivial | refine And.intro ?_ ?_)) | skip
 all_goals (try rfl)
 all_goals first
  | ((conv => whnf); refine Sw.Loop.inv (α := Nat) (fun i => [(0, .c (.sl 8 (T.map toC))), (25, .c (.sl 8 (T.map toC))), (26, .int .i64 ((T.map toC).length : Nat)), (27, .int .i64 (i : Nat))]) (fun i => []) (fun i => i ≤ T.length ∧ (T.all (fun t => decide (goodP t)) = true ∧ ∀ j, j < i → ¬fX T (T.getD j to0).n < (j : Int))) (fun i => T.length - i) 0 ?_ ?_ ?_ (fun i hi => ?_))
  | skip
 all_goals (repeat' ((try (conv => whnf)); first
  | refine call_0 ?_
  | refine call_i ?_ ?_
  | refine call_c ?_ (fun _ => ?_) (fun _ => ?_)
  | (with_reducible refine onB_t ?_)
  | (with_reducible refine onB_f ?_)
  | (with_reducible refine onB_d (fun _ => ?_) (fun _ => ?_))
  | (with_reducible refine onB_n (fun _ => ?_) (fun _ => ?_))
  | refine OnB.mk (fun _ => ?_) (fun _ => ?_)
  | refine obl_i ?_ ?_
  | refine Drw.mk (by kernel_rfl) ?_
  | refine mks_i ?_ ?_
  | refine slp_i ?_ ?_
  | (with_reducible refine elem_u ?_ ?_)
  | (with_reducible refine elem_0 ?_)
  | (with_reducible refine elem_1 ?_)
  | refine elem_map to0 ?_ ?_
  | refine Ends.mk ?_))
 all_goals (try refine Pr.mk ?_)
 all_goals first | (show SubE _ _; repeat' (first | exact trivial | refine And.intro ?_ ?_)) | (show SubB _ _; repeat' (first | exact trivial | refine And.intro ?_ ?_)) | skip
 all_goals (try rfl)
 all_goals (try simp only [sgnI_lt0, sgnI_zero, sgnI_le0, sgnI_gt0, sgnI_ge0, sgnI_eq1, cmpI_lt0, cmpI_gt0, cmpI_eq0, cmpI_le0, cmpI_ge0, cmpR_of, sgnR_of, sgnR_lt0, sgnR_eq0, sgnR_gt0, sgnR_le0, sgnR_ge0, sgnR_eq1, cmpR_lt0, cmpR_gt0, cmpR_eq0, cmpR_le0, cmpR_ge0] at *)
 all_goals (try simp only [List.length_map, Int.toNat_natCast] at *)
 all_goals first
  | ((conv => whnf); exact ⟨k + 1, ⟨⟨rfl, rfl, rfl, inc64 (by omega), trivial⟩, ⟨⟩, ⟨by omega, all_up hk.2 (by first | exact if_good (by assumption) | exact of_decide_eq_true (by assumption) | assumption)⟩, by show T.length - (k + 1) < T.length - k; omega⟩⟩)
  | ((conv => whnf); exact ⟨i + 1, ⟨⟨rfl, rfl, rfl, inc64 (by omega), trivial⟩, ⟨⟩, ⟨by omega, hi.2.1, all_up hi.2.2 (by assumption)⟩, by show T.length - (i + 1) < T.length - i; omega⟩⟩)
  | exact getT hT (by omega)
  | exact pI (mag_v (by assumption) (mag_bad (i := k) (by omega) (if_bad (by assumption))))
  | exact pI (mag_dup (i := i) hi.2.1 (by omega) (by assumption)).symm
  | exact pI (mag_ok hi.2.1 (by omega) hi.2.2).symm
  | exact ⟨Nat.zero_le _, mag_all (by omega) hk.2, fun j hj => by omega⟩
  | exact ⟨Nat.zero_le _, fun j hj => by omega⟩
  | rfl
  | contradiction
  | omega
  | skip⟩

instance k_mag2 (T : List T8) : DenI Tryz.prog 21 [.c (.sl 8 (T.map toC))] ((∀ t ∈ T, okK t) ∧ T.length ≤ 20) (.int .i64 (magC T)) := ⟨fun hp => by
 obtain ⟨hT, hl⟩ := hp
 all_goals refine den_of (τ := tabs) tabs_ok mixed_ Tryz.func21 rfl (by kernel_rfl) (by kernel_rfl) (by kernel_rfl) ?_
 all_goals (repeat' ((try (conv => whnf)); first
  | refine call_0 ?_
  | refine call_i ?_ ?_
  | refine call_c ?_ (fun _ => ?_) (fun _ => ?_)
  | (with_reducible refine onB_t ?_)
  | (with_reducible refine onB_f ?_)
  | (with_reducible refine onB_d (fun _ => ?_) (fun _ => ?_))
  | (with_reducible refine onB_n (fun _ => ?_) (fun _ => ?_))
  | refine OnB.mk (fun _ => ?_) (fun _ => ?_)
  | refine obl_i ?_ ?_
  | refine Drw.mk (by kernel_rfl) ?_
  | refine mks_i ?_ ?_
  | refine slp_i ?_ ?_
  | (with_reducible refine elem_u ?_ ?_)
  | (with_reducible refine elem_0 ?_)
  | (with_reducible refine elem_1 ?_)
  | refine Ends.mk ?_))
 all_goals (try refine Pr.mk ?_)
 all_goals first
  | ((conv => whnf); refine Sw.Loop.inv (α := Nat) (fun k => [(0, .c (.sl 8 (T.map toC))), (3, .int .i64 (k : Nat))]) (fun k => []) (fun k => k ≤ T.length ∧ ∀ j, j < k → goodP (T.getD j to0)) (fun k => T.length - k) 0 ?_ ?_ ?_ (fun k hk => ?_))
  | skip
 all_goals (repeat' ((try (conv => whnf)); first
  | refine call_0 ?_
  | refine call_i ?_ ?_
  | refine call_c ?_ (fun _ => ?_) (fun _ => ?_)
  | (with_reducible refine onB_t ?_)
  | (with_reducible refine onB_f ?_)
  | (with_reducible refine onB_d (fun _ => ?_) (fun _ => ?_))
  | (with_reducible refine onB_n (fun _ => ?_) (fun _ => ?_))
  | refine OnB.mk (fun _ => ?_) (fun _ => ?_)
  | refine obl_i ?_ ?_
  | refine Drw.mk (by kernel_rfl) ?_
  | refine mks_i ?_ ?_
  | refine slp_i ?_ ?_
  | (with_reducible refine elem_u ?_ ?_)
  | (with_reducible refine elem_0 ?_)
  | (with_reducible refine elem_1 ?_)
  | refine elem_map to0 ?_ ?_
  | refine Ends.mk ?_))
 all_goals (try refine Pr.mk ?_)
 all_goals first | (show SubE _ _; repeat' (first | exact trivial | refine And.intro ?_ ?_)) | (show SubB _ _; repeat' (first | exact trivial | refine And.intro ?_ ?_)) | skip
 all_goals (try rfl)
 all_goals first
  | ((conv => whnf); refine Sw.Loop.inv (α := Nat) (fun i => [(0, .c (.sl 8 (T.map toC))), (4, .int .i64 (i : Nat))]) (fun i => []) (fun i => i ≤ T.length ∧ (T.all (fun t => decide (goodP t)) = true ∧ ∀ j, j < i → ¬fX T (T.getD j to0).n < (j : Int))) (fun i => T.length - i) 0 ?_ ?_ ?_ (fun i hi => ?_))
  | skip
 all_goals (repeat' ((try (conv => whnf)); first
  | refine call_0 ?_
  | refine call_i ?_ ?_
  | refine call_c ?_ (fun _ => ?_) (fun _ => ?_)
  | (with_reducible refine onB_t ?_)
  | (with_reducible refine onB_f ?_)
  | (with_reducible refine onB_d (fun _ => ?_) (fun _ => ?_))
  | (with_reducible refine onB_n (fun _ => ?_) (fun _ => ?_))
  | refine OnB.mk (fun _ => ?_) (fun _ => ?_)
  | refine obl_i ?_ ?_
  | refine Drw.mk (by kernel_rfl) ?_
  | refine mks_i ?_ ?_
  | refine slp_i ?_ ?_
  | (with_reducible refine elem_u ?_ ?_)
  | (with_reducible refine elem_0 ?_)
  | (with_reducible refine elem_1 ?_)
  | refine elem_map to0 ?_ ?_
  | refine Ends.mk ?_))
 all_goals (try refine Pr.mk ?_)
 all_goals first | (show SubE _ _; repeat' (first | exact trivial | refine And.intro ?_ ?_)) | (show SubB _ _; repeat' (first | exact trivial | refine And.intro ?_ ?_)) | skip
 all_goals (try rfl)
 all_goals (try simp only [sgnI_lt0, sgnI_zero, sgnI_le0, sgnI_gt0, sgnI_ge0, sgnI_eq1, cmpI_lt0, cmpI_gt0, cmpI_eq0, cmpI_le0, cmpI_ge0, cmpR_of, sgnR_of, sgnR_lt0, sgnR_eq0, sgnR_gt0, sgnR_le0, sgnR_ge0, sgnR_eq1, cmpR_lt0, cmpR_gt0, cmpR_eq0, cmpR_le0, cmpR_ge0] at *)
 all_goals (try simp only [List.length_map, Int.toNat_natCast] at *)
 all_goals first
  | ((conv => whnf); exact ⟨k + 1, ⟨⟨rfl, inc64 (by omega), trivial⟩, ⟨⟩, ⟨by omega, all_up hk.2 (by first | exact if_good (by assumption) | exact of_decide_eq_true (by assumption) | assumption)⟩, by show T.length - (k + 1) < T.length - k; omega⟩⟩)
  | ((conv => whnf); exact ⟨i + 1, ⟨⟨rfl, inc64 (by omega), trivial⟩, ⟨⟩, ⟨by omega, hi.2.1, all_up hi.2.2 (by assumption)⟩, by show T.length - (i + 1) < T.length - i; omega⟩⟩)
  | exact getT hT (by omega)
  | exact pI (mag_bad (i := k) (by omega) (by assumption)).symm
  | exact pI (mag_bad (i := k) (by omega) (of_decide_eq_false (by assumption))).symm
  | exact pI (mag_dup (i := i) hi.2.1 (by omega) (by assumption)).symm
  | exact pI (mag_ok hi.2.1 (by omega) hi.2.2).symm
  | exact ⟨Nat.zero_le _, mag_all (by omega) hk.2, fun j hj => by omega⟩
  | exact ⟨Nat.zero_le _, fun j hj => by omega⟩
  | rfl
  | contradiction
  | omega
  | skip⟩

end Go.Proofs.YtigbdpkpaleboaaGreatDoor

namespace Go.Sw
open Go Go.RowKit Go.Proofs Go.Shelf Go.Lib
set_option linter.unusedVariables false
set_option maxHeartbeats 2000000 in
set_option maxRecDepth 100000 in
theorem clone_at {P : Program} {ρ : Ren} (L : SlLaysE0.n41 P ρ) (i0 : TypeInfo) (z : Value) (size bytes : Nat) (hi : P.info? (ρ.t 23) = some i0) (hz0 : i0.zero = some z) (hz1 : i0.size = size) (hz2 : i0.bytes = bytes) (hzs : z.cells.size = size) (hsz : 0 < size)
    (z23 : ∀ w, (Go.sizeOf (ρ.t 23)).run P w = .ok size w) (a : Addr) (n c : Nat) (news : List Value) (w : World) (hl : news.length = n * size) (hn : n ≤ maxLen) (hbig : n * bytes ≤ 140737488355328)
    (hc : ∀ j u, news[j]? = some u → w.cell? (a.add j) = some u) (h1 : ∀ u ∈ news, u.oneCell' = true) :
    Calls P (ρ.f 41) #[.slice (some a) n c] w fun e w' => ∃ v', e = .returned v' ∧ w'.ownsRow w.heap.size (ρ.t 23) size v' n news ∧ Below w.heap.size w w' := by
  have mixed := L.mixed; have t4 := L.t4; have a4 := L.a4; have z4 := L.z4; have v4 := L.v4; have t22 := L.t22; have a22 := L.a22; have z22 := L.z22; have v22 := L.v22
  have q22 : ∀ (w : World) (a : Option Addr) (n c n' c' : Nat), (binOp .eql (ρ.t 22) (.slice a n c) (.slice none n' c')).run P w = .ok (.bool a.isNone) w := fun w a n c n' c' => Lib.run_eql_slice_nil w _ _ a n c n' c' L.t22
  have u22 : ∀ w, Sem.run P (underlying (ρ.t 22)) w = .ok (TypeDesc.slice (ρ.t 23)) w := run_underlying t22
  have A : Aside (∀ j u, news[j]? = some u → w.cell? (a.add j) = some u) := hc
  clear hc
  obtain ⟨_, _, FG⟩ := L.f41
  go_enter FG, SlBodyN.n41_ntmps ρ
  go_wp2_with (at_builtin; refine wpList_append_own _ rfl _ _ (ρ.t 22) rfl w.heap.size (ρ.t 23) i0 z size bytes t22 hi hz0 hz1 hz2 hzs hsz _ _ _ rfl (World.ownsRow_made w #[] 0 (Nat.le_refl _) (Nat.zero_le _) (by simp)) a n c news rfl ?qc1 ?qc2 ?qc3 ?qc4 ?qc5 ?qc6 ?_)
  case qc1 => exact hl
  case qc2 => exact fun j u hj => Lib.cell?_alloc_some _ (A.out j u hj)
  case qc3 => exact h1
  case qc4 => rw [Nat.zero_add]; exact hn
  case qc5 => rw [Nat.zero_add]; exact hbig
  case qc6 => simp
  intro v' w1 hown hgrow hnil
  go_wp2
  go_ret
  exact ⟨v', rfl, by simpa using hown, ((Below.refl _ w).alloc (Nat.le_refl _) _).grown hgrow (by simp) (by intro k hk; simp [Value.ownBlock] at hk; omega)⟩
theorem den_clone {P : Program} [Wld P] {ρ : Ren} (L : SlLaysE0.n41 P ρ) (hb : hasBody P (ρ.f 41) = true) (i0 : TypeInfo) (z : Value) {k : Nat} (hi : P.info? (ρ.t 23) = some i0) (hz0 : i0.zero = some z) (hz1 : i0.size = k) (hby : i0.bytes ≤ 1000000) (hzs : z.cells.size = k) (hk : 0 < k)
    (z23 : ∀ w, (Go.sizeOf (ρ.t 23)).run P w = .ok k w) {es : List (List Cell)} (hn : es.length ≤ 1000000) : Den P (ρ.f 41) [.c (.sl k es)] (.c (.sl k es)) := by
  refine Den.of ⟨hb, fun w X vs hW hX hl hr => ?_⟩ rfl
  match vs, hl with
  | [u], _ =>
  have hu : RepC w X u (.sl k es) := by
    have := hr 0 u _ rfl rfl
    cases this with
    | c h => exact h
  obtain ⟨A, cap, uss, rfl, hcap, hmx, hc, hS⟩ := RepS.of_sl hu
  have hone : ∀ us ∈ uss, ∀ u ∈ us, u.oneCell' = true := fun us hu => by
    obtain ⟨j, hj, rfl⟩ := List.getElem_of_mem hu
    exact (hS.get j _ _ (List.getElem?_eq_getElem hj) (List.getElem?_eq_getElem (by rw [← hS.len]; exact hj))).one
  have hfl : uss.flatten.length = es.length * k := by rw [flatten_len hS.sz, hS.len]
  cases A with
  | none =>
    have h0 : uss.flatten = [] := by
      by_cases h : uss.flatten = []
      · exact h
      · obtain ⟨ad, h1, _⟩ := hc h; cases h1
    rw [h0] at hfl
    have : es = [] := by
      rcases Nat.eq_zero_or_pos es.length with h | h
      · exact List.eq_nil_of_length_eq_zero h
      · have := Nat.mul_pos h hk; simp at hfl; omega
    subst this
    refine Calls.mono (AnyE.slices_Clone_nil L _ _ w) ?_
    rintro e w' ⟨rfl, rfl⟩
    exact ⟨_, rfl, (RepR.d (.c (RepC.nil _ _ _))).f, Below.refl _ _⟩
  | some a =>
    refine Calls.mono (clone_at L i0 z k i0.bytes hi hz0 hz1 rfl hzs hk z23 a es.length cap uss.flatten w hfl (by unfold maxLen; omega) (Nat.le_trans (Nat.mul_le_mul hn hby) (by omega)) (fun j u hj => ?_) (fun u hu => ?_)) ?_
    · obtain ⟨ad, h1, _, _, h2⟩ := hc (fun h => by rw [h] at hj; cases hj)
      cases h1
      exact h2 j u hj
    · obtain ⟨us, h1, h2⟩ := List.mem_flatten.1 hu
      exact hone us h1 u h2
    · rintro e w' ⟨v', rfl, hown, hB⟩
      have hext := Ext.call X hB
      have hS' := hS.ext hext
      refine ⟨v', rfl, (RepR.d (.c ?_)).f, hB⟩
      rcases hown with ⟨_, ⟨rfl, h0⟩ | ⟨g, cap', cur, rfl, h1, h2, h3, h4, h5, h6⟩⟩
      · have : es = [] := List.eq_nil_of_length_eq_zero h0
        subst this
        exact RepC.nil _ _ _
      · refine RepS.sl hS' (fun hne => ?_) h3 (by unfold maxLen at h4; omega)
        have hgl : g < w'.heap.size := by
          rcases Nat.lt_or_ge g w'.heap.size with h' | h'
          · exact h'
          · rw [Array.getElem?_eq_none h'] at h2; cases h2
        refine ⟨_, rfl, hgl, fun hm => ?_, fun j u hj => ?_⟩
        · have := hX g hm
          omega
        · rw [← h6, List.getElem?_take] at hj
          split at hj
          · rw [Addr.add_lit, Nat.zero_add, cell_of_row w' g j cur _ _ h2, ← Array.getElem?_toList]
            exact hj
          · cases hj
theorem RepC.sl_nil {w : World} {X : List Nat} {u : Value} {s k : Nat} (h : RepC w X u (.sl s [])) : RepC w X u (.sl k []) := by
  cases h with
  | sl A n cap s uss es hn hu hc hcap hmx hs hr =>
    exact .sl A n cap k uss [] hn hu hc hcap hmx (fun i us e a b => by simp at b) (fun i us e a b => by simp at b)
/-- A list that is empty or of the right size. -/
theorem den_sl {P : Program} [Wld P] {f : FuncId} {xs : List AV} {s k : Nat} {es : List (List Cell)} {y : AV} (hn : noTup xs = true) (h : s = k ∨ es = []) (hd : Den P f xs (.tup [.c (.sl s es), y])) : Den P f xs (.tup [.c (.sl k es), y]) := by
  rcases h with rfl | rfl
  · exact hd
  · obtain ⟨hb, hd⟩ := hd.old hn
    refine Den.of ⟨hb, fun w X vs hW hX hl hr => (hd w X vs hW hX hl hr).mono ?_⟩ hn
    rintro e w' ⟨u, rfl, hR, hB⟩
    refine ⟨u, rfl, ?_, hB⟩
    obtain ⟨us, vs', G, h1, h2, h3, h4⟩ := hR
    rcases h1 with ⟨rfl, h1⟩ | ⟨_, _, h1⟩
    · cases h1
      cases h4 with
      | d hd t =>
        cases hd with
        | c hc => exact ⟨_, _, G, .inl ⟨rfl, rfl⟩, h2, h3, .d (.c hc.sl_nil) t⟩
    · cases h1
end Go.Sw
