/-
  What the functions rational.inverse answer, each out of its text by the abstract run.
  What the functions rational.Simplest, swarfref02.FromInt, swarfref02.Over answer, each out of its text by the abstract run.
  What the functions answer, each out of its text by the abstract run.
  What the functions swarfref02.Simplest answer, each out of its text by the abstract run.
  Texts of fractions: what Parse makes of a text (plain laws).
  What the functions rational.Parse, rational.Format answer, each out of its text by the abstract run.
  What the functions swarflaw02.text, swarflaw02.text, swarflaw02.text, swarflaw02.text, swarflaw02.text, swarflaw02.text, swarflaw02.text, swarflaw02.text answer, each out of its text by the abstract run.
  What the functions swarflaw02.awake answer, each out of its text by the abstract run.
  Plain laws of fractions: order, roots of squares, what lies between.
  What the functions swarfref02.Zero, swarfref02.Small, swarfref01.Small answer, each out of its text by the abstract run.
  What the functions swarflaw02.small answer, each out of its text by the abstract run.
  Contracts under facts of the world: a stronger condition lifts them; a package's map of names.
  What the functions answer, each out of its text by the abstract run.
  A package's table of whole numbers, read off what the row lists.
  Texts of whole numbers: digits, one behind the other, and nine to a limb.
  What the functions strconv.FormatUint answer, each out of its text by the abstract run.
  What the functions answer, each out of its text by the abstract run.
  What the functions answer, each out of its text by the abstract run.
  Texts of whole numbers: what is written is read again, and the other way round.
  Texts of fractions, and digits that are written one at a time.
  The limbs of a number and its digits.
  Conditions: none.
-/
import Derived.Test.YtghlkihmnopenaaGreatDoorM11
import Derived.Maps.Keyed
import Derived.Maps.StringElems
import Derived.LaidMore
import Derived.OpenShut
import Derived.ProofKit
import Derived.Shelf.LaysM
import Derived.Shelf.Strconv.Itoa1
import Derived.Shelf.Strconv.Itoa2
import Derived.Lib.Walk
import Derived.Lib.ItoaMem
import Derived.Lib.ItoaLen
import Derived.Lib.AppendIntMem
import Derived.WalkKit
import Derived.BigCall
import Derived.BigGuard
import Derived.Lib.Itoa
import Derived.Lib.ItoaNum
import Derived.Shelf.Strings.Repeat
import Derived.Lib.Builder
import Derived.Shelf.Strings.Builder1
import Derived.Lib.Bytealg
import Derived.Lib.Strings
import Derived.Lib.AppendStr
set_option linter.all false
namespace Go.Proofs.YtghlkihmnopenaaGreatDoor
open Go Go.RowKit Go.Sw
set_option linter.unusedVariables false
set_option maxRecDepth 100000
set_option maxHeartbeats 8000000
set_option synthInstance.maxSize 4000
set_option synthInstance.maxHeartbeats 400000
instance w_inv (a : Rat) : DenI Tryz.prog 100 [R a] (rz a ≤ 10000000 ∧ ¬a = 0) (R (((1 : Int) : Rat) / a)) := ⟨fun hp => by
 have i_a : RzB a 10000000 := ⟨hp.1⟩
 have hpre := hp.2
 all_goals refine den_of (τ := tab) tab_ok mixed_ Tryz.func100 rfl (by kernel_rfl) (by kernel_rfl) (by kernel_rfl) ?_
 all_goals (repeat' ((try (conv => whnf)); first
  | refine call_0 ?_
  | refine call_i ?_ ?_
  | refine call_c ?_ (fun _ => ?_) (fun _ => ?_)
  | (with_reducible refine onB_t ?_)
  | (with_reducible refine onB_f ?_)
  | (with_reducible refine onB_d (fun _ => ?_) (fun _ => ?_))
  | (with_reducible refine onB_n (fun _ => ?_) (fun _ => ?_))
  | refine OnB.mk (fun _ => ?_) (fun _ => ?_)
  | refine obl_i ?_ ?_
  | refine Drw.mk (by kernel_rfl) ?_
  | refine mks_i ?_ ?_
  | refine slp_i ?_ ?_
  | (with_reducible refine elem_u ?_ ?_)
  | (with_reducible refine elem_0 ?_)
  | (with_reducible refine elem_1 ?_)
  | refine Ends.mk ?_))
 all_goals (try refine Pr.mk ?_)
 all_goals (try simp only [sgnI_lt0, sgnI_zero, sgnI_le0, sgnI_gt0, sgnI_ge0, sgnI_eq1, cmpI_lt0, cmpI_gt0, cmpI_eq0, cmpI_le0, cmpI_ge0, cmpR_of, sgnR_of, sgnR_lt0, sgnR_eq0, sgnR_gt0, sgnR_le0, sgnR_ge0, sgnR_eq1, cmpR_lt0, cmpR_gt0, cmpR_eq0, cmpR_le0, cmpR_ge0] at *)
 all_goals first
  | with_reducible exact packT (inv_den a)
  | (refine ⟨num_nz (by assumption), ?_, ?_⟩ <;> exact szb (by omega))
  | ((repeat' apply And.intro) <;> first | assumption | exact rzb (by omega) | exact szb (by omega) | exact Int.mul_ne_zero (den_ne _) (den_ne _))
  | skip⟩

theorem btw_den (M : Int) (hM : sz M ≤ 100000) : ∀ (m : Nat) (a b : Rat) (l : Bool), BT m M a b l → Den Tryz.prog 68 [R a, R b, .bool l] (R (btw m a b l)) := by
 intro m
 induction m with
 | zero => intro a b l hp; exact absurd hp.2.2.2.1 (by omega)
 | succ m ih =>
  intro a b l hp
  haveI ih' : ∀ (a b : Rat) (l : Bool), DenI Tryz.prog 68 [R a, R b, .bool l] (BT m M a b l) (R (btw m a b l)) := fun a b l => ⟨fun h => ih a b l h⟩
  have hz := BT_rz hp hM
  have i_a : RzB a 200000 := ⟨hz.1⟩
  cases l with
  | false =>
   refine den_of (τ := tab) tab_ok mixed_ Tryz.func68 rfl (by kernel_rfl) (by kernel_rfl) (by kernel_rfl) ?_
   all_goals (repeat' ((try (conv => whnf)); first
    | refine call_0 ?_
    | refine call_i ?_ ?_
    | refine call_c ?_ (fun _ => ?_) (fun _ => ?_)
    | (with_reducible refine onB_t ?_)
    | (with_reducible refine onB_f ?_)
    | (with_reducible refine onB_hy rfl ?_)
    | (with_reducible refine onB_hn rfl ?_)
    | (with_reducible refine onB_d (fun _ => ?_) (fun _ => ?_))
    | (with_reducible refine onB_n (fun _ => ?_) (fun _ => ?_))
    | refine OnB.mk (fun _ => ?_) (fun _ => ?_)
    | refine obl_i ?_ ?_
    | refine Drw.mk (by kernel_rfl) ?_
    | refine mks_i ?_ ?_
    | refine slp_i ?_ ?_
    | (with_reducible refine elem_u ?_ ?_)
    | (with_reducible refine elem_0 ?_)
    | (with_reducible refine elem_1 ?_)
    | refine Ends.mk ?_))
   all_goals (try refine Pr.mk ?_)
   all_goals (try simp only [sgnI_lt0, sgnI_zero, sgnI_le0, sgnI_gt0, sgnI_ge0, sgnI_eq1, cmpI_lt0, cmpI_gt0, cmpI_eq0, cmpI_le0, cmpI_ge0, cmpR_of, sgnR_of, sgnR_lt0, sgnR_eq0, sgnR_gt0, sgnR_le0, sgnR_ge0, sgnR_eq1, cmpR_lt0, cmpR_gt0, cmpR_eq0, cmpR_le0, cmpR_ge0] at *)
   all_goals first
    | with_reducible exact packT btw_f.symm
    | with_reducible exact packT (btw_n (by assumption)).symm
    | with_reducible exact packT (btw_0 (by assumption) (by assumption)).symm
    | with_reducible exact packT (btw_1 (by assumption) (by assumption)).symm
    | exact BT_f hp (by assumption)
    | exact BT_t hp (by assumption) (by assumption)
    | ((repeat' apply And.intro) <;> first | assumption | exact rzb (by omega) | exact szb (by omega) | exact Int.mul_ne_zero (den_ne _) (den_ne _))
    | omega
    | skip
  | true =>
   have i_b : RzB b 200000 := ⟨hz.2 rfl⟩
   have hab := (hp.2.2.2.2 rfl).1
   refine den_of (τ := tab) tab_ok mixed_ Tryz.func68 rfl (by kernel_rfl) (by kernel_rfl) (by kernel_rfl) ?_
   all_goals (repeat' ((try (conv => whnf)); first
    | refine call_0 ?_
    | refine call_i ?_ ?_
    | refine call_c ?_ (fun _ => ?_) (fun _ => ?_)
    | (with_reducible refine onB_t ?_)
    | (with_reducible refine onB_f ?_)
    | (with_reducible refine onB_hy rfl ?_)
    | (with_reducible refine onB_hn rfl ?_)
    | (with_reducible refine onB_d (fun _ => ?_) (fun _ => ?_))
    | (with_reducible refine onB_n (fun _ => ?_) (fun _ => ?_))
    | refine OnB.mk (fun _ => ?_) (fun _ => ?_)
    | refine obl_i ?_ ?_
    | refine Drw.mk (by kernel_rfl) ?_
    | refine mks_i ?_ ?_
    | refine slp_i ?_ ?_
    | (with_reducible refine elem_u ?_ ?_)
    | (with_reducible refine elem_0 ?_)
    | (with_reducible refine elem_1 ?_)
    | refine Ends.mk ?_))
   all_goals (try refine Pr.mk ?_)
   all_goals (try simp only [sgnI_lt0, sgnI_zero, sgnI_le0, sgnI_gt0, sgnI_ge0, sgnI_eq1, cmpI_lt0, cmpI_gt0, cmpI_eq0, cmpI_le0, cmpI_ge0, cmpR_of, sgnR_of, sgnR_lt0, sgnR_eq0, sgnR_gt0, sgnR_le0, sgnR_ge0, sgnR_eq1, cmpR_lt0, cmpR_gt0, cmpR_eq0, cmpR_le0, cmpR_ge0] at *)
   all_goals first
    | with_reducible exact packT btw_f.symm
    | with_reducible exact packT (btw_n (by assumption)).symm
    | with_reducible exact packT (btw_0 (by assumption) (by assumption)).symm
    | with_reducible exact packT (btw_1 (by assumption) (by assumption)).symm
    | exact BT_f hp (by assumption)
    | exact BT_t hp (by assumption) (by assumption)
    | exact inv_p1 (rzb (by omega)) hab
    | exact inv_p2 (BT_f hp (by assumption)) hM
    | exact inv_p2 (BT_t hp (by assumption) (by assumption)) hM
    | exact inv_p3 (rzb (by omega)) (BT_f hp (by assumption)) hM
    | exact inv_p3 (rzb (by omega)) (BT_t hp (by assumption) (by assumption)) hM
    | ((repeat' apply And.intro) <;> first | assumption | exact rzb (by omega) | exact szb (by omega) | exact Int.mul_ne_zero (den_ne _) (den_ne _))
    | omega
    | skip

instance w_btw (a b : Rat) : DenI Tryz.prog 68 [R a, R b, .bool true] (0 ≤ a ∧ a < b ∧ rz a ≤ 100000 ∧ rz b ≤ 100000) (R (btw (a.den + b.den) a b true)) := ⟨fun hp => by
 obtain ⟨M, hM, h⟩ := BT_ini hp.1 hp.2.1 hp.2.2.1 hp.2.2.2
 exact btw_den M hM _ _ _ _ h⟩

end Go.Proofs.YtghlkihmnopenaaGreatDoor

namespace Go.Proofs.YtghlkihmnopenaaGreatDoor
open Go Go.RowKit Go.Sw
set_option linter.unusedVariables false
set_option maxRecDepth 100000
set_option maxHeartbeats 8000000
set_option synthInstance.maxSize 4000
set_option synthInstance.maxHeartbeats 400000
instance w_smp (a b : Rat) : DenC Tryz.prog 27 [R a, R b] (rz a ≤ 100000 ∧ rz b ≤ 100000) (a < b) (.tup [R (smp a b), .int .i64 0]) (.tup [ZR, .int .i64 1]) := ⟨denC fun hp q e1 e2 => by
 have i_a : RzB a 100000 := ⟨hp.1⟩
 have i_b : RzB b 100000 := ⟨hp.2⟩
 all_goals refine den_of (τ := tab) tab_ok mixed_ Tryz.func27 rfl (by kernel_rfl) (by kernel_rfl) (by kernel_rfl) ?_
 all_goals (repeat' ((try (conv => whnf)); first
  | refine call_0 ?_
  | refine call_i ?_ ?_
  | refine call_c ?_ (fun _ => ?_) (fun _ => ?_)
  | (with_reducible refine onB_t ?_)
  | (with_reducible refine onB_f ?_)
  | (with_reducible refine onB_d (fun _ => ?_) (fun _ => ?_))
  | (with_reducible refine onB_n (fun _ => ?_) (fun _ => ?_))
  | refine OnB.mk (fun _ => ?_) (fun _ => ?_)
  | refine obl_i ?_ ?_
  | refine Drw.mk (by kernel_rfl) ?_
  | refine mks_i ?_ ?_
  | refine slp_i ?_ ?_
  | (with_reducible refine elem_u ?_ ?_)
  | (with_reducible refine elem_0 ?_)
  | (with_reducible refine elem_1 ?_)
  | refine Ends.mk ?_))
 all_goals (try refine Pr.mk ?_)
 all_goals (try simp only [sgnI_lt0, sgnI_zero, sgnI_le0, sgnI_gt0, sgnI_ge0, sgnI_eq1, cmpI_lt0, cmpI_gt0, cmpI_eq0, cmpI_le0, cmpI_ge0, cmpR_of, sgnR_of, sgnR_lt0, sgnR_eq0, sgnR_gt0, sgnR_le0, sgnR_ge0, sgnR_eq1, cmpR_lt0, cmpR_gt0, cmpR_eq0, cmpR_le0, cmpR_ge0] at *)
 all_goals first
  | with_reducible exact smp_0 (by assumption) (by assumption) e1
  | with_reducible exact smp_n (by grind) (by assumption) (by assumption) e1
  | with_reducible exact smp_n' (by grind) (by assumption) (by assumption) e1
  | with_reducible exact smp_p (by grind) (by assumption) e1
  | (rw [e2 (by grind)]; rfl)
  | exact smp_b (by grind) (by grind) hp.1 hp.2
  | exact smp_c (by grind) (by assumption) hp.1 hp.2
  | (exfalso; grind)
  | (have z := smp_b (a := a) (b := b) (by grind) (by grind) hp.1 hp.2; have z2 := btw_sz z.1 z.2.1 z.2.2.1 z.2.2.2; omega)
  | decide
  | ((repeat' apply And.intro) <;> first | assumption | exact rzb (by omega) | exact szb (by omega) | exact Int.mul_ne_zero (den_ne _) (den_ne _))
  | skip⟩

instance w_fri (n : Int) : DenI Tryz.prog 17 [Z n] (True) (R (n : Rat)) := ⟨fun hp => by
 refine den_of (τ := tab) tab_ok mixed_ Tryz.func17 rfl (by kernel_rfl) (by kernel_rfl) (by kernel_rfl) ?_
 all_goals (repeat' ((try (conv => whnf)); first
  | refine call_0 ?_
  | refine call_i ?_ ?_
  | refine call_c ?_ (fun _ => ?_) (fun _ => ?_)
  | (with_reducible refine onB_t ?_)
  | (with_reducible refine onB_f ?_)
  | (with_reducible refine onB_d (fun _ => ?_) (fun _ => ?_))
  | (with_reducible refine onB_n (fun _ => ?_) (fun _ => ?_))
  | refine OnB.mk (fun _ => ?_) (fun _ => ?_)
  | refine obl_i ?_ ?_
  | refine Drw.mk (by kernel_rfl) ?_
  | refine mks_i ?_ ?_
  | refine slp_i ?_ ?_
  | (with_reducible refine elem_u ?_ ?_)
  | (with_reducible refine elem_0 ?_)
  | (with_reducible refine elem_1 ?_)
  | refine Ends.mk ?_))
 all_goals (try refine Pr.mk ?_)
 all_goals first
  | rfl
  | skip⟩

instance m_over2 (a b : Rat) : DenI Tryz.prog 101 [R a, R b] (rz a ≤ 4000000 ∧ rz b ≤ 4000000 ∧ ¬b = 0) (R (a / b)) := ⟨fun hp => by
 have i_a : RzB a 4000000 := ⟨hp.1⟩
 have i_b : RzB b 4000000 := ⟨hp.2.1⟩
 have hpre := hp.2.2
 all_goals refine den_of (τ := tab) tab_ok mixed_ Tryz.func101 rfl (by kernel_rfl) (by kernel_rfl) (by kernel_rfl) ?_
 all_goals (repeat' ((try (conv => whnf)); first
  | refine call_0 ?_
  | refine call_i ?_ ?_
  | refine call_c ?_ (fun _ => ?_) (fun _ => ?_)
  | (with_reducible refine onB_t ?_)
  | (with_reducible refine onB_f ?_)
  | (with_reducible refine onB_d (fun _ => ?_) (fun _ => ?_))
  | (with_reducible refine onB_n (fun _ => ?_) (fun _ => ?_))
  | refine OnB.mk (fun _ => ?_) (fun _ => ?_)
  | refine obl_i ?_ ?_
  | refine Drw.mk (by kernel_rfl) ?_
  | refine mks_i ?_ ?_
  | refine slp_i ?_ ?_
  | (with_reducible refine elem_u ?_ ?_)
  | (with_reducible refine elem_0 ?_)
  | (with_reducible refine elem_1 ?_)
  | refine Ends.mk ?_))
 all_goals (try refine Pr.mk ?_)
 all_goals (try simp only [sgnI_lt0, sgnI_zero, sgnI_le0, sgnI_gt0, sgnI_ge0, sgnI_eq1, cmpI_lt0, cmpI_gt0, cmpI_eq0, cmpI_le0, cmpI_ge0, cmpR_of, sgnR_of, sgnR_lt0, sgnR_eq0, sgnR_gt0, sgnR_le0, sgnR_ge0, sgnR_eq1, cmpR_lt0, cmpR_gt0, cmpR_eq0, cmpR_le0, cmpR_ge0] at *)
 all_goals first
  | rfl
  | (simp only [redB, redC, mkA, mkB, mkC, cooC, ptC, *, true_or, or_true, if_true, if_false, or_self, and_self, and_true, true_and, and_false, false_and, not_true, not_false_iff, Bool.false_eq_true, decide_true, decide_false, Bool.or_true, Bool.true_or, Bool.or_false, Bool.false_or]; rfl)
  | ((repeat' apply And.intro) <;> first | assumption | exact rzb (by omega) | exact szb (by omega) | exact Int.mul_ne_zero (den_ne _) (den_ne _))
  | (exfalso; simp_all; done)
  | (exfalso; grind)
  | omega
  | ((repeat' apply And.intro) <;> first | assumption | exact rzb (by omega) | exact szb (by omega) | exact Int.mul_ne_zero (den_ne _) (den_ne _))
  | skip⟩

end Go.Proofs.YtghlkihmnopenaaGreatDoor

namespace Go.Proofs.YtghlkihmnopenaaGreatDoor
open Go Go.RowKit Go.Sw
set_option linter.unusedVariables false
set_option maxRecDepth 100000
set_option maxHeartbeats 8000000
set_option synthInstance.maxSize 4000
set_option synthInstance.maxHeartbeats 400000
theorem sim_den (M : Int) (hM : sz M ≤ 100000) : ∀ (m : Nat) (a b : Rat), BT m M a b true → Den Tryz.prog 69 [R a, R b] (R (btw m a b true)) := by
 intro m
 induction m with
 | zero => intro a b hp; exact absurd hp.2.2.2.1 (by omega)
 | succ m ih =>
  intro a b hp
  haveI ih' : ∀ (a b : Rat), DenI Tryz.prog 69 [R a, R b] (BT m M a b true) (R (btw m a b true)) := fun a b => ⟨fun h => ih a b h⟩
  have hz := BT_rz hp hM
  have i_a : RzB a 200000 := ⟨hz.1⟩
  have i_b : RzB b 200000 := ⟨hz.2 rfl⟩
  have hab := (hp.2.2.2.2 rfl).1
  refine den_of (τ := tab) tab_ok mixed_ Tryz.func69 rfl (by kernel_rfl) (by kernel_rfl) (by kernel_rfl) ?_
  all_goals (repeat' ((try (conv => whnf)); first
   | refine call_0 ?_
   | refine call_i ?_ ?_
   | refine call_c ?_ (fun _ => ?_) (fun _ => ?_)
   | (with_reducible refine onB_t ?_)
   | (with_reducible refine onB_f ?_)
   | (with_reducible refine onB_hy rfl ?_)
   | (with_reducible refine onB_hn rfl ?_)
   | (with_reducible refine onB_d (fun _ => ?_) (fun _ => ?_))
   | (with_reducible refine onB_n (fun _ => ?_) (fun _ => ?_))
   | refine OnB.mk (fun _ => ?_) (fun _ => ?_)
   | refine obl_i ?_ ?_
   | refine Drw.mk (by kernel_rfl) ?_
   | refine mks_i ?_ ?_
   | refine slp_i ?_ ?_
   | (with_reducible refine elem_u ?_ ?_)
   | (with_reducible refine elem_0 ?_)
   | (with_reducible refine elem_1 ?_)
   | refine Ends.mk ?_))
  all_goals (try refine Pr.mk ?_)
  all_goals (try simp only [sgnI_lt0, sgnI_zero, sgnI_le0, sgnI_gt0, sgnI_ge0, sgnI_eq1, cmpI_lt0, cmpI_gt0, cmpI_eq0, cmpI_le0, cmpI_ge0, cmpR_of, sgnR_of, sgnR_lt0, sgnR_eq0, sgnR_gt0, sgnR_le0, sgnR_ge0, sgnR_eq1, cmpR_lt0, cmpR_gt0, cmpR_eq0, cmpR_le0, cmpR_ge0] at *)
  all_goals first
   | with_reducible exact packT (btw_n (by assumption)).symm
   | with_reducible exact packT (rfs_0 hp (by assumption) (by assumption))
   | with_reducible exact packT (btw_1 (by assumption) (sub_nz (by assumption))).symm
   | exact BT_f hp (by assumption)
   | exact BT_t hp (by assumption) (sub_nz (by assumption))
   | exact inv_p1 (rzb (by omega)) hab
   | exact inv_p2 (BT_f hp (by assumption)) hM
   | exact inv_p2 (BT_t hp (by assumption) (sub_nz (by assumption))) hM
   | exact inv_p3 (rzb (by omega)) (BT_f hp (by assumption)) hM
   | exact inv_p3 (rzb (by omega)) (BT_t hp (by assumption) (sub_nz (by assumption))) hM
   | (refine ⟨rzb (by omega), rzb (by omega), ?_⟩; first | exact x_nz hab | exact fl1_nz hab | exact sub_nz (by assumption))
   | exact ⟨rzb (by omega), ov_2 (BT_t hp (by assumption) (sub_nz (by assumption))) hM⟩
   | ((repeat' apply And.intro) <;> first | assumption | exact rzb (by omega) | exact szb (by omega) | exact Int.mul_ne_zero (den_ne _) (den_ne _))
   | omega
   | skip

instance w_sim (a b : Rat) : DenI Tryz.prog 69 [R a, R b] (0 ≤ a ∧ a < b ∧ rz a ≤ 100000 ∧ rz b ≤ 100000) (R (btw (a.den + b.den) a b true)) := ⟨fun hp => by
 obtain ⟨M, hM, h⟩ := BT_ini hp.1 hp.2.1 hp.2.2.1 hp.2.2.2
 exact sim_den M hM _ _ _ h⟩

end Go.Proofs.YtghlkihmnopenaaGreatDoor

namespace Go.Proofs.YtghlkihmnopenaaGreatDoor
open Go Go.RowKit Go.Sw
set_option linter.unusedVariables false
set_option maxRecDepth 100000
set_option maxHeartbeats 8000000
set_option synthInstance.maxSize 4000
set_option synthInstance.maxHeartbeats 400000
theorem sim2_den (a b : Rat) (hp : 0 ≤ a ∧ a < b ∧ rz a ≤ 100000 ∧ rz b ≤ 100000) : Den Tryz.prog 28 [R a, R b] (.tup [R (btw (a.den + b.den) a b true), .int .i64 0]) := by
 have i_a : RzB a 100000 := ⟨hp.2.2.1⟩
 have i_b : RzB b 100000 := ⟨hp.2.2.2⟩
 refine den_of (τ := tab) tab_ok mixed_ Tryz.func28 rfl (by kernel_rfl) (by kernel_rfl) (by kernel_rfl) ?_
 all_goals (repeat' ((try (conv => whnf)); first
  | refine call_0 ?_
  | refine call_i ?_ ?_
  | refine call_c ?_ (fun _ => ?_) (fun _ => ?_)
  | (with_reducible refine onB_t ?_)
  | (with_reducible refine onB_f ?_)
  | (with_reducible refine onB_hy rfl ?_)
  | (with_reducible refine onB_hn rfl ?_)
  | (with_reducible refine onB_d (fun _ => ?_) (fun _ => ?_))
  | (with_reducible refine onB_n (fun _ => ?_) (fun _ => ?_))
  | refine OnB.mk (fun _ => ?_) (fun _ => ?_)
  | refine obl_i ?_ ?_
  | refine Drw.mk (by kernel_rfl) ?_
  | refine mks_i ?_ ?_
  | refine slp_i ?_ ?_
  | (with_reducible refine elem_u ?_ ?_)
  | (with_reducible refine elem_0 ?_)
  | (with_reducible refine elem_1 ?_)
  | refine Ends.mk ?_))
 all_goals (try refine Pr.mk ?_)
 all_goals (try simp only [sgnI_lt0, sgnI_zero, sgnI_le0, sgnI_gt0, sgnI_ge0, sgnI_eq1, cmpI_lt0, cmpI_gt0, cmpI_eq0, cmpI_le0, cmpI_ge0, cmpR_of, sgnR_of, sgnR_lt0, sgnR_eq0, sgnR_gt0, sgnR_le0, sgnR_ge0, sgnR_eq1, cmpR_lt0, cmpR_gt0, cmpR_eq0, cmpR_le0, cmpR_ge0] at *)
 all_goals first
  | rfl
  | exact hp
  | (exfalso; grind)
  | ((repeat' apply And.intro) <;> first | assumption | exact rzb (by omega) | exact szb (by omega) | exact Int.mul_ne_zero (den_ne _) (den_ne _))
  | omega
  | skip

instance w_smp2 (a b : Rat) : DenC Tryz.prog 28 [R a, R b] (rz a ≤ 100000 ∧ rz b ≤ 100000) (a < b) (.tup [R (smp a b), .int .i64 0]) (.tup [ZR, .int .i64 1]) := ⟨denC fun hp q e1 e2 => by
 have i_a : RzB a 100000 := ⟨hp.1⟩
 have i_b : RzB b 100000 := ⟨hp.2⟩
 haveI ih : ∀ a b : Rat, DenI Tryz.prog 28 [R a, R b] (0 ≤ a ∧ a < b ∧ rz a ≤ 100000 ∧ rz b ≤ 100000) (.tup [R (btw (a.den + b.den) a b true), .int .i64 0]) := fun a b => ⟨sim2_den a b⟩
 all_goals refine den_of (τ := tab) tab_ok mixed_ Tryz.func28 rfl (by kernel_rfl) (by kernel_rfl) (by kernel_rfl) ?_
 all_goals (repeat' ((try (conv => whnf)); first
  | refine call_0 ?_
  | refine call_i ?_ ?_
  | refine call_c ?_ (fun _ => ?_) (fun _ => ?_)
  | (with_reducible refine onB_t ?_)
  | (with_reducible refine onB_f ?_)
  | (with_reducible refine onB_hy rfl ?_)
  | (with_reducible refine onB_hn rfl ?_)
  | (with_reducible refine onB_d (fun _ => ?_) (fun _ => ?_))
  | (with_reducible refine onB_n (fun _ => ?_) (fun _ => ?_))
  | refine OnB.mk (fun _ => ?_) (fun _ => ?_)
  | refine obl_i ?_ ?_
  | refine Drw.mk (by kernel_rfl) ?_
  | refine mks_i ?_ ?_
  | refine slp_i ?_ ?_
  | (with_reducible refine elem_u ?_ ?_)
  | (with_reducible refine elem_0 ?_)
  | (with_reducible refine elem_1 ?_)
  | refine Ends.mk ?_))
 all_goals (try refine Pr.mk ?_)
 all_goals (try simp only [sgnI_lt0, sgnI_zero, sgnI_le0, sgnI_gt0, sgnI_ge0, sgnI_eq1, cmpI_lt0, cmpI_gt0, cmpI_eq0, cmpI_le0, cmpI_ge0, cmpR_of, sgnR_of, sgnR_lt0, sgnR_eq0, sgnR_gt0, sgnR_le0, sgnR_ge0, sgnR_eq1, cmpR_lt0, cmpR_gt0, cmpR_eq0, cmpR_le0, cmpR_ge0] at *)
 all_goals (try clear ih)
 all_goals first
  | with_reducible exact smp_0 (by assumption) (by assumption) e1
  | with_reducible exact smp_n (by grind) (by assumption) (by assumption) e1
  | with_reducible exact smp_n' (by grind) (by assumption) (by assumption) e1
  | with_reducible exact smp_p (by grind) (by assumption) e1
  | (rw [e2 (by grind)]; rfl)
  | exact smp_b (by grind) (by grind) hp.1 hp.2
  | exact smp_c (by grind) (by assumption) hp.1 hp.2
  | (exfalso; grind)
  | (have z := smp_b (a := a) (b := b) (by grind) (by grind) hp.1 hp.2; have z2 := btw_sz z.1 z.2.1 z.2.2.1 z.2.2.2; omega)
  | ((repeat' apply And.intro) <;> first | assumption | exact rzb (by omega) | exact szb (by omega) | exact Int.mul_ne_zero (den_ne _) (den_ne _))
  | omega
  | skip⟩

end Go.Proofs.YtghlkihmnopenaaGreatDoor

namespace Go.Sw
open Go
set_option linter.unusedVariables false
/-- Whether a text is one of a fraction. -/
def prsOk (s : ByteArray) : Bool :=
  decide (parE (ctA s sB) = 0) && (decide (ixS s sB < 0) || (decide (parE (ctB s sB) = 0) && decide (1 < parN (ctB s sB)) && decide (((Nat.gcd (parN (ctA s sB)).natAbs (parN (ctB s sB)).natAbs : Nat) : Int) = 1)))
def prsN (s : ByteArray) : Int := if prsOk s = true then parN (ctA s sB) else 0
def prsD (s : ByteArray) : Int := if prsOk s = true then (if ixS s sB < 0 then 1 else parN (ctB s sB)) else 0
def prsE (s : ByteArray) : Int := if prsOk s = true then 0 else 2
@[reducible] def prsR (s : ByteArray) : AV := .tup [.agg [zs (prsN s), zl (prsN s), zs (prsD s), zl (prsD s)], .int .i64 (prsE s)]
theorem parN_sz (s : ByteArray) : sz (parN s) ≤ 65536 := by
  unfold parN
  split
  · rename_i h
    unfold okI at h
    simp only [Bool.and_eq_true, decide_eq_true_eq] at h
    have hd := decV_lt (l := bsL (cutP s mB)) fun c hc => dgts h.2.2.2 c hc
    have hs := cutP_size s mB
    rw [bsL_len] at hd
    refine Nat.le_trans (sz_le (k := (cutP s mB).size) ?_) (by omega)
    rw [natAbs_sgnv]
    refine Nat.lt_of_lt_of_le hd (Nat.pow_le_pow_left (by decide) _)
  · exact Nat.le_trans (sz_64 (n := 0) (by decide) (by decide)) (by decide)
theorem zrat : AV.agg [Cell.v (Value.bool false), Cell.sl 1 [], Cell.v (Value.bool false), Cell.sl 1 []] = AV.agg [zs 0, zl 0, zs 0, zl 0] := by
  have h := z0_eq
  injection h with h
  injection h with h1 h
  injection h with h2 _
  rw [h1, h2]
theorem pr_no {s : ByteArray} (h : prsOk s = false) : packA [AV.agg [Cell.v (Value.bool false), Cell.sl 1 [], Cell.v (Value.bool false), Cell.sl 1 []], AV.c (Cell.v (Value.int IntKind.i64 2))] = prsR s := by
  unfold prsR prsN prsD prsE
  rw [h, if_neg (by decide), if_neg (by decide), if_neg (by decide), zrat]; rfl
theorem pr_w {s : ByteArray} (h1 : parE (ctA s sB) = 0) (h2 : ¬0 ≤ ixS s sB) : packA [AV.agg [zs ((parN (ctA s sB) : Int) : Rat).num, zl ((parN (ctA s sB) : Int) : Rat).num, zs (((parN (ctA s sB) : Int) : Rat).den : Int), zl (((parN (ctA s sB) : Int) : Rat).den : Int)], AV.c (Cell.v (Value.int IntKind.i64 0))] = prsR s := by
  have h : prsOk s = true := by
    unfold prsOk
    rw [decide_eq_true h1, decide_eq_true (show ixS s sB < 0 by omega)]; rfl
  unfold prsR prsN prsD prsE
  rw [h, if_pos rfl, if_pos rfl, if_pos rfl, if_pos (by omega)]; rfl
theorem pr_y {s : ByteArray} (h1 : parE (ctA s sB) = 0) (h3 : 0 ≤ ixS s sB) (h4 : parE (ctB s sB) = 0) (h5 : ¬parN (ctB s sB) ≤ 1) (h6 : ((Nat.gcd (parN (ctA s sB)).natAbs (parN (ctB s sB)).natAbs : Nat) : Int) = 1) :
    packA [AV.agg [zs (parN (ctA s sB)), zl (parN (ctA s sB)), zs (parN (ctB s sB)), zl (parN (ctB s sB))], AV.c (Cell.v (Value.int IntKind.i64 0))] = prsR s := by
  have h : prsOk s = true := by
    unfold prsOk
    rw [decide_eq_true h1, decide_eq_true h4, decide_eq_true (show 1 < parN (ctB s sB) by omega), decide_eq_true h6, Bool.or_comm]; rfl
  unfold prsR prsN prsD prsE
  rw [h, if_pos rfl, if_pos rfl, if_pos rfl, if_neg (by omega)]; rfl
theorem po_1 {s : ByteArray} (h : ¬parE (ctA s sB) = 0) : prsOk s = false := by
  unfold prsOk; rw [decide_eq_false h]; rfl
theorem po_2 {s : ByteArray} (h0 : 0 ≤ ixS s sB) (h : ¬parE (ctB s sB) = 0) : prsOk s = false := by
  unfold prsOk; rw [decide_eq_false h, decide_eq_false (show ¬ixS s sB < 0 by omega), Bool.false_and, Bool.false_and, Bool.or_false, Bool.and_false]
theorem po_3 {s : ByteArray} (h0 : 0 ≤ ixS s sB) (h : parN (ctB s sB) ≤ 1) : prsOk s = false := by
  unfold prsOk; rw [decide_eq_false (show ¬1 < parN (ctB s sB) by omega), decide_eq_false (show ¬ixS s sB < 0 by omega), Bool.and_false, Bool.false_and, Bool.or_false, Bool.and_false]
theorem po_4 {s : ByteArray} (h0 : 0 ≤ ixS s sB) (h : ¬((Nat.gcd (parN (ctA s sB)).natAbs (parN (ctB s sB)).natAbs : Nat) : Int) = 1) : prsOk s = false := by
  unfold prsOk; rw [decide_eq_false h, decide_eq_false (show ¬ixS s sB < 0 by omega), Bool.and_false, Bool.or_false, Bool.and_false]
theorem prs_lit {s : ByteArray} {q : Rat} (h1 : prsN s = q.num) (h2 : prsD s = q.den) (h3 : prsE s = 0) : prsR s = .tup [R q, .int .i64 0] := by
  show AV.tup _ = _
  rw [h1, h2, h3]
theorem smallS_sz (n : Nat) : (smallS n).size ≤ 2 := by
  unfold smallS
  split <;> rw [ByteArray.size_extract] <;> omega
theorem strE {a b : ByteArray} (h : a = b) : packA [AV.c (Cell.v (.string a))] = AV.str b := by subst h; rfl
end Go.Sw

namespace Go.Proofs.YtghlkihmnopenaaGreatDoor
open Go Go.RowKit Go.Sw
set_option linter.unusedVariables false
set_option maxRecDepth 100000
set_option maxHeartbeats 8000000
set_option synthInstance.maxSize 4000
set_option synthInstance.maxHeartbeats 400000
instance f_parse (s : ByteArray) : DenI Tryz.prog 36 [.str s] (s.size ≤ 1000000) (prsR s) := ⟨fun hp => by
 refine den_of (τ := tab) tab_ok mixed_ Tryz.func36 rfl (by kernel_rfl) (by kernel_rfl) (by kernel_rfl) ?_
 all_goals (repeat' ((try (conv => whnf)); first
  | refine call_0 ?_
  | refine call_i ?_ ?_
  | refine call_c ?_ (fun _ => ?_) (fun _ => ?_)
  | (with_reducible refine onB_t ?_)
  | (with_reducible refine onB_f ?_)
  | (with_reducible refine onB_d (fun _ => ?_) (fun _ => ?_))
  | (with_reducible refine onB_n (fun _ => ?_) (fun _ => ?_))
  | refine OnB.mk (fun _ => ?_) (fun _ => ?_)
  | refine obl_i ?_ ?_
  | refine Drw.mk (by kernel_rfl) ?_
  | refine mks_i ?_ ?_
  | refine slp_i ?_ ?_
  | (with_reducible refine elem_u ?_ ?_)
  | (with_reducible refine elem_0 ?_)
  | (with_reducible refine elem_1 ?_)
  | (with_reducible refine strAt_i ?_ ?_)
  | (with_reducible refine elem_b ?_ ?_)
  | refine Ends.mk ?_))
 all_goals (try refine Pr.mk ?_)
 all_goals (try simp only [sgnI_lt0, sgnI_zero, sgnI_le0, sgnI_gt0, sgnI_ge0, sgnI_eq1, cmpI_lt0, cmpI_gt0, cmpI_eq0, cmpI_le0, cmpI_ge0, cmpR_of, sgnR_of, sgnR_lt0, sgnR_eq0, sgnR_gt0, sgnR_le0, sgnR_ge0, sgnR_eq1, cmpR_lt0, cmpR_gt0, cmpR_eq0, cmpR_le0, cmpR_ge0] at *)
 all_goals first
  | with_reducible exact pr_no (po_1 (by assumption))
  | with_reducible exact pr_no (po_2 (by assumption) (by assumption))
  | with_reducible exact pr_no (po_3 (by assumption) (by assumption))
  | with_reducible exact pr_no (po_4 (by assumption) (by assumption))
  | with_reducible exact pr_w (by assumption) (by assumption)
  | with_reducible exact pr_y (by assumption) (by assumption) (by assumption) (by assumption) (by assumption)
  | exact ⟨rfl, hp⟩
  | exact ⟨Nat.le_trans (parN_sz _) (by decide), Nat.le_trans (parN_sz _) (by decide)⟩
  | skip⟩

def fmtR (q : Rat) : ByteArray := if (q.den : Int) = 1 then fmtI q.num else fmtI q.num ++ sB ++ fmtI q.den

theorem fmtI_sz (n : Int) : (fmtI n).size ≤ 3 := by
  have h := smallS_sz n.natAbs
  have e : (smallS n.natAbs).data.toList.length = (smallS n.natAbs).size := rfl
  unfold fmtI
  split
  · decide
  · split
    · show (45 :: (smallS n.natAbs).data.toList).toArray.size ≤ 3
      rw [List.size_toArray, List.length_cons]; omega
    · show (smallS n.natAbs).data.toList.toArray.size ≤ 3
      rw [List.size_toArray]; omega

instance f_fmt (q : Rat) : DenI Tryz.prog 37 [R q] (q.num.natAbs < 100 ∧ q.den < 100) (.str (fmtR q)) := ⟨fun hp => by
 refine den_of (τ := tab) tab_ok mixed_ Tryz.func37 rfl (by kernel_rfl) (by kernel_rfl) (by kernel_rfl) ?_
 all_goals (repeat' ((try (conv => whnf)); first
  | refine call_0 ?_
  | refine call_i ?_ ?_
  | refine call_c ?_ (fun _ => ?_) (fun _ => ?_)
  | (with_reducible refine onB_t ?_)
  | (with_reducible refine onB_f ?_)
  | (with_reducible refine onB_d (fun _ => ?_) (fun _ => ?_))
  | (with_reducible refine onB_n (fun _ => ?_) (fun _ => ?_))
  | refine OnB.mk (fun _ => ?_) (fun _ => ?_)
  | refine obl_i ?_ ?_
  | refine Drw.mk (by kernel_rfl) ?_
  | refine mks_i ?_ ?_
  | refine slp_i ?_ ?_
  | (with_reducible refine elem_u ?_ ?_)
  | (with_reducible refine elem_0 ?_)
  | (with_reducible refine elem_1 ?_)
  | (with_reducible refine strAt_i ?_ ?_)
  | (with_reducible refine elem_b ?_ ?_)
  | refine Ends.mk ?_))
 all_goals (try refine Pr.mk ?_)
 all_goals (try simp only [sgnI_lt0, sgnI_zero, sgnI_le0, sgnI_gt0, sgnI_ge0, sgnI_eq1, cmpI_lt0, cmpI_gt0, cmpI_eq0, cmpI_le0, cmpI_ge0, cmpR_of, sgnR_of, sgnR_lt0, sgnR_eq0, sgnR_gt0, sgnR_le0, sgnR_ge0, sgnR_eq1, cmpR_lt0, cmpR_gt0, cmpR_eq0, cmpR_le0, cmpR_ge0] at *)
 all_goals first
  | (refine (strE ?_); unfold fmtR; rw [if_pos (by assumption)])
  | (refine (strE ?_); unfold fmtR; rw [if_neg (by assumption)])
  | (have z := fmtI_sz q.num; have z2 := fmtI_sz (q.den : Int); (try rw [ByteArray.size_append]); have z3 : (ByteArray.mk #[47]).size = 1 := rfl; omega)
  | omega
  | skip⟩

theorem lt_0 : prsR ⟨#[57, 47, 52]⟩ = .tup [R (9 / 4 : Rat), .int .i64 0] := prs_lit (by decide +kernel) (by decide +kernel) (by decide +kernel)

theorem lt_1 : prsR ⟨#[50]⟩ = .tup [R (2 : Rat), .int .i64 0] := prs_lit (by decide +kernel) (by decide +kernel) (by decide +kernel)

theorem lt_2 : prsR ⟨#[51, 47, 49, 48]⟩ = .tup [R (3 / 10 : Rat), .int .i64 0] := prs_lit (by decide +kernel) (by decide +kernel) (by decide +kernel)

theorem lt_3 : prsR ⟨#[50, 47, 53]⟩ = .tup [R (2 / 5 : Rat), .int .i64 0] := prs_lit (by decide +kernel) (by decide +kernel) (by decide +kernel)

theorem lt_4 : prsR ⟨#[45, 53, 47, 50]⟩ = .tup [R (-5 / 2 : Rat), .int .i64 0] := prs_lit (by decide +kernel) (by decide +kernel) (by decide +kernel)

theorem lt_5 : prsR ⟨#[55, 47, 50]⟩ = .tup [R (7 / 2 : Rat), .int .i64 0] := prs_lit (by decide +kernel) (by decide +kernel) (by decide +kernel)

theorem lt_6 : prsR ⟨#[51]⟩ = .tup [R (3 : Rat), .int .i64 0] := prs_lit (by decide +kernel) (by decide +kernel) (by decide +kernel)

theorem lt_7 : prsR ⟨#[45, 51, 47, 50]⟩ = .tup [R (-3 / 2 : Rat), .int .i64 0] := prs_lit (by decide +kernel) (by decide +kernel) (by decide +kernel)

end Go.Proofs.YtghlkihmnopenaaGreatDoor

namespace Go.Proofs.YtghlkihmnopenaaGreatDoor
open Go Go.RowKit Go.Sw
set_option linter.unusedVariables false
set_option maxRecDepth 100000
set_option maxHeartbeats 8000000
set_option synthInstance.maxSize 4000
set_option synthInstance.maxHeartbeats 400000
instance l_par0 : DenI Tryz.prog 36 [.str ⟨#[57, 47, 52]⟩] True (.tup [R (9 / 4 : Rat), .int .i64 0]) := ⟨fun hp => by
 have h := (f_parse ⟨#[57, 47, 52]⟩).den (by decide +kernel)
 rw [lt_0] at h; exact h⟩

instance l_txt0  : DenI Tryz.prog 56 [.str ⟨#[57, 47, 52]⟩] (True) (R (9 / 4 : Rat)) := ⟨fun hp => by
 refine den_of (τ := tab) tab_ok mixed_ Tryz.func56 rfl (by kernel_rfl) (by kernel_rfl) (by kernel_rfl) ?_
 all_goals (repeat' ((try (conv => whnf)); first
  | refine call_0 ?_
  | refine call_i ?_ ?_
  | refine call_c ?_ (fun _ => ?_) (fun _ => ?_)
  | (with_reducible refine onB_t ?_)
  | (with_reducible refine onB_f ?_)
  | (with_reducible refine onB_d (fun _ => ?_) (fun _ => ?_))
  | (with_reducible refine onB_n (fun _ => ?_) (fun _ => ?_))
  | refine OnB.mk (fun _ => ?_) (fun _ => ?_)
  | refine obl_i ?_ ?_
  | refine Drw.mk (by kernel_rfl) ?_
  | refine mks_i ?_ ?_
  | refine slp_i ?_ ?_
  | (with_reducible refine elem_u ?_ ?_)
  | (with_reducible refine elem_0 ?_)
  | (with_reducible refine elem_1 ?_)
  | (with_reducible refine strAt_i ?_ ?_)
  | (with_reducible refine elem_b ?_ ?_)
  | refine Ends.mk ?_))
 all_goals (try refine Pr.mk ?_)
 all_goals first
  | rfl
  | trivial
  | skip⟩

instance l_par1 : DenI Tryz.prog 36 [.str ⟨#[50]⟩] True (.tup [R (2 : Rat), .int .i64 0]) := ⟨fun hp => by
 have h := (f_parse ⟨#[50]⟩).den (by decide +kernel)
 rw [lt_1] at h; exact h⟩

instance l_txt1  : DenI Tryz.prog 56 [.str ⟨#[50]⟩] (True) (R (2 : Rat)) := ⟨fun hp => by
 refine den_of (τ := tab) tab_ok mixed_ Tryz.func56 rfl (by kernel_rfl) (by kernel_rfl) (by kernel_rfl) ?_
 all_goals (repeat' ((try (conv => whnf)); first
  | refine call_0 ?_
  | refine call_i ?_ ?_
  | refine call_c ?_ (fun _ => ?_) (fun _ => ?_)
  | (with_reducible refine onB_t ?_)
  | (with_reducible refine onB_f ?_)
  | (with_reducible refine onB_d (fun _ => ?_) (fun _ => ?_))
  | (with_reducible refine onB_n (fun _ => ?_) (fun _ => ?_))
  | refine OnB.mk (fun _ => ?_) (fun _ => ?_)
  | refine obl_i ?_ ?_
  | refine Drw.mk (by kernel_rfl) ?_
  | refine mks_i ?_ ?_
  | refine slp_i ?_ ?_
  | (with_reducible refine elem_u ?_ ?_)
  | (with_reducible refine elem_0 ?_)
  | (with_reducible refine elem_1 ?_)
  | (with_reducible refine strAt_i ?_ ?_)
  | (with_reducible refine elem_b ?_ ?_)
  | refine Ends.mk ?_))
 all_goals (try refine Pr.mk ?_)
 all_goals first
  | rfl
  | trivial
  | skip⟩

instance l_par2 : DenI Tryz.prog 36 [.str ⟨#[51, 47, 49, 48]⟩] True (.tup [R (3 / 10 : Rat), .int .i64 0]) := ⟨fun hp => by
 have h := (f_parse ⟨#[51, 47, 49, 48]⟩).den (by decide +kernel)
 rw [lt_2] at h; exact h⟩

instance l_txt2  : DenI Tryz.prog 56 [.str ⟨#[51, 47, 49, 48]⟩] (True) (R (3 / 10 : Rat)) := ⟨fun hp => by
 refine den_of (τ := tab) tab_ok mixed_ Tryz.func56 rfl (by kernel_rfl) (by kernel_rfl) (by kernel_rfl) ?_
 all_goals (repeat' ((try (conv => whnf)); first
  | refine call_0 ?_
  | refine call_i ?_ ?_
  | refine call_c ?_ (fun _ => ?_) (fun _ => ?_)
  | (with_reducible refine onB_t ?_)
  | (with_reducible refine onB_f ?_)
  | (with_reducible refine onB_d (fun _ => ?_) (fun _ => ?_))
  | (with_reducible refine onB_n (fun _ => ?_) (fun _ => ?_))
  | refine OnB.mk (fun _ => ?_) (fun _ => ?_)
  | refine obl_i ?_ ?_
  | refine Drw.mk (by kernel_rfl) ?_
  | refine mks_i ?_ ?_
  | refine slp_i ?_ ?_
  | (with_reducible refine elem_u ?_ ?_)
  | (with_reducible refine elem_0 ?_)
  | (with_reducible refine elem_1 ?_)
  | (with_reducible refine strAt_i ?_ ?_)
  | (with_reducible refine elem_b ?_ ?_)
  | refine Ends.mk ?_))
 all_goals (try refine Pr.mk ?_)
 all_goals first
  | rfl
  | trivial
  | skip⟩

instance l_par3 : DenI Tryz.prog 36 [.str ⟨#[50, 47, 53]⟩] True (.tup [R (2 / 5 : Rat), .int .i64 0]) := ⟨fun hp => by
 have h := (f_parse ⟨#[50, 47, 53]⟩).den (by decide +kernel)
 rw [lt_3] at h; exact h⟩

instance l_txt3  : DenI Tryz.prog 56 [.str ⟨#[50, 47, 53]⟩] (True) (R (2 / 5 : Rat)) := ⟨fun hp => by
 refine den_of (τ := tab) tab_ok mixed_ Tryz.func56 rfl (by kernel_rfl) (by kernel_rfl) (by kernel_rfl) ?_
 all_goals (repeat' ((try (conv => whnf)); first
  | refine call_0 ?_
  | refine call_i ?_ ?_
  | refine call_c ?_ (fun _ => ?_) (fun _ => ?_)
  | (with_reducible refine onB_t ?_)
  | (with_reducible refine onB_f ?_)
  | (with_reducible refine onB_d (fun _ => ?_) (fun _ => ?_))
  | (with_reducible refine onB_n (fun _ => ?_) (fun _ => ?_))
  | refine OnB.mk (fun _ => ?_) (fun _ => ?_)
  | refine obl_i ?_ ?_
  | refine Drw.mk (by kernel_rfl) ?_
  | refine mks_i ?_ ?_
  | refine slp_i ?_ ?_
  | (with_reducible refine elem_u ?_ ?_)
  | (with_reducible refine elem_0 ?_)
  | (with_reducible refine elem_1 ?_)
  | (with_reducible refine strAt_i ?_ ?_)
  | (with_reducible refine elem_b ?_ ?_)
  | refine Ends.mk ?_))
 all_goals (try refine Pr.mk ?_)
 all_goals first
  | rfl
  | trivial
  | skip⟩

instance l_par4 : DenI Tryz.prog 36 [.str ⟨#[45, 53, 47, 50]⟩] True (.tup [R (-5 / 2 : Rat), .int .i64 0]) := ⟨fun hp => by
 have h := (f_parse ⟨#[45, 53, 47, 50]⟩).den (by decide +kernel)
 rw [lt_4] at h; exact h⟩

instance l_txt4  : DenI Tryz.prog 56 [.str ⟨#[45, 53, 47, 50]⟩] (True) (R (-5 / 2 : Rat)) := ⟨fun hp => by
 refine den_of (τ := tab) tab_ok mixed_ Tryz.func56 rfl (by kernel_rfl) (by kernel_rfl) (by kernel_rfl) ?_
 all_goals (repeat' ((try (conv => whnf)); first
  | refine call_0 ?_
  | refine call_i ?_ ?_
  | refine call_c ?_ (fun _ => ?_) (fun _ => ?_)
  | (with_reducible refine onB_t ?_)
  | (with_reducible refine onB_f ?_)
  | (with_reducible refine onB_d (fun _ => ?_) (fun _ => ?_))
  | (with_reducible refine onB_n (fun _ => ?_) (fun _ => ?_))
  | refine OnB.mk (fun _ => ?_) (fun _ => ?_)
  | refine obl_i ?_ ?_
  | refine Drw.mk (by kernel_rfl) ?_
  | refine mks_i ?_ ?_
  | refine slp_i ?_ ?_
  | (with_reducible refine elem_u ?_ ?_)
  | (with_reducible refine elem_0 ?_)
  | (with_reducible refine elem_1 ?_)
  | (with_reducible refine strAt_i ?_ ?_)
  | (with_reducible refine elem_b ?_ ?_)
  | refine Ends.mk ?_))
 all_goals (try refine Pr.mk ?_)
 all_goals first
  | rfl
  | trivial
  | skip⟩

instance l_par5 : DenI Tryz.prog 36 [.str ⟨#[55, 47, 50]⟩] True (.tup [R (7 / 2 : Rat), .int .i64 0]) := ⟨fun hp => by
 have h := (f_parse ⟨#[55, 47, 50]⟩).den (by decide +kernel)
 rw [lt_5] at h; exact h⟩

instance l_txt5  : DenI Tryz.prog 56 [.str ⟨#[55, 47, 50]⟩] (True) (R (7 / 2 : Rat)) := ⟨fun hp => by
 refine den_of (τ := tab) tab_ok mixed_ Tryz.func56 rfl (by kernel_rfl) (by kernel_rfl) (by kernel_rfl) ?_
 all_goals (repeat' ((try (conv => whnf)); first
  | refine call_0 ?_
  | refine call_i ?_ ?_
  | refine call_c ?_ (fun _ => ?_) (fun _ => ?_)
  | (with_reducible refine onB_t ?_)
  | (with_reducible refine onB_f ?_)
  | (with_reducible refine onB_d (fun _ => ?_) (fun _ => ?_))
  | (with_reducible refine onB_n (fun _ => ?_) (fun _ => ?_))
  | refine OnB.mk (fun _ => ?_) (fun _ => ?_)
  | refine obl_i ?_ ?_
  | refine Drw.mk (by kernel_rfl) ?_
  | refine mks_i ?_ ?_
  | refine slp_i ?_ ?_
  | (with_reducible refine elem_u ?_ ?_)
  | (with_reducible refine elem_0 ?_)
  | (with_reducible refine elem_1 ?_)
  | (with_reducible refine strAt_i ?_ ?_)
  | (with_reducible refine elem_b ?_ ?_)
  | refine Ends.mk ?_))
 all_goals (try refine Pr.mk ?_)
 all_goals first
  | rfl
  | trivial
  | skip⟩

instance l_par6 : DenI Tryz.prog 36 [.str ⟨#[51]⟩] True (.tup [R (3 : Rat), .int .i64 0]) := ⟨fun hp => by
 have h := (f_parse ⟨#[51]⟩).den (by decide +kernel)
 rw [lt_6] at h; exact h⟩

instance l_txt6  : DenI Tryz.prog 56 [.str ⟨#[51]⟩] (True) (R (3 : Rat)) := ⟨fun hp => by
 refine den_of (τ := tab) tab_ok mixed_ Tryz.func56 rfl (by kernel_rfl) (by kernel_rfl) (by kernel_rfl) ?_
 all_goals (repeat' ((try (conv => whnf)); first
  | refine call_0 ?_
  | refine call_i ?_ ?_
  | refine call_c ?_ (fun _ => ?_) (fun _ => ?_)
  | (with_reducible refine onB_t ?_)
  | (with_reducible refine onB_f ?_)
  | (with_reducible refine onB_d (fun _ => ?_) (fun _ => ?_))
  | (with_reducible refine onB_n (fun _ => ?_) (fun _ => ?_))
  | refine OnB.mk (fun _ => ?_) (fun _ => ?_)
  | refine obl_i ?_ ?_
  | refine Drw.mk (by kernel_rfl) ?_
  | refine mks_i ?_ ?_
  | refine slp_i ?_ ?_
  | (with_reducible refine elem_u ?_ ?_)
  | (with_reducible refine elem_0 ?_)
  | (with_reducible refine elem_1 ?_)
  | (with_reducible refine strAt_i ?_ ?_)
  | (with_reducible refine elem_b ?_ ?_)
  | refine Ends.mk ?_))
 all_goals (try refine Pr.mk ?_)
 all_goals first
  | rfl
  | trivial
  | skip⟩

instance l_par7 : DenI Tryz.prog 36 [.str ⟨#[45, 51, 47, 50]⟩] True (.tup [R (-3 / 2 : Rat), .int .i64 0]) := ⟨fun hp => by
 have h := (f_parse ⟨#[45, 51, 47, 50]⟩).den (by decide +kernel)
 rw [lt_7] at h; exact h⟩

instance l_txt7  : DenI Tryz.prog 56 [.str ⟨#[45, 51, 47, 50]⟩] (True) (R (-3 / 2 : Rat)) := ⟨fun hp => by
 refine den_of (τ := tab) tab_ok mixed_ Tryz.func56 rfl (by kernel_rfl) (by kernel_rfl) (by kernel_rfl) ?_
 all_goals (repeat' ((try (conv => whnf)); first
  | refine call_0 ?_
  | refine call_i ?_ ?_
  | refine call_c ?_ (fun _ => ?_) (fun _ => ?_)
  | (with_reducible refine onB_t ?_)
  | (with_reducible refine onB_f ?_)
  | (with_reducible refine onB_d (fun _ => ?_) (fun _ => ?_))
  | (with_reducible refine onB_n (fun _ => ?_) (fun _ => ?_))
  | refine OnB.mk (fun _ => ?_) (fun _ => ?_)
  | refine obl_i ?_ ?_
  | refine Drw.mk (by kernel_rfl) ?_
  | refine mks_i ?_ ?_
  | refine slp_i ?_ ?_
  | (with_reducible refine elem_u ?_ ?_)
  | (with_reducible refine elem_0 ?_)
  | (with_reducible refine elem_1 ?_)
  | (with_reducible refine strAt_i ?_ ?_)
  | (with_reducible refine elem_b ?_ ?_)
  | refine Ends.mk ?_))
 all_goals (try refine Pr.mk ?_)
 all_goals first
  | rfl
  | trivial
  | skip⟩

end Go.Proofs.YtghlkihmnopenaaGreatDoor

namespace Go.Proofs.YtghlkihmnopenaaGreatDoor
open Go Go.RowKit Go.Sw
set_option linter.unusedVariables false
set_option maxRecDepth 100000
set_option maxHeartbeats 8000000
set_option synthInstance.maxSize 4000
set_option synthInstance.maxHeartbeats 400000
instance l_smp0 : DenI Tryz.prog 27 [R (3 / 10 : Rat), R (2 / 5 : Rat)] True (.tup [R (1 / 3 : Rat), .int .i64 0]) := ⟨fun _ => by
 have h := ((w_smp (3 / 10) (2 / 5)).den (by decide +kernel)).1 (by decide +kernel)
 rw [show smp (3 / 10) (2 / 5) = 1 / 3 by decide +kernel] at h
 exact h⟩

instance l_smp1 : DenI Tryz.prog 27 [R (-5 / 2 : Rat), R (7 / 2 : Rat)] True (.tup [R (0 : Rat), .int .i64 0]) := ⟨fun _ => by
 have h := ((w_smp (-5 / 2) (7 / 2)).den (by decide +kernel)).1 (by decide +kernel)
 rw [show smp (-5 / 2) (7 / 2) = 0 by decide +kernel] at h
 exact h⟩

instance l_smp2 : DenI Tryz.prog 27 [R (2 : Rat), R (3 : Rat)] True (.tup [R (5 / 2 : Rat), .int .i64 0]) := ⟨fun _ => by
 have h := ((w_smp (2) (3)).den (by decide +kernel)).1 (by decide +kernel)
 rw [show smp (2) (3) = 5 / 2 by decide +kernel] at h
 exact h⟩

instance l_sq0 : DenI Tryz.prog 21 [R (9 / 4 : Rat)] True (.tup [R (3 / 2 : Rat), .bool true]) := ⟨fun _ => by
 have h := ((m_sqrt (9 / 4)).den (by decide +kernel)).1 (by decide +kernel)
 rw [show sqR (9 / 4) = 3 / 2 by decide +kernel] at h
 exact h⟩

instance l_sq1 : DenI Tryz.prog 21 [R (2 : Rat)] True (.tup [ZR, .bool false]) := ⟨fun _ => ((m_sqrt 2).den (by decide +kernel)).2 (by decide +kernel)⟩

instance l_awake  : DenI Tryz.prog 12 [] (True) (.bool true) := ⟨fun hp => by
 refine den_of (τ := tab) tab_ok mixed_ Tryz.func12 rfl (by kernel_rfl) (by kernel_rfl) (by kernel_rfl) ?_
 all_goals (repeat' ((try (conv => whnf)); first
  | (with_reducible refine onB_yes (by decide +kernel) ?_)
  | (with_reducible refine onB_no (by decide +kernel) ?_)
  | refine call_0 ?_
  | refine call_i ?_ ?_
  | refine call_c ?_ (fun _ => ?_) (fun _ => ?_)
  | (with_reducible refine onB_t ?_)
  | (with_reducible refine onB_f ?_)
  | (with_reducible refine onB_d (fun _ => ?_) (fun _ => ?_))
  | (with_reducible refine onB_n (fun _ => ?_) (fun _ => ?_))
  | refine OnB.mk (fun _ => ?_) (fun _ => ?_)
  | refine obl_i ?_ ?_
  | refine Drw.mk (by kernel_rfl) ?_
  | refine mks_i ?_ ?_
  | refine slp_i ?_ ?_
  | (with_reducible refine elem_u ?_ ?_)
  | (with_reducible refine elem_0 ?_)
  | (with_reducible refine elem_1 ?_)
  | (with_reducible refine strAt_i ?_ ?_)
  | (with_reducible refine elem_b ?_ ?_)
  | refine Ends.mk ?_))
 all_goals (try refine Pr.mk ?_)
 all_goals (try simp only [sgnI_lt0, sgnI_zero, sgnI_le0, sgnI_gt0, sgnI_ge0, sgnI_eq1, cmpI_lt0, cmpI_gt0, cmpI_eq0, cmpI_le0, cmpI_ge0, cmpR_of, sgnR_of, sgnR_lt0, sgnR_eq0, sgnR_gt0, sgnR_le0, sgnR_ge0, sgnR_eq1, cmpR_lt0, cmpR_gt0, cmpR_eq0, cmpR_le0, cmpR_ge0] at *)
 all_goals first
  | trivial
  | decide +kernel
  | rfl
  | (refine bE ?_; decide +kernel)
  | skip⟩

end Go.Proofs.YtghlkihmnopenaaGreatDoor

namespace Go.Sw
open Go
set_option linter.unusedVariables false
end Go.Sw

namespace Go.Proofs.YtghlkihmnopenaaGreatDoor
open Go Go.RowKit Go.Sw
set_option linter.unusedVariables false
set_option maxRecDepth 100000
set_option maxHeartbeats 8000000
set_option synthInstance.maxSize 4000
set_option synthInstance.maxHeartbeats 400000
instance g_zero  : DenI Tryz.prog 24 [.agg [.v (.bool false), .sl 1 [], .v (.bool false), .sl 1 []]] (True) (.bool true) := ⟨fun hp => by
 refine den_of (τ := tab) tab_ok mixed_ Tryz.func24 rfl (by kernel_rfl) (by kernel_rfl) (by kernel_rfl) ?_
 all_goals (repeat' ((try (conv => whnf)); first
  | refine call_0 ?_
  | refine call_i ?_ ?_
  | refine call_c ?_ (fun _ => ?_) (fun _ => ?_)
  | (with_reducible refine onB_t ?_)
  | (with_reducible refine onB_f ?_)
  | (with_reducible refine onB_d (fun _ => ?_) (fun _ => ?_))
  | (with_reducible refine onB_n (fun _ => ?_) (fun _ => ?_))
  | refine OnB.mk (fun _ => ?_) (fun _ => ?_)
  | refine obl_i ?_ ?_
  | refine Drw.mk (by kernel_rfl) ?_
  | refine mks_i ?_ ?_
  | refine slp_i ?_ ?_
  | (with_reducible refine elem_u ?_ ?_)
  | (with_reducible refine elem_0 ?_)
  | (with_reducible refine elem_1 ?_)
  | refine Ends.mk ?_))
 all_goals (try refine Pr.mk ?_)
 all_goals first
  | rfl
  | (exfalso; simp at *; done)
  | skip⟩

instance g_sm (n1 : Bool) (l1 : List Nat) (n2 : Bool) (l2 : List Nat) (n : Int) : DenI Tryz.prog 58 [Rr n1 l1 n2 l2, .int .i64 n] (n ≤ 1000) (.bool (okr n (n1, l1, n2, l2))) := ⟨fun hp => by
 refine den_of (τ := tab) tab_ok mixed_ Tryz.func58 rfl (by kernel_rfl) (by kernel_rfl) (by kernel_rfl) ?_
 all_goals (repeat' ((try (conv => whnf)); first
  | refine call_0 ?_
  | refine call_i ?_ ?_
  | refine call_c ?_ (fun _ => ?_) (fun _ => ?_)
  | (with_reducible refine onB_t ?_)
  | (with_reducible refine onB_f ?_)
  | (with_reducible refine onB_d (fun _ => ?_) (fun _ => ?_))
  | (with_reducible refine onB_n (fun _ => ?_) (fun _ => ?_))
  | refine OnB.mk (fun _ => ?_) (fun _ => ?_)
  | refine obl_i ?_ ?_
  | refine Drw.mk (by kernel_rfl) ?_
  | refine mks_i ?_ ?_
  | refine slp_i ?_ ?_
  | (with_reducible refine elem_u ?_ ?_)
  | (with_reducible refine elem_0 ?_)
  | (with_reducible refine elem_1 ?_)
  | refine Ends.mk ?_))
 all_goals (try refine Pr.mk ?_)
 all_goals (try simp only [sgnI_lt0, sgnI_zero, sgnI_le0, sgnI_gt0, sgnI_ge0, sgnI_eq1, cmpI_lt0, cmpI_gt0, cmpI_eq0, cmpI_le0, cmpI_ge0, cmpR_of, sgnR_of, sgnR_lt0, sgnR_eq0, sgnR_gt0, sgnR_le0, sgnR_ge0, sgnR_eq1, cmpR_lt0, cmpR_gt0, cmpR_eq0, cmpR_le0, cmpR_ge0] at *)
 all_goals (try simp only [List.length_map, Int.toNat_natCast] at *)
 all_goals first
  | omega
  | (constructor <;> omega)
  | (refine bE ?_; unfold okr; simp_all; done)
  | (rw [okr_1 (k := n) (r := (n1, l1, n2, l2)) (by show (l1.length : Int) > n; omega)]; rfl)
  | (rw [okr_2 (k := n) (r := (n1, l1, n2, l2)) (by show (l2.length : Int) > n; omega)]; rfl)
  | skip⟩

instance g_smi (neg : Bool) (l : List Nat) (n : Int) : DenI Tryz.prog 44 [Zr neg l, .int .i64 n] (n ≤ 1000) (.bool (decide ((l.length : Int) ≤ n) && validL neg l)) := ⟨fun hp => by
 refine den_of (τ := tab) tab_ok mixed_ Tryz.func44 rfl (by kernel_rfl) (by kernel_rfl) (by kernel_rfl) ?_
 all_goals (repeat' ((try (conv => whnf)); first
  | refine call_0 ?_
  | refine call_i ?_ ?_
  | refine call_c ?_ (fun _ => ?_) (fun _ => ?_)
  | (with_reducible refine onB_t ?_)
  | (with_reducible refine onB_f ?_)
  | (with_reducible refine onB_d (fun _ => ?_) (fun _ => ?_))
  | (with_reducible refine onB_n (fun _ => ?_) (fun _ => ?_))
  | refine OnB.mk (fun _ => ?_) (fun _ => ?_)
  | refine obl_i ?_ ?_
  | refine Drw.mk (by kernel_rfl) ?_
  | refine mks_i ?_ ?_
  | refine slp_i ?_ ?_
  | (with_reducible refine elem_u ?_ ?_)
  | (with_reducible refine elem_0 ?_)
  | (with_reducible refine elem_1 ?_)
  | refine Ends.mk ?_))
 all_goals (try refine Pr.mk ?_)
 all_goals (try simp only [sgnI_lt0, sgnI_zero, sgnI_le0, sgnI_gt0, sgnI_ge0, sgnI_eq1, cmpI_lt0, cmpI_gt0, cmpI_eq0, cmpI_le0, cmpI_ge0, cmpR_of, sgnR_of, sgnR_lt0, sgnR_eq0, sgnR_gt0, sgnR_le0, sgnR_ge0, sgnR_eq1, cmpR_lt0, cmpR_gt0, cmpR_eq0, cmpR_le0, cmpR_ge0] at *)
 all_goals (try simp only [List.length_map, Int.toNat_natCast] at *)
 all_goals first
  | omega
  | (constructor <;> omega)
  | (refine bE ?_; simp_all; done)
  | (rw [decide_eq_false (by assumption)]; rfl)
  | skip⟩

end Go.Proofs.YtghlkihmnopenaaGreatDoor

namespace Go.Proofs.YtghlkihmnopenaaGreatDoor
open Go Go.RowKit Go.Sw
set_option linter.unusedVariables false
set_option maxRecDepth 100000
set_option maxHeartbeats 8000000
set_option synthInstance.maxSize 4000
set_option synthInstance.maxHeartbeats 400000
instance g_small (L : List RawR) : DenI Tryz.prog 13 [.c (.sl 4 (L.map rc))] (L.length ≤ 1000) (.bool (L.all (okr 6))) := ⟨fun hp => by
 refine den_of (τ := tab) tab_ok mixed_ Tryz.func13 rfl (by kernel_rfl) (by kernel_rfl) (by kernel_rfl) ?_
 all_goals first
  | ((conv => whnf); refine Sw.Loop.inv (α := Nat) (fun x => [(0, .c (.sl 4 (L.map rc))), (2, .bool false), (5, .c (.sl 4 (L.map rc))), (6, .int .i64 (L.length : Nat)), (7, .int .i64 (x : Nat))]) (fun x => []) (fun x => x ≤ L.length ∧ ∀ j, j < x → okr 6 (L.getD j rd0) = true) (fun x => L.length - x) 0 ?_ ?_ ?_ (fun x hx => ?_))
  | skip
 all_goals (repeat' ((try (conv => whnf)); first
  | refine call_0 ?_
  | refine call_i ?_ ?_
  | (with_reducible refine onB_t ?_)
  | (with_reducible refine onB_f ?_)
  | (with_reducible refine onB_d (fun _ => ?_) (fun _ => ?_))
  | (with_reducible refine onB_n (fun _ => ?_) (fun _ => ?_))
  | refine OnB.mk (fun _ => ?_) (fun _ => ?_)
  | refine obl_i ?_ ?_
  | refine Drw.mk (by kernel_rfl) ?_
  | refine mks_i ?_ ?_
  | refine slp_i ?_ ?_
  | (with_reducible refine elem_u ?_ ?_)
  | (with_reducible refine elem_0 ?_)
  | (with_reducible refine elem_1 ?_)
  | refine elem_map rd0 ?_ ?_
  | refine Ends.mk ?_))
 all_goals (try refine Pr.mk ?_)
 all_goals first | (show SubE _ _; repeat' (first | exact trivial | refine And.intro ?_ ?_)) | (show SubB _ _; repeat' (first | exact trivial | refine And.intro ?_ ?_)) | skip
 all_goals (try rfl)
 all_goals (try simp only [List.length_map, Int.toNat_natCast] at *)
 all_goals first
  | rfl
  | omega
  | exact ⟨Nat.zero_le _, fun j hj => by omega⟩
  | exact bE (all_end hx (by assumption))
  | exact bE (all_bad (x := x) (by omega) (by rename_i g; have g : (!okr 6 (L.getD x rd0)) = true := g; simpa using g))
  | ((conv => whnf); exact ⟨x + 1, ⟨⟨rfl, rfl, rfl, rfl, inc64 (by omega), trivial⟩, ⟨⟩, ⟨by omega, fun j hj => by rcases Nat.lt_succ_iff_lt_or_eq.1 hj with h | h; exact hx.2 j h; subst h; rename_i g; have g : (!okr 6 (L.getD j rd0)) = false := g; simpa using g⟩, by show L.length - (x + 1) < L.length - x; omega⟩⟩)
  | skip⟩

instance (p1 : Bool) (l1 : List Nat) (q1 : Bool) (m1 : List Nat) : DenI Tryz.prog 13 [.c (.sl 4 [[.v (.bool p1), lmc l1, .v (.bool q1), lmc m1]])] True (.bool ((okr 6 (p1, l1, q1, m1)))) := ⟨fun hp => by have h := (inferInstance : DenI Tryz.prog 13 [.c (.sl 4 (List.map rc [(p1, l1, q1, m1)]))] _ _).den (by simp); simpa using h⟩
instance (p1 : Bool) (l1 : List Nat) (q1 : Bool) (m1 : List Nat) (p2 : Bool) (l2 : List Nat) (q2 : Bool) (m2 : List Nat) : DenI Tryz.prog 13 [.c (.sl 4 [[.v (.bool p1), lmc l1, .v (.bool q1), lmc m1], [.v (.bool p2), lmc l2, .v (.bool q2), lmc m2]])] True (.bool ((okr 6 (p1, l1, q1, m1) && (okr 6 (p2, l2, q2, m2))))) := ⟨fun hp => by have h := (inferInstance : DenI Tryz.prog 13 [.c (.sl 4 (List.map rc [(p1, l1, q1, m1), (p2, l2, q2, m2)]))] _ _).den (by simp); simpa using h⟩
instance (p1 : Bool) (l1 : List Nat) (q1 : Bool) (m1 : List Nat) (p2 : Bool) (l2 : List Nat) (q2 : Bool) (m2 : List Nat) (p3 : Bool) (l3 : List Nat) (q3 : Bool) (m3 : List Nat) : DenI Tryz.prog 13 [.c (.sl 4 [[.v (.bool p1), lmc l1, .v (.bool q1), lmc m1], [.v (.bool p2), lmc l2, .v (.bool q2), lmc m2], [.v (.bool p3), lmc l3, .v (.bool q3), lmc m3]])] True (.bool ((okr 6 (p1, l1, q1, m1) && (okr 6 (p2, l2, q2, m2) && (okr 6 (p3, l3, q3, m3)))))) := ⟨fun hp => by have h := (inferInstance : DenI Tryz.prog 13 [.c (.sl 4 (List.map rc [(p1, l1, q1, m1), (p2, l2, q2, m2), (p3, l3, q3, m3)]))] _ _).den (by simp); simpa using h⟩
end Go.Proofs.YtghlkihmnopenaaGreatDoor

namespace Go.Sw
open Go Go.RowKit
set_option linter.unusedVariables false
theorem den_lift {P : Program} (i j : Wld P) (hij : ∀ w, j.ok w → i.ok w) {f : FuncId} {xs : List AV} {r : AV} (h : @Den P i f xs r) : @Den P j f xs r := by
  revert h
  unfold Den
  split
  · exact id
  · exact id
  · exact fun h => ⟨h.1, fun w X vs hW => h.2 w X vs (hij w hW)⟩
/-- A package's variable that holds a map from whole numbers to texts. -/
structure MapSays (P : Program) (t : TypeId) (g : Nat) (f : Int → ByteArray) (w : World) : Prop where
  ex : ∃ bm es clock, w.cell? ⟨g, 0, none⟩ = some (.map (some bm)) ∧ w.heap[bm]? = some (.map es clock) ∧ ∀ w' : World, w'.heap[bm]? = some (.map es clock) → ∀ k : Int, -9223372036854775808 ≤ k → k ≤ 9223372036854775807 → (Instr.lookup t (.map (some bm)) (.int .i64 k) false).run P w' = .ok (.string (f k)) w'
theorem MapSays.keep {P : Program} {t : TypeId} {g : Nat} {f : Int → ByteArray} {w w' : World} (h : MapSays P t g f w) (hb : Below w.heap.size w w') : MapSays P t g f w' := by
  obtain ⟨bm, es, clock, h1, h2, h3⟩ := h.ex
  have hl : bm < w.heap.size := by
    rcases Nat.lt_or_ge bm w.heap.size with h' | h'
    · exact h'
    · rw [Array.getElem?_eq_none h'] at h2; cases h2
  have hg : g < w.heap.size := by
    rcases Nat.lt_or_ge g w.heap.size with h' | h'
    · exact h'
    · simp [World.cell?, Array.getElem?_eq_none h'] at h1
  exact ⟨bm, es, clock, (hb.cell (p := ⟨g, 0, none⟩) hg).trans h1, (hb.block bm hl).trans h2, h3⟩
theorem MapSays.run {P : Program} {t : TypeId} {g : Nat} {f : Int → ByteArray} {w : World} (h : MapSays P t g f w) (k : Int) (h1 : -9223372036854775808 ≤ k) (h2 : k ≤ 9223372036854775807) :
    ∃ bm, w.cell? ⟨g, 0, none⟩ = some (.map (some bm)) ∧ (Instr.lookup t (.map (some bm)) (.int .i64 k) false).run P w = .ok (.string (f k)) w := by
  obtain ⟨bm, es, clock, a, b, c⟩ := h.ex
  exact ⟨bm, a, c w b k h1 h2⟩
end Go.Sw

namespace Go.Proofs.YtghlkihmnopenaaGreatDoor
open Go Go.RowKit Go.Sw Go.Shelf Go.Sort Go.Lib
set_option linter.unusedVariables false
set_option maxRecDepth 100000
set_option maxHeartbeats 8000000
def ndRen : Go.Shelf.Ren := ⟨fun n => if n = 284 then 139 else if n = 317 then 147 else if n = 318 then 149 else if n = 129 then 148 else n, fun n => if n = 46 then 108 else if n = 53 then 75 else if n = 212 then 131 else  n, fun n => if n = 17 then 1 else  n⟩
theorem ndLay0 : Go.Proofs.Lays.n284 Tryz.prog ndRen where
  mixed := mixed_
  f284 := Eq.trans Tryz.func139 (congrArg some (Eq.refl _))
  f317 := Eq.trans Tryz.func147 (congrArg some (Eq.refl _))
  f318 := Eq.trans Tryz.func149 (congrArg some (Eq.refl _))
  f129 := Eq.trans Tryz.func148 (congrArg some (Eq.refl _))
  t0 := Tryz.underlying0
  a0 := Tryz.isAgg0
  z0 := Tryz.sizeOf0
  v0 := Tryz.zeroValue0
  t3 := Tryz.underlying3
  a3 := Tryz.isAgg3
  z3 := Tryz.sizeOf3
  v3 := Tryz.zeroValue3
  t4 := Tryz.underlying4
  a4 := Tryz.isAgg4
  z4 := Tryz.sizeOf4
  v4 := Tryz.zeroValue4
  t5 := Tryz.underlying5
  a5 := Tryz.isAgg5
  z5 := Tryz.sizeOf5
  v5 := Tryz.zeroValue5
  t9 := Tryz.underlying9
  a9 := Tryz.isAgg9
  z9 := Tryz.sizeOf9
  v9 := Tryz.zeroValue9
  t46 := Tryz.underlying108
  a46 := Tryz.isAgg108
  z46 := Tryz.sizeOf108
  v46 := Tryz.zeroValue108
  t53 := Tryz.underlying75
  a53 := Tryz.isAgg75
  z53 := Tryz.sizeOf75
  v53 := Tryz.zeroValue75
  t212 := Tryz.underlying131
  a212 := Tryz.isAgg131
  z212 := Tryz.sizeOf131
  v212 := Tryz.zeroValue131
  g17 := by kernel_rfl
theorem ndLay : Go.Proofs.LaysM.n284 Tryz.prog ndRen where
  ton284 := ndLay0
  i0 := by kernel_rfl
  i3 := by kernel_rfl
  i4 := by kernel_rfl
  i5 := by kernel_rfl
  i9 := by kernel_rfl
  i46 := by kernel_rfl
  i53 := by kernel_rfl
  i212 := by kernel_rfl
  m17 := by kernel_rfl
def fbRen : Go.Shelf.Ren := ⟨fun n => if n = 285 then 140 else n, fun n => if n = 37 then 88 else if n = 51 then 62 else if n = 53 then 75 else  n, fun n =>  n⟩
theorem fbLay0 : Go.Proofs.Lays.n285 Tryz.prog fbRen where
  mixed := mixed_
  f285 := Eq.trans Tryz.func140 (congrArg some (Eq.refl _))
  t0 := Tryz.underlying0
  a0 := Tryz.isAgg0
  z0 := Tryz.sizeOf0
  v0 := Tryz.zeroValue0
  t3 := Tryz.underlying3
  a3 := Tryz.isAgg3
  z3 := Tryz.sizeOf3
  v3 := Tryz.zeroValue3
  t4 := Tryz.underlying4
  a4 := Tryz.isAgg4
  z4 := Tryz.sizeOf4
  v4 := Tryz.zeroValue4
  t5 := Tryz.underlying5
  a5 := Tryz.isAgg5
  z5 := Tryz.sizeOf5
  v5 := Tryz.zeroValue5
  t9 := Tryz.underlying9
  a9 := Tryz.isAgg9
  z9 := Tryz.sizeOf9
  v9 := Tryz.zeroValue9
  t37 := Tryz.underlying88
  a37 := Tryz.isAgg88
  z37 := Tryz.sizeOf88
  v37 := Tryz.zeroValue88
  t51 := Tryz.underlying62
  a51 := Tryz.isAgg62
  z51 := Tryz.sizeOf62
  v51 := Tryz.zeroValue62
  t53 := Tryz.underlying75
  a53 := Tryz.isAgg75
  z53 := Tryz.sizeOf75
  v53 := Tryz.zeroValue75

set_option maxHeartbeats 6400000 in
set_option maxRecDepth 100000 in
theorem fu_walk (u : Nat) (h1 : 100 ≤ u) (hu64 : u < 18446744073709551616) (w : World) (htab : Lib.TabIs Tryz.prog w "internal/strconv.uint64pow10" .u64 Lib.pow10Tab) :
    Calls Tryz.prog 127 #[.int .u64 u, .int .i64 10] w fun e w' => e = .returned (.string ⟨(Lib.decDigits u).toArray⟩) ∧ Below w.heap.size w w' := by
  have hu1 : 1 ≤ u := by omega
  have hlt : ¬((u : Int) < 100) := by omega
  have hnd20 : Lib.nDigits u ≤ 20 := Lib.nDigits_le20 u hu64
  have hal : Tryz.prog.arrayLen 120 = 24 := by kernel_rfl
  have hsl : ∀ W, (Instr.sliceAt 120 (.pointer (some ⟨w.heap.size, 0, none⟩)) none (some (.int .i64 (Lib.nDigits u : Int))) none).run Tryz.prog W = .ok (.slice (some ⟨w.heap.size, 0, none⟩) (Lib.nDigits u) 24) W := fun W => by
    rw [run_sliceAt_array_h W 120 ⟨w.heap.size, 0, none⟩ (by simp [Program.arrayLen, Program.elem, Tryz.underlying120]) .i64 (Lib.nDigits u : Int) (by omega) (by rw [hal]; omega)]
    go_simp
  have hH0 := Lib.holds_zero0 w 120 (Lib.nDigits u) (by omega)
  have hfmt := Any.internal_strconv_formatBase10 fbLay0 w.heap.size 0 24 u (Array.replicate (Lib.nDigits u) 0) (w.alloc (.cells Lib.zeros24 120)) hH0 (by rw [Array.size_replicate]; exact Lib.lt_pow_nDigits u) hu64 (by rw [Array.size_replicate]; omega)
  rw [Array.size_replicate] at hfmt
  have HH0 := Lib.hid hH0
  clear hH0 hal
  go_enter Tryz.func127, Tryz.ntmps127
  go_wp2_with (first
    | (go_at_call 139; refine (Any.internal_strconv_numDigits ndLay u hu1 hu64 _ (Lib.tabIs_alloc htab _)).mono ?_; rintro e w' ⟨rfl, rfl⟩))
  go_at_call 140
  refine hfmt.mono ?_
  rintro e w' ⟨rfl, k, v', dk, rfl, hF⟩
  have hcv : (convert 88 9 (.slice (some ⟨w.heap.size, 0, none⟩) (Lib.nDigits u) 24)).run Tryz.prog ((putRow (fun (b : UInt8) => Value.int .u8 (b.toNat : Int)) (w.alloc (.cells Lib.zeros24 120)) w.heap.size 0 dk).drewN k) = .ok (.string ⟨(Lib.decDigits u).toArray⟩) ((putRow (fun (b : UInt8) => Value.int .u8 (b.toNat : Int)) (w.alloc (.cells Lib.zeros24 120)) w.heap.size 0 dk).drewN k) := by
    have h := run_convert_bytes_back (P := Tryz.prog) ((putRow (fun (b : UInt8) => Value.int .u8 (b.toNat : Int)) (w.alloc (.cells Lib.zeros24 120)) w.heap.size 0 dk).drewN k) 88 9 5 ⟨w.heap.size, 0, none⟩ 24 (Lib.decDigits u) Tryz.underlying88 Tryz.underlying5 Tryz.underlying9 (fun j hj => by
      rw [Lib.row_is_numeral hF j hj, Lib.add_plain, World.cell?_drewN]
      exact cell?_putRow (fun (b : UInt8) => Value.int .u8 (b.toNat : Int)) _ w.heap.size 0 _ dk HH0.out (by rw [hF.size, Array.size_replicate]) j (by rw [hF.size]; rw [Lib.decDigits_length] at hj; exact hj))
    rw [Lib.decDigits_length] at h
    exact h
  go_wp2
  go_ret
  refine ⟨rfl, ?_⟩
  rw [alloc_eq_grow]
  obtain ⟨os', _, e⟩ := putRow_grow_new (fun (b : UInt8) => Value.int .u8 (b.toNat : Int)) w #[.cells Lib.zeros24 120] w.heap.size 0 dk (Nat.le_refl _)
  rw [e]
  exact Lib.below_grow _ w (Nat.le_refl _) k os'

end Go.Proofs.YtghlkihmnopenaaGreatDoor

namespace Go.Sw
open Go Go.RowKit
set_option linter.unusedVariables false
theorem laid_mem {P : Program} {w : World} : ∀ {l : List (String × DataW Unit)} {ps : List MemPlace}, DataW.LaidVars P w l ps → ∀ x ∈ l, ∃ g t cs fuel p, P.globalNamed x.1 = some g ∧ (P.globals[g]?).map (·.type) = some t ∧ w.var? P x.1 = some cs ∧ DataW.trod (fun _ => ()) P w 0 (fun _ => true) false fuel t cs.toList = some (x.2, p)
  | [], _, _, x, hx => by cases hx
  | (n, d) :: r, ps, h, x, hx => by
    obtain ⟨g, t, cs, fuel, p, q, h1, h2, h3, h4, h5, _⟩ := h
    rcases List.mem_cons.1 hx with rfl | hx
    · exact ⟨g, t, cs, fuel, p, h1, h2, h3, h4⟩
    · exact laid_mem h5 x hx
theorem tab_of {P : Program} {W : World} {l : List (String × DataW Unit)} {nm : String} {k : IntKind} {zs : List Int} {g : Nat} {t e : TypeId} (h : laidMet P l W) (hm : (nm, DataW.agg (zs.map fun z => .lit (.int k z))) ∈ l)
    (hg : P.globalNamed nm = some g) (htg : (P.globals[g]?).map (·.type) = some t) (ht : P.underlying t = some (.array zs.length e)) (he : P.underlying e = some (.int k)) (ce : P.cellsOf e = 1) (ct : P.cellsOf t = zs.length) : Lib.TabIs P W nm k zs := by
  obtain ⟨ps, hl, _⟩ := h
  obtain ⟨g0, t0, cs, fuel, p, hg0, ht0, hv, hd⟩ := laid_mem hl _ hm
  obtain rfl := Option.some.inj (hg.symm.trans hg0)
  obtain rfl := Option.some.inj (htg.symm.trans ht0)
  obtain ⟨xs, m, _, ex, hlen, hxl, hel⟩ := DataW.trod_array ht hd
  have e1 : zs.map (fun z => DataW.lit (.int k z)) = xs.map (·.1) := by
    have := (Prod.mk.inj ex).1
    exact DataW.agg.inj this
  unfold Lib.TabIs
  rw [hv]
  congr 1
  apply Array.ext'
  rw [List.toArray]
  show cs.toList = zs.map (Value.int k)
  apply List.ext_getElem
  · rw [hlen, ct, List.length_map]
  · intro i h1 h2
    have hi : i < zs.length := by simpa using h2
    have h3 := hel i hi
    rw [ce, Nat.mul_one] at h3
    have hx : xs[i]? = some xs[i] := List.getElem?_eq_getElem (by omega)
    rw [hx] at h3
    obtain ⟨n, a, b, _⟩ := DataW.trod_int he h3
    have h4 : (zs.map (fun z => DataW.lit (H := Unit) (.int k z)))[i]? = (xs.map (·.1))[i]? := by rw [e1]
    rw [List.getElem?_map, List.getElem?_map, List.getElem?_eq_getElem hi, hx, b] at h4
    simp at h4
    have h5 : cs.toList[i]? = some (.int k n) := by
      have : ((cs.toList.drop i).take 1)[0]? = some (.int k n) := by rw [a]; rfl
      rw [List.getElem?_take, if_pos (by omega), List.getElem?_drop, Nat.add_zero] at this
      exact this
    rw [List.getElem?_eq_getElem h1] at h5
    rw [Option.some.inj h5, List.getElem_map, h4]
theorem tab_keep {P : Program} {w w' : World} {nm : String} {k : IntKind} {zs : List Int} (h : Lib.TabIs P w nm k zs) (hb : Below w.heap.size w w') : Lib.TabIs P w' nm k zs := by
  unfold Lib.TabIs World.var? at h ⊢
  cases hg : P.globalNamed nm with
  | none => rw [hg] at h; cases h
  | some g =>
    rw [hg] at h
    simp only [Option.bind_some] at h ⊢
    have hl : g < w.heap.size := by
      rcases Nat.lt_or_ge g w.heap.size with h' | h'
      · exact h'
      · rw [Array.getElem?_eq_none h'] at h; cases h
    rw [hb.block g hl]
    exact h
end Go.Sw

namespace Go.Sw
open Go Go.Lib
set_option linter.unusedVariables false
/-- The last k digits. -/
def padD : Nat → Nat → List UInt8
  | 0, _ => []
  | k + 1, n => padD k (n / 10) ++ [UInt8.ofNat (48 + n % 10)]
theorem padD_len : ∀ (k n : Nat), (padD k n).length = k
  | 0, _ => rfl
  | k + 1, n => by rw [padD, List.length_append, padD_len k]; rfl
theorem dec_small {n : Nat} (h : n < 10) : decDigits n = [UInt8.ofNat (48 + n)] := by rw [decDigits, dif_pos h]
theorem dec_big {n : Nat} (h : ¬n < 10) : decDigits n = decDigits (n / 10) ++ [UInt8.ofNat (48 + n % 10)] := by rw [decDigits, dif_neg h]
theorem dec_pos (n : Nat) : 0 < (decDigits n).length := by rw [decDigits_length]; exact nDigits_pos n
/-- A number and k digits behind it. -/
theorem dec_pad : ∀ (k a x : Nat), 0 < a → x < 10 ^ k → decDigits (a * 10 ^ k + x) = decDigits a ++ padD k x
  | 0, a, x, ha, hx => by
    have : x = 0 := by simpa using hx
    subst this
    simp [padD]
  | k + 1, a, x, ha, hx => by
    have hp : 10 ^ (k + 1) = 10 ^ k * 10 := Nat.pow_succ 10 k
    have h1 : 0 < 10 ^ k := Nat.pow_pos (by decide)
    have e : a * 10 ^ (k + 1) + x = (a * 10 ^ k) * 10 + x := by rw [hp, Nat.mul_assoc]
    have hge : ¬(a * 10 ^ (k + 1) + x) < 10 := by
      have := Nat.mul_pos ha h1
      omega
    have hd : (a * 10 ^ (k + 1) + x) / 10 = a * 10 ^ k + x / 10 := by omega
    have hm : (a * 10 ^ (k + 1) + x) % 10 = x % 10 := by omega
    rw [dec_big hge, hd, hm, dec_pad k a (x / 10) ha (by omega), padD, List.append_assoc]
/-- k digits, of which some are noughts ahead. -/
theorem pad_dec : ∀ (k n : Nat), 0 < k → n < 10 ^ k → padD k n = List.replicate (k - nDigits n) 48 ++ decDigits n
  | 0, n, hk, _ => absurd hk (by decide)
  | 1, n, _, h => by
    have h : n < 10 := by simpa using h
    rw [nDigits_small h, dec_small h]
    simp [padD, Nat.mod_eq_of_lt h]
  | k + 2, n, _, h => by
    have hp : 10 ^ (k + 2) = 10 ^ (k + 1) * 10 := Nat.pow_succ 10 (k + 1)
    rw [padD, pad_dec (k + 1) (n / 10) (by omega) (by omega)]
    by_cases h10 : n < 10
    · have h0 : n / 10 = 0 := by omega
      rw [h0, nDigits_small h10, nDigits_small (show 0 < 10 by decide), dec_small h10, dec_small (show 0 < 10 by decide), Nat.mod_eq_of_lt h10]
      rw [show k + 2 - 1 = (k + 1 - 1) + 1 by omega, List.replicate_succ']
      rfl
    · rw [nDigits_big h10, dec_big h10, show k + 2 - (nDigits (n / 10) + 1) = k + 1 - nDigits (n / 10) by omega, List.append_assoc]
theorem nDigits_le {k n : Nat} (hk : 0 < k) (h : n < 10 ^ k) : nDigits n ≤ k := by
  have h1 := padD_len k n
  rw [pad_dec k n hk h, List.length_append, List.length_replicate, decDigits_length] at h1
  omega
/-- The digits in two parts. -/
theorem pad_add : ∀ (j k n : Nat), padD (k + j) n = padD k (n / 10 ^ j) ++ padD j n
  | 0, k, n => by simp [padD]
  | j + 1, k, n => by
    show padD (k + j + 1) n = _
    rw [padD, pad_add j k (n / 10), padD, Nat.div_div_eq_div_mul, ← Nat.pow_succ', List.append_assoc]
/-- The first digit of a number is not a nought. -/
theorem dec_head : ∀ (n : Nat), 0 < n → ∃ d r, decDigits n = d :: r ∧ d ≠ 48
  | n, hn => by
    induction n using Nat.strongRecOn with
    | _ n ih =>
      by_cases h : n < 10
      · refine ⟨_, _, dec_small h, fun e => ?_⟩
        have : n = 1 ∨ n = 2 ∨ n = 3 ∨ n = 4 ∨ n = 5 ∨ n = 6 ∨ n = 7 ∨ n = 8 ∨ n = 9 := by omega
        rcases this with rfl | rfl | rfl | rfl | rfl | rfl | rfl | rfl | rfl <;> revert e <;> decide
      · obtain ⟨d, r, h1, h2⟩ := ih (n / 10) (by omega) (by omega)
        exact ⟨d, r ++ [UInt8.ofNat (48 + n % 10)], by rw [dec_big h, h1]; rfl, h2⟩
/-- The text of a whole number. -/
def decS (n : Nat) : ByteArray := ⟨(decDigits n).toArray⟩
def fmtD (n : Int) : ByteArray := ⟨((if n < 0 then [45] else []) ++ decDigits n.natAbs).toArray⟩
end Go.Sw

namespace Go.Proofs.YtghlkihmnopenaaGreatDoor
open Go Go.RowKit Go.Sw Go.Shelf
set_option linter.unusedVariables false
set_option maxRecDepth 100000
set_option maxHeartbeats 8000000
def smRen : Go.Shelf.Ren := ⟨fun n => if n = 283 then 138 else n, fun n =>  n, fun n =>  n⟩
theorem smLay0 : Go.Proofs.Lays.n283 Tryz.prog smRen where
  mixed := mixed_
  f283 := Eq.trans Tryz.func138 (congrArg some (Eq.refl _))
  t3 := Tryz.underlying3
  a3 := Tryz.isAgg3
  z3 := Tryz.sizeOf3
  v3 := Tryz.zeroValue3
  t4 := Tryz.underlying4
  a4 := Tryz.isAgg4
  z4 := Tryz.sizeOf4
  v4 := Tryz.zeroValue4
  t9 := Tryz.underlying9
  a9 := Tryz.isAgg9
  z9 := Tryz.sizeOf9
  v9 := Tryz.zeroValue9

instance (priority := 2000) wls_ : Wld Tryz.prog := ⟨fun w => Lib.TabIs Tryz.prog w "internal/strconv.uint64pow10" .u64 Lib.pow10Tab, fun h hb => tab_keep h hb, [], fun _ _ _ h => by cases h⟩
instance wlift_ {f : FuncId} {xs : List AV} {pre : Prop} {r : AV} [h : @DenI Tryz.prog wld_ f xs pre r] : @DenI Tryz.prog wls_ f xs pre r := ⟨fun hp => den_lift wld_ wls_ (fun _ _ => trivial) (h.den hp)⟩
def tabs : Tab := tab
theorem tabs_ok : @tabOk Tryz.prog wls_ tabs = true := by kernel_rfl
set_option maxHeartbeats 6400000 in
theorem fu_small (u : Nat) (h1 : u < 100) (w : World) : Calls Tryz.prog 127 #[.int .u64 u, .int .i64 10] w fun e w' => e = .returned (.string ⟨(Lib.decDigits u).toArray⟩) ∧ Below w.heap.size w w' := by
  have hlt : (u : Int) < 100 := by omega
  go_enter Tryz.func127, Tryz.ntmps127
  go_wp2_with (go_at_call 138; refine (Any.internal_strconv_small smLay0 u h1 _).mono ?_; rintro e w' ⟨rfl, rfl⟩)
  go_ret
  exact ⟨rfl, Below.refl _ _⟩
theorem fu_all (u : Nat) (hu : u < 18446744073709551616) (w : World) (hW : Wld.ok Tryz.prog w) : Calls Tryz.prog 127 #[.int .u64 u, .int .i64 10] w fun e w' => e = .returned (.string (decS u)) ∧ Below w.heap.size w w' := by
  by_cases h : u < 100
  · exact fu_small u h w
  · exact fu_walk u (by omega) hu w hW
instance t_fu0 (z : Int) : DenI Tryz.prog 127 [.c (.v (.int .u64 z)), .c (.v (.int .i64 10))] (0 ≤ z ∧ z < 18446744073709551616) (.c (.v (.string (decS z.toNat)))) := ⟨fun hp => by
  obtain ⟨n, rfl⟩ := Int.eq_ofNat_of_zero_le hp.1
  refine Den.of ⟨by kernel_rfl, fun w X vs hW hX hl hr => ?_⟩ rfl
  match vs, hl with
  | [u, v], _ =>
  have hu : u = .int .u64 (n : Nat) := by
    have := hr 0 u _ rfl rfl
    cases this with
    | c h => cases h; rfl
  have hv : v = .int .i64 10 := by
    have := hr 1 v _ rfl rfl
    cases this with
    | c h => cases h; rfl
  subst hu hv
  refine Calls.mono (fu_all n (by omega) w hW) ?_
  rintro e w' ⟨rfl, hb⟩
  exact ⟨_, rfl, (RepR.d (.c (.v _ rfl))).f, hb⟩⟩
instance t_fu (z : Int) : DenI Tryz.prog 111 [.int .u64 z, .int .i64 10] (0 ≤ z ∧ z < 18446744073709551616) (.c (.v (.string (decS z.toNat)))) := ⟨fun hp => by
 refine den_of (τ := tabs) tabs_ok mixed_ Tryz.func111 rfl (by kernel_rfl) (by kernel_rfl) (by kernel_rfl) ?_
 all_goals (repeat' ((try (conv => whnf)); first
  | refine call_0 ?_
  | refine call_i ?_ ?_
  | refine call_c ?_ (fun _ => ?_) (fun _ => ?_)
  | (with_reducible refine onB_t ?_)
  | (with_reducible refine onB_f ?_)
  | (with_reducible refine onB_d (fun _ => ?_) (fun _ => ?_))
  | (with_reducible refine onB_n (fun _ => ?_) (fun _ => ?_))
  | refine OnB.mk (fun _ => ?_) (fun _ => ?_)
  | refine obl_i ?_ ?_
  | refine Drw.mk (by kernel_rfl) ?_
  | refine mks_i ?_ ?_
  | refine slp_i ?_ ?_
  | (with_reducible refine elem_u ?_ ?_)
  | (with_reducible refine elem_0 ?_)
  | (with_reducible refine elem_1 ?_)
  | refine Ends.mk ?_))
 all_goals (try refine Pr.mk ?_)
 · exact hp
 · rfl⟩

theorem FUa {m : Nat} (hm : m < 18446744073709551616) (w : World) (hW : Wld.ok Tryz.prog w) : Calls Tryz.prog 111 #[.int .u64 m, .int .i64 10] w fun e w' => e = .returned (.string (decS m)) ∧ Below w.heap.size w w' := by
  have h := ((t_fu (m : Int)).den ⟨by omega, by omega⟩).old rfl
  refine (h.2 w [] [.int .u64 m, .int .i64 10] hW (by simp) rfl (fun i u v hu hv => ?_)).mono ?_
  · match i, hu, hv with
    | 0, hu, hv => simp at hu hv; subst hu hv; exact .c (.v _ rfl)
    | 1, hu, hv => simp at hu hv; subst hu hv; exact .c (.v _ rfl)
  · rintro e w' ⟨u, rfl, hu, hb⟩
    refine ⟨?_, hb⟩
    cases hu.r with
    | d h => cases h with
      | c h => cases h; rfl
end Go.Proofs.YtghlkihmnopenaaGreatDoor

namespace Go.Proofs.YtghlkihmnopenaaGreatDoor
open Go Go.RowKit Go.Sw Go.Shelf
set_option linter.unusedVariables false
set_option maxRecDepth 100000
set_option maxHeartbeats 8000000
def rpRen : Go.Shelf.Ren := ⟨fun n => if n = 99 then 129 else if n = 105 then 112 else if n = 165 then 130 else if n = 166 then 110 else if n = 169 then 113 else if n = 170 then 131 else if n = 206 then 136 else if n = 212 then 128 else if n = 240 then 126 else if n = 241 then 144 else if n = 263 then 142 else if n = 264 then 143 else if n = 276 then 137 else if n = 277 then 152 else n, fun n => if n = 37 then 88 else if n = 46 then 108 else if n = 51 then 62 else if n = 53 then 75 else if n = 70 then 91 else if n = 72 then 93 else if n = 80 then 101 else if n = 75 then 95 else if n = 76 then 97 else if n = 109 then 109 else if n = 127 then 114 else if n = 146 then 125 else if n = 148 then 127 else if n = 164 then 117 else  n, fun n =>  n⟩
theorem rpLay0 : Go.Proofs.Lays.n105 Tryz.prog rpRen where
  mixed := mixed_
  f99 := Eq.trans Tryz.func129 (congrArg some (Eq.refl _))
  f105 := Eq.trans Tryz.func112 (congrArg some (Eq.refl _))
  f165 := Eq.trans Tryz.func130 (congrArg some (Eq.refl _))
  f166 := Eq.trans Tryz.func110 (congrArg some (Eq.refl _))
  f169 := Eq.trans Tryz.func113 (congrArg some (Eq.refl _))
  f170 := Eq.trans Tryz.func131 (congrArg some (Eq.refl _))
  f206 := Eq.trans Tryz.func136 (congrArg some (Eq.refl _))
  f212 := Eq.trans Tryz.func128 (congrArg some (Eq.refl _))
  f240 := Eq.trans Tryz.func126 (congrArg some (Eq.refl _))
  f241 := Eq.trans Tryz.func144 (congrArg some (Eq.refl _))
  f263 := Eq.trans Tryz.func142 (congrArg some (Eq.refl _))
  f264 := Eq.trans Tryz.func143 (congrArg some (Eq.refl _))
  f276 := Eq.trans Tryz.func137 (congrArg some (Eq.refl _))
  f277 := Eq.trans Tryz.func152 (congrArg some (Eq.refl _))
  t0 := Tryz.underlying0
  a0 := Tryz.isAgg0
  z0 := Tryz.sizeOf0
  v0 := Tryz.zeroValue0
  t3 := Tryz.underlying3
  a3 := Tryz.isAgg3
  z3 := Tryz.sizeOf3
  v3 := Tryz.zeroValue3
  t4 := Tryz.underlying4
  a4 := Tryz.isAgg4
  z4 := Tryz.sizeOf4
  v4 := Tryz.zeroValue4
  t5 := Tryz.underlying5
  a5 := Tryz.isAgg5
  z5 := Tryz.sizeOf5
  v5 := Tryz.zeroValue5
  t9 := Tryz.underlying9
  a9 := Tryz.isAgg9
  z9 := Tryz.sizeOf9
  v9 := Tryz.zeroValue9
  t20 := Tryz.underlying20
  a20 := Tryz.isAgg20
  z20 := Tryz.sizeOf20
  v20 := Tryz.zeroValue20
  t37 := Tryz.underlying88
  a37 := Tryz.isAgg88
  z37 := Tryz.sizeOf88
  v37 := Tryz.zeroValue88
  t46 := Tryz.underlying108
  a46 := Tryz.isAgg108
  z46 := Tryz.sizeOf108
  v46 := Tryz.zeroValue108
  t51 := Tryz.underlying62
  a51 := Tryz.isAgg62
  z51 := Tryz.sizeOf62
  v51 := Tryz.zeroValue62
  t53 := Tryz.underlying75
  a53 := Tryz.isAgg75
  z53 := Tryz.sizeOf75
  v53 := Tryz.zeroValue75
  t70 := Tryz.underlying91
  a70 := Tryz.isAgg91
  z70 := Tryz.sizeOf91
  v70 := Tryz.zeroValue91
  t72 := Tryz.underlying93
  a72 := Tryz.isAgg93
  z72 := Tryz.sizeOf93
  v72 := Tryz.zeroValue93
  t75 := Tryz.underlying95
  a75 := Tryz.isAgg95
  z75 := Tryz.sizeOf95
  v75 := Tryz.zeroValue95
  t76 := Tryz.underlying97
  a76 := Tryz.isAgg97
  z76 := Tryz.sizeOf97
  v76 := Tryz.zeroValue97
  t109 := Tryz.underlying109
  a109 := Tryz.isAgg109
  z109 := Tryz.sizeOf109
  v109 := Tryz.zeroValue109
  t127 := Tryz.underlying114
  a127 := Tryz.isAgg114
  z127 := Tryz.sizeOf114
  v127 := Tryz.zeroValue114
  t146 := Tryz.underlying125
  a146 := Tryz.isAgg125
  z146 := Tryz.sizeOf125
  v146 := Tryz.zeroValue125
  t148 := Tryz.underlying127
  a148 := Tryz.isAgg127
  z148 := Tryz.sizeOf127
  v148 := Tryz.zeroValue127
  t164 := Tryz.underlying117
  a164 := Tryz.isAgg117
  z164 := Tryz.sizeOf117
  v164 := Tryz.zeroValue117

theorem rpExt : Builder.Extra Tryz.prog rpRen where
  sizeBuilder := by kernel_rfl
  liesBuilder := by kernel_rfl
  t5 := Tryz.underlying5
  a5 := Tryz.isAgg5
  z5 := Tryz.sizeOf5
  v5 := Tryz.zeroValue5
  infoByte := by kernel_rfl
  cellsByte := by kernel_rfl
  sizeByte := by kernel_rfl
  neB5 := by decide
/-- k noughts. -/
theorem rep0 {k : Nat} (hk : k ≤ 9) (w : World) : Calls Tryz.prog 112 #[.string ⟨#[48]⟩, .int .i64 k] w fun e w' => e = .returned (.string ⟨(List.replicate k (48 : UInt8)).toArray⟩) ∧ Below w.heap.size w w' := by
  refine (Any.strings_Repeat rpLay0 rpExt ⟨#[48]⟩ k w (by omega) (by show 1 * k ≤ _; omega)).mono ?_
  rintro e w' ⟨rfl, hb⟩
  refine ⟨?_, hb⟩
  have : Lib.repeatL [(48 : UInt8)] k = List.replicate k 48 := by
    have : ∀ k : Nat, k ≤ 9 → Lib.repeatL [(48 : UInt8)] k = List.replicate k 48 := by decide +kernel
    exact this k hk
  rw [show (ByteArray.mk #[48]).data.toList = [(48 : UInt8)] from rfl, this]

end Go.Proofs.YtghlkihmnopenaaGreatDoor

namespace Go.Proofs.YtghlkihmnopenaaGreatDoor
open Go Go.RowKit Go.Sw Go.Shelf
set_option linter.unusedVariables false
set_option maxRecDepth 100000
set_option maxHeartbeats 8000000
theorem sizeB_ : (Tryz.prog.info? 93).map (fun i => i.size) = some 2 := by kernel_rfl
theorem liesB_ : liesAt Tryz.prog Tryz.prog.depth 93 (2 / Tryz.prog.cellsOf 93) 0 93 1 = true := by kernel_rfl
theorem cc_used_ (b : Nat) (w : World) (h0 : w.cell? ⟨b, 0, none⟩ = some (.pointer (some ⟨b, 0, none⟩))) :
    Calls Tryz.prog 126 #[.pointer (some ⟨b, 0, none⟩)] w fun e w' => e = .returned (.tuple #[]) ∧ w' = w := by
  obtain ⟨j, hj, _⟩ := Option.map_eq_some_iff.1 sizeB_
  go_enter Tryz.func126, Tryz.ntmps126
  go_wp2
  rw [Lib.run_neq_ptr_same w _ Tryz.underlying91 hj]
  go_wp2
  go_end0
  exact ⟨rfl, rfl⟩
theorem cc_fresh_ (b : Nat) (w : World) (h0 : w.cell? ⟨b, 0, none⟩ = some (.pointer none)) (hsh : w.shape? b = some (93, 2)) (hfz : w.frozen? ⟨b, 0, none⟩ = false) :
    Calls Tryz.prog 126 #[.pointer (some ⟨b, 0, none⟩)] w fun e w' => e = .returned (.tuple #[]) ∧ w' = w.setCell ⟨b, 0, none⟩ (.pointer (some ⟨b, 0, none⟩)) := by
  obtain ⟨j, hj, hjs⟩ := Option.map_eq_some_iff.1 sizeB_
  go_enter Tryz.func126, Tryz.ntmps126
  go_wp2
  rw [Lib.run_to_unsafe w ⟨b, 0, none⟩ Tryz.underlying91 Tryz.underlying117 hj (by rw [hjs]; decide) hsh (Nat.zero_lt_succ 1)]
  simp only [Result.andThen]
  rw [Oper.upon_value]
  go_wp2
  rw [run_callFunc_extern Tryz.func137 (by kernel_rfl) (by kernel_rfl) (by kernel_rfl) (e := Extern.AbiNoEscape.same) (by kernel_rfl)]
  rw [Lib.run_noEscape]
  simp only [Result.andThen]
  rw [Oper.upon_value]
  go_wp2
  rw [Lib.run_from_unsafe w ⟨b, 0, none⟩ Tryz.underlying117 Tryz.underlying91 hj hsh liesB_]
  simp only [Result.andThen]
  rw [Oper.upon_value]
  go_wp2
  go_end0
  exact ⟨rfl, rfl⟩
theorem cc_ (B b : Nat) (bs : List Value) (w : World) (h : Lib.IsBuilder 93 5 B b bs w) :
    Calls Tryz.prog 126 #[.pointer (some ⟨b, 0, none⟩)] w fun e w' => e = .returned (.tuple #[]) ∧ (Lib.BuilderAt 93 5 B b (.pointer (some ⟨b, 0, none⟩)) bs w' ∧ Below B w w') := by
  rcases h with h | h
  · refine (cc_fresh_ b w h.cell0 h.shape h.frozen0).mono ?_
    rintro e w' ⟨rfl, rfl⟩
    exact ⟨rfl, h.used _, (Below.refl B w).setCell (p := ⟨b, 0, none⟩) h.1 _⟩
  · refine (cc_used_ b w h.cell0).mono ?_
    rintro e w' ⟨rfl, rfl⟩
    exact ⟨rfl, h, Below.refl _ _⟩
theorem info5_ : ∃ i0, Tryz.prog.info? 5 = some i0 ∧ i0.zero = some (.int .u8 0) ∧ i0.size = 1 ∧ i0.bytes = 1 := info_parts (by kernel_rfl)
theorem liesAt93_ (w : World) {b : Nat} {x y : Value} (h : w.heap[b]? = some (.cells #[x, y] 93 (0, 0))) : b < w.heap.size := by
  rcases Nat.lt_or_ge b w.heap.size with h' | h'
  · exact h'
  · simp [Array.getElem?_eq_none h'] at h
theorem wb_ (B b : Nat) (bs : List Value) (c : Int) (w : World) (h : Lib.IsBuilder 93 5 B b bs w) (hlen : bs.length + 1 ≤ 1000000) (hBw : B ≤ w.heap.size) :
    Calls Tryz.prog 109 #[.pointer (some ⟨b, 0, none⟩), .int .u8 c] w fun e w' => e = .returned .nilIface ∧ (Lib.BuilderAt 93 5 B b (.pointer (some ⟨b, 0, none⟩)) (bs ++ [.int .u8 c]) w' ∧ Below B w w') := by
  obtain ⟨i0, hi, hz0, hz1, hz2⟩ := info5_
  go_enter Tryz.func109, Tryz.ntmps109
  go_wp2_with (go_at_call 126; refine (cc_ B b bs _ h).mono ?_)
  rintro e w1 ⟨rfl, h1, hb1⟩
  obtain ⟨hB, v, hbk, hown, hne⟩ := h1
  have c0 : w1.cell? ⟨b, 0, none⟩ = some (.pointer (some ⟨b, 0, none⟩)) := by rw [Lib.cell_of_heap hbk]; rfl
  have c1 : w1.cell? ⟨b, 1, none⟩ = some v := by rw [Lib.cell_of_heap hbk]; rfl
  go_wp2_with (at_builtin; refine wpList_append_own _ rfl _ _ 88 rfl B 5 i0 (.int .u8 0) 1 1 Tryz.underlying88 hi hz0 hz1 hz2 rfl (by decide) _ _ _ rfl (hown.alloc _) ⟨w1.heap.size, 0, none⟩ 1 1 [.int .u8 c] rfl rfl ?c1 ?c2 ?c3 ?c4 ?c5 ?_)
  case c1 =>
    intro j u hj
    match j, hj with
    | 0, hj => simp at hj; subst hj; simp [Addr.add]
  case c2 => intro u hu; simp at hu; subst hu; rfl
  case c3 => unfold maxLen; omega
  case c4 => omega
  case c5 => have := hb1.size; simp; omega
  intro v' w2 hown' hgrow _
  have hlt := liesAt93_ w1 hbk
  have hb2 : w2.heap[b]? = some (.cells #[.pointer (some ⟨b, 0, none⟩), v] 93 (0, 0)) := by
    rw [hgrow.block b (by simp; omega) (fun e => hne e.symm), Lib.alloc_old w1 _ b hlt]
    exact hbk
  have d0 : w2.cell? ⟨b, 0, none⟩ = some (.pointer (some ⟨b, 0, none⟩)) := by rw [Lib.cell_of_heap hb2]; rfl
  have d1 : w2.cell? ⟨b, 1, none⟩ = some v := by rw [Lib.cell_of_heap hb2]; rfl
  have f1 : w2.frozen? ⟨b, 1, none⟩ = false := Lib.frozen_of_heap hb2 1
  obtain ⟨g, cap, rfl⟩ : ∃ g cap, v' = .slice (some ⟨g, 0, none⟩) (bs.length + 1) cap := by
    rcases hown'.2 with ⟨_, h0⟩ | ⟨g, cap, cur, hv, _⟩
    · omega
    · exact ⟨g, cap, hv⟩
  go_wp2
  go_ret
  refine ⟨rfl, ?_, ?_⟩
  · exact Lib.BuilderAt.put (T := 93) (e := 5) hB hb2 (bs' := bs ++ [.int .u8 c]) (by simpa using hown') (by decide)
  · exact ((hb1.alloc (by have := hb1.size; omega) _).grown hgrow (by have := hb1.size; simp; omega) (fun k hk => (hown.lt k hk).1)).setCell (p := ⟨b, 1, none⟩) hB _
theorem ws_ (B b : Nat) (bs : List Value) (s : ByteArray) (w : World) (h : Lib.IsBuilder 93 5 B b bs w) (hlen : bs.length + s.size ≤ 1000000) (hBw : B ≤ w.heap.size) :
    Calls Tryz.prog 110 #[.pointer (some ⟨b, 0, none⟩), .string s] w fun e w' => e = .returned (.tuple #[.int .i64 s.size, .nilIface]) ∧ (Lib.BuilderAt 93 5 B b (.pointer (some ⟨b, 0, none⟩)) (bs ++ Lib.strCells s) w' ∧ Below B w w') := by
  obtain ⟨i0, hi, hz0, hz1, hz2⟩ := info5_
  go_enter Tryz.func110, Tryz.ntmps110
  go_wp2_with (go_at_call 126; refine (cc_ B b bs _ h).mono ?_)
  rintro e w1 ⟨rfl, h1, hb1⟩
  obtain ⟨hB, v, hbk, hown, hne⟩ := h1
  have c0 : w1.cell? ⟨b, 0, none⟩ = some (.pointer (some ⟨b, 0, none⟩)) := by rw [Lib.cell_of_heap hbk]; rfl
  have c1 : w1.cell? ⟨b, 1, none⟩ = some v := by rw [Lib.cell_of_heap hbk]; rfl
  go_wp2_with (at_builtin; refine Lib.wpList_append_own_string _ rfl _ _ 88 9 rfl B 5 i0 Tryz.underlying88 Tryz.underlying9 hi hz0 hz1 hz2 _ _ _ rfl hown s rfl ?c3 ?c4 ?c5 ?_)
  case c3 => unfold maxLen; omega
  case c4 => omega
  case c5 => have := hb1.size; omega
  intro v' w2 hown' hgrow _
  have hlt := liesAt93_ w1 hbk
  have hb2 : w2.heap[b]? = some (.cells #[.pointer (some ⟨b, 0, none⟩), v] 93 (0, 0)) := by
    rw [hgrow.block b hlt (fun e => hne e.symm)]
    exact hbk
  have d0 : w2.cell? ⟨b, 0, none⟩ = some (.pointer (some ⟨b, 0, none⟩)) := by rw [Lib.cell_of_heap hb2]; rfl
  have d1 : w2.cell? ⟨b, 1, none⟩ = some v := by rw [Lib.cell_of_heap hb2]; rfl
  have f1 : w2.frozen? ⟨b, 1, none⟩ = false := Lib.frozen_of_heap hb2 1
  obtain ⟨ao, n', cap, rfl⟩ : ∃ ao n' cap, v' = .slice ao n' cap := by
    rcases hown'.2 with ⟨hv, _⟩ | ⟨g, cap, cur, hv, _⟩
    · exact ⟨_, _, _, hv⟩
    · exact ⟨_, _, _, hv⟩
  go_wp2
  go_ret2
  refine ⟨rfl, ?_, ?_⟩
  · exact Lib.BuilderAt.put (T := 93) (e := 5) hB hb2 (bs' := bs ++ Lib.strCells s) (by simpa [Lib.strCells_length] using hown') (by decide)
  · exact (hb1.grown hgrow (by have := hb1.size; omega) (fun k hk => (hown.lt k hk).1)).setCell (p := ⟨b, 1, none⟩) hB _
def ren169_ : Ren where
  f := fun x => match x with | 169 => 113 | n => n
  t := fun x => match x with | 70 => 91 | 9 => 9 | 0 => 0 | 72 => 93 | 37 => 88 | 127 => 114 | 3 => 3 | 5 => 5 | n => n
  g := fun x => x
theorem lays169_ : Lays.n169 Tryz.prog ren169_ where
  mixed := by kernel_rfl
  f169 := Eq.trans Tryz.func113 (congrArg some (Eq.refl (Body.n169 ren169_)))
  t0 := Tryz.underlying0
  a0 := Tryz.isAgg0
  z0 := Tryz.sizeOf0
  v0 := Tryz.zeroValue0
  t3 := Tryz.underlying3
  a3 := Tryz.isAgg3
  z3 := Tryz.sizeOf3
  v3 := Tryz.zeroValue3
  t9 := Tryz.underlying9
  a9 := Tryz.isAgg9
  z9 := Tryz.sizeOf9
  v9 := Tryz.zeroValue9
  t37 := Tryz.underlying88
  a37 := Tryz.isAgg88
  z37 := Tryz.sizeOf88
  v37 := Tryz.zeroValue88
  t70 := Tryz.underlying91
  a70 := Tryz.isAgg91
  z70 := Tryz.sizeOf91
  v70 := Tryz.zeroValue91
  t72 := Tryz.underlying93
  a72 := Tryz.isAgg93
  z72 := Tryz.sizeOf93
  v72 := Tryz.zeroValue93
  t127 := Tryz.underlying114
  a127 := Tryz.isAgg114
  z127 := Tryz.sizeOf114
  v127 := Tryz.zeroValue114
theorem ext169_ : Builder.Extra Tryz.prog ren169_ where
  sizeBuilder := by kernel_rfl
  liesBuilder := by kernel_rfl
  t5 := Tryz.underlying5
  a5 := Tryz.isAgg5
  z5 := Tryz.sizeOf5
  v5 := Tryz.zeroValue5
  infoByte := by kernel_rfl
  cellsByte := by kernel_rfl
  sizeByte := by kernel_rfl
  neB5 := by decide
theorem al_size_ (w : World) (o : Obj) : (w.alloc o).heap.size = w.heap.size + 1 := by simp [World.alloc, -World.alloc_eq]
theorem al_new_ (w : World) (o : Obj) : (w.alloc o).heap[w.heap.size]? = some o := by simp [World.alloc, -World.alloc_eq]
theorem fmt_prep_ {w w1 : World} {x y : Array Value} {s t : TypeId} (hb : Below ((w.alloc (.cells x s)).alloc (.cells y t)).heap.size ((w.alloc (.cells x s)).alloc (.cells y t)) w1) :
    w1.heap[w.heap.size]? = some (.cells x s (0, 0)) ∧ w1.heap[w.heap.size + 1]? = some (.cells y t (0, 0)) ∧ Below w.heap.size w w1 ∧ w.heap.size + 2 ≤ w1.heap.size := by
  have e1 := al_size_ w (.cells x s)
  have e2 := al_size_ (w.alloc (.cells x s)) (.cells y t)
  refine ⟨?_, ?_, ⟨hb.os, hb.tape, hb.output, ?_, fun k hk => ?_⟩, ?_⟩
  · rw [hb.block _ (by omega), Lib.alloc_old _ _ _ (by omega), al_new_]
  · rw [hb.block _ (by omega), ← e1, al_new_]
  · have := hb.size; omega
  · rw [hb.block k (by omega), Lib.alloc_old _ _ _ (by omega), Lib.alloc_old _ _ _ hk]
  · have := hb.size; omega
theorem cell_hdr_ {w2 : World} {g : Nat} {x y : Value} {t : TypeId} (h : w2.heap[g]? = some (.cells #[x, y] t (0, 0))) : w2.cell? ⟨g, 1, none⟩ = some y := by
  rw [Lib.cell_of_heap h]; rfl
theorem heap_lt_ {w : World} {b : Nat} {o : Obj} (h : w.heap[b]? = some o) : b < w.heap.size := by
  rcases Nat.lt_or_ge b w.heap.size with h' | h'
  · exact h'
  · simp [Array.getElem?_eq_none h'] at h
theorem bld_below_ {w w' : World} {T e : TypeId} {B b : Nat} {p : Value} {bs : List Value} (h : Lib.BuilderAt T e B b p bs w) (hb : Below w.heap.size w w') : Lib.BuilderAt T e B b p bs w' := by
  obtain ⟨h1, v, h2, h3, h4⟩ := h
  refine ⟨h1, v, by rw [hb.block b (heap_lt_ h2)]; exact h2, ⟨h3.1, ?_⟩, h4⟩
  rcases h3.2 with h | ⟨g, cap, cur, k1, k2, k3, k4⟩
  · exact .inl h
  · exact .inr ⟨g, cap, cur, k1, k2, by rw [hb.block g (heap_lt_ k3)]; exact k3, k4⟩

end Go.Proofs.YtghlkihmnopenaaGreatDoor

namespace Go.Sw
open Go Go.Lib
set_option linter.unusedVariables false
/-- Digits as numbers. -/
def dgl (n : Nat) : List Nat := (decDigits n).map fun b => b.toNat
theorem dg_nat {k : Nat} (h : k < 10) : (UInt8.ofNat (48 + k)).toNat = 48 + k := by
  have : k = 0 ∨ k = 1 ∨ k = 2 ∨ k = 3 ∨ k = 4 ∨ k = 5 ∨ k = 6 ∨ k = 7 ∨ k = 8 ∨ k = 9 := by omega
  rcases this with rfl | rfl | rfl | rfl | rfl | rfl | rfl | rfl | rfl | rfl <;> rfl
theorem dgl_small {n : Nat} (h : n < 10) : dgl n = [48 + n] := by unfold dgl; rw [dec_small h, List.map_cons, dg_nat h]; rfl
theorem dgl_big {n : Nat} (h : ¬n < 10) : dgl n = dgl (n / 10) ++ [48 + n % 10] := by
  unfold dgl; rw [dec_big h, List.map_append, List.map_cons, dg_nat (Nat.mod_lt _ (by decide))]; rfl
theorem dgl_val (n : Nat) : decV (dgl n) = n := by
  induction n using Nat.strongRecOn with
  | _ n ih =>
    by_cases h : n < 10
    · rw [dgl_small h]; simp [decV]
    · rw [dgl_big h, decV_snoc, ih (n / 10) (by omega)]; omega
theorem dgl_dg (n : Nat) : ∀ c ∈ dgl n, 48 ≤ c ∧ c ≤ 57 := by
  induction n using Nat.strongRecOn with
  | _ n ih =>
    intro c hc
    by_cases h : n < 10
    · rw [dgl_small h] at hc; simp at hc; omega
    · rw [dgl_big h] at hc
      rcases List.mem_append.1 hc with g | g
      · exact ih (n / 10) (by omega) c g
      · simp at g; omega
theorem dgl_len (n : Nat) : (dgl n).length = nDigits n := by unfold dgl; rw [List.length_map, decDigits_length]
theorem dgl_head {n : Nat} (h : 0 < n) : (dgl n).getD 0 0 ≠ 48 := by
  obtain ⟨d, r, h1, h2⟩ := dec_head n h
  unfold dgl
  rw [h1]
  show d.toNat ≠ 48
  intro e
  exact h2 (UInt8.toNat_inj.1 (by rw [e]; rfl))
/-- The number that digits stand for has these digits, if the first is no nought. -/
theorem dgl_of : ∀ (l : List Nat), (∀ c ∈ l, 48 ≤ c ∧ c ≤ 57) → 0 < l.length → (l.getD 0 0 = 48 → l.length = 1) → dgl (decV l) = l := by
  intro l
  induction hn : l.length using Nat.strongRecOn generalizing l with
  | _ n ih =>
    intro hd h0 hz
    obtain ⟨a, c, rfl⟩ : ∃ a c, l = a ++ [c] := ⟨l.dropLast, l.getLast (by intro e; subst e; simp at hn; omega), (List.dropLast_concat_getLast _).symm⟩
    have hc := hd c (by simp)
    rw [List.length_append, List.length_singleton] at hn
    rw [decV_snoc]
    by_cases ha : a = []
    · subst ha
      rw [show 10 * decV [] + (c - 48) = c - 48 by simp [decV], dgl_small (by omega)]
      simp; omega
    · have hal : 0 < a.length := List.length_pos_iff.2 ha
      have hg : (a ++ [c]).getD 0 0 = a.getD 0 0 := by
        cases a with
        | nil => exact absurd rfl ha
        | cons x r => rfl
      have hnz : a.getD 0 0 ≠ 48 := fun e => by
        have := hz (by rw [hg]; exact e)
        omega
      have i := ih a.length (by omega) a rfl (fun x hx => hd x (by simp [hx])) hal (fun e => absurd e hnz)
      have hp : 0 < decV a := by
        refine Nat.pos_of_ne_zero fun e => hnz ?_
        rw [← i, e, dgl_small (by decide)]; rfl
      rw [dgl_big (by omega), show (10 * decV a + (c - 48)) / 10 = decV a by omega, i, show (10 * decV a + (c - 48)) % 10 = c - 48 by omega, show 48 + (c - 48) = c by omega]
theorem bsL_mk (l : List UInt8) : bsL ⟨l.toArray⟩ = l.map fun b => b.toNat := rfl
theorem bsL_fmt (n : Int) : bsL (fmtD n) = (if n < 0 then [45] else []) ++ dgl n.natAbs := by
  unfold fmtD
  rw [bsL_mk, List.map_append]
  congr 1
  split <;> rfl
theorem pfx_iff (s : ByteArray) : pfx s mB = decide ((bsL s).take 1 = [45]) := by
  unfold pfx
  rw [show bsL mB = [45] from rfl, show mB.size = 1 from rfl]
  by_cases h : (bsL s).take 1 = [45]
  · have : 1 ≤ s.size := by
      rw [← bsL_len]
      have := congrArg List.length h
      rw [List.length_take, List.length_singleton] at this
      omega
    rw [decide_eq_true h, decide_eq_true this]; rfl
  · rw [decide_eq_false h, Bool.and_false]
theorem bsL_cut (s : ByteArray) : bsL (cutP s mB) = if pfx s mB = true then (bsL s).drop 1 else bsL s := by
  unfold cutP
  split
  · rw [bsL_ext, show s.size = (bsL s).length from (bsL_len s).symm, List.take_length]; rfl
  · rfl
theorem dgl_ne (n : Nat) : (dgl n).take 1 ≠ [45] := by
  intro e
  have h : 45 ∈ dgl n := List.mem_of_mem_take (i := 1) (by rw [e]; exact List.mem_singleton.2 rfl)
  have := (dgl_dg n 45 h).1
  omega
theorem pfx_fmt (n : Int) : pfx (fmtD n) mB = decide (n < 0) := by
  rw [pfx_iff, bsL_fmt]
  by_cases h : n < 0
  · rw [if_pos h, decide_eq_true h]; rfl
  · rw [if_neg h, decide_eq_false h, List.nil_append]
    exact decide_eq_false (dgl_ne _)
theorem cut_fmt (n : Int) : bsL (cutP (fmtD n) mB) = dgl n.natAbs := by
  rw [bsL_cut, pfx_fmt, bsL_fmt]
  by_cases h : n < 0
  · rw [decide_eq_true h, if_pos rfl, if_pos h]; rfl
  · rw [decide_eq_false h, if_neg (by decide), if_neg h, List.nil_append]
theorem fmtD_size (n : Int) : (fmtD n).size = (if n < 0 then 1 else 0) + nDigits n.natAbs := by
  rw [← bsL_len, bsL_fmt, List.length_append, dgl_len]
  congr 1
  split <;> rfl
theorem okI_fmt {n : Int} (h : (fmtD n).size ≤ 65536) : okI (fmtD n) = true := by
  have hl : (cutP (fmtD n) mB).size = nDigits n.natAbs := by rw [← bsL_len, cut_fmt, dgl_len]
  have hp := nDigits_pos n.natAbs
  unfold okI
  rw [cut_fmt, hl, pfx_fmt, decide_eq_true (show 0 < nDigits n.natAbs by omega), decide_eq_true h]
  have h1 : (∀ j, j < nDigits n.natAbs → dgt (dgl n.natAbs) j) := fun j hj => by
    have := dgl_dg n.natAbs ((dgl n.natAbs).getD j 0) (by
      rw [List.getD_eq_getElem?_getD, List.getElem?_eq_getElem (by rw [dgl_len]; exact hj)]
      exact List.getElem_mem _)
    exact this
  rw [decide_eq_true h1]
  by_cases h0 : n.natAbs = 0
  · have : n = 0 := by omega
    subst this
    rw [nDigits_small (show (0 : Int).natAbs < 10 by decide)]
    simp
  · rw [decide_eq_false (dgl_head (by omega))]; simp
theorem parN_fmt {n : Int} (h : (fmtD n).size ≤ 65536) : parN (fmtD n) = n := by
  unfold parN
  rw [okI_fmt h, if_pos rfl, pfx_fmt, cut_fmt, dgl_val]
  exact sgnv_of n
theorem parE_fmt {n : Int} (h : (fmtD n).size ≤ 65536) : parE (fmtD n) = 0 := by
  unfold parE
  rw [okI_fmt h, if_pos rfl]
/-- What is read is written again. -/
theorem fmt_par {s : ByteArray} (h : okI s = true) : fmtD (parN s) = s := by
  have ho := h
  unfold okI at h
  simp only [Bool.and_eq_true, decide_eq_true_eq, Bool.not_eq_true', decide_eq_false_iff_not, Bool.or_eq_true, Bool.and_eq_false_iff, Bool.or_eq_false_iff] at h
  obtain ⟨h1, h2, h3, h4⟩ := h
  have hd : ∀ c ∈ bsL (cutP s mB), 48 ≤ c ∧ c ≤ 57 := fun c hc => by
    obtain ⟨j, hj, e⟩ := List.getElem_of_mem hc
    have := h4 j (by rwa [bsL_len] at hj)
    unfold dgt at this
    rw [List.getD_eq_getElem?_getD, List.getElem?_eq_getElem hj, e] at this
    exact this
  have hlen := bsL_len (cutP s mB)
  have e := dgl_of (bsL (cutP s mB)) hd (by omega) (fun e0 => by
    rcases h3 with h3 | h3
    · exact absurd e0 h3
    · have := h3.1
      omega)
  apply bsL_inj
  unfold parN
  rw [ho, if_pos rfl, bsL_fmt, natAbs_sgnv, e]
  have hz : pfx s mB = true → 0 < decV (bsL (cutP s mB)) := fun hp => by
    refine Nat.pos_of_ne_zero fun e0 => ?_
    rw [e0, dgl_small (by decide)] at e
    rcases h3 with h3 | h3
    · exact h3 (by rw [← e]; rfl)
    · rw [hp] at h3; exact absurd h3.2 (by decide)
  clear e h4 hd h3 hlen h1
  have hc := bsL_cut s
  generalize decV (bsL (cutP s mB)) = D at hz ⊢
  rw [hc]
  cases hp : pfx s mB with
  | false =>
    rw [if_neg (show ¬sgnv false D < 0 by unfold sgnv; simp), if_neg (by decide)]; rfl
  | true =>
    have hz := hz hp
    rw [if_pos (show sgnv true D < 0 by unfold sgnv; simp; omega), if_pos rfl]
    rw [pfx_iff] at hp
    have hp := of_decide_eq_true hp
    cases hb : bsL s with
    | nil => rw [hb] at hp; cases hp
    | cons x r => rw [hb] at hp; simp at hp; subst hp; rfl
end Go.Sw

namespace Go.Sw
open Go Go.Lib
set_option linter.unusedVariables false
/-- The text of a fraction. -/
def fmtQ (q : Rat) : ByteArray := if (q.den : Int) = 1 then fmtD q.num else fmtD q.num ++ sB ++ fmtD q.den
theorem bsL_app (a b : ByteArray) : bsL (a ++ b) = bsL a ++ bsL b := by
  unfold bsL
  rw [ByteArray.data_append, Array.toList_append, List.map_append]
/-- The place of the first byte c, or the length. -/
def fst47 (l : List Nat) : Nat := l.findIdx fun c => c == 47
theorem ix_fst (l : List UInt8) : indexByte l 47 = (if fst47 (l.map fun b => b.toNat) < l.length then ((fst47 (l.map fun b => b.toNat) : Nat) : Int) else -1) := by
  induction l with
  | nil => rfl
  | cons b r ih =>
    unfold indexByte fst47
    rw [List.map_cons, List.findIdx_cons]
    by_cases hb : b = 47
    · subst hb; simp
    · have h1 : (b == 47) = false := by simpa using hb
      have h2 : (b.toNat == 47) = false := by
        rw [beq_eq_false_iff_ne]
        exact fun e => hb (UInt8.toNat_inj.1 e)
      rw [if_neg (by rw [h1]; decide), h2, ih]
      show (if (if fst47 (r.map fun b => b.toNat) < r.length then ((fst47 (r.map fun b => b.toNat) : Nat) : Int) else -1) == -1 then -1 else _) = _
      unfold fst47
      simp only [List.length_cons, cond_false]
      by_cases h : List.findIdx (fun c => c == 47) (r.map fun b => b.toNat) < r.length
      · rw [if_pos h, if_neg (by simp <;> omega), if_pos (by omega)]; omega
      · rw [if_neg h, if_pos (by decide), if_neg (by omega)]
theorem ixS_fst (s : ByteArray) : ixS s sB = if fst47 (bsL s) < s.size then ((fst47 (bsL s) : Nat) : Int) else -1 := by
  unfold ixS
  by_cases h : bsL sB = bsL s
  · rw [if_pos h, ← h, show fst47 (bsL sB) = 0 from rfl]
    have : s.size = 1 := by rw [← bsL_len, ← h]; rfl
    rw [if_pos (by omega)]; rfl
  · rw [if_neg h]
    unfold ixB
    rw [show (((bsL sB).getD 0 0 : Nat) : Int).toNat.toUInt8 = 47 from rfl, ix_fst]
    have : s.data.toList.length = s.size := rfl
    rw [this]; rfl
theorem fst_app {a b : List Nat} (h : ∀ c ∈ a, c ≠ 47) : fst47 (a ++ 47 :: b) = a.length := by
  unfold fst47
  induction a with
  | nil => rfl
  | cons x r ih =>
    have hx := h x (by simp)
    rw [List.cons_append, List.findIdx_cons, show (x == 47) = false by simpa using hx]
    simp only [cond_false]
    rw [ih fun c hc => h c (by simp [hc])]; rfl
theorem fst_none {a : List Nat} (h : ∀ c ∈ a, c ≠ 47) : fst47 a = a.length := by
  unfold fst47
  rw [List.findIdx_eq_length]
  intro x hx
  simpa using h x hx
theorem fmt_no47 (n : Int) : ∀ c ∈ bsL (fmtD n), c ≠ 47 := by
  intro c hc
  rw [bsL_fmt] at hc
  rcases List.mem_append.1 hc with g | g
  · split at g
    · simp at g; omega
    · simp at g
  · have := dgl_dg _ c g; omega
/-- The parts ahead of and behind the first slash. -/
theorem ctA_fst (s : ByteArray) : ctA s sB = s.extract 0 (min (fst47 (bsL s)) s.size) := by
  unfold ctA
  rw [ixS_fst]
  by_cases h : fst47 (bsL s) < s.size
  · rw [if_pos h, if_pos (by omega), Int.toNat_natCast, Nat.min_eq_left (by omega)]
  · rw [if_neg h, if_neg (by decide), Nat.min_eq_right (by omega)]
    apply bsL_inj
    rw [bsL_ext, ← bsL_len, List.take_length]; rfl
theorem ctB_fst {s : ByteArray} (h : fst47 (bsL s) < s.size) : ctB s sB = s.extract (fst47 (bsL s) + 1) s.size := by
  unfold ctB
  rw [ixS_fst, if_pos h, if_pos (by omega)]
  congr 1
theorem ct_y2 {a b : ByteArray} (h : ∀ c ∈ bsL a, c ≠ 47) : ixS (a ++ sB ++ b) sB = (a.size : Nat) ∧ ctA (a ++ sB ++ b) sB = a ∧ ctB (a ++ sB ++ b) sB = b := by
  have e : bsL (a ++ sB ++ b) = bsL a ++ 47 :: bsL b := by rw [bsL_app, bsL_app, List.append_assoc]; rfl
  have f : fst47 (bsL (a ++ sB ++ b)) = a.size := by rw [e, fst_app h, bsL_len]
  have z : (a ++ sB ++ b).size = a.size + 1 + b.size := by rw [ByteArray.size_append, ByteArray.size_append]; rfl
  have zl := bsL_len a
  refine ⟨?_, ?_, ?_⟩
  · rw [ixS_fst, f, if_pos (by omega)]
  · rw [ctA_fst, f, Nat.min_eq_left (by omega)]
    apply bsL_inj
    rw [bsL_ext, e, List.drop_zero, ← zl, List.take_left]
  · rw [ctB_fst (by omega), f]
    apply bsL_inj
    rw [bsL_ext, show (a ++ sB ++ b).size = (bsL (a ++ sB ++ b)).length from (bsL_len _).symm, List.take_length, e, ← zl, show bsL a ++ 47 :: bsL b = (bsL a ++ [47]) ++ bsL b by simp, List.drop_left' (by simp)]
theorem ct_n2 {a : ByteArray} (h : ∀ c ∈ bsL a, c ≠ 47) : ixS a sB = -1 ∧ ctA a sB = a := by
  have f := fst_none h
  rw [bsL_len] at f
  constructor
  · rw [ixS_fst, f, if_neg (by omega)]
  · rw [ctA_fst, f, Nat.min_self]
    apply bsL_inj
    rw [bsL_ext, ← bsL_len, List.take_length]; rfl
theorem ct_back {s : ByteArray} (h : 0 ≤ ixS s sB) : s = ctA s sB ++ sB ++ ctB s sB := by
  have hf : fst47 (bsL s) < s.size := by
    rw [ixS_fst] at h
    by_cases g : fst47 (bsL s) < s.size
    · exact g
    · rw [if_neg g] at h; exact absurd h (by decide)
  have hl := bsL_len s
  apply bsL_inj
  rw [bsL_app, bsL_app, ctA_fst, ctB_fst hf, bsL_ext, bsL_ext, Nat.min_eq_left (by omega), List.drop_zero, ← hl, List.take_length]
  have hg : (bsL s)[fst47 (bsL s)]'(by omega) = 47 := by
    have := List.findIdx_getElem (p := fun c => c == 47) (xs := bsL s) (w := by show fst47 (bsL s) < _; omega)
    exact eq_of_beq this
  conv => lhs; rw [← List.take_append_drop (fst47 (bsL s)) (bsL s), List.drop_eq_getElem_cons (by omega), hg]
  simp [bsL]
theorem parE_ok {s : ByteArray} : parE s = 0 ↔ okI s = true := by
  unfold parE
  split
  · rename_i h; exact ⟨fun _ => h, fun _ => rfl⟩
  · rename_i h; exact ⟨fun e => absurd e (by decide), fun e => absurd e h⟩
theorem okI_size {s : ByteArray} (h : okI s = true) : s.size ≤ 65536 := by
  unfold okI at h
  simp only [Bool.and_eq_true, decide_eq_true_eq] at h
  exact h.2.1
theorem low_nd {p q : Int} (hq : 0 < q) (hg : ((Nat.gcd p.natAbs q.natAbs : Nat) : Int) = 1) : ((p : Rat) / q).num = p ∧ ((((p : Rat) / q).den : Nat) : Int) = q := by
  obtain ⟨h1, h2⟩ := red_pos (n := p) hq
  rw [hg] at h1 h2
  rw [h1, h2]; simp
theorem q_gcd (q : Rat) : ((Nat.gcd q.num.natAbs (q.den : Int).natAbs : Nat) : Int) = 1 := by
  rw [Int.natAbs_natCast]
  have := q.reduced
  unfold Nat.Coprime at this
  omega
/-- What is written is read again. -/
theorem prs_fmt {q : Rat} (h : (fmtD q.num).size ≤ 65536) (h2 : (fmtD q.den).size ≤ 65536) : prsR (fmtQ q) = .tup [R q, .int .i64 0] := by
  have hd := den_pos q
  unfold fmtQ
  split
  · rename_i h1
    obtain ⟨c1, c2⟩ := ct_n2 (fmt_no47 q.num)
    have ho : prsOk (fmtD q.num) = true := by
      unfold prsOk
      rw [c1, c2, decide_eq_true (parE_fmt h)]; rfl
    refine prs_lit ?_ ?_ ?_
    · unfold prsN; rw [if_pos ho, c2, parN_fmt h]
    · unfold prsD; rw [if_pos ho, c1, if_pos (by decide)]; exact h1.symm
    · unfold prsE; rw [if_pos ho]
  · rename_i h1
    obtain ⟨c1, c2, c3⟩ := ct_y2 (a := fmtD q.num) (b := fmtD q.den) (fmt_no47 q.num)
    have ho : prsOk (fmtD q.num ++ sB ++ fmtD q.den) = true := by
      unfold prsOk
      rw [c2, c3, decide_eq_true (parE_fmt h), decide_eq_true (parE_fmt h2), parN_fmt h, parN_fmt h2, decide_eq_true (show 1 < (q.den : Int) by omega), decide_eq_true (q_gcd q), Bool.or_comm]; rfl
    refine prs_lit ?_ ?_ ?_
    · unfold prsN; rw [if_pos ho, c2, parN_fmt h]
    · unfold prsD; rw [if_pos ho, c1, if_neg (by omega), c3, parN_fmt h2]
    · unfold prsE; rw [if_pos ho]
/-- What the reference reads: p, or p / q, if the text is that of this fraction. -/
def rfA (s : ByteArray) : Rat := if ixS s sB < 0 then (parN (ctA s sB) : Rat) / (1 : Int) else (parN (ctA s sB) : Rat) / (parN (ctB s sB) : Int)
theorem rf_yes {s : ByteArray} (h : prsOk s = true) : fmtQ (rfA s) = s ∧ prsR s = .tup [R (rfA s), .int .i64 0] := by
  have ho := h
  unfold prsOk at h
  simp only [Bool.and_eq_true, Bool.or_eq_true, decide_eq_true_eq] at h
  obtain ⟨h1, h2⟩ := h
  have p1 := fmt_par (parE_ok.1 h1)
  unfold rfA
  by_cases hx : ixS s sB < 0
  · rw [if_pos hx]
    obtain ⟨e1, e2⟩ := low_nd (p := parN (ctA s sB)) (q := 1) (by decide) (by simp)
    have ca : ctA s sB = s := by unfold ctA; rw [if_neg (by omega)]
    constructor
    · unfold fmtQ; rw [if_pos e2, e1, p1, ca]
    · refine prs_lit ?_ ?_ ?_
      · unfold prsN; rw [if_pos ho, e1]
      · unfold prsD; rw [if_pos ho, if_pos hx, e2]
      · unfold prsE; rw [if_pos ho]
  · rw [if_neg hx]
    rcases h2 with h2 | ⟨⟨h2, h3⟩, h4⟩
    · exact absurd h2 hx
    · obtain ⟨e1, e2⟩ := low_nd (p := parN (ctA s sB)) (q := parN (ctB s sB)) (by omega) h4
      constructor
      · unfold fmtQ; rw [if_neg (by omega), e1, e2, p1, fmt_par (parE_ok.1 h2), ← ct_back (by omega)]
      · refine prs_lit ?_ ?_ ?_
        · unfold prsN; rw [if_pos ho, e1]
        · unfold prsD; rw [if_pos ho, if_neg hx, e2]
        · unfold prsE; rw [if_pos ho]
theorem rf_no {s : ByteArray} (h1 : parE (ctA s sB) = 0) (h2 : ¬ixS s sB < 0 → parE (ctB s sB) = 0) (h3 : fmtQ (rfA s) = s) : prsOk s = true := by
  by_cases hx : ixS s sB < 0
  · unfold prsOk
    rw [decide_eq_true h1, decide_eq_true hx]; rfl
  · have h2 := h2 hx
    have hd := den_pos (rfA s)
    generalize rfA s = q at h3 hd
    unfold fmtQ at h3
    split at h3
    · have := (ct_n2 (fmt_no47 q.num)).1
      rw [h3] at this
      omega
    · rename_i h4
      obtain ⟨c1, c2, c3⟩ := ct_y2 (a := fmtD q.num) (b := fmtD q.den) (fmt_no47 q.num)
      rw [h3] at c1 c2 c3
      have n1 := parN_fmt (n := q.num) (by rw [← c2]; exact okI_size (parE_ok.1 h1))
      have n2 := parN_fmt (n := (q.den : Int)) (by rw [← c3]; exact okI_size (parE_ok.1 h2))
      unfold prsOk
      rw [c2, c3, n1, n2, ← c2, ← c3, decide_eq_true h1, decide_eq_true h2, decide_eq_true (show 1 < (q.den : Int) by omega), decide_eq_true (q_gcd q), Bool.or_comm]; rfl
/-- The least place of a slash from x on. -/
def slx (l : List Nat) (x : Nat) : Nat := x + fst47 (l.drop x)
theorem slx_end (l : List Nat) : slx l l.length = l.length := by unfold slx; rw [List.drop_length]; rfl
theorem slx_step {l : List Nat} {x : Nat} (hx : x < l.length) : slx l x = if l.getD x 0 = 47 then x else slx l (x + 1) := by
  unfold slx fst47
  rw [List.drop_eq_getElem_cons hx, List.findIdx_cons, List.getD_eq_getElem?_getD, List.getElem?_eq_getElem hx, Option.getD_some]
  by_cases h : l[x] = 47
  · rw [if_pos h, show (l[x] == 47) = true by simpa using h]; simp
  · rw [if_neg h, show (l[x] == 47) = false by simpa using h]; simp; omega
theorem slx_0 (l : List Nat) : slx l 0 = fst47 l := by unfold slx; simp
theorem slx_le (l : List Nat) {x : Nat} (hx : x ≤ l.length) : slx l x ≤ l.length := by
  unfold slx fst47
  have := List.findIdx_le_length (p := fun c => c == 47) (xs := l.drop x)
  rw [List.length_drop] at this
  omega
/-! ### Digits that are set at their places -/
theorem decV_set : ∀ {l : List Nat} {i c : Nat} (hi : i < l.length), l.getD i 0 = 48 → 48 ≤ c → decV (l.set i c) = decV l + (c - 48) * 10 ^ (l.length - 1 - i)
  | x :: r, 0, c, _, h, hc => by
    have h : x = 48 := h
    subst h
    rw [List.set_cons_zero, show c :: r = [c] ++ r from rfl, show 48 :: r = [48] ++ r from rfl, decV_app, decV_app]
    simp [decV]; omega
  | x :: r, i + 1, c, hi, h, hc => by
    have hi : i < r.length := by simpa using hi
    rw [List.set_cons_succ, show x :: r.set i c = [x] ++ r.set i c from rfl, show x :: r = [x] ++ r from rfl, decV_app, decV_app, List.length_set, decV_set hi h hc, List.length_append, List.length_singleton, show 1 + r.length - 1 - (i + 1) = r.length - 1 - i by omega]
    omega
theorem chk_set {l : List Nat} {i c : Nat} (hi : i < l.length) (h : l.getD i 0 = 48) (hc : 48 ≤ c) (m : Nat) :
    chk (l.set i c) m = chk l m + if m = (l.length - 1 - i) / 9 then (c - 48) * 10 ^ ((l.length - 1 - i) % 9) else 0 := by
  unfold chk
  rw [List.length_set, List.take_set, List.drop_set]
  by_cases h1 : i < l.length - 9 * (m + 1)
  · rw [if_pos h1, if_neg (by omega)]; rfl
  · rw [if_neg h1]
    by_cases h2 : i < l.length - 9 * m
    · rw [if_pos (by omega)]
      have hlen : ((l.take (l.length - 9 * m)).drop (l.length - 9 * (m + 1))).length = l.length - 9 * m - (l.length - 9 * (m + 1)) := by rw [List.length_drop, List.length_take]; omega
      rw [decV_set (by omega) ?_ hc, hlen]
      · congr 2
        congr 1
        omega
      · rw [List.getD_eq_getElem?_getD, List.getElem?_drop, List.getElem?_take, if_pos (by omega), show l.length - 9 * (m + 1) + (i - (l.length - 9 * (m + 1))) = i by omega, ← List.getD_eq_getElem?_getD]; exact h
    · rw [if_neg (by omega), List.set_eq_of_length_le]; · rfl
      rw [List.length_drop, List.length_take]; omega
/-- The first x of the digits, noughts behind them. -/
def fstD (l : List Nat) (x : Nat) : List Nat := l.take x ++ List.replicate (l.length - x) 48
theorem fstD_len {l : List Nat} {x : Nat} (hx : x ≤ l.length) : (fstD l x).length = l.length := by unfold fstD; rw [List.length_append, List.length_take, List.length_replicate]; omega
theorem fstD_step {l : List Nat} {x : Nat} (hx : x < l.length) : fstD l (x + 1) = (fstD l x).set x (l.getD x 0) ∧ (fstD l x).getD x 0 = 48 := by
  unfold fstD
  have e : l.length - x = (l.length - (x + 1)) + 1 := by omega
  have ht : (l.take x).length = x := by rw [List.length_take]; omega
  constructor
  · rw [List.take_succ, e, List.replicate_succ, List.set_append_right _ _ (by omega), ht, Nat.sub_self, List.set_cons_zero, List.append_assoc, List.getD_eq_getElem?_getD, List.getElem?_eq_getElem hx]; rfl
  · rw [List.getD_eq_getElem?_getD, List.getElem?_append_right (by omega), ht, Nat.sub_self, e, List.replicate_succ]; rfl
theorem fstD_all (l : List Nat) : fstD l l.length = l := by unfold fstD; simp
theorem fstD_0 (l : List Nat) (m : Nat) : grp (fstD l 0) m = List.replicate m 0 := by
  have hz : ∀ k, decV (List.replicate k 48) = 0 := by
    intro k
    induction k with
    | zero => rfl
    | succ k ih => rw [List.replicate_succ', decV_snoc, ih]
  unfold grp fstD
  rw [List.take_zero, List.nil_append]
  refine List.ext_getElem (by simp) fun i h1 h2 => ?_
  rw [List.getElem_map, List.getElem_replicate]
  unfold chk
  rw [List.take_replicate, List.drop_replicate, hz]
theorem fstD_dg {l : List Nat} {x : Nat} (h : ∀ j, j < x → 48 ≤ l.getD j 0 ∧ l.getD j 0 ≤ 57) (hx : x ≤ l.length) : ∀ c ∈ fstD l x, c ≤ 57 := by
  intro c hc
  rcases List.mem_append.1 hc with g | g
  · obtain ⟨j, hj, e⟩ := List.getElem_of_mem g
    rw [List.length_take] at hj
    have := h j (by omega)
    rw [List.getElem_take] at e
    rw [List.getD_eq_getElem?_getD, List.getElem?_eq_getElem (by omega), Option.getD_some, e] at this
    exact this.2
  · rw [List.eq_of_mem_replicate g]; decide
theorem grp_set {l : List Nat} {x M : Nat} (hx : x < l.length) (hd : 48 ≤ l.getD x 0) :
    grp (fstD l (x + 1)) M = (grp (fstD l x) M).set ((l.length - 1 - x) / 9) (chk (fstD l x) ((l.length - 1 - x) / 9) + (l.getD x 0 - 48) * 10 ^ ((l.length - 1 - x) % 9)) := by
  obtain ⟨h1, h2⟩ := fstD_step hx
  have hl := fstD_len (l := l) (x := x) (by omega)
  refine List.ext_getElem (by simp [grp_len]) fun i a b => ?_
  rw [List.getElem_set]
  simp only [grp, List.getElem_map, List.getElem_range]
  rw [h1, chk_set (by omega) h2 hd, hl]
  split
  · rename_i e; subst e; rw [if_pos rfl]
  · rename_i e; rw [if_neg (fun e2 => e e2.symm)]; rfl
end Go.Sw

namespace Go.Sw
open Go Go.Lib
set_option linter.unusedVariables false
theorem lim_get : ∀ (i m : Nat), (lim m).getD i 0 = m / 1000000000 ^ i % 1000000000
  | 0, m => by
    by_cases h : m = 0
    · subst h; rw [lim_zero]; rfl
    · rw [lim_pos h]; simp
  | i + 1, m => by
    by_cases h : m = 0
    · subst h; simp [lim_zero]
    · rw [lim_pos h, List.getD_cons_succ, lim_get i, Nat.div_div_eq_div_mul, ← Nat.pow_succ']
theorem lim_ge : ∀ (i m : Nat), i < (lim m).length → 0 < m / 1000000000 ^ i
  | 0, m, h => by
    have : m ≠ 0 := fun e => by subst e; rw [lim_zero] at h; exact absurd h (by decide)
    simp; omega
  | i + 1, m, h => by
    have : m ≠ 0 := fun e => by subst e; rw [lim_zero] at h; exact absurd h (by simp)
    rw [lim_pos this, List.length_cons] at h
    have := lim_ge i (m / 1000000000) (by omega)
    rwa [Nat.div_div_eq_div_mul, ← Nat.pow_succ'] at this
theorem lim_ltX (m : Nat) : m < 1000000000 ^ (lim m).length := by
  have := val_lt (lim m) (lb_lim m)
  rwa [val_lim] at this
theorem lim_at {i m : Nat} (h : i < (lim m).length) : (lim m)[i]? = some (m / 1000000000 ^ i % 1000000000) := by
  have := lim_get i m
  rw [List.getD_eq_getElem?_getD, List.getElem?_eq_getElem h] at this
  rw [List.getElem?_eq_getElem h]
  exact congrArg some this
theorem lim_topx {m : Nat} (h : 0 < (lim m).length) : m / 1000000000 ^ ((lim m).length - 1) % 1000000000 = m / 1000000000 ^ ((lim m).length - 1) := by
  apply Nat.mod_eq_of_lt
  apply Nat.div_lt_of_lt_mul
  have := lim_ltX m
  rwa [← Nat.pow_succ, show ((lim m).length - 1).succ = (lim m).length by omega]
/-- A limb more: its digits, noughts ahead. -/
theorem dec_limb {m i : Nat} (h : i + 1 < (lim m).length) :
    decDigits (m / 1000000000 ^ i) = decDigits (m / 1000000000 ^ (i + 1)) ++ List.replicate (9 - nDigits (m / 1000000000 ^ i % 1000000000)) 48 ++ decDigits (m / 1000000000 ^ i % 1000000000) := by
  have h1 := lim_ge (i + 1) m h
  have hx : m / 1000000000 ^ i % 1000000000 < 10 ^ 9 := Nat.mod_lt _ (by decide)
  have e : m / 1000000000 ^ (i + 1) = m / 1000000000 ^ i / 1000000000 := by rw [Nat.div_div_eq_div_mul, Nat.pow_succ]
  rw [List.append_assoc, ← pad_dec 9 _ (by decide) hx, ← dec_pad 9 _ _ h1 hx, e]
  congr 1
  have := Nat.div_add_mod (m / 1000000000 ^ i) 1000000000
  omega
theorem dec_lenX {m i : Nat} (h : 0 < (lim m).length) : (decDigits (m / 1000000000 ^ i)).length ≤ 9 * (lim m).length := by
  rw [decDigits_length]
  apply nDigits_le (by omega)
  refine Nat.lt_of_le_of_lt (Nat.div_le_self _ _) ?_
  rw [Nat.pow_mul]
  exact lim_ltX m
theorem limb_dg {x : Nat} (h : x < 1000000000) : 1 ≤ nDigits x ∧ nDigits x ≤ 9 := ⟨nDigits_pos x, nDigits_le (by decide) h⟩
def bv (l : List UInt8) : List Value := l.map fun b => .int .u8 (b.toNat : Int)
theorem bv_len (l : List UInt8) : (bv l).length = l.length := by unfold bv; simp
theorem bv_app (a b : List UInt8) : bv (a ++ b) = bv a ++ bv b := by unfold bv; rw [List.map_append]
theorem bv_str (l : List UInt8) : strCells ⟨l.toArray⟩ = bv l := rfl
theorem decS_size (n : Nat) : (decS n).size = nDigits n := by
  show (decDigits n).toArray.size = _
  rw [List.size_toArray, decDigits_length]
end Go.Sw
