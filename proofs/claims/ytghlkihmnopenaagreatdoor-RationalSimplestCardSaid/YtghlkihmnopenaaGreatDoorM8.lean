/-
  What the functions answer, each out of its text by the abstract run.
  What the functions swarfref01.Sub, integer.Sub, swarfref01.Int64, integer.Int64, integer.DivMod answer, each out of its text by the abstract run.
  What the functions swarfref01.GCD, integer.GCD answer, each out of its text by the abstract run.
  What the functions answer, each out of its text by the abstract run.
  Contracts with two answers.
  Texts of integers: their bytes, and the number that digits stand for.
  What Parse makes of a text.
  What the functions stringslite.HasPrefix, stringslite.CutPrefix, strings.HasPrefix, strings.CutPrefix answer, each out of its text by the abstract run.
  What the functions strconv.small, strconv.FormatUint, strconv.FormatUint answer, each out of its text by the abstract run.
  What the functions answer, each out of its text by the abstract run.
  What the functions integer.Parse answer, each out of its text by the abstract run.
  What the functions stringslite.Index, stringslite.Cut, strings.Cut answer, each out of its text by the abstract run.
  What the functions rational.unit, rational.whole, rational.exact, rational.reduce answer, each out of its text by the abstract run.
  What the functions rational.FromInt64, rational.Sign, rational.Neg, rational.Mul, rational.Add, rational.Sub, rational.Floor answer, each out of its text by the abstract run.
  What the functions swarfref01.DivMod answer, each out of its text by the abstract run.
  What the functions swarfref02.unit, swarfref02.Of, swarfref02.FromInt64, swarfref02.Frac, swarfref02.Sign, swarfref02.Neg, swarfref02.Mul, swarfref02.Add, swarfref02.Sub, swarfref02.Cmp, swarfref02.Floor answer, each out of its text by the abstract run.
  What the functions swarfref01.Valid answer, each out of its text by the abstract run.
  What the functions swarfref02.Valid answer, each out of its text by the abstract run.
  What the functions swarfref01.Sqrt answer, each out of its text by the abstract run.
  What the functions integer.Sqrt answer, each out of its text by the abstract run.
  Intervals of machine integers, and products of two words.
  Conditions: none.
-/
import Derived.Test.YtghlkihmnopenaaGreatDoorM7
import Derived.Laws.Strings
import Derived.Lib.Bytealg
import Derived.Lib.Builder
import Derived.Lib.Strings
import Derived.Lib.Walk
import Derived.Shelf.Strings.Builder1
set_option linter.all false
namespace Go.Proofs.YtghlkihmnopenaaGreatDoor
open Go Go.RowKit Go.Sw
set_option linter.unusedVariables false
set_option maxRecDepth 100000
set_option maxHeartbeats 8000000
instance (a b : List Nat) : DenI Tryz.prog 94 [.c (lmc a), .c (lmc b)] (a.length ≤ 100000000000 ∧ b.length ≤ 100000000000 ∧ Lb a ∧ Lb b ∧ 0 < val b) (.tup [.c (lmc (pad (dql a b) (val a / val b))), .c (lmc (pad (drl a b) (val a % val b)))]) := ⟨fun hp => den2 (by kernel_rfl) fun w X u v hX hu hv => (integer_divide_ok hX hu.ul hv.ul hp.1 hp.2.1 hp.2.2.1 hp.2.2.2.1 hp.2.2.2.2).mono fun e w' ⟨u, he, ⟨qs, rs, r0, r1, h1, h2, h3, h4, h5, h6, h7, h8, h9⟩, hb⟩ => ⟨u, he, by subst h1; obtain ⟨e1, e2⟩ := div_pads h4 h5 h6 h7 h8 h9; rw [← e1, ← e2]; exact tup2 (.c h2.rep) (.c h3.rep), hb⟩⟩
instance (a b : List Nat) : DenI Tryz.prog 102 [.c (lmc a), .c (lmc b)] (a.length ≤ 1000000000 ∧ b.length ≤ 1000000000 ∧ CanL a ∧ CanL b ∧ 0 < val b) (.tup [.c (lmc (lim (val a / val b))), .c (lmc (lim (val a % val b)))]) := ⟨fun hp => den2 (by kernel_rfl) fun w X u v hX hu hv => (ref01_parts_ok hX hu.ul hv.ul hp.1 hp.2.1 hp.2.2.1 hp.2.2.2.1 hp.2.2.2.2).mono fun e w' ⟨u, he, ⟨r0, r1, h1, h2, h3⟩, hb⟩ => ⟨u, he, by subst h1; exact tup2 (.c h2.rep) (.c h3.rep), hb⟩⟩
end Go.Proofs.YtghlkihmnopenaaGreatDoor

namespace Go.Proofs.YtghlkihmnopenaaGreatDoor
open Go Go.RowKit Go.Sw
set_option linter.unusedVariables false
set_option maxRecDepth 100000
set_option maxHeartbeats 8000000
instance rh_sub (a b : Int) : DenI Tryz.prog 35 [Z a, Z b] (sz a ≤ 1000000000 ∧ sz b ≤ 1000000000) (Z (a - b)) := ⟨fun hp => by
 refine den_of (τ := tab) tab_ok mixed_ Tryz.func35 rfl (by kernel_rfl) (by kernel_rfl) (by kernel_rfl) ?_
 repeat' ((try (conv => whnf)); first
  | refine call_0 ?_
  | refine call_i ?_ ?_
  | (with_reducible refine onB_t ?_)
  | (with_reducible refine onB_f ?_)
  | (with_reducible refine onB_d (fun _ => ?_) (fun _ => ?_))
  | (with_reducible refine onB_n (fun _ => ?_) (fun _ => ?_))
  | refine OnB.mk (fun _ => ?_) (fun _ => ?_)
  | refine obl_i ?_ ?_
  | refine Drw.mk (by kernel_rfl) ?_
  | refine mks_i ?_ ?_
  | refine slp_i ?_ ?_
  | (with_reducible refine elem_u ?_ ?_)
  | (with_reducible refine elem_0 ?_)
  | (with_reducible refine elem_1 ?_)
  | refine Ends.mk ?_)
 all_goals (try refine Pr.mk ?_)
 all_goals first
  | with_reducible exact hp.2
  | (rw [sz_neg]; exact hp)
  | (refine zsE ?_; omega)
  | skip⟩

instance ih_sub (a b : Int) : DenI Tryz.prog 96 [Z a, Z b] (sz a ≤ 1000000000 ∧ sz b ≤ 1000000000) (Z (a - b)) := ⟨fun hp => by
 refine den_of (τ := tab) tab_ok mixed_ Tryz.func96 rfl (by kernel_rfl) (by kernel_rfl) (by kernel_rfl) ?_
 repeat' ((try (conv => whnf)); first
  | refine call_0 ?_
  | refine call_i ?_ ?_
  | (with_reducible refine onB_t ?_)
  | (with_reducible refine onB_f ?_)
  | (with_reducible refine onB_d (fun _ => ?_) (fun _ => ?_))
  | (with_reducible refine onB_n (fun _ => ?_) (fun _ => ?_))
  | refine OnB.mk (fun _ => ?_) (fun _ => ?_)
  | refine obl_i ?_ ?_
  | refine Drw.mk (by kernel_rfl) ?_
  | refine mks_i ?_ ?_
  | refine slp_i ?_ ?_
  | (with_reducible refine elem_u ?_ ?_)
  | (with_reducible refine elem_0 ?_)
  | (with_reducible refine elem_1 ?_)
  | refine Ends.mk ?_)
 all_goals (try refine Pr.mk ?_)
 all_goals (try ((conv => whnf); first | rw [subc_1 (by assumption)] | rw [subc_2 (by assumption)]))
 all_goals (repeat' ((try (conv => whnf)); first
  | refine call_0 ?_
  | refine call_i ?_ ?_
  | (with_reducible refine onB_t ?_)
  | (with_reducible refine onB_f ?_)
  | (with_reducible refine onB_d (fun _ => ?_) (fun _ => ?_))
  | (with_reducible refine onB_n (fun _ => ?_) (fun _ => ?_))
  | refine OnB.mk (fun _ => ?_) (fun _ => ?_)
  | refine obl_i ?_ ?_
  | refine Drw.mk (by kernel_rfl) ?_
  | refine mks_i ?_ ?_
  | refine slp_i ?_ ?_
  | (with_reducible refine elem_u ?_ ?_)
  | (with_reducible refine elem_0 ?_)
  | (with_reducible refine elem_1 ?_)
  | refine Ends.mk ?_))
 all_goals (try refine Pr.mk ?_)
 all_goals first
  | (rw [sz_neg]; exact hp)
  | (refine zsE ?_; omega)
  | skip⟩

instance ih_divmod (a b : Int) : DenI Tryz.prog 59 [Z a, Z b] (sz a ≤ 1000000000 ∧ sz b ≤ 1000000000) (.tup [Z (a.fdiv b), Z (if b = 0 then 0 else a.fmod b), .int .i64 (if b = 0 then 6 else 0)]) := ⟨fun hp => by
 refine den_of (τ := tab) tab_ok mixed_ Tryz.func59 rfl (by kernel_rfl) (by kernel_rfl) (by kernel_rfl) ?_
 repeat' ((try (conv => whnf)); first
  | refine call_0 ?_
  | refine call_i ?_ ?_
  | (with_reducible refine onB_t ?_)
  | (with_reducible refine onB_f ?_)
  | (with_reducible refine onB_d (fun _ => ?_) (fun _ => ?_))
  | (with_reducible refine onB_n (fun _ => ?_) (fun _ => ?_))
  | refine OnB.mk (fun _ => ?_) (fun _ => ?_)
  | refine obl_i ?_ ?_
  | refine Drw.mk (by kernel_rfl) ?_
  | refine mks_i ?_ ?_
  | refine slp_i ?_ ?_
  | (with_reducible refine elem_u ?_ ?_)
  | (with_reducible refine elem_0 ?_)
  | (with_reducible refine elem_1 ?_)
  | refine Ends.mk ?_)
 all_goals (try refine Pr.mk ?_)
 all_goals (try simp (disch := assumption) only [val_lim, natAbs_sgnv, neg_sgnv, cast_len0, cast_len1, List.length_map, dqI, drI] at *)
 all_goals (try simp (disch := assumption) only [val_lim, natAbs_sgnv, neg_sgnv, cast_len0, cast_len1, List.length_map, dqI, drI] at *)
 all_goals first
  | omega
  | (have hb0 : b = 0 := (by omega); subst hb0; exact rdm_zero a)
  | with_reducible exact lb_pad _ _
  | with_reducible exact dv_pre hp.1 hp.2 (by assumption)
  | with_reducible exact ⟨sz_q hp.1 _, sz_o⟩
  | with_reducible exact ⟨sz_r hp.1 _, hp.2⟩
  | with_reducible exact rdm_turn (by assumption) (by assumption) (turn_sg (r := a.natAbs % b.natAbs) (by omega) (by assumption))
  | with_reducible exact rdm_keep (by assumption) (.inr (keep_sg (r := a.natAbs % b.natAbs) (by omega) (by assumption)))
  | with_reducible exact rdm_keep (by assumption) (.inl (by omega))
  | skip⟩

end Go.Proofs.YtghlkihmnopenaaGreatDoor

namespace Go.Proofs.YtghlkihmnopenaaGreatDoor
open Go Go.RowKit Go.Sw
set_option linter.unusedVariables false
set_option maxRecDepth 100000
set_option maxHeartbeats 8000000
instance rh_gcd (a b : Int) : DenI Tryz.prog 70 [Z a, Z b] (sz a ≤ 1000000000 ∧ sz b ≤ 1000000000) (Z ((Nat.gcd a.natAbs b.natAbs : Nat) : Int)) := ⟨fun hp => by
 refine den_of (τ := tab) tab_ok mixed_ Tryz.func70 rfl (by kernel_rfl) (by kernel_rfl) (by kernel_rfl) ?_
 repeat' ((try (conv => whnf)); first
  | refine call_0 ?_
  | refine call_i ?_ ?_
  | (with_reducible refine onB_t ?_)
  | (with_reducible refine onB_f ?_)
  | (with_reducible refine onB_d (fun _ => ?_) (fun _ => ?_))
  | (with_reducible refine onB_n (fun _ => ?_) (fun _ => ?_))
  | refine OnB.mk (fun _ => ?_) (fun _ => ?_)
  | refine obl_i ?_ ?_
  | refine Drw.mk (by kernel_rfl) ?_
  | refine mks_i ?_ ?_
  | refine slp_i ?_ ?_
  | (with_reducible refine elem_u ?_ ?_)
  | (with_reducible refine elem_0 ?_)
  | (with_reducible refine elem_1 ?_)
  | refine Ends.mk ?_)
 all_goals (try refine Pr.mk ?_)
 all_goals first
  | ((conv => whnf); refine Sw.Loop.inv (α := Nat × Nat) (fun x => [(4, .ptr 4 0), (5, .c (lmc (lim x.1))), (6, .c (lmc (lim x.2)))]) (fun x => [(4, .var [.v (.bool false), .sl 1 []])]) (fun x => Nat.gcd x.1 x.2 = Nat.gcd a.natAbs b.natAbs ∧ (lim x.1).length ≤ 1000000000 ∧ (lim x.2).length ≤ 1000000000) (fun x => x.2) (a.natAbs, b.natAbs) ?_ ?_ ?_ (fun x hx => ?_))
  | skip
 all_goals (repeat' ((try (conv => whnf)); first
  | refine call_0 ?_
  | refine call_i ?_ ?_
  | (with_reducible refine onB_t ?_)
  | (with_reducible refine onB_f ?_)
  | (with_reducible refine onB_d (fun _ => ?_) (fun _ => ?_))
  | (with_reducible refine onB_n (fun _ => ?_) (fun _ => ?_))
  | refine OnB.mk (fun _ => ?_) (fun _ => ?_)
  | refine obl_i ?_ ?_
  | refine Drw.mk (by kernel_rfl) ?_
  | refine mks_i ?_ ?_
  | refine slp_i ?_ ?_
  | (with_reducible refine elem_u ?_ ?_)
  | (with_reducible refine elem_0 ?_)
  | (with_reducible refine elem_1 ?_)
  | refine Ends.mk ?_))
 all_goals (try refine Pr.mk ?_)
 all_goals first
  | ((conv => whnf); refine Sw.Loop.inv (α := Nat × Nat) (fun y => [(4, .ptr 4 0), (9, .int .u64 (y.1 : Nat)), (10, .int .u64 (y.2 : Nat))]) (fun y => [(4, .var [.v (.bool false), .sl 1 []])]) (fun y => y.1 < 1000000000000000000 ∧ y.2 < 1000000000000000000 ∧ Nat.gcd y.1 y.2 = Nat.gcd a.natAbs b.natAbs) (fun y => y.2) x ?_ ?_ ?_ (fun y hy => ?_))
  | skip
 all_goals (repeat' ((try (conv => whnf)); first
  | refine call_0 ?_
  | refine call_i ?_ ?_
  | (with_reducible refine onB_t ?_)
  | (with_reducible refine onB_f ?_)
  | (with_reducible refine onB_d (fun _ => ?_) (fun _ => ?_))
  | (with_reducible refine onB_n (fun _ => ?_) (fun _ => ?_))
  | refine OnB.mk (fun _ => ?_) (fun _ => ?_)
  | refine obl_i ?_ ?_
  | refine Drw.mk (by kernel_rfl) ?_
  | refine mks_i ?_ ?_
  | refine slp_i ?_ ?_
  | (with_reducible refine elem_u ?_ ?_)
  | (with_reducible refine elem_0 ?_)
  | (with_reducible refine elem_1 ?_)
  | refine Ends.mk ?_))
 all_goals (try refine Pr.mk ?_)
 all_goals first | (show SubE _ _; repeat' (first | exact trivial | refine And.intro ?_ ?_)) | (show SubB _ _; repeat' (first | exact trivial | refine And.intro ?_ ?_)) | skip
 all_goals (try rfl)
 all_goals (try simp only [List.length_map] at *)
 all_goals first
  | with_reducible exact lb_lim _
  | with_reducible exact gv
  | with_reducible exact gpre hx.2.1 hx.2.2 (by omega)
  | with_reducible exact gshort (by omega)
  | (have hz := lim_len_zero (n := x.2); exact gshort (by omega))
  | exact ⟨trivial, hp.1, hp.2⟩
  | exact gv
  | (have hz := lim_len_zero (n := x.2); with_reducible exact gend (by omega) hx.1 (val_lim _))
  | with_reducible exact gend (by omega) hy.2.2 (val_lim _)
  | exact ⟨glt (by omega), glt (by omega), hx.1⟩
  | (have h3 : x.1 % x.2 < x.2 := Nat.mod_lt _ (by have hz := lim_len_zero (n := x.2); omega); ((conv => whnf); exact ⟨(x.2, x.1 % x.2), ⟨⟨rfl, rfl, gmod, trivial⟩, ⟨rfl, trivial⟩, ⟨gcd_turn hx.1 rfl, hx.2.2, Nat.le_trans (lim_le_of_le (Nat.le_of_lt h3)) hx.2.2⟩, h3⟩⟩))
  | (have h1 := hy.1; have h2 := hy.2.1; have h3 : y.1 % y.2 < y.2 := Nat.mod_lt _ (by omega); ((conv => whnf); exact ⟨(y.2, y.1 % y.2), ⟨⟨rfl, rfl, gm2, trivial⟩, ⟨rfl, trivial⟩, ⟨by show y.2 < _; omega, by show y.1 % y.2 < _; omega, gcd_turn hy.2.2 rfl⟩, h3⟩⟩))
  | omega
  | skip⟩

instance ih_gcd (a b : Int) : DenI Tryz.prog 82 [Z a, Z b] (sz a ≤ 1000000000 ∧ sz b ≤ 1000000000) (Z ((Nat.gcd a.natAbs b.natAbs : Nat) : Int)) := ⟨fun hp => by
 refine den_of (τ := tab) tab_ok mixed_ Tryz.func82 rfl (by kernel_rfl) (by kernel_rfl) (by kernel_rfl) ?_
 repeat' ((try (conv => whnf)); first
  | refine call_0 ?_
  | refine call_i ?_ ?_
  | (with_reducible refine onB_t ?_)
  | (with_reducible refine onB_f ?_)
  | (with_reducible refine onB_d (fun _ => ?_) (fun _ => ?_))
  | (with_reducible refine onB_n (fun _ => ?_) (fun _ => ?_))
  | refine OnB.mk (fun _ => ?_) (fun _ => ?_)
  | refine obl_i ?_ ?_
  | refine Drw.mk (by kernel_rfl) ?_
  | refine mks_i ?_ ?_
  | refine slp_i ?_ ?_
  | (with_reducible refine elem_u ?_ ?_)
  | (with_reducible refine elem_0 ?_)
  | (with_reducible refine elem_1 ?_)
  | refine Ends.mk ?_)
 all_goals (try refine Pr.mk ?_)
 all_goals first
  | ((conv => whnf); refine Sw.Loop.inv (α := Nat × Nat) (fun x => [(4, .ptr 4 0), (5, .ptr 5 0), (6, .ptr 6 0)]) (fun x => [(4, .var [.v (.bool false), .sl 1 []]), (5, .var [zs (x.1 : Nat), zl (x.1 : Nat)]), (6, .var [zs (x.2 : Nat), zl (x.2 : Nat)])]) (fun x => Nat.gcd x.1 x.2 = Nat.gcd a.natAbs b.natAbs ∧ sz ((x.1 : Nat) : Int) ≤ 1000000000 ∧ sz ((x.2 : Nat) : Int) ≤ 1000000000) (fun x => x.2) (a.natAbs, b.natAbs) ?_ ?_ ?_ (fun x hx => ?_))
  | skip
 all_goals (repeat' ((try (conv => whnf)); first
  | refine call_0 ?_
  | refine call_i ?_ ?_
  | (with_reducible refine onB_t ?_)
  | (with_reducible refine onB_f ?_)
  | (with_reducible refine onB_d (fun _ => ?_) (fun _ => ?_))
  | (with_reducible refine onB_n (fun _ => ?_) (fun _ => ?_))
  | refine OnB.mk (fun _ => ?_) (fun _ => ?_)
  | refine obl_i ?_ ?_
  | refine Drw.mk (by kernel_rfl) ?_
  | refine mks_i ?_ ?_
  | refine slp_i ?_ ?_
  | (with_reducible refine elem_u ?_ ?_)
  | (with_reducible refine elem_0 ?_)
  | (with_reducible refine elem_1 ?_)
  | refine Ends.mk ?_))
 all_goals (try refine Pr.mk ?_)
 all_goals first
  | ((conv => whnf); refine Sw.Loop.inv (α := Nat × Nat) (fun y => [(4, .ptr 4 0), (7, .int .u64 (y.1 : Nat)), (9, .int .u64 (y.2 : Nat))]) (fun y => [(4, .var [.v (.bool false), .sl 1 []])]) (fun y => y.1 < 1000000000000000000 ∧ y.2 < 1000000000000000000 ∧ Nat.gcd y.1 y.2 = Nat.gcd a.natAbs b.natAbs) (fun y => y.2) x ?_ ?_ ?_ (fun y hy => ?_))
  | skip
 all_goals (repeat' ((try (conv => whnf)); first
  | refine call_0 ?_
  | refine call_i ?_ ?_
  | (with_reducible refine onB_t ?_)
  | (with_reducible refine onB_f ?_)
  | (with_reducible refine onB_d (fun _ => ?_) (fun _ => ?_))
  | (with_reducible refine onB_n (fun _ => ?_) (fun _ => ?_))
  | refine OnB.mk (fun _ => ?_) (fun _ => ?_)
  | refine obl_i ?_ ?_
  | refine Drw.mk (by kernel_rfl) ?_
  | refine mks_i ?_ ?_
  | refine slp_i ?_ ?_
  | (with_reducible refine elem_u ?_ ?_)
  | (with_reducible refine elem_0 ?_)
  | (with_reducible refine elem_1 ?_)
  | refine Ends.mk ?_))
 all_goals (try refine Pr.mk ?_)
 all_goals first | (show SubE _ _; repeat' (first | exact trivial | refine And.intro ?_ ?_)) | (show SubB _ _; repeat' (first | exact trivial | refine And.intro ?_ ?_)) | skip
 all_goals (try rfl)
 all_goals (try simp only [List.length_map] at *)
 all_goals first
  | with_reducible exact lb_lim _
  | with_reducible exact lb_pad _ _
  | exact zcells _ _ (by rw [val_lim]; rfl)
  | exact ⟨trivial, hp.1, hp.2⟩
  | exact wif (by assumption)
  | exact ⟨sz_lt18 (by assumption), sz_lt18 (by assumption), hx.1⟩
  | with_reducible exact gdiv hx.2.1 hx.2.2 (by assumption)
  | omega
  | with_reducible exact gend (gzero (by assumption)) hx.1 (val_lim _)
  | with_reducible exact gend (by omega) hy.2.2 (val_pad _ _ (by omega))
  | (have h1 := hy.1; have h2 := hy.2.1; have h3 : y.1 % y.2 < y.2 := Nat.mod_lt _ (by omega); ((conv => whnf); exact ⟨(y.2, y.1 % y.2), ⟨⟨rfl, rfl, gm2, trivial⟩, ⟨rfl, trivial⟩, ⟨by show y.2 < _; omega, by show y.1 % y.2 < _; omega, gcd_turn hy.2.2 rfl⟩, h3⟩⟩))
  | (have h0 := gpos (by assumption); have h3 : x.1 % x.2 < x.2 := Nat.mod_lt _ h0; ((conv => whnf); exact ⟨(x.2, x.1 % x.2), ⟨⟨rfl, rfl, rfl, trivial⟩, ⟨rfl, rfl, zcells _ _ (gst (by assumption)), trivial⟩, ⟨gcd_turn hx.1 rfl, hx.2.2, Nat.le_trans (sz_mono (by rw [Int.natAbs_natCast, Int.natAbs_natCast]; exact Nat.le_of_lt h3)) hx.2.2⟩, h3⟩⟩))
  | (have h0 := hx.2.1; unfold sz at h0; omega)
  | skip⟩

end Go.Proofs.YtghlkihmnopenaaGreatDoor

namespace Go.Proofs.YtghlkihmnopenaaGreatDoor
open Go Go.RowKit Go.Sw
set_option linter.unusedVariables false
set_option maxRecDepth 100000
set_option maxHeartbeats 8000000

end Go.Proofs.YtghlkihmnopenaaGreatDoor

namespace Go.Sw
open Go Go.RowKit
set_option linter.unusedVariables false
/-- f answers r to xs where c holds, and s where it doesn't. -/
class DenC (P : Program) (f : FuncId) (xs : List AV) (pre : outParam Prop) (c : outParam Prop) (r s : outParam AV) : Prop where
  den : pre → (c → Den P f xs r) ∧ (¬c → Den P f xs s)
theorem call_c {P : Program} {f : FuncId} {xs : List AV} {pre c : Prop} {r s : AV} {k : AV → Prop} [h : DenC P f xs pre c r s] (hp : Pr pre) (h1 : c → k r) (h2 : ¬c → k s) : CallP (Den P) f xs k := by
  by_cases hc : c
  · exact ⟨r, (h.den hp.p).1 hc, h1 hc⟩
  · exact ⟨s, (h.den hp.p).2 hc, h2 hc⟩
theorem denC {P : Program} {f : FuncId} {xs : List AV} {pre c : Prop} {r s : AV} (h : pre → ∀ q, (c → q = r) → (¬c → q = s) → Den P f xs q) (hp : pre) : (c → Den P f xs r) ∧ (¬c → Den P f xs s) :=
  ⟨fun hc => h hp r (fun _ => rfl) (fun n => absurd hc n), fun hc => h hp s (fun n => absurd n hc) (fun _ => rfl)⟩
end Go.Sw

namespace Go.Sw
open Go Go.RowKit
set_option linter.unusedVariables false
/-- The bytes of a string. -/
def bsL (s : ByteArray) : List Nat := s.data.toList.map fun b => b.toNat
theorem bsL_len (s : ByteArray) : (bsL s).length = s.size := by simp [bsL]
theorem bsL_get (s : ByteArray) (j : Nat) : (s.data.toList.getD j 0).toNat = (bsL s).getD j 0 := by
  unfold bsL
  rw [List.getD_eq_getElem?_getD, List.getD_eq_getElem?_getD, List.getElem?_map]
  cases s.data.toList[j]? <;> rfl
theorem bsL_lt {s : ByteArray} (j : Nat) : (bsL s).getD j 0 < 256 := by rw [← bsL_get]; exact UInt8.toNat_lt _
theorem bsL_inj {a b : ByteArray} (h : bsL a = bsL b) : a = b := by
  have : a.data.toList = b.data.toList := by
    unfold bsL at h
    exact (List.map_inj_right (fun x y h => UInt8.toNat_inj.1 h)).1 h
  cases a; cases b
  simpa using this
theorem eqb_iff (a b : ByteArray) : (a.toList == b.toList) = decide (bsL a = bsL b) := by
  rw [ByteArray.toList_eq, ByteArray.toList_eq]
  by_cases h : bsL a = bsL b
  · rw [decide_eq_true h, bsL_inj h]; simp
  · rw [decide_eq_false h]
    rw [beq_eq_false_iff_ne]
    exact fun e => h (by unfold bsL; rw [e])
theorem bsL_ext (s : ByteArray) (a b : Nat) : bsL (s.extract a b) = ((bsL s).take b).drop a := by
  unfold bsL
  rw [ByteArray.data_extract, Array.toList_extract, List.extract_eq_take_drop, ← List.map_take, ← List.map_drop, List.drop_take]
theorem bytesC_eq (s : ByteArray) : bytesC s = (bsL s).map fun c => [Cell.v (.int .u8 (c : Nat))] := by unfold bytesC bsL; rw [List.map_map]; rfl
theorem strAt_i {s : ByteArray} {i : Int} {k : Int → Prop} (hp : Pr (0 ≤ i ∧ i < s.size)) (hk : k (((bsL s).getD i.toNat 0 : Nat) : Int)) : StrAt s i k := by
  obtain ⟨⟨h1, h2⟩⟩ := hp
  exact ⟨i.toNat, by omega, by omega, by rw [bsL_get]; exact hk⟩
theorem elem_b {s : ByteArray} {i : Int} {k : List Cell → Prop} (hp : Pr (0 ≤ i ∧ i < s.size)) (hk : k [.v (.int .u8 ((bsL s).getD i.toNat 0 : Nat))]) : Elem (bytesC s) i k := by
  rw [bytesC_eq]
  exact elem_map 0 (f := fun c : Nat => [Cell.v (.int .u8 (c : Nat))]) ⟨by rw [bsL_len]; exact hp.p⟩ hk
theorem bytesC_len (s : ByteArray) : (bytesC s).length = s.size := by simp [bytesC]
/-! ### Decimal digits -/
def decV (l : List Nat) : Nat := l.foldl (fun a c => 10 * a + (c - 48)) 0
theorem fold_dec (l : List Nat) : ∀ x, l.foldl (fun a c => 10 * a + (c - 48)) x = x * 10 ^ l.length + decV l := by
  induction l with
  | nil => intro x; simp [decV]
  | cons c r ih =>
    intro x
    unfold decV
    simp only [List.foldl_cons, List.length_cons]
    rw [ih, ih (10 * 0 + (c - 48)), Nat.pow_succ]
    grind
theorem decV_app (a b : List Nat) : decV (a ++ b) = decV a * 10 ^ b.length + decV b := by
  unfold decV
  rw [List.foldl_append, fold_dec]; rfl
theorem decV_snoc (a : List Nat) (c : Nat) : decV (a ++ [c]) = 10 * decV a + (c - 48) := by
  rw [decV_app]; simp [decV]; omega
theorem decV_lt {l : List Nat} (h : ∀ c ∈ l, c ≤ 57) : decV l < 10 ^ l.length := by
  induction l with
  | nil => decide
  | cons c r ih =>
    have h1 := ih fun x hx => h x (by simp [hx])
    have h2 := h c (by simp)
    rw [show c :: r = [c] ++ r from rfl, decV_app, List.length_append, Nat.pow_add]
    have h3 : decV [c] ≤ 9 := by simp [decV]; omega
    have := Nat.mul_le_mul_right (10 ^ r.length) h3
    simp only [List.length_singleton, Nat.pow_one]
    omega
/-- The number in the m-th group of nine digits from the end. -/
def chk (l : List Nat) (m : Nat) : Nat := decV ((l.take (l.length - 9 * m)).drop (l.length - 9 * (m + 1)))
def grp (l : List Nat) (m : Nat) : List Nat := (List.range m).map (chk l)
theorem grp_len (l : List Nat) (m : Nat) : (grp l m).length = m := by simp [grp]
theorem grp_snoc (l : List Nat) (m : Nat) : grp l (m + 1) = grp l m ++ [chk l m] := by simp [grp, List.range_succ]
theorem chk_lt {l : List Nat} (h : ∀ c ∈ l, c ≤ 57) (m : Nat) : chk l m < 1000000000 := by
  have h1 : decV ((l.take (l.length - 9 * m)).drop (l.length - 9 * (m + 1))) < 10 ^ ((l.take (l.length - 9 * m)).drop (l.length - 9 * (m + 1))).length :=
    decV_lt fun c hc => h c (List.mem_of_mem_take (List.mem_of_mem_drop hc))
  have h2 : ((l.take (l.length - 9 * m)).drop (l.length - 9 * (m + 1))).length ≤ 9 := by rw [List.length_drop, List.length_take]; omega
  have h3 : 10 ^ ((l.take (l.length - 9 * m)).drop (l.length - 9 * (m + 1))).length ≤ 10 ^ 9 := Nat.pow_le_pow_right (by decide) h2
  unfold chk
  omega
theorem grp_lb {l : List Nat} (h : ∀ c ∈ l, c ≤ 57) (m : Nat) : Lb (grp l m) := fun x hx => by
  obtain ⟨j, _, rfl⟩ := List.mem_map.1 hx
  exact chk_lt h j
theorem val_grp (l : List Nat) : ∀ m, val (grp l m) = decV (l.drop (l.length - 9 * m))
  | 0 => by simp [grp, val, decV]
  | m + 1 => by
    rw [grp_snoc, val_append, val_grp l m, grp_len]
    simp only [val, Nat.mul_zero, Nat.add_zero]
    have e : l.drop (l.length - 9 * (m + 1)) = (l.take (l.length - 9 * m)).drop (l.length - 9 * (m + 1)) ++ l.drop (l.length - 9 * m) := by
      have h1 := List.take_append_drop (l.length - 9 * m) l
      have h2 : l.length - 9 * (m + 1) ≤ (l.take (l.length - 9 * m)).length := by rw [List.length_take]; omega
      have h3 := List.drop_append_of_le_length (l₂ := l.drop (l.length - 9 * m)) h2
      rw [h1] at h3
      exact h3
    rw [e, decV_app]
    show decV _ + 1000000000 ^ m * chk l m = chk l m * 10 ^ _ + _
    by_cases hm : 9 * m ≤ l.length
    · have : (l.drop (l.length - 9 * m)).length = 9 * m := by rw [List.length_drop]; omega
      rw [this, show (1000000000 : Nat) = 10 ^ 9 from rfl, ← Nat.pow_mul]
      grind
    · have hz : chk l m = 0 := by
        unfold chk
        rw [show l.length - 9 * m = 0 by omega]
        simp [decV]
      rw [hz]; omega
theorem val_grp_all {l : List Nat} {m : Nat} (h : l.length ≤ 9 * m) : val (grp l m) = decV l := by rw [val_grp, show l.length - 9 * m = 0 by omega, List.drop_zero]
end Go.Sw

namespace Go.Sw
open Go Go.RowKit
set_option linter.unusedVariables false
@[reducible] def mB : ByteArray := ⟨#[45]⟩
@[reducible] def sB : ByteArray := ⟨#[47]⟩
@[reducible] def AV.str (s : ByteArray) : AV := .c (.v (.string s))
def pfx (s p : ByteArray) : Bool := decide (p.size ≤ s.size) && decide ((bsL s).take p.size = bsL p)
def cutP (s p : ByteArray) : ByteArray := if pfx s p = true then s.extract p.size s.size else s
theorem hp_y {s p : ByteArray} (h : (s.size : Int) ≥ p.size) : packA [AV.c (Cell.v (.bool ((s.extract 0 p.size).toList == p.toList)))] = AV.bool (pfx s p) := by
  refine bE ?_
  unfold pfx
  rw [eqb_iff, bsL_ext, decide_eq_true (show p.size ≤ s.size by omega), Bool.true_and, List.drop_zero]
theorem hp_n {s p : ByteArray} (h : ¬(s.size : Int) ≥ p.size) : packA [AV.c (Cell.v (.bool false))] = AV.bool (pfx s p) := by
  refine bE ?_
  unfold pfx
  rw [decide_eq_false (show ¬p.size ≤ s.size by omega)]; rfl
theorem cp_n {s p : ByteArray} (h : (!pfx s p) = true) : packA [AV.c (Cell.v (.string s)), AV.c (Cell.v (.bool false))] = AV.tup [AV.str (cutP s p), AV.bool (pfx s p)] := by
  have h : pfx s p = false := by simpa using h
  unfold cutP
  rw [h, if_neg (by decide)]; rfl
theorem cp_y {s p : ByteArray} (h : (!pfx s p) = false) : packA [AV.c (Cell.v (.string (s.extract p.size s.size))), AV.c (Cell.v (.bool true))] = AV.tup [AV.str (cutP s p), AV.bool (pfx s p)] := by
  have h : pfx s p = true := by simpa using h
  unfold cutP
  rw [h, if_pos rfl]; rfl
theorem pfx_le {s p : ByteArray} (h : (!pfx s p) = false) : p.size ≤ s.size := by
  have h : pfx s p = true := by simpa using h
  unfold pfx at h
  simp only [Bool.and_eq_true, decide_eq_true_eq] at h
  exact h.1
theorem cutP_size (s p : ByteArray) : (cutP s p).size ≤ s.size := by
  unfold cutP
  split
  · rw [ByteArray.size_extract]; omega
  · omega
def dgt (l : List Nat) (j : Nat) : Prop := 48 ≤ l.getD j 0 ∧ l.getD j 0 ≤ 57
instance {l : List Nat} {j : Nat} : Decidable (dgt l j) := by unfold dgt; infer_instance
/-- The text of an integer. -/
def okI (s : ByteArray) : Bool :=
  decide (0 < (cutP s mB).size) && (decide (s.size ≤ 65536) && (!(decide ((bsL (cutP s mB)).getD 0 0 = 48) && (decide (1 < (cutP s mB).size) || pfx s mB)) && decide (∀ j, j < (cutP s mB).size → dgt (bsL (cutP s mB)) j)))
def parN (s : ByteArray) : Int := if okI s = true then sgnv (pfx s mB) (decV (bsL (cutP s mB))) else 0
def parE (s : ByteArray) : Int := if okI s = true then 0 else 2
@[reducible] def parR (s : ByteArray) : AV := .tup [Z (parN s), .int .i64 (parE s)]
theorem z0_eq : Z 0 = AV.agg [Cell.v (.bool false), Cell.sl 1 []] := by
  show AV.agg [Cell.v (.bool (decide ((0 : Int) < 0))), lmc (lim (0 : Int).natAbs)] = _
  rw [show (0 : Int).natAbs = 0 from rfl, lim_zero]; rfl
theorem par_no {s : ByteArray} (h : okI s = false) : packA [AV.agg [Cell.v (.bool false), Cell.sl 1 []], AV.c (Cell.v (.int .i64 2))] = parR s := by
  unfold parR parN parE
  rw [h, if_neg (by decide), if_neg (by decide), z0_eq]; rfl
theorem par_yes {s : ByteArray} (h : okI s = true) {l : List Nat} (hl : val l = decV (bsL (cutP s mB))) : packA [Z (sgnv (pfx s mB) (val l)), AV.c (Cell.v (.int .i64 0))] = parR s := by
  unfold parR parN parE
  rw [h, if_pos rfl, if_pos rfl, hl]; rfl
theorem dgts {b : ByteArray} (h : ∀ j, j < b.size → dgt (bsL b) j) : ∀ c ∈ bsL b, c ≤ 57 := fun c hc => by
  obtain ⟨j, hj, e⟩ := List.getElem_of_mem hc
  have := h j (by rwa [bsL_len] at hj)
  unfold dgt at this
  rw [List.getD_eq_getElem?_getD, List.getElem?_eq_getElem hj, e] at this
  exact this.2
/-! ### The rounds of Parse -/
section
variable {s b : ByteArray} {k m : Nat}
theorem ok_n1 (h : bsL (cutP s mB) = bsL ⟨#[]⟩) : okI s = false := by
  have : (cutP s mB).size = 0 := by rw [← bsL_len, h]; rfl
  unfold okI; rw [decide_eq_false (by omega)]; rfl
theorem ok_n2 (h : (s.size : Int) > 65536) : okI s = false := by
  unfold okI; rw [decide_eq_false (show ¬s.size ≤ 65536 by omega)]; simp
theorem ok_n3 (h : (((bsL (cutP s mB)).getD 0 0 : Nat) : Int) = 48) (h2 : ((cutP s mB).size : Int) > 1) : okI s = false := by
  unfold okI
  rw [decide_eq_true (show (bsL (cutP s mB)).getD 0 0 = 48 by omega), decide_eq_true (show 1 < (cutP s mB).size by omega)]; simp
theorem ok_n4 (h : (((bsL (cutP s mB)).getD 0 0 : Nat) : Int) = 48) (h2 : pfx s mB = true) : okI s = false := by
  unfold okI
  rw [decide_eq_true (show (bsL (cutP s mB)).getD 0 0 = 48 by omega), h2]; simp
theorem ok_n5 (hk : k < (cutP s mB).size) (h : ¬dgt (bsL (cutP s mB)) k) : okI s = false := by
  unfold okI
  rw [decide_eq_false (show ¬∀ j, j < (cutP s mB).size → dgt (bsL (cutP s mB)) j from fun g => h (g k hk))]; simp
theorem ok_y (h1 : ¬bsL (cutP s mB) = bsL ⟨#[]⟩) (h2 : ¬(s.size : Int) > 65536) (h3 : ¬((((bsL (cutP s mB)).getD 0 0 : Nat) : Int) = 48 ∧ (((cutP s mB).size : Int) > 1 ∨ pfx s mB = true)))
    (h4 : ∀ j, j < (cutP s mB).size → dgt (bsL (cutP s mB)) j) : okI s = true := by
  have e1 : 0 < (cutP s mB).size := by
    refine Nat.pos_of_ne_zero fun e => h1 ?_
    have : (bsL (cutP s mB)).length = 0 := by rw [bsL_len, e]
    rw [List.length_eq_zero_iff.1 this]; rfl
  unfold okI
  rw [decide_eq_true e1, decide_eq_true (show s.size ≤ 65536 by omega), decide_eq_true h4]
  by_cases g : (bsL (cutP s mB)).getD 0 0 = 48
  · rw [decide_eq_true g, decide_eq_false (fun g2 => h3 ⟨by omega, .inl (by omega)⟩)]
    cases hp : pfx s mB with
    | true => exact absurd ⟨by omega, .inr hp⟩ h3
    | false => rfl
  · rw [decide_eq_false g]; rfl
theorem dg_lo (h : (((bsL b).getD k 0 : Nat) : Int) < 48) : ¬dgt (bsL b) k := fun g => by have := g.1; omega
theorem dg_hi (h : (((bsL b).getD k 0 : Nat) : Int) > 57) : ¬dgt (bsL b) k := fun g => by have := g.2; omega
theorem dg_step (h : ∀ j, j < k → dgt (bsL b) j) (h1 : ¬(((bsL b).getD k 0 : Nat) : Int) < 48) (h2 : ¬(((bsL b).getD k 0 : Nat) : Int) > 57) : ∀ j, j < k + 1 → dgt (bsL b) j := fun j hj => by
  rcases Nat.lt_succ_iff_lt_or_eq.1 hj with g | g
  · exact h j g
  · subst g; unfold dgt; omega
/-- The bytes of the m-th group from the end. -/
def gbs (b : ByteArray) (m : Nat) : List Nat := ((bsL b).take (b.size - 9 * m)).drop (b.size - 9 * (m + 1))
theorem gbs_len (b : ByteArray) (m : Nat) : (gbs b m).length = b.size - 9 * m - (b.size - 9 * (m + 1)) := by
  unfold gbs; rw [List.length_drop, List.length_take, bsL_len]; omega
theorem gbs_ext (b : ByteArray) (m : Nat) : bsL (b.extract (b.size - 9 * (m + 1)) (b.size - 9 * m)) = gbs b m := bsL_ext b _ _
theorem gbs_get (b : ByteArray) (m j : Nat) (h : j < (gbs b m).length) : (gbs b m).getD j 0 = (bsL b).getD (b.size - 9 * (m + 1) + j) 0 := by
  rw [gbs_len] at h
  unfold gbs
  rw [List.getD_eq_getElem?_getD, List.getD_eq_getElem?_getD, List.getElem?_drop, List.getElem?_take, if_pos (by omega)]
theorem gbs_dg (h : ∀ j, j < b.size → dgt (bsL b) j) (hj : k < (gbs b m).length) : 48 ≤ (gbs b m).getD k 0 ∧ (gbs b m).getD k 0 ≤ 57 := by
  have h2 := hj
  rw [gbs_len] at h2
  have := h (b.size - 9 * (m + 1) + k) (by omega)
  unfold dgt at this
  rw [gbs_get b m k hj]
  exact this
theorem gbs_lt (h : ∀ j, j < b.size → dgt (bsL b) j) (hj : k ≤ (gbs b m).length) : decV ((gbs b m).take k) < 10 ^ k := by
  have := decV_lt (l := (gbs b m).take k) fun c hc => dgts h c (List.mem_of_mem_take (List.mem_of_mem_drop (List.mem_of_mem_take hc)))
  rw [List.length_take, Nat.min_eq_left hj] at this
  exact this
theorem gbs_step (hj : k < (gbs b m).length) : decV ((gbs b m).take (k + 1)) = 10 * decV ((gbs b m).take k) + ((gbs b m).getD k 0 - 48) := by
  have : (gbs b m).take (k + 1) = (gbs b m).take k ++ [(gbs b m).getD k 0] := by
    rw [List.take_succ, List.getD_eq_getElem?_getD, List.getElem?_eq_getElem hj]; rfl
  rw [this, decV_snoc]
theorem gbs_end (b : ByteArray) (m : Nat) (hj : ¬k < (gbs b m).length) : decV ((gbs b m).take k) = chk (bsL b) m := by
  rw [List.take_of_length_le (by omega)]
  unfold gbs chk
  rw [bsL_len]
theorem u32_step {x : Nat} {c : Nat} (hx : x < 100000000) (hc : 48 ≤ c ∧ c ≤ 57) :
    IntKind.u32.wrap (IntKind.u32.wrap (10 * (x : Int)) + IntKind.u32.wrap (IntKind.u8.wrap ((c : Int) - 48))) = ((10 * x + (c - 48) : Nat) : Int) := by
  simp only [IntKind.wrap_u32, IntKind.wrap_u8]
  omega
theorem grpG {T : TypeId} {l : List Nat} {x : Nat} (h : x = chk l m) : some (Bk.grow T 1 (((grp l m).map fun x => [Cell.v (u32 x)]) ++ [[Cell.v (.int .u32 (x : Nat))]])) = some (Bk.grow T 1 ((grp l (m + 1)).map fun x => [Cell.v (u32 x)])) := by
  rw [grp_snoc, List.map_append, h]; rfl
theorem ne_size (h : ¬bsL b = bsL ⟨#[]⟩) : 0 ≤ (0 : Int) ∧ (0 : Int) < (b.size : Nat) := by
  refine ⟨Int.le_refl _, ?_⟩
  have : 0 < b.size := by
    refine Nat.pos_of_ne_zero fun e => h ?_
    have : (bsL b).length = 0 := by rw [bsL_len, e]
    rw [List.length_eq_zero_iff.1 this]; rfl
  omega
theorem gbs_u32 {q : Nat} (h : ∀ j, j < b.size → dgt (bsL b) j) (hq : q < (gbs b m).length) :
    some (AV.int .u32 (IntKind.u32.wrap (IntKind.u32.wrap (10 * (decV ((gbs b m).take q) : Nat)) + IntKind.u32.wrap (IntKind.u8.wrap (((bsL (b.extract (b.size - 9 * (m + 1)) (b.size - 9 * m))).getD q 0 : Nat) - 48))))) = some (AV.int .u32 (decV ((gbs b m).take (q + 1)) : Nat)) := by
  rw [gbs_ext, gbs_step hq]
  have h1 := gbs_lt (m := m) h (Nat.le_of_lt hq)
  have h2 : (gbs b m).length ≤ 9 := by rw [gbs_len]; omega
  have h3 : 10 ^ q ≤ 10 ^ 8 := Nat.pow_le_pow_right (by decide) (by omega)
  rw [u32_step (by omega) (gbs_dg h hq)]
theorem grpX {T : TypeId} {q : Nat} (hq : ¬q < (gbs b m).length) : some (Bk.grow T 1 (((grp (bsL b) m).map fun x => [Cell.v (u32 x)]) ++ [[Cell.v (.int .u32 (decV ((gbs b m).take q) : Nat))]])) = some (Bk.grow T 1 ((grp (bsL b) (m + 1)).map fun x => [Cell.v (u32 x)])) := grpG (gbs_end b m hq)
theorem ok_a {c n : Int} {p : Bool} (h : ¬c = 48) : ¬(c = 48 ∧ (n > 1 ∨ p = true)) := fun g => h g.1
theorem ok_b {c n : Int} {p : Bool} (h : ¬n > 1) (h2 : p = false) : ¬(c = 48 ∧ (n > 1 ∨ p = true)) := fun g => by
  rcases g.2 with g | g
  · exact h g
  · rw [h2] at g; cases g
theorem all_of (h1 : k ≤ b.size) (h2 : ¬(k : Int) < b.size) (h : ∀ j, j < k → dgt (bsL b) j) : ∀ j, j < b.size → dgt (bsL b) j := fun j hj => h j (by omega)
theorem grp_end (h : ¬((b.size : Nat) : Int) - 9 * (m : Int) > 0) : val (grp (bsL b) m) = decV (bsL b) := val_grp_all (by rw [bsL_len]; omega)
theorem ext_eq {a c a' c' : Nat} (h1 : a = a') (h2 : c = c') : some (AV.c (Cell.sl 1 (bytesC (b.extract a c)))) = some (AV.c (Cell.sl 1 (bytesC (b.extract a' c')))) := by rw [h1, h2]
end
/-! ### Small numbers -/
def digS : ByteArray := ⟨(((List.range 10).map fun i => UInt8.ofNat (48 + i)) ++ ((List.range 26).map fun i => UInt8.ofNat (97 + i))).toArray⟩
def smlS : ByteArray := ⟨((List.range 100).flatMap fun i => [UInt8.ofNat (48 + i / 10), UInt8.ofNat (48 + i % 10)]).toArray⟩
def smallS (n : Nat) : ByteArray := if n < 10 then digS.extract n (n + 1) else smlS.extract (2 * n) (2 * n + 2)
theorem small_1 {n : Nat} {L : ByteArray} (h : (n : Int) < 10) (hL : L = digS) : packA [AV.c (Cell.v (.string (L.extract n (IntKind.i64.wrap ((n : Int) + 1)).toNat)))] = AV.str (smallS n) := by
  rw [hL, wi64 (by omega) (by omega), show ((n : Int) + 1).toNat = n + 1 by omega]
  unfold smallS
  rw [if_pos (by omega)]; rfl
theorem small_2 {n : Nat} {L : ByteArray} (h : ¬(n : Int) < 10) (h2 : n < 100) (hL : L = smlS) : packA [AV.c (Cell.v (.string (L.extract (IntKind.i64.wrap ((n : Int) * 2)).toNat (IntKind.i64.wrap (IntKind.i64.wrap ((n : Int) * 2) + 2)).toNat)))] = AV.str (smallS n) := by
  rw [hL, wi64 (a := (n : Int) * 2) (by omega) (by omega), wi64 (by omega) (by omega), show ((n : Int) * 2 + 2).toNat = 2 * n + 2 by omega, show ((n : Int) * 2).toNat = 2 * n by omega]
  unfold smallS
  rw [if_neg (by omega)]; rfl
theorem small_p1 {n : Nat} {L : ByteArray} (h : (n : Int) < 10) (hL : (36 : Int) ≤ L.size) :
    0 ≤ (n : Int) ∧ (n : Int) ≤ IntKind.i64.wrap ((n : Int) + 1) ∧ IntKind.i64.wrap ((n : Int) + 1) ≤ L.size ∧ (L.size : Int) ≤ L.size ∧ ((none : Option Int).isSome = true → (some (IntKind.i64.wrap ((n : Int) + 1))).isSome = true) := by
  rw [wi64 (by omega) (by omega)]
  exact ⟨by omega, by omega, by omega, Int.le_refl _, fun _ => rfl⟩
theorem small_p2 {n : Nat} {L : ByteArray} (h2 : n < 100) (hL : (200 : Int) ≤ L.size) :
    0 ≤ IntKind.i64.wrap ((n : Int) * 2) ∧ IntKind.i64.wrap ((n : Int) * 2) ≤ IntKind.i64.wrap (IntKind.i64.wrap ((n : Int) * 2) + 2) ∧ IntKind.i64.wrap (IntKind.i64.wrap ((n : Int) * 2) + 2) ≤ L.size ∧ (L.size : Int) ≤ L.size ∧
      ((none : Option Int).isSome = true → (some (IntKind.i64.wrap (IntKind.i64.wrap ((n : Int) * 2) + 2))).isSome = true) := by
  rw [wi64 (a := (n : Int) * 2) (by omega) (by omega), wi64 (by omega) (by omega)]
  exact ⟨by omega, by omega, by omega, Int.le_refl _, fun _ => rfl⟩
/-! ### Cut at one byte -/
def ixB (s : ByteArray) (c : Int) : Int := Lib.indexByte s.data.toList c.toNat.toUInt8
def ixS (s p : ByteArray) : Int := if bsL p = bsL s then 0 else ixB s ((bsL p).getD 0 0 : Nat)
theorem ix_lt (l : List UInt8) (c : UInt8) : Lib.indexByte l c < l.length ∧ -1 ≤ Lib.indexByte l c := by
  induction l with
  | nil => simp [Lib.indexByte]
  | cons b r ih =>
    unfold Lib.indexByte
    split
    · simp only [List.length_cons]; omega
    · split
      · simp only [List.length_cons]; omega
      · simp only [List.length_cons]; omega
theorem ixB_lt (s : ByteArray) (c : Int) : ixB s c < s.size ∧ -1 ≤ ixB s c := by
  have := ix_lt s.data.toList c.toNat.toUInt8
  unfold ixB
  simpa using this
theorem ixS_lt {s p : ByteArray} (h : p.size = 1) : ixS s p < s.size ∧ -1 ≤ ixS s p := by
  unfold ixS
  split
  · rename_i e
    have : s.size = 1 := by rw [← bsL_len, ← e, bsL_len, h]
    omega
  · exact ixB_lt s _
def ctA (s p : ByteArray) : ByteArray := if 0 ≤ ixS s p then s.extract 0 (ixS s p).toNat else s
def ctB (s p : ByteArray) : ByteArray := if 0 ≤ ixS s p then s.extract (ixS s p + p.size).toNat s.size else ⟨#[]⟩
theorem ct_y {s p : ByteArray} (h : ixS s p ≥ 0) : packA [AV.c (Cell.v (.string (s.extract 0 (ixS s p).toNat))), AV.c (Cell.v (.string (s.extract (ixS s p + p.size).toNat s.size))), AV.c (Cell.v (.bool true))] = AV.tup [AV.str (ctA s p), AV.str (ctB s p), AV.bool (decide (0 ≤ ixS s p))] := by
  unfold ctA ctB
  rw [if_pos h, if_pos h, decide_eq_true (show 0 ≤ ixS s p from h)]; rfl
theorem ct_n {s p : ByteArray} (h : ¬ixS s p ≥ 0) : packA [AV.c (Cell.v (.string s)), AV.c (Cell.v (.string ⟨#[]⟩)), AV.c (Cell.v (.bool false))] = AV.tup [AV.str (ctA s p), AV.str (ctB s p), AV.bool (decide (0 ≤ ixS s p))] := by
  unfold ctA ctB
  rw [if_neg h, if_neg h, decide_eq_false (show ¬0 ≤ ixS s p from h)]; rfl
theorem ix_y {s p : ByteArray} (h : bsL p = bsL s) : packA [AV.c (Cell.v (.int .i64 0))] = AV.int .i64 (ixS s p) := by unfold ixS; rw [if_pos h]; rfl
theorem ix_n {s p : ByteArray} (h : ¬bsL p = bsL s) : packA [AV.c (Cell.v (.int .i64 (ixB s ((bsL p).getD 0 0 : Nat))))] = AV.int .i64 (ixS s p) := by unfold ixS; rw [if_neg h]; rfl
theorem packQ {n d : Int} {q : Rat} (h1 : n = q.num) (h2 : d = q.den) : packA [AV.agg [zs n, zl n, zs d, zl d]] = R q := by subst h1 h2; rfl
end Go.Sw

namespace Go.Proofs.YtghlkihmnopenaaGreatDoor
open Go Go.RowKit Go.Sw
set_option linter.unusedVariables false
set_option maxRecDepth 100000
set_option maxHeartbeats 8000000
set_option synthInstance.maxSize 4000
set_option synthInstance.maxHeartbeats 400000
instance s_hp (s p : ByteArray) : DenI Tryz.prog 136 [.str s, .str p] (True) (.bool (pfx s p)) := ⟨fun hp => by
 refine den_of (τ := tab) tab_ok mixed_ Tryz.func136 rfl (by kernel_rfl) (by kernel_rfl) (by kernel_rfl) ?_
 all_goals (repeat' ((try (conv => whnf)); first
  | refine call_0 ?_
  | refine call_i ?_ ?_
  | refine call_c ?_ (fun _ => ?_) (fun _ => ?_)
  | (with_reducible refine onB_t ?_)
  | (with_reducible refine onB_f ?_)
  | (with_reducible refine onB_d (fun _ => ?_) (fun _ => ?_))
  | (with_reducible refine onB_n (fun _ => ?_) (fun _ => ?_))
  | refine OnB.mk (fun _ => ?_) (fun _ => ?_)
  | refine obl_i ?_ ?_
  | refine Drw.mk (by kernel_rfl) ?_
  | refine mks_i ?_ ?_
  | refine slp_i ?_ ?_
  | (with_reducible refine elem_u ?_ ?_)
  | (with_reducible refine elem_0 ?_)
  | (with_reducible refine elem_1 ?_)
  | (with_reducible refine strAt_i ?_ ?_)
  | (with_reducible refine elem_b ?_ ?_)
  | refine Ends.mk ?_))
 all_goals (try refine Pr.mk ?_)
 all_goals (try simp only [Option.getD_some, Option.getD_none, Int.toNat_natCast, Int.toNat_zero] at *)
 all_goals first
  | exact hp_y (by assumption)
  | exact hp_n (by assumption)
  | rfl
  | omega
  | decide
  | ((repeat' apply And.intro) <;> first | omega | decide | (intro h; cases h; done) | (intro h; rfl))
  | skip⟩

instance s_cp0 (s p : ByteArray) : DenI Tryz.prog 125 [.str s, .str p] (True) (.tup [.str (cutP s p), .bool (pfx s p)]) := ⟨fun hp => by
 refine den_of (τ := tab) tab_ok mixed_ Tryz.func125 rfl (by kernel_rfl) (by kernel_rfl) (by kernel_rfl) ?_
 all_goals (repeat' ((try (conv => whnf)); first
  | refine call_0 ?_
  | refine call_i ?_ ?_
  | refine call_c ?_ (fun _ => ?_) (fun _ => ?_)
  | (with_reducible refine onB_t ?_)
  | (with_reducible refine onB_f ?_)
  | (with_reducible refine onB_d (fun _ => ?_) (fun _ => ?_))
  | (with_reducible refine onB_n (fun _ => ?_) (fun _ => ?_))
  | refine OnB.mk (fun _ => ?_) (fun _ => ?_)
  | refine obl_i ?_ ?_
  | refine Drw.mk (by kernel_rfl) ?_
  | refine mks_i ?_ ?_
  | refine slp_i ?_ ?_
  | (with_reducible refine elem_u ?_ ?_)
  | (with_reducible refine elem_0 ?_)
  | (with_reducible refine elem_1 ?_)
  | (with_reducible refine strAt_i ?_ ?_)
  | (with_reducible refine elem_b ?_ ?_)
  | refine Ends.mk ?_))
 all_goals (try refine Pr.mk ?_)
 all_goals (try simp only [Option.getD_some, Option.getD_none, Int.toNat_natCast, Int.toNat_zero] at *)
 all_goals first
  | exact cp_y (by assumption)
  | exact cp_n (by assumption)
  | (have z := pfx_le (by assumption); (repeat' apply And.intro) <;> first | omega | decide | (intro h; cases h; done))
  | rfl
  | omega
  | decide
  | ((repeat' apply And.intro) <;> first | omega | decide | (intro h; cases h; done) | (intro h; rfl))
  | skip⟩

instance s_hp2 (s p : ByteArray) : DenI Tryz.prog 129 [.str s, .str p] (True) (.bool (pfx s p)) := ⟨fun hp => by
 refine den_of (τ := tab) tab_ok mixed_ Tryz.func129 rfl (by kernel_rfl) (by kernel_rfl) (by kernel_rfl) ?_
 all_goals (repeat' ((try (conv => whnf)); first
  | refine call_0 ?_
  | refine call_i ?_ ?_
  | refine call_c ?_ (fun _ => ?_) (fun _ => ?_)
  | (with_reducible refine onB_t ?_)
  | (with_reducible refine onB_f ?_)
  | (with_reducible refine onB_d (fun _ => ?_) (fun _ => ?_))
  | (with_reducible refine onB_n (fun _ => ?_) (fun _ => ?_))
  | refine OnB.mk (fun _ => ?_) (fun _ => ?_)
  | refine obl_i ?_ ?_
  | refine Drw.mk (by kernel_rfl) ?_
  | refine mks_i ?_ ?_
  | refine slp_i ?_ ?_
  | (with_reducible refine elem_u ?_ ?_)
  | (with_reducible refine elem_0 ?_)
  | (with_reducible refine elem_1 ?_)
  | (with_reducible refine strAt_i ?_ ?_)
  | (with_reducible refine elem_b ?_ ?_)
  | refine Ends.mk ?_))
 all_goals (try refine Pr.mk ?_)
 all_goals (try simp only [Option.getD_some, Option.getD_none, Int.toNat_natCast, Int.toNat_zero] at *)
 all_goals first
  | rfl
  | omega
  | decide
  | ((repeat' apply And.intro) <;> first | omega | decide | (intro h; cases h; done) | (intro h; rfl))
  | skip⟩

instance s_cp (s p : ByteArray) : DenI Tryz.prog 105 [.str s, .str p] (True) (.tup [.str (cutP s p), .bool (pfx s p)]) := ⟨fun hp => by
 refine den_of (τ := tab) tab_ok mixed_ Tryz.func105 rfl (by kernel_rfl) (by kernel_rfl) (by kernel_rfl) ?_
 all_goals (repeat' ((try (conv => whnf)); first
  | refine call_0 ?_
  | refine call_i ?_ ?_
  | refine call_c ?_ (fun _ => ?_) (fun _ => ?_)
  | (with_reducible refine onB_t ?_)
  | (with_reducible refine onB_f ?_)
  | (with_reducible refine onB_d (fun _ => ?_) (fun _ => ?_))
  | (with_reducible refine onB_n (fun _ => ?_) (fun _ => ?_))
  | refine OnB.mk (fun _ => ?_) (fun _ => ?_)
  | refine obl_i ?_ ?_
  | refine Drw.mk (by kernel_rfl) ?_
  | refine mks_i ?_ ?_
  | refine slp_i ?_ ?_
  | (with_reducible refine elem_u ?_ ?_)
  | (with_reducible refine elem_0 ?_)
  | (with_reducible refine elem_1 ?_)
  | (with_reducible refine strAt_i ?_ ?_)
  | (with_reducible refine elem_b ?_ ?_)
  | refine Ends.mk ?_))
 all_goals (try refine Pr.mk ?_)
 all_goals (try simp only [Option.getD_some, Option.getD_none, Int.toNat_natCast, Int.toNat_zero] at *)
 all_goals first
  | rfl
  | omega
  | decide
  | ((repeat' apply And.intro) <;> first | omega | decide | (intro h; cases h; done) | (intro h; rfl))
  | skip⟩

end Go.Proofs.YtghlkihmnopenaaGreatDoor

namespace Go.Proofs.YtghlkihmnopenaaGreatDoor
open Go Go.RowKit Go.Sw
set_option linter.unusedVariables false
set_option maxRecDepth 100000
set_option maxHeartbeats 8000000
set_option synthInstance.maxSize 4000
set_option synthInstance.maxHeartbeats 400000
instance s_small (n : Nat) : DenI Tryz.prog 138 [.int .i64 (n : Nat)] (n < 100) (.str (smallS n)) := ⟨fun hp => by
 refine den_of (τ := tab) tab_ok mixed_ Tryz.func138 rfl (by kernel_rfl) (by kernel_rfl) (by kernel_rfl) ?_
 all_goals (repeat' ((try (conv => whnf)); first
  | refine call_0 ?_
  | refine call_i ?_ ?_
  | refine call_c ?_ (fun _ => ?_) (fun _ => ?_)
  | (with_reducible refine onB_t ?_)
  | (with_reducible refine onB_f ?_)
  | (with_reducible refine onB_d (fun _ => ?_) (fun _ => ?_))
  | (with_reducible refine onB_n (fun _ => ?_) (fun _ => ?_))
  | refine OnB.mk (fun _ => ?_) (fun _ => ?_)
  | refine obl_i ?_ ?_
  | refine Drw.mk (by kernel_rfl) ?_
  | refine mks_i ?_ ?_
  | refine slp_i ?_ ?_
  | (with_reducible refine elem_u ?_ ?_)
  | (with_reducible refine elem_0 ?_)
  | (with_reducible refine elem_1 ?_)
  | refine Ends.mk ?_))
 all_goals (try refine Pr.mk ?_)
 all_goals (try simp only [Option.getD_some, Option.getD_none, Int.toNat_natCast])
 · (refine small_p1 (by assumption) ?_; decide +kernel)
 · (refine small_1 (by assumption) ?_; decide +kernel)
 · (refine small_p2 hp ?_; decide +kernel)
 · (refine small_2 (by assumption) hp ?_; decide +kernel)⟩

instance s_smallz (z : Int) : DenI Tryz.prog 138 [.int .i64 z] (0 ≤ z ∧ z < 100) (.str (smallS z.toNat)) := ⟨fun hp => by
 obtain ⟨n, rfl⟩ := Int.eq_ofNat_of_zero_le hp.1
 exact (s_small n).den (by omega)⟩
instance s_fu0 (z : Int) : DenI Tryz.prog 127 [.int .u64 z, .int .i64 10] (0 ≤ z ∧ z < 100) (.str (smallS z.toNat)) := ⟨fun hp => by
 have w10 : IntKind.i64.wrap z = z := wi64 (by omega) (by omega)
 have hn : decide (z < 100) = true := decide_eq_true (by omega)
 all_goals refine den_of (τ := tab) tab_ok mixed_ Tryz.func127 rfl (by kernel_rfl) (by kernel_rfl) (by kernel_rfl) ?_
 all_goals (repeat' ((try (conv => whnf)); first
  | (with_reducible refine onB_yes (by assumption) ?_)
  | refine call_0 ?_
  | refine call_i ?_ ?_
  | refine call_c ?_ (fun _ => ?_) (fun _ => ?_)
  | (with_reducible refine onB_t ?_)
  | (with_reducible refine onB_f ?_)
  | (with_reducible refine onB_d (fun _ => ?_) (fun _ => ?_))
  | (with_reducible refine onB_n (fun _ => ?_) (fun _ => ?_))
  | refine OnB.mk (fun _ => ?_) (fun _ => ?_)
  | refine obl_i ?_ ?_
  | refine Drw.mk (by kernel_rfl) ?_
  | refine mks_i ?_ ?_
  | refine slp_i ?_ ?_
  | (with_reducible refine elem_u ?_ ?_)
  | (with_reducible refine elem_0 ?_)
  | (with_reducible refine elem_1 ?_)
  | refine Ends.mk ?_))
 all_goals (try refine Pr.mk ?_)
 all_goals (try rw [w10])
 · exact hp
 · rfl
 · (exfalso; omega)
 · (exfalso; omega)⟩

instance s_fu (z : Int) : DenI Tryz.prog 111 [.int .u64 z, .int .i64 10] (0 ≤ z ∧ z < 100) (.str (smallS z.toNat)) := ⟨fun hp => by
 refine den_of (τ := tab) tab_ok mixed_ Tryz.func111 rfl (by kernel_rfl) (by kernel_rfl) (by kernel_rfl) ?_
 all_goals (repeat' ((try (conv => whnf)); first
  | refine call_0 ?_
  | refine call_i ?_ ?_
  | refine call_c ?_ (fun _ => ?_) (fun _ => ?_)
  | (with_reducible refine onB_t ?_)
  | (with_reducible refine onB_f ?_)
  | (with_reducible refine onB_d (fun _ => ?_) (fun _ => ?_))
  | (with_reducible refine onB_n (fun _ => ?_) (fun _ => ?_))
  | refine OnB.mk (fun _ => ?_) (fun _ => ?_)
  | refine obl_i ?_ ?_
  | refine Drw.mk (by kernel_rfl) ?_
  | refine mks_i ?_ ?_
  | refine slp_i ?_ ?_
  | (with_reducible refine elem_u ?_ ?_)
  | (with_reducible refine elem_0 ?_)
  | (with_reducible refine elem_1 ?_)
  | refine Ends.mk ?_))
 all_goals (try refine Pr.mk ?_)
 · exact hp
 · rfl⟩

end Go.Proofs.YtghlkihmnopenaaGreatDoor

namespace Go.Proofs.YtghlkihmnopenaaGreatDoor
open Go Go.RowKit Go.Sw Go.Shelf
set_option linter.unusedVariables false
set_option maxRecDepth 100000
set_option maxHeartbeats 8000000
theorem sizeB : (Tryz.prog.info? 93).map (fun i => i.size) = some 2 := by kernel_rfl
theorem liesB : liesAt Tryz.prog Tryz.prog.depth 93 (2 / Tryz.prog.cellsOf 93) 0 93 1 = true := by kernel_rfl
theorem cc_used (b : Nat) (w : World) (h0 : w.cell? ⟨b, 0, none⟩ = some (.pointer (some ⟨b, 0, none⟩))) :
    Calls Tryz.prog 126 #[.pointer (some ⟨b, 0, none⟩)] w fun e w' => e = .returned (.tuple #[]) ∧ w' = w := by
  obtain ⟨j, hj, _⟩ := Option.map_eq_some_iff.1 sizeB
  go_enter Tryz.func126, Tryz.ntmps126
  go_wp2
  rw [Lib.run_neq_ptr_same w _ Tryz.underlying91 hj]
  go_wp2
  go_end0
  exact ⟨rfl, rfl⟩
theorem cc_fresh (b : Nat) (w : World) (h0 : w.cell? ⟨b, 0, none⟩ = some (.pointer none)) (hsh : w.shape? b = some (93, 2)) (hfz : w.frozen? ⟨b, 0, none⟩ = false) :
    Calls Tryz.prog 126 #[.pointer (some ⟨b, 0, none⟩)] w fun e w' => e = .returned (.tuple #[]) ∧ w' = w.setCell ⟨b, 0, none⟩ (.pointer (some ⟨b, 0, none⟩)) := by
  obtain ⟨j, hj, hjs⟩ := Option.map_eq_some_iff.1 sizeB
  go_enter Tryz.func126, Tryz.ntmps126
  go_wp2
  rw [Lib.run_to_unsafe w ⟨b, 0, none⟩ Tryz.underlying91 Tryz.underlying117 hj (by rw [hjs]; decide) hsh (Nat.zero_lt_succ 1)]
  simp only [Result.andThen]
  rw [Oper.upon_value]
  go_wp2
  rw [run_callFunc_extern Tryz.func137 (by kernel_rfl) (by kernel_rfl) (by kernel_rfl) (e := Extern.AbiNoEscape.same) (by kernel_rfl)]
  rw [Lib.run_noEscape]
  simp only [Result.andThen]
  rw [Oper.upon_value]
  go_wp2
  rw [Lib.run_from_unsafe w ⟨b, 0, none⟩ Tryz.underlying117 Tryz.underlying91 hj hsh liesB]
  simp only [Result.andThen]
  rw [Oper.upon_value]
  go_wp2
  go_end0
  exact ⟨rfl, rfl⟩
theorem cc (B b : Nat) (bs : List Value) (w : World) (h : Lib.IsBuilder 93 5 B b bs w) :
    Calls Tryz.prog 126 #[.pointer (some ⟨b, 0, none⟩)] w fun e w' => e = .returned (.tuple #[]) ∧ (Lib.BuilderAt 93 5 B b (.pointer (some ⟨b, 0, none⟩)) bs w' ∧ Below B w w') := by
  rcases h with h | h
  · refine (cc_fresh b w h.cell0 h.shape h.frozen0).mono ?_
    rintro e w' ⟨rfl, rfl⟩
    exact ⟨rfl, h.used _, (Below.refl B w).setCell (p := ⟨b, 0, none⟩) h.1 _⟩
  · refine (cc_used b w h.cell0).mono ?_
    rintro e w' ⟨rfl, rfl⟩
    exact ⟨rfl, h, Below.refl _ _⟩
theorem info5 : ∃ i0, Tryz.prog.info? 5 = some i0 ∧ i0.zero = some (.int .u8 0) ∧ i0.size = 1 ∧ i0.bytes = 1 := info_parts (by kernel_rfl)
theorem liesAt93 (w : World) {b : Nat} {x y : Value} (h : w.heap[b]? = some (.cells #[x, y] 93 (0, 0))) : b < w.heap.size := by
  rcases Nat.lt_or_ge b w.heap.size with h' | h'
  · exact h'
  · simp [Array.getElem?_eq_none h'] at h
theorem wb (B b : Nat) (bs : List Value) (c : Int) (w : World) (h : Lib.IsBuilder 93 5 B b bs w) (hlen : bs.length + 1 ≤ 1000000) (hBw : B ≤ w.heap.size) :
    Calls Tryz.prog 109 #[.pointer (some ⟨b, 0, none⟩), .int .u8 c] w fun e w' => e = .returned .nilIface ∧ (Lib.BuilderAt 93 5 B b (.pointer (some ⟨b, 0, none⟩)) (bs ++ [.int .u8 c]) w' ∧ Below B w w') := by
  obtain ⟨i0, hi, hz0, hz1, hz2⟩ := info5
  go_enter Tryz.func109, Tryz.ntmps109
  go_wp2_with (go_at_call 126; refine (cc B b bs _ h).mono ?_)
  rintro e w1 ⟨rfl, h1, hb1⟩
  obtain ⟨hB, v, hbk, hown, hne⟩ := h1
  have c0 : w1.cell? ⟨b, 0, none⟩ = some (.pointer (some ⟨b, 0, none⟩)) := by rw [Lib.cell_of_heap hbk]; rfl
  have c1 : w1.cell? ⟨b, 1, none⟩ = some v := by rw [Lib.cell_of_heap hbk]; rfl
  go_wp2_with (at_builtin; refine wpList_append_own _ rfl _ _ 88 rfl B 5 i0 (.int .u8 0) 1 1 Tryz.underlying88 hi hz0 hz1 hz2 rfl (by decide) _ _ _ rfl (hown.alloc _) ⟨w1.heap.size, 0, none⟩ 1 1 [.int .u8 c] rfl rfl ?c1 ?c2 ?c3 ?c4 ?c5 ?_)
  case c1 =>
    intro j u hj
    match j, hj with
    | 0, hj => simp at hj; subst hj; simp [Addr.add]
  case c2 => intro u hu; simp at hu; subst hu; rfl
  case c3 => unfold maxLen; omega
  case c4 => omega
  case c5 => have := hb1.size; simp; omega
  intro v' w2 hown' hgrow _
  have hlt := liesAt93 w1 hbk
  have hb2 : w2.heap[b]? = some (.cells #[.pointer (some ⟨b, 0, none⟩), v] 93 (0, 0)) := by
    rw [hgrow.block b (by simp; omega) (fun e => hne e.symm), Lib.alloc_old w1 _ b hlt]
    exact hbk
  have d0 : w2.cell? ⟨b, 0, none⟩ = some (.pointer (some ⟨b, 0, none⟩)) := by rw [Lib.cell_of_heap hb2]; rfl
  have d1 : w2.cell? ⟨b, 1, none⟩ = some v := by rw [Lib.cell_of_heap hb2]; rfl
  have f1 : w2.frozen? ⟨b, 1, none⟩ = false := Lib.frozen_of_heap hb2 1
  obtain ⟨g, cap, rfl⟩ : ∃ g cap, v' = .slice (some ⟨g, 0, none⟩) (bs.length + 1) cap := by
    rcases hown'.2 with ⟨_, h0⟩ | ⟨g, cap, cur, hv, _⟩
    · omega
    · exact ⟨g, cap, hv⟩
  go_wp2
  go_ret
  refine ⟨rfl, ?_, ?_⟩
  · exact Lib.BuilderAt.put (T := 93) (e := 5) hB hb2 (bs' := bs ++ [.int .u8 c]) (by simpa using hown') (by decide)
  · exact ((hb1.alloc (by have := hb1.size; omega) _).grown hgrow (by have := hb1.size; simp; omega) (fun k hk => (hown.lt k hk).1)).setCell (p := ⟨b, 1, none⟩) hB _
theorem ws (B b : Nat) (bs : List Value) (s : ByteArray) (w : World) (h : Lib.IsBuilder 93 5 B b bs w) (hlen : bs.length + s.size ≤ 1000000) (hBw : B ≤ w.heap.size) :
    Calls Tryz.prog 110 #[.pointer (some ⟨b, 0, none⟩), .string s] w fun e w' => e = .returned (.tuple #[.int .i64 s.size, .nilIface]) ∧ (Lib.BuilderAt 93 5 B b (.pointer (some ⟨b, 0, none⟩)) (bs ++ Lib.strCells s) w' ∧ Below B w w') := by
  obtain ⟨i0, hi, hz0, hz1, hz2⟩ := info5
  go_enter Tryz.func110, Tryz.ntmps110
  go_wp2_with (go_at_call 126; refine (cc B b bs _ h).mono ?_)
  rintro e w1 ⟨rfl, h1, hb1⟩
  obtain ⟨hB, v, hbk, hown, hne⟩ := h1
  have c0 : w1.cell? ⟨b, 0, none⟩ = some (.pointer (some ⟨b, 0, none⟩)) := by rw [Lib.cell_of_heap hbk]; rfl
  have c1 : w1.cell? ⟨b, 1, none⟩ = some v := by rw [Lib.cell_of_heap hbk]; rfl
  go_wp2_with (at_builtin; refine Lib.wpList_append_own_string _ rfl _ _ 88 9 rfl B 5 i0 Tryz.underlying88 Tryz.underlying9 hi hz0 hz1 hz2 _ _ _ rfl hown s rfl ?c3 ?c4 ?c5 ?_)
  case c3 => unfold maxLen; omega
  case c4 => omega
  case c5 => have := hb1.size; omega
  intro v' w2 hown' hgrow _
  have hlt := liesAt93 w1 hbk
  have hb2 : w2.heap[b]? = some (.cells #[.pointer (some ⟨b, 0, none⟩), v] 93 (0, 0)) := by
    rw [hgrow.block b hlt (fun e => hne e.symm)]
    exact hbk
  have d0 : w2.cell? ⟨b, 0, none⟩ = some (.pointer (some ⟨b, 0, none⟩)) := by rw [Lib.cell_of_heap hb2]; rfl
  have d1 : w2.cell? ⟨b, 1, none⟩ = some v := by rw [Lib.cell_of_heap hb2]; rfl
  have f1 : w2.frozen? ⟨b, 1, none⟩ = false := Lib.frozen_of_heap hb2 1
  obtain ⟨ao, n', cap, rfl⟩ : ∃ ao n' cap, v' = .slice ao n' cap := by
    rcases hown'.2 with ⟨hv, _⟩ | ⟨g, cap, cur, hv, _⟩
    · exact ⟨_, _, _, hv⟩
    · exact ⟨_, _, _, hv⟩
  go_wp2
  go_ret2
  refine ⟨rfl, ?_, ?_⟩
  · exact Lib.BuilderAt.put (T := 93) (e := 5) hB hb2 (bs' := bs ++ Lib.strCells s) (by simpa [Lib.strCells_length] using hown') (by decide)
  · exact (hb1.grown hgrow (by have := hb1.size; omega) (fun k hk => (hown.lt k hk).1)).setCell (p := ⟨b, 1, none⟩) hB _
def ren169 : Ren where
  f := fun x => match x with | 169 => 113 | n => n
  t := fun x => match x with | 70 => 91 | 9 => 9 | 0 => 0 | 72 => 93 | 37 => 88 | 127 => 114 | 3 => 3 | 5 => 5 | n => n
  g := fun x => x
theorem lays169 : Lays.n169 Tryz.prog ren169 where
  mixed := by kernel_rfl
  f169 := Eq.trans Tryz.func113 (congrArg some (Eq.refl (Body.n169 ren169)))
  t0 := Tryz.underlying0
  a0 := Tryz.isAgg0
  z0 := Tryz.sizeOf0
  v0 := Tryz.zeroValue0
  t3 := Tryz.underlying3
  a3 := Tryz.isAgg3
  z3 := Tryz.sizeOf3
  v3 := Tryz.zeroValue3
  t9 := Tryz.underlying9
  a9 := Tryz.isAgg9
  z9 := Tryz.sizeOf9
  v9 := Tryz.zeroValue9
  t37 := Tryz.underlying88
  a37 := Tryz.isAgg88
  z37 := Tryz.sizeOf88
  v37 := Tryz.zeroValue88
  t70 := Tryz.underlying91
  a70 := Tryz.isAgg91
  z70 := Tryz.sizeOf91
  v70 := Tryz.zeroValue91
  t72 := Tryz.underlying93
  a72 := Tryz.isAgg93
  z72 := Tryz.sizeOf93
  v72 := Tryz.zeroValue93
  t127 := Tryz.underlying114
  a127 := Tryz.isAgg114
  z127 := Tryz.sizeOf114
  v127 := Tryz.zeroValue114
theorem ext169 : Builder.Extra Tryz.prog ren169 where
  sizeBuilder := by kernel_rfl
  liesBuilder := by kernel_rfl
  t5 := Tryz.underlying5
  a5 := Tryz.isAgg5
  z5 := Tryz.sizeOf5
  v5 := Tryz.zeroValue5
  infoByte := by kernel_rfl
  cellsByte := by kernel_rfl
  sizeByte := by kernel_rfl
  neB5 := by decide
theorem FU {m : Nat} (hm : m < 100) (w : World) : Calls Tryz.prog 111 #[.int .u64 m, .int .i64 10] w fun e w' => e = .returned (.string (smallS m)) ∧ Below w.heap.size w w' := by
  have h := ((s_fu (m : Int)).den ⟨by omega, by omega⟩).old rfl
  refine (h.2 w [] [.int .u64 m, .int .i64 10] (by simp) rfl (fun i u v hu hv => ?_)).mono ?_
  · match i, hu, hv with
    | 0, hu, hv => simp at hu hv; subst hu hv; exact .c (.v _ rfl)
    | 1, hu, hv => simp at hu hv; subst hu hv; exact .c (.v _ rfl)
  · rintro e w' ⟨u, rfl, hu, hb⟩
    refine ⟨?_, hb⟩
    cases hu with
    | d h => cases h with
      | c h => cases h; rfl
theorem al_size (w : World) (o : Obj) : (w.alloc o).heap.size = w.heap.size + 1 := by simp [World.alloc, -World.alloc_eq]
theorem al_new (w : World) (o : Obj) : (w.alloc o).heap[w.heap.size]? = some o := by simp [World.alloc, -World.alloc_eq]
theorem fmt_prep {w w1 : World} {x y : Array Value} {s t : TypeId} (hb : Below ((w.alloc (.cells x s)).alloc (.cells y t)).heap.size ((w.alloc (.cells x s)).alloc (.cells y t)) w1) :
    w1.heap[w.heap.size]? = some (.cells x s (0, 0)) ∧ w1.heap[w.heap.size + 1]? = some (.cells y t (0, 0)) ∧ Below w.heap.size w w1 ∧ w.heap.size + 2 ≤ w1.heap.size := by
  have e1 := al_size w (.cells x s)
  have e2 := al_size (w.alloc (.cells x s)) (.cells y t)
  refine ⟨?_, ?_, ⟨hb.os, hb.tape, hb.output, ?_, fun k hk => ?_⟩, ?_⟩
  · rw [hb.block _ (by omega), Lib.alloc_old _ _ _ (by omega), al_new]
  · rw [hb.block _ (by omega), ← e1, al_new]
  · have := hb.size; omega
  · rw [hb.block k (by omega), Lib.alloc_old _ _ _ (by omega), Lib.alloc_old _ _ _ hk]
  · have := hb.size; omega
theorem small_size {m : Nat} (h : m < 100) : (smallS m).size ≤ 2 ∧ 0 < (smallS m).size := by
  revert m; decide +kernel
theorem below3 {w w1 w2 w3 : World} {B : Nat} (h1 : Below w.heap.size w w1) (hB : w.heap.size ≤ B) (h2 : Below B w1 w2) (h3 : Below B w2 w3) : Below w.heap.size w w3 :=
  (h1.trans (h2.mono hB)).trans (h3.mono hB)
theorem small_ne {m : Nat} (h : m < 100) : (smallS m).data.toList ≠ [] := by
  revert m; decide +kernel
theorem cell_hdr {w2 : World} {g : Nat} {x y : Value} {t : TypeId} (h : w2.heap[g]? = some (.cells #[x, y] t (0, 0))) : w2.cell? ⟨g, 1, none⟩ = some y := by
  rw [Lib.cell_of_heap h]; rfl
theorem heap_lt {w : World} {b : Nat} {o : Obj} (h : w.heap[b]? = some o) : b < w.heap.size := by
  rcases Nat.lt_or_ge b w.heap.size with h' | h'
  · exact h'
  · simp [Array.getElem?_eq_none h'] at h
theorem bld_below {w w' : World} {T e : TypeId} {B b : Nat} {p : Value} {bs : List Value} (h : Lib.BuilderAt T e B b p bs w) (hb : Below w.heap.size w w') : Lib.BuilderAt T e B b p bs w' := by
  obtain ⟨h1, v, h2, h3, h4⟩ := h
  refine ⟨h1, v, by rw [hb.block b (heap_lt h2)]; exact h2, ⟨h3.1, ?_⟩, h4⟩
  rcases h3.2 with h | ⟨g, cap, cur, k1, k2, k3, k4⟩
  · exact .inl h
  · exact .inr ⟨g, cap, cur, k1, k2, by rw [hb.block g (heap_lt k3)]; exact k3, k4⟩
theorem fmt1 (m : Nat) (A : Addr) (cap : Nat) (w : World) (hA : A.block < w.heap.size) (hc : w.cell? A = some (.int .u32 m)) (h0 : 0 < m) (h1 : m < 100) :
    Calls Tryz.prog 83 #[.agg #[.bool false, .slice (some A) 1 cap]] w fun e w' => e = .returned (.string ⟨(smallS m).data.toList.toArray⟩) ∧ Below w.heap.size w w' := by
  go_enter Tryz.func83, Tryz.ntmps83
  go_wp2_with (go_at_call 111; refine (FU h1 _).mono ?_)
  rintro e w1 ⟨rfl, hb1⟩
  obtain ⟨q0, q1, hW, hsz⟩ := fmt_prep hb1
  have hB : Lib.IsBuilder 93 5 (w.heap.size + 1) (w.heap.size + 1) [] w1 := .inl ⟨Nat.le_refl _, .slice none 0 0, q1, World.ownsRow_nil _ _ _ _, by simp [Value.ownBlock]⟩
  clear hb1
  go_wp2_with (go_at_call 110; refine (ws _ _ _ (smallS m) _ hB (by have := (small_size h1).1; simp only [List.length_nil]; omega) (by omega)).mono ?_)
  rintro e w2 ⟨rfl, hB2, hb2⟩
  have q2 : w2.heap[w.heap.size]? = some (.cells #[.bool false, .slice (some A) 1 cap] 24 (0, 0)) := by rw [hb2.block _ (by omega)]; exact q0
  have c0 := cell_hdr q2
  go_wp2
  refine wp_loop_once ?_
  go_wp2_with (go_at_call 113; refine (Any.Builder_String lays169 ext169 _ _ (smallS m).data.toList _ (.inr hB2) (small_ne h1)).mono ?_)
  rintro e w3 ⟨rfl, hb3⟩
  go_wp2
  go_ret
  exact ⟨rfl, below3 hW (by omega) hb2 hb3⟩
theorem fmt2 (m : Nat) (A : Addr) (cap : Nat) (w : World) (hA : A.block < w.heap.size) (hc : w.cell? A = some (.int .u32 m)) (h0 : 0 < m) (h1 : m < 100) :
    Calls Tryz.prog 83 #[.agg #[.bool true, .slice (some A) 1 cap]] w fun e w' => e = .returned (.string ⟨(45 :: (smallS m).data.toList).toArray⟩) ∧ Below w.heap.size w w' := by
  go_enter Tryz.func83, Tryz.ntmps83
  have hc' : ∀ w1 : World, Below w.heap.size w w1 → w1.cell? A = some (.int .u32 m) := fun w1 h => by rw [h.cell hA]; exact hc
  have e1 := al_size w (.cells #[.bool true, .slice (some A) 1 cap] 24)
  have e2 := al_size (w.alloc (.cells #[.bool true, .slice (some A) 1 cap] 24)) (.cells #[.pointer none, .slice none 0 0] 93)
  obtain ⟨q0, q1, hW, hsz⟩ := fmt_prep (Below.refl _ ((w.alloc (.cells #[.bool true, .slice (some A) 1 cap] 24)).alloc (.cells #[.pointer none, .slice none 0 0] 93)))
  have hB : Lib.IsBuilder 93 5 (w.heap.size + 1) (w.heap.size + 1) [] ((w.alloc (.cells #[.bool true, .slice (some A) 1 cap] 24)).alloc (.cells #[.pointer none, .slice none 0 0] 93)) := .inl ⟨Nat.le_refl _, .slice none 0 0, q1, World.ownsRow_nil _ _ _ _, by simp [Value.ownBlock]⟩
  go_wp2_with (go_at_call 109; refine (wb _ _ _ 45 _ hB (by decide) (by omega)).mono ?_)
  rintro e w0 ⟨rfl, hB0, hb0⟩
  have hW0 : Below w.heap.size w w0 := hW.trans (hb0.mono (by omega))
  have q5 : w0.heap[w.heap.size]? = some (.cells #[.bool true, .slice (some A) 1 cap] 24 (0, 0)) := by rw [hb0.block _ (by omega)]; exact q0
  have c5 := cell_hdr q5
  have c6 := hc' w0 hW0
  clear hB q0 q1 hW
  have hs0 : w.heap.size + 2 ≤ w0.heap.size := by have := hb0.size; omega
  clear hb0
  go_wp2_with (go_at_call 111; refine (FU h1 _).mono ?_)
  rintro e w1 ⟨rfl, hb1⟩
  have hW1 : Below w.heap.size w w1 := hW0.trans (hb1.mono (by omega))
  have hB1 := bld_below hB0 hb1
  have q6 : w1.heap[w.heap.size]? = some (.cells #[.bool true, .slice (some A) 1 cap] 24 (0, 0)) := by rw [hb1.block _ (by omega)]; exact q5
  have hs1 : w.heap.size + 2 ≤ w1.heap.size := by have := hb1.size; omega
  clear hb1 c5 c6
  go_wp2_with (go_at_call 110; refine (ws _ _ _ (smallS m) _ (.inr hB1) (by have := (small_size h1).1; simp only [List.length_append, List.length_nil, List.length_cons]; omega) (by omega)).mono ?_)
  rintro e w2 ⟨rfl, hB2, hb2⟩
  have q2 : w2.heap[w.heap.size]? = some (.cells #[.bool true, .slice (some A) 1 cap] 24 (0, 0)) := by rw [hb2.block _ (by omega)]; exact q6
  have c0 := cell_hdr q2
  go_wp2
  refine wp_loop_once ?_
  go_wp2_with (go_at_call 113; refine (Any.Builder_String lays169 ext169 _ _ (45 :: (smallS m).data.toList) _ (.inr hB2) (by simp)).mono ?_)
  rintro e w3 ⟨rfl, hb3⟩
  go_wp2
  go_ret
  exact ⟨rfl, below3 hW1 (by omega) hb2 hb3⟩
theorem fmt0 (A : Option Addr) (cap : Nat) (b : Bool) (w : World) : Calls Tryz.prog 83 #[.agg #[.bool b, .slice A 0 cap]] w fun e w' => e = .returned (.string ⟨#[48]⟩) ∧ Below w.heap.size w w' := by
  go_enter Tryz.func83, Tryz.ntmps83
  go_wp2
  go_ret
  refine ⟨rfl, ⟨rfl, rfl, rfl, by rw [al_size]; omega, fun k hk => Lib.alloc_old _ _ _ hk⟩⟩
def fmtI (n : Int) : ByteArray := if n = 0 then ⟨#[48]⟩ else if n < 0 then ⟨(45 :: (smallS n.natAbs).data.toList).toArray⟩ else ⟨(smallS n.natAbs).data.toList.toArray⟩
theorem fmt_all {n : Int} (hp : n.natAbs < 100) {w : World} {X : List Nat} {u : Value} (hu : IntV w X u n) : Calls Tryz.prog 83 #[u] w fun e w' => e = .returned (.string (fmtI n)) ∧ Below w.heap.size w w' := by
  obtain ⟨_, rfl, A, c, rfl, hu⟩ := hu
  by_cases h0 : n = 0
  · subst h0
    rw [show (0 : Int).natAbs = 0 from rfl, lim_zero]
    exact fmt0 A c _ w
  · have hl : lim n.natAbs = [n.natAbs] := by rw [lim_pos (by omega), show n.natAbs / 1000000000 = 0 by omega, lim_zero, show n.natAbs % 1000000000 = n.natAbs by omega]
    rw [hl] at hu ⊢
    obtain ⟨ad, rfl, h1, _, h3⟩ := hu.cl (by simp [us])
    have hc := h3 0 (.int .u32 (n.natAbs : Nat)) rfl
    rw [show ad.add 0 = ad from by unfold Addr.add; simp] at hc
    unfold fmtI
    rw [if_neg h0]
    by_cases hn : n < 0
    · rw [if_pos hn, decide_eq_true hn]
      exact fmt2 n.natAbs ad c w h1 hc (by omega) hp
    · rw [if_neg hn, decide_eq_false hn]
      exact fmt1 n.natAbs ad c w h1 hc (by omega) hp
instance s_fmt (n : Int) : DenI Tryz.prog 83 [Z n] (n.natAbs < 100) (.str (fmtI n)) := ⟨fun hp => den1 (by kernel_rfl) fun w X u hX hu => (fmt_all hp hu.int_).mono fun e w' ⟨he, hb⟩ => ⟨_, he, .d (.c (.v _ rfl)), hb⟩⟩

end Go.Proofs.YtghlkihmnopenaaGreatDoor

namespace Go.Proofs.YtghlkihmnopenaaGreatDoor
open Go Go.RowKit Go.Sw
set_option linter.unusedVariables false
set_option maxRecDepth 100000
set_option maxHeartbeats 8000000
set_option synthInstance.maxSize 4000
set_option synthInstance.maxHeartbeats 400000
instance s_parse (s : ByteArray) : DenI Tryz.prog 78 [.str s] (True) (parR s) := ⟨fun hp => by
 have hcs := cutP_size s mB
 all_goals refine den_of (τ := tab) tab_ok mixed_ Tryz.func78 rfl (by kernel_rfl) (by kernel_rfl) (by kernel_rfl) ?_
 all_goals (repeat' ((try (conv => whnf)); first
  | refine call_0 ?_
  | refine call_i ?_ ?_
  | refine call_c ?_ (fun _ => ?_) (fun _ => ?_)
  | (with_reducible refine onB_t ?_)
  | (with_reducible refine onB_f ?_)
  | (with_reducible refine onB_d (fun _ => ?_) (fun _ => ?_))
  | (with_reducible refine onB_n (fun _ => ?_) (fun _ => ?_))
  | refine OnB.mk (fun _ => ?_) (fun _ => ?_)
  | refine obl_i ?_ ?_
  | refine Drw.mk (by kernel_rfl) ?_
  | refine mks_i ?_ ?_
  | refine slp_i ?_ ?_
  | (with_reducible refine elem_u ?_ ?_)
  | (with_reducible refine elem_0 ?_)
  | (with_reducible refine elem_1 ?_)
  | (with_reducible refine strAt_i ?_ ?_)
  | (with_reducible refine elem_b ?_ ?_)
  | refine Ends.mk ?_))
 all_goals (try refine Pr.mk ?_)
 all_goals (try simp only [Option.getD_some, Option.getD_none, Int.toNat_natCast, Int.toNat_zero, bytesC_len, bsL_len, ByteArray.size_extract, eqb_iff, decide_eq_true_eq, decide_eq_false_iff_not, List.foldl_cons, List.foldl_nil] at *)
 all_goals (try simp (disch := omega) only [wi64] at *)
 all_goals first
  | ((conv => whnf); refine Sw.Loop.inv (α := Nat) (fun k => [(0, .str s), (2, .ptr 2 0), (3, .int .i64 0), (4, .str (cutP s mB)), (5, .bool (pfx s mB)), (39, .int .i64 ((cutP s mB).size : Nat)), (40, .int .i64 (k : Nat))]) (fun k => [(2, .var [.v (.bool false), .sl 1 []])]) (fun k => k ≤ (cutP s mB).size ∧ ∀ j, j < k → dgt (bsL (cutP s mB)) j) (fun k => (cutP s mB).size - k) 0 ?_ ?_ ?_ (fun k hk => ?_))
  | skip
 all_goals (repeat' ((try (conv => whnf)); first
  | refine call_0 ?_
  | refine call_i ?_ ?_
  | refine call_c ?_ (fun _ => ?_) (fun _ => ?_)
  | (with_reducible refine onB_t ?_)
  | (with_reducible refine onB_f ?_)
  | (with_reducible refine onB_d (fun _ => ?_) (fun _ => ?_))
  | (with_reducible refine onB_n (fun _ => ?_) (fun _ => ?_))
  | refine OnB.mk (fun _ => ?_) (fun _ => ?_)
  | refine obl_i ?_ ?_
  | refine Drw.mk (by kernel_rfl) ?_
  | refine mks_i ?_ ?_
  | refine slp_i ?_ ?_
  | (with_reducible refine elem_u ?_ ?_)
  | (with_reducible refine elem_0 ?_)
  | (with_reducible refine elem_1 ?_)
  | (with_reducible refine strAt_i ?_ ?_)
  | (with_reducible refine elem_b ?_ ?_)
  | refine Ends.mk ?_))
 all_goals (try refine Pr.mk ?_)
 all_goals (try simp only [Option.getD_some, Option.getD_none, Int.toNat_natCast, Int.toNat_zero, bytesC_len, bsL_len, ByteArray.size_extract, eqb_iff, decide_eq_true_eq, decide_eq_false_iff_not, List.foldl_cons, List.foldl_nil] at *)
 all_goals (try simp (disch := omega) only [wi64] at *)
 all_goals first
  | ((conv => whnf); refine Sw.Loop.ghost 7 100 62 1 ?_ rfl rfl rfl (by decide))
  | skip
 all_goals first
  | ((conv => whnf); refine Sw.Loop.inv (α := Nat) (fun m => [(2, .ptr 2 0), (3, .int .i64 0), (4, .str (cutP s mB)), (5, .bool (pfx s mB)), (7, .gs 100 m), (8, .int .i64 (((cutP s mB).size : Int) - 9 * (m : Int)))]) (fun m => [(2, .var [.v (.bool false), .sl 1 []]), (100, .grow 62 1 ((grp (bsL (cutP s mB)) m).map fun x => [.v (u32 x)]))]) (fun m => 9 * m < (cutP s mB).size + 9 ∧ True) (fun m => (cutP s mB).size + 9 - 9 * m) 0 ?_ ?_ ?_ (fun m hm => ?_))
  | skip
 all_goals (repeat' ((try (conv => whnf)); first
  | refine call_0 ?_
  | refine call_i ?_ ?_
  | refine call_c ?_ (fun _ => ?_) (fun _ => ?_)
  | (with_reducible refine onB_t ?_)
  | (with_reducible refine onB_f ?_)
  | (with_reducible refine onB_d (fun _ => ?_) (fun _ => ?_))
  | (with_reducible refine onB_n (fun _ => ?_) (fun _ => ?_))
  | refine OnB.mk (fun _ => ?_) (fun _ => ?_)
  | refine obl_i ?_ ?_
  | refine Drw.mk (by kernel_rfl) ?_
  | refine mks_i ?_ ?_
  | refine slp_i ?_ ?_
  | (with_reducible refine elem_u ?_ ?_)
  | (with_reducible refine elem_0 ?_)
  | (with_reducible refine elem_1 ?_)
  | (with_reducible refine strAt_i ?_ ?_)
  | (with_reducible refine elem_b ?_ ?_)
  | refine Ends.mk ?_))
 all_goals (try refine Pr.mk ?_)
 all_goals (try simp only [Option.getD_some, Option.getD_none, Int.toNat_natCast, Int.toNat_zero, bytesC_len, bsL_len, ByteArray.size_extract, eqb_iff, decide_eq_true_eq, decide_eq_false_iff_not, List.foldl_cons, List.foldl_nil] at *)
 all_goals (try simp (disch := omega) only [wi64] at *)
 all_goals first
  | ((conv => whnf); refine Sw.Loop.inv (α := Nat) (fun q => [(2, .ptr 2 0), (3, .int .i64 0), (4, .str (cutP s mB)), (5, .bool (pfx s mB)), (7, .gs 100 m), (8, .int .i64 (((cutP s mB).size : Int) - 9 * (m : Int))), (67, .c (.sl 1 (bytesC ((cutP s mB).extract ((cutP s mB).size - 9 * (m + 1)) ((cutP s mB).size - 9 * m))))), (68, .int .i64 ((gbs (cutP s mB) m).length : Nat)), (69, .int .i64 (q : Nat)), (9, .int .u32 (decV ((gbs (cutP s mB) m).take q) : Nat))]) (fun q => [(2, .var [.v (.bool false), .sl 1 []]), (100, .grow 62 1 ((grp (bsL (cutP s mB)) m).map fun x => [.v (u32 x)]))]) (fun q => q ≤ (gbs (cutP s mB) m).length ∧ True) (fun q => (gbs (cutP s mB) m).length - q) 0 ?_ ?_ ?_ (fun q hq => ?_))
  | skip
 all_goals (repeat' ((try (conv => whnf)); first
  | refine call_0 ?_
  | refine call_i ?_ ?_
  | refine call_c ?_ (fun _ => ?_) (fun _ => ?_)
  | (with_reducible refine onB_t ?_)
  | (with_reducible refine onB_f ?_)
  | (with_reducible refine onB_d (fun _ => ?_) (fun _ => ?_))
  | (with_reducible refine onB_n (fun _ => ?_) (fun _ => ?_))
  | refine OnB.mk (fun _ => ?_) (fun _ => ?_)
  | refine obl_i ?_ ?_
  | refine Drw.mk (by kernel_rfl) ?_
  | refine mks_i ?_ ?_
  | refine slp_i ?_ ?_
  | (with_reducible refine elem_u ?_ ?_)
  | (with_reducible refine elem_0 ?_)
  | (with_reducible refine elem_1 ?_)
  | (with_reducible refine strAt_i ?_ ?_)
  | (with_reducible refine elem_b ?_ ?_)
  | refine Ends.mk ?_))
 all_goals (try refine Pr.mk ?_)
 all_goals first | (show SubE _ _; repeat' (first | exact trivial | refine And.intro ?_ ?_)) | (show SubB _ _; repeat' (first | exact trivial | refine And.intro ?_ ?_)) | skip
 all_goals (try rfl)
 all_goals (try simp only [Option.getD_some, Option.getD_none, Int.toNat_natCast, Int.toNat_zero, bytesC_len, bsL_len, ByteArray.size_extract, eqb_iff, decide_eq_true_eq, decide_eq_false_iff_not, List.foldl_cons, List.foldl_nil] at *)
 all_goals (try simp (disch := omega) only [wi64] at *)
 all_goals first
  | ((conv => whnf); exact ⟨k + 1, ⟨⟨rfl, rfl, rfl, rfl, rfl, rfl, inc64 (by omega), trivial⟩, ⟨rfl, trivial⟩, ⟨by omega, dg_step hk.2 (by assumption) (by assumption)⟩, by show (cutP s mB).size - (k + 1) < (cutP s mB).size - k; omega⟩⟩)
  | (have z := gbs_len (cutP s mB) m; ((conv => whnf); exact ⟨q + 1, ⟨⟨rfl, rfl, rfl, rfl, rfl, rfl, rfl, rfl, inc64 (by omega), gbs_u32 (all_of hk.1 (by assumption) hk.2) (by omega), trivial⟩, ⟨rfl, rfl, trivial⟩, ⟨by omega, trivial⟩, by show (gbs (cutP s mB) m).length - (q + 1) < (gbs (cutP s mB) m).length - q; omega⟩⟩))
  | ((conv => whnf); exact ⟨m + 1, ⟨⟨rfl, rfl, rfl, rfl, gsE (by simp [grp_len]), iS (by rw [wi64 (by omega) (by omega)]; omega), trivial⟩, ⟨rfl, grpX (by omega), trivial⟩, ⟨by omega, trivial⟩, by show (cutP s mB).size + 9 - 9 * (m + 1) < (cutP s mB).size + 9 - 9 * m; omega⟩⟩)
  | exact ne_size (by assumption)
  | exact ⟨Nat.zero_le _, fun j hj => by omega⟩
  | exact ⟨Nat.zero_le _, trivial⟩
  | exact ⟨by omega, trivial⟩
  | (refine ext_eq ?_ ?_ <;> first | omega | (split <;> omega))
  | (refine iS ?_; rw [gbs_len]; first | omega | (split <;> omega))
  | exact grp_lb (dgts (all_of hk.1 (by assumption) hk.2)) _
  | exact par_yes (ok_y (by assumption) (by assumption) (ok_a (by assumption)) (all_of hk.1 (by assumption) hk.2)) (grp_end (by assumption))
  | exact par_yes (ok_y (by assumption) (by assumption) (ok_b (by assumption) (by assumption)) (all_of hk.1 (by assumption) hk.2)) (grp_end (by assumption))
  | ((repeat' apply And.intro) <;> first | omega | (split <;> omega) | (intro h; rfl))
  | (simp only [List.length_map, List.length_append, grp_len, List.length_cons, List.length_nil]; omega)
  | (have z := gbs_len (cutP s mB) m; omega)
  | (rw [grp_len])
  | (rw [List.length_map, grp_len])
  | exact par_no (ok_n1 (by assumption))
  | exact par_no (ok_n2 (by assumption))
  | exact par_no (ok_n3 (by assumption) (by assumption))
  | exact par_no (ok_n4 (by assumption) (by assumption))
  | exact par_no (ok_n5 (k := k) (by omega) (dg_lo (by assumption)))
  | exact par_no (ok_n5 (k := k) (by omega) (dg_hi (by assumption)))
  | rfl
  | omega
  | skip⟩

end Go.Proofs.YtghlkihmnopenaaGreatDoor

namespace Go.Proofs.YtghlkihmnopenaaGreatDoor
open Go Go.RowKit Go.Sw
set_option linter.unusedVariables false
set_option maxRecDepth 100000
set_option maxHeartbeats 8000000
set_option synthInstance.maxSize 4000
set_option synthInstance.maxHeartbeats 400000
theorem idx_run (s : ByteArray) (c : Int) (w : World) :
    Calls Tryz.prog 132 #[.string s, .int .u8 c] w fun e w' => e = .returned (.int .i64 (Lib.indexByte s.data.toList c.toNat.toUInt8)) ∧ w' = w := by
  go_enter Tryz.func132, Tryz.ntmps132
  go_wp2
  rw [run_callFunc_extern Tryz.func145 (by kernel_rfl) (by kernel_rfl) (by kernel_rfl) (e := Extern.BytealgIndexByte.indexByte) (by kernel_rfl), Lib.run_indexByteString]
  simp only [Result.andThen]
  rw [Oper.upon_value]
  go_wp2
  go_ret
  exact ⟨rfl, rfl⟩
instance s_ixb (s : ByteArray) (c : Int) : DenI Tryz.prog 132 [.str s, .int .u8 c] True (.int .i64 (ixB s c)) := ⟨fun hp => den2 (by kernel_rfl) fun w X u v hX hu hv => by
 rw [hu.v, hv.v]
 exact (idx_run s c w).mono fun e w' ⟨he, hw⟩ => ⟨_, he, .d (.c (.v _ rfl)), by subst hw; exact Below.refl _ _⟩⟩

instance s_ix (s p : ByteArray) : DenI Tryz.prog 124 [.str s, .str p] (p.size = 1) (.int .i64 (ixS s p)) := ⟨fun hp => by
 have hp1 : (p.size : Int) = 1 := by omega
 have hb0 : decide ((p.size : Int) = 0) = false := decide_eq_false (by omega)
 have hb1 : decide ((p.size : Int) = 1) = true := decide_eq_true hp1
 all_goals refine den_of (τ := tab) tab_ok mixed_ Tryz.func124 rfl (by kernel_rfl) (by kernel_rfl) (by kernel_rfl) ?_
 all_goals (repeat' ((try (conv => whnf)); first
  | (with_reducible refine onB_yes (by assumption) ?_)
  | (with_reducible refine onB_no (by assumption) ?_)
  | refine call_0 ?_
  | refine call_i ?_ ?_
  | refine call_c ?_ (fun _ => ?_) (fun _ => ?_)
  | (with_reducible refine onB_t ?_)
  | (with_reducible refine onB_f ?_)
  | (with_reducible refine onB_d (fun _ => ?_) (fun _ => ?_))
  | (with_reducible refine onB_n (fun _ => ?_) (fun _ => ?_))
  | refine OnB.mk (fun _ => ?_) (fun _ => ?_)
  | refine obl_i ?_ ?_
  | refine Drw.mk (by kernel_rfl) ?_
  | refine mks_i ?_ ?_
  | refine slp_i ?_ ?_
  | (with_reducible refine elem_u ?_ ?_)
  | (with_reducible refine elem_0 ?_)
  | (with_reducible refine elem_1 ?_)
  | (with_reducible refine strAt_i ?_ ?_)
  | (with_reducible refine elem_b ?_ ?_)
  | refine Ends.mk ?_))
 all_goals (try refine Pr.mk ?_)
 all_goals (try simp only [eqb_iff, decide_eq_true_eq, decide_eq_false_iff_not, Int.toNat_zero] at *)
 all_goals first
  | exact ix_y (by assumption)
  | exact ix_n (by assumption)
  | omega
  | (constructor <;> omega)
  | skip⟩

instance s_cut0 (s p : ByteArray) : DenI Tryz.prog 104 [.str s, .str p] (p.size = 1 ∧ s.size ≤ 1000000) (.tup [.str (ctA s p), .str (ctB s p), .bool (decide (0 ≤ ixS s p))]) := ⟨fun hp => by
 have hx := ixS_lt (s := s) hp.1
 all_goals refine den_of (τ := tab) tab_ok mixed_ Tryz.func104 rfl (by kernel_rfl) (by kernel_rfl) (by kernel_rfl) ?_
 all_goals (repeat' ((try (conv => whnf)); first
  | refine call_0 ?_
  | refine call_i ?_ ?_
  | refine call_c ?_ (fun _ => ?_) (fun _ => ?_)
  | (with_reducible refine onB_t ?_)
  | (with_reducible refine onB_f ?_)
  | (with_reducible refine onB_d (fun _ => ?_) (fun _ => ?_))
  | (with_reducible refine onB_n (fun _ => ?_) (fun _ => ?_))
  | refine OnB.mk (fun _ => ?_) (fun _ => ?_)
  | refine obl_i ?_ ?_
  | refine Drw.mk (by kernel_rfl) ?_
  | refine mks_i ?_ ?_
  | refine slp_i ?_ ?_
  | (with_reducible refine elem_u ?_ ?_)
  | (with_reducible refine elem_0 ?_)
  | (with_reducible refine elem_1 ?_)
  | (with_reducible refine strAt_i ?_ ?_)
  | (with_reducible refine elem_b ?_ ?_)
  | refine Ends.mk ?_))
 all_goals (try refine Pr.mk ?_)
 all_goals (try simp only [Option.getD_some, Option.getD_none, Int.toNat_natCast, Int.toNat_zero] at *)
 all_goals (try simp (disch := omega) only [wi64] at *)
 all_goals first
  | exact ct_y (by assumption)
  | exact ct_n (by assumption)
  | exact hp.1
  | ((repeat' apply And.intro) <;> first | omega | (intro h; cases h; done) | (intro h; rfl))
  | skip⟩

instance s_cut (s p : ByteArray) : DenI Tryz.prog 77 [.str s, .str p] (p.size = 1 ∧ s.size ≤ 1000000) (.tup [.str (ctA s p), .str (ctB s p), .bool (decide (0 ≤ ixS s p))]) := ⟨fun hp => by
 refine den_of (τ := tab) tab_ok mixed_ Tryz.func77 rfl (by kernel_rfl) (by kernel_rfl) (by kernel_rfl) ?_
 all_goals (repeat' ((try (conv => whnf)); first
  | refine call_0 ?_
  | refine call_i ?_ ?_
  | refine call_c ?_ (fun _ => ?_) (fun _ => ?_)
  | (with_reducible refine onB_t ?_)
  | (with_reducible refine onB_f ?_)
  | (with_reducible refine onB_d (fun _ => ?_) (fun _ => ?_))
  | (with_reducible refine onB_n (fun _ => ?_) (fun _ => ?_))
  | refine OnB.mk (fun _ => ?_) (fun _ => ?_)
  | refine obl_i ?_ ?_
  | refine Drw.mk (by kernel_rfl) ?_
  | refine mks_i ?_ ?_
  | refine slp_i ?_ ?_
  | (with_reducible refine elem_u ?_ ?_)
  | (with_reducible refine elem_0 ?_)
  | (with_reducible refine elem_1 ?_)
  | (with_reducible refine strAt_i ?_ ?_)
  | (with_reducible refine elem_b ?_ ?_)
  | refine Ends.mk ?_))
 all_goals (try refine Pr.mk ?_)
 all_goals first
  | exact hp
  | rfl
  | skip⟩

end Go.Proofs.YtghlkihmnopenaaGreatDoor

namespace Go.Proofs.YtghlkihmnopenaaGreatDoor
open Go Go.RowKit Go.Sw
set_option linter.unusedVariables false
set_option maxRecDepth 100000
set_option maxHeartbeats 8000000
instance r_unit  : DenI Tryz.prog 81 [] (True) (Z 1) := ⟨fun hp => by
 refine den_of (τ := tab) tab_ok mixed_ Tryz.func81 rfl (by kernel_rfl) (by kernel_rfl) (by kernel_rfl) ?_
 repeat' ((try (conv => whnf)); first
  | refine call_0 ?_
  | refine call_i ?_ ?_
  | (with_reducible refine onB_t ?_)
  | (with_reducible refine onB_f ?_)
  | (with_reducible refine onB_d (fun _ => ?_) (fun _ => ?_))
  | (with_reducible refine onB_n (fun _ => ?_) (fun _ => ?_))
  | refine OnB.mk (fun _ => ?_) (fun _ => ?_)
  | refine obl_i ?_ ?_
  | refine Drw.mk (by kernel_rfl) ?_
  | refine mks_i ?_ ?_
  | refine slp_i ?_ ?_
  | (with_reducible refine elem_u ?_ ?_)
  | (with_reducible refine elem_0 ?_)
  | (with_reducible refine elem_1 ?_)
  | refine Ends.mk ?_)
 all_goals (try refine Pr.mk ?_)
 all_goals first | rfl | decide⟩

instance r_whole (n : Int) : DenI Tryz.prog 79 [Z n] (True) (R (n : Rat)) := ⟨fun hp => by
 refine den_of (τ := tab) tab_ok mixed_ Tryz.func79 rfl (by kernel_rfl) (by kernel_rfl) (by kernel_rfl) ?_
 repeat' ((try (conv => whnf)); first
  | refine call_0 ?_
  | refine call_i ?_ ?_
  | (with_reducible refine onB_t ?_)
  | (with_reducible refine onB_f ?_)
  | (with_reducible refine onB_d (fun _ => ?_) (fun _ => ?_))
  | (with_reducible refine onB_n (fun _ => ?_) (fun _ => ?_))
  | refine OnB.mk (fun _ => ?_) (fun _ => ?_)
  | refine obl_i ?_ ?_
  | refine Drw.mk (by kernel_rfl) ?_
  | refine mks_i ?_ ?_
  | refine slp_i ?_ ?_
  | (with_reducible refine elem_u ?_ ?_)
  | (with_reducible refine elem_0 ?_)
  | (with_reducible refine elem_1 ?_)
  | refine Ends.mk ?_)
 all_goals (try refine Pr.mk ?_)
 rfl⟩

instance r_exact (a b : Int) : DenI Tryz.prog 116 [Z a, Z b] (sz a ≤ 1000000000 ∧ sz b ≤ 1000000000) (Z (a.fdiv b)) := ⟨fun hp => by
 refine den_of (τ := tab) tab_ok mixed_ Tryz.func116 rfl (by kernel_rfl) (by kernel_rfl) (by kernel_rfl) ?_
 repeat' ((try (conv => whnf)); first
  | refine call_0 ?_
  | refine call_i ?_ ?_
  | (with_reducible refine onB_t ?_)
  | (with_reducible refine onB_f ?_)
  | (with_reducible refine onB_d (fun _ => ?_) (fun _ => ?_))
  | (with_reducible refine onB_n (fun _ => ?_) (fun _ => ?_))
  | refine OnB.mk (fun _ => ?_) (fun _ => ?_)
  | refine obl_i ?_ ?_
  | refine Drw.mk (by kernel_rfl) ?_
  | refine mks_i ?_ ?_
  | refine slp_i ?_ ?_
  | (with_reducible refine elem_u ?_ ?_)
  | (with_reducible refine elem_0 ?_)
  | (with_reducible refine elem_1 ?_)
  | refine Ends.mk ?_)
 all_goals (try refine Pr.mk ?_)
 all_goals first | rfl | exact hp⟩

instance r_reduce (n d : Int) : DenI Tryz.prog 89 [Z n, Z d] (d ≠ 0 ∧ sz n ≤ 1000000000 ∧ sz d ≤ 1000000000) (R ((n : Rat) / d)) := ⟨fun hp => by
 refine den_of (τ := tab) tab_ok mixed_ Tryz.func89 rfl (by kernel_rfl) (by kernel_rfl) (by kernel_rfl) ?_
 repeat' ((try (conv => whnf)); first
  | refine call_0 ?_
  | refine call_i ?_ ?_
  | (with_reducible refine onB_t ?_)
  | (with_reducible refine onB_f ?_)
  | (with_reducible refine onB_d (fun _ => ?_) (fun _ => ?_))
  | (with_reducible refine onB_n (fun _ => ?_) (fun _ => ?_))
  | refine OnB.mk (fun _ => ?_) (fun _ => ?_)
  | refine obl_i ?_ ?_
  | refine Drw.mk (by kernel_rfl) ?_
  | refine mks_i ?_ ?_
  | refine slp_i ?_ ?_
  | (with_reducible refine elem_u ?_ ?_)
  | (with_reducible refine elem_0 ?_)
  | (with_reducible refine elem_1 ?_)
  | refine Ends.mk ?_)
 all_goals (try refine Pr.mk ?_)
 all_goals obtain ⟨h0, h1, h2⟩ := hp
 all_goals (try simp only [sgnI_lt0, sgnI_zero, sgnI_le0, sgnI_gt0, sgnI_ge0, sgnI_eq1, cmpI_lt0, cmpI_gt0, cmpI_eq0, cmpI_le0, cmpI_ge0, cmpR_of, sgnR_of, sgnR_lt0, sgnR_eq0, sgnR_gt0, sgnR_le0, sgnR_ge0, sgnR_eq1, cmpR_lt0, cmpR_gt0, cmpR_eq0, cmpR_le0, cmpR_ge0] at *)
 all_goals first
  | (show packA _ = _; first | (by_cases hd : d < 0; (obtain ⟨q1, q2⟩ := red_neg (n := n) (d := d) hd; first | exact packR q1 q2 | (refine packR ?_ ?_ <;> simp_all)); (obtain ⟨q1, q2⟩ := red_pos (n := n) (d := d) (by omega); first | exact packR q1 q2 | (refine packR ?_ ?_ <;> simp_all))))
  | ((try simp only [sz_neg]); (repeat' apply And.intro) <;> first | assumption | exact sz_gcd (by (try simp only [sz_neg]); assumption) (by (try simp only [sz_neg]); assumption))⟩

end Go.Proofs.YtghlkihmnopenaaGreatDoor

namespace Go.Proofs.YtghlkihmnopenaaGreatDoor
open Go Go.RowKit Go.Sw
set_option linter.unusedVariables false
set_option maxRecDepth 100000
set_option maxHeartbeats 8000000
instance r_from (n : Int) : DenI Tryz.prog 47 [.int .i64 n] (-9223372036854775808 ≤ n ∧ n ≤ 9223372036854775807) (R (n : Rat)) := ⟨fun hp => by
 refine den_of (τ := tab) tab_ok mixed_ Tryz.func47 rfl (by kernel_rfl) (by kernel_rfl) (by kernel_rfl) ?_
 repeat' ((try (conv => whnf)); first
  | refine call_0 ?_
  | refine call_i ?_ ?_
  | (with_reducible refine onB_t ?_)
  | (with_reducible refine onB_f ?_)
  | (with_reducible refine onB_d (fun _ => ?_) (fun _ => ?_))
  | (with_reducible refine onB_n (fun _ => ?_) (fun _ => ?_))
  | refine OnB.mk (fun _ => ?_) (fun _ => ?_)
  | refine obl_i ?_ ?_
  | refine Drw.mk (by kernel_rfl) ?_
  | refine mks_i ?_ ?_
  | refine slp_i ?_ ?_
  | (with_reducible refine elem_u ?_ ?_)
  | (with_reducible refine elem_0 ?_)
  | (with_reducible refine elem_1 ?_)
  | refine Ends.mk ?_)
 all_goals (try refine Pr.mk ?_)
 all_goals (try simp only [sgnI_lt0, sgnI_zero, sgnI_le0, sgnI_gt0, sgnI_ge0, sgnI_eq1, cmpI_lt0, cmpI_gt0, cmpI_eq0, cmpI_le0, cmpI_ge0, cmpR_of, sgnR_of, sgnR_lt0, sgnR_eq0, sgnR_gt0, sgnR_le0, sgnR_ge0, sgnR_eq1, cmpR_lt0, cmpR_gt0, cmpR_eq0, cmpR_le0, cmpR_ge0] at *)
 all_goals first
  | (show packA _ = _; rfl)
  | ((repeat' apply And.intro) <;> first | assumption | omega | exact Int.mul_ne_zero (den_ne _) (den_ne _) | exact den_ne _ | grind [sz_mul, sz_add, sz_sub, sz_neg, rz_num, rz_den, rz_add, rz_mul, rz_neg, rz_sub, rz_int, sz_64, sz_one])⟩

instance r_sign (a : Rat) : DenI Tryz.prog 41 [R a] (True) (.int .i64 (sgnR a)) := ⟨fun hp => by
 refine den_of (τ := tab) tab_ok mixed_ Tryz.func41 rfl (by kernel_rfl) (by kernel_rfl) (by kernel_rfl) ?_
 repeat' ((try (conv => whnf)); first
  | refine call_0 ?_
  | refine call_i ?_ ?_
  | (with_reducible refine onB_t ?_)
  | (with_reducible refine onB_f ?_)
  | (with_reducible refine onB_d (fun _ => ?_) (fun _ => ?_))
  | (with_reducible refine onB_n (fun _ => ?_) (fun _ => ?_))
  | refine OnB.mk (fun _ => ?_) (fun _ => ?_)
  | refine obl_i ?_ ?_
  | refine Drw.mk (by kernel_rfl) ?_
  | refine mks_i ?_ ?_
  | refine slp_i ?_ ?_
  | (with_reducible refine elem_u ?_ ?_)
  | (with_reducible refine elem_0 ?_)
  | (with_reducible refine elem_1 ?_)
  | refine Ends.mk ?_)
 all_goals (try refine Pr.mk ?_)
 all_goals (try simp only [sgnI_lt0, sgnI_zero, sgnI_le0, sgnI_gt0, sgnI_ge0, sgnI_eq1, cmpI_lt0, cmpI_gt0, cmpI_eq0, cmpI_le0, cmpI_ge0, cmpR_of, sgnR_of, sgnR_lt0, sgnR_eq0, sgnR_gt0, sgnR_le0, sgnR_ge0, sgnR_eq1, cmpR_lt0, cmpR_gt0, cmpR_eq0, cmpR_le0, cmpR_ge0] at *)
 all_goals first
  | (show packA _ = _; rfl)
  | (skip)⟩

instance r_neg (a : Rat) : DenI Tryz.prog 54 [R a] (rz a ≤ 100000000) (R (-a)) := ⟨fun hp => by
 refine den_of (τ := tab) tab_ok mixed_ Tryz.func54 rfl (by kernel_rfl) (by kernel_rfl) (by kernel_rfl) ?_
 repeat' ((try (conv => whnf)); first
  | refine call_0 ?_
  | refine call_i ?_ ?_
  | (with_reducible refine onB_t ?_)
  | (with_reducible refine onB_f ?_)
  | (with_reducible refine onB_d (fun _ => ?_) (fun _ => ?_))
  | (with_reducible refine onB_n (fun _ => ?_) (fun _ => ?_))
  | refine OnB.mk (fun _ => ?_) (fun _ => ?_)
  | refine obl_i ?_ ?_
  | refine Drw.mk (by kernel_rfl) ?_
  | refine mks_i ?_ ?_
  | refine slp_i ?_ ?_
  | (with_reducible refine elem_u ?_ ?_)
  | (with_reducible refine elem_0 ?_)
  | (with_reducible refine elem_1 ?_)
  | refine Ends.mk ?_)
 all_goals (try refine Pr.mk ?_)
 all_goals (try simp only [sgnI_lt0, sgnI_zero, sgnI_le0, sgnI_gt0, sgnI_ge0, sgnI_eq1, cmpI_lt0, cmpI_gt0, cmpI_eq0, cmpI_le0, cmpI_ge0, cmpR_of, sgnR_of, sgnR_lt0, sgnR_eq0, sgnR_gt0, sgnR_le0, sgnR_ge0, sgnR_eq1, cmpR_lt0, cmpR_gt0, cmpR_eq0, cmpR_le0, cmpR_ge0] at *)
 all_goals first
  | (show packA _ = _; rfl)
  | ((repeat' apply And.intro) <;> first | assumption | omega | exact Int.mul_ne_zero (den_ne _) (den_ne _) | exact den_ne _ | grind [sz_mul, sz_add, sz_sub, sz_neg, rz_num, rz_den, rz_add, rz_mul, rz_neg, rz_sub, rz_int, sz_64, sz_one])⟩

instance r_mul (a b : Rat) : DenI Tryz.prog 43 [R a, R b] (rz a ≤ 100000000 ∧ rz b ≤ 100000000) (R (a * b)) := ⟨fun hp => by
 refine den_of (τ := tab) tab_ok mixed_ Tryz.func43 rfl (by kernel_rfl) (by kernel_rfl) (by kernel_rfl) ?_
 repeat' ((try (conv => whnf)); first
  | refine call_0 ?_
  | refine call_i ?_ ?_
  | (with_reducible refine onB_t ?_)
  | (with_reducible refine onB_f ?_)
  | (with_reducible refine onB_d (fun _ => ?_) (fun _ => ?_))
  | (with_reducible refine onB_n (fun _ => ?_) (fun _ => ?_))
  | refine OnB.mk (fun _ => ?_) (fun _ => ?_)
  | refine obl_i ?_ ?_
  | refine Drw.mk (by kernel_rfl) ?_
  | refine mks_i ?_ ?_
  | refine slp_i ?_ ?_
  | (with_reducible refine elem_u ?_ ?_)
  | (with_reducible refine elem_0 ?_)
  | (with_reducible refine elem_1 ?_)
  | refine Ends.mk ?_)
 all_goals (try refine Pr.mk ?_)
 all_goals (try simp only [sgnI_lt0, sgnI_zero, sgnI_le0, sgnI_gt0, sgnI_ge0, sgnI_eq1, cmpI_lt0, cmpI_gt0, cmpI_eq0, cmpI_le0, cmpI_ge0, cmpR_of, sgnR_of, sgnR_lt0, sgnR_eq0, sgnR_gt0, sgnR_le0, sgnR_ge0, sgnR_eq1, cmpR_lt0, cmpR_gt0, cmpR_eq0, cmpR_le0, cmpR_ge0] at *)
 all_goals first
  | (show packA _ = _; exact congrArg R (mul_div a b))
  | ((repeat' apply And.intro) <;> first | assumption | omega | exact Int.mul_ne_zero (den_ne _) (den_ne _) | exact den_ne _ | grind [sz_mul, sz_add, sz_sub, sz_neg, rz_num, rz_den, rz_add, rz_mul, rz_neg, rz_sub, rz_int, sz_64, sz_one])⟩

instance r_add (a b : Rat) : DenI Tryz.prog 42 [R a, R b] (rz a ≤ 100000000 ∧ rz b ≤ 100000000) (R (a + b)) := ⟨fun hp => by
 refine den_of (τ := tab) tab_ok mixed_ Tryz.func42 rfl (by kernel_rfl) (by kernel_rfl) (by kernel_rfl) ?_
 repeat' ((try (conv => whnf)); first
  | refine call_0 ?_
  | refine call_i ?_ ?_
  | (with_reducible refine onB_t ?_)
  | (with_reducible refine onB_f ?_)
  | (with_reducible refine onB_d (fun _ => ?_) (fun _ => ?_))
  | (with_reducible refine onB_n (fun _ => ?_) (fun _ => ?_))
  | refine OnB.mk (fun _ => ?_) (fun _ => ?_)
  | refine obl_i ?_ ?_
  | refine Drw.mk (by kernel_rfl) ?_
  | refine mks_i ?_ ?_
  | refine slp_i ?_ ?_
  | (with_reducible refine elem_u ?_ ?_)
  | (with_reducible refine elem_0 ?_)
  | (with_reducible refine elem_1 ?_)
  | refine Ends.mk ?_)
 all_goals (try refine Pr.mk ?_)
 all_goals (try simp only [sgnI_lt0, sgnI_zero, sgnI_le0, sgnI_gt0, sgnI_ge0, sgnI_eq1, cmpI_lt0, cmpI_gt0, cmpI_eq0, cmpI_le0, cmpI_ge0, cmpR_of, sgnR_of, sgnR_lt0, sgnR_eq0, sgnR_gt0, sgnR_le0, sgnR_ge0, sgnR_eq1, cmpR_lt0, cmpR_gt0, cmpR_eq0, cmpR_le0, cmpR_ge0] at *)
 all_goals first
  | (show packA _ = _; first | exact congrArg R (add_div a b) | exact congrArg R (add_div' a b (by assumption)))
  | ((repeat' apply And.intro) <;> first | assumption | omega | exact Int.mul_ne_zero (den_ne _) (den_ne _) | exact den_ne _ | grind [sz_mul, sz_add, sz_sub, sz_neg, rz_num, rz_den, rz_add, rz_mul, rz_neg, rz_sub, rz_int, sz_64, sz_one])⟩

instance r_sub (a b : Rat) : DenI Tryz.prog 53 [R a, R b] (rz a ≤ 100000000 ∧ rz b ≤ 100000000) (R (a - b)) := ⟨fun hp => by
 refine den_of (τ := tab) tab_ok mixed_ Tryz.func53 rfl (by kernel_rfl) (by kernel_rfl) (by kernel_rfl) ?_
 repeat' ((try (conv => whnf)); first
  | refine call_0 ?_
  | refine call_i ?_ ?_
  | (with_reducible refine onB_t ?_)
  | (with_reducible refine onB_f ?_)
  | (with_reducible refine onB_d (fun _ => ?_) (fun _ => ?_))
  | (with_reducible refine onB_n (fun _ => ?_) (fun _ => ?_))
  | refine OnB.mk (fun _ => ?_) (fun _ => ?_)
  | refine obl_i ?_ ?_
  | refine Drw.mk (by kernel_rfl) ?_
  | refine mks_i ?_ ?_
  | refine slp_i ?_ ?_
  | (with_reducible refine elem_u ?_ ?_)
  | (with_reducible refine elem_0 ?_)
  | (with_reducible refine elem_1 ?_)
  | refine Ends.mk ?_)
 all_goals (try refine Pr.mk ?_)
 all_goals (try simp only [sgnI_lt0, sgnI_zero, sgnI_le0, sgnI_gt0, sgnI_ge0, sgnI_eq1, cmpI_lt0, cmpI_gt0, cmpI_eq0, cmpI_le0, cmpI_ge0, cmpR_of, sgnR_of, sgnR_lt0, sgnR_eq0, sgnR_gt0, sgnR_le0, sgnR_ge0, sgnR_eq1, cmpR_lt0, cmpR_gt0, cmpR_eq0, cmpR_le0, cmpR_ge0] at *)
 all_goals first
  | (show packA _ = _; exact congrArg R (Rat.sub_eq_add_neg a b).symm)
  | ((repeat' apply And.intro) <;> first | assumption | omega | exact Int.mul_ne_zero (den_ne _) (den_ne _) | exact den_ne _ | grind [sz_mul, sz_add, sz_sub, sz_neg, rz_num, rz_den, rz_add, rz_mul, rz_neg, rz_sub, rz_int, sz_64, sz_one])⟩

instance r_floor (a : Rat) : DenI Tryz.prog 14 [R a] (rz a ≤ 100000000) (Z a.floor) := ⟨fun hp => by
 refine den_of (τ := tab) tab_ok mixed_ Tryz.func14 rfl (by kernel_rfl) (by kernel_rfl) (by kernel_rfl) ?_
 repeat' ((try (conv => whnf)); first
  | refine call_0 ?_
  | refine call_i ?_ ?_
  | (with_reducible refine onB_t ?_)
  | (with_reducible refine onB_f ?_)
  | (with_reducible refine onB_d (fun _ => ?_) (fun _ => ?_))
  | (with_reducible refine onB_n (fun _ => ?_) (fun _ => ?_))
  | refine OnB.mk (fun _ => ?_) (fun _ => ?_)
  | refine obl_i ?_ ?_
  | refine Drw.mk (by kernel_rfl) ?_
  | refine mks_i ?_ ?_
  | refine slp_i ?_ ?_
  | (with_reducible refine elem_u ?_ ?_)
  | (with_reducible refine elem_0 ?_)
  | (with_reducible refine elem_1 ?_)
  | refine Ends.mk ?_)
 all_goals (try refine Pr.mk ?_)
 all_goals (try simp only [sgnI_lt0, sgnI_zero, sgnI_le0, sgnI_gt0, sgnI_ge0, sgnI_eq1, cmpI_lt0, cmpI_gt0, cmpI_eq0, cmpI_le0, cmpI_ge0, cmpR_of, sgnR_of, sgnR_lt0, sgnR_eq0, sgnR_gt0, sgnR_le0, sgnR_ge0, sgnR_eq1, cmpR_lt0, cmpR_gt0, cmpR_eq0, cmpR_le0, cmpR_ge0] at *)
 all_goals first
  | (show packA _ = _; exact congrArg Z (floor_of a))
  | ((repeat' apply And.intro) <;> first | assumption | omega | exact Int.mul_ne_zero (den_ne _) (den_ne _) | exact den_ne _ | grind [sz_mul, sz_add, sz_sub, sz_neg, rz_num, rz_den, rz_add, rz_mul, rz_neg, rz_sub, rz_int, sz_64, sz_one])⟩

end Go.Proofs.YtghlkihmnopenaaGreatDoor

namespace Go.Proofs.YtghlkihmnopenaaGreatDoor
open Go Go.RowKit Go.Sw
set_option linter.unusedVariables false
set_option maxRecDepth 100000
set_option maxHeartbeats 8000000
instance ri_divmod (a b : Int) : DenI Tryz.prog 75 [Z a, Z b] (sz a ≤ 500000000 ∧ sz b ≤ 500000000) (.tup [Z (a.fdiv b), Z (if b = 0 then 0 else a.fmod b), .int .i64 (if b = 0 then 6 else 0)]) := ⟨fun hp => by
 refine den_of (τ := tab) tab_ok mixed_ Tryz.func75 rfl (by kernel_rfl) (by kernel_rfl) (by kernel_rfl) ?_
 repeat' ((try (conv => whnf)); first
  | refine call_0 ?_
  | refine call_i ?_ ?_
  | (with_reducible refine onB_t ?_)
  | (with_reducible refine onB_f ?_)
  | (with_reducible refine onB_d (fun _ => ?_) (fun _ => ?_))
  | (with_reducible refine onB_n (fun _ => ?_) (fun _ => ?_))
  | refine OnB.mk (fun _ => ?_) (fun _ => ?_)
  | refine obl_i ?_ ?_
  | refine Drw.mk (by kernel_rfl) ?_
  | refine mks_i ?_ ?_
  | refine slp_i ?_ ?_
  | (with_reducible refine elem_u ?_ ?_)
  | (with_reducible refine elem_0 ?_)
  | (with_reducible refine elem_1 ?_)
  | refine Ends.mk ?_)
 all_goals (try refine Pr.mk ?_)
 all_goals (try simp only [List.length_map, val_lim, cast_len0, cast_len1] at *)
 all_goals obtain ⟨h1, h2⟩ := hp
 all_goals (try simp only [sgnI_lt0, sgnI_zero, sgnI_le0, sgnI_gt0, sgnI_ge0, sgnI_eq1, cmpI_lt0, cmpI_gt0, cmpI_eq0, cmpI_le0, cmpI_ge0, cmpR_of, sgnR_of, sgnR_lt0, sgnR_eq0, sgnR_gt0, sgnR_le0, sgnR_ge0, sgnR_eq1, cmpR_lt0, cmpR_gt0, cmpR_eq0, cmpR_le0, cmpR_ge0] at *)
 all_goals first
  | (show packA _ = _; (first | (have hb0 : b = 0 := (by omega); subst hb0; exact rdm_zero a) | with_reducible exact rdm_turn (by assumption) (by assumption) (by assumption) | with_reducible exact rdm_keep (by assumption) (.inl (by omega)) | with_reducible exact rdm_keep (by assumption) (.inr (by simp_all))))
  | (have z1 := sz_sgnv (decide (a < 0) != decide (b < 0)) (a.natAbs / b.natAbs) a (Nat.div_le_self _ _); have z2 := sz_sgnv (decide (a < 0)) (a.natAbs % b.natAbs) a (Nat.mod_le _ _); have z3 := sz_one; (repeat' apply And.intro) <;> first | assumption | omega | exact CanL.lim _ | exact lb_lim _ | exact trimz_lim _ | (unfold sz at *; omega) | skip)⟩

end Go.Proofs.YtghlkihmnopenaaGreatDoor

namespace Go.Proofs.YtghlkihmnopenaaGreatDoor
open Go Go.RowKit Go.Sw
set_option linter.unusedVariables false
set_option maxRecDepth 100000
set_option maxHeartbeats 8000000
instance rr_unit  : DenI Tryz.prog 61 [] (True) (Z 1) := ⟨fun hp => by
 refine den_of (τ := tab) tab_ok mixed_ Tryz.func61 rfl (by kernel_rfl) (by kernel_rfl) (by kernel_rfl) ?_
 repeat' ((try (conv => whnf)); first
  | refine call_0 ?_
  | refine call_i ?_ ?_
  | (with_reducible refine onB_t ?_)
  | (with_reducible refine onB_f ?_)
  | (with_reducible refine onB_d (fun _ => ?_) (fun _ => ?_))
  | (with_reducible refine onB_n (fun _ => ?_) (fun _ => ?_))
  | refine OnB.mk (fun _ => ?_) (fun _ => ?_)
  | refine obl_i ?_ ?_
  | refine Drw.mk (by kernel_rfl) ?_
  | refine mks_i ?_ ?_
  | refine slp_i ?_ ?_
  | (with_reducible refine elem_u ?_ ?_)
  | (with_reducible refine elem_0 ?_)
  | (with_reducible refine elem_1 ?_)
  | refine Ends.mk ?_)
 all_goals (try refine Pr.mk ?_)
 all_goals first | rfl | decide⟩

instance rr_of (n d : Int) : DenI Tryz.prog 34 [Z n, Z d] (d ≠ 0 ∧ sz n ≤ 500000000 ∧ sz d ≤ 500000000) (R ((n : Rat) / d)) := ⟨fun hp => by
 refine den_of (τ := tab) tab_ok mixed_ Tryz.func34 rfl (by kernel_rfl) (by kernel_rfl) (by kernel_rfl) ?_
 repeat' ((try (conv => whnf)); first
  | refine call_0 ?_
  | refine call_i ?_ ?_
  | (with_reducible refine onB_t ?_)
  | (with_reducible refine onB_f ?_)
  | (with_reducible refine onB_d (fun _ => ?_) (fun _ => ?_))
  | (with_reducible refine onB_n (fun _ => ?_) (fun _ => ?_))
  | refine OnB.mk (fun _ => ?_) (fun _ => ?_)
  | refine obl_i ?_ ?_
  | refine Drw.mk (by kernel_rfl) ?_
  | refine mks_i ?_ ?_
  | refine slp_i ?_ ?_
  | (with_reducible refine elem_u ?_ ?_)
  | (with_reducible refine elem_0 ?_)
  | (with_reducible refine elem_1 ?_)
  | refine Ends.mk ?_)
 all_goals (try refine Pr.mk ?_)
 all_goals obtain ⟨h0, h1, h2⟩ := hp
 all_goals (try simp only [sgnI_lt0, sgnI_zero, sgnI_le0, sgnI_gt0, sgnI_ge0, sgnI_eq1, cmpI_lt0, cmpI_gt0, cmpI_eq0, cmpI_le0, cmpI_ge0, cmpR_of, sgnR_of, sgnR_lt0, sgnR_eq0, sgnR_gt0, sgnR_le0, sgnR_ge0, sgnR_eq1, cmpR_lt0, cmpR_gt0, cmpR_eq0, cmpR_le0, cmpR_ge0] at *)
 all_goals first
  | (show packA _ = _; first | (by_cases hd : d < 0; (obtain ⟨q1, q2⟩ := red_neg (n := n) (d := d) hd; first | exact packR q1 q2 | (refine packR ?_ ?_ <;> simp_all)); (obtain ⟨q1, q2⟩ := red_pos (n := n) (d := d) (by omega); first | exact packR q1 q2 | (refine packR ?_ ?_ <;> simp_all))))
  | ((try simp only [sz_neg]); (repeat' apply And.intro) <;> first | assumption | omega | exact sz_gcd (by (try simp only [sz_neg]); assumption) (by (try simp only [sz_neg]); assumption))⟩

instance rr_from (n : Int) : DenI Tryz.prog 20 [.int .i64 n] (-9223372036854775808 ≤ n ∧ n ≤ 9223372036854775807) (R (n : Rat)) := ⟨fun hp => by
 refine den_of (τ := tab) tab_ok mixed_ Tryz.func20 rfl (by kernel_rfl) (by kernel_rfl) (by kernel_rfl) ?_
 repeat' ((try (conv => whnf)); first
  | refine call_0 ?_
  | refine call_i ?_ ?_
  | (with_reducible refine onB_t ?_)
  | (with_reducible refine onB_f ?_)
  | (with_reducible refine onB_d (fun _ => ?_) (fun _ => ?_))
  | (with_reducible refine onB_n (fun _ => ?_) (fun _ => ?_))
  | refine OnB.mk (fun _ => ?_) (fun _ => ?_)
  | refine obl_i ?_ ?_
  | refine Drw.mk (by kernel_rfl) ?_
  | refine mks_i ?_ ?_
  | refine slp_i ?_ ?_
  | (with_reducible refine elem_u ?_ ?_)
  | (with_reducible refine elem_0 ?_)
  | (with_reducible refine elem_1 ?_)
  | refine Ends.mk ?_)
 all_goals (try refine Pr.mk ?_)
 all_goals (try simp only [sgnI_lt0, sgnI_zero, sgnI_le0, sgnI_gt0, sgnI_ge0, sgnI_eq1, cmpI_lt0, cmpI_gt0, cmpI_eq0, cmpI_le0, cmpI_ge0, cmpR_of, sgnR_of, sgnR_lt0, sgnR_eq0, sgnR_gt0, sgnR_le0, sgnR_ge0, sgnR_eq1, cmpR_lt0, cmpR_gt0, cmpR_eq0, cmpR_le0, cmpR_ge0] at *)
 all_goals first
  | (show packA _ = _; rfl)
  | (exact hp)⟩

instance rr_frac (n d : Int) : DenI Tryz.prog 49 [.int .i64 n, .int .i64 d] ((-9223372036854775808 ≤ n ∧ n ≤ 9223372036854775807) ∧ -9223372036854775808 ≤ d ∧ d ≤ 9223372036854775807) (R ((n : Rat) / d)) := ⟨fun hp => by
 refine den_of (τ := tab) tab_ok mixed_ Tryz.func49 rfl (by kernel_rfl) (by kernel_rfl) (by kernel_rfl) ?_
 repeat' ((try (conv => whnf)); first
  | refine call_0 ?_
  | refine call_i ?_ ?_
  | (with_reducible refine onB_t ?_)
  | (with_reducible refine onB_f ?_)
  | (with_reducible refine onB_d (fun _ => ?_) (fun _ => ?_))
  | (with_reducible refine onB_n (fun _ => ?_) (fun _ => ?_))
  | refine OnB.mk (fun _ => ?_) (fun _ => ?_)
  | refine obl_i ?_ ?_
  | refine Drw.mk (by kernel_rfl) ?_
  | refine mks_i ?_ ?_
  | refine slp_i ?_ ?_
  | (with_reducible refine elem_u ?_ ?_)
  | (with_reducible refine elem_0 ?_)
  | (with_reducible refine elem_1 ?_)
  | refine Ends.mk ?_)
 all_goals (try refine Pr.mk ?_)
 all_goals obtain ⟨⟨h1, h2⟩, h3, h4⟩ := hp
 all_goals (try simp only [sgnI_lt0, sgnI_zero, sgnI_le0, sgnI_gt0, sgnI_ge0, sgnI_eq1, cmpI_lt0, cmpI_gt0, cmpI_eq0, cmpI_le0, cmpI_ge0, cmpR_of, sgnR_of, sgnR_lt0, sgnR_eq0, sgnR_gt0, sgnR_le0, sgnR_ge0, sgnR_eq1, cmpR_lt0, cmpR_gt0, cmpR_eq0, cmpR_le0, cmpR_ge0] at *)
 all_goals first
  | (show packA _ = _; first | rfl | (subst d; exact congrArg R (frac0 n)))
  | (have z1 := sz_64 h1 h2; have z2 := sz_64 h3 h4; have z3 := sz_one; have z4 := sz_64 (n := 0) (by omega) (by omega); (repeat' apply And.intro) <;> first | assumption | omega | exact Int.mul_ne_zero (den_ne _) (den_ne _) | exact den_ne _ | grind [sz_mul, sz_add, sz_sub, sz_neg, rz_num, rz_den, rz_add, rz_mul, rz_neg, rz_sub, rz_int, sz_64, sz_one])⟩

instance rr_sign (a : Rat) : DenI Tryz.prog 18 [R a] (True) (.int .i64 (sgnR a)) := ⟨fun hp => by
 refine den_of (τ := tab) tab_ok mixed_ Tryz.func18 rfl (by kernel_rfl) (by kernel_rfl) (by kernel_rfl) ?_
 repeat' ((try (conv => whnf)); first
  | refine call_0 ?_
  | refine call_i ?_ ?_
  | (with_reducible refine onB_t ?_)
  | (with_reducible refine onB_f ?_)
  | (with_reducible refine onB_d (fun _ => ?_) (fun _ => ?_))
  | (with_reducible refine onB_n (fun _ => ?_) (fun _ => ?_))
  | refine OnB.mk (fun _ => ?_) (fun _ => ?_)
  | refine obl_i ?_ ?_
  | refine Drw.mk (by kernel_rfl) ?_
  | refine mks_i ?_ ?_
  | refine slp_i ?_ ?_
  | (with_reducible refine elem_u ?_ ?_)
  | (with_reducible refine elem_0 ?_)
  | (with_reducible refine elem_1 ?_)
  | refine Ends.mk ?_)
 all_goals (try refine Pr.mk ?_)
 all_goals (try simp only [sgnI_lt0, sgnI_zero, sgnI_le0, sgnI_gt0, sgnI_ge0, sgnI_eq1, cmpI_lt0, cmpI_gt0, cmpI_eq0, cmpI_le0, cmpI_ge0, cmpR_of, sgnR_of, sgnR_lt0, sgnR_eq0, sgnR_gt0, sgnR_le0, sgnR_ge0, sgnR_eq1, cmpR_lt0, cmpR_gt0, cmpR_eq0, cmpR_le0, cmpR_ge0] at *)
 all_goals first
  | (show packA _ = _; rfl)
  | (skip)⟩

instance rr_neg (a : Rat) : DenI Tryz.prog 26 [R a] (rz a ≤ 100000000) (R (-a)) := ⟨fun hp => by
 refine den_of (τ := tab) tab_ok mixed_ Tryz.func26 rfl (by kernel_rfl) (by kernel_rfl) (by kernel_rfl) ?_
 repeat' ((try (conv => whnf)); first
  | refine call_0 ?_
  | refine call_i ?_ ?_
  | (with_reducible refine onB_t ?_)
  | (with_reducible refine onB_f ?_)
  | (with_reducible refine onB_d (fun _ => ?_) (fun _ => ?_))
  | (with_reducible refine onB_n (fun _ => ?_) (fun _ => ?_))
  | refine OnB.mk (fun _ => ?_) (fun _ => ?_)
  | refine obl_i ?_ ?_
  | refine Drw.mk (by kernel_rfl) ?_
  | refine mks_i ?_ ?_
  | refine slp_i ?_ ?_
  | (with_reducible refine elem_u ?_ ?_)
  | (with_reducible refine elem_0 ?_)
  | (with_reducible refine elem_1 ?_)
  | refine Ends.mk ?_)
 all_goals (try refine Pr.mk ?_)
 all_goals (try simp only [sgnI_lt0, sgnI_zero, sgnI_le0, sgnI_gt0, sgnI_ge0, sgnI_eq1, cmpI_lt0, cmpI_gt0, cmpI_eq0, cmpI_le0, cmpI_ge0, cmpR_of, sgnR_of, sgnR_lt0, sgnR_eq0, sgnR_gt0, sgnR_le0, sgnR_ge0, sgnR_eq1, cmpR_lt0, cmpR_gt0, cmpR_eq0, cmpR_le0, cmpR_ge0] at *)
 all_goals first
  | (show packA _ = _; rfl)
  | ((repeat' apply And.intro) <;> first | assumption | omega | exact Int.mul_ne_zero (den_ne _) (den_ne _) | exact den_ne _ | grind [sz_mul, sz_add, sz_sub, sz_neg, rz_num, rz_den, rz_add, rz_mul, rz_neg, rz_sub, rz_int, sz_64, sz_one])⟩

instance rr_mul (a b : Rat) : DenI Tryz.prog 25 [R a, R b] (rz a ≤ 100000000 ∧ rz b ≤ 100000000) (R (a * b)) := ⟨fun hp => by
 refine den_of (τ := tab) tab_ok mixed_ Tryz.func25 rfl (by kernel_rfl) (by kernel_rfl) (by kernel_rfl) ?_
 repeat' ((try (conv => whnf)); first
  | refine call_0 ?_
  | refine call_i ?_ ?_
  | (with_reducible refine onB_t ?_)
  | (with_reducible refine onB_f ?_)
  | (with_reducible refine onB_d (fun _ => ?_) (fun _ => ?_))
  | (with_reducible refine onB_n (fun _ => ?_) (fun _ => ?_))
  | refine OnB.mk (fun _ => ?_) (fun _ => ?_)
  | refine obl_i ?_ ?_
  | refine Drw.mk (by kernel_rfl) ?_
  | refine mks_i ?_ ?_
  | refine slp_i ?_ ?_
  | (with_reducible refine elem_u ?_ ?_)
  | (with_reducible refine elem_0 ?_)
  | (with_reducible refine elem_1 ?_)
  | refine Ends.mk ?_)
 all_goals (try refine Pr.mk ?_)
 all_goals (try simp only [sgnI_lt0, sgnI_zero, sgnI_le0, sgnI_gt0, sgnI_ge0, sgnI_eq1, cmpI_lt0, cmpI_gt0, cmpI_eq0, cmpI_le0, cmpI_ge0, cmpR_of, sgnR_of, sgnR_lt0, sgnR_eq0, sgnR_gt0, sgnR_le0, sgnR_ge0, sgnR_eq1, cmpR_lt0, cmpR_gt0, cmpR_eq0, cmpR_le0, cmpR_ge0] at *)
 all_goals first
  | (show packA _ = _; exact congrArg R (mul_div a b))
  | ((repeat' apply And.intro) <;> first | assumption | omega | exact Int.mul_ne_zero (den_ne _) (den_ne _) | exact den_ne _ | grind [sz_mul, sz_add, sz_sub, sz_neg, rz_num, rz_den, rz_add, rz_mul, rz_neg, rz_sub, rz_int, sz_64, sz_one])⟩

instance rr_add (a b : Rat) : DenI Tryz.prog 52 [R a, R b] (rz a ≤ 100000000 ∧ rz b ≤ 100000000) (R (a + b)) := ⟨fun hp => by
 refine den_of (τ := tab) tab_ok mixed_ Tryz.func52 rfl (by kernel_rfl) (by kernel_rfl) (by kernel_rfl) ?_
 repeat' ((try (conv => whnf)); first
  | refine call_0 ?_
  | refine call_i ?_ ?_
  | (with_reducible refine onB_t ?_)
  | (with_reducible refine onB_f ?_)
  | (with_reducible refine onB_d (fun _ => ?_) (fun _ => ?_))
  | (with_reducible refine onB_n (fun _ => ?_) (fun _ => ?_))
  | refine OnB.mk (fun _ => ?_) (fun _ => ?_)
  | refine obl_i ?_ ?_
  | refine Drw.mk (by kernel_rfl) ?_
  | refine mks_i ?_ ?_
  | refine slp_i ?_ ?_
  | (with_reducible refine elem_u ?_ ?_)
  | (with_reducible refine elem_0 ?_)
  | (with_reducible refine elem_1 ?_)
  | refine Ends.mk ?_)
 all_goals (try refine Pr.mk ?_)
 all_goals (try simp only [sgnI_lt0, sgnI_zero, sgnI_le0, sgnI_gt0, sgnI_ge0, sgnI_eq1, cmpI_lt0, cmpI_gt0, cmpI_eq0, cmpI_le0, cmpI_ge0, cmpR_of, sgnR_of, sgnR_lt0, sgnR_eq0, sgnR_gt0, sgnR_le0, sgnR_ge0, sgnR_eq1, cmpR_lt0, cmpR_gt0, cmpR_eq0, cmpR_le0, cmpR_ge0] at *)
 all_goals first
  | (show packA _ = _; exact congrArg R (add_div a b))
  | ((repeat' apply And.intro) <;> first | assumption | omega | exact Int.mul_ne_zero (den_ne _) (den_ne _) | exact den_ne _ | grind [sz_mul, sz_add, sz_sub, sz_neg, rz_num, rz_den, rz_add, rz_mul, rz_neg, rz_sub, rz_int, sz_64, sz_one])⟩

instance rr_sub (a b : Rat) : DenI Tryz.prog 16 [R a, R b] (rz a ≤ 100000000 ∧ rz b ≤ 100000000) (R (a - b)) := ⟨fun hp => by
 refine den_of (τ := tab) tab_ok mixed_ Tryz.func16 rfl (by kernel_rfl) (by kernel_rfl) (by kernel_rfl) ?_
 repeat' ((try (conv => whnf)); first
  | refine call_0 ?_
  | refine call_i ?_ ?_
  | (with_reducible refine onB_t ?_)
  | (with_reducible refine onB_f ?_)
  | (with_reducible refine onB_d (fun _ => ?_) (fun _ => ?_))
  | (with_reducible refine onB_n (fun _ => ?_) (fun _ => ?_))
  | refine OnB.mk (fun _ => ?_) (fun _ => ?_)
  | refine obl_i ?_ ?_
  | refine Drw.mk (by kernel_rfl) ?_
  | refine mks_i ?_ ?_
  | refine slp_i ?_ ?_
  | (with_reducible refine elem_u ?_ ?_)
  | (with_reducible refine elem_0 ?_)
  | (with_reducible refine elem_1 ?_)
  | refine Ends.mk ?_)
 all_goals (try refine Pr.mk ?_)
 all_goals (try simp only [sgnI_lt0, sgnI_zero, sgnI_le0, sgnI_gt0, sgnI_ge0, sgnI_eq1, cmpI_lt0, cmpI_gt0, cmpI_eq0, cmpI_le0, cmpI_ge0, cmpR_of, sgnR_of, sgnR_lt0, sgnR_eq0, sgnR_gt0, sgnR_le0, sgnR_ge0, sgnR_eq1, cmpR_lt0, cmpR_gt0, cmpR_eq0, cmpR_le0, cmpR_ge0] at *)
 all_goals first
  | (show packA _ = _; exact congrArg R (Rat.sub_eq_add_neg a b).symm)
  | ((repeat' apply And.intro) <;> first | assumption | omega | exact Int.mul_ne_zero (den_ne _) (den_ne _) | exact den_ne _ | grind [sz_mul, sz_add, sz_sub, sz_neg, rz_num, rz_den, rz_add, rz_mul, rz_neg, rz_sub, rz_int, sz_64, sz_one])⟩

instance rr_cmp (a b : Rat) : DenI Tryz.prog 19 [R a, R b] (rz a ≤ 100000000 ∧ rz b ≤ 100000000) (.int .i64 (cmpR a b)) := ⟨fun hp => by
 refine den_of (τ := tab) tab_ok mixed_ Tryz.func19 rfl (by kernel_rfl) (by kernel_rfl) (by kernel_rfl) ?_
 repeat' ((try (conv => whnf)); first
  | refine call_0 ?_
  | refine call_i ?_ ?_
  | (with_reducible refine onB_t ?_)
  | (with_reducible refine onB_f ?_)
  | (with_reducible refine onB_d (fun _ => ?_) (fun _ => ?_))
  | (with_reducible refine onB_n (fun _ => ?_) (fun _ => ?_))
  | refine OnB.mk (fun _ => ?_) (fun _ => ?_)
  | refine obl_i ?_ ?_
  | refine Drw.mk (by kernel_rfl) ?_
  | refine mks_i ?_ ?_
  | refine slp_i ?_ ?_
  | (with_reducible refine elem_u ?_ ?_)
  | (with_reducible refine elem_0 ?_)
  | (with_reducible refine elem_1 ?_)
  | refine Ends.mk ?_)
 all_goals (try refine Pr.mk ?_)
 all_goals (try simp only [sgnI_lt0, sgnI_zero, sgnI_le0, sgnI_gt0, sgnI_ge0, sgnI_eq1, cmpI_lt0, cmpI_gt0, cmpI_eq0, cmpI_le0, cmpI_ge0, cmpR_of, sgnR_of, sgnR_lt0, sgnR_eq0, sgnR_gt0, sgnR_le0, sgnR_ge0, sgnR_eq1, cmpR_lt0, cmpR_gt0, cmpR_eq0, cmpR_le0, cmpR_ge0] at *)
 all_goals first
  | (show packA _ = _; rfl)
  | ((repeat' apply And.intro) <;> first | assumption | omega | exact Int.mul_ne_zero (den_ne _) (den_ne _) | exact den_ne _ | grind [sz_mul, sz_add, sz_sub, sz_neg, rz_num, rz_den, rz_add, rz_mul, rz_neg, rz_sub, rz_int, sz_64, sz_one])⟩

instance rr_floor (a : Rat) : DenI Tryz.prog 32 [R a] (rz a ≤ 100000000) (Z a.floor) := ⟨fun hp => by
 refine den_of (τ := tab) tab_ok mixed_ Tryz.func32 rfl (by kernel_rfl) (by kernel_rfl) (by kernel_rfl) ?_
 repeat' ((try (conv => whnf)); first
  | refine call_0 ?_
  | refine call_i ?_ ?_
  | (with_reducible refine onB_t ?_)
  | (with_reducible refine onB_f ?_)
  | (with_reducible refine onB_d (fun _ => ?_) (fun _ => ?_))
  | (with_reducible refine onB_n (fun _ => ?_) (fun _ => ?_))
  | refine OnB.mk (fun _ => ?_) (fun _ => ?_)
  | refine obl_i ?_ ?_
  | refine Drw.mk (by kernel_rfl) ?_
  | refine mks_i ?_ ?_
  | refine slp_i ?_ ?_
  | (with_reducible refine elem_u ?_ ?_)
  | (with_reducible refine elem_0 ?_)
  | (with_reducible refine elem_1 ?_)
  | refine Ends.mk ?_)
 all_goals (try refine Pr.mk ?_)
 all_goals (try simp only [sgnI_lt0, sgnI_zero, sgnI_le0, sgnI_gt0, sgnI_ge0, sgnI_eq1, cmpI_lt0, cmpI_gt0, cmpI_eq0, cmpI_le0, cmpI_ge0, cmpR_of, sgnR_of, sgnR_lt0, sgnR_eq0, sgnR_gt0, sgnR_le0, sgnR_ge0, sgnR_eq1, cmpR_lt0, cmpR_gt0, cmpR_eq0, cmpR_le0, cmpR_ge0] at *)
 all_goals first
  | (show packA _ = _; exact congrArg Z (floor_of a))
  | ((repeat' apply And.intro) <;> first | assumption | omega | exact Int.mul_ne_zero (den_ne _) (den_ne _) | exact den_ne _ | grind [sz_mul, sz_add, sz_sub, sz_neg, rz_num, rz_den, rz_add, rz_mul, rz_neg, rz_sub, rz_int, sz_64, sz_one])⟩

end Go.Proofs.YtghlkihmnopenaaGreatDoor

namespace Go.Proofs.YtghlkihmnopenaaGreatDoor
open Go Go.RowKit Go.Sw
set_option linter.unusedVariables false
set_option maxRecDepth 100000
set_option maxHeartbeats 8000000
instance ri_valid (neg : Bool) (l : List Nat) : DenI Tryz.prog 15 [Zr neg l] (l.length ≤ 9223372036854775807) (.bool (validL neg l)) := ⟨fun hp => by
 refine den_of (τ := tab) tab_ok mixed_ Tryz.func15 rfl (by kernel_rfl) (by kernel_rfl) (by kernel_rfl) ?_
 repeat' ((try (conv => whnf)); first
  | refine call_0 ?_
  | refine call_i ?_ ?_
  | (with_reducible refine onB_t ?_)
  | (with_reducible refine onB_f ?_)
  | (with_reducible refine onB_d (fun _ => ?_) (fun _ => ?_))
  | (with_reducible refine onB_n (fun _ => ?_) (fun _ => ?_))
  | refine OnB.mk (fun _ => ?_) (fun _ => ?_)
  | refine obl_i ?_ ?_
  | refine Drw.mk (by kernel_rfl) ?_
  | refine mks_i ?_ ?_
  | refine slp_i ?_ ?_
  | (with_reducible refine elem_u ?_ ?_)
  | (with_reducible refine elem_0 ?_)
  | (with_reducible refine elem_1 ?_)
  | refine Ends.mk ?_)
 all_goals (try refine Pr.mk ?_)
 all_goals first
  | ((conv => whnf); refine Sw.Loop.inv (α := Nat) (fun x => [(1, .ptr 1 0), (2, .bool false), (3, .int .i64 x)]) (fun x => [(1, .var [.v (.bool neg), lmc l])]) (fun x => x ≤ l.length ∧ ∀ j, j < x → l.getD j 0 < 1000000000) (fun x => l.length - x) 0 ?_ ?_ ?_ (fun x hx => ?_))
  | skip
 all_goals (repeat' ((try (conv => whnf)); first
  | refine call_0 ?_
  | refine call_i ?_ ?_
  | (with_reducible refine onB_t ?_)
  | (with_reducible refine onB_f ?_)
  | (with_reducible refine onB_d (fun _ => ?_) (fun _ => ?_))
  | (with_reducible refine onB_n (fun _ => ?_) (fun _ => ?_))
  | refine OnB.mk (fun _ => ?_) (fun _ => ?_)
  | refine obl_i ?_ ?_
  | refine Drw.mk (by kernel_rfl) ?_
  | refine mks_i ?_ ?_
  | refine slp_i ?_ ?_
  | (with_reducible refine elem_u ?_ ?_)
  | (with_reducible refine elem_0 ?_)
  | (with_reducible refine elem_1 ?_)
  | refine Ends.mk ?_))
 all_goals (try refine Pr.mk ?_)
 all_goals first | (show SubE _ _; repeat' (first | exact trivial | refine And.intro ?_ ?_)) | (show SubB _ _; repeat' (first | exact trivial | refine And.intro ?_ ?_)) | skip
 all_goals (try rfl)
 all_goals (try simp only [List.length_map, Int.toNat_natCast] at *)
 all_goals first
  | exact bE (rv_bad (x := x) (by omega) (by assumption))
  | (refine bE ?_; rw [rv_end hx (by assumption)]; (have hh : (trimz l).length = l.length := by omega); simp_all; done)
  | (refine bE ?_; rw [rv_end hx (by assumption)]; (have hh : ¬(trimz l).length = l.length := by omega); simp_all; done)
  | ((conv => whnf); exact ⟨x + 1, ⟨⟨rfl, rfl, inc64 (by omega), trivial⟩, ⟨rfl, trivial⟩, ⟨by omega, fun j hj => by rcases Nat.lt_succ_iff_lt_or_eq.1 hj with h | h; exact hx.2 j h; subst h; omega⟩, by show l.length - (x + 1) < l.length - x; omega⟩⟩)
  | omega
  | exact ⟨by omega, fun j hj => by omega⟩⟩

end Go.Proofs.YtghlkihmnopenaaGreatDoor

namespace Go.Proofs.YtghlkihmnopenaaGreatDoor
open Go Go.RowKit Go.Sw
set_option linter.unusedVariables false
set_option maxRecDepth 100000
set_option maxHeartbeats 8000000
instance rr_valid (n1 : Bool) (l1 : List Nat) (n2 : Bool) (l2 : List Nat) : DenI Tryz.prog 29 [Rr n1 l1 n2 l2] (l1.length ≤ 1000000000 ∧ l2.length ≤ 1000000000) (.bool (validR n1 l1 n2 l2)) := ⟨fun hp => by
 rcases valid_cases n1 l1 n2 l2 with h | ⟨x, rfl, rfl, h⟩ | ⟨x, y, rfl, rfl, rfl, rfl⟩
 all_goals refine den_of (τ := tab) tab_ok mixed_ Tryz.func29 rfl (by kernel_rfl) (by kernel_rfl) (by kernel_rfl) ?_
 all_goals (repeat' ((try (conv => whnf)); first
  | refine call_0 ?_
  | refine call_i ?_ ?_
  | (with_reducible refine onB_t ?_)
  | (with_reducible refine onB_f ?_)
  | (with_reducible refine onB_d (fun _ => ?_) (fun _ => ?_))
  | (with_reducible refine onB_n (fun _ => ?_) (fun _ => ?_))
  | refine OnB.mk (fun _ => ?_) (fun _ => ?_)
  | refine obl_i ?_ ?_
  | refine Drw.mk (by kernel_rfl) ?_
  | refine mks_i ?_ ?_
  | refine slp_i ?_ ?_
  | (with_reducible refine elem_u ?_ ?_)
  | (with_reducible refine elem_0 ?_)
  | (with_reducible refine elem_1 ?_)
  | refine Ends.mk ?_))
 all_goals (try refine Pr.mk ?_)
 all_goals first
  | (simp only [validL_lim] at *; exfalso; simp_all; done)
  | (exfalso; clear hp; simp at *; done)
  | (exfalso; simp_all; done)
  | (refine bE ?_; rw [validR_int]; simp_all; done)
  | exact bE (by unfold validR; simp_all)
  | exact hp
  | (first | exact Nat.le_trans hp.1 (by decide) | exact Nat.le_trans hp.2 (by decide))⟩

end Go.Proofs.YtghlkihmnopenaaGreatDoor

namespace Go.Proofs.YtghlkihmnopenaaGreatDoor
open Go Go.RowKit Go.Sw
set_option linter.unusedVariables false
set_option maxRecDepth 100000
set_option maxHeartbeats 8000000
instance ri_sqrt (a : Int) : DenI Tryz.prog 99 [Z a] (sz a ≤ 100000000) (.tup [Z (if a < 0 then 0 else isq a.natAbs), .int .i64 (if a < 0 then 7 else 0)]) := ⟨fun hp => by
 refine den_of (τ := tab) tab_ok mixed_ Tryz.func99 rfl (by kernel_rfl) (by kernel_rfl) (by kernel_rfl) ?_
 repeat' ((try (conv => whnf)); first
  | refine call_0 ?_
  | refine call_i ?_ ?_
  | (with_reducible refine onB_t ?_)
  | (with_reducible refine onB_f ?_)
  | (with_reducible refine onB_d (fun _ => ?_) (fun _ => ?_))
  | (with_reducible refine onB_n (fun _ => ?_) (fun _ => ?_))
  | refine OnB.mk (fun _ => ?_) (fun _ => ?_)
  | refine obl_i ?_ ?_
  | refine Drw.mk (by kernel_rfl) ?_
  | refine mks_i ?_ ?_
  | refine slp_i ?_ ?_
  | (with_reducible refine elem_u ?_ ?_)
  | (with_reducible refine elem_0 ?_)
  | (with_reducible refine elem_1 ?_)
  | refine Ends.mk ?_)
 all_goals (try refine Pr.mk ?_)
 all_goals have hl : (lim a.natAbs).length ≤ 100000000 := hp
 all_goals first
  | ((conv => whnf); refine Sw.Loop.inv (α := Nat) (fun x => [(1, .ptr 1 0), (2, .ptr 2 0), (3, .int .i64 0), (4, .ptr 4 0), (5, .ptr 5 0)]) (fun x => [(1, .var [zs a, zl a]), (2, .var [.v (.bool false), .sl 1 []]), (4, .var [zs x, zl x]), (5, .var [zs 2, zl 2])]) (fun x => 0 < x ∧ a.natAbs < (x + 1) * (x + 1) ∧ sz x ≤ 200000000) (fun x => x) (1000000000 ^ (((lim a.natAbs).length + 1) / 2)) ?_ ?_ ?_ (fun x hx => ?_))
  | skip
 all_goals (repeat' ((try (conv => whnf)); first
  | refine call_0 ?_
  | refine call_i ?_ ?_
  | (with_reducible refine onB_t ?_)
  | (with_reducible refine onB_f ?_)
  | (with_reducible refine onB_d (fun _ => ?_) (fun _ => ?_))
  | (with_reducible refine onB_n (fun _ => ?_) (fun _ => ?_))
  | refine OnB.mk (fun _ => ?_) (fun _ => ?_)
  | refine obl_i ?_ ?_
  | refine Drw.mk (by kernel_rfl) ?_
  | refine mks_i ?_ ?_
  | refine slp_i ?_ ?_
  | (with_reducible refine elem_u ?_ ?_)
  | (with_reducible refine elem_0 ?_)
  | (with_reducible refine elem_1 ?_)
  | refine Ends.mk ?_))
 all_goals (try refine Pr.mk ?_)
 all_goals first | (show SubE _ _; repeat' (first | exact trivial | refine And.intro ?_ ?_)) | (show SubB _ _; repeat' (first | exact trivial | refine And.intro ?_ ?_)) | skip
 all_goals (try rfl)
 all_goals (try simp only [sgnI_lt0, sgnI_zero, sgnI_le0, sgnI_gt0, sgnI_ge0, sgnI_eq1, cmpI_lt0, cmpI_gt0, cmpI_eq0, cmpI_le0, cmpI_ge0, cmpR_of, sgnR_of, sgnR_lt0, sgnR_eq0, sgnR_gt0, sgnR_le0, sgnR_ge0, sgnR_eq1, cmpR_lt0, cmpR_gt0, cmpR_eq0, cmpR_le0, cmpR_ge0] at *)
 all_goals (try simp only [List.length_map, val_lim, cast_len0, cast_len1] at *)
 all_goals (try rw [half_len (by omega)])
 all_goals (try simp only [fdiv_nat (show 0 ≤ a by omega), fdiv_two] at *)
 all_goals first
  | exact rsq_neg (by assumption)
  | exact rsq_zero (by assumption) (by assumption)
  | with_reducible exact rsq_end (by assumption) (by assumption) (by assumption)
  | ((conv => whnf); exact ⟨(x + a.natAbs / x) / 2, ⟨⟨rfl, rfl, rfl, rfl, rfl, trivial⟩, ⟨rfl, rfl, rfl, rfl, trivial⟩, rsq_step (by assumption) (by assumption) (by assumption), by show (x + a.natAbs / x) / 2 < x; omega⟩⟩)
  | (refine (congrArg (fun c => some (Bk.var c)) ?_ : some (Bk.var _) = some (Bk.var _)); exact pow_cells _)
  | exact sqrt_facts rfl hl
  | (have z1 := @sz_quot a; have z2 := sz_add; have z3 := sz_one; have z4 := sz_64 (n := 2) (by omega) (by omega); (repeat' apply And.intro) <;> first | assumption | omega | decide | (simp only [Int.toNat_natCast, List.length_replicate, List.length_append, List.length_cons, List.length_nil]; omega) | (simp; done) | (have z5 := z1 (x := x); have z6 := z2 x ((a.natAbs / x : Nat) : Int); omega) | skip)⟩

end Go.Proofs.YtghlkihmnopenaaGreatDoor

namespace Go.Proofs.YtghlkihmnopenaaGreatDoor
open Go Go.RowKit Go.Sw
set_option linter.unusedVariables false
set_option maxRecDepth 100000
set_option maxHeartbeats 8000000
instance (k : Nat) : DenI Tryz.prog 95 [.bool false, .c (.sl 1 (List.replicate k [Cell.v (.int .u32 0)] ++ [[Cell.v (.int .u32 1)]]))] True (Z ((1000000000 ^ k : Nat) : Int)) := ⟨fun _ => by
 have h := (inferInstance : DenI Tryz.prog 95 [.bool false, .c (lmc (List.replicate k 0 ++ [1]))] _ _).den ((lb_zeros k).append (Lb.cons (by omega) Lb.nil))
 rw [sqrt_start] at h
 unfold lmc at h
 rw [List.map_append, List.map_replicate] at h
 exact h⟩
instance i_sqrt (a : Int) : DenI Tryz.prog 98 [Z a] (sz a ≤ 100000000) (.tup [Z (if a < 0 then 0 else isq a.natAbs), .int .i64 (if a < 0 then 7 else 0)]) := ⟨fun hp => by
 refine den_of (τ := tab) tab_ok mixed_ Tryz.func98 rfl (by kernel_rfl) (by kernel_rfl) (by kernel_rfl) ?_
 repeat' ((try (conv => whnf)); first
  | refine call_0 ?_
  | refine call_i ?_ ?_
  | (with_reducible refine onB_t ?_)
  | (with_reducible refine onB_f ?_)
  | (with_reducible refine onB_d (fun _ => ?_) (fun _ => ?_))
  | (with_reducible refine onB_n (fun _ => ?_) (fun _ => ?_))
  | refine OnB.mk (fun _ => ?_) (fun _ => ?_)
  | refine obl_i ?_ ?_
  | refine Drw.mk (by kernel_rfl) ?_
  | refine mks_i ?_ ?_
  | refine slp_i ?_ ?_
  | (with_reducible refine elem_u ?_ ?_)
  | (with_reducible refine elem_0 ?_)
  | (with_reducible refine elem_1 ?_)
  | refine Ends.mk ?_)
 all_goals (try refine Pr.mk ?_)
 all_goals have hl : (lim a.natAbs).length ≤ 100000000 := hp
 all_goals first
  | ((conv => whnf); refine Sw.Loop.inv (α := Nat) (fun x => [(1, .ptr 1 0), (2, .ptr 2 0), (3, .int .i64 0), (5, .ptr 5 0), (6, .ptr 6 0)]) (fun x => [(1, .var [zs a, zl a]), (2, .var [.v (.bool false), .sl 1 []]), (5, .var [zs x, zl x]), (6, .var [zs 2, zl 2])]) (fun x => 0 < x ∧ a.natAbs < (x + 1) * (x + 1) ∧ sz x ≤ 200000000) (fun x => x) (1000000000 ^ (((lim a.natAbs).length + 1) / 2)) ?_ ?_ ?_ (fun x hx => ?_))
  | skip
 all_goals (repeat' ((try (conv => whnf)); first
  | refine call_0 ?_
  | refine call_i ?_ ?_
  | (with_reducible refine onB_t ?_)
  | (with_reducible refine onB_f ?_)
  | (with_reducible refine onB_d (fun _ => ?_) (fun _ => ?_))
  | (with_reducible refine onB_n (fun _ => ?_) (fun _ => ?_))
  | refine OnB.mk (fun _ => ?_) (fun _ => ?_)
  | refine obl_i ?_ ?_
  | refine Drw.mk (by kernel_rfl) ?_
  | refine mks_i ?_ ?_
  | refine slp_i ?_ ?_
  | (with_reducible refine elem_u ?_ ?_)
  | (with_reducible refine elem_0 ?_)
  | (with_reducible refine elem_1 ?_)
  | refine Ends.mk ?_))
 all_goals (try refine Pr.mk ?_)
 all_goals first | (show SubE _ _; repeat' (first | exact trivial | refine And.intro ?_ ?_)) | (show SubB _ _; repeat' (first | exact trivial | refine And.intro ?_ ?_)) | skip
 all_goals (try rfl)
 all_goals (try simp only [sgnI_lt0, sgnI_zero, sgnI_le0, sgnI_gt0, sgnI_ge0, sgnI_eq1, cmpI_lt0, cmpI_gt0, cmpI_eq0, cmpI_le0, cmpI_ge0, cmpR_of, sgnR_of, sgnR_lt0, sgnR_eq0, sgnR_gt0, sgnR_le0, sgnR_ge0, sgnR_eq1, cmpR_lt0, cmpR_gt0, cmpR_eq0, cmpR_le0, cmpR_ge0] at *)
 all_goals (try simp only [List.length_map, val_lim, cast_len0, cast_len1] at *)
 all_goals (try rw [half_len (by omega)])
 all_goals (try simp only [Int.toNat_natCast, List.length_replicate, List.length_append, List.length_cons, List.length_nil])
 all_goals (try simp only [fdiv_nat (show 0 ≤ a by omega), fdiv_two] at *)
 all_goals first
  | exact rsq_neg (by assumption)
  | exact rsq_zero (by assumption) (by assumption)
  | with_reducible exact rsq_end (by assumption) (by assumption) (by assumption)
  | ((conv => whnf); exact ⟨(x + a.natAbs / x) / 2, ⟨⟨rfl, rfl, rfl, rfl, rfl, trivial⟩, ⟨rfl, rfl, rfl, rfl, trivial⟩, rsq_step (by assumption) (by assumption) (by assumption), by show (x + a.natAbs / x) / 2 < x; omega⟩⟩)
  | exact sqrt_facts rfl hl
  | with_reducible rfl
  | (show ld _ _ = some _; rfl)
  | (have z1 := @sz_quot a; have z2 := sz_add; have z3 := sz_one; have z4 := sz_64 (n := 2) (by omega) (by omega); (repeat' apply And.intro) <;> first | assumption | omega | decide | (simp; done) | (have z5 := z1 (x := x); have z6 := z2 x ((a.natAbs / x : Nat) : Int); omega) | skip)⟩

end Go.Proofs.YtghlkihmnopenaaGreatDoor

namespace Go.Sw
open Go
set_option linter.unusedVariables false
/-- An interval's cells. -/
@[reducible] def Iv (l h : Int) : AV := .agg [.v (.int .i64 l), .v (.int .i64 h)]
def sgIv (l h : Int) : Int × Bool := if l > 0 then (1, true) else if h < 0 then (-1, true) else (0, decide (l = 0 ∧ h = 0))
def prIv (l h : Int) : Bool := decide (l ≤ h ∧ -2305843009213693952 ≤ l ∧ h ≤ 2305843009213693952)
/-- An interval whose ends are not too great. -/
def mkI (l h : Int) : Option (Int × Int) := if -2305843009213693952 ≤ l ∧ h ≤ 2305843009213693952 then some (l, h) else none
@[reducible] def Ov (o : Option (Int × Int)) : AV := .tup [Iv (o.getD (0, 0)).1 (o.getD (0, 0)).2, .bool o.isSome]
theorem mkI_yes {l h : Int} (h1 : -2305843009213693952 ≤ l) (h2 : h ≤ 2305843009213693952) : mkI l h = some (l, h) := if_pos ⟨h1, h2⟩
theorem mkI_no {l h : Int} (h1 : ¬(-2305843009213693952 ≤ l ∧ h ≤ 2305843009213693952)) : mkI l h = none := if_neg h1
theorem sh32 : min (Int.toNat 32) IntKind.u64.bits = 32 := rfl
theorem sh16 : min (Int.toNat 16) IntKind.u64.bits = 16 := rfl
theorem sh48 : min (Int.toNat 48) IntKind.u64.bits = 48 := rfl
theorem fdiv_cast (a n : Nat) : ((a : Nat) : Int).fdiv ((n : Nat) : Int) = ((a / n : Nat) : Int) := by rw [Int.fdiv_eq_ediv_of_nonneg _ (by omega)]; rfl
theorem wu (n : Nat) : IntKind.u64.wrap ((n : Nat) : Int) = ((n % 18446744073709551616 : Nat) : Int) := by rw [IntKind.wrap_u64]; omega
theorem andI_mask {a n : Nat} (hn : n ≤ 64) (ha : a < 18446744073709551616) : andI .u64 ((a : Nat) : Int) ((2 ^ n - 1 : Nat) : Int) = ((a % 2 ^ n : Nat) : Int) := by
  unfold andI
  have h2 : 2 ^ n ≤ 2 ^ 64 := Nat.pow_le_pow_right (by decide) hn
  have h0 : 0 < 2 ^ n := Nat.pow_pos (by decide)
  have e : (BitVec.ofInt IntKind.u64.bits ((a : Nat) : Int) &&& BitVec.ofInt IntKind.u64.bits ((2 ^ n - 1 : Nat) : Int)).toNat = a % 2 ^ n := by
    show (BitVec.ofInt 64 ((a : Nat) : Int) &&& BitVec.ofInt 64 ((2 ^ n - 1 : Nat) : Int)).toNat = a % 2 ^ n
    rw [BitVec.ofInt_natCast, BitVec.ofInt_natCast, BitVec.toNat_and, BitVec.toNat_ofNat, BitVec.toNat_ofNat, Nat.mod_eq_of_lt (show a < 2 ^ 64 from ha), Nat.mod_eq_of_lt (show 2 ^ n - 1 < 2 ^ 64 by omega), Nat.and_two_pow_sub_one_eq_mod]
  rw [e, wu]
  have h3 : a % 2 ^ n ≤ a := Nat.mod_le _ _
  rw [Nat.mod_eq_of_lt (by omega)]
theorem orI_sum {a b n : Nat} (hn : n ≤ 64) (hb : b < 2 ^ n) (ha : 2 ^ n * a < 18446744073709551616) : orI .u64 ((2 ^ n * a : Nat) : Int) ((b : Nat) : Int) = ((2 ^ n * a + b : Nat) : Int) := by
  unfold orI
  have h2 : 2 ^ n ≤ 2 ^ 64 := Nat.pow_le_pow_right (by decide) hn
  have e : (BitVec.ofInt IntKind.u64.bits ((2 ^ n * a : Nat) : Int) ||| BitVec.ofInt IntKind.u64.bits ((b : Nat) : Int)).toNat = 2 ^ n * a + b := by
    show (BitVec.ofInt 64 ((2 ^ n * a : Nat) : Int) ||| BitVec.ofInt 64 ((b : Nat) : Int)).toNat = 2 ^ n * a + b
    rw [BitVec.ofInt_natCast, BitVec.ofInt_natCast, BitVec.toNat_or, BitVec.toNat_ofNat, BitVec.toNat_ofNat, Nat.mod_eq_of_lt (show 2 ^ n * a < 2 ^ 64 from ha), Nat.mod_eq_of_lt (show b < 2 ^ 64 by omega), Nat.two_pow_add_eq_or_of_lt hb]
  have hlt : 2 ^ n * a + b < 18446744073709551616 := by
    have := (BitVec.ofInt IntKind.u64.bits ((2 ^ n * a : Nat) : Int) ||| BitVec.ofInt IntKind.u64.bits ((b : Nat) : Int)).isLt
    rw [e] at this
    exact this
  rw [e, wu, Nat.mod_eq_of_lt hlt]
theorem mul64_law {a b x0 x1 y0 y1 : Nat} (ha : a < 18446744073709551616) (hb : b < 18446744073709551616) (h1 : x0 = a % 4294967296) (h2 : x1 = a / 4294967296) (h3 : y0 = b % 4294967296) (h4 : y1 = b / 4294967296) :
    (x1 * y1 + (x1 * y0 + x0 * y0 % 18446744073709551616 / 4294967296) / 4294967296 + ((x1 * y0 + x0 * y0 % 18446744073709551616 / 4294967296) % 4294967296 + x0 * y1) / 4294967296) = a * b / 18446744073709551616 ∧
    x0 * y0 ≤ 18446744065119617025 ∧ x1 * y0 ≤ 18446744065119617025 ∧ x0 * y1 ≤ 18446744065119617025 ∧ x1 * y1 ≤ 18446744065119617025 := by
  have b1 : x0 * y0 ≤ 4294967295 * 4294967295 := Nat.mul_le_mul (by omega) (by omega)
  have b2 : x1 * y0 ≤ 4294967295 * 4294967295 := Nat.mul_le_mul (by omega) (by omega)
  have b3 : x0 * y1 ≤ 4294967295 * 4294967295 := Nat.mul_le_mul (by omega) (by omega)
  have b4 : x1 * y1 ≤ 4294967295 * 4294967295 := Nat.mul_le_mul (by omega) (by omega)
  have ea : a = x1 * 4294967296 + x0 := by omega
  have eb : b = y1 * 4294967296 + y0 := by omega
  have e : a * b = x1 * y1 * 18446744073709551616 + (x1 * y0 + x0 * y1) * 4294967296 + x0 * y0 := by rw [ea, eb]; grind
  rw [e]
  generalize x0 * y0 = p at *
  generalize x1 * y0 = q at *
  generalize x0 * y1 = r at *
  generalize x1 * y1 = s at *
  exact ⟨by omega, by omega, by omega, by omega, by omega⟩
theorem andI_nat (a : Nat) {n : Nat} (hn : n ≤ 64) : andI .u64 ((a : Nat) : Int) ((2 ^ n - 1 : Nat) : Int) = ((a % 2 ^ n : Nat) : Int) := by
  have e : andI .u64 ((a : Nat) : Int) ((2 ^ n - 1 : Nat) : Int) = andI .u64 ((a % 18446744073709551616 : Nat) : Int) ((2 ^ n - 1 : Nat) : Int) := by
    unfold andI
    have : BitVec.ofInt IntKind.u64.bits ((a : Nat) : Int) = BitVec.ofInt IntKind.u64.bits ((a % 18446744073709551616 : Nat) : Int) := by
      show BitVec.ofInt 64 ((a : Nat) : Int) = BitVec.ofInt 64 ((a % 18446744073709551616 : Nat) : Int)
      rw [BitVec.ofInt_natCast, BitVec.ofInt_natCast]
      apply BitVec.eq_of_toNat_eq
      simp
    rw [this]
  rw [e, andI_mask hn (Nat.mod_lt _ (by decide)), Nat.mod_mod_of_dvd _ (Nat.pow_dvd_pow 2 hn : 2 ^ n ∣ 2 ^ 64)]
theorem andI32 (a : Nat) : andI .u64 ((a : Nat) : Int) 4294967295 = ((a % 4294967296 : Nat) : Int) := andI_nat a (n := 32) (by decide)
theorem andI16 (a : Nat) : andI .u64 ((a : Nat) : Int) 65535 = ((a % 65536 : Nat) : Int) := andI_nat a (n := 16) (by decide)
theorem e32 : (2 : Int) ^ 32 = ((4294967296 : Nat) : Int) := rfl
theorem e16 : (2 : Int) ^ 16 = ((65536 : Nat) : Int) := rfl
theorem e48 : (2 : Int) ^ 48 = ((281474976710656 : Nat) : Int) := rfl
theorem iE2 {k k' : IntKind} {x x' y y' : Int} (h : x = x') (h' : y = y') : packA [AV.c (Cell.v (Value.int k x)), AV.c (Cell.v (Value.int k' y))] = AV.tup [AV.int k x', AV.int k' y'] := by rw [h, h']; rfl
theorem ibE {k : IntKind} {x x' : Int} {y y' : Bool} (h : x = x') (h' : y = y') : packA [AV.c (Cell.v (Value.int k x)), AV.c (Cell.v (Value.bool y))] = AV.tup [AV.int k x', AV.bool y'] := by rw [h, h']; rfl
/-- x y / 65536, rounded down and up, as the program computes it, and whether it has. -/
def scP (x y : Int) : Nat := x.natAbs * y.natAbs
def scQ (x y : Int) : Int × Int :=
  let q : Int := (scP x y / 65536 : Nat)
  let u : Int := if scP x y % 65536 = 0 then q else q + 1
  if (decide (x < 0) != decide (y < 0)) = true then (-u, -q) else (q, u)
def scI (x y : Int) : Int × Int × Bool :=
  if 1208925819614629174706176 ≤ scP x y ∨ 2305843009213693952 < scP x y / 65536 then (0, 0, false)
  else ((scQ x y).1, (scQ x y).2, decide (-2305843009213693952 ≤ (scQ x y).1 ∧ (scQ x y).2 ≤ 2305843009213693952))
theorem sc_fin {x y d u : Int} {o : Bool} (h : scI x y = (d, u, o)) : packA [AV.c (Cell.v (Value.int .i64 d)), AV.c (Cell.v (Value.int .i64 u)), AV.c (Cell.v (Value.bool o))] = AV.tup [AV.int .i64 (scI x y).1, AV.int .i64 (scI x y).2.1, AV.bool (scI x y).2.2] := by rw [h]; rfl
theorem sc_q {p : Nat} (h : p / 18446744073709551616 / 65536 = 0) : orI .u64 (IntKind.u64.wrap (((p / 18446744073709551616 : Nat) : Int) * ((281474976710656 : Nat) : Int))) ((p % 18446744073709551616 / 65536 : Nat) : Int) = ((p / 65536 : Nat) : Int) := by
  rw [← Int.natCast_mul, wu, Nat.mod_eq_of_lt (by omega), Nat.mul_comm]
  have := orI_sum (n := 48) (a := p / 18446744073709551616) (b := p % 18446744073709551616 / 65536) (by decide) (by omega) (by omega)
  have e : (2 : Nat) ^ 48 = 281474976710656 := rfl
  rw [e] at this
  rw [this]
  congr 1; omega
theorem sc_big {x y : Int} (h : ¬(((x.natAbs * y.natAbs / 18446744073709551616 / 65536 : Nat) : Int)) = 0) : scI x y = (0, 0, false) := if_pos (.inl (by unfold scP; generalize x.natAbs * y.natAbs = p at *; omega))
theorem sc_big2 {x y : Int} (h : (((x.natAbs * y.natAbs / 65536 : Nat) : Int)) > 2305843009213693952) : scI x y = (0, 0, false) := if_pos (.inr (by unfold scP; generalize x.natAbs * y.natAbs = p at *; omega))
theorem sc_val {x y d u : Int} {o : Bool} (h1 : (((x.natAbs * y.natAbs / 18446744073709551616 / 65536 : Nat) : Int)) = 0) (h2 : ¬(((x.natAbs * y.natAbs / 65536 : Nat) : Int)) > 2305843009213693952)
    (hd : d = (scQ x y).1) (hu : u = (scQ x y).2) (ho : o = decide (-2305843009213693952 ≤ (scQ x y).1 ∧ (scQ x y).2 ≤ 2305843009213693952)) : scI x y = (d, u, o) := by
  subst hd hu ho
  exact if_neg (by unfold scP; generalize x.natAbs * y.natAbs = p at *; omega)
theorem scQ_eq {x y : Int} {s z : Bool} (hs : (decide (x < 0) != decide (y < 0)) = s) (hz : decide (x.natAbs * y.natAbs % 65536 = 0) = z) :
    scQ x y = (if s then (-(if z then ((x.natAbs * y.natAbs / 65536 : Nat) : Int) else ((x.natAbs * y.natAbs / 65536 : Nat) : Int) + 1), -((x.natAbs * y.natAbs / 65536 : Nat) : Int)) else (((x.natAbs * y.natAbs / 65536 : Nat) : Int), if z then ((x.natAbs * y.natAbs / 65536 : Nat) : Int) else ((x.natAbs * y.natAbs / 65536 : Nat) : Int) + 1)) := by
  unfold scQ scP
  rw [hs]
  subst hz
  simp only [decide_eq_true_eq]
theorem w1 {q : Int} (h0 : 0 ≤ q) (h : ¬q > 2305843009213693952) : IntKind.i64.wrap q = q := wi64 (by omega) (by omega)
theorem w2 {q : Int} (h0 : 0 ≤ q) (h : ¬q > 2305843009213693952) : IntKind.i64.wrap (q + 1) = q + 1 := wi64 (by omega) (by omega)
theorem w3 {q : Int} (h0 : 0 ≤ q) (h : ¬q > 2305843009213693952) : IntKind.i64.wrap (0 - q) = -q := by rw [wi64 (by omega) (by omega)]; omega
theorem w4 {q : Int} (h0 : 0 ≤ q) (h : ¬q > 2305843009213693952) : IntKind.i64.wrap (0 - (q + 1)) = -(q + 1) := by rw [wi64 (by omega) (by omega)]; omega
theorem sc_leaf {x y : Int} {s z o : Bool} {d u : Int} (h1 : (((x.natAbs * y.natAbs / 18446744073709551616 / 65536 : Nat) : Int)) = 0) (h2 : ¬(((x.natAbs * y.natAbs / 65536 : Nat) : Int)) > 2305843009213693952)
    (hs : (decide (x < 0) != decide (y < 0)) = s) (hz : decide (x.natAbs * y.natAbs % 65536 = 0) = z) (hd : d = (if s then -(if z then ((x.natAbs * y.natAbs / 65536 : Nat) : Int) else ((x.natAbs * y.natAbs / 65536 : Nat) : Int) + 1) else ((x.natAbs * y.natAbs / 65536 : Nat) : Int)))
    (hu : u = (if s then -((x.natAbs * y.natAbs / 65536 : Nat) : Int) else (if z then ((x.natAbs * y.natAbs / 65536 : Nat) : Int) else ((x.natAbs * y.natAbs / 65536 : Nat) : Int) + 1))) (ho : o = decide (-2305843009213693952 ≤ d ∧ u ≤ 2305843009213693952)) :
    packA [AV.c (Cell.v (Value.int .i64 d)), AV.c (Cell.v (Value.int .i64 u)), AV.c (Cell.v (Value.bool o))] = AV.tup [AV.int .i64 (scI x y).1, AV.int .i64 (scI x y).2.1, AV.bool (scI x y).2.2] := by
  have e1 : d = (scQ x y).1 := by rw [hd, scQ_eq hs hz]; cases s <;> rfl
  have e2 : u = (scQ x y).2 := by rw [hu, scQ_eq hs hz]; cases s <;> rfl
  exact sc_fin (sc_val h1 h2 e1 e2 (by rw [ho, e1, e2]))
end Go.Sw
