/-
  What the functions answer, each out of its text by the abstract run.
  What the functions swarfref01.Sub, integer.Sub, swarfref01.Int64, integer.Int64, integer.DivMod answer, each out of its text by the abstract run.
  What the functions swarfref01.GCD, integer.GCD answer, each out of its text by the abstract run.
  What the functions answer, each out of its text by the abstract run.
  What the functions rational.unit, rational.whole, rational.exact, rational.reduce answer, each out of its text by the abstract run.
  What the functions rational.FromInt64, rational.Sign, rational.Neg, rational.Mul, rational.Add, rational.Sub, rational.Floor, rational.Div, rational.Cmp, rational.inverse, rational.Make, rational.Frac answer, each out of its text by the abstract run.
  What the functions swarfref01.DivMod answer, each out of its text by the abstract run.
  What the functions swarfref02.unit, swarfref02.Of, swarfref02.FromInt64, swarfref02.Frac, swarfref02.Sign, swarfref02.Neg, swarfref02.Mul, swarfref02.Add, swarfref02.Sub, swarfref02.Cmp, swarfref02.Floor answer, each out of its text by the abstract run.
  What the functions swarfref01.Valid answer, each out of its text by the abstract run.
  What the functions swarfref02.Valid answer, each out of its text by the abstract run.
  What the functions swarfref01.Sqrt answer, each out of its text by the abstract run.
  Intervals of machine integers, and products of two words.
  What the functions filter.proper, filter.Neg, filter.abs, filter.Sign, swarfref04.Proper, bits.Mul64, filter.scaled answer, each out of its text by the abstract run.
  What the functions integer.Sqrt answer, each out of its text by the abstract run.
  What the filter computes with its intervals, in plain integers and fractions.
  What the functions filter.FromRat, filter.Add, filter.root, filter.Sqrt answer, each out of its text by the abstract run.
  Products of intervals.
  What the functions filter.Mul answer, each out of its text by the abstract run.
  What the functions swarfref04.of, swarfref04.up, swarfref04.FromRat, swarfref04.Add, swarfref04.Neg, swarfref04.Sqrt answer, each out of its text by the abstract run.
  What the functions swarfref04.Mul answer, each out of its text by the abstract run.
  What the functions filter.Root, swarfref04.Root answer, each out of its text by the abstract run.
  Conditions: none.
-/
import Derived.Test.YtjhekoechimbnaaM7
set_option linter.all false
namespace Go.Proofs.Ytjhekoechimbnaa
open Go Go.RowKit Go.Sw
set_option linter.unusedVariables false
set_option maxRecDepth 100000
set_option maxHeartbeats 8000000
instance (a b : List Nat) : DenI Try.prog 103 [.c (lmc a), .c (lmc b)] (a.length ≤ 100000000000 ∧ b.length ≤ 100000000000 ∧ Lb a ∧ Lb b ∧ 0 < val b) (.tup [.c (lmc (pad (dql a b) (val a / val b))), .c (lmc (pad (drl a b) (val a % val b)))]) := ⟨fun hp => den2 (by kernel_rfl) fun w X u v hX hu hv => (integer_divide_ok hX hu.ul hv.ul hp.1 hp.2.1 hp.2.2.1 hp.2.2.2.1 hp.2.2.2.2).mono fun e w' ⟨u, he, ⟨qs, rs, r0, r1, h1, h2, h3, h4, h5, h6, h7, h8, h9⟩, hb⟩ => ⟨u, he, by subst h1; obtain ⟨e1, e2⟩ := div_pads h4 h5 h6 h7 h8 h9; rw [← e1, ← e2]; exact tup2 (.c h2.rep) (.c h3.rep), hb⟩⟩
instance (a b : List Nat) : DenI Try.prog 95 [.c (lmc a), .c (lmc b)] (a.length ≤ 1000000000 ∧ b.length ≤ 1000000000 ∧ CanL a ∧ CanL b ∧ 0 < val b) (.tup [.c (lmc (lim (val a / val b))), .c (lmc (lim (val a % val b)))]) := ⟨fun hp => den2 (by kernel_rfl) fun w X u v hX hu hv => (ref01_parts_ok hX hu.ul hv.ul hp.1 hp.2.1 hp.2.2.1 hp.2.2.2.1 hp.2.2.2.2).mono fun e w' ⟨u, he, ⟨r0, r1, h1, h2, h3⟩, hb⟩ => ⟨u, he, by subst h1; exact tup2 (.c h2.rep) (.c h3.rep), hb⟩⟩
end Go.Proofs.Ytjhekoechimbnaa

namespace Go.Proofs.Ytjhekoechimbnaa
open Go Go.RowKit Go.Sw
set_option linter.unusedVariables false
set_option maxRecDepth 100000
set_option maxHeartbeats 8000000
instance rh_sub (a b : Int) : DenI Try.prog 69 [Z a, Z b] (sz a ≤ 1000000000 ∧ sz b ≤ 1000000000) (Z (a - b)) := ⟨fun hp => by
 refine den_of (τ := tab) tab_ok mixed_ Try.func69 rfl (by kernel_rfl) (by kernel_rfl) (by kernel_rfl) ?_
 repeat' ((try (conv => whnf)); first
  | refine call_0 ?_
  | refine call_i ?_ ?_
  | (with_reducible refine onB_t ?_)
  | (with_reducible refine onB_f ?_)
  | (with_reducible refine onB_d (fun _ => ?_) (fun _ => ?_))
  | (with_reducible refine onB_n (fun _ => ?_) (fun _ => ?_))
  | refine OnB.mk (fun _ => ?_) (fun _ => ?_)
  | refine obl_i ?_ ?_
  | refine Drw.mk (by kernel_rfl) ?_
  | refine mks_i ?_ ?_
  | refine slp_i ?_ ?_
  | (with_reducible refine elem_u ?_ ?_)
  | (with_reducible refine elem_0 ?_)
  | (with_reducible refine elem_1 ?_)
  | refine Ends.mk ?_)
 all_goals (try refine Pr.mk ?_)
 all_goals first
  | with_reducible exact hp.2
  | (rw [sz_neg]; exact hp)
  | (refine zsE ?_; omega)
  | skip⟩

instance ih_sub (a b : Int) : DenI Try.prog 104 [Z a, Z b] (sz a ≤ 1000000000 ∧ sz b ≤ 1000000000) (Z (a - b)) := ⟨fun hp => by
 refine den_of (τ := tab) tab_ok mixed_ Try.func104 rfl (by kernel_rfl) (by kernel_rfl) (by kernel_rfl) ?_
 repeat' ((try (conv => whnf)); first
  | refine call_0 ?_
  | refine call_i ?_ ?_
  | (with_reducible refine onB_t ?_)
  | (with_reducible refine onB_f ?_)
  | (with_reducible refine onB_d (fun _ => ?_) (fun _ => ?_))
  | (with_reducible refine onB_n (fun _ => ?_) (fun _ => ?_))
  | refine OnB.mk (fun _ => ?_) (fun _ => ?_)
  | refine obl_i ?_ ?_
  | refine Drw.mk (by kernel_rfl) ?_
  | refine mks_i ?_ ?_
  | refine slp_i ?_ ?_
  | (with_reducible refine elem_u ?_ ?_)
  | (with_reducible refine elem_0 ?_)
  | (with_reducible refine elem_1 ?_)
  | refine Ends.mk ?_)
 all_goals (try refine Pr.mk ?_)
 all_goals (try ((conv => whnf); first | rw [subc_1 (by assumption)] | rw [subc_2 (by assumption)]))
 all_goals (repeat' ((try (conv => whnf)); first
  | refine call_0 ?_
  | refine call_i ?_ ?_
  | (with_reducible refine onB_t ?_)
  | (with_reducible refine onB_f ?_)
  | (with_reducible refine onB_d (fun _ => ?_) (fun _ => ?_))
  | (with_reducible refine onB_n (fun _ => ?_) (fun _ => ?_))
  | refine OnB.mk (fun _ => ?_) (fun _ => ?_)
  | refine obl_i ?_ ?_
  | refine Drw.mk (by kernel_rfl) ?_
  | refine mks_i ?_ ?_
  | refine slp_i ?_ ?_
  | (with_reducible refine elem_u ?_ ?_)
  | (with_reducible refine elem_0 ?_)
  | (with_reducible refine elem_1 ?_)
  | refine Ends.mk ?_))
 all_goals (try refine Pr.mk ?_)
 all_goals first
  | (rw [sz_neg]; exact hp)
  | (refine zsE ?_; omega)
  | skip⟩

instance rh_i64 (a : Int) : DenI Try.prog 81 [Z a] (True) (.tup [.int .i64 (if -9223372036854775808 ≤ a ∧ a ≤ 9223372036854775807 then a else 0), .bool (decide (-9223372036854775808 ≤ a ∧ a ≤ 9223372036854775807))]) := ⟨fun hp => by
 refine den_of (τ := tab) tab_ok mixed_ Try.func81 rfl (by kernel_rfl) (by kernel_rfl) (by kernel_rfl) ?_
 repeat' ((try (conv => whnf)); first
  | refine call_0 ?_
  | refine call_i ?_ ?_
  | (with_reducible refine onB_t ?_)
  | (with_reducible refine onB_f ?_)
  | (with_reducible refine onB_d (fun _ => ?_) (fun _ => ?_))
  | (with_reducible refine onB_n (fun _ => ?_) (fun _ => ?_))
  | refine OnB.mk (fun _ => ?_) (fun _ => ?_)
  | refine obl_i ?_ ?_
  | refine Drw.mk (by kernel_rfl) ?_
  | refine mks_i ?_ ?_
  | refine slp_i ?_ ?_
  | (with_reducible refine elem_u ?_ ?_)
  | (with_reducible refine elem_0 ?_)
  | (with_reducible refine elem_1 ?_)
  | refine Ends.mk ?_)
 all_goals (try refine Pr.mk ?_)
 all_goals first
  | omega
  | with_reducible exact i64_1 (by assumption)
  | with_reducible exact i64_2 (by assumption)
  | with_reducible exact i64_p (i64_b (by assumption) (by assumption))
  | (have hb := i64_b (by assumption) (by assumption); refine i64_3 hb ?_; rw [val_lim]; first | exact neg_wrap (by omega) (by omega) | exact pos_wrap (by omega) (by omega))
  | skip⟩

instance ih_i64 (a : Int) : DenI Try.prog 47 [Z a] (True) (.tup [.int .i64 (if -9223372036854775808 ≤ a ∧ a ≤ 9223372036854775807 then a else 0), .bool (decide (-9223372036854775808 ≤ a ∧ a ≤ 9223372036854775807))]) := ⟨fun hp => by
 refine den_of (τ := tab) tab_ok mixed_ Try.func47 rfl (by kernel_rfl) (by kernel_rfl) (by kernel_rfl) ?_
 repeat' ((try (conv => whnf)); first
  | refine call_0 ?_
  | refine call_i ?_ ?_
  | (with_reducible refine onB_t ?_)
  | (with_reducible refine onB_f ?_)
  | (with_reducible refine onB_d (fun _ => ?_) (fun _ => ?_))
  | (with_reducible refine onB_n (fun _ => ?_) (fun _ => ?_))
  | refine OnB.mk (fun _ => ?_) (fun _ => ?_)
  | refine obl_i ?_ ?_
  | refine Drw.mk (by kernel_rfl) ?_
  | refine mks_i ?_ ?_
  | refine slp_i ?_ ?_
  | (with_reducible refine elem_u ?_ ?_)
  | (with_reducible refine elem_0 ?_)
  | (with_reducible refine elem_1 ?_)
  | refine Ends.mk ?_)
 all_goals (try refine Pr.mk ?_)
 all_goals first
  | omega
  | with_reducible exact i64_1 (by assumption)
  | with_reducible exact i64_2 (by assumption)
  | (have hb := i64_b (by assumption) (by assumption); have hq := i64_p hb; ((conv => whnf); refine Sw.Loop.inv (α := Nat) (fun x => [(1, .ptr 1 0), (4, .int .u64 (val ((lim a.natAbs).drop x) : Nat)), (5, .int .i64 ((x : Int) - 1))]) (fun x => [(1, .var [zs a, zl a])]) (fun x => x ≤ (lim a.natAbs).length) (fun x => x) ((lim a.natAbs).length) ?_ ?_ ?_ (fun x hx => ?_)))
  | skip
 all_goals (repeat' ((try (conv => whnf)); first
  | refine call_0 ?_
  | refine call_i ?_ ?_
  | (with_reducible refine onB_t ?_)
  | (with_reducible refine onB_f ?_)
  | (with_reducible refine onB_d (fun _ => ?_) (fun _ => ?_))
  | (with_reducible refine onB_n (fun _ => ?_) (fun _ => ?_))
  | refine OnB.mk (fun _ => ?_) (fun _ => ?_)
  | refine obl_i ?_ ?_
  | refine Drw.mk (by kernel_rfl) ?_
  | refine mks_i ?_ ?_
  | refine slp_i ?_ ?_
  | (with_reducible refine elem_u ?_ ?_)
  | (with_reducible refine elem_0 ?_)
  | (with_reducible refine elem_1 ?_)
  | refine Ends.mk ?_))
 all_goals (try refine Pr.mk ?_)
 all_goals first | (show SubE _ _; repeat' (first | exact trivial | refine And.intro ?_ ?_)) | (show SubB _ _; repeat' (first | exact trivial | refine And.intro ?_ ?_)) | skip
 all_goals (try rfl)
 all_goals (try simp (disch := omega) only [List.length_map, List.length_take, Int.toNat_natCast, List.length_replicate, wi64, wu32, wu64, minl, tn1, tn2, tm9, td9] at *)
 all_goals first
  | omega
  | rfl
  | (rw [val_drop_all (Nat.le_refl _)]; rfl)
  | exact dec64' (by omega)
  | (refine i64_3 hb ?_; rw [show x = 0 by omega, List.drop_zero, val_lim]; first | exact neg_wrap_u (by omega) (by omega) | exact pos_wrap (by omega) (by omega))
  | (have hd := val_drop (l := lim a.natAbs) (k := x) (by omega) hx; have hle := val_drop_le (lim a.natAbs) (x - 1); have hg := (lb_lim a.natAbs).getD (x - 1); ((conv => whnf); exact ⟨x - 1, ⟨⟨rfl, iS (by (try simp (disch := omega) only [wu32, wu64, wi64, tm9, td9, tn1, tn3, tz0, tz1, pk9, dvc, mdc]) <;> omega), dec64m (by omega) (by omega), trivial⟩, ⟨rfl, trivial⟩, (by omega), by show x - 1 < x; omega⟩⟩))
  | skip⟩

instance ih_divmod (a b : Int) : DenI Try.prog 79 [Z a, Z b] (sz a ≤ 1000000000 ∧ sz b ≤ 1000000000) (.tup [Z (a.fdiv b), Z (if b = 0 then 0 else a.fmod b), .int .i64 (if b = 0 then 6 else 0)]) := ⟨fun hp => by
 refine den_of (τ := tab) tab_ok mixed_ Try.func79 rfl (by kernel_rfl) (by kernel_rfl) (by kernel_rfl) ?_
 repeat' ((try (conv => whnf)); first
  | refine call_0 ?_
  | refine call_i ?_ ?_
  | (with_reducible refine onB_t ?_)
  | (with_reducible refine onB_f ?_)
  | (with_reducible refine onB_d (fun _ => ?_) (fun _ => ?_))
  | (with_reducible refine onB_n (fun _ => ?_) (fun _ => ?_))
  | refine OnB.mk (fun _ => ?_) (fun _ => ?_)
  | refine obl_i ?_ ?_
  | refine Drw.mk (by kernel_rfl) ?_
  | refine mks_i ?_ ?_
  | refine slp_i ?_ ?_
  | (with_reducible refine elem_u ?_ ?_)
  | (with_reducible refine elem_0 ?_)
  | (with_reducible refine elem_1 ?_)
  | refine Ends.mk ?_)
 all_goals (try refine Pr.mk ?_)
 all_goals (try simp (disch := assumption) only [val_lim, natAbs_sgnv, neg_sgnv, cast_len0, cast_len1, List.length_map, dqI, drI] at *)
 all_goals (try simp (disch := assumption) only [val_lim, natAbs_sgnv, neg_sgnv, cast_len0, cast_len1, List.length_map, dqI, drI] at *)
 all_goals first
  | omega
  | (have hb0 : b = 0 := (by omega); subst hb0; exact rdm_zero a)
  | with_reducible exact lb_pad _ _
  | with_reducible exact dv_pre hp.1 hp.2 (by assumption)
  | with_reducible exact ⟨sz_q hp.1 _, sz_o⟩
  | with_reducible exact ⟨sz_r hp.1 _, hp.2⟩
  | with_reducible exact rdm_turn (by assumption) (by assumption) (turn_sg (r := a.natAbs % b.natAbs) (by omega) (by assumption))
  | with_reducible exact rdm_keep (by assumption) (.inr (keep_sg (r := a.natAbs % b.natAbs) (by omega) (by assumption)))
  | with_reducible exact rdm_keep (by assumption) (.inl (by omega))
  | skip⟩

end Go.Proofs.Ytjhekoechimbnaa

namespace Go.Proofs.Ytjhekoechimbnaa
open Go Go.RowKit Go.Sw
set_option linter.unusedVariables false
set_option maxRecDepth 100000
set_option maxHeartbeats 8000000
instance rh_gcd (a b : Int) : DenI Try.prog 72 [Z a, Z b] (sz a ≤ 1000000000 ∧ sz b ≤ 1000000000) (Z ((Nat.gcd a.natAbs b.natAbs : Nat) : Int)) := ⟨fun hp => by
 refine den_of (τ := tab) tab_ok mixed_ Try.func72 rfl (by kernel_rfl) (by kernel_rfl) (by kernel_rfl) ?_
 repeat' ((try (conv => whnf)); first
  | refine call_0 ?_
  | refine call_i ?_ ?_
  | (with_reducible refine onB_t ?_)
  | (with_reducible refine onB_f ?_)
  | (with_reducible refine onB_d (fun _ => ?_) (fun _ => ?_))
  | (with_reducible refine onB_n (fun _ => ?_) (fun _ => ?_))
  | refine OnB.mk (fun _ => ?_) (fun _ => ?_)
  | refine obl_i ?_ ?_
  | refine Drw.mk (by kernel_rfl) ?_
  | refine mks_i ?_ ?_
  | refine slp_i ?_ ?_
  | (with_reducible refine elem_u ?_ ?_)
  | (with_reducible refine elem_0 ?_)
  | (with_reducible refine elem_1 ?_)
  | refine Ends.mk ?_)
 all_goals (try refine Pr.mk ?_)
 all_goals first
  | ((conv => whnf); refine Sw.Loop.inv (α := Nat × Nat) (fun x => [(4, .ptr 4 0), (5, .c (lmc (lim x.1))), (6, .c (lmc (lim x.2)))]) (fun x => [(4, .var [.v (.bool false), .sl 1 []])]) (fun x => Nat.gcd x.1 x.2 = Nat.gcd a.natAbs b.natAbs ∧ (lim x.1).length ≤ 1000000000 ∧ (lim x.2).length ≤ 1000000000) (fun x => x.2) (a.natAbs, b.natAbs) ?_ ?_ ?_ (fun x hx => ?_))
  | skip
 all_goals (repeat' ((try (conv => whnf)); first
  | refine call_0 ?_
  | refine call_i ?_ ?_
  | (with_reducible refine onB_t ?_)
  | (with_reducible refine onB_f ?_)
  | (with_reducible refine onB_d (fun _ => ?_) (fun _ => ?_))
  | (with_reducible refine onB_n (fun _ => ?_) (fun _ => ?_))
  | refine OnB.mk (fun _ => ?_) (fun _ => ?_)
  | refine obl_i ?_ ?_
  | refine Drw.mk (by kernel_rfl) ?_
  | refine mks_i ?_ ?_
  | refine slp_i ?_ ?_
  | (with_reducible refine elem_u ?_ ?_)
  | (with_reducible refine elem_0 ?_)
  | (with_reducible refine elem_1 ?_)
  | refine Ends.mk ?_))
 all_goals (try refine Pr.mk ?_)
 all_goals first
  | ((conv => whnf); refine Sw.Loop.inv (α := Nat × Nat) (fun y => [(4, .ptr 4 0), (9, .int .u64 (y.1 : Nat)), (10, .int .u64 (y.2 : Nat))]) (fun y => [(4, .var [.v (.bool false), .sl 1 []])]) (fun y => y.1 < 1000000000000000000 ∧ y.2 < 1000000000000000000 ∧ Nat.gcd y.1 y.2 = Nat.gcd a.natAbs b.natAbs) (fun y => y.2) x ?_ ?_ ?_ (fun y hy => ?_))
  | skip
 all_goals (repeat' ((try (conv => whnf)); first
  | refine call_0 ?_
  | refine call_i ?_ ?_
  | (with_reducible refine onB_t ?_)
  | (with_reducible refine onB_f ?_)
  | (with_reducible refine onB_d (fun _ => ?_) (fun _ => ?_))
  | (with_reducible refine onB_n (fun _ => ?_) (fun _ => ?_))
  | refine OnB.mk (fun _ => ?_) (fun _ => ?_)
  | refine obl_i ?_ ?_
  | refine Drw.mk (by kernel_rfl) ?_
  | refine mks_i ?_ ?_
  | refine slp_i ?_ ?_
  | (with_reducible refine elem_u ?_ ?_)
  | (with_reducible refine elem_0 ?_)
  | (with_reducible refine elem_1 ?_)
  | refine Ends.mk ?_))
 all_goals (try refine Pr.mk ?_)
 all_goals first | (show SubE _ _; repeat' (first | exact trivial | refine And.intro ?_ ?_)) | (show SubB _ _; repeat' (first | exact trivial | refine And.intro ?_ ?_)) | skip
 all_goals (try rfl)
 all_goals (try simp only [List.length_map] at *)
 all_goals first
  | with_reducible exact lb_lim _
  | with_reducible exact gv
  | with_reducible exact gpre hx.2.1 hx.2.2 (by omega)
  | with_reducible exact gshort (by omega)
  | (have hz := lim_len_zero (n := x.2); exact gshort (by omega))
  | exact ⟨trivial, hp.1, hp.2⟩
  | exact gv
  | (have hz := lim_len_zero (n := x.2); with_reducible exact gend (by omega) hx.1 (val_lim _))
  | with_reducible exact gend (by omega) hy.2.2 (val_lim _)
  | exact ⟨glt (by omega), glt (by omega), hx.1⟩
  | (have h3 : x.1 % x.2 < x.2 := Nat.mod_lt _ (by have hz := lim_len_zero (n := x.2); omega); ((conv => whnf); exact ⟨(x.2, x.1 % x.2), ⟨⟨rfl, rfl, gmod, trivial⟩, ⟨rfl, trivial⟩, ⟨gcd_turn hx.1 rfl, hx.2.2, Nat.le_trans (lim_le_of_le (Nat.le_of_lt h3)) hx.2.2⟩, h3⟩⟩))
  | (have h1 := hy.1; have h2 := hy.2.1; have h3 : y.1 % y.2 < y.2 := Nat.mod_lt _ (by omega); ((conv => whnf); exact ⟨(y.2, y.1 % y.2), ⟨⟨rfl, rfl, gm2, trivial⟩, ⟨rfl, trivial⟩, ⟨by show y.2 < _; omega, by show y.1 % y.2 < _; omega, gcd_turn hy.2.2 rfl⟩, h3⟩⟩))
  | omega
  | skip⟩

instance ih_gcd (a b : Int) : DenI Try.prog 97 [Z a, Z b] (sz a ≤ 1000000000 ∧ sz b ≤ 1000000000) (Z ((Nat.gcd a.natAbs b.natAbs : Nat) : Int)) := ⟨fun hp => by
 refine den_of (τ := tab) tab_ok mixed_ Try.func97 rfl (by kernel_rfl) (by kernel_rfl) (by kernel_rfl) ?_
 repeat' ((try (conv => whnf)); first
  | refine call_0 ?_
  | refine call_i ?_ ?_
  | (with_reducible refine onB_t ?_)
  | (with_reducible refine onB_f ?_)
  | (with_reducible refine onB_d (fun _ => ?_) (fun _ => ?_))
  | (with_reducible refine onB_n (fun _ => ?_) (fun _ => ?_))
  | refine OnB.mk (fun _ => ?_) (fun _ => ?_)
  | refine obl_i ?_ ?_
  | refine Drw.mk (by kernel_rfl) ?_
  | refine mks_i ?_ ?_
  | refine slp_i ?_ ?_
  | (with_reducible refine elem_u ?_ ?_)
  | (with_reducible refine elem_0 ?_)
  | (with_reducible refine elem_1 ?_)
  | refine Ends.mk ?_)
 all_goals (try refine Pr.mk ?_)
 all_goals first
  | ((conv => whnf); refine Sw.Loop.inv (α := Nat × Nat) (fun x => [(4, .ptr 4 0), (5, .ptr 5 0), (6, .ptr 6 0)]) (fun x => [(4, .var [.v (.bool false), .sl 1 []]), (5, .var [zs (x.1 : Nat), zl (x.1 : Nat)]), (6, .var [zs (x.2 : Nat), zl (x.2 : Nat)])]) (fun x => Nat.gcd x.1 x.2 = Nat.gcd a.natAbs b.natAbs ∧ sz ((x.1 : Nat) : Int) ≤ 1000000000 ∧ sz ((x.2 : Nat) : Int) ≤ 1000000000) (fun x => x.2) (a.natAbs, b.natAbs) ?_ ?_ ?_ (fun x hx => ?_))
  | skip
 all_goals (repeat' ((try (conv => whnf)); first
  | refine call_0 ?_
  | refine call_i ?_ ?_
  | (with_reducible refine onB_t ?_)
  | (with_reducible refine onB_f ?_)
  | (with_reducible refine onB_d (fun _ => ?_) (fun _ => ?_))
  | (with_reducible refine onB_n (fun _ => ?_) (fun _ => ?_))
  | refine OnB.mk (fun _ => ?_) (fun _ => ?_)
  | refine obl_i ?_ ?_
  | refine Drw.mk (by kernel_rfl) ?_
  | refine mks_i ?_ ?_
  | refine slp_i ?_ ?_
  | (with_reducible refine elem_u ?_ ?_)
  | (with_reducible refine elem_0 ?_)
  | (with_reducible refine elem_1 ?_)
  | refine Ends.mk ?_))
 all_goals (try refine Pr.mk ?_)
 all_goals first
  | ((conv => whnf); refine Sw.Loop.inv (α := Nat × Nat) (fun y => [(4, .ptr 4 0), (7, .int .u64 (y.1 : Nat)), (9, .int .u64 (y.2 : Nat))]) (fun y => [(4, .var [.v (.bool false), .sl 1 []])]) (fun y => y.1 < 1000000000000000000 ∧ y.2 < 1000000000000000000 ∧ Nat.gcd y.1 y.2 = Nat.gcd a.natAbs b.natAbs) (fun y => y.2) x ?_ ?_ ?_ (fun y hy => ?_))
  | skip
 all_goals (repeat' ((try (conv => whnf)); first
  | refine call_0 ?_
  | refine call_i ?_ ?_
  | (with_reducible refine onB_t ?_)
  | (with_reducible refine onB_f ?_)
  | (with_reducible refine onB_d (fun _ => ?_) (fun _ => ?_))
  | (with_reducible refine onB_n (fun _ => ?_) (fun _ => ?_))
  | refine OnB.mk (fun _ => ?_) (fun _ => ?_)
  | refine obl_i ?_ ?_
  | refine Drw.mk (by kernel_rfl) ?_
  | refine mks_i ?_ ?_
  | refine slp_i ?_ ?_
  | (with_reducible refine elem_u ?_ ?_)
  | (with_reducible refine elem_0 ?_)
  | (with_reducible refine elem_1 ?_)
  | refine Ends.mk ?_))
 all_goals (try refine Pr.mk ?_)
 all_goals first | (show SubE _ _; repeat' (first | exact trivial | refine And.intro ?_ ?_)) | (show SubB _ _; repeat' (first | exact trivial | refine And.intro ?_ ?_)) | skip
 all_goals (try rfl)
 all_goals (try simp only [List.length_map] at *)
 all_goals first
  | with_reducible exact lb_lim _
  | with_reducible exact lb_pad _ _
  | exact zcells _ _ (by rw [val_lim]; rfl)
  | exact ⟨trivial, hp.1, hp.2⟩
  | exact wif (by assumption)
  | exact ⟨sz_lt18 (by assumption), sz_lt18 (by assumption), hx.1⟩
  | with_reducible exact gdiv hx.2.1 hx.2.2 (by assumption)
  | omega
  | with_reducible exact gend (gzero (by assumption)) hx.1 (val_lim _)
  | with_reducible exact gend (by omega) hy.2.2 (val_pad _ _ (by omega))
  | (have h1 := hy.1; have h2 := hy.2.1; have h3 : y.1 % y.2 < y.2 := Nat.mod_lt _ (by omega); ((conv => whnf); exact ⟨(y.2, y.1 % y.2), ⟨⟨rfl, rfl, gm2, trivial⟩, ⟨rfl, trivial⟩, ⟨by show y.2 < _; omega, by show y.1 % y.2 < _; omega, gcd_turn hy.2.2 rfl⟩, h3⟩⟩))
  | (have h0 := gpos (by assumption); have h3 : x.1 % x.2 < x.2 := Nat.mod_lt _ h0; ((conv => whnf); exact ⟨(x.2, x.1 % x.2), ⟨⟨rfl, rfl, rfl, trivial⟩, ⟨rfl, rfl, zcells _ _ (gst (by assumption)), trivial⟩, ⟨gcd_turn hx.1 rfl, hx.2.2, Nat.le_trans (sz_mono (by rw [Int.natAbs_natCast, Int.natAbs_natCast]; exact Nat.le_of_lt h3)) hx.2.2⟩, h3⟩⟩))
  | (have h0 := hx.2.1; unfold sz at h0; omega)
  | skip⟩

end Go.Proofs.Ytjhekoechimbnaa

namespace Go.Proofs.Ytjhekoechimbnaa
open Go Go.RowKit Go.Sw
set_option linter.unusedVariables false
set_option maxRecDepth 100000
set_option maxHeartbeats 8000000

end Go.Proofs.Ytjhekoechimbnaa

namespace Go.Proofs.Ytjhekoechimbnaa
open Go Go.RowKit Go.Sw
set_option linter.unusedVariables false
set_option maxRecDepth 100000
set_option maxHeartbeats 8000000
instance r_unit  : DenI Try.prog 98 [] (True) (Z 1) := ⟨fun hp => by
 refine den_of (τ := tab) tab_ok mixed_ Try.func98 rfl (by kernel_rfl) (by kernel_rfl) (by kernel_rfl) ?_
 repeat' ((try (conv => whnf)); first
  | refine call_0 ?_
  | refine call_i ?_ ?_
  | (with_reducible refine onB_t ?_)
  | (with_reducible refine onB_f ?_)
  | (with_reducible refine onB_d (fun _ => ?_) (fun _ => ?_))
  | (with_reducible refine onB_n (fun _ => ?_) (fun _ => ?_))
  | refine OnB.mk (fun _ => ?_) (fun _ => ?_)
  | refine obl_i ?_ ?_
  | refine Drw.mk (by kernel_rfl) ?_
  | refine mks_i ?_ ?_
  | refine slp_i ?_ ?_
  | (with_reducible refine elem_u ?_ ?_)
  | (with_reducible refine elem_0 ?_)
  | (with_reducible refine elem_1 ?_)
  | refine Ends.mk ?_)
 all_goals (try refine Pr.mk ?_)
 all_goals first | rfl | decide⟩

instance r_whole (n : Int) : DenI Try.prog 76 [Z n] (True) (R (n : Rat)) := ⟨fun hp => by
 refine den_of (τ := tab) tab_ok mixed_ Try.func76 rfl (by kernel_rfl) (by kernel_rfl) (by kernel_rfl) ?_
 repeat' ((try (conv => whnf)); first
  | refine call_0 ?_
  | refine call_i ?_ ?_
  | (with_reducible refine onB_t ?_)
  | (with_reducible refine onB_f ?_)
  | (with_reducible refine onB_d (fun _ => ?_) (fun _ => ?_))
  | (with_reducible refine onB_n (fun _ => ?_) (fun _ => ?_))
  | refine OnB.mk (fun _ => ?_) (fun _ => ?_)
  | refine obl_i ?_ ?_
  | refine Drw.mk (by kernel_rfl) ?_
  | refine mks_i ?_ ?_
  | refine slp_i ?_ ?_
  | (with_reducible refine elem_u ?_ ?_)
  | (with_reducible refine elem_0 ?_)
  | (with_reducible refine elem_1 ?_)
  | refine Ends.mk ?_)
 all_goals (try refine Pr.mk ?_)
 rfl⟩

instance r_exact (a b : Int) : DenI Try.prog 99 [Z a, Z b] (sz a ≤ 1000000000 ∧ sz b ≤ 1000000000) (Z (a.fdiv b)) := ⟨fun hp => by
 refine den_of (τ := tab) tab_ok mixed_ Try.func99 rfl (by kernel_rfl) (by kernel_rfl) (by kernel_rfl) ?_
 repeat' ((try (conv => whnf)); first
  | refine call_0 ?_
  | refine call_i ?_ ?_
  | (with_reducible refine onB_t ?_)
  | (with_reducible refine onB_f ?_)
  | (with_reducible refine onB_d (fun _ => ?_) (fun _ => ?_))
  | (with_reducible refine onB_n (fun _ => ?_) (fun _ => ?_))
  | refine OnB.mk (fun _ => ?_) (fun _ => ?_)
  | refine obl_i ?_ ?_
  | refine Drw.mk (by kernel_rfl) ?_
  | refine mks_i ?_ ?_
  | refine slp_i ?_ ?_
  | (with_reducible refine elem_u ?_ ?_)
  | (with_reducible refine elem_0 ?_)
  | (with_reducible refine elem_1 ?_)
  | refine Ends.mk ?_)
 all_goals (try refine Pr.mk ?_)
 all_goals first | rfl | exact hp⟩

instance r_reduce (n d : Int) : DenI Try.prog 74 [Z n, Z d] (d ≠ 0 ∧ sz n ≤ 1000000000 ∧ sz d ≤ 1000000000) (R ((n : Rat) / d)) := ⟨fun hp => by
 refine den_of (τ := tab) tab_ok mixed_ Try.func74 rfl (by kernel_rfl) (by kernel_rfl) (by kernel_rfl) ?_
 repeat' ((try (conv => whnf)); first
  | refine call_0 ?_
  | refine call_i ?_ ?_
  | (with_reducible refine onB_t ?_)
  | (with_reducible refine onB_f ?_)
  | (with_reducible refine onB_d (fun _ => ?_) (fun _ => ?_))
  | (with_reducible refine onB_n (fun _ => ?_) (fun _ => ?_))
  | refine OnB.mk (fun _ => ?_) (fun _ => ?_)
  | refine obl_i ?_ ?_
  | refine Drw.mk (by kernel_rfl) ?_
  | refine mks_i ?_ ?_
  | refine slp_i ?_ ?_
  | (with_reducible refine elem_u ?_ ?_)
  | (with_reducible refine elem_0 ?_)
  | (with_reducible refine elem_1 ?_)
  | refine Ends.mk ?_)
 all_goals (try refine Pr.mk ?_)
 all_goals obtain ⟨h0, h1, h2⟩ := hp
 all_goals (try simp only [sgnI_lt0, sgnI_zero, sgnI_le0, sgnI_gt0, sgnI_ge0, sgnI_eq1, cmpI_lt0, cmpI_gt0, cmpI_eq0, cmpI_le0, cmpI_ge0, cmpR_of, sgnR_of, sgnR_lt0, sgnR_eq0, sgnR_gt0, sgnR_le0, sgnR_ge0, sgnR_eq1, cmpR_lt0, cmpR_gt0, cmpR_eq0, cmpR_le0, cmpR_ge0] at *)
 all_goals first
  | (show packA _ = _; first | (by_cases hd : d < 0; (obtain ⟨q1, q2⟩ := red_neg (n := n) (d := d) hd; first | exact packR q1 q2 | (refine packR ?_ ?_ <;> simp_all)); (obtain ⟨q1, q2⟩ := red_pos (n := n) (d := d) (by omega); first | exact packR q1 q2 | (refine packR ?_ ?_ <;> simp_all))))
  | ((try simp only [sz_neg]); (repeat' apply And.intro) <;> first | assumption | exact sz_gcd (by (try simp only [sz_neg]); assumption) (by (try simp only [sz_neg]); assumption))⟩

end Go.Proofs.Ytjhekoechimbnaa

namespace Go.Proofs.Ytjhekoechimbnaa
open Go Go.RowKit Go.Sw
set_option linter.unusedVariables false
set_option maxRecDepth 100000
set_option maxHeartbeats 8000000
instance r_from (n : Int) : DenI Try.prog 46 [.int .i64 n] (-9223372036854775808 ≤ n ∧ n ≤ 9223372036854775807) (R (n : Rat)) := ⟨fun hp => by
 refine den_of (τ := tab) tab_ok mixed_ Try.func46 rfl (by kernel_rfl) (by kernel_rfl) (by kernel_rfl) ?_
 repeat' ((try (conv => whnf)); first
  | refine call_0 ?_
  | refine call_i ?_ ?_
  | (with_reducible refine onB_t ?_)
  | (with_reducible refine onB_f ?_)
  | (with_reducible refine onB_d (fun _ => ?_) (fun _ => ?_))
  | (with_reducible refine onB_n (fun _ => ?_) (fun _ => ?_))
  | refine OnB.mk (fun _ => ?_) (fun _ => ?_)
  | refine obl_i ?_ ?_
  | refine Drw.mk (by kernel_rfl) ?_
  | refine mks_i ?_ ?_
  | refine slp_i ?_ ?_
  | (with_reducible refine elem_u ?_ ?_)
  | (with_reducible refine elem_0 ?_)
  | (with_reducible refine elem_1 ?_)
  | refine Ends.mk ?_)
 all_goals (try refine Pr.mk ?_)
 all_goals (try simp only [sgnI_lt0, sgnI_zero, sgnI_le0, sgnI_gt0, sgnI_ge0, sgnI_eq1, cmpI_lt0, cmpI_gt0, cmpI_eq0, cmpI_le0, cmpI_ge0, cmpR_of, sgnR_of, sgnR_lt0, sgnR_eq0, sgnR_gt0, sgnR_le0, sgnR_ge0, sgnR_eq1, cmpR_lt0, cmpR_gt0, cmpR_eq0, cmpR_le0, cmpR_ge0] at *)
 all_goals first
  | (show packA _ = _; rfl)
  | ((repeat' apply And.intro) <;> first | assumption | omega | exact Int.mul_ne_zero (den_ne _) (den_ne _) | exact den_ne _ | grind [sz_mul, sz_add, sz_sub, sz_neg, rz_num, rz_den, rz_add, rz_mul, rz_neg, rz_sub, rz_int, sz_64, sz_one])⟩

instance r_sign (a : Rat) : DenI Try.prog 65 [R a] (True) (.int .i64 (sgnR a)) := ⟨fun hp => by
 refine den_of (τ := tab) tab_ok mixed_ Try.func65 rfl (by kernel_rfl) (by kernel_rfl) (by kernel_rfl) ?_
 repeat' ((try (conv => whnf)); first
  | refine call_0 ?_
  | refine call_i ?_ ?_
  | (with_reducible refine onB_t ?_)
  | (with_reducible refine onB_f ?_)
  | (with_reducible refine onB_d (fun _ => ?_) (fun _ => ?_))
  | (with_reducible refine onB_n (fun _ => ?_) (fun _ => ?_))
  | refine OnB.mk (fun _ => ?_) (fun _ => ?_)
  | refine obl_i ?_ ?_
  | refine Drw.mk (by kernel_rfl) ?_
  | refine mks_i ?_ ?_
  | refine slp_i ?_ ?_
  | (with_reducible refine elem_u ?_ ?_)
  | (with_reducible refine elem_0 ?_)
  | (with_reducible refine elem_1 ?_)
  | refine Ends.mk ?_)
 all_goals (try refine Pr.mk ?_)
 all_goals (try simp only [sgnI_lt0, sgnI_zero, sgnI_le0, sgnI_gt0, sgnI_ge0, sgnI_eq1, cmpI_lt0, cmpI_gt0, cmpI_eq0, cmpI_le0, cmpI_ge0, cmpR_of, sgnR_of, sgnR_lt0, sgnR_eq0, sgnR_gt0, sgnR_le0, sgnR_ge0, sgnR_eq1, cmpR_lt0, cmpR_gt0, cmpR_eq0, cmpR_le0, cmpR_ge0] at *)
 all_goals first
  | (show packA _ = _; rfl)
  | (skip)⟩

instance r_neg (a : Rat) : DenI Try.prog 50 [R a] (rz a ≤ 100000000) (R (-a)) := ⟨fun hp => by
 refine den_of (τ := tab) tab_ok mixed_ Try.func50 rfl (by kernel_rfl) (by kernel_rfl) (by kernel_rfl) ?_
 repeat' ((try (conv => whnf)); first
  | refine call_0 ?_
  | refine call_i ?_ ?_
  | (with_reducible refine onB_t ?_)
  | (with_reducible refine onB_f ?_)
  | (with_reducible refine onB_d (fun _ => ?_) (fun _ => ?_))
  | (with_reducible refine onB_n (fun _ => ?_) (fun _ => ?_))
  | refine OnB.mk (fun _ => ?_) (fun _ => ?_)
  | refine obl_i ?_ ?_
  | refine Drw.mk (by kernel_rfl) ?_
  | refine mks_i ?_ ?_
  | refine slp_i ?_ ?_
  | (with_reducible refine elem_u ?_ ?_)
  | (with_reducible refine elem_0 ?_)
  | (with_reducible refine elem_1 ?_)
  | refine Ends.mk ?_)
 all_goals (try refine Pr.mk ?_)
 all_goals (try simp only [sgnI_lt0, sgnI_zero, sgnI_le0, sgnI_gt0, sgnI_ge0, sgnI_eq1, cmpI_lt0, cmpI_gt0, cmpI_eq0, cmpI_le0, cmpI_ge0, cmpR_of, sgnR_of, sgnR_lt0, sgnR_eq0, sgnR_gt0, sgnR_le0, sgnR_ge0, sgnR_eq1, cmpR_lt0, cmpR_gt0, cmpR_eq0, cmpR_le0, cmpR_ge0] at *)
 all_goals first
  | (show packA _ = _; rfl)
  | ((repeat' apply And.intro) <;> first | assumption | omega | exact Int.mul_ne_zero (den_ne _) (den_ne _) | exact den_ne _ | grind [sz_mul, sz_add, sz_sub, sz_neg, rz_num, rz_den, rz_add, rz_mul, rz_neg, rz_sub, rz_int, sz_64, sz_one])⟩

instance r_mul (a b : Rat) : DenI Try.prog 45 [R a, R b] (rz a ≤ 100000000 ∧ rz b ≤ 100000000) (R (a * b)) := ⟨fun hp => by
 refine den_of (τ := tab) tab_ok mixed_ Try.func45 rfl (by kernel_rfl) (by kernel_rfl) (by kernel_rfl) ?_
 repeat' ((try (conv => whnf)); first
  | refine call_0 ?_
  | refine call_i ?_ ?_
  | (with_reducible refine onB_t ?_)
  | (with_reducible refine onB_f ?_)
  | (with_reducible refine onB_d (fun _ => ?_) (fun _ => ?_))
  | (with_reducible refine onB_n (fun _ => ?_) (fun _ => ?_))
  | refine OnB.mk (fun _ => ?_) (fun _ => ?_)
  | refine obl_i ?_ ?_
  | refine Drw.mk (by kernel_rfl) ?_
  | refine mks_i ?_ ?_
  | refine slp_i ?_ ?_
  | (with_reducible refine elem_u ?_ ?_)
  | (with_reducible refine elem_0 ?_)
  | (with_reducible refine elem_1 ?_)
  | refine Ends.mk ?_)
 all_goals (try refine Pr.mk ?_)
 all_goals (try simp only [sgnI_lt0, sgnI_zero, sgnI_le0, sgnI_gt0, sgnI_ge0, sgnI_eq1, cmpI_lt0, cmpI_gt0, cmpI_eq0, cmpI_le0, cmpI_ge0, cmpR_of, sgnR_of, sgnR_lt0, sgnR_eq0, sgnR_gt0, sgnR_le0, sgnR_ge0, sgnR_eq1, cmpR_lt0, cmpR_gt0, cmpR_eq0, cmpR_le0, cmpR_ge0] at *)
 all_goals first
  | (show packA _ = _; exact congrArg R (mul_div a b))
  | ((repeat' apply And.intro) <;> first | assumption | omega | exact Int.mul_ne_zero (den_ne _) (den_ne _) | exact den_ne _ | grind [sz_mul, sz_add, sz_sub, sz_neg, rz_num, rz_den, rz_add, rz_mul, rz_neg, rz_sub, rz_int, sz_64, sz_one])⟩

instance r_floor (a : Rat) : DenI Try.prog 48 [R a] (rz a ≤ 100000000) (Z a.floor) := ⟨fun hp => by
 refine den_of (τ := tab) tab_ok mixed_ Try.func48 rfl (by kernel_rfl) (by kernel_rfl) (by kernel_rfl) ?_
 repeat' ((try (conv => whnf)); first
  | refine call_0 ?_
  | refine call_i ?_ ?_
  | (with_reducible refine onB_t ?_)
  | (with_reducible refine onB_f ?_)
  | (with_reducible refine onB_d (fun _ => ?_) (fun _ => ?_))
  | (with_reducible refine onB_n (fun _ => ?_) (fun _ => ?_))
  | refine OnB.mk (fun _ => ?_) (fun _ => ?_)
  | refine obl_i ?_ ?_
  | refine Drw.mk (by kernel_rfl) ?_
  | refine mks_i ?_ ?_
  | refine slp_i ?_ ?_
  | (with_reducible refine elem_u ?_ ?_)
  | (with_reducible refine elem_0 ?_)
  | (with_reducible refine elem_1 ?_)
  | refine Ends.mk ?_)
 all_goals (try refine Pr.mk ?_)
 all_goals (try simp only [sgnI_lt0, sgnI_zero, sgnI_le0, sgnI_gt0, sgnI_ge0, sgnI_eq1, cmpI_lt0, cmpI_gt0, cmpI_eq0, cmpI_le0, cmpI_ge0, cmpR_of, sgnR_of, sgnR_lt0, sgnR_eq0, sgnR_gt0, sgnR_le0, sgnR_ge0, sgnR_eq1, cmpR_lt0, cmpR_gt0, cmpR_eq0, cmpR_le0, cmpR_ge0] at *)
 all_goals first
  | (show packA _ = _; exact congrArg Z (floor_of a))
  | ((repeat' apply And.intro) <;> first | assumption | omega | exact Int.mul_ne_zero (den_ne _) (den_ne _) | exact den_ne _ | grind [sz_mul, sz_add, sz_sub, sz_neg, rz_num, rz_den, rz_add, rz_mul, rz_neg, rz_sub, rz_int, sz_64, sz_one])⟩

end Go.Proofs.Ytjhekoechimbnaa

namespace Go.Proofs.Ytjhekoechimbnaa
open Go Go.RowKit Go.Sw
set_option linter.unusedVariables false
set_option maxRecDepth 100000
set_option maxHeartbeats 8000000
instance ri_divmod (a b : Int) : DenI Try.prog 82 [Z a, Z b] (sz a ≤ 500000000 ∧ sz b ≤ 500000000) (.tup [Z (a.fdiv b), Z (if b = 0 then 0 else a.fmod b), .int .i64 (if b = 0 then 6 else 0)]) := ⟨fun hp => by
 refine den_of (τ := tab) tab_ok mixed_ Try.func82 rfl (by kernel_rfl) (by kernel_rfl) (by kernel_rfl) ?_
 repeat' ((try (conv => whnf)); first
  | refine call_0 ?_
  | refine call_i ?_ ?_
  | (with_reducible refine onB_t ?_)
  | (with_reducible refine onB_f ?_)
  | (with_reducible refine onB_d (fun _ => ?_) (fun _ => ?_))
  | (with_reducible refine onB_n (fun _ => ?_) (fun _ => ?_))
  | refine OnB.mk (fun _ => ?_) (fun _ => ?_)
  | refine obl_i ?_ ?_
  | refine Drw.mk (by kernel_rfl) ?_
  | refine mks_i ?_ ?_
  | refine slp_i ?_ ?_
  | (with_reducible refine elem_u ?_ ?_)
  | (with_reducible refine elem_0 ?_)
  | (with_reducible refine elem_1 ?_)
  | refine Ends.mk ?_)
 all_goals (try refine Pr.mk ?_)
 all_goals (try simp only [List.length_map, val_lim, cast_len0, cast_len1] at *)
 all_goals obtain ⟨h1, h2⟩ := hp
 all_goals (try simp only [sgnI_lt0, sgnI_zero, sgnI_le0, sgnI_gt0, sgnI_ge0, sgnI_eq1, cmpI_lt0, cmpI_gt0, cmpI_eq0, cmpI_le0, cmpI_ge0, cmpR_of, sgnR_of, sgnR_lt0, sgnR_eq0, sgnR_gt0, sgnR_le0, sgnR_ge0, sgnR_eq1, cmpR_lt0, cmpR_gt0, cmpR_eq0, cmpR_le0, cmpR_ge0] at *)
 all_goals first
  | (show packA _ = _; (first | (have hb0 : b = 0 := (by omega); subst hb0; exact rdm_zero a) | with_reducible exact rdm_turn (by assumption) (by assumption) (by assumption) | with_reducible exact rdm_keep (by assumption) (.inl (by omega)) | with_reducible exact rdm_keep (by assumption) (.inr (by simp_all))))
  | (have z1 := sz_sgnv (decide (a < 0) != decide (b < 0)) (a.natAbs / b.natAbs) a (Nat.div_le_self _ _); have z2 := sz_sgnv (decide (a < 0)) (a.natAbs % b.natAbs) a (Nat.mod_le _ _); have z3 := sz_one; (repeat' apply And.intro) <;> first | assumption | omega | exact CanL.lim _ | exact lb_lim _ | exact trimz_lim _ | (unfold sz at *; omega) | skip)⟩

end Go.Proofs.Ytjhekoechimbnaa

namespace Go.Proofs.Ytjhekoechimbnaa
open Go Go.RowKit Go.Sw
set_option linter.unusedVariables false
set_option maxRecDepth 100000
set_option maxHeartbeats 8000000
instance rr_unit  : DenI Try.prog 73 [] (True) (Z 1) := ⟨fun hp => by
 refine den_of (τ := tab) tab_ok mixed_ Try.func73 rfl (by kernel_rfl) (by kernel_rfl) (by kernel_rfl) ?_
 repeat' ((try (conv => whnf)); first
  | refine call_0 ?_
  | refine call_i ?_ ?_
  | (with_reducible refine onB_t ?_)
  | (with_reducible refine onB_f ?_)
  | (with_reducible refine onB_d (fun _ => ?_) (fun _ => ?_))
  | (with_reducible refine onB_n (fun _ => ?_) (fun _ => ?_))
  | refine OnB.mk (fun _ => ?_) (fun _ => ?_)
  | refine obl_i ?_ ?_
  | refine Drw.mk (by kernel_rfl) ?_
  | refine mks_i ?_ ?_
  | refine slp_i ?_ ?_
  | (with_reducible refine elem_u ?_ ?_)
  | (with_reducible refine elem_0 ?_)
  | (with_reducible refine elem_1 ?_)
  | refine Ends.mk ?_)
 all_goals (try refine Pr.mk ?_)
 all_goals first | rfl | decide⟩

instance rr_of (n d : Int) : DenI Try.prog 60 [Z n, Z d] (d ≠ 0 ∧ sz n ≤ 500000000 ∧ sz d ≤ 500000000) (R ((n : Rat) / d)) := ⟨fun hp => by
 refine den_of (τ := tab) tab_ok mixed_ Try.func60 rfl (by kernel_rfl) (by kernel_rfl) (by kernel_rfl) ?_
 repeat' ((try (conv => whnf)); first
  | refine call_0 ?_
  | refine call_i ?_ ?_
  | (with_reducible refine onB_t ?_)
  | (with_reducible refine onB_f ?_)
  | (with_reducible refine onB_d (fun _ => ?_) (fun _ => ?_))
  | (with_reducible refine onB_n (fun _ => ?_) (fun _ => ?_))
  | refine OnB.mk (fun _ => ?_) (fun _ => ?_)
  | refine obl_i ?_ ?_
  | refine Drw.mk (by kernel_rfl) ?_
  | refine mks_i ?_ ?_
  | refine slp_i ?_ ?_
  | (with_reducible refine elem_u ?_ ?_)
  | (with_reducible refine elem_0 ?_)
  | (with_reducible refine elem_1 ?_)
  | refine Ends.mk ?_)
 all_goals (try refine Pr.mk ?_)
 all_goals obtain ⟨h0, h1, h2⟩ := hp
 all_goals (try simp only [sgnI_lt0, sgnI_zero, sgnI_le0, sgnI_gt0, sgnI_ge0, sgnI_eq1, cmpI_lt0, cmpI_gt0, cmpI_eq0, cmpI_le0, cmpI_ge0, cmpR_of, sgnR_of, sgnR_lt0, sgnR_eq0, sgnR_gt0, sgnR_le0, sgnR_ge0, sgnR_eq1, cmpR_lt0, cmpR_gt0, cmpR_eq0, cmpR_le0, cmpR_ge0] at *)
 all_goals first
  | (show packA _ = _; first | (by_cases hd : d < 0; (obtain ⟨q1, q2⟩ := red_neg (n := n) (d := d) hd; first | exact packR q1 q2 | (refine packR ?_ ?_ <;> simp_all)); (obtain ⟨q1, q2⟩ := red_pos (n := n) (d := d) (by omega); first | exact packR q1 q2 | (refine packR ?_ ?_ <;> simp_all))))
  | ((try simp only [sz_neg]); (repeat' apply And.intro) <;> first | assumption | omega | exact sz_gcd (by (try simp only [sz_neg]); assumption) (by (try simp only [sz_neg]); assumption))⟩

instance rr_from (n : Int) : DenI Try.prog 52 [.int .i64 n] (-9223372036854775808 ≤ n ∧ n ≤ 9223372036854775807) (R (n : Rat)) := ⟨fun hp => by
 refine den_of (τ := tab) tab_ok mixed_ Try.func52 rfl (by kernel_rfl) (by kernel_rfl) (by kernel_rfl) ?_
 repeat' ((try (conv => whnf)); first
  | refine call_0 ?_
  | refine call_i ?_ ?_
  | (with_reducible refine onB_t ?_)
  | (with_reducible refine onB_f ?_)
  | (with_reducible refine onB_d (fun _ => ?_) (fun _ => ?_))
  | (with_reducible refine onB_n (fun _ => ?_) (fun _ => ?_))
  | refine OnB.mk (fun _ => ?_) (fun _ => ?_)
  | refine obl_i ?_ ?_
  | refine Drw.mk (by kernel_rfl) ?_
  | refine mks_i ?_ ?_
  | refine slp_i ?_ ?_
  | (with_reducible refine elem_u ?_ ?_)
  | (with_reducible refine elem_0 ?_)
  | (with_reducible refine elem_1 ?_)
  | refine Ends.mk ?_)
 all_goals (try refine Pr.mk ?_)
 all_goals (try simp only [sgnI_lt0, sgnI_zero, sgnI_le0, sgnI_gt0, sgnI_ge0, sgnI_eq1, cmpI_lt0, cmpI_gt0, cmpI_eq0, cmpI_le0, cmpI_ge0, cmpR_of, sgnR_of, sgnR_lt0, sgnR_eq0, sgnR_gt0, sgnR_le0, sgnR_ge0, sgnR_eq1, cmpR_lt0, cmpR_gt0, cmpR_eq0, cmpR_le0, cmpR_ge0] at *)
 all_goals first
  | (show packA _ = _; rfl)
  | (exact hp)⟩

instance rr_frac (n d : Int) : DenI Try.prog 43 [.int .i64 n, .int .i64 d] ((-9223372036854775808 ≤ n ∧ n ≤ 9223372036854775807) ∧ -9223372036854775808 ≤ d ∧ d ≤ 9223372036854775807) (R ((n : Rat) / d)) := ⟨fun hp => by
 refine den_of (τ := tab) tab_ok mixed_ Try.func43 rfl (by kernel_rfl) (by kernel_rfl) (by kernel_rfl) ?_
 repeat' ((try (conv => whnf)); first
  | refine call_0 ?_
  | refine call_i ?_ ?_
  | (with_reducible refine onB_t ?_)
  | (with_reducible refine onB_f ?_)
  | (with_reducible refine onB_d (fun _ => ?_) (fun _ => ?_))
  | (with_reducible refine onB_n (fun _ => ?_) (fun _ => ?_))
  | refine OnB.mk (fun _ => ?_) (fun _ => ?_)
  | refine obl_i ?_ ?_
  | refine Drw.mk (by kernel_rfl) ?_
  | refine mks_i ?_ ?_
  | refine slp_i ?_ ?_
  | (with_reducible refine elem_u ?_ ?_)
  | (with_reducible refine elem_0 ?_)
  | (with_reducible refine elem_1 ?_)
  | refine Ends.mk ?_)
 all_goals (try refine Pr.mk ?_)
 all_goals obtain ⟨⟨h1, h2⟩, h3, h4⟩ := hp
 all_goals (try simp only [sgnI_lt0, sgnI_zero, sgnI_le0, sgnI_gt0, sgnI_ge0, sgnI_eq1, cmpI_lt0, cmpI_gt0, cmpI_eq0, cmpI_le0, cmpI_ge0, cmpR_of, sgnR_of, sgnR_lt0, sgnR_eq0, sgnR_gt0, sgnR_le0, sgnR_ge0, sgnR_eq1, cmpR_lt0, cmpR_gt0, cmpR_eq0, cmpR_le0, cmpR_ge0] at *)
 all_goals first
  | (show packA _ = _; first | rfl | (subst d; exact congrArg R (frac0 n)))
  | (have z1 := sz_64 h1 h2; have z2 := sz_64 h3 h4; have z3 := sz_one; have z4 := sz_64 (n := 0) (by omega) (by omega); (repeat' apply And.intro) <;> first | assumption | omega | exact Int.mul_ne_zero (den_ne _) (den_ne _) | exact den_ne _ | grind [sz_mul, sz_add, sz_sub, sz_neg, rz_num, rz_den, rz_add, rz_mul, rz_neg, rz_sub, rz_int, sz_64, sz_one])⟩

instance rr_sign (a : Rat) : DenI Try.prog 29 [R a] (True) (.int .i64 (sgnR a)) := ⟨fun hp => by
 refine den_of (τ := tab) tab_ok mixed_ Try.func29 rfl (by kernel_rfl) (by kernel_rfl) (by kernel_rfl) ?_
 repeat' ((try (conv => whnf)); first
  | refine call_0 ?_
  | refine call_i ?_ ?_
  | (with_reducible refine onB_t ?_)
  | (with_reducible refine onB_f ?_)
  | (with_reducible refine onB_d (fun _ => ?_) (fun _ => ?_))
  | (with_reducible refine onB_n (fun _ => ?_) (fun _ => ?_))
  | refine OnB.mk (fun _ => ?_) (fun _ => ?_)
  | refine obl_i ?_ ?_
  | refine Drw.mk (by kernel_rfl) ?_
  | refine mks_i ?_ ?_
  | refine slp_i ?_ ?_
  | (with_reducible refine elem_u ?_ ?_)
  | (with_reducible refine elem_0 ?_)
  | (with_reducible refine elem_1 ?_)
  | refine Ends.mk ?_)
 all_goals (try refine Pr.mk ?_)
 all_goals (try simp only [sgnI_lt0, sgnI_zero, sgnI_le0, sgnI_gt0, sgnI_ge0, sgnI_eq1, cmpI_lt0, cmpI_gt0, cmpI_eq0, cmpI_le0, cmpI_ge0, cmpR_of, sgnR_of, sgnR_lt0, sgnR_eq0, sgnR_gt0, sgnR_le0, sgnR_ge0, sgnR_eq1, cmpR_lt0, cmpR_gt0, cmpR_eq0, cmpR_le0, cmpR_ge0] at *)
 all_goals first
  | (show packA _ = _; rfl)
  | (skip)⟩

instance rr_neg (a : Rat) : DenI Try.prog 68 [R a] (rz a ≤ 100000000) (R (-a)) := ⟨fun hp => by
 refine den_of (τ := tab) tab_ok mixed_ Try.func68 rfl (by kernel_rfl) (by kernel_rfl) (by kernel_rfl) ?_
 repeat' ((try (conv => whnf)); first
  | refine call_0 ?_
  | refine call_i ?_ ?_
  | (with_reducible refine onB_t ?_)
  | (with_reducible refine onB_f ?_)
  | (with_reducible refine onB_d (fun _ => ?_) (fun _ => ?_))
  | (with_reducible refine onB_n (fun _ => ?_) (fun _ => ?_))
  | refine OnB.mk (fun _ => ?_) (fun _ => ?_)
  | refine obl_i ?_ ?_
  | refine Drw.mk (by kernel_rfl) ?_
  | refine mks_i ?_ ?_
  | refine slp_i ?_ ?_
  | (with_reducible refine elem_u ?_ ?_)
  | (with_reducible refine elem_0 ?_)
  | (with_reducible refine elem_1 ?_)
  | refine Ends.mk ?_)
 all_goals (try refine Pr.mk ?_)
 all_goals (try simp only [sgnI_lt0, sgnI_zero, sgnI_le0, sgnI_gt0, sgnI_ge0, sgnI_eq1, cmpI_lt0, cmpI_gt0, cmpI_eq0, cmpI_le0, cmpI_ge0, cmpR_of, sgnR_of, sgnR_lt0, sgnR_eq0, sgnR_gt0, sgnR_le0, sgnR_ge0, sgnR_eq1, cmpR_lt0, cmpR_gt0, cmpR_eq0, cmpR_le0, cmpR_ge0] at *)
 all_goals first
  | (show packA _ = _; rfl)
  | ((repeat' apply And.intro) <;> first | assumption | omega | exact Int.mul_ne_zero (den_ne _) (den_ne _) | exact den_ne _ | grind [sz_mul, sz_add, sz_sub, sz_neg, rz_num, rz_den, rz_add, rz_mul, rz_neg, rz_sub, rz_int, sz_64, sz_one])⟩

instance rr_mul (a b : Rat) : DenI Try.prog 25 [R a, R b] (rz a ≤ 100000000 ∧ rz b ≤ 100000000) (R (a * b)) := ⟨fun hp => by
 refine den_of (τ := tab) tab_ok mixed_ Try.func25 rfl (by kernel_rfl) (by kernel_rfl) (by kernel_rfl) ?_
 repeat' ((try (conv => whnf)); first
  | refine call_0 ?_
  | refine call_i ?_ ?_
  | (with_reducible refine onB_t ?_)
  | (with_reducible refine onB_f ?_)
  | (with_reducible refine onB_d (fun _ => ?_) (fun _ => ?_))
  | (with_reducible refine onB_n (fun _ => ?_) (fun _ => ?_))
  | refine OnB.mk (fun _ => ?_) (fun _ => ?_)
  | refine obl_i ?_ ?_
  | refine Drw.mk (by kernel_rfl) ?_
  | refine mks_i ?_ ?_
  | refine slp_i ?_ ?_
  | (with_reducible refine elem_u ?_ ?_)
  | (with_reducible refine elem_0 ?_)
  | (with_reducible refine elem_1 ?_)
  | refine Ends.mk ?_)
 all_goals (try refine Pr.mk ?_)
 all_goals (try simp only [sgnI_lt0, sgnI_zero, sgnI_le0, sgnI_gt0, sgnI_ge0, sgnI_eq1, cmpI_lt0, cmpI_gt0, cmpI_eq0, cmpI_le0, cmpI_ge0, cmpR_of, sgnR_of, sgnR_lt0, sgnR_eq0, sgnR_gt0, sgnR_le0, sgnR_ge0, sgnR_eq1, cmpR_lt0, cmpR_gt0, cmpR_eq0, cmpR_le0, cmpR_ge0] at *)
 all_goals first
  | (show packA _ = _; exact congrArg R (mul_div a b))
  | ((repeat' apply And.intro) <;> first | assumption | omega | exact Int.mul_ne_zero (den_ne _) (den_ne _) | exact den_ne _ | grind [sz_mul, sz_add, sz_sub, sz_neg, rz_num, rz_den, rz_add, rz_mul, rz_neg, rz_sub, rz_int, sz_64, sz_one])⟩

instance rr_add (a b : Rat) : DenI Try.prog 40 [R a, R b] (rz a ≤ 100000000 ∧ rz b ≤ 100000000) (R (a + b)) := ⟨fun hp => by
 refine den_of (τ := tab) tab_ok mixed_ Try.func40 rfl (by kernel_rfl) (by kernel_rfl) (by kernel_rfl) ?_
 repeat' ((try (conv => whnf)); first
  | refine call_0 ?_
  | refine call_i ?_ ?_
  | (with_reducible refine onB_t ?_)
  | (with_reducible refine onB_f ?_)
  | (with_reducible refine onB_d (fun _ => ?_) (fun _ => ?_))
  | (with_reducible refine onB_n (fun _ => ?_) (fun _ => ?_))
  | refine OnB.mk (fun _ => ?_) (fun _ => ?_)
  | refine obl_i ?_ ?_
  | refine Drw.mk (by kernel_rfl) ?_
  | refine mks_i ?_ ?_
  | refine slp_i ?_ ?_
  | (with_reducible refine elem_u ?_ ?_)
  | (with_reducible refine elem_0 ?_)
  | (with_reducible refine elem_1 ?_)
  | refine Ends.mk ?_)
 all_goals (try refine Pr.mk ?_)
 all_goals (try simp only [sgnI_lt0, sgnI_zero, sgnI_le0, sgnI_gt0, sgnI_ge0, sgnI_eq1, cmpI_lt0, cmpI_gt0, cmpI_eq0, cmpI_le0, cmpI_ge0, cmpR_of, sgnR_of, sgnR_lt0, sgnR_eq0, sgnR_gt0, sgnR_le0, sgnR_ge0, sgnR_eq1, cmpR_lt0, cmpR_gt0, cmpR_eq0, cmpR_le0, cmpR_ge0] at *)
 all_goals first
  | (show packA _ = _; exact congrArg R (add_div a b))
  | ((repeat' apply And.intro) <;> first | assumption | omega | exact Int.mul_ne_zero (den_ne _) (den_ne _) | exact den_ne _ | grind [sz_mul, sz_add, sz_sub, sz_neg, rz_num, rz_den, rz_add, rz_mul, rz_neg, rz_sub, rz_int, sz_64, sz_one])⟩

instance rr_sub (a b : Rat) : DenI Try.prog 39 [R a, R b] (rz a ≤ 100000000 ∧ rz b ≤ 100000000) (R (a - b)) := ⟨fun hp => by
 refine den_of (τ := tab) tab_ok mixed_ Try.func39 rfl (by kernel_rfl) (by kernel_rfl) (by kernel_rfl) ?_
 repeat' ((try (conv => whnf)); first
  | refine call_0 ?_
  | refine call_i ?_ ?_
  | (with_reducible refine onB_t ?_)
  | (with_reducible refine onB_f ?_)
  | (with_reducible refine onB_d (fun _ => ?_) (fun _ => ?_))
  | (with_reducible refine onB_n (fun _ => ?_) (fun _ => ?_))
  | refine OnB.mk (fun _ => ?_) (fun _ => ?_)
  | refine obl_i ?_ ?_
  | refine Drw.mk (by kernel_rfl) ?_
  | refine mks_i ?_ ?_
  | refine slp_i ?_ ?_
  | (with_reducible refine elem_u ?_ ?_)
  | (with_reducible refine elem_0 ?_)
  | (with_reducible refine elem_1 ?_)
  | refine Ends.mk ?_)
 all_goals (try refine Pr.mk ?_)
 all_goals (try simp only [sgnI_lt0, sgnI_zero, sgnI_le0, sgnI_gt0, sgnI_ge0, sgnI_eq1, cmpI_lt0, cmpI_gt0, cmpI_eq0, cmpI_le0, cmpI_ge0, cmpR_of, sgnR_of, sgnR_lt0, sgnR_eq0, sgnR_gt0, sgnR_le0, sgnR_ge0, sgnR_eq1, cmpR_lt0, cmpR_gt0, cmpR_eq0, cmpR_le0, cmpR_ge0] at *)
 all_goals first
  | (show packA _ = _; exact congrArg R (Rat.sub_eq_add_neg a b).symm)
  | ((repeat' apply And.intro) <;> first | assumption | omega | exact Int.mul_ne_zero (den_ne _) (den_ne _) | exact den_ne _ | grind [sz_mul, sz_add, sz_sub, sz_neg, rz_num, rz_den, rz_add, rz_mul, rz_neg, rz_sub, rz_int, sz_64, sz_one])⟩

instance rr_cmp (a b : Rat) : DenI Try.prog 31 [R a, R b] (rz a ≤ 100000000 ∧ rz b ≤ 100000000) (.int .i64 (cmpR a b)) := ⟨fun hp => by
 refine den_of (τ := tab) tab_ok mixed_ Try.func31 rfl (by kernel_rfl) (by kernel_rfl) (by kernel_rfl) ?_
 repeat' ((try (conv => whnf)); first
  | refine call_0 ?_
  | refine call_i ?_ ?_
  | (with_reducible refine onB_t ?_)
  | (with_reducible refine onB_f ?_)
  | (with_reducible refine onB_d (fun _ => ?_) (fun _ => ?_))
  | (with_reducible refine onB_n (fun _ => ?_) (fun _ => ?_))
  | refine OnB.mk (fun _ => ?_) (fun _ => ?_)
  | refine obl_i ?_ ?_
  | refine Drw.mk (by kernel_rfl) ?_
  | refine mks_i ?_ ?_
  | refine slp_i ?_ ?_
  | (with_reducible refine elem_u ?_ ?_)
  | (with_reducible refine elem_0 ?_)
  | (with_reducible refine elem_1 ?_)
  | refine Ends.mk ?_)
 all_goals (try refine Pr.mk ?_)
 all_goals (try simp only [sgnI_lt0, sgnI_zero, sgnI_le0, sgnI_gt0, sgnI_ge0, sgnI_eq1, cmpI_lt0, cmpI_gt0, cmpI_eq0, cmpI_le0, cmpI_ge0, cmpR_of, sgnR_of, sgnR_lt0, sgnR_eq0, sgnR_gt0, sgnR_le0, sgnR_ge0, sgnR_eq1, cmpR_lt0, cmpR_gt0, cmpR_eq0, cmpR_le0, cmpR_ge0] at *)
 all_goals first
  | (show packA _ = _; rfl)
  | ((repeat' apply And.intro) <;> first | assumption | omega | exact Int.mul_ne_zero (den_ne _) (den_ne _) | exact den_ne _ | grind [sz_mul, sz_add, sz_sub, sz_neg, rz_num, rz_den, rz_add, rz_mul, rz_neg, rz_sub, rz_int, sz_64, sz_one])⟩

instance rr_floor (a : Rat) : DenI Try.prog 54 [R a] (rz a ≤ 100000000) (Z a.floor) := ⟨fun hp => by
 refine den_of (τ := tab) tab_ok mixed_ Try.func54 rfl (by kernel_rfl) (by kernel_rfl) (by kernel_rfl) ?_
 repeat' ((try (conv => whnf)); first
  | refine call_0 ?_
  | refine call_i ?_ ?_
  | (with_reducible refine onB_t ?_)
  | (with_reducible refine onB_f ?_)
  | (with_reducible refine onB_d (fun _ => ?_) (fun _ => ?_))
  | (with_reducible refine onB_n (fun _ => ?_) (fun _ => ?_))
  | refine OnB.mk (fun _ => ?_) (fun _ => ?_)
  | refine obl_i ?_ ?_
  | refine Drw.mk (by kernel_rfl) ?_
  | refine mks_i ?_ ?_
  | refine slp_i ?_ ?_
  | (with_reducible refine elem_u ?_ ?_)
  | (with_reducible refine elem_0 ?_)
  | (with_reducible refine elem_1 ?_)
  | refine Ends.mk ?_)
 all_goals (try refine Pr.mk ?_)
 all_goals (try simp only [sgnI_lt0, sgnI_zero, sgnI_le0, sgnI_gt0, sgnI_ge0, sgnI_eq1, cmpI_lt0, cmpI_gt0, cmpI_eq0, cmpI_le0, cmpI_ge0, cmpR_of, sgnR_of, sgnR_lt0, sgnR_eq0, sgnR_gt0, sgnR_le0, sgnR_ge0, sgnR_eq1, cmpR_lt0, cmpR_gt0, cmpR_eq0, cmpR_le0, cmpR_ge0] at *)
 all_goals first
  | (show packA _ = _; exact congrArg Z (floor_of a))
  | ((repeat' apply And.intro) <;> first | assumption | omega | exact Int.mul_ne_zero (den_ne _) (den_ne _) | exact den_ne _ | grind [sz_mul, sz_add, sz_sub, sz_neg, rz_num, rz_den, rz_add, rz_mul, rz_neg, rz_sub, rz_int, sz_64, sz_one])⟩

end Go.Proofs.Ytjhekoechimbnaa

namespace Go.Proofs.Ytjhekoechimbnaa
open Go Go.RowKit Go.Sw
set_option linter.unusedVariables false
set_option maxRecDepth 100000
set_option maxHeartbeats 8000000
instance ri_valid (neg : Bool) (l : List Nat) : DenI Try.prog 70 [Zr neg l] (l.length ≤ 9223372036854775807) (.bool (validL neg l)) := ⟨fun hp => by
 refine den_of (τ := tab) tab_ok mixed_ Try.func70 rfl (by kernel_rfl) (by kernel_rfl) (by kernel_rfl) ?_
 repeat' ((try (conv => whnf)); first
  | refine call_0 ?_
  | refine call_i ?_ ?_
  | (with_reducible refine onB_t ?_)
  | (with_reducible refine onB_f ?_)
  | (with_reducible refine onB_d (fun _ => ?_) (fun _ => ?_))
  | (with_reducible refine onB_n (fun _ => ?_) (fun _ => ?_))
  | refine OnB.mk (fun _ => ?_) (fun _ => ?_)
  | refine obl_i ?_ ?_
  | refine Drw.mk (by kernel_rfl) ?_
  | refine mks_i ?_ ?_
  | refine slp_i ?_ ?_
  | (with_reducible refine elem_u ?_ ?_)
  | (with_reducible refine elem_0 ?_)
  | (with_reducible refine elem_1 ?_)
  | refine Ends.mk ?_)
 all_goals (try refine Pr.mk ?_)
 all_goals first
  | ((conv => whnf); refine Sw.Loop.inv (α := Nat) (fun x => [(1, .ptr 1 0), (2, .bool false), (3, .int .i64 x)]) (fun x => [(1, .var [.v (.bool neg), lmc l])]) (fun x => x ≤ l.length ∧ ∀ j, j < x → l.getD j 0 < 1000000000) (fun x => l.length - x) 0 ?_ ?_ ?_ (fun x hx => ?_))
  | skip
 all_goals (repeat' ((try (conv => whnf)); first
  | refine call_0 ?_
  | refine call_i ?_ ?_
  | (with_reducible refine onB_t ?_)
  | (with_reducible refine onB_f ?_)
  | (with_reducible refine onB_d (fun _ => ?_) (fun _ => ?_))
  | (with_reducible refine onB_n (fun _ => ?_) (fun _ => ?_))
  | refine OnB.mk (fun _ => ?_) (fun _ => ?_)
  | refine obl_i ?_ ?_
  | refine Drw.mk (by kernel_rfl) ?_
  | refine mks_i ?_ ?_
  | refine slp_i ?_ ?_
  | (with_reducible refine elem_u ?_ ?_)
  | (with_reducible refine elem_0 ?_)
  | (with_reducible refine elem_1 ?_)
  | refine Ends.mk ?_))
 all_goals (try refine Pr.mk ?_)
 all_goals first | (show SubE _ _; repeat' (first | exact trivial | refine And.intro ?_ ?_)) | (show SubB _ _; repeat' (first | exact trivial | refine And.intro ?_ ?_)) | skip
 all_goals (try rfl)
 all_goals (try simp only [List.length_map, Int.toNat_natCast] at *)
 all_goals first
  | exact bE (rv_bad (x := x) (by omega) (by assumption))
  | (refine bE ?_; rw [rv_end hx (by assumption)]; (have hh : (trimz l).length = l.length := by omega); simp_all; done)
  | (refine bE ?_; rw [rv_end hx (by assumption)]; (have hh : ¬(trimz l).length = l.length := by omega); simp_all; done)
  | ((conv => whnf); exact ⟨x + 1, ⟨⟨rfl, rfl, inc64 (by omega), trivial⟩, ⟨rfl, trivial⟩, ⟨by omega, fun j hj => by rcases Nat.lt_succ_iff_lt_or_eq.1 hj with h | h; exact hx.2 j h; subst h; omega⟩, by show l.length - (x + 1) < l.length - x; omega⟩⟩)
  | omega
  | exact ⟨by omega, fun j hj => by omega⟩⟩

end Go.Proofs.Ytjhekoechimbnaa

namespace Go.Proofs.Ytjhekoechimbnaa
open Go Go.RowKit Go.Sw
set_option linter.unusedVariables false
set_option maxRecDepth 100000
set_option maxHeartbeats 8000000
instance rr_valid (n1 : Bool) (l1 : List Nat) (n2 : Bool) (l2 : List Nat) : DenI Try.prog 44 [Rr n1 l1 n2 l2] (l1.length ≤ 1000000000 ∧ l2.length ≤ 1000000000) (.bool (validR n1 l1 n2 l2)) := ⟨fun hp => by
 rcases valid_cases n1 l1 n2 l2 with h | ⟨x, rfl, rfl, h⟩ | ⟨x, y, rfl, rfl, rfl, rfl⟩
 all_goals refine den_of (τ := tab) tab_ok mixed_ Try.func44 rfl (by kernel_rfl) (by kernel_rfl) (by kernel_rfl) ?_
 all_goals (repeat' ((try (conv => whnf)); first
  | refine call_0 ?_
  | refine call_i ?_ ?_
  | (with_reducible refine onB_t ?_)
  | (with_reducible refine onB_f ?_)
  | (with_reducible refine onB_d (fun _ => ?_) (fun _ => ?_))
  | (with_reducible refine onB_n (fun _ => ?_) (fun _ => ?_))
  | refine OnB.mk (fun _ => ?_) (fun _ => ?_)
  | refine obl_i ?_ ?_
  | refine Drw.mk (by kernel_rfl) ?_
  | refine mks_i ?_ ?_
  | refine slp_i ?_ ?_
  | (with_reducible refine elem_u ?_ ?_)
  | (with_reducible refine elem_0 ?_)
  | (with_reducible refine elem_1 ?_)
  | refine Ends.mk ?_))
 all_goals (try refine Pr.mk ?_)
 all_goals first
  | (simp only [validL_lim] at *; exfalso; simp_all; done)
  | (exfalso; clear hp; simp at *; done)
  | (exfalso; simp_all; done)
  | (refine bE ?_; rw [validR_int]; simp_all; done)
  | exact bE (by unfold validR; simp_all)
  | exact hp
  | (first | exact Nat.le_trans hp.1 (by decide) | exact Nat.le_trans hp.2 (by decide))⟩

end Go.Proofs.Ytjhekoechimbnaa

namespace Go.Proofs.Ytjhekoechimbnaa
open Go Go.RowKit Go.Sw
set_option linter.unusedVariables false
set_option maxRecDepth 100000
set_option maxHeartbeats 8000000
instance ri_sqrt (a : Int) : DenI Try.prog 63 [Z a] (sz a ≤ 100000000) (.tup [Z (if a < 0 then 0 else isq a.natAbs), .int .i64 (if a < 0 then 7 else 0)]) := ⟨fun hp => by
 refine den_of (τ := tab) tab_ok mixed_ Try.func63 rfl (by kernel_rfl) (by kernel_rfl) (by kernel_rfl) ?_
 repeat' ((try (conv => whnf)); first
  | refine call_0 ?_
  | refine call_i ?_ ?_
  | (with_reducible refine onB_t ?_)
  | (with_reducible refine onB_f ?_)
  | (with_reducible refine onB_d (fun _ => ?_) (fun _ => ?_))
  | (with_reducible refine onB_n (fun _ => ?_) (fun _ => ?_))
  | refine OnB.mk (fun _ => ?_) (fun _ => ?_)
  | refine obl_i ?_ ?_
  | refine Drw.mk (by kernel_rfl) ?_
  | refine mks_i ?_ ?_
  | refine slp_i ?_ ?_
  | (with_reducible refine elem_u ?_ ?_)
  | (with_reducible refine elem_0 ?_)
  | (with_reducible refine elem_1 ?_)
  | refine Ends.mk ?_)
 all_goals (try refine Pr.mk ?_)
 all_goals have hl : (lim a.natAbs).length ≤ 100000000 := hp
 all_goals first
  | ((conv => whnf); refine Sw.Loop.inv (α := Nat) (fun x => [(1, .ptr 1 0), (2, .ptr 2 0), (3, .int .i64 0), (4, .ptr 4 0), (5, .ptr 5 0)]) (fun x => [(1, .var [zs a, zl a]), (2, .var [.v (.bool false), .sl 1 []]), (4, .var [zs x, zl x]), (5, .var [zs 2, zl 2])]) (fun x => 0 < x ∧ a.natAbs < (x + 1) * (x + 1) ∧ sz x ≤ 200000000) (fun x => x) (1000000000 ^ (((lim a.natAbs).length + 1) / 2)) ?_ ?_ ?_ (fun x hx => ?_))
  | skip
 all_goals (repeat' ((try (conv => whnf)); first
  | refine call_0 ?_
  | refine call_i ?_ ?_
  | (with_reducible refine onB_t ?_)
  | (with_reducible refine onB_f ?_)
  | (with_reducible refine onB_d (fun _ => ?_) (fun _ => ?_))
  | (with_reducible refine onB_n (fun _ => ?_) (fun _ => ?_))
  | refine OnB.mk (fun _ => ?_) (fun _ => ?_)
  | refine obl_i ?_ ?_
  | refine Drw.mk (by kernel_rfl) ?_
  | refine mks_i ?_ ?_
  | refine slp_i ?_ ?_
  | (with_reducible refine elem_u ?_ ?_)
  | (with_reducible refine elem_0 ?_)
  | (with_reducible refine elem_1 ?_)
  | refine Ends.mk ?_))
 all_goals (try refine Pr.mk ?_)
 all_goals first | (show SubE _ _; repeat' (first | exact trivial | refine And.intro ?_ ?_)) | (show SubB _ _; repeat' (first | exact trivial | refine And.intro ?_ ?_)) | skip
 all_goals (try rfl)
 all_goals (try simp only [sgnI_lt0, sgnI_zero, sgnI_le0, sgnI_gt0, sgnI_ge0, sgnI_eq1, cmpI_lt0, cmpI_gt0, cmpI_eq0, cmpI_le0, cmpI_ge0, cmpR_of, sgnR_of, sgnR_lt0, sgnR_eq0, sgnR_gt0, sgnR_le0, sgnR_ge0, sgnR_eq1, cmpR_lt0, cmpR_gt0, cmpR_eq0, cmpR_le0, cmpR_ge0] at *)
 all_goals (try simp only [List.length_map, val_lim, cast_len0, cast_len1] at *)
 all_goals (try rw [half_len (by omega)])
 all_goals (try simp only [fdiv_nat (show 0 ≤ a by omega), fdiv_two] at *)
 all_goals first
  | exact rsq_neg (by assumption)
  | exact rsq_zero (by assumption) (by assumption)
  | with_reducible exact rsq_end (by assumption) (by assumption) (by assumption)
  | ((conv => whnf); exact ⟨(x + a.natAbs / x) / 2, ⟨⟨rfl, rfl, rfl, rfl, rfl, trivial⟩, ⟨rfl, rfl, rfl, rfl, trivial⟩, rsq_step (by assumption) (by assumption) (by assumption), by show (x + a.natAbs / x) / 2 < x; omega⟩⟩)
  | (refine (congrArg (fun c => some (Bk.var c)) ?_ : some (Bk.var _) = some (Bk.var _)); exact pow_cells _)
  | exact sqrt_facts rfl hl
  | (have z1 := @sz_quot a; have z2 := sz_add; have z3 := sz_one; have z4 := sz_64 (n := 2) (by omega) (by omega); (repeat' apply And.intro) <;> first | assumption | omega | decide | (simp only [Int.toNat_natCast, List.length_replicate, List.length_append, List.length_cons, List.length_nil]; omega) | (simp; done) | (have z5 := z1 (x := x); have z6 := z2 x ((a.natAbs / x : Nat) : Int); omega) | skip)⟩

end Go.Proofs.Ytjhekoechimbnaa

namespace Go.Sw
open Go
set_option linter.unusedVariables false
/-- An interval's cells. -/
@[reducible] def Iv (l h : Int) : AV := .agg [.v (.int .i64 l), .v (.int .i64 h)]
def sgIv (l h : Int) : Int × Bool := if l > 0 then (1, true) else if h < 0 then (-1, true) else (0, decide (l = 0 ∧ h = 0))
def prIv (l h : Int) : Bool := decide (l ≤ h ∧ -2305843009213693952 ≤ l ∧ h ≤ 2305843009213693952)
/-- An interval whose ends are not too great. -/
def mkI (l h : Int) : Option (Int × Int) := if -2305843009213693952 ≤ l ∧ h ≤ 2305843009213693952 then some (l, h) else none
@[reducible] def Ov (o : Option (Int × Int)) : AV := .tup [Iv (o.getD (0, 0)).1 (o.getD (0, 0)).2, .bool o.isSome]
theorem mkI_yes {l h : Int} (h1 : -2305843009213693952 ≤ l) (h2 : h ≤ 2305843009213693952) : mkI l h = some (l, h) := if_pos ⟨h1, h2⟩
theorem mkI_no {l h : Int} (h1 : ¬(-2305843009213693952 ≤ l ∧ h ≤ 2305843009213693952)) : mkI l h = none := if_neg h1
theorem sh32 : min (Int.toNat 32) IntKind.u64.bits = 32 := rfl
theorem sh16 : min (Int.toNat 16) IntKind.u64.bits = 16 := rfl
theorem sh48 : min (Int.toNat 48) IntKind.u64.bits = 48 := rfl
theorem fdiv_cast (a n : Nat) : ((a : Nat) : Int).fdiv ((n : Nat) : Int) = ((a / n : Nat) : Int) := by rw [Int.fdiv_eq_ediv_of_nonneg _ (by omega)]; rfl
theorem wu (n : Nat) : IntKind.u64.wrap ((n : Nat) : Int) = ((n % 18446744073709551616 : Nat) : Int) := by rw [IntKind.wrap_u64]; omega
theorem andI_mask {a n : Nat} (hn : n ≤ 64) (ha : a < 18446744073709551616) : andI .u64 ((a : Nat) : Int) ((2 ^ n - 1 : Nat) : Int) = ((a % 2 ^ n : Nat) : Int) := by
  unfold andI
  have h2 : 2 ^ n ≤ 2 ^ 64 := Nat.pow_le_pow_right (by decide) hn
  have h0 : 0 < 2 ^ n := Nat.pow_pos (by decide)
  have e : (BitVec.ofInt IntKind.u64.bits ((a : Nat) : Int) &&& BitVec.ofInt IntKind.u64.bits ((2 ^ n - 1 : Nat) : Int)).toNat = a % 2 ^ n := by
    show (BitVec.ofInt 64 ((a : Nat) : Int) &&& BitVec.ofInt 64 ((2 ^ n - 1 : Nat) : Int)).toNat = a % 2 ^ n
    rw [BitVec.ofInt_natCast, BitVec.ofInt_natCast, BitVec.toNat_and, BitVec.toNat_ofNat, BitVec.toNat_ofNat, Nat.mod_eq_of_lt (show a < 2 ^ 64 from ha), Nat.mod_eq_of_lt (show 2 ^ n - 1 < 2 ^ 64 by omega), Nat.and_two_pow_sub_one_eq_mod]
  rw [e, wu]
  have h3 : a % 2 ^ n ≤ a := Nat.mod_le _ _
  rw [Nat.mod_eq_of_lt (by omega)]
theorem orI_sum {a b n : Nat} (hn : n ≤ 64) (hb : b < 2 ^ n) (ha : 2 ^ n * a < 18446744073709551616) : orI .u64 ((2 ^ n * a : Nat) : Int) ((b : Nat) : Int) = ((2 ^ n * a + b : Nat) : Int) := by
  unfold orI
  have h2 : 2 ^ n ≤ 2 ^ 64 := Nat.pow_le_pow_right (by decide) hn
  have e : (BitVec.ofInt IntKind.u64.bits ((2 ^ n * a : Nat) : Int) ||| BitVec.ofInt IntKind.u64.bits ((b : Nat) : Int)).toNat = 2 ^ n * a + b := by
    show (BitVec.ofInt 64 ((2 ^ n * a : Nat) : Int) ||| BitVec.ofInt 64 ((b : Nat) : Int)).toNat = 2 ^ n * a + b
    rw [BitVec.ofInt_natCast, BitVec.ofInt_natCast, BitVec.toNat_or, BitVec.toNat_ofNat, BitVec.toNat_ofNat, Nat.mod_eq_of_lt (show 2 ^ n * a < 2 ^ 64 from ha), Nat.mod_eq_of_lt (show b < 2 ^ 64 by omega), Nat.two_pow_add_eq_or_of_lt hb]
  have hlt : 2 ^ n * a + b < 18446744073709551616 := by
    have := (BitVec.ofInt IntKind.u64.bits ((2 ^ n * a : Nat) : Int) ||| BitVec.ofInt IntKind.u64.bits ((b : Nat) : Int)).isLt
    rw [e] at this
    exact this
  rw [e, wu, Nat.mod_eq_of_lt hlt]
theorem mul64_law {a b x0 x1 y0 y1 : Nat} (ha : a < 18446744073709551616) (hb : b < 18446744073709551616) (h1 : x0 = a % 4294967296) (h2 : x1 = a / 4294967296) (h3 : y0 = b % 4294967296) (h4 : y1 = b / 4294967296) :
    (x1 * y1 + (x1 * y0 + x0 * y0 % 18446744073709551616 / 4294967296) / 4294967296 + ((x1 * y0 + x0 * y0 % 18446744073709551616 / 4294967296) % 4294967296 + x0 * y1) / 4294967296) = a * b / 18446744073709551616 ∧
    x0 * y0 ≤ 18446744065119617025 ∧ x1 * y0 ≤ 18446744065119617025 ∧ x0 * y1 ≤ 18446744065119617025 ∧ x1 * y1 ≤ 18446744065119617025 := by
  have b1 : x0 * y0 ≤ 4294967295 * 4294967295 := Nat.mul_le_mul (by omega) (by omega)
  have b2 : x1 * y0 ≤ 4294967295 * 4294967295 := Nat.mul_le_mul (by omega) (by omega)
  have b3 : x0 * y1 ≤ 4294967295 * 4294967295 := Nat.mul_le_mul (by omega) (by omega)
  have b4 : x1 * y1 ≤ 4294967295 * 4294967295 := Nat.mul_le_mul (by omega) (by omega)
  have ea : a = x1 * 4294967296 + x0 := by omega
  have eb : b = y1 * 4294967296 + y0 := by omega
  have e : a * b = x1 * y1 * 18446744073709551616 + (x1 * y0 + x0 * y1) * 4294967296 + x0 * y0 := by rw [ea, eb]; grind
  rw [e]
  generalize x0 * y0 = p at *
  generalize x1 * y0 = q at *
  generalize x0 * y1 = r at *
  generalize x1 * y1 = s at *
  exact ⟨by omega, by omega, by omega, by omega, by omega⟩
theorem andI_nat (a : Nat) {n : Nat} (hn : n ≤ 64) : andI .u64 ((a : Nat) : Int) ((2 ^ n - 1 : Nat) : Int) = ((a % 2 ^ n : Nat) : Int) := by
  have e : andI .u64 ((a : Nat) : Int) ((2 ^ n - 1 : Nat) : Int) = andI .u64 ((a % 18446744073709551616 : Nat) : Int) ((2 ^ n - 1 : Nat) : Int) := by
    unfold andI
    have : BitVec.ofInt IntKind.u64.bits ((a : Nat) : Int) = BitVec.ofInt IntKind.u64.bits ((a % 18446744073709551616 : Nat) : Int) := by
      show BitVec.ofInt 64 ((a : Nat) : Int) = BitVec.ofInt 64 ((a % 18446744073709551616 : Nat) : Int)
      rw [BitVec.ofInt_natCast, BitVec.ofInt_natCast]
      apply BitVec.eq_of_toNat_eq
      simp
    rw [this]
  rw [e, andI_mask hn (Nat.mod_lt _ (by decide)), Nat.mod_mod_of_dvd _ (Nat.pow_dvd_pow 2 hn : 2 ^ n ∣ 2 ^ 64)]
theorem andI32 (a : Nat) : andI .u64 ((a : Nat) : Int) 4294967295 = ((a % 4294967296 : Nat) : Int) := andI_nat a (n := 32) (by decide)
theorem andI16 (a : Nat) : andI .u64 ((a : Nat) : Int) 65535 = ((a % 65536 : Nat) : Int) := andI_nat a (n := 16) (by decide)
theorem e32 : (2 : Int) ^ 32 = ((4294967296 : Nat) : Int) := rfl
theorem e16 : (2 : Int) ^ 16 = ((65536 : Nat) : Int) := rfl
theorem e48 : (2 : Int) ^ 48 = ((281474976710656 : Nat) : Int) := rfl
theorem iE2 {k k' : IntKind} {x x' y y' : Int} (h : x = x') (h' : y = y') : packA [AV.c (Cell.v (Value.int k x)), AV.c (Cell.v (Value.int k' y))] = AV.tup [AV.int k x', AV.int k' y'] := by rw [h, h']; rfl
theorem ibE {k : IntKind} {x x' : Int} {y y' : Bool} (h : x = x') (h' : y = y') : packA [AV.c (Cell.v (Value.int k x)), AV.c (Cell.v (Value.bool y))] = AV.tup [AV.int k x', AV.bool y'] := by rw [h, h']; rfl
/-- x y / 65536, rounded down and up, as the program computes it, and whether it has. -/
def scP (x y : Int) : Nat := x.natAbs * y.natAbs
def scQ (x y : Int) : Int × Int :=
  let q : Int := (scP x y / 65536 : Nat)
  let u : Int := if scP x y % 65536 = 0 then q else q + 1
  if (decide (x < 0) != decide (y < 0)) = true then (-u, -q) else (q, u)
def scI (x y : Int) : Int × Int × Bool :=
  if 1208925819614629174706176 ≤ scP x y ∨ 2305843009213693952 < scP x y / 65536 then (0, 0, false)
  else ((scQ x y).1, (scQ x y).2, decide (-2305843009213693952 ≤ (scQ x y).1 ∧ (scQ x y).2 ≤ 2305843009213693952))
theorem sc_fin {x y d u : Int} {o : Bool} (h : scI x y = (d, u, o)) : packA [AV.c (Cell.v (Value.int .i64 d)), AV.c (Cell.v (Value.int .i64 u)), AV.c (Cell.v (Value.bool o))] = AV.tup [AV.int .i64 (scI x y).1, AV.int .i64 (scI x y).2.1, AV.bool (scI x y).2.2] := by rw [h]; rfl
theorem sc_q {p : Nat} (h : p / 18446744073709551616 / 65536 = 0) : orI .u64 (IntKind.u64.wrap (((p / 18446744073709551616 : Nat) : Int) * ((281474976710656 : Nat) : Int))) ((p % 18446744073709551616 / 65536 : Nat) : Int) = ((p / 65536 : Nat) : Int) := by
  rw [← Int.natCast_mul, wu, Nat.mod_eq_of_lt (by omega), Nat.mul_comm]
  have := orI_sum (n := 48) (a := p / 18446744073709551616) (b := p % 18446744073709551616 / 65536) (by decide) (by omega) (by omega)
  have e : (2 : Nat) ^ 48 = 281474976710656 := rfl
  rw [e] at this
  rw [this]
  congr 1; omega
theorem sc_big {x y : Int} (h : ¬(((x.natAbs * y.natAbs / 18446744073709551616 / 65536 : Nat) : Int)) = 0) : scI x y = (0, 0, false) := if_pos (.inl (by unfold scP; generalize x.natAbs * y.natAbs = p at *; omega))
theorem sc_big2 {x y : Int} (h : (((x.natAbs * y.natAbs / 65536 : Nat) : Int)) > 2305843009213693952) : scI x y = (0, 0, false) := if_pos (.inr (by unfold scP; generalize x.natAbs * y.natAbs = p at *; omega))
theorem sc_val {x y d u : Int} {o : Bool} (h1 : (((x.natAbs * y.natAbs / 18446744073709551616 / 65536 : Nat) : Int)) = 0) (h2 : ¬(((x.natAbs * y.natAbs / 65536 : Nat) : Int)) > 2305843009213693952)
    (hd : d = (scQ x y).1) (hu : u = (scQ x y).2) (ho : o = decide (-2305843009213693952 ≤ (scQ x y).1 ∧ (scQ x y).2 ≤ 2305843009213693952)) : scI x y = (d, u, o) := by
  subst hd hu ho
  exact if_neg (by unfold scP; generalize x.natAbs * y.natAbs = p at *; omega)
theorem scQ_eq {x y : Int} {s z : Bool} (hs : (decide (x < 0) != decide (y < 0)) = s) (hz : decide (x.natAbs * y.natAbs % 65536 = 0) = z) :
    scQ x y = (if s then (-(if z then ((x.natAbs * y.natAbs / 65536 : Nat) : Int) else ((x.natAbs * y.natAbs / 65536 : Nat) : Int) + 1), -((x.natAbs * y.natAbs / 65536 : Nat) : Int)) else (((x.natAbs * y.natAbs / 65536 : Nat) : Int), if z then ((x.natAbs * y.natAbs / 65536 : Nat) : Int) else ((x.natAbs * y.natAbs / 65536 : Nat) : Int) + 1)) := by
  unfold scQ scP
  rw [hs]
  subst hz
  simp only [decide_eq_true_eq]
theorem w1 {q : Int} (h0 : 0 ≤ q) (h : ¬q > 2305843009213693952) : IntKind.i64.wrap q = q := wi64 (by omega) (by omega)
theorem w2 {q : Int} (h0 : 0 ≤ q) (h : ¬q > 2305843009213693952) : IntKind.i64.wrap (q + 1) = q + 1 := wi64 (by omega) (by omega)
theorem w3 {q : Int} (h0 : 0 ≤ q) (h : ¬q > 2305843009213693952) : IntKind.i64.wrap (0 - q) = -q := by rw [wi64 (by omega) (by omega)]; omega
theorem w4 {q : Int} (h0 : 0 ≤ q) (h : ¬q > 2305843009213693952) : IntKind.i64.wrap (0 - (q + 1)) = -(q + 1) := by rw [wi64 (by omega) (by omega)]; omega
theorem sc_leaf {x y : Int} {s z o : Bool} {d u : Int} (h1 : (((x.natAbs * y.natAbs / 18446744073709551616 / 65536 : Nat) : Int)) = 0) (h2 : ¬(((x.natAbs * y.natAbs / 65536 : Nat) : Int)) > 2305843009213693952)
    (hs : (decide (x < 0) != decide (y < 0)) = s) (hz : decide (x.natAbs * y.natAbs % 65536 = 0) = z) (hd : d = (if s then -(if z then ((x.natAbs * y.natAbs / 65536 : Nat) : Int) else ((x.natAbs * y.natAbs / 65536 : Nat) : Int) + 1) else ((x.natAbs * y.natAbs / 65536 : Nat) : Int)))
    (hu : u = (if s then -((x.natAbs * y.natAbs / 65536 : Nat) : Int) else (if z then ((x.natAbs * y.natAbs / 65536 : Nat) : Int) else ((x.natAbs * y.natAbs / 65536 : Nat) : Int) + 1))) (ho : o = decide (-2305843009213693952 ≤ d ∧ u ≤ 2305843009213693952)) :
    packA [AV.c (Cell.v (Value.int .i64 d)), AV.c (Cell.v (Value.int .i64 u)), AV.c (Cell.v (Value.bool o))] = AV.tup [AV.int .i64 (scI x y).1, AV.int .i64 (scI x y).2.1, AV.bool (scI x y).2.2] := by
  have e1 : d = (scQ x y).1 := by rw [hd, scQ_eq hs hz]; cases s <;> rfl
  have e2 : u = (scQ x y).2 := by rw [hu, scQ_eq hs hz]; cases s <;> rfl
  exact sc_fin (sc_val h1 h2 e1 e2 (by rw [ho, e1, e2]))
end Go.Sw

namespace Go.Proofs.Ytjhekoechimbnaa
open Go Go.RowKit Go.Sw
set_option linter.unusedVariables false
set_option maxRecDepth 100000
set_option maxHeartbeats 8000000
instance f_proper (l h : Int) : DenI Try.prog 51 [.int .i64 l, .int .i64 h] (True) (Ov (mkI l h)) := ⟨fun hp => by
 refine den_of (τ := tab) tab_ok mixed_ Try.func51 rfl (by kernel_rfl) (by kernel_rfl) (by kernel_rfl) ?_
 repeat' ((try (conv => whnf)); first
  | refine call_0 ?_
  | refine call_i ?_ ?_
  | (with_reducible refine onB_t ?_)
  | (with_reducible refine onB_f ?_)
  | (with_reducible refine onB_d (fun _ => ?_) (fun _ => ?_))
  | (with_reducible refine onB_n (fun _ => ?_) (fun _ => ?_))
  | refine OnB.mk (fun _ => ?_) (fun _ => ?_)
  | refine obl_i ?_ ?_
  | refine Drw.mk (by kernel_rfl) ?_
  | refine mks_i ?_ ?_
  | refine slp_i ?_ ?_
  | (with_reducible refine elem_u ?_ ?_)
  | (with_reducible refine elem_0 ?_)
  | (with_reducible refine elem_1 ?_)
  | refine Ends.mk ?_)
 all_goals (try refine Pr.mk ?_)
 all_goals first
  | (rw [mkI_yes (by omega) (by omega)]; rfl)
  | (rw [mkI_no (by omega)]; rfl)⟩

instance f_neg (l h : Int) : DenI Try.prog 21 [Iv l h] (-2305843009213693952 ≤ l ∧ l ≤ 2305843009213693952 ∧ -2305843009213693952 ≤ h ∧ h ≤ 2305843009213693952) (Iv (-h) (-l)) := ⟨fun hp => by
 refine den_of (τ := tab) tab_ok mixed_ Try.func21 rfl (by kernel_rfl) (by kernel_rfl) (by kernel_rfl) ?_
 repeat' ((try (conv => whnf)); first
  | refine call_0 ?_
  | refine call_i ?_ ?_
  | (with_reducible refine onB_t ?_)
  | (with_reducible refine onB_f ?_)
  | (with_reducible refine onB_d (fun _ => ?_) (fun _ => ?_))
  | (with_reducible refine onB_n (fun _ => ?_) (fun _ => ?_))
  | refine OnB.mk (fun _ => ?_) (fun _ => ?_)
  | refine obl_i ?_ ?_
  | refine Drw.mk (by kernel_rfl) ?_
  | refine mks_i ?_ ?_
  | refine slp_i ?_ ?_
  | (with_reducible refine elem_u ?_ ?_)
  | (with_reducible refine elem_0 ?_)
  | (with_reducible refine elem_1 ?_)
  | refine Ends.mk ?_)
 all_goals (try refine Pr.mk ?_)
 rw [wi64 (by omega) (by omega), wi64 (by omega) (by omega), Int.zero_sub, Int.zero_sub]; rfl⟩

instance f_abs (n : Int) : DenI Try.prog 90 [.int .i64 n] (-9223372036854775808 ≤ n ∧ n ≤ 9223372036854775807) (.int .u64 n.natAbs) := ⟨fun hp => by
 refine den_of (τ := tab) tab_ok mixed_ Try.func90 rfl (by kernel_rfl) (by kernel_rfl) (by kernel_rfl) ?_
 repeat' ((try (conv => whnf)); first
  | refine call_0 ?_
  | refine call_i ?_ ?_
  | (with_reducible refine onB_t ?_)
  | (with_reducible refine onB_f ?_)
  | (with_reducible refine onB_d (fun _ => ?_) (fun _ => ?_))
  | (with_reducible refine onB_n (fun _ => ?_) (fun _ => ?_))
  | refine OnB.mk (fun _ => ?_) (fun _ => ?_)
  | refine obl_i ?_ ?_
  | refine Drw.mk (by kernel_rfl) ?_
  | refine mks_i ?_ ?_
  | refine slp_i ?_ ?_
  | (with_reducible refine elem_u ?_ ?_)
  | (with_reducible refine elem_0 ?_)
  | (with_reducible refine elem_1 ?_)
  | refine Ends.mk ?_)
 all_goals (try refine Pr.mk ?_)
 all_goals (refine iE ?_; simp only [IntKind.wrap_u64]; omega)⟩

instance f_sign (l h : Int) : DenI Try.prog 34 [Iv l h] (True) (.tup [.int .i64 (sgIv l h).1, .bool (sgIv l h).2]) := ⟨fun hp => by
 refine den_of (τ := tab) tab_ok mixed_ Try.func34 rfl (by kernel_rfl) (by kernel_rfl) (by kernel_rfl) ?_
 repeat' ((try (conv => whnf)); first
  | refine call_0 ?_
  | refine call_i ?_ ?_
  | (with_reducible refine onB_t ?_)
  | (with_reducible refine onB_f ?_)
  | (with_reducible refine onB_d (fun _ => ?_) (fun _ => ?_))
  | (with_reducible refine onB_n (fun _ => ?_) (fun _ => ?_))
  | refine OnB.mk (fun _ => ?_) (fun _ => ?_)
  | refine obl_i ?_ ?_
  | refine Drw.mk (by kernel_rfl) ?_
  | refine mks_i ?_ ?_
  | refine slp_i ?_ ?_
  | (with_reducible refine elem_u ?_ ?_)
  | (with_reducible refine elem_0 ?_)
  | (with_reducible refine elem_1 ?_)
  | refine Ends.mk ?_)
 all_goals (try refine Pr.mk ?_)
 all_goals (refine ibE ?_ ?_ <;> unfold sgIv <;> (repeat' split) <;> simp_all <;> omega)⟩

instance f_proper4 (l h : Int) : DenI Try.prog 17 [Iv l h] (True) (.bool (prIv l h)) := ⟨fun hp => by
 refine den_of (τ := tab) tab_ok mixed_ Try.func17 rfl (by kernel_rfl) (by kernel_rfl) (by kernel_rfl) ?_
 repeat' ((try (conv => whnf)); first
  | refine call_0 ?_
  | refine call_i ?_ ?_
  | (with_reducible refine onB_t ?_)
  | (with_reducible refine onB_f ?_)
  | (with_reducible refine onB_d (fun _ => ?_) (fun _ => ?_))
  | (with_reducible refine onB_n (fun _ => ?_) (fun _ => ?_))
  | refine OnB.mk (fun _ => ?_) (fun _ => ?_)
  | refine obl_i ?_ ?_
  | refine Drw.mk (by kernel_rfl) ?_
  | refine mks_i ?_ ?_
  | refine slp_i ?_ ?_
  | (with_reducible refine elem_u ?_ ?_)
  | (with_reducible refine elem_0 ?_)
  | (with_reducible refine elem_1 ?_)
  | refine Ends.mk ?_)
 all_goals (try refine Pr.mk ?_)
 all_goals (refine bE ?_; unfold prIv; simp_all; try omega)⟩

instance f_mul64 (a b : Nat) : DenI Try.prog 89 [.int .u64 a, .int .u64 b] (a < 18446744073709551616 ∧ b < 18446744073709551616) (.tup [.int .u64 (a * b / 18446744073709551616 : Nat), .int .u64 (a * b % 18446744073709551616 : Nat)]) := ⟨fun hp => by
 refine den_of (τ := tab) tab_ok mixed_ Try.func89 rfl (by kernel_rfl) (by kernel_rfl) (by kernel_rfl) ?_
 repeat' ((try (conv => whnf)); first
  | refine call_0 ?_
  | refine call_i ?_ ?_
  | (with_reducible refine onB_t ?_)
  | (with_reducible refine onB_f ?_)
  | (with_reducible refine onB_d (fun _ => ?_) (fun _ => ?_))
  | (with_reducible refine onB_n (fun _ => ?_) (fun _ => ?_))
  | refine OnB.mk (fun _ => ?_) (fun _ => ?_)
  | refine obl_i ?_ ?_
  | refine Drw.mk (by kernel_rfl) ?_
  | refine mks_i ?_ ?_
  | refine slp_i ?_ ?_
  | (with_reducible refine elem_u ?_ ?_)
  | (with_reducible refine elem_0 ?_)
  | (with_reducible refine elem_1 ?_)
  | refine Ends.mk ?_)
 all_goals (try refine Pr.mk ?_)
 all_goals first
  | (show (0 : Int) ≤ _; decide)
  | (simp only [sh32, sh16, sh48, e32, e16, e48, fdiv_cast, andI32, andI16, wu, ← Int.natCast_mul, ← Int.natCast_add]; obtain ⟨m1, m2, m3, m4, m5⟩ := mul64_law (a := a) (b := b) hp.1 hp.2 rfl rfl rfl rfl; refine iE2 ?_ rfl; rw [← m1]; apply congrArg Nat.cast; omega)⟩

instance f_scaled (x y : Int) : DenI Try.prog 58 [.int .i64 x, .int .i64 y] ((-9223372036854775808 ≤ x ∧ x ≤ 9223372036854775807) ∧ -9223372036854775808 ≤ y ∧ y ≤ 9223372036854775807) (.tup [.int .i64 (scI x y).1, .int .i64 (scI x y).2.1, .bool (scI x y).2.2]) := ⟨fun hp => by
 refine den_of (τ := tab) tab_ok mixed_ Try.func58 rfl (by kernel_rfl) (by kernel_rfl) (by kernel_rfl) ?_
 repeat' ((try (conv => whnf)); first
  | refine call_0 ?_
  | refine call_i ?_ ?_
  | (with_reducible refine onB_t ?_)
  | (with_reducible refine onB_f ?_)
  | (with_reducible refine onB_d (fun _ => ?_) (fun _ => ?_))
  | (with_reducible refine onB_n (fun _ => ?_) (fun _ => ?_))
  | refine OnB.mk (fun _ => ?_) (fun _ => ?_)
  | refine obl_i ?_ ?_
  | refine Drw.mk (by kernel_rfl) ?_
  | refine mks_i ?_ ?_
  | refine slp_i ?_ ?_
  | (with_reducible refine elem_u ?_ ?_)
  | (with_reducible refine elem_0 ?_)
  | (with_reducible refine elem_1 ?_)
  | refine Ends.mk ?_)
 all_goals (try refine Pr.mk ?_)
 all_goals (try simp only [sh16, sh48, e16, e48, fdiv_cast, andI16] at *)
 all_goals first
  | exact hp.1
  | exact hp.2
  | (show (0 : Int) ≤ _; decide)
  | (constructor <;> omega)
  | (refine sc_fin ?_; exact sc_big (by assumption))
  | (rw [sc_q (by omega)] at *; refine sc_fin ?_; exact sc_big2 (x := x) (y := y) (by assumption))
  | (rw [sc_q (by omega)] at *; have q1 := w1 (q := ((x.natAbs * y.natAbs / 65536 : Nat) : Int)) (by omega) (by assumption); have q2 := w2 (q := ((x.natAbs * y.natAbs / 65536 : Nat) : Int)) (by omega) (by assumption); have q3 := w3 (q := ((x.natAbs * y.natAbs / 65536 : Nat) : Int)) (by omega) (by assumption); have q4 := w4 (q := ((x.natAbs * y.natAbs / 65536 : Nat) : Int)) (by omega) (by assumption); rename_i g1 g2 g3 g4 hl; (try rw [q1] at hl); (try rw [q2] at hl); (try rw [q3] at hl); (try rw [q4] at hl); (try rw [q1]); (try rw [q2]); (try rw [q3]); (try rw [q4]); clear q1 q2 q3 q4; first | refine sc_leaf (z := true) g2 g3 g1 (decide_eq_true (by omega)) rfl rfl ?_ | refine sc_leaf (z := false) g2 g3 g1 (decide_eq_false (by omega)) rfl rfl ?_)
 all_goals first | exact decide_eq_decide.2 (by omega) | exact (decide_eq_false (by omega)).symm⟩

end Go.Proofs.Ytjhekoechimbnaa

namespace Go.Proofs.Ytjhekoechimbnaa
open Go Go.RowKit Go.Sw
set_option linter.unusedVariables false
set_option maxRecDepth 100000
set_option maxHeartbeats 8000000
instance (k : Nat) : DenI Try.prog 80 [.bool false, .c (.sl 1 (List.replicate k [Cell.v (.int .u32 0)] ++ [[Cell.v (.int .u32 1)]]))] True (Z ((1000000000 ^ k : Nat) : Int)) := ⟨fun _ => by
 have h := (inferInstance : DenI Try.prog 80 [.bool false, .c (lmc (List.replicate k 0 ++ [1]))] _ _).den ((lb_zeros k).append (Lb.cons (by omega) Lb.nil))
 rw [sqrt_start] at h
 unfold lmc at h
 rw [List.map_append, List.map_replicate] at h
 exact h⟩
instance i_sqrt (a : Int) : DenI Try.prog 92 [Z a] (sz a ≤ 100000000) (.tup [Z (if a < 0 then 0 else isq a.natAbs), .int .i64 (if a < 0 then 7 else 0)]) := ⟨fun hp => by
 refine den_of (τ := tab) tab_ok mixed_ Try.func92 rfl (by kernel_rfl) (by kernel_rfl) (by kernel_rfl) ?_
 repeat' ((try (conv => whnf)); first
  | refine call_0 ?_
  | refine call_i ?_ ?_
  | (with_reducible refine onB_t ?_)
  | (with_reducible refine onB_f ?_)
  | (with_reducible refine onB_d (fun _ => ?_) (fun _ => ?_))
  | (with_reducible refine onB_n (fun _ => ?_) (fun _ => ?_))
  | refine OnB.mk (fun _ => ?_) (fun _ => ?_)
  | refine obl_i ?_ ?_
  | refine Drw.mk (by kernel_rfl) ?_
  | refine mks_i ?_ ?_
  | refine slp_i ?_ ?_
  | (with_reducible refine elem_u ?_ ?_)
  | (with_reducible refine elem_0 ?_)
  | (with_reducible refine elem_1 ?_)
  | refine Ends.mk ?_)
 all_goals (try refine Pr.mk ?_)
 all_goals have hl : (lim a.natAbs).length ≤ 100000000 := hp
 all_goals first
  | ((conv => whnf); refine Sw.Loop.inv (α := Nat) (fun x => [(1, .ptr 1 0), (2, .ptr 2 0), (3, .int .i64 0), (5, .ptr 5 0), (6, .ptr 6 0)]) (fun x => [(1, .var [zs a, zl a]), (2, .var [.v (.bool false), .sl 1 []]), (5, .var [zs x, zl x]), (6, .var [zs 2, zl 2])]) (fun x => 0 < x ∧ a.natAbs < (x + 1) * (x + 1) ∧ sz x ≤ 200000000) (fun x => x) (1000000000 ^ (((lim a.natAbs).length + 1) / 2)) ?_ ?_ ?_ (fun x hx => ?_))
  | skip
 all_goals (repeat' ((try (conv => whnf)); first
  | refine call_0 ?_
  | refine call_i ?_ ?_
  | (with_reducible refine onB_t ?_)
  | (with_reducible refine onB_f ?_)
  | (with_reducible refine onB_d (fun _ => ?_) (fun _ => ?_))
  | (with_reducible refine onB_n (fun _ => ?_) (fun _ => ?_))
  | refine OnB.mk (fun _ => ?_) (fun _ => ?_)
  | refine obl_i ?_ ?_
  | refine Drw.mk (by kernel_rfl) ?_
  | refine mks_i ?_ ?_
  | refine slp_i ?_ ?_
  | (with_reducible refine elem_u ?_ ?_)
  | (with_reducible refine elem_0 ?_)
  | (with_reducible refine elem_1 ?_)
  | refine Ends.mk ?_))
 all_goals (try refine Pr.mk ?_)
 all_goals first | (show SubE _ _; repeat' (first | exact trivial | refine And.intro ?_ ?_)) | (show SubB _ _; repeat' (first | exact trivial | refine And.intro ?_ ?_)) | skip
 all_goals (try rfl)
 all_goals (try simp only [sgnI_lt0, sgnI_zero, sgnI_le0, sgnI_gt0, sgnI_ge0, sgnI_eq1, cmpI_lt0, cmpI_gt0, cmpI_eq0, cmpI_le0, cmpI_ge0, cmpR_of, sgnR_of, sgnR_lt0, sgnR_eq0, sgnR_gt0, sgnR_le0, sgnR_ge0, sgnR_eq1, cmpR_lt0, cmpR_gt0, cmpR_eq0, cmpR_le0, cmpR_ge0] at *)
 all_goals (try simp only [List.length_map, val_lim, cast_len0, cast_len1] at *)
 all_goals (try rw [half_len (by omega)])
 all_goals (try simp only [Int.toNat_natCast, List.length_replicate, List.length_append, List.length_cons, List.length_nil])
 all_goals (try simp only [fdiv_nat (show 0 ≤ a by omega), fdiv_two] at *)
 all_goals first
  | exact rsq_neg (by assumption)
  | exact rsq_zero (by assumption) (by assumption)
  | with_reducible exact rsq_end (by assumption) (by assumption) (by assumption)
  | ((conv => whnf); exact ⟨(x + a.natAbs / x) / 2, ⟨⟨rfl, rfl, rfl, rfl, rfl, trivial⟩, ⟨rfl, rfl, rfl, rfl, trivial⟩, rsq_step (by assumption) (by assumption) (by assumption), by show (x + a.natAbs / x) / 2 < x; omega⟩⟩)
  | exact sqrt_facts rfl hl
  | with_reducible rfl
  | (show ld _ _ = some _; rfl)
  | (have z1 := @sz_quot a; have z2 := sz_add; have z3 := sz_one; have z4 := sz_64 (n := 2) (by omega) (by omega); (repeat' apply And.intro) <;> first | assumption | omega | decide | (simp; done) | (have z5 := z1 (x := x); have z6 := z2 x ((a.natAbs / x : Nat) : Int); omega) | skip)⟩

end Go.Proofs.Ytjhekoechimbnaa

namespace Go.Sw
open Go
set_option linter.unusedVariables false
@[reducible] def upR (a : Rat) : Int := -(-a).floor
theorem fl_up (a : Rat) : a.floor ≤ upR a := by
  unfold upR
  have h1 := Rat.floor_le (a := a)
  have h2 := Rat.floor_le (a := -a)
  have : ((a.floor + (-a).floor : Int) : Rat) ≤ 0 := by rw [Rat.intCast_add]; grind
  have := Rat.intCast_le_intCast.1 (show ((a.floor + (-a).floor : Int) : Rat) ≤ ((0 : Int) : Rat) from this)
  omega
def fromR (a : Rat) : Option (Int × Int) := mkI (a * ((65536 : Int) : Rat)).floor (upR (a * ((65536 : Int) : Rat)))
def addI (a b : Int × Int) : Option (Int × Int) := mkI (a.1 + b.1) (a.2 + b.2)
def i64ok (a : Int) : Prop := -9223372036854775808 ≤ a ∧ a ≤ 9223372036854775807
theorem mkI_ok {l h : Int} (o : Option (Int × Int)) (e : o = mkI l h) (hlh : l ≤ h) : -2305843009213693952 ≤ (o.getD (0, 0)).1 ∧ (o.getD (0, 0)).1 ≤ (o.getD (0, 0)).2 ∧ (o.getD (0, 0)).2 ≤ 2305843009213693952 := by
  subst e
  unfold mkI
  split
  · exact ⟨by simp; omega, by simp; omega, by simp; omega⟩
  · exact ⟨by simp, by simp, by simp⟩
theorem fromR_ok (a : Rat) : -2305843009213693952 ≤ ((fromR a).getD (0, 0)).1 ∧ ((fromR a).getD (0, 0)).1 ≤ ((fromR a).getD (0, 0)).2 ∧ ((fromR a).getD (0, 0)).2 ≤ 2305843009213693952 := mkI_ok _ rfl (fl_up _)
theorem ovE {l h : Int} {b : Bool} {o : Option (Int × Int)} (e1 : l = (o.getD (0, 0)).1) (e2 : h = (o.getD (0, 0)).2) (e3 : b = o.isSome) :
    packA [AV.agg [Cell.v (Value.int .i64 l), Cell.v (Value.int .i64 h)], AV.c (Cell.v (Value.bool b))] = Ov o := by subst e1 e2 e3; rfl
theorem ovN {o : Option (Int × Int)} (e : o = none) : packA [AV.agg [Cell.v (Value.int .i64 0), Cell.v (Value.int .i64 0)], AV.c (Cell.v (Value.bool false))] = Ov o := by subst e; rfl
theorem ovMk {l h : Int} {o : Option (Int × Int)} (e : o = mkI l h) : packA [AV.agg [Cell.v (Value.int .i64 ((mkI l h).getD (0, 0)).1), Cell.v (Value.int .i64 ((mkI l h).getD (0, 0)).2)], AV.c (Cell.v (Value.bool (mkI l h).isSome))] = Ov o := by subst e; rfl
theorem sz_floor (a : Rat) : sz a.floor ≤ rz a := by
  refine Nat.le_trans (sz_mono ?_) (rz_num a)
  rw [← floor_of, Int.fdiv_eq_ediv_of_nonneg _ (by have := den_pos a; omega)]
  exact Int.natAbs_ediv_le_natAbs _ _
theorem fr_lo {a : Rat} (h : ¬(-9223372036854775808 ≤ (a * ((65536 : Int) : Rat)).floor ∧ (a * ((65536 : Int) : Rat)).floor ≤ 9223372036854775807)) : fromR a = none :=
  mkI_no (by have := fl_up (a * ((65536 : Int) : Rat)); omega)
theorem fr_hi {a : Rat} (h : ¬(-9223372036854775808 ≤ -(-(a * ((65536 : Int) : Rat))).floor ∧ -(-(a * ((65536 : Int) : Rat))).floor ≤ 9223372036854775807)) : fromR a = none :=
  mkI_no (by have := fl_up (a * ((65536 : Int) : Rat)); unfold upR at *; omega)
theorem szl (n : Int) (h1 : -9223372036854775808 ≤ n) (h2 : n ≤ 9223372036854775807) : sz n ≤ 3 := sz_64 h1 h2
theorem rz_k : rz ((65536 : Int) : Rat) ≤ 4 := by have := rz_int 65536; have := sz_64 (n := 65536) (by omega) (by omega); omega
theorem rt_fold {l : Int} : List.foldl (fun x y => if y > x then y else x) l [0] = max l 0 := by
  show (if 0 > l then 0 else l) = max l 0
  split <;> omega
/-- roots -/
def rt (n : Int) : Int := if n * 65536 < 0 then 0 else (isq (n * 65536).natAbs : Nat)
theorem rt_if (n : Int) : (if n * 65536 < 0 then 0 else ((isq (n * 65536).natAbs : Nat) : Int)) = rt n := rfl
def rtU (n : Int) : Int := if rt n * rt n = n * 65536 then rt n else rt n + 1
theorem rt_ok {n : Int} (h : 0 ≤ n) : 0 ≤ rt n ∧ rt n * rt n ≤ n * 65536 ∧ n * 65536 < (rt n + 1) * (rt n + 1) := by
  have ⟨h1, h2⟩ := isq_ok (n * 65536).natAbs
  have e : (((n * 65536).natAbs : Nat) : Int) = n * 65536 := by omega
  unfold rt
  rw [if_neg (by omega)]
  refine ⟨by omega, ?_, ?_⟩
  · have := Int.ofNat_le.2 h1; rw [Int.natCast_mul] at this; omega
  · have := Int.ofNat_lt.2 h2; rw [Int.natCast_mul, Int.natCast_add] at this; simpa [e] using this
theorem rt_lim {n : Int} (h : 0 ≤ n) (h2 : n ≤ 2305843009213693952) : 0 ≤ rt n ∧ rt n ≤ 549755813888 := by
  have ⟨h0, h1, _⟩ := rt_ok h
  refine ⟨h0, ?_⟩
  apply Decidable.byContradiction
  intro hc
  have : 549755813889 * 549755813889 ≤ rt n * rt n := Int.mul_le_mul (by omega) (by omega) (by decide) h0
  omega
theorem rtU_ok {n : Int} (h : 0 ≤ n) : rt n ≤ rtU n ∧ rtU n ≤ rt n + 1 ∧ n * 65536 ≤ rtU n * rtU n := by
  have ⟨h0, h1, h2⟩ := rt_ok h
  unfold rtU
  split
  · omega
  · refine ⟨by omega, by omega, by omega⟩
def sqrtI (a : Int × Int) : Option (Int × Int) := if a.2 < 0 then none else mkI (rt (max a.1 0)) (rtU a.2)
theorem rt_mono {l h : Int} (h0 : 0 ≤ l) (h1 : l ≤ h) : rt l ≤ rt h := by
  have ⟨a0, a1, a2⟩ := rt_ok h0
  have ⟨b0, b1, b2⟩ := rt_ok (Int.le_trans h0 h1)
  apply Decidable.byContradiction
  intro hc
  have : (rt h + 1) * (rt h + 1) ≤ rt l * rt l := Int.mul_le_mul (by omega) (by omega) (by omega) a0
  omega
theorem sq_ex {l h m : Int} (h0 : ¬h < 0) (e : ¬rt h * rt h < h * 65536) (hm : m = max l 0) : Ov (mkI (rt m) (rt h)) = Ov (sqrtI (l, h)) := by
  have := (rt_ok (n := h) (by omega)).2.1
  have e' : rt h * rt h = h * 65536 := by omega
  subst hm; unfold sqrtI rtU; rw [if_neg h0, if_pos e']
theorem sq_up {l h m : Int} (h0 : ¬h < 0) (e : rt h * rt h < h * 65536) (hm : m = max l 0) : Ov (mkI (rt m) (rt h + 1)) = Ov (sqrtI (l, h)) := by
  have e' : ¬rt h * rt h = h * 65536 := by omega
  subst hm; unfold sqrtI rtU; rw [if_neg h0, if_neg e']
theorem of_no {l h : Int} (g : ¬(-9223372036854775808 ≤ l ∧ l ≤ 9223372036854775807)) (hlh : l ≤ h) : mkI l h = none := mkI_no (by omega)
theorem of_no2 {l h : Int} (g : ¬(-9223372036854775808 ≤ h ∧ h ≤ 9223372036854775807)) (hlh : l ≤ h) : mkI l h = none := mkI_no (by omega)
theorem of_no3 {l h : Int} (g : (!prIv l h) = true) (hlh : l ≤ h) : mkI l h = none := mkI_no (by unfold prIv at g; simp at g; omega)
theorem of_yes {l h : Int} (g : (!prIv l h) = false) : packA [AV.agg [Cell.v (Value.int .i64 l), Cell.v (Value.int .i64 h)], AV.c (Cell.v (Value.bool true))] = Ov (mkI l h) := by
  unfold prIv at g; simp at g; rw [mkI_yes (by omega) (by omega)]; rfl
theorem rt_ex {l h : Int} (h0 : ¬h < 0) (e : rt h * rt h = h * 65536) : Ov (mkI (rt (max l 0)) (rt h)) = Ov (sqrtI (l, h)) := by
  unfold sqrtI rtU; rw [if_neg h0, if_pos e]
theorem rt_up {l h : Int} (h0 : ¬h < 0) (e : ¬rt h * rt h = h * 65536) : Ov (mkI (rt (max l 0)) (rt h + 1)) = Ov (sqrtI (l, h)) := by
  unfold sqrtI rtU; rw [if_neg h0, if_neg e]
end Go.Sw

namespace Go.Proofs.Ytjhekoechimbnaa
open Go Go.RowKit Go.Sw
set_option linter.unusedVariables false
set_option maxRecDepth 100000
set_option maxHeartbeats 8000000
instance f_fromrat (a : Rat) : DenI Try.prog 13 [R a] (rz a ≤ 10000000) (Ov (fromR a)) := ⟨fun hp => by
 refine den_of (τ := tab) tab_ok mixed_ Try.func13 rfl (by kernel_rfl) (by kernel_rfl) (by kernel_rfl) ?_
 repeat' ((try (conv => whnf)); first
  | refine call_0 ?_
  | refine call_i ?_ ?_
  | (with_reducible refine onB_t ?_)
  | (with_reducible refine onB_f ?_)
  | (with_reducible refine onB_d (fun _ => ?_) (fun _ => ?_))
  | (with_reducible refine onB_n (fun _ => ?_) (fun _ => ?_))
  | refine OnB.mk (fun _ => ?_) (fun _ => ?_)
  | refine obl_i ?_ ?_
  | refine Drw.mk (by kernel_rfl) ?_
  | refine mks_i ?_ ?_
  | refine slp_i ?_ ?_
  | (with_reducible refine elem_u ?_ ?_)
  | (with_reducible refine elem_0 ?_)
  | (with_reducible refine elem_1 ?_)
  | refine Ends.mk ?_)
 all_goals (try refine Pr.mk ?_)
 all_goals first
  | exact ovN (fr_lo (by assumption))
  | exact ovN (fr_hi (by assumption))
  | (rename_i g1 g2; rw [if_pos g1, if_pos g2]; rfl)
  | (have z1 := rz_mul a ((65536 : Int) : Rat); have z2 := rz_k; have z3 := rz_neg (a * ((65536 : Int) : Rat)); have z4 := sz_floor (-(a * ((65536 : Int) : Rat))); omega)⟩

instance f_add (a b c d : Int) : DenI Try.prog 18 [Iv a b, Iv c d] (-2305843009213693952 ≤ a ∧ a ≤ 2305843009213693952 ∧ -2305843009213693952 ≤ b ∧ b ≤ 2305843009213693952 ∧ -2305843009213693952 ≤ c ∧ c ≤ 2305843009213693952 ∧ -2305843009213693952 ≤ d ∧ d ≤ 2305843009213693952) (Ov (addI (a, b) (c, d))) := ⟨fun hp => by
 refine den_of (τ := tab) tab_ok mixed_ Try.func18 rfl (by kernel_rfl) (by kernel_rfl) (by kernel_rfl) ?_
 repeat' ((try (conv => whnf)); first
  | refine call_0 ?_
  | refine call_i ?_ ?_
  | (with_reducible refine onB_t ?_)
  | (with_reducible refine onB_f ?_)
  | (with_reducible refine onB_d (fun _ => ?_) (fun _ => ?_))
  | (with_reducible refine onB_n (fun _ => ?_) (fun _ => ?_))
  | refine OnB.mk (fun _ => ?_) (fun _ => ?_)
  | refine obl_i ?_ ?_
  | refine Drw.mk (by kernel_rfl) ?_
  | refine mks_i ?_ ?_
  | refine slp_i ?_ ?_
  | (with_reducible refine elem_u ?_ ?_)
  | (with_reducible refine elem_0 ?_)
  | (with_reducible refine elem_1 ?_)
  | refine Ends.mk ?_)
 all_goals (try refine Pr.mk ?_)
 rw [wi64 (by omega) (by omega), wi64 (by omega) (by omega)]; rfl⟩

instance f_root (n : Int) : DenI Try.prog 62 [.int .i64 n] (0 ≤ n ∧ n ≤ 2305843009213693952) (.tup [.int .i64 (rt n), .bool (decide (rt n * rt n = n * 65536))]) := ⟨fun hp => by
 refine den_of (τ := tab) tab_ok mixed_ Try.func62 rfl (by kernel_rfl) (by kernel_rfl) (by kernel_rfl) ?_
 repeat' ((try (conv => whnf)); first
  | refine call_0 ?_
  | refine call_i ?_ ?_
  | (with_reducible refine onB_t ?_)
  | (with_reducible refine onB_f ?_)
  | (with_reducible refine onB_d (fun _ => ?_) (fun _ => ?_))
  | (with_reducible refine onB_n (fun _ => ?_) (fun _ => ?_))
  | refine OnB.mk (fun _ => ?_) (fun _ => ?_)
  | refine obl_i ?_ ?_
  | refine Drw.mk (by kernel_rfl) ?_
  | refine mks_i ?_ ?_
  | refine slp_i ?_ ?_
  | (with_reducible refine elem_u ?_ ?_)
  | (with_reducible refine elem_0 ?_)
  | (with_reducible refine elem_1 ?_)
  | refine Ends.mk ?_)
 all_goals (try refine Pr.mk ?_)
 all_goals (have hn := rt_lim hp.1 hp.2; have h0 : 0 = 0 := rfl)
 all_goals (try simp only [rt_if, cmpI_eq0])
 all_goals first
  | exact ibE (if_pos (show -9223372036854775808 ≤ rt n ∧ rt n ≤ 9223372036854775807 by omega)) rfl
  | omega
  | (have z1 := sz_mul n 65536; have z2 := szl n (by omega) (by omega); have z3 := szl 65536 (by omega) (by omega); have z4 := szl (rt n) (by omega) (by omega); omega)⟩

instance f_sqrt (l h : Int) : DenI Try.prog 27 [Iv l h] (l ≤ h ∧ -2305843009213693952 ≤ l ∧ l ≤ 2305843009213693952 ∧ -2305843009213693952 ≤ h ∧ h ≤ 2305843009213693952) (Ov (sqrtI (l, h))) := ⟨fun hp => by
 refine den_of (τ := tab) tab_ok mixed_ Try.func27 rfl (by kernel_rfl) (by kernel_rfl) (by kernel_rfl) ?_
 repeat' ((try (conv => whnf)); first
  | refine call_0 ?_
  | refine call_i ?_ ?_
  | (with_reducible refine onB_t ?_)
  | (with_reducible refine onB_f ?_)
  | (with_reducible refine onB_d (fun _ => ?_) (fun _ => ?_))
  | (with_reducible refine onB_n (fun _ => ?_) (fun _ => ?_))
  | refine OnB.mk (fun _ => ?_) (fun _ => ?_)
  | refine obl_i ?_ ?_
  | refine Drw.mk (by kernel_rfl) ?_
  | refine mks_i ?_ ?_
  | refine slp_i ?_ ?_
  | (with_reducible refine elem_u ?_ ?_)
  | (with_reducible refine elem_0 ?_)
  | (with_reducible refine elem_1 ?_)
  | refine Ends.mk ?_)
 all_goals (try refine Pr.mk ?_)
 all_goals (try rw [rt_fold] at *)
 all_goals first
  | exact ovN (if_pos (by assumption))
  | exact rt_ex (by assumption) (by assumption)
  | (have hn := rt_lim (n := h) (by omega) (by omega); rw [wi64 (by omega) (by omega)]; exact rt_up (by assumption) (by assumption))
  | (constructor <;> omega)⟩

end Go.Proofs.Ytjhekoechimbnaa

namespace Go.Sw
open Go
set_option linter.unusedVariables false
set_option linter.unusedSimpArgs false
theorem w01 : IntKind.i64.wrap (0 + 1) = 1 := by decide
theorem w11 : IntKind.i64.wrap (1 + 1) = 2 := by decide
theorem onB_yes {b : Bool} {k : Bool → Prop} (e : b = true) (h : k true) : OnB b k := ⟨fun _ => h, fun h' => by rw [e] at h'; cases h'⟩
theorem onB_no {b : Bool} {k : Bool → Prop} (e : b = false) (h : k false) : OnB b k := ⟨fun h' => (by rw [e] at h'; cases h'), fun _ => h⟩
def dnP (x y : Int) : Int := (x * y) / 65536
def upP (x y : Int) : Int := -((-(x * y)) / 65536)
theorem dn_le (x y : Int) : dnP x y ≤ upP x y := by unfold dnP upP; omega
theorem scQ_val (x y : Int) : scQ x y = (dnP x y, upP x y) := by
  have e : x * y = if (decide (x < 0) != decide (y < 0)) = true then -((scP x y : Nat) : Int) else ((scP x y : Nat) : Int) := by
    unfold scP
    rw [Int.natCast_mul]
    by_cases h1 : x < 0 <;> by_cases h2 : y < 0 <;> simp only [h1, h2]
    · have e1 : (x.natAbs : Int) = -x := by omega
      have e2 : (y.natAbs : Int) = -y := by omega
      rw [e1, e2]; simp [Int.neg_mul, Int.mul_neg, Int.neg_neg]
    · have e1 : (x.natAbs : Int) = -x := by omega
      have e2 : (y.natAbs : Int) = y := by omega
      rw [e1, e2]; simp [Int.neg_mul, Int.mul_neg, Int.neg_neg]
    · have e1 : (x.natAbs : Int) = x := by omega
      have e2 : (y.natAbs : Int) = -y := by omega
      rw [e1, e2]; simp [Int.neg_mul, Int.mul_neg, Int.neg_neg]
    · have e1 : (x.natAbs : Int) = x := by omega
      have e2 : (y.natAbs : Int) = y := by omega
      rw [e1, e2]; simp [Int.neg_mul, Int.mul_neg, Int.neg_neg]
  unfold scQ dnP upP
  generalize scP x y = p at *
  generalize (decide (x < 0) != decide (y < 0)) = s at *
  rw [e]
  cases s <;> by_cases hm : p % 65536 = 0 <;> simp only [hm, if_true, if_false] <;> (refine Prod.ext ?_ ?_ <;> simp <;> omega)
def scOk (x y : Int) : Prop := -2305843009213693952 ≤ dnP x y ∧ upP x y ≤ 2305843009213693952
theorem scI_ok {x y : Int} (h : (scI x y).2.2 = true) : (scI x y).1 = dnP x y ∧ (scI x y).2.1 = upP x y ∧ -2305843009213693952 ≤ dnP x y ∧ upP x y ≤ 2305843009213693952 := by
  unfold scI at *
  rw [scQ_val] at *
  split at h
  · exact absurd h (by simp)
  · rename_i g
    rw [if_neg g]
    exact ⟨rfl, rfl, of_decide_eq_true h⟩
theorem scI_no {x y : Int} (h : ¬(scI x y).2.2 = true) : ¬(-2305843009213693952 ≤ dnP x y ∧ upP x y ≤ 2305843009213693952) := by
  have q := scQ_val x y
  unfold scI at h
  rw [q] at h
  split at h
  · rename_i g
    unfold scQ at q
    generalize scP x y = p at *
    intro ⟨h1, h2⟩
    generalize (decide (x < 0) != decide (y < 0)) = s at *
    have q1 := congrArg Prod.fst q
    have q2 := congrArg Prod.snd q
    cases s <;> by_cases hm : p % 65536 = 0 <;> simp only [hm, if_true, if_false] at q1 q2 <;> simp at q1 q2 <;> omega
  · intro ⟨h1, h2⟩
    exact h (decide_eq_true ⟨h1, h2⟩)
def mulI (a b : Int × Int) : Option (Int × Int) :=
  mkI (min (min (dnP a.1 b.1) (dnP a.1 b.2)) (min (dnP a.2 b.1) (dnP a.2 b.2))) (max (max (upP a.1 b.1) (upP a.1 b.2)) (max (upP a.2 b.1) (upP a.2 b.2)))
theorem nb {b : Bool} (h : (!b) = true) : ¬b = true := by cases b <;> simp_all
theorem nb' {b : Bool} (h : (!b) = false) : b = true := by cases b <;> simp_all
theorem min_fold (u v : Int) : List.foldl (fun x y => if y < x then y else x) u [v] = min u v := by
  show (if v < u then v else u) = min u v
  split <;> omega
theorem max_fold (u v : Int) : List.foldl (fun x y => if y > x then y else x) u [v] = max u v := by
  show (if v > u then v else u) = max u v
  split <;> omega
theorem mul_none {a b c d x y : Int} (hx : x = a ∨ x = b) (hy : y = c ∨ y = d) (h : (!(scI x y).2.2) = true) : mulI (a, b) (c, d) = none := by
  have := scI_no (nb h)
  apply mkI_no
  rcases hx with rfl | rfl <;> rcases hy with rfl | rfl <;> simp only <;> omega
theorem mul_some {a b c d : Int} (h1 : (!(scI a c).2.2) = false) (h2 : (!(scI a d).2.2) = false) (h3 : (!(scI b c).2.2) = false) (h4 : (!(scI b d).2.2) = false) :
    packA [AV.agg [Cell.v (Value.int .i64 (min (min (min (min 2305843009213693952 (scI a c).1) (scI a d).1) (scI b c).1) (scI b d).1)), Cell.v (Value.int .i64 (max (max (max (max (-2305843009213693952) (scI a c).2.1) (scI a d).2.1) (scI b c).2.1) (scI b d).2.1))], AV.c (Cell.v (Value.bool true))] = Ov (mulI (a, b) (c, d)) := by
  obtain ⟨e1, e2, e3, e4⟩ := scI_ok (nb' h1)
  obtain ⟨f1, f2, f3, f4⟩ := scI_ok (nb' h2)
  obtain ⟨g1, g2, g3, g4⟩ := scI_ok (nb' h3)
  obtain ⟨k1, k2, k3, k4⟩ := scI_ok (nb' h4)
  have d1 := dn_le a c
  have d2 := dn_le a d
  have d3 := dn_le b c
  have d4 := dn_le b d
  rw [e1, e2, f1, f2, g1, g2, k1, k2]
  unfold mulI
  rw [mkI_yes (by simp only; omega) (by simp only; omega)]
  refine ovE ?_ ?_ rfl <;> simp only [Option.getD_some] <;> omega
/-- A root's cells. -/
@[reducible] def Q3 (a b c : Rat) : AV := .agg [zs a.num, zl a.num, zs a.den, zl a.den, zs b.num, zl b.num, zs b.den, zl b.den, zs c.num, zl c.num, zs c.den, zl c.den]
def rootI (a b c : Rat) : Option (Int × Int) :=
  match fromR a with
  | none => none
  | some x => if b = 0 then some x else
    match fromR b, fromR c with
    | some y, some z => if c < 0 then none else
      match sqrtI z with
      | none => none
      | some s => match mulI y s with
        | none => none
        | some p => addI x p
    | _, _ => none
theorem floor_uniq {q : Rat} {m : Int} (h1 : (m : Rat) ≤ q) (h2 : q < ((m + 1 : Int) : Rat)) : q.floor = m := by
  have a1 : m ≤ q.floor := Rat.le_floor_iff.2 h1
  have a2 : q.floor < m + 1 := Rat.floor_lt_iff.2 h2
  omega
theorem floor_dn (a c : Int) : ((a : Rat) * (c : Rat) * (((1 : Int) : Rat) / ((65536 : Int) : Rat))).floor = dnP a c := by
  have e : (a : Rat) * (c : Rat) * (((1 : Int) : Rat) / ((65536 : Int) : Rat)) = ((a * c : Int) : Rat) / 65536 := by
    rw [Rat.intCast_mul]; grind
  rw [e]
  unfold dnP
  generalize a * c = n
  apply floor_uniq
  · have h : ((n / 65536 * 65536 : Int) : Rat) ≤ (n : Rat) := Rat.intCast_le_intCast.2 (by omega)
    rw [Rat.intCast_mul] at h
    generalize ((n / 65536 : Int) : Rat) = x at *
    grind
  · have h : (n : Rat) < (((n / 65536 + 1) * 65536 : Int) : Rat) := Rat.intCast_lt_intCast.2 (by omega)
    rw [Rat.intCast_mul] at h
    generalize ((n / 65536 + 1 : Int) : Rat) = x at *
    grind
theorem up_dn (a c : Int) : upR ((a : Rat) * (c : Rat) * (((1 : Int) : Rat) / ((65536 : Int) : Rat))) = upP a c := by
  unfold upP
  have := floor_dn (-a) c
  unfold dnP at this
  rw [Rat.intCast_neg, Rat.neg_mul, Rat.neg_mul, Int.neg_mul] at this
  unfold upR
  rw [this]
def lw (a b c d : Int) : Nat → Int
  | 0 => 0 | 1 => dnP a c | 2 => min (dnP a c) (dnP a d) | 3 => min (min (dnP a c) (dnP a d)) (dnP b c) | _ => min (min (min (dnP a c) (dnP a d)) (dnP b c)) (dnP b d)
def hw (a b c d : Int) : Nat → Int
  | 0 => 0 | 1 => upP a c | 2 => max (upP a c) (upP a d) | 3 => max (max (upP a c) (upP a d)) (upP b c) | _ => max (max (max (upP a c) (upP a d)) (upP b c)) (upP b d)
def kI : Nat → Int | 0 => 0 | 1 => 1 | _ => 2
theorem lw1 (a b c d : Int) : lw a b c d 1 = dnP a c := rfl
theorem lw2 (a b c d : Int) : lw a b c d 2 = min (dnP a c) (dnP a d) := rfl
theorem lw3 (a b c d : Int) : lw a b c d 3 = min (min (dnP a c) (dnP a d)) (dnP b c) := rfl
theorem lw4 (a b c d : Int) : lw a b c d 4 = min (min (min (dnP a c) (dnP a d)) (dnP b c)) (dnP b d) := rfl
theorem hw1 (a b c d : Int) : hw a b c d 1 = upP a c := rfl
theorem hw2 (a b c d : Int) : hw a b c d 2 = max (upP a c) (upP a d) := rfl
theorem hw3 (a b c d : Int) : hw a b c d 3 = max (max (upP a c) (upP a d)) (upP b c) := rfl
theorem hw4 (a b c d : Int) : hw a b c d 4 = max (max (max (upP a c) (upP a d)) (upP b c)) (upP b d) := rfl
theorem k1 : some (AV.int .i64 (IntKind.i64.wrap (0 + 1))) = some (AV.int .i64 (kI 1)) := by rw [w01]; rfl
theorem k2 : some (AV.int .i64 (IntKind.i64.wrap (1 + 1))) = some (AV.int .i64 (kI 2)) := by rw [w11]; rfl
theorem rz_m (a c : Int) (h1 : -9223372036854775808 ≤ a ∧ a ≤ 9223372036854775807) (h2 : -9223372036854775808 ≤ c ∧ c ≤ 9223372036854775807) : rz (a : Rat) ≤ 4 ∧ rz (c : Rat) ≤ 4 ∧ rz ((a : Rat) * (c : Rat)) ≤ 8 ∧ rz (((1 : Int) : Rat) / ((65536 : Int) : Rat)) ≤ 6 ∧ rz ((a : Rat) * (c : Rat) * (((1 : Int) : Rat) / ((65536 : Int) : Rat))) ≤ 14 := by
  have z1 := rz_int a
  have z2 := rz_int c
  have z3 := sz_64 h1.1 h1.2
  have z4 := sz_64 h2.1 h2.2
  have z5 := rz_mul (a : Rat) (c : Rat)
  have z6 := rz_red (n := 1) (d := 65536) (by decide)
  have z7 := szl 65536 (by omega) (by omega)
  have z8 := sz_one
  have z9 := rz_mul ((a : Rat) * (c : Rat)) (((1 : Int) : Rat) / ((65536 : Int) : Rat))
  omega
theorem lw_01 (a b c d : Int) : lw a b c d (0 + 1) = dnP a c := rfl
theorem hw_01 (a b c d : Int) : hw a b c d (0 + 1) = upP a c := rfl
theorem lw_02 (a b c d : Int) : lw a b c d (0 + 2) = min (dnP a c) (dnP a d) := rfl
theorem hw_02 (a b c d : Int) : hw a b c d (0 + 2) = max (upP a c) (upP a d) := rfl
theorem lw_20 (a b c d : Int) : lw a b c d (2 + 0) = min (dnP a c) (dnP a d) := rfl
theorem hw_20 (a b c d : Int) : hw a b c d (2 + 0) = max (upP a c) (upP a d) := rfl
theorem lw_21 (a b c d : Int) : lw a b c d (2 + 1) = min (min (dnP a c) (dnP a d)) (dnP b c) := rfl
theorem hw_21 (a b c d : Int) : hw a b c d (2 + 1) = max (max (upP a c) (upP a d)) (upP b c) := rfl
theorem lw_22 (a b c d : Int) : lw a b c d (2 + 2) = min (min (min (dnP a c) (dnP a d)) (dnP b c)) (dnP b d) := rfl
theorem hw_22 (a b c d : Int) : hw a b c d (2 + 2) = max (max (max (upP a c) (upP a d)) (upP b c)) (upP b d) := rfl
theorem zvar0 : some (Bk.var [Cell.v (.bool false), Cell.sl 1 []]) = some (Bk.var [zs 0, zl 0]) := by
  have := Z0
  unfold Z at this
  injection this with h
  rw [h]
theorem zvar {x y : Int} (h : x = y) : some (Bk.var [zs x, zl x]) = some (Bk.var [zs y, zl y]) := by rw [h]
theorem mul_lw (a b c d : Int) : mkI (lw a b c d 4) (hw a b c d 4) = mulI (a, b) (c, d) := by
  unfold mulI lw hw
  congr 1 <;> simp only <;> omega
theorem lw_hw (a b c d : Int) : lw a b c d 4 ≤ hw a b c d 4 := by
  have d1 := dn_le a c
  unfold lw hw
  simp only
  omega
@[reducible] def Q5 (a b c d e : Rat) : AV := .agg [zs a.num, zl a.num, zs a.den, zl a.den, zs b.num, zl b.num, zs b.den, zl b.den, zs c.num, zl c.num, zs c.den, zl c.den, zs d.num, zl d.num, zs d.den, zl d.den, zs e.num, zl e.num, zs e.den, zl e.den]
def prodI (n : Rat) (o : Option (Int × Int)) : Option (Int × Int) :=
  match fromR n, o with
  | some b, some a => mulI b a
  | _, _ => none
def sideI (la lb lc ax bx ay bb c : Rat) : Int × Bool :=
  match prodI la (rootI ax bx c), prodI lb (rootI ay bb c), fromR lc with
  | some x, some y, some z => match addI x y with
    | none => (0, false)
    | some s => match addI s (-z.2, -z.1) with
      | none => (0, false)
      | some t => sgIv t.1 t.2
  | _, _, _ => (0, false)
def ivB (x : Int × Int) : Prop := -2305843009213693952 ≤ x.1 ∧ x.1 ≤ x.2 ∧ x.2 ≤ 2305843009213693952
theorem ivB_from (a : Rat) : ivB ((fromR a).getD (0, 0)) := fromR_ok a
theorem ivB_mul (x y : Int × Int) : ivB ((mulI x y).getD (0, 0)) := mkI_ok _ rfl (by have := dn_le x.1 y.1; omega)
theorem ivB_sqrt {x : Int × Int} (h : ivB x) : ivB ((sqrtI x).getD (0, 0)) := by
  unfold sqrtI
  split
  · exact ⟨by decide, by decide, by decide⟩
  · rename_i g
    refine mkI_ok _ rfl ?_
    have := rt_mono (l := max x.1 0) (h := x.2) (by omega) (by unfold ivB at h; omega)
    have := (rtU_ok (n := x.2) (by omega)).1
    omega
theorem ivB_add {x y : Int × Int} (h1 : ivB x) (h2 : ivB y) : ivB ((addI x y).getD (0, 0)) := mkI_ok _ rfl (by unfold ivB at *; omega)
theorem ivB_root (a b c : Rat) : ivB ((rootI a b c).getD (0, 0)) := by
  have h0 : ivB (0, 0) := ⟨by decide, by decide, by decide⟩
  unfold rootI
  have ha := ivB_from a
  have hb := ivB_from b
  have hc := ivB_from c
  split
  · exact h0
  · rename_i x hx
    rw [hx] at ha
    split
    · exact ha
    · split
      · rename_i y z hy hz
        split
        · exact h0
        · split
          · exact h0
          · split
            · exact h0
            · rename_i s hs _ p hp
              refine ivB_add ha ?_
              have := ivB_mul y s
              rw [hp] at this
              exact this
      · exact h0
theorem ivB_prod (n : Rat) (o : Option (Int × Int)) : ivB ((prodI n o).getD (0, 0)) := by
  unfold prodI
  split
  · exact ivB_mul _ _
  · exact ⟨by decide, by decide, by decide⟩
theorem ovN1 {o : Option (Int × Int)} (e : (none : Option (Int × Int)) = o) : packA [AV.agg [Cell.v (Value.int .i64 0), Cell.v (Value.int .i64 0)], AV.c (Cell.v (Value.bool false))] = Ov o := by subst e; rfl
end Go.Sw

namespace Go.Proofs.Ytjhekoechimbnaa
open Go Go.RowKit Go.Sw
set_option linter.unusedVariables false
set_option maxRecDepth 100000
set_option maxHeartbeats 8000000
instance f_mul (a b c d : Int) : DenI Try.prog 23 [Iv a b, Iv c d] (-2305843009213693952 ≤ a ∧ a ≤ 2305843009213693952 ∧ -2305843009213693952 ≤ b ∧ b ≤ 2305843009213693952 ∧ -2305843009213693952 ≤ c ∧ c ≤ 2305843009213693952 ∧ -2305843009213693952 ≤ d ∧ d ≤ 2305843009213693952) (Ov (mulI (a, b) (c, d))) := ⟨fun hp => by
 refine den_of (τ := tab) tab_ok mixed_ Try.func23 rfl (by kernel_rfl) (by kernel_rfl) (by kernel_rfl) ?_
 all_goals (repeat' ((try rw [w01]); (try rw [w11]); (try (conv => whnf)); first
  | refine call_0 ?_
  | refine call_i ?_ ?_
  | (with_reducible refine onB_t ?_)
  | (with_reducible refine onB_f ?_)
  | refine onB_yes rfl ?_
  | refine onB_no rfl ?_
  | (with_reducible refine onB_d (fun _ => ?_) (fun _ => ?_))
  | (with_reducible refine onB_n (fun _ => ?_) (fun _ => ?_))
  | refine OnB.mk (fun _ => ?_) (fun _ => ?_)
  | refine obl_i ?_ ?_
  | refine Drw.mk (by kernel_rfl) ?_
  | refine mks_i ?_ ?_
  | refine slp_i ?_ ?_
  | (with_reducible refine elem_u ?_ ?_)
  | (with_reducible refine elem_0 ?_)
  | (with_reducible refine elem_1 ?_)
  | refine Sw.Loop.unroll ?_
  | refine Ends.mk ?_))
 all_goals (try refine Pr.mk ?_)
 all_goals (try simp only [min_fold, max_fold])
 all_goals first
  | exact ovN (mul_none (.inl rfl) (.inl rfl) (by with_reducible assumption))
  | exact ovN (mul_none (.inl rfl) (.inr rfl) (by with_reducible assumption))
  | exact ovN (mul_none (.inr rfl) (.inl rfl) (by with_reducible assumption))
  | exact ovN (mul_none (.inr rfl) (.inr rfl) (by with_reducible assumption))
  | (rename_i g1 g2 g3 g4; exact mul_some g1 g2 g3 g4)
  | (constructor <;> constructor <;> omega)⟩

end Go.Proofs.Ytjhekoechimbnaa

namespace Go.Proofs.Ytjhekoechimbnaa
open Go Go.RowKit Go.Sw
set_option linter.unusedVariables false
set_option maxRecDepth 100000
set_option maxHeartbeats 8000000
instance g_of (l h : Int) : DenI Try.prog 53 [Z l, Z h] (l ≤ h) (Ov (mkI l h)) := ⟨fun hp => by
 refine den_of (τ := tab) tab_ok mixed_ Try.func53 rfl (by kernel_rfl) (by kernel_rfl) (by kernel_rfl) ?_
 repeat' ((try (conv => whnf)); first
  | refine call_0 ?_
  | refine call_i ?_ ?_
  | (with_reducible refine onB_t ?_)
  | (with_reducible refine onB_f ?_)
  | (with_reducible refine onB_d (fun _ => ?_) (fun _ => ?_))
  | (with_reducible refine onB_n (fun _ => ?_) (fun _ => ?_))
  | refine OnB.mk (fun _ => ?_) (fun _ => ?_)
  | refine obl_i ?_ ?_
  | refine Drw.mk (by kernel_rfl) ?_
  | refine mks_i ?_ ?_
  | refine slp_i ?_ ?_
  | (with_reducible refine elem_u ?_ ?_)
  | (with_reducible refine elem_0 ?_)
  | (with_reducible refine elem_1 ?_)
  | refine Ends.mk ?_)
 all_goals (try refine Pr.mk ?_)
 all_goals first
  | exact ovN (of_no (by with_reducible assumption) hp)
  | exact ovN (of_no2 (by with_reducible assumption) hp)
  | (rename_i g1 g2 g3; rw [if_pos g1, if_pos g2] at *; first | exact ovN (of_no3 g3 hp) | exact of_yes g3)⟩

instance g_up (a : Rat) : DenI Try.prog 55 [R a] (rz a ≤ 10000000) (Z (upR a)) := ⟨fun hp => by
 refine den_of (τ := tab) tab_ok mixed_ Try.func55 rfl (by kernel_rfl) (by kernel_rfl) (by kernel_rfl) ?_
 repeat' ((try (conv => whnf)); first
  | refine call_0 ?_
  | refine call_i ?_ ?_
  | (with_reducible refine onB_t ?_)
  | (with_reducible refine onB_f ?_)
  | (with_reducible refine onB_d (fun _ => ?_) (fun _ => ?_))
  | (with_reducible refine onB_n (fun _ => ?_) (fun _ => ?_))
  | refine OnB.mk (fun _ => ?_) (fun _ => ?_)
  | refine obl_i ?_ ?_
  | refine Drw.mk (by kernel_rfl) ?_
  | refine mks_i ?_ ?_
  | refine slp_i ?_ ?_
  | (with_reducible refine elem_u ?_ ?_)
  | (with_reducible refine elem_0 ?_)
  | (with_reducible refine elem_1 ?_)
  | refine Ends.mk ?_)
 all_goals (try refine Pr.mk ?_)
 all_goals first | rfl | (have z1 := rz_neg a; have z2 := sz_floor (-a); omega)⟩

instance g_fromrat (a : Rat) : DenI Try.prog 14 [R a] (rz a ≤ 1000000) (Ov (fromR a)) := ⟨fun hp => by
 refine den_of (τ := tab) tab_ok mixed_ Try.func14 rfl (by kernel_rfl) (by kernel_rfl) (by kernel_rfl) ?_
 repeat' ((try (conv => whnf)); first
  | refine call_0 ?_
  | refine call_i ?_ ?_
  | (with_reducible refine onB_t ?_)
  | (with_reducible refine onB_f ?_)
  | (with_reducible refine onB_d (fun _ => ?_) (fun _ => ?_))
  | (with_reducible refine onB_n (fun _ => ?_) (fun _ => ?_))
  | refine OnB.mk (fun _ => ?_) (fun _ => ?_)
  | refine obl_i ?_ ?_
  | refine Drw.mk (by kernel_rfl) ?_
  | refine mks_i ?_ ?_
  | refine slp_i ?_ ?_
  | (with_reducible refine elem_u ?_ ?_)
  | (with_reducible refine elem_0 ?_)
  | (with_reducible refine elem_1 ?_)
  | refine Ends.mk ?_)
 all_goals (try refine Pr.mk ?_)
 all_goals first
  | rfl
  | exact fl_up _
  | (have z1 := rz_mul a ((65536 : Int) : Rat); have z2 := rz_k; omega)⟩

instance g_add (a b c d : Int) : DenI Try.prog 20 [Iv a b, Iv c d] (a ≤ b ∧ c ≤ d ∧ -2305843009213693952 ≤ a ∧ a ≤ 2305843009213693952 ∧ -2305843009213693952 ≤ b ∧ b ≤ 2305843009213693952 ∧ -2305843009213693952 ≤ c ∧ c ≤ 2305843009213693952 ∧ -2305843009213693952 ≤ d ∧ d ≤ 2305843009213693952) (Ov (addI (a, b) (c, d))) := ⟨fun hp => by
 refine den_of (τ := tab) tab_ok mixed_ Try.func20 rfl (by kernel_rfl) (by kernel_rfl) (by kernel_rfl) ?_
 repeat' ((try (conv => whnf)); first
  | refine call_0 ?_
  | refine call_i ?_ ?_
  | (with_reducible refine onB_t ?_)
  | (with_reducible refine onB_f ?_)
  | (with_reducible refine onB_d (fun _ => ?_) (fun _ => ?_))
  | (with_reducible refine onB_n (fun _ => ?_) (fun _ => ?_))
  | refine OnB.mk (fun _ => ?_) (fun _ => ?_)
  | refine obl_i ?_ ?_
  | refine Drw.mk (by kernel_rfl) ?_
  | refine mks_i ?_ ?_
  | refine slp_i ?_ ?_
  | (with_reducible refine elem_u ?_ ?_)
  | (with_reducible refine elem_0 ?_)
  | (with_reducible refine elem_1 ?_)
  | refine Ends.mk ?_)
 all_goals (try refine Pr.mk ?_)
 all_goals first | rfl | omega | (have z1 := szl a (by omega) (by omega); have z2 := szl b (by omega) (by omega); have z3 := szl c (by omega) (by omega); have z4 := szl d (by omega) (by omega); omega)⟩

instance g_neg (l h : Int) : DenI Try.prog 22 [Iv l h] (-2305843009213693952 ≤ l ∧ l ≤ 2305843009213693952 ∧ -2305843009213693952 ≤ h ∧ h ≤ 2305843009213693952) (Iv (-h) (-l)) := ⟨fun hp => by
 refine den_of (τ := tab) tab_ok mixed_ Try.func22 rfl (by kernel_rfl) (by kernel_rfl) (by kernel_rfl) ?_
 repeat' ((try (conv => whnf)); first
  | refine call_0 ?_
  | refine call_i ?_ ?_
  | (with_reducible refine onB_t ?_)
  | (with_reducible refine onB_f ?_)
  | (with_reducible refine onB_d (fun _ => ?_) (fun _ => ?_))
  | (with_reducible refine onB_n (fun _ => ?_) (fun _ => ?_))
  | refine OnB.mk (fun _ => ?_) (fun _ => ?_)
  | refine obl_i ?_ ?_
  | refine Drw.mk (by kernel_rfl) ?_
  | refine mks_i ?_ ?_
  | refine slp_i ?_ ?_
  | (with_reducible refine elem_u ?_ ?_)
  | (with_reducible refine elem_0 ?_)
  | (with_reducible refine elem_1 ?_)
  | refine Ends.mk ?_)
 all_goals (try refine Pr.mk ?_)
 rw [wi64 (by omega) (by omega), wi64 (by omega) (by omega), Int.zero_sub, Int.zero_sub]; rfl⟩

instance g_sqrt (l h : Int) : DenI Try.prog 28 [Iv l h] (l ≤ h ∧ -2305843009213693952 ≤ l ∧ l ≤ 2305843009213693952 ∧ -2305843009213693952 ≤ h ∧ h ≤ 2305843009213693952) (Ov (sqrtI (l, h))) := ⟨fun hp => by
 refine den_of (τ := tab) tab_ok mixed_ Try.func28 rfl (by kernel_rfl) (by kernel_rfl) (by kernel_rfl) ?_
 repeat' ((try (conv => whnf)); first
  | refine call_0 ?_
  | refine call_i ?_ ?_
  | (with_reducible refine onB_t ?_)
  | (with_reducible refine onB_f ?_)
  | (with_reducible refine onB_d (fun _ => ?_) (fun _ => ?_))
  | (with_reducible refine onB_n (fun _ => ?_) (fun _ => ?_))
  | refine OnB.mk (fun _ => ?_) (fun _ => ?_)
  | refine obl_i ?_ ?_
  | refine Drw.mk (by kernel_rfl) ?_
  | refine mks_i ?_ ?_
  | refine slp_i ?_ ?_
  | (with_reducible refine elem_u ?_ ?_)
  | (with_reducible refine elem_0 ?_)
  | (with_reducible refine elem_1 ?_)
  | refine Ends.mk ?_)
 all_goals (try refine Pr.mk ?_)
 all_goals (try simp only [rt_if, cmpI_lt0] at *)
 all_goals first
  | exact ovN (if_pos (by assumption))
  | (rename_i g1 g2 g3; first | exact sq_ex g1 g3 (by omega) | exact sq_up g1 g3 (by omega))
  | omega
  | exact Int.le_trans (rt_mono (l := 0) (h := h) (by omega) (by omega)) (by omega)
  | exact Int.le_trans (rt_mono (l := l) (h := h) (by omega) (by omega)) (by omega)
  | (show rt _ ≤ rt _ + 1; exact Int.le_trans (rt_mono (l := l) (h := h) (by omega) (by omega)) (by omega))
  | (have z1 := szl l (by omega) (by omega); have z2 := szl h (by omega) (by omega); have z3 := szl 65536 (by omega) (by omega); have z4 := sz_mul l 65536; have z5 := sz_mul h 65536; have z6 := sz_mul 0 65536; have z7 := szl 0 (by omega) (by omega); have z8 := sz_one; have hn := rt_lim (n := h) (by omega) (by omega); have z9 := szl (rt h) (by omega) (by omega); omega)⟩

end Go.Proofs.Ytjhekoechimbnaa

namespace Go.Proofs.Ytjhekoechimbnaa
open Go Go.RowKit Go.Sw
set_option linter.unusedVariables false
set_option maxRecDepth 100000
set_option maxHeartbeats 8000000
instance g_mul (a b c d : Int) : DenI Try.prog 24 [Iv a b, Iv c d] (-2305843009213693952 ≤ a ∧ a ≤ 2305843009213693952 ∧ -2305843009213693952 ≤ b ∧ b ≤ 2305843009213693952 ∧ -2305843009213693952 ≤ c ∧ c ≤ 2305843009213693952 ∧ -2305843009213693952 ≤ d ∧ d ≤ 2305843009213693952) (Ov (mulI (a, b) (c, d))) := ⟨fun hp => by
 refine den_of (τ := tab) tab_ok mixed_ Try.func24 rfl (by kernel_rfl) (by kernel_rfl) (by kernel_rfl) ?_
 repeat' ((try (conv => whnf)); first
  | refine call_0 ?_
  | refine call_i ?_ ?_
  | (with_reducible refine onB_t ?_)
  | (with_reducible refine onB_f ?_)
  | (with_reducible refine onB_d (fun _ => ?_) (fun _ => ?_))
  | (with_reducible refine onB_n (fun _ => ?_) (fun _ => ?_))
  | refine OnB.mk (fun _ => ?_) (fun _ => ?_)
  | refine obl_i ?_ ?_
  | refine Drw.mk (by kernel_rfl) ?_
  | refine mks_i ?_ ?_
  | refine slp_i ?_ ?_
  | (with_reducible refine elem_u ?_ ?_)
  | (with_reducible refine elem_0 ?_)
  | (with_reducible refine elem_1 ?_)
  | refine Ends.mk ?_)
 all_goals (try refine Pr.mk ?_)
 all_goals first
  | ((conv => whnf); refine Sw.Loop.unroll ?_)
  | skip
 all_goals (repeat' ((try rw [w01]); (try rw [w11]); (try (conv => whnf)); first
  | refine call_0 ?_
  | refine call_i ?_ ?_
  | (with_reducible refine onB_t ?_)
  | (with_reducible refine onB_f ?_)
  | refine onB_yes (by simp only [List.length_cons, List.length_nil]; decide) ?_
  | refine onB_no (by simp only [List.length_cons, List.length_nil]; decide) ?_
  | refine onB_yes (by decide) ?_
  | refine onB_no (by decide) ?_
  | (with_reducible refine onB_d (fun _ => ?_) (fun _ => ?_))
  | (with_reducible refine onB_n (fun _ => ?_) (fun _ => ?_))
  | refine OnB.mk (fun _ => ?_) (fun _ => ?_)
  | refine obl_i ?_ ?_
  | refine Drw.mk (by kernel_rfl) ?_
  | refine mks_i ?_ ?_
  | refine slp_i ?_ ?_
  | (with_reducible refine elem_u ?_ ?_)
  | (with_reducible refine elem_0 ?_)
  | (with_reducible refine elem_1 ?_)
  | refine Ends.mk ?_))
 all_goals (try refine Pr.mk ?_)
 all_goals first
  | ((conv => whnf); refine Sw.Loop.inv (α := Nat) (fun x => [(4, .ptr 4 0), (6, .c (.sl 1 [[.v (.int .i64 a)], [.v (.int .i64 b)]])), (7, .c (.sl 1 [[.v (.int .i64 c)], [.v (.int .i64 d)]])), (8, .ptr 8 0), (9, .ptr 9 0), (10, .int .i64 0), (11, .int .i64 (kI x))]) (fun x => [(4, .var [.v (.int .i64 0), .v (.int .i64 0)]), (8, .var [zs (lw a b c d (0 + x)), zl (lw a b c d (0 + x))]), (9, .var [zs (hw a b c d (0 + x)), zl (hw a b c d (0 + x))])]) (fun x => x ≤ 2) (fun x => 2 - x) 0 ?_ ?_ ?_ (fun x hx => ?_))
  | skip
 all_goals (try (rename Nat => x; (obtain rfl | rfl | rfl : x = 0 ∨ x = 1 ∨ x = 2 := by omega) <;> (try simp only [kI])))
 all_goals (repeat' ((try rw [w01]); (try rw [w11]); (try (conv => whnf)); first
  | refine call_0 ?_
  | refine call_i ?_ ?_
  | (with_reducible refine onB_t ?_)
  | (with_reducible refine onB_f ?_)
  | refine onB_yes (by simp only [List.length_cons, List.length_nil]; decide) ?_
  | refine onB_no (by simp only [List.length_cons, List.length_nil]; decide) ?_
  | refine onB_yes (by decide) ?_
  | refine onB_no (by decide) ?_
  | (with_reducible refine onB_d (fun _ => ?_) (fun _ => ?_))
  | (with_reducible refine onB_n (fun _ => ?_) (fun _ => ?_))
  | refine OnB.mk (fun _ => ?_) (fun _ => ?_)
  | refine obl_i ?_ ?_
  | refine Drw.mk (by kernel_rfl) ?_
  | refine mks_i ?_ ?_
  | refine slp_i ?_ ?_
  | (with_reducible refine elem_u ?_ ?_)
  | (with_reducible refine elem_0 ?_)
  | (with_reducible refine elem_1 ?_)
  | refine Ends.mk ?_))
 all_goals (try refine Pr.mk ?_)
 all_goals first | (show SubE _ _; repeat' (first | exact trivial | refine And.intro ?_ ?_)) | (show SubB _ _; repeat' (first | exact trivial | refine And.intro ?_ ?_)) | skip
 all_goals (try rfl)
 all_goals first
  | exact zvar0
  | rfl
  | omega
  | (show _ ∧ _; constructor <;> omega)
  | (have z := rz_m a c (by omega) (by omega); omega)
  | (have z := rz_m a d (by omega) (by omega); omega)
  | (have z := rz_m b c (by omega) (by omega); omega)
  | (have z := rz_m b d (by omega) (by omega); omega)
  | ((conv => whnf); refine ⟨1, ⟨⟨rfl, rfl, rfl, rfl, rfl, rfl, k1, trivial⟩, ⟨rfl, zvar ?_, zvar ?_, trivial⟩, (show 1 ≤ 2 by decide), (show 2 - 1 < 2 - 0 by decide)⟩⟩ <;> simp only [floor_dn, up_dn, cmpI_lt0, cmpI_gt0, lw_01, hw_01, lw_02, hw_02, lw_20, hw_20, lw_21, hw_21, lw_22, hw_22] at * <;> omega)
  | ((conv => whnf); refine ⟨2, ⟨⟨rfl, rfl, rfl, rfl, rfl, rfl, k2, trivial⟩, ⟨rfl, zvar ?_, zvar ?_, trivial⟩, (show 2 ≤ 2 by decide), (show 2 - 2 < 2 - 1 by decide)⟩⟩ <;> simp only [floor_dn, up_dn, cmpI_lt0, cmpI_gt0, lw_01, hw_01, lw_02, hw_02, lw_20, hw_20, lw_21, hw_21, lw_22, hw_22] at * <;> omega)
  | skip
 all_goals first
  | ((conv => whnf); refine Sw.Loop.unroll ?_)
  | skip
 all_goals (repeat' ((try rw [w01]); (try rw [w11]); (try (conv => whnf)); first
  | refine call_0 ?_
  | refine call_i ?_ ?_
  | (with_reducible refine onB_t ?_)
  | (with_reducible refine onB_f ?_)
  | refine onB_yes (by simp only [List.length_cons, List.length_nil]; decide) ?_
  | refine onB_no (by simp only [List.length_cons, List.length_nil]; decide) ?_
  | refine onB_yes (by decide) ?_
  | refine onB_no (by decide) ?_
  | (with_reducible refine onB_d (fun _ => ?_) (fun _ => ?_))
  | (with_reducible refine onB_n (fun _ => ?_) (fun _ => ?_))
  | refine OnB.mk (fun _ => ?_) (fun _ => ?_)
  | refine obl_i ?_ ?_
  | refine Drw.mk (by kernel_rfl) ?_
  | refine mks_i ?_ ?_
  | refine slp_i ?_ ?_
  | (with_reducible refine elem_u ?_ ?_)
  | (with_reducible refine elem_0 ?_)
  | (with_reducible refine elem_1 ?_)
  | refine Ends.mk ?_))
 all_goals (try refine Pr.mk ?_)
 all_goals first
  | ((conv => whnf); refine Sw.Loop.inv (α := Nat) (fun x => [(4, .ptr 4 0), (6, .c (.sl 1 [[.v (.int .i64 a)], [.v (.int .i64 b)]])), (7, .c (.sl 1 [[.v (.int .i64 c)], [.v (.int .i64 d)]])), (8, .ptr 8 0), (9, .ptr 9 0), (10, .int .i64 1), (11, .int .i64 (kI x))]) (fun x => [(4, .var [.v (.int .i64 0), .v (.int .i64 0)]), (8, .var [zs (lw a b c d (2 + x)), zl (lw a b c d (2 + x))]), (9, .var [zs (hw a b c d (2 + x)), zl (hw a b c d (2 + x))])]) (fun x => x ≤ 2) (fun x => 2 - x) 0 ?_ ?_ ?_ (fun x hx => ?_))
  | skip
 all_goals (try (rename Nat => x; (obtain rfl | rfl | rfl : x = 0 ∨ x = 1 ∨ x = 2 := by omega) <;> (try simp only [kI])))
 all_goals (repeat' ((try rw [w01]); (try rw [w11]); (try (conv => whnf)); first
  | refine call_0 ?_
  | refine call_i ?_ ?_
  | (with_reducible refine onB_t ?_)
  | (with_reducible refine onB_f ?_)
  | refine onB_yes (by simp only [List.length_cons, List.length_nil]; decide) ?_
  | refine onB_no (by simp only [List.length_cons, List.length_nil]; decide) ?_
  | refine onB_yes (by decide) ?_
  | refine onB_no (by decide) ?_
  | (with_reducible refine onB_d (fun _ => ?_) (fun _ => ?_))
  | (with_reducible refine onB_n (fun _ => ?_) (fun _ => ?_))
  | refine OnB.mk (fun _ => ?_) (fun _ => ?_)
  | refine obl_i ?_ ?_
  | refine Drw.mk (by kernel_rfl) ?_
  | refine mks_i ?_ ?_
  | refine slp_i ?_ ?_
  | (with_reducible refine elem_u ?_ ?_)
  | (with_reducible refine elem_0 ?_)
  | (with_reducible refine elem_1 ?_)
  | refine Ends.mk ?_))
 all_goals (try refine Pr.mk ?_)
 all_goals first | (show SubE _ _; repeat' (first | exact trivial | refine And.intro ?_ ?_)) | (show SubB _ _; repeat' (first | exact trivial | refine And.intro ?_ ?_)) | skip
 all_goals (try rfl)
 all_goals first
  | exact zvar0
  | rfl
  | omega
  | (show _ ∧ _; constructor <;> omega)
  | (have z := rz_m a c (by omega) (by omega); omega)
  | (have z := rz_m a d (by omega) (by omega); omega)
  | (have z := rz_m b c (by omega) (by omega); omega)
  | (have z := rz_m b d (by omega) (by omega); omega)
  | ((conv => whnf); refine ⟨1, ⟨⟨rfl, rfl, rfl, rfl, rfl, rfl, k1, trivial⟩, ⟨rfl, zvar ?_, zvar ?_, trivial⟩, (show 1 ≤ 2 by decide), (show 2 - 1 < 2 - 0 by decide)⟩⟩ <;> simp only [floor_dn, up_dn, cmpI_lt0, cmpI_gt0, lw_01, hw_01, lw_02, hw_02, lw_20, hw_20, lw_21, hw_21, lw_22, hw_22] at * <;> omega)
  | ((conv => whnf); refine ⟨2, ⟨⟨rfl, rfl, rfl, rfl, rfl, rfl, k2, trivial⟩, ⟨rfl, zvar ?_, zvar ?_, trivial⟩, (show 2 ≤ 2 by decide), (show 2 - 2 < 2 - 1 by decide)⟩⟩ <;> simp only [floor_dn, up_dn, cmpI_lt0, cmpI_gt0, lw_01, hw_01, lw_02, hw_02, lw_20, hw_20, lw_21, hw_21, lw_22, hw_22] at * <;> omega)
  | skip
 all_goals first
  | ((conv => whnf); refine Sw.Loop.unroll ?_)
  | skip
 all_goals (repeat' ((try rw [w01]); (try rw [w11]); (try (conv => whnf)); first
  | refine call_0 ?_
  | refine call_i ?_ ?_
  | (with_reducible refine onB_t ?_)
  | (with_reducible refine onB_f ?_)
  | refine onB_yes (by simp only [List.length_cons, List.length_nil]; decide) ?_
  | refine onB_no (by simp only [List.length_cons, List.length_nil]; decide) ?_
  | refine onB_yes (by decide) ?_
  | refine onB_no (by decide) ?_
  | (with_reducible refine onB_d (fun _ => ?_) (fun _ => ?_))
  | (with_reducible refine onB_n (fun _ => ?_) (fun _ => ?_))
  | refine OnB.mk (fun _ => ?_) (fun _ => ?_)
  | refine obl_i ?_ ?_
  | refine Drw.mk (by kernel_rfl) ?_
  | refine mks_i ?_ ?_
  | refine slp_i ?_ ?_
  | (with_reducible refine elem_u ?_ ?_)
  | (with_reducible refine elem_0 ?_)
  | (with_reducible refine elem_1 ?_)
  | refine Ends.mk ?_))
 all_goals (try refine Pr.mk ?_)
 all_goals first | (show SubE _ _; repeat' (first | exact trivial | refine And.intro ?_ ?_)) | (show SubB _ _; repeat' (first | exact trivial | refine And.intro ?_ ?_)) | skip
 all_goals (try rfl)
 all_goals first
  | exact zvar0
  | rfl
  | omega
  | (show _ ∧ _; constructor <;> omega)
  | (have z := rz_m a c (by omega) (by omega); omega)
  | (have z := rz_m a d (by omega) (by omega); omega)
  | (have z := rz_m b c (by omega) (by omega); omega)
  | (have z := rz_m b d (by omega) (by omega); omega)
  | ((conv => whnf); refine ⟨1, ⟨⟨rfl, rfl, rfl, rfl, rfl, rfl, k1, trivial⟩, ⟨rfl, zvar ?_, zvar ?_, trivial⟩, (show 1 ≤ 2 by decide), (show 2 - 1 < 2 - 0 by decide)⟩⟩ <;> simp only [floor_dn, up_dn, cmpI_lt0, cmpI_gt0, lw_01, hw_01, lw_02, hw_02, lw_20, hw_20, lw_21, hw_21, lw_22, hw_22] at * <;> omega)
  | ((conv => whnf); refine ⟨2, ⟨⟨rfl, rfl, rfl, rfl, rfl, rfl, k2, trivial⟩, ⟨rfl, zvar ?_, zvar ?_, trivial⟩, (show 2 ≤ 2 by decide), (show 2 - 2 < 2 - 1 by decide)⟩⟩ <;> simp only [floor_dn, up_dn, cmpI_lt0, cmpI_gt0, lw_01, hw_01, lw_02, hw_02, lw_20, hw_20, lw_21, hw_21, lw_22, hw_22] at * <;> omega)
  | exact lw_hw a b c d
  | exact congrArg Ov (mul_lw a b c d)⟩

end Go.Proofs.Ytjhekoechimbnaa

namespace Go.Proofs.Ytjhekoechimbnaa
open Go Go.RowKit Go.Sw
set_option linter.unusedVariables false
set_option maxRecDepth 100000
set_option maxHeartbeats 8000000
instance f_root2 (a b c : Rat) : DenI Try.prog 32 [Q3 a b c] (rz a ≤ 100000 ∧ rz b ≤ 100000 ∧ rz c ≤ 100000) (Ov (rootI a b c)) := ⟨fun hp => by
 refine den_of (τ := tab) tab_ok mixed_ Try.func32 rfl (by kernel_rfl) (by kernel_rfl) (by kernel_rfl) ?_
 repeat' ((try (conv => whnf)); first
  | refine call_0 ?_
  | refine call_i ?_ ?_
  | (with_reducible refine onB_t ?_)
  | (with_reducible refine onB_f ?_)
  | (with_reducible refine onB_d (fun _ => ?_) (fun _ => ?_))
  | (with_reducible refine onB_n (fun _ => ?_) (fun _ => ?_))
  | refine OnB.mk (fun _ => ?_) (fun _ => ?_)
  | refine obl_i ?_ ?_
  | refine Drw.mk (by kernel_rfl) ?_
  | refine mks_i ?_ ?_
  | refine slp_i ?_ ?_
  | (with_reducible refine elem_u ?_ ?_)
  | (with_reducible refine elem_0 ?_)
  | (with_reducible refine elem_1 ?_)
  | refine Ends.mk ?_)
 all_goals (try refine Pr.mk ?_)
 all_goals (try simp only [Prod.eta] at *)
 all_goals first
  | omega
  | (have z1 := ivB_from a; have z2 := ivB_from b; have z3 := ivB_from c; have z4 := ivB_sqrt z3; have z5 := ivB_mul ((fromR b).getD (0, 0)) ((sqrtI ((fromR c).getD (0, 0))).getD (0, 0)); unfold ivB at *; omega)
  | refine ovN1 ?_
  | (show Ov (fromR a) = _; refine congrArg Ov ?_)
  | (show Ov (addI _ _) = _; refine congrArg Ov ?_)
 all_goals (unfold rootI; (try simp only [sgnR_lt0, sgnR_eq0] at *); rcases h1 : fromR a with _ | x <;> rcases h2 : fromR b with _ | y <;> rcases h3 : fromR c with _ | z <;> simp_all)
 all_goals (rcases h4 : sqrtI z with _ | s <;> simp_all)
 all_goals (rcases h5 : mulI y s with _ | p <;> simp_all)⟩

instance g_root2 (a b c : Rat) : DenI Try.prog 33 [Q3 a b c] (rz a ≤ 100000 ∧ rz b ≤ 100000 ∧ rz c ≤ 100000) (Ov (rootI a b c)) := ⟨fun hp => by
 refine den_of (τ := tab) tab_ok mixed_ Try.func33 rfl (by kernel_rfl) (by kernel_rfl) (by kernel_rfl) ?_
 repeat' ((try (conv => whnf)); first
  | refine call_0 ?_
  | refine call_i ?_ ?_
  | (with_reducible refine onB_t ?_)
  | (with_reducible refine onB_f ?_)
  | (with_reducible refine onB_d (fun _ => ?_) (fun _ => ?_))
  | (with_reducible refine onB_n (fun _ => ?_) (fun _ => ?_))
  | refine OnB.mk (fun _ => ?_) (fun _ => ?_)
  | refine obl_i ?_ ?_
  | refine Drw.mk (by kernel_rfl) ?_
  | refine mks_i ?_ ?_
  | refine slp_i ?_ ?_
  | (with_reducible refine elem_u ?_ ?_)
  | (with_reducible refine elem_0 ?_)
  | (with_reducible refine elem_1 ?_)
  | refine Ends.mk ?_)
 all_goals (try refine Pr.mk ?_)
 all_goals (try simp only [Prod.eta] at *)
 all_goals first
  | omega
  | (have z1 := ivB_from a; have z2 := ivB_from b; have z3 := ivB_from c; have z4 := ivB_sqrt z3; have z5 := ivB_mul ((fromR b).getD (0, 0)) ((sqrtI ((fromR c).getD (0, 0))).getD (0, 0)); unfold ivB at *; omega)
  | refine ovN1 ?_
  | (show Ov (fromR a) = _; refine congrArg Ov ?_)
  | (show Ov (addI _ _) = _; refine congrArg Ov ?_)
 all_goals (unfold rootI; (try simp only [sgnR_lt0, sgnR_eq0] at *); rcases h1 : fromR a with _ | x <;> rcases h2 : fromR b with _ | y <;> rcases h3 : fromR c with _ | z <;> simp_all)
 all_goals (rcases h4 : sqrtI z with _ | s <;> simp_all)
 all_goals (rcases h5 : mulI y s with _ | p <;> simp_all)⟩

end Go.Proofs.Ytjhekoechimbnaa
