/-
  What the functions filter.times, swarfref04.product, swarfref04.Sign, filter.Side, swarfref04.Side answer, each out of its text by the abstract run.
  What the filter's laws compute beside the filter: shares, parts, exact signs.
  What the functions swarflaw04.rat, swarflaw04.same, swarflaw04.of, swarflaw04.in, swarflaw04.within, swarflaw04.between, swarflaw04.part, swarflaw04.exact answer, each out of its text by the abstract run.
  The examples of the filter's laws.
  What the functions swarflaw04.awake answer, each out of its text by the abstract run.
  Lists of fractions with bounded parts.
  What the functions swarfref04.Valid answer, each out of its text by the abstract run.
  Plain laws of the filter's intervals.
  Parts of intervals lead to parts of the results.
  The sign of A + B sqrt C, out of its sign at two numbers around the root.
  A sign that the filter knows is the exact one.
  Conditions: none.
-/
import Derived.Test.YtjhekoechimbnaaM8
set_option linter.all false
namespace Go.Proofs.Ytjhekoechimbnaa
open Go Go.RowKit Go.Sw
set_option linter.unusedVariables false
set_option maxRecDepth 100000
set_option maxHeartbeats 8000000
theorem sdE {k : Int} {b : Bool} {p : Int × Bool} (e : (k, b) = p) : packA [AV.c (Cell.v (Value.int .i64 k)), AV.c (Cell.v (Value.bool b))] = AV.tup [AV.int .i64 p.1, AV.bool p.2] := by subst e; rfl
instance f_times (n : Rat) (o : Option (Int × Int)) : DenI Try.prog 66 [R n, Iv (o.getD (0, 0)).1 (o.getD (0, 0)).2, .bool o.isSome] (rz n ≤ 100000 ∧ ivB (o.getD (0, 0))) (Ov (prodI n o)) := ⟨fun hp => by
 refine den_of (τ := tab) tab_ok mixed_ Try.func66 rfl (by kernel_rfl) (by kernel_rfl) (by kernel_rfl) ?_
 repeat' ((try (conv => whnf)); first
  | refine call_0 ?_
  | refine call_i ?_ ?_
  | (with_reducible refine onB_t ?_)
  | (with_reducible refine onB_f ?_)
  | (with_reducible refine onB_d (fun _ => ?_) (fun _ => ?_))
  | (with_reducible refine onB_n (fun _ => ?_) (fun _ => ?_))
  | refine OnB.mk (fun _ => ?_) (fun _ => ?_)
  | refine obl_i ?_ ?_
  | refine Drw.mk (by kernel_rfl) ?_
  | refine mks_i ?_ ?_
  | refine slp_i ?_ ?_
  | (with_reducible refine elem_u ?_ ?_)
  | (with_reducible refine elem_0 ?_)
  | (with_reducible refine elem_1 ?_)
  | refine Ends.mk ?_)
 all_goals (try refine Pr.mk ?_)
 all_goals (try simp only [Prod.eta] at *)
 all_goals first
  | omega
  | (have z1 := ivB_from n; have z2 := hp.2; unfold ivB at *; omega)
  | refine ovN1 ?_
  | (show Ov (mulI _ _) = _; refine congrArg Ov ?_)
 all_goals (unfold prodI; (try generalize rootI a b c = o at *); rcases h1 : fromR n with _ | x <;> rcases o with _ | y <;> simp_all)⟩

instance g_product (n a b c : Rat) : DenI Try.prog 67 [R n, Q3 a b c] (rz n ≤ 100000 ∧ rz a ≤ 100000 ∧ rz b ≤ 100000 ∧ rz c ≤ 100000) (Ov (prodI n (rootI a b c))) := ⟨fun hp => by
 refine den_of (τ := tab) tab_ok mixed_ Try.func67 rfl (by kernel_rfl) (by kernel_rfl) (by kernel_rfl) ?_
 repeat' ((try (conv => whnf)); first
  | refine call_0 ?_
  | refine call_i ?_ ?_
  | (with_reducible refine onB_t ?_)
  | (with_reducible refine onB_f ?_)
  | (with_reducible refine onB_d (fun _ => ?_) (fun _ => ?_))
  | (with_reducible refine onB_n (fun _ => ?_) (fun _ => ?_))
  | refine OnB.mk (fun _ => ?_) (fun _ => ?_)
  | refine obl_i ?_ ?_
  | refine Drw.mk (by kernel_rfl) ?_
  | refine mks_i ?_ ?_
  | refine slp_i ?_ ?_
  | (with_reducible refine elem_u ?_ ?_)
  | (with_reducible refine elem_0 ?_)
  | (with_reducible refine elem_1 ?_)
  | refine Ends.mk ?_)
 all_goals (try refine Pr.mk ?_)
 all_goals (try simp only [Prod.eta] at *)
 all_goals first
  | omega
  | (have z1 := ivB_from n; have z2 := ivB_root a b c; unfold ivB at *; omega)
  | refine ovN1 ?_
  | (show Ov (mulI _ _) = _; refine congrArg Ov ?_)
 all_goals (unfold prodI; (try generalize rootI a b c = o at *); rcases h1 : fromR n with _ | x <;> rcases o with _ | y <;> simp_all)⟩

instance g_sign (l h : Int) : DenI Try.prog 36 [Iv l h] (True) (.tup [.int .i64 (sgIv l h).1, .bool (sgIv l h).2]) := ⟨fun hp => by
 refine den_of (τ := tab) tab_ok mixed_ Try.func36 rfl (by kernel_rfl) (by kernel_rfl) (by kernel_rfl) ?_
 repeat' ((try (conv => whnf)); first
  | refine call_0 ?_
  | refine call_i ?_ ?_
  | (with_reducible refine onB_t ?_)
  | (with_reducible refine onB_f ?_)
  | (with_reducible refine onB_d (fun _ => ?_) (fun _ => ?_))
  | (with_reducible refine onB_n (fun _ => ?_) (fun _ => ?_))
  | refine OnB.mk (fun _ => ?_) (fun _ => ?_)
  | refine obl_i ?_ ?_
  | refine Drw.mk (by kernel_rfl) ?_
  | refine mks_i ?_ ?_
  | refine slp_i ?_ ?_
  | (with_reducible refine elem_u ?_ ?_)
  | (with_reducible refine elem_0 ?_)
  | (with_reducible refine elem_1 ?_)
  | refine Ends.mk ?_)
 all_goals (try refine Pr.mk ?_)
 all_goals (refine ibE ?_ ?_ <;> unfold sgIv <;> (repeat' split) <;> simp_all <;> omega)⟩

instance f_side (la lb lc ax bx ay bb c : Rat) : DenI Try.prog 37 [Q3 la lb lc, Q5 ax bx ay bb c] (rz la ≤ 100000 ∧ rz lb ≤ 100000 ∧ rz lc ≤ 100000 ∧ rz ax ≤ 100000 ∧ rz bx ≤ 100000 ∧ rz ay ≤ 100000 ∧ rz bb ≤ 100000 ∧ rz c ≤ 100000) (.tup [.int .i64 (sideI la lb lc ax bx ay bb c).1, .bool (sideI la lb lc ax bx ay bb c).2]) := ⟨fun hp => by
 refine den_of (τ := tab) tab_ok mixed_ Try.func37 rfl (by kernel_rfl) (by kernel_rfl) (by kernel_rfl) ?_
 repeat' ((try (conv => whnf)); first
  | refine call_0 ?_
  | refine call_i ?_ ?_
  | (with_reducible refine onB_t ?_)
  | (with_reducible refine onB_f ?_)
  | (with_reducible refine onB_d (fun _ => ?_) (fun _ => ?_))
  | (with_reducible refine onB_n (fun _ => ?_) (fun _ => ?_))
  | refine OnB.mk (fun _ => ?_) (fun _ => ?_)
  | refine obl_i ?_ ?_
  | refine Drw.mk (by kernel_rfl) ?_
  | refine mks_i ?_ ?_
  | refine slp_i ?_ ?_
  | (with_reducible refine elem_u ?_ ?_)
  | (with_reducible refine elem_0 ?_)
  | (with_reducible refine elem_1 ?_)
  | refine Ends.mk ?_)
 all_goals (try refine Pr.mk ?_)
 all_goals (try simp only [Prod.eta] at *)
 all_goals first
  | omega
  | (have z1 := ivB_prod la (rootI ax bx c); have z2 := ivB_prod lb (rootI ay bb c); have z3 := ivB_from lc; have z4 := ivB_add z1 z2; have z5 := ivB_root ax bx c; have z6 := ivB_root ay bb c; unfold ivB at *; omega)
  | refine sdE ?_
 all_goals (unfold sideI; generalize prodI la (rootI ax bx c) = o1 at *; generalize prodI lb (rootI ay bb c) = o2 at *; generalize fromR lc = o3 at *; rcases o1 with _ | x <;> rcases o2 with _ | y <;> rcases o3 with _ | z <;> simp_all)
 all_goals (rcases h4 : addI x y with _ | s <;> simp_all)
 all_goals (rcases h5 : addI s (-z.2, -z.1) with _ | t <;> simp_all)⟩

instance g_side (la lb lc ax bx ay bb c : Rat) : DenI Try.prog 38 [Q3 la lb lc, Q5 ax bx ay bb c] (rz la ≤ 100000 ∧ rz lb ≤ 100000 ∧ rz lc ≤ 100000 ∧ rz ax ≤ 100000 ∧ rz bx ≤ 100000 ∧ rz ay ≤ 100000 ∧ rz bb ≤ 100000 ∧ rz c ≤ 100000) (.tup [.int .i64 (sideI la lb lc ax bx ay bb c).1, .bool (sideI la lb lc ax bx ay bb c).2]) := ⟨fun hp => by
 refine den_of (τ := tab) tab_ok mixed_ Try.func38 rfl (by kernel_rfl) (by kernel_rfl) (by kernel_rfl) ?_
 repeat' ((try (conv => whnf)); first
  | refine call_0 ?_
  | refine call_i ?_ ?_
  | (with_reducible refine onB_t ?_)
  | (with_reducible refine onB_f ?_)
  | (with_reducible refine onB_d (fun _ => ?_) (fun _ => ?_))
  | (with_reducible refine onB_n (fun _ => ?_) (fun _ => ?_))
  | refine OnB.mk (fun _ => ?_) (fun _ => ?_)
  | refine obl_i ?_ ?_
  | refine Drw.mk (by kernel_rfl) ?_
  | refine mks_i ?_ ?_
  | refine slp_i ?_ ?_
  | (with_reducible refine elem_u ?_ ?_)
  | (with_reducible refine elem_0 ?_)
  | (with_reducible refine elem_1 ?_)
  | refine Ends.mk ?_)
 all_goals (try refine Pr.mk ?_)
 all_goals (try simp only [Prod.eta] at *)
 all_goals first
  | omega
  | (have z1 := ivB_prod la (rootI ax bx c); have z2 := ivB_prod lb (rootI ay bb c); have z3 := ivB_from lc; have z4 := ivB_add z1 z2; have z5 := ivB_root ax bx c; have z6 := ivB_root ay bb c; unfold ivB at *; omega)
  | refine sdE ?_
 all_goals (unfold sideI; generalize prodI la (rootI ax bx c) = o1 at *; generalize prodI lb (rootI ay bb c) = o2 at *; generalize fromR lc = o3 at *; rcases o1 with _ | x <;> rcases o2 with _ | y <;> rcases o3 with _ | z <;> simp_all)
 all_goals (rcases h4 : addI x y with _ | s <;> simp_all)
 all_goals (rcases h5 : addI s (-z.2, -z.1) with _ | t <;> simp_all)⟩

end Go.Proofs.Ytjhekoechimbnaa

namespace Go.Sw
open Go
set_option linter.unusedVariables false
theorem sgnR_lim (a : Rat) : -1 ≤ sgnR a ∧ sgnR a ≤ 1 := by unfold sgnR; split <;> (try split) <;> omega
theorem cmpR_lim (a b : Rat) : -1 ≤ cmpR a b ∧ cmpR a b ≤ 1 := by unfold cmpR; split <;> (try split) <;> omega
theorem one_mul_lim {x y : Int} (h1 : -1 ≤ x ∧ x ≤ 1) (h2 : -1 ≤ y ∧ y ≤ 1) : -1 ≤ x * y ∧ x * y ≤ 1 := by
  have a : x = -1 ∨ x = 0 ∨ x = 1 := by omega
  rcases a with rfl | rfl | rfl <;> omega
theorem w_ss (a b : Rat) : IntKind.i64.wrap (sgnR a * sgnR b) = sgnR a * sgnR b := by
  have := one_mul_lim (sgnR_lim a) (sgnR_lim b)
  exact wi64 (by omega) (by omega)
theorem w_sc (a b c : Rat) : IntKind.i64.wrap (sgnR a * cmpR b c) = sgnR a * cmpR b c := by
  have := one_mul_lim (sgnR_lim a) (cmpR_lim b c)
  exact wi64 (by omega) (by omega)
/-- The sign of a + b sqrt c. -/
def exI (a b c : Rat) : Int :=
  if sgnR a = sgnR b * sgnR c ∨ sgnR b * sgnR c = 0 then sgnR a
  else if sgnR a = 0 then sgnR b * sgnR c
  else sgnR a * cmpR (a * a) (b * b * c)
theorem ex_4 {a b c : Rat} (g1 : ¬sgnR a = sgnR b * sgnR c) (g2 : ¬sgnR b * sgnR c = 0) (g3 : ¬sgnR a = 0) : exI a b c = sgnR a * cmpR (a * a) (b * b * c) := by
  unfold exI; rw [if_neg (fun h => h.elim g1 g2), if_neg g3]
def btwR (l h : Int) (s : Nat) : Rat := ((l : Rat) + ((h : Rat) - (l : Rat)) * (((s : Int) : Rat) / ((255 : Int) : Rat))) * (((1 : Int) : Rat) / ((65536 : Int) : Rat))
def inR (l h : Int) (x : Rat) : Bool := decide ((l : Rat) ≤ x * ((65536 : Int) : Rat)) && decide (x * ((65536 : Int) : Rat) ≤ (h : Rat))
def partI (l h : Int) (u v : Nat) : Int × Int := if (u : Int) + v > h - l then (l, h) else (l + u, h - v)
theorem rz_i (n : Int) (h1 : -9223372036854775808 ≤ n) (h2 : n ≤ 9223372036854775807) : rz (n : Rat) ≤ 4 := by
  have := rz_int n; have := sz_64 h1 h2; omega
theorem rz_q (n d : Int) (h0 : d ≠ 0) (h1 : -9223372036854775808 ≤ n ∧ n ≤ 9223372036854775807) (h2 : -9223372036854775808 ≤ d ∧ d ≤ 9223372036854775807) : rz ((n : Rat) / (d : Rat)) ≤ 6 := by
  have := rz_red (n := n) h0; have := sz_64 h1.1 h1.2; have := sz_64 h2.1 h2.2; omega
theorem rz_b (l h : Int) (s : Nat) (hl : -2305843009213693952 ≤ l ∧ l ≤ 2305843009213693952) (hh : -2305843009213693952 ≤ h ∧ h ≤ 2305843009213693952) (hs : s < 256) :
    rz (l : Rat) ≤ 4 ∧ rz (h : Rat) ≤ 4 ∧ rz (((s : Int) : Rat) / ((255 : Int) : Rat)) ≤ 6 ∧ rz (((1 : Int) : Rat) / ((65536 : Int) : Rat)) ≤ 6 ∧ rz ((h : Rat) - (l : Rat)) ≤ 17 ∧
    rz (((h : Rat) - (l : Rat)) * (((s : Int) : Rat) / ((255 : Int) : Rat))) ≤ 23 ∧ rz ((l : Rat) + ((h : Rat) - (l : Rat)) * (((s : Int) : Rat) / ((255 : Int) : Rat))) ≤ 55 ∧ rz (btwR l h s) ≤ 61 := by
  have z1 := rz_i l (by omega) (by omega)
  have z2 := rz_i h (by omega) (by omega)
  have z3 := rz_q s 255 (by decide) ⟨by omega, by omega⟩ ⟨by omega, by omega⟩
  have z4 := rz_q 1 65536 (by decide) ⟨by omega, by omega⟩ ⟨by omega, by omega⟩
  have z5 := rz_sub (h : Rat) (l : Rat)
  have z6 := rz_mul ((h : Rat) - (l : Rat)) (((s : Int) : Rat) / ((255 : Int) : Rat))
  have z7 := rz_add (l : Rat) (((h : Rat) - (l : Rat)) * (((s : Int) : Rat) / ((255 : Int) : Rat)))
  have z8 := rz_mul ((l : Rat) + ((h : Rat) - (l : Rat)) * (((s : Int) : Rat) / ((255 : Int) : Rat))) (((1 : Int) : Rat) / ((65536 : Int) : Rat))
  unfold btwR
  omega
theorem ivE {a b : Int} {p : Int × Int} (e : (a, b) = p) : packA [AV.agg [Cell.v (Value.int .i64 a), Cell.v (Value.int .i64 b)]] = Iv p.1 p.2 := by subst e; rfl
end Go.Sw

namespace Go.Proofs.Ytjhekoechimbnaa
open Go Go.RowKit Go.Sw
set_option linter.unusedVariables false
set_option maxRecDepth 100000
set_option maxHeartbeats 8000000
instance l_rat (n : Int) : DenI Try.prog 30 [.int .i64 n] (-9223372036854775808 ≤ n ∧ n ≤ 9223372036854775807) (R (n : Rat)) := ⟨fun hp => by
 refine den_of (τ := tab) tab_ok mixed_ Try.func30 rfl (by kernel_rfl) (by kernel_rfl) (by kernel_rfl) ?_
 repeat' ((try (conv => whnf)); first
  | refine call_0 ?_
  | refine call_i ?_ ?_
  | (with_reducible refine onB_t ?_)
  | (with_reducible refine onB_f ?_)
  | (with_reducible refine onB_d (fun _ => ?_) (fun _ => ?_))
  | (with_reducible refine onB_n (fun _ => ?_) (fun _ => ?_))
  | refine OnB.mk (fun _ => ?_) (fun _ => ?_)
  | refine obl_i ?_ ?_
  | refine Drw.mk (by kernel_rfl) ?_
  | refine mks_i ?_ ?_
  | refine slp_i ?_ ?_
  | (with_reducible refine elem_u ?_ ?_)
  | (with_reducible refine elem_0 ?_)
  | (with_reducible refine elem_1 ?_)
  | refine Ends.mk ?_)
 all_goals (try refine Pr.mk ?_)
 all_goals first | rfl | exact hp⟩

instance l_same (a b c d : Int) (p q : Bool) : DenI Try.prog 15 [Iv a b, .bool p, Iv c d, .bool q] (True) (.bool ((p == q) && (decide (a = c) && decide (b = d)))) := ⟨fun hp => by
 refine den_of (τ := tab) tab_ok mixed_ Try.func15 rfl (by kernel_rfl) (by kernel_rfl) (by kernel_rfl) ?_
 repeat' ((try (conv => whnf)); first
  | refine call_0 ?_
  | refine call_i ?_ ?_
  | (with_reducible refine onB_t ?_)
  | (with_reducible refine onB_f ?_)
  | (with_reducible refine onB_d (fun _ => ?_) (fun _ => ?_))
  | (with_reducible refine onB_n (fun _ => ?_) (fun _ => ?_))
  | refine OnB.mk (fun _ => ?_) (fun _ => ?_)
  | refine obl_i ?_ ?_
  | refine Drw.mk (by kernel_rfl) ?_
  | refine mks_i ?_ ?_
  | refine slp_i ?_ ?_
  | (with_reducible refine elem_u ?_ ?_)
  | (with_reducible refine elem_0 ?_)
  | (with_reducible refine elem_1 ?_)
  | refine Ends.mk ?_)
 all_goals (try refine Pr.mk ?_)
 all_goals (refine bE ?_; simp_all)⟩

instance l_of (a b : Int) : DenI Try.prog 19 [Iv a b] (True) (Iv a b) := ⟨fun hp => by
 refine den_of (τ := tab) tab_ok mixed_ Try.func19 rfl (by kernel_rfl) (by kernel_rfl) (by kernel_rfl) ?_
 repeat' ((try (conv => whnf)); first
  | refine call_0 ?_
  | refine call_i ?_ ?_
  | (with_reducible refine onB_t ?_)
  | (with_reducible refine onB_f ?_)
  | (with_reducible refine onB_d (fun _ => ?_) (fun _ => ?_))
  | (with_reducible refine onB_n (fun _ => ?_) (fun _ => ?_))
  | refine OnB.mk (fun _ => ?_) (fun _ => ?_)
  | refine obl_i ?_ ?_
  | refine Drw.mk (by kernel_rfl) ?_
  | refine mks_i ?_ ?_
  | refine slp_i ?_ ?_
  | (with_reducible refine elem_u ?_ ?_)
  | (with_reducible refine elem_0 ?_)
  | (with_reducible refine elem_1 ?_)
  | refine Ends.mk ?_)
 all_goals (try refine Pr.mk ?_)
 rfl⟩

instance l_in (l h : Int) (x : Rat) : DenI Try.prog 16 [Iv l h, R x] (-2305843009213693952 ≤ l ∧ l ≤ 2305843009213693952 ∧ -2305843009213693952 ≤ h ∧ h ≤ 2305843009213693952 ∧ rz x ≤ 100000) (.bool (inR l h x)) := ⟨fun hp => by
 refine den_of (τ := tab) tab_ok mixed_ Try.func16 rfl (by kernel_rfl) (by kernel_rfl) (by kernel_rfl) ?_
 repeat' ((try (conv => whnf)); first
  | refine call_0 ?_
  | refine call_i ?_ ?_
  | (with_reducible refine onB_t ?_)
  | (with_reducible refine onB_f ?_)
  | (with_reducible refine onB_d (fun _ => ?_) (fun _ => ?_))
  | (with_reducible refine onB_n (fun _ => ?_) (fun _ => ?_))
  | refine OnB.mk (fun _ => ?_) (fun _ => ?_)
  | refine obl_i ?_ ?_
  | refine Drw.mk (by kernel_rfl) ?_
  | refine mks_i ?_ ?_
  | refine slp_i ?_ ?_
  | (with_reducible refine elem_u ?_ ?_)
  | (with_reducible refine elem_0 ?_)
  | (with_reducible refine elem_1 ?_)
  | refine Ends.mk ?_)
 all_goals (try refine Pr.mk ?_)
 all_goals first
  | (refine bE ?_; unfold inR; simp_all [cmpR_le0]; done)
  | omega
  | (have z1 := rz_i l (by omega) (by omega); have z2 := rz_i h (by omega) (by omega); have z3 := rz_k; have z4 := rz_mul x ((65536 : Int) : Rat); omega)⟩

instance l_within (a b c d : Int) : DenI Try.prog 42 [Iv a b, Iv c d] (True) (.bool (decide (c ≤ a) && decide (b ≤ d))) := ⟨fun hp => by
 refine den_of (τ := tab) tab_ok mixed_ Try.func42 rfl (by kernel_rfl) (by kernel_rfl) (by kernel_rfl) ?_
 repeat' ((try (conv => whnf)); first
  | refine call_0 ?_
  | refine call_i ?_ ?_
  | (with_reducible refine onB_t ?_)
  | (with_reducible refine onB_f ?_)
  | (with_reducible refine onB_d (fun _ => ?_) (fun _ => ?_))
  | (with_reducible refine onB_n (fun _ => ?_) (fun _ => ?_))
  | refine OnB.mk (fun _ => ?_) (fun _ => ?_)
  | refine obl_i ?_ ?_
  | refine Drw.mk (by kernel_rfl) ?_
  | refine mks_i ?_ ?_
  | refine slp_i ?_ ?_
  | (with_reducible refine elem_u ?_ ?_)
  | (with_reducible refine elem_0 ?_)
  | (with_reducible refine elem_1 ?_)
  | refine Ends.mk ?_)
 all_goals (try refine Pr.mk ?_)
 all_goals (refine bE ?_; simp_all <;> omega)⟩

instance l_btw (l h : Int) (s : Nat) : DenI Try.prog 26 [Iv l h, .int .u8 s] (-2305843009213693952 ≤ l ∧ l ≤ 2305843009213693952 ∧ -2305843009213693952 ≤ h ∧ h ≤ 2305843009213693952 ∧ s < 256) (R (btwR l h s)) := ⟨fun hp => by
 refine den_of (τ := tab) tab_ok mixed_ Try.func26 rfl (by kernel_rfl) (by kernel_rfl) (by kernel_rfl) ?_
 repeat' ((try (conv => whnf)); first
  | refine call_0 ?_
  | refine call_i ?_ ?_
  | (with_reducible refine onB_t ?_)
  | (with_reducible refine onB_f ?_)
  | (with_reducible refine onB_d (fun _ => ?_) (fun _ => ?_))
  | (with_reducible refine onB_n (fun _ => ?_) (fun _ => ?_))
  | refine OnB.mk (fun _ => ?_) (fun _ => ?_)
  | refine obl_i ?_ ?_
  | refine Drw.mk (by kernel_rfl) ?_
  | refine mks_i ?_ ?_
  | refine slp_i ?_ ?_
  | (with_reducible refine elem_u ?_ ?_)
  | (with_reducible refine elem_0 ?_)
  | (with_reducible refine elem_1 ?_)
  | refine Ends.mk ?_)
 all_goals (try refine Pr.mk ?_)
 all_goals (have hs : IntKind.i64.wrap ((s : Nat) : Int) = s := wi64 (by omega) (by omega); (try rw [hs]))
 all_goals first
  | rfl
  | omega
  | (have z := rz_b l h s (by omega) (by omega) (by omega); omega)⟩

instance l_part (l h : Int) (u v : Nat) : DenI Try.prog 41 [Iv l h, .int .u32 u, .int .u32 v] (-2305843009213693952 ≤ l ∧ l ≤ 2305843009213693952 ∧ -2305843009213693952 ≤ h ∧ h ≤ 2305843009213693952 ∧ u < 4294967296 ∧ v < 4294967296) (Iv (partI l h u v).1 (partI l h u v).2) := ⟨fun hp => by
 refine den_of (τ := tab) tab_ok mixed_ Try.func41 rfl (by kernel_rfl) (by kernel_rfl) (by kernel_rfl) ?_
 repeat' ((try (conv => whnf)); first
  | refine call_0 ?_
  | refine call_i ?_ ?_
  | (with_reducible refine onB_t ?_)
  | (with_reducible refine onB_f ?_)
  | (with_reducible refine onB_d (fun _ => ?_) (fun _ => ?_))
  | (with_reducible refine onB_n (fun _ => ?_) (fun _ => ?_))
  | refine OnB.mk (fun _ => ?_) (fun _ => ?_)
  | refine obl_i ?_ ?_
  | refine Drw.mk (by kernel_rfl) ?_
  | refine mks_i ?_ ?_
  | refine slp_i ?_ ?_
  | (with_reducible refine elem_u ?_ ?_)
  | (with_reducible refine elem_0 ?_)
  | (with_reducible refine elem_1 ?_)
  | refine Ends.mk ?_)
 all_goals (try refine Pr.mk ?_)
 all_goals (have hu : IntKind.i64.wrap ((u : Nat) : Int) = u := wi64 (by omega) (by omega); have hv : IntKind.i64.wrap ((v : Nat) : Int) = v := wi64 (by omega) (by omega); have hw : IntKind.i64.wrap ((u : Int) + v) = u + v := wi64 (by omega) (by omega); (try simp only [hu, hv, hw, cmpI_gt0] at *))
 all_goals first
  | omega
  | (have z1 := szl l (by omega) (by omega); have z2 := szl h (by omega) (by omega); omega)
  | (rename_i g; refine ivE ?_; exact (if_pos g).symm)
  | (rename_i g; rw [wi64 (by omega) (by omega), wi64 (by omega) (by omega)]; refine ivE ?_; exact (if_neg g).symm)⟩

instance l_exact (a b c : Rat) : DenI Try.prog 35 [Q3 a b c] (rz a ≤ 100000 ∧ rz b ≤ 100000 ∧ rz c ≤ 100000) (.int .i64 (exI a b c)) := ⟨fun hp => by
 refine den_of (τ := tab) tab_ok mixed_ Try.func35 rfl (by kernel_rfl) (by kernel_rfl) (by kernel_rfl) ?_
 repeat' ((try (conv => whnf)); first
  | refine call_0 ?_
  | refine call_i ?_ ?_
  | (with_reducible refine onB_t ?_)
  | (with_reducible refine onB_f ?_)
  | (with_reducible refine onB_d (fun _ => ?_) (fun _ => ?_))
  | (with_reducible refine onB_n (fun _ => ?_) (fun _ => ?_))
  | refine OnB.mk (fun _ => ?_) (fun _ => ?_)
  | refine obl_i ?_ ?_
  | refine Drw.mk (by kernel_rfl) ?_
  | refine mks_i ?_ ?_
  | refine slp_i ?_ ?_
  | (with_reducible refine elem_u ?_ ?_)
  | (with_reducible refine elem_0 ?_)
  | (with_reducible refine elem_1 ?_)
  | refine Ends.mk ?_)
 all_goals (try refine Pr.mk ?_)
 all_goals (try simp only [w_ss, w_sc] at *)
 all_goals first
  | (refine iE ?_; unfold exI; simp_all; done)
  | (rename_i g1 g2 g3; refine iE ?_; exact (ex_4 g2 g3 g1).symm)
  | (have z1 := rz_mul b b; have z2 := rz_mul (b * b) c; have z3 := rz_mul a a; omega)⟩

end Go.Proofs.Ytjhekoechimbnaa

namespace Go.Sw
open Go
set_option linter.unusedVariables false
theorem aw_rt : rt 131072 = 92681 := by
  have h : 92681 = isq (131072 * 65536 : Int).natAbs := isq_uniq (by decide) (by decide)
  unfold rt
  rw [← h]
  rfl
theorem aw_sq : sqrtI (131072, 131072) = some (92681, 92682) := by
  have e : max (131072 : Int) 0 = 131072 := by decide
  unfold sqrtI rtU
  simp only [e, aw_rt]
  decide
theorem aw_1 : fromR (((1 : Int) : Rat) / ((3 : Int) : Rat)) = some (21845, 21846) := by decide +kernel
theorem fr_0 : fromR ((0 : Int) : Rat) = some (0, 0) := by decide +kernel
theorem fr_1 : fromR ((1 : Int) : Rat) = some (65536, 65536) := by decide +kernel
theorem fr_m : fromR ((-1 : Int) : Rat) = some (-65536, -65536) := by decide +kernel
theorem fr_2 : fromR ((2 : Int) : Rat) = some (131072, 131072) := by decide +kernel
theorem aw_r : rootI ((1 : Int) : Rat) ((-1 : Int) : Rat) ((2 : Int) : Rat) = some (-27146, -27145) := by
  unfold rootI; rw [fr_1, fr_m, fr_2]; simp only [aw_sq]; decide +kernel
theorem aw_r1 : rootI ((0 : Int) : Rat) ((1 : Int) : Rat) ((2 : Int) : Rat) = some (92681, 92682) := by
  unfold rootI; rw [fr_0, fr_1, fr_2]; simp only [aw_sq]; decide +kernel
theorem aw_r2 : rootI ((0 : Int) : Rat) ((0 : Int) : Rat) ((2 : Int) : Rat) = some (0, 0) := by
  unfold rootI; rw [fr_0]; simp only; rw [if_pos (by decide +kernel)]
theorem fr_99 : fromR ((99 : Int) : Rat) = some (6488064, 6488064) := by decide +kernel
theorem fr_140 : fromR ((140 : Int) : Rat) = some (9175040, 9175040) := by decide +kernel
theorem fr_47 : fromR ((470832 : Int) : Rat) = some (30856445952, 30856445952) := by decide +kernel
theorem fr_66 : fromR ((665857 : Int) : Rat) = some (43637604352, 43637604352) := by decide +kernel
theorem mu_0 : mulI (0, 0) (0, 0) = some (0, 0) := by decide
theorem mu_1 : mulI (6488064, 6488064) (92681, 92682) = some (9175419, 9175518) := by decide
theorem mu_2 : mulI (30856445952, 30856445952) (92681, 92682) = some (43637180592, 43637651424) := by decide
theorem ad_1 : addI (9175419, 9175518) (0, 0) = some (9175419, 9175518) := by decide
theorem ad_2 : addI (43637180592, 43637651424) (0, 0) = some (43637180592, 43637651424) := by decide
theorem ae_1 : addI (9175419, 9175518) (-9175040, -9175040) = some (379, 478) := by decide
theorem ae_2 : addI (43637180592, 43637651424) (-43637604352, -43637604352) = some (-423760, 47072) := by decide
theorem side_of {la lb lc ax bx ay bb c : Rat} {r1 r2 x y z p q s t : Int × Int} (h1 : rootI ax bx c = some r1) (h2 : rootI ay bb c = some r2) (h3 : fromR la = some x) (h4 : fromR lb = some y) (h5 : fromR lc = some z)
    (h6 : mulI x r1 = some p) (h7 : mulI y r2 = some q) (h8 : addI p q = some s) (h9 : addI s (-z.2, -z.1) = some t) : sideI la lb lc ax bx ay bb c = sgIv t.1 t.2 := by
  unfold sideI prodI
  rw [h1, h2, h3, h4, h5]
  simp only [h6, h7, h8, h9]
theorem aw_s1 : sideI ((99 : Int) : Rat) ((0 : Int) : Rat) ((140 : Int) : Rat) ((0 : Int) : Rat) ((1 : Int) : Rat) ((0 : Int) : Rat) ((0 : Int) : Rat) ((2 : Int) : Rat) = (1, true) :=
  (side_of aw_r1 aw_r2 fr_99 fr_0 fr_140 mu_1 mu_0 ad_1 ae_1).trans (by decide)
theorem aw_s2 : sideI ((470832 : Int) : Rat) ((0 : Int) : Rat) ((665857 : Int) : Rat) ((0 : Int) : Rat) ((1 : Int) : Rat) ((0 : Int) : Rat) ((0 : Int) : Rat) ((2 : Int) : Rat) = (0, false) :=
  (side_of aw_r1 aw_r2 fr_47 fr_0 fr_66 mu_2 mu_0 ad_2 ae_2).trans (by decide)
theorem sg_r : sgIv (-27146) (-27145) = (-1, true) := by decide
theorem sg_n : sgIv (-1) 0 = (0, false) := by decide
end Go.Sw

namespace Go.Proofs.Ytjhekoechimbnaa
open Go Go.RowKit Go.Sw
set_option linter.unusedVariables false
set_option maxRecDepth 100000
set_option maxHeartbeats 8000000
instance l_awake  : DenI Try.prog 11 [] (True) (.bool true) := ⟨fun hp => by
 refine den_of (τ := tab) tab_ok mixed_ Try.func11 rfl (by kernel_rfl) (by kernel_rfl) (by kernel_rfl) ?_
 repeat' ((try (conv => whnf)); first
  | refine call_0 ?_
  | refine call_i ?_ ?_
  | (with_reducible refine onB_t ?_)
  | (with_reducible refine onB_f ?_)
  | (with_reducible refine onB_d (fun _ => ?_) (fun _ => ?_))
  | (with_reducible refine onB_n (fun _ => ?_) (fun _ => ?_))
  | refine OnB.mk (fun _ => ?_) (fun _ => ?_)
  | refine obl_i ?_ ?_
  | refine Drw.mk (by kernel_rfl) ?_
  | refine mks_i ?_ ?_
  | refine slp_i ?_ ?_
  | (with_reducible refine elem_u ?_ ?_)
  | (with_reducible refine elem_0 ?_)
  | (with_reducible refine elem_1 ?_)
  | refine Ends.mk ?_)
 all_goals (try refine Pr.mk ?_)
 all_goals (try simp only [aw_1, aw_sq, aw_r, aw_s1, aw_s2, sg_r, sg_n, Option.getD_some, Option.isSome_some] at *)
 all_goals first
  | rfl
  | (exfalso; clear hp; simp at *; done)
  | (exfalso; simp_all; done)
  | decide
  | ((repeat' apply And.intro) <;> first | omega | exact Nat.le_trans (rz_i _ (by omega) (by omega)) (by decide))
  | exact Nat.le_trans (rz_q 1 3 (by decide) ⟨by omega, by omega⟩ ⟨by omega, by omega⟩) (by decide)⟩

end Go.Proofs.Ytjhekoechimbnaa

namespace Go.Sw
open Go
set_option linter.unusedVariables false
abbrev RawR := Bool × List Nat × Bool × List Nat
@[reducible] def rc (r : RawR) : List Cell := [.v (.bool r.1), lmc r.2.1, .v (.bool r.2.2.1), lmc r.2.2.2]
def rd0 : RawR := (false, [], false, [])
def okr (k : Int) (r : RawR) : Bool := decide ((r.2.1.length : Int) ≤ k) && (decide ((r.2.2.2.length : Int) ≤ k) && validR r.1 r.2.1 r.2.2.1 r.2.2.2)
theorem getD_mem {L : List RawR} {x : Nat} (hx : x < L.length) : L.getD x rd0 ∈ L := by
  simp [List.getD, hx]
theorem all_bad {L : List RawR} {k : Int} {x : Nat} (hx : x < L.length) (h : okr k (L.getD x rd0) = false) : false = L.all (okr k) := by
  symm
  rw [List.all_eq_false]
  exact ⟨_, getD_mem hx, by rw [h]; exact Bool.false_ne_true⟩
theorem all_end {L : List RawR} {k : Int} {x : Nat} (hx : x ≤ L.length ∧ ∀ j, j < x → okr k (L.getD j rd0) = true) (h : ¬((x : Nat) : Int) < L.length) : true = L.all (okr k) := by
  symm
  rw [List.all_eq_true]
  intro r hr
  obtain ⟨j, hj, rfl⟩ := List.getElem_of_mem hr
  have := hx.2 j (by omega)
  simpa [List.getD, hj] using this
theorem okr_1 {k : Int} {r : RawR} (h : (r.2.1.length : Int) > k) : okr k r = false := by
  unfold okr; rw [decide_eq_false (by omega)]; rfl
theorem okr_2 {k : Int} {r : RawR} (h : (r.2.2.2.length : Int) > k) : okr k r = false := by
  unfold okr; rw [decide_eq_false (p := (r.2.2.2.length : Int) ≤ k) (by omega)]; simp
theorem okr_3 {k : Int} {r : RawR} (h : (!validR r.1 r.2.1 r.2.2.1 r.2.2.2) = true) : okr k r = false := by
  unfold okr; simp at h; simp [h]
theorem okr_yes {k : Int} {r : RawR} (h1 : ¬(r.2.1.length : Int) > k) (h2 : ¬(r.2.2.2.length : Int) > k) (h3 : (!validR r.1 r.2.1 r.2.2.1 r.2.2.2) = false) : okr k r = true := by
  unfold okr; simp at h3; simp [h3]; omega
end Go.Sw

namespace Go.Proofs.Ytjhekoechimbnaa
open Go Go.RowKit Go.Sw
set_option linter.unusedVariables false
set_option maxRecDepth 100000
set_option maxHeartbeats 8000000
instance g_valid (L : List RawR) (n : Int) : DenI Try.prog 12 [.c (.sl 4 (L.map rc)), .int .i64 n] (L.length ≤ 1000 ∧ n ≤ 1000) (.bool (L.all (okr n))) := ⟨fun hp => by
 refine den_of (τ := tab) tab_ok mixed_ Try.func12 rfl (by kernel_rfl) (by kernel_rfl) (by kernel_rfl) ?_
 repeat' ((try (conv => whnf)); first
  | refine call_0 ?_
  | refine call_i ?_ ?_
  | (with_reducible refine onB_t ?_)
  | (with_reducible refine onB_f ?_)
  | (with_reducible refine onB_d (fun _ => ?_) (fun _ => ?_))
  | (with_reducible refine onB_n (fun _ => ?_) (fun _ => ?_))
  | refine OnB.mk (fun _ => ?_) (fun _ => ?_)
  | refine obl_i ?_ ?_
  | refine Drw.mk (by kernel_rfl) ?_
  | refine mks_i ?_ ?_
  | refine slp_i ?_ ?_
  | (with_reducible refine elem_u ?_ ?_)
  | (with_reducible refine elem_0 ?_)
  | (with_reducible refine elem_1 ?_)
  | refine Ends.mk ?_)
 all_goals (try refine Pr.mk ?_)
 all_goals first
  | ((conv => whnf); refine Sw.Loop.inv (α := Nat) (fun x => [(0, .c (.sl 4 (L.map rc))), (1, .int .i64 n), (4, .bool false), (5, .int .i64 x)]) (fun x => []) (fun x => x ≤ L.length ∧ ∀ j, j < x → okr n (L.getD j rd0) = true) (fun x => L.length - x) 0 ?_ ?_ ?_ (fun x hx => ?_))
  | skip
 all_goals (repeat' ((try (conv => whnf)); first
  | refine call_0 ?_
  | refine call_i ?_ ?_
  | (with_reducible refine onB_t ?_)
  | (with_reducible refine onB_f ?_)
  | (with_reducible refine onB_d (fun _ => ?_) (fun _ => ?_))
  | (with_reducible refine onB_n (fun _ => ?_) (fun _ => ?_))
  | refine OnB.mk (fun _ => ?_) (fun _ => ?_)
  | refine obl_i ?_ ?_
  | refine Drw.mk (by kernel_rfl) ?_
  | refine mks_i ?_ ?_
  | refine slp_i ?_ ?_
  | (with_reducible refine elem_u ?_ ?_)
  | (with_reducible refine elem_0 ?_)
  | (with_reducible refine elem_1 ?_)
  | refine elem_map rd0 ?_ ?_
  | refine Ends.mk ?_))
 all_goals (try refine Pr.mk ?_)
 all_goals first | (show SubE _ _; repeat' (first | exact trivial | refine And.intro ?_ ?_)) | (show SubB _ _; repeat' (first | exact trivial | refine And.intro ?_ ?_)) | skip
 all_goals (try rfl)
 all_goals (try simp only [List.length_map, Int.toNat_natCast] at *)
 all_goals first
  | omega
  | exact bE (all_end hx (by assumption))
  | exact bE (all_bad (x := x) (by omega) (okr_1 (by assumption)))
  | exact bE (all_bad (x := x) (by omega) (okr_2 (by assumption)))
  | exact bE (all_bad (x := x) (by omega) (okr_3 (by assumption)))
  | (rename_i g3 g0 g1 g2; ((conv => whnf); exact ⟨x + 1, ⟨⟨rfl, rfl, rfl, inc64 (by omega), trivial⟩, ⟨⟩, ⟨by omega, fun j hj => by rcases Nat.lt_succ_iff_lt_or_eq.1 hj with h | h; exact hx.2 j h; subst h; exact okr_yes g1 g2 g3⟩, by show L.length - (x + 1) < L.length - x; omega⟩⟩))
  | exact ⟨by omega, fun j hj => by omega⟩⟩

instance (p1 : Bool) (l1 : List Nat) (q1 : Bool) (m1 : List Nat) (n : Int) : DenI Try.prog 12 [.c (.sl 4 [[.v (.bool p1), lmc l1, .v (.bool q1), lmc m1]]), .int .i64 n] (n ≤ 1000) (.bool ((okr n (p1, l1, q1, m1)))) := ⟨fun hp => by have h := (inferInstance : DenI Try.prog 12 [.c (.sl 4 (List.map rc [(p1, l1, q1, m1)])), .int .i64 n] _ _).den ⟨by simp, hp⟩; simpa using h⟩
instance (p1 : Bool) (l1 : List Nat) (q1 : Bool) (m1 : List Nat) (p2 : Bool) (l2 : List Nat) (q2 : Bool) (m2 : List Nat) (p3 : Bool) (l3 : List Nat) (q3 : Bool) (m3 : List Nat) (n : Int) : DenI Try.prog 12 [.c (.sl 4 [[.v (.bool p1), lmc l1, .v (.bool q1), lmc m1], [.v (.bool p2), lmc l2, .v (.bool q2), lmc m2], [.v (.bool p3), lmc l3, .v (.bool q3), lmc m3]]), .int .i64 n] (n ≤ 1000) (.bool ((okr n (p1, l1, q1, m1) && (okr n (p2, l2, q2, m2) && (okr n (p3, l3, q3, m3)))))) := ⟨fun hp => by have h := (inferInstance : DenI Try.prog 12 [.c (.sl 4 (List.map rc [(p1, l1, q1, m1), (p2, l2, q2, m2), (p3, l3, q3, m3)])), .int .i64 n] _ _).den ⟨by simp, hp⟩; simpa using h⟩
instance (p1 : Bool) (l1 : List Nat) (q1 : Bool) (m1 : List Nat) (p2 : Bool) (l2 : List Nat) (q2 : Bool) (m2 : List Nat) (p3 : Bool) (l3 : List Nat) (q3 : Bool) (m3 : List Nat) (p4 : Bool) (l4 : List Nat) (q4 : Bool) (m4 : List Nat) (p5 : Bool) (l5 : List Nat) (q5 : Bool) (m5 : List Nat) (p6 : Bool) (l6 : List Nat) (q6 : Bool) (m6 : List Nat) (p7 : Bool) (l7 : List Nat) (q7 : Bool) (m7 : List Nat) (p8 : Bool) (l8 : List Nat) (q8 : Bool) (m8 : List Nat) (n : Int) : DenI Try.prog 12 [.c (.sl 4 [[.v (.bool p1), lmc l1, .v (.bool q1), lmc m1], [.v (.bool p2), lmc l2, .v (.bool q2), lmc m2], [.v (.bool p3), lmc l3, .v (.bool q3), lmc m3], [.v (.bool p4), lmc l4, .v (.bool q4), lmc m4], [.v (.bool p5), lmc l5, .v (.bool q5), lmc m5], [.v (.bool p6), lmc l6, .v (.bool q6), lmc m6], [.v (.bool p7), lmc l7, .v (.bool q7), lmc m7], [.v (.bool p8), lmc l8, .v (.bool q8), lmc m8]]), .int .i64 n] (n ≤ 1000) (.bool ((okr n (p1, l1, q1, m1) && (okr n (p2, l2, q2, m2) && (okr n (p3, l3, q3, m3) && (okr n (p4, l4, q4, m4) && (okr n (p5, l5, q5, m5) && (okr n (p6, l6, q6, m6) && (okr n (p7, l7, q7, m7) && (okr n (p8, l8, q8, m8))))))))))) := ⟨fun hp => by have h := (inferInstance : DenI Try.prog 12 [.c (.sl 4 (List.map rc [(p1, l1, q1, m1), (p2, l2, q2, m2), (p3, l3, q3, m3), (p4, l4, q4, m4), (p5, l5, q5, m5), (p6, l6, q6, m6), (p7, l7, q7, m7), (p8, l8, q8, m8)])), .int .i64 n] _ _).den ⟨by simp, hp⟩; simpa using h⟩
end Go.Proofs.Ytjhekoechimbnaa

namespace Go.Sw
open Go
set_option linter.unusedVariables false
theorem prIv_b {a b : Int} : ((!prIv a b) = false) ↔ (a ≤ b ∧ -2305843009213693952 ≤ a ∧ b ≤ 2305843009213693952) := by unfold prIv; simp
theorem okr_cases (k : Int) (n1 : Bool) (l1 : List Nat) (n2 : Bool) (l2 : List Nat) : okr k (n1, l1, n2, l2) = false ∨ ∃ q : Rat, n1 = decide (q.num < 0) ∧ l1 = lim q.num.natAbs ∧ n2 = decide ((q.den : Int) < 0) ∧ l2 = lim (q.den : Int).natAbs ∧ rz q ≤ 2 * k.toNat ∧ okr k (decide (q.num < 0), lim q.num.natAbs, decide ((q.den : Int) < 0), lim (q.den : Int).natAbs) = true := by
  cases h : okr k (n1, l1, n2, l2) with
  | false => exact .inl rfl
  | true =>
    right
    have h' := h
    unfold okr at h'
    simp only [Bool.and_eq_true, decide_eq_true_eq] at h'
    obtain ⟨h1, h2, h3⟩ := h'
    obtain ⟨q, rfl, rfl, rfl, rfl⟩ := validR_ex h3
    refine ⟨q, rfl, rfl, rfl, rfl, ?_, h⟩
    unfold rz sz
    omega
theorem in_from {a : Rat} (h : (!(fromR a).isSome) = false) : inR ((fromR a).getD (0, 0)).1 ((fromR a).getD (0, 0)).2 a = true := by
  cases e : fromR a with
  | none => rw [e] at h; cases h
  | some x =>
    have hx : x = ((a * ((65536 : Int) : Rat)).floor, upR (a * ((65536 : Int) : Rat))) := by
      unfold fromR mkI at e
      split at e
      · injection e with e; exact e.symm
      · cases e
    subst hx
    unfold inR
    simp only [Option.getD_some, Bool.and_eq_true, decide_eq_true_eq]
    refine ⟨Rat.floor_le _, ?_⟩
    have := Rat.floor_le (-(a * ((65536 : Int) : Rat)))
    unfold upR
    rw [Rat.intCast_neg]
    grind
theorem lin_lo {a b x k L : Rat} (h1 : a ≤ x) (h2 : x ≤ b) (p : L ≤ a * k) (q : L ≤ b * k) : L ≤ x * k := by
  rcases Rat.le_total (a := 0) (b := k) with hk | hk
  · have := Rat.mul_le_mul_of_nonneg_right h1 hk; grind
  · have := Rat.mul_le_mul_of_nonneg_right h2 (show 0 ≤ -k by grind); grind
theorem bil_lo {a b c d x y L : Rat} (h1 : a ≤ x) (h2 : x ≤ b) (h3 : c ≤ y) (h4 : y ≤ d) (p1 : L ≤ a * c) (p2 : L ≤ a * d) (p3 : L ≤ b * c) (p4 : L ≤ b * d) : L ≤ x * y := by
  apply lin_lo h1 h2
  · rw [Rat.mul_comm]; exact lin_lo h3 h4 (by rw [Rat.mul_comm]; exact p1) (by rw [Rat.mul_comm]; exact p2)
  · rw [Rat.mul_comm]; exact lin_lo h3 h4 (by rw [Rat.mul_comm]; exact p3) (by rw [Rat.mul_comm]; exact p4)
theorem bil_hi {a b c d x y L : Rat} (h1 : a ≤ x) (h2 : x ≤ b) (h3 : c ≤ y) (h4 : y ≤ d) (p1 : a * c ≤ L) (p2 : a * d ≤ L) (p3 : b * c ≤ L) (p4 : b * d ≤ L) : x * y ≤ L := by
  have := bil_lo (L := -L) (a := -b) (b := -a) (x := -x) (y := y) (c := c) (d := d) (by grind) (by grind) h3 h4 (by grind) (by grind) (by grind) (by grind)
  grind
theorem dn_rat (x y : Int) : ((dnP x y : Int) : Rat) * 65536 ≤ (x : Rat) * (y : Rat) := by
  have h : ((dnP x y * 65536 : Int) : Rat) ≤ ((x * y : Int) : Rat) := Rat.intCast_le_intCast.2 (by unfold dnP; omega)
  rw [Rat.intCast_mul, Rat.intCast_mul] at h
  exact h
theorem up_rat (x y : Int) : (x : Rat) * (y : Rat) ≤ ((upP x y : Int) : Rat) * 65536 := by
  have h : ((x * y : Int) : Rat) ≤ ((upP x y * 65536 : Int) : Rat) := Rat.intCast_le_intCast.2 (by unfold upP; omega)
  rw [Rat.intCast_mul, Rat.intCast_mul] at h
  exact h
/-- An interval contains a number. -/
def con (p : Int × Int) (q : Rat) : Prop := (p.1 : Rat) ≤ q * 65536 ∧ q * 65536 ≤ (p.2 : Rat)
theorem mkI_some {l h : Int} {p : Int × Int} (e : mkI l h = some p) : p = (l, h) := by
  unfold mkI at e
  split at e
  · injection e with e; exact e.symm
  · cases e
theorem con_add {x y p : Int × Int} {u v : Rat} (e : addI x y = some p) (hu : con x u) (hv : con y v) : con p (u + v) := by
  have := mkI_some e
  subst this
  unfold con at *
  simp only [Rat.intCast_add]
  obtain ⟨h1, h2⟩ := hu
  obtain ⟨h3, h4⟩ := hv
  constructor <;> grind
theorem con_mul {x y p : Int × Int} {u v : Rat} (e : mulI x y = some p) (hu : con x u) (hv : con y v) : con p (u * v) := by
  have := mkI_some e
  subst this
  unfold con at *
  obtain ⟨h1, h2⟩ := hu
  obtain ⟨h3, h4⟩ := hv
  simp only
  generalize hl : min (min (dnP x.1 y.1) (dnP x.1 y.2)) (min (dnP x.2 y.1) (dnP x.2 y.2)) = l
  generalize hh : max (max (upP x.1 y.1) (upP x.1 y.2)) (max (upP x.2 y.1) (upP x.2 y.2)) = h
  have lo : ∀ a c : Int, l ≤ dnP a c → (l : Rat) * 65536 ≤ (a : Rat) * (c : Rat) := fun a c hd => by
    have k1 := dn_rat a c
    have k2 := Rat.intCast_le_intCast.2 hd
    grind
  have hi : ∀ a c : Int, upP a c ≤ h → (a : Rat) * (c : Rat) ≤ (h : Rat) * 65536 := fun a c hd => by
    have k1 := up_rat a c
    have k2 := Rat.intCast_le_intCast.2 hd
    grind
  have b1 := bil_lo h1 h2 h3 h4 (lo _ _ (by omega)) (lo _ _ (by omega)) (lo _ _ (by omega)) (lo _ _ (by omega))
  have b2 := bil_hi h1 h2 h3 h4 (hi _ _ (by omega)) (hi _ _ (by omega)) (hi _ _ (by omega)) (hi _ _ (by omega))
  constructor <;> grind
theorem c65 : ((65536 : Int) : Rat) = 65536 := by decide +kernel
theorem c255 : ((255 : Int) : Rat) = 255 := by decide +kernel
theorem c1 : ((1 : Int) : Rat) = 1 := by decide +kernel
theorem in_con {l h : Int} {x : Rat} (e : con (l, h) x) : inR l h x = true := by
  unfold inR con at *
  rw [c65]
  simp only [Bool.and_eq_true, decide_eq_true_eq]
  exact e
theorem con_btw {l h : Int} {s : Nat} (hl : l ≤ h) (hs : s < 256) : con (l, h) (btwR l h s) := by
  have k1 : (0 : Rat) ≤ ((s : Int) : Rat) := by have := Rat.intCast_le_intCast.2 (show (0 : Int) ≤ (s : Int) by omega); simpa using this
  have k2 : ((s : Int) : Rat) ≤ 255 := by have := Rat.intCast_le_intCast.2 (show (s : Int) ≤ 255 by omega); rw [c255] at this; exact this
  have k3 := Rat.intCast_le_intCast.2 hl
  unfold con btwR
  rw [c65, c255, c1]
  simp only
  generalize ((s : Int) : Rat) = t at *
  generalize (l : Rat) = a at *
  generalize (h : Rat) = b at *
  have m1 : 0 ≤ (b - a) * t := Rat.mul_nonneg (by grind) k1
  have m2 := Rat.mul_le_mul_of_nonneg_left k2 (show 0 ≤ b - a by grind)
  constructor <;> grind
theorem mul_law4 {a b c d : Int} {s t : Nat} (h1 : a ≤ b) (h2 : c ≤ d) (hs : s < 256) (ht : t < 256) (e : (!(mulI (a, b) (c, d)).isSome) = false) :
    inR ((mulI (a, b) (c, d)).getD (0, 0)).1 ((mulI (a, b) (c, d)).getD (0, 0)).2 (btwR a b s * btwR c d t) = true := by
  cases h : mulI (a, b) (c, d) with
  | none => rw [h] at e; cases e
  | some p => exact in_con (con_mul h (con_btw h1 hs) (con_btw h2 ht))
theorem con_sqrt {x p : Int × Int} {q : Rat} (e : sqrtI x = some p) (hx : con x q) (h0 : 0 ≤ q) :
    (p.1 : Rat) * (p.1 : Rat) ≤ q * (65536 * 65536) ∧ q * (65536 * 65536) ≤ (p.2 : Rat) * (p.2 : Rat) ∧ 0 ≤ p.1 ∧ p.1 ≤ p.2 := by
  unfold sqrtI at e
  split at e
  · cases e
  · rename_i g
    have := mkI_some e
    subst this
    unfold con at hx
    obtain ⟨h1, h2⟩ := hx
    have hle : max x.1 0 ≤ x.2 := by
      have : ((x.1 : Int) : Rat) ≤ (x.2 : Rat) := Rat.le_trans h1 h2
      have := Rat.intCast_le_intCast.1 this
      omega
    have r1 := rt_ok (n := max x.1 0) (by omega)
    have r2 := rtU_ok (n := x.2) (by omega)
    have r3 := rt_mono (l := max x.1 0) (h := x.2) (by omega) hle
    have hm : ((max x.1 0 : Int) : Rat) ≤ q * 65536 := by
      rcases Int.le_total x.1 0 with h | h
      · rw [show max x.1 0 = 0 by omega]; have : ((0 : Int) : Rat) = 0 := rfl; rw [this]; grind
      · rw [show max x.1 0 = x.1 by omega]; exact h1
    have k1 := Rat.intCast_le_intCast.2 r1.2.1
    have k2 := Rat.intCast_le_intCast.2 r2.2.2
    rw [Rat.intCast_mul, Rat.intCast_mul, c65] at k1 k2
    refine ⟨by simp only; grind, by simp only; grind, r1.1, by simp only; omega⟩
theorem sqrt_law {a b : Int} {s : Nat} (h1 : a ≤ b) (hs : s < 256) (e : (!(sqrtI (a, b)).isSome) = false) (h0 : ¬sgnR (btwR a b s) < 0) :
    cmpR ((((sqrtI (a, b)).getD (0, 0)).1 : Rat) * (((sqrtI (a, b)).getD (0, 0)).1 : Rat)) (btwR a b s * (((65536 : Int) : Rat) * ((65536 : Int) : Rat))) ≤ 0 ∧
    cmpR (btwR a b s * (((65536 : Int) : Rat) * ((65536 : Int) : Rat))) ((((sqrtI (a, b)).getD (0, 0)).2 : Rat) * (((sqrtI (a, b)).getD (0, 0)).2 : Rat)) ≤ 0 := by
  rw [cmpR_le0, cmpR_le0, c65]
  rw [sgnR_lt0] at h0
  cases h : sqrtI (a, b) with
  | none => rw [h] at e; cases e
  | some p =>
    have := con_sqrt h (con_btw h1 hs) (by grind)
    exact ⟨this.1, this.2.1⟩
theorem rz_sq {a : Int} (h1 : -2305843009213693952 ≤ a) (h2 : a ≤ 2305843009213693952) : rz (a : Rat) ≤ 4 ∧ rz ((a : Rat) * (a : Rat)) ≤ 8 := by
  have := rz_i a (by omega) (by omega)
  have := rz_mul (a : Rat) (a : Rat)
  omega
theorem rz_kk (q : Rat) : rz (((65536 : Int) : Rat) * ((65536 : Int) : Rat)) ≤ 8 ∧ rz (q * (((65536 : Int) : Rat) * ((65536 : Int) : Rat))) ≤ rz q + 8 := by
  have := rz_k
  have := rz_mul ((65536 : Int) : Rat) ((65536 : Int) : Rat)
  have := rz_mul q (((65536 : Int) : Rat) * ((65536 : Int) : Rat))
  omega
end Go.Sw

namespace Go.Sw
open Go
set_option linter.unusedVariables false
def sub (x y : Int × Int) : Prop := x.1 ≤ y.1 ∧ y.1 ≤ y.2 ∧ y.2 ≤ x.2
theorem con_int {x : Int × Int} {n : Int} (h1 : x.1 ≤ n) (h2 : n ≤ x.2) : con x ((n : Rat) * (1 / 65536)) := by
  have k1 := Rat.intCast_le_intCast.2 h1
  have k2 := Rat.intCast_le_intCast.2 h2
  unfold con
  constructor <;> grind
theorem mul_in {x y p : Int × Int} {m n : Int} (e : mulI x y = some p) (h1 : x.1 ≤ m) (h2 : m ≤ x.2) (h3 : y.1 ≤ n) (h4 : n ≤ y.2) : p.1 ≤ dnP m n ∧ upP m n ≤ p.2 := by
  have ⟨k1, k2⟩ := con_mul e (con_int h1 h2) (con_int h3 h4)
  have a1 : ((p.1 * 65536 : Int) : Rat) ≤ ((m * n : Int) : Rat) := by rw [Rat.intCast_mul, Rat.intCast_mul, c65]; grind
  have a2 : ((m * n : Int) : Rat) ≤ ((p.2 * 65536 : Int) : Rat) := by rw [Rat.intCast_mul, Rat.intCast_mul, c65]; grind
  have b1 := Rat.intCast_le_intCast.1 a1
  have b2 := Rat.intCast_le_intCast.1 a2
  unfold dnP upP
  constructor <;> omega
theorem mkI_of {l h L H : Int} (h1 : L ≤ l) (h2 : h ≤ H) (e : ¬mkI L H = none) : mkI l h = some (l, h) := by
  unfold mkI at *
  split at e
  · exact if_pos (by omega)
  · exact absurd rfl e
theorem part_add {x y u v p : Int × Int} (hx : sub x u) (hy : sub y v) (e : addI x y = some p) : ∃ q, addI u v = some q ∧ p.1 ≤ q.1 ∧ q.2 ≤ p.2 := by
  have := mkI_some e
  subst this
  unfold sub at *
  exact ⟨_, mkI_of (L := x.1 + y.1) (H := x.2 + y.2) (by omega) (by omega) (by unfold addI at e; rw [e]; simp), by simp only; omega, by simp only; omega⟩
theorem part_mul {x y u v p : Int × Int} (hx : sub x u) (hy : sub y v) (e : mulI x y = some p) : ∃ q, mulI u v = some q ∧ p.1 ≤ q.1 ∧ q.2 ≤ p.2 := by
  unfold sub at *
  have m1 := mul_in (m := u.1) (n := v.1) e (by omega) (by omega) (by omega) (by omega)
  have m2 := mul_in (m := u.1) (n := v.2) e (by omega) (by omega) (by omega) (by omega)
  have m3 := mul_in (m := u.2) (n := v.1) e (by omega) (by omega) (by omega) (by omega)
  have m4 := mul_in (m := u.2) (n := v.2) e (by omega) (by omega) (by omega) (by omega)
  have hp := mkI_some e
  refine ⟨_, mkI_of (L := p.1) (H := p.2) (by omega) (by omega) ?_, by simp only; omega, by simp only; omega⟩
  rw [hp] at e ⊢
  unfold mulI at e
  rw [e]; simp
theorem part_sqrt {x u p : Int × Int} (hx : sub x u) (e : sqrtI x = some p) : u.2 < 0 ∨ ∃ q, sqrtI u = some q ∧ p.1 ≤ q.1 ∧ q.2 ≤ p.2 := by
  by_cases h0 : u.2 < 0
  · exact .inl h0
  right
  unfold sub at hx
  unfold sqrtI at *
  split at e
  · cases e
  · have hp := mkI_some e
    subst hp
    rw [if_neg h0]
    have r1 := rt_mono (l := max x.1 0) (h := max u.1 0) (by omega) (by omega)
    have r2 : rtU u.2 ≤ rtU x.2 := by
      have a1 := rt_ok (n := u.2) (by omega)
      have a2 := rtU_ok (n := u.2) (by omega)
      have a3 := rtU_ok (n := x.2) (by omega)
      have a4 := rt_mono (l := u.2) (h := x.2) (by omega) (by omega)
      apply Decidable.byContradiction
      intro hc
      have hr : rtU u.2 = rt u.2 + 1 := by omega
      have hx2 : rtU x.2 = rt u.2 := by omega
      rw [hx2] at a3
      have : rt u.2 * rt u.2 = u.2 * 65536 := by omega
      unfold rtU at hr
      rw [if_pos this] at hr
      omega
    exact ⟨_, mkI_of r1 r2 (by rw [e]; simp), r1, r2⟩
theorem partI_sub {a b : Int} (h : a ≤ b) (u v : Nat) : sub (a, b) (partI a b u v) := by
  unfold sub partI; split <;> simp only <;> omega
def wOk (o o' : Option (Int × Int)) : Prop := o'.isSome = true ∧ (o.getD (0, 0)).1 ≤ (o'.getD (0, 0)).1 ∧ (o'.getD (0, 0)).2 ≤ (o.getD (0, 0)).2
theorem pA {x y u v : Int × Int} (hx : sub x u) (hy : sub y v) (h : (addI x y).isSome = true) : wOk (addI x y) (addI u v) := by
  obtain ⟨p, e⟩ := Option.isSome_iff_exists.1 h
  obtain ⟨q, k, h1, h2⟩ := part_add hx hy e
  rw [e, k]; exact ⟨rfl, h1, h2⟩
theorem pM {x y u v : Int × Int} (hx : sub x u) (hy : sub y v) (h : (mulI x y).isSome = true) : wOk (mulI x y) (mulI u v) := by
  obtain ⟨p, e⟩ := Option.isSome_iff_exists.1 h
  obtain ⟨q, k, h1, h2⟩ := part_mul hx hy e
  rw [e, k]; exact ⟨rfl, h1, h2⟩
theorem pS {x u : Int × Int} (hx : sub x u) (h : (sqrtI x).isSome = true) (hn : ¬u.2 < 0) : wOk (sqrtI x) (sqrtI u) := by
  obtain ⟨p, e⟩ := Option.isSome_iff_exists.1 h
  obtain ⟨q, k, h1, h2⟩ := (part_sqrt hx e).resolve_left hn
  rw [e, k]; exact ⟨rfl, h1, h2⟩
theorem sqN {u : Int × Int} (h : (sqrtI u).isSome = true) : ¬u.2 < 0 := by
  intro hn; unfold sqrtI at h; rw [if_pos hn] at h; cases h
end Go.Sw

namespace Go.Sw
open Go
set_option linter.unusedVariables false
theorem con_from {a : Rat} {x : Int × Int} (e : fromR a = some x) : con x a := by
  have := mkI_some e
  subst this
  unfold con upR
  rw [c65]
  simp only
  refine ⟨Rat.floor_le _, ?_⟩
  have := Rat.floor_le (-(a * 65536))
  rw [Rat.intCast_neg]
  grind
theorem con_neg {x : Int × Int} {q : Rat} (h : con x q) : con (-x.2, -x.1) (-q) := by
  unfold con at *
  simp only [Rat.intCast_neg]
  constructor <;> grind
theorem con_sgn {p : Int × Int} {q : Rat} {n : Int} (h : sgIv p.1 p.2 = (n, true)) (hq : con p q) : sgnR q = n := by
  obtain ⟨h1, h2⟩ := hq
  unfold sgIv at h
  have z : ((0 : Int) : Rat) = 0 := rfl
  split at h
  · rename_i g
    injection h with h3 h4
    subst h3
    have := Rat.intCast_lt_intCast.2 g
    rw [z] at this
    exact sgnR_eq1.2 (by grind)
  · split at h
    · rename_i g
      injection h with h3 h4
      subst h3
      have := Rat.intCast_lt_intCast.2 g
      rw [z] at this
      have hq : q < 0 := by grind
      unfold sgnR; rw [if_pos hq]
    · injection h with h3 h4
      subst h3
      have g := of_decide_eq_true h4
      rw [g.1, z] at h1
      rw [g.2, z] at h2
      exact sgnR_eq0.2 (by grind)
theorem sgn_cases (q : Rat) : (q < 0 ∧ sgnR q = -1) ∨ (q = 0 ∧ sgnR q = 0) ∨ (0 < q ∧ sgnR q = 1) := by
  unfold sgnR
  by_cases h1 : q < 0
  · rw [if_pos h1]; exact .inl ⟨h1, rfl⟩
  · rw [if_neg h1]
    by_cases h2 : q = 0
    · rw [if_pos h2]; exact .inr (.inl ⟨h2, rfl⟩)
    · rw [if_neg h2]; exact .inr (.inr ⟨by grind, rfl⟩)
theorem sq_lt {x y : Rat} (h0 : 0 ≤ x) (h : x < y) : x * x < y * y := by
  have a1 := Rat.mul_le_mul_of_nonneg_left (Rat.le_of_lt h) h0
  have a2 := Rat.mul_lt_mul_of_pos_right h (show 0 < y by grind)
  grind
theorem sq_nn (x : Rat) : 0 ≤ x * x := by
  rcases Rat.le_total (a := 0) (b := x) with h | h
  · exact Rat.mul_nonneg h h
  · have := Rat.mul_nonneg (show 0 ≤ -x by grind) (show 0 ≤ -x by grind); grind
theorem cmpR_1 {a b : Rat} (h : b < a) : cmpR a b = 1 := by unfold cmpR; rw [if_neg (by grind), if_pos h]
theorem cmpR_m {a b : Rat} (h : a < b) : cmpR a b = -1 := by unfold cmpR; rw [if_pos h]
theorem cmpR_z {a b : Rat} (h : a = b) : cmpR a b = 0 := cmpR_eq0.2 h
theorem exI_sgn {A B C s1 s2 : Rat} {n : Int} (p1 : 0 ≤ s1) (p2 : s1 ≤ s2) (q1 : s1 * s1 ≤ C) (q2 : C ≤ s2 * s2) (h1 : sgnR (A + B * s1) = n) (h2 : sgnR (A + B * s2) = n) : exI A B C = n := by
  have hC : 0 ≤ C := Rat.le_trans (sq_nn s1) q1
  have bb := sq_nn B
  have m1 : B * B * (s1 * s1) ≤ B * B * C := Rat.mul_le_mul_of_nonneg_left q1 bb
  have m2 : B * B * C ≤ B * B * (s2 * s2) := Rat.mul_le_mul_of_nonneg_left q2 bb
  have p3 : 0 ≤ s2 := Rat.le_trans p1 p2
  unfold exI
  rcases sgn_cases C with ⟨c1, c2⟩ | ⟨c1, c2⟩ | ⟨c1, c2⟩
  · grind
  · rw [c2, Int.mul_zero, if_pos (.inr rfl)]
    have : s1 = 0 := by
      rcases sgn_cases s1 with ⟨k, _⟩ | ⟨k, _⟩ | ⟨k, _⟩
      · grind
      · exact k
      · have := Rat.mul_pos k k; grind
    subst this
    rw [← h1]; congr 1; grind
  · have p4 : 0 < s2 := by
      rcases sgn_cases s2 with ⟨k, _⟩ | ⟨k, _⟩ | ⟨k, _⟩
      · grind
      · subst k; grind
      · exact k
    rw [c2, Int.mul_one]
    rcases sgn_cases B with ⟨b1, b2⟩ | ⟨b1, b2⟩ | ⟨b1, b2⟩ <;> rcases sgn_cases A with ⟨a1, a2⟩ | ⟨a1, a2⟩ | ⟨a1, a2⟩ <;> rw [a2, b2]
    · have k := Rat.mul_nonneg (show 0 ≤ -B by grind) p1
      have : A + B * s1 < 0 := by grind
      rw [← h1]; unfold sgnR; rw [if_pos this]; rfl
    · have k := Rat.mul_pos (show 0 < -B by grind) p4
      have : A + B * s2 < 0 := by grind
      rw [← h2]; unfold sgnR; rw [if_pos this]; rfl
    · have k1 := Rat.mul_nonneg (show 0 ≤ -B by grind) p1
      have k2 := Rat.mul_nonneg (show 0 ≤ -B by grind) p3
      rcases sgn_cases (A + B * s1) with ⟨u1, u2⟩ | ⟨u1, u2⟩ | ⟨u1, u2⟩
      · rw [h1] at u2; subst u2
        have := sq_lt (x := A) (y := -B * s1) (by grind) (by grind)
        rw [cmpR_m (by grind)]; rfl
      · rw [h1] at u2; subst u2
        have v := sgnR_eq0.1 h2
        have e : A * A = B * B * (s1 * s1) := by have : A = -B * s1 := by grind
                                                 subst this; grind
        have e2 : A * A = B * B * (s2 * s2) := by have : A = -B * s2 := by grind
                                                  subst this; grind
        rw [cmpR_z (by grind)]; rfl
      · rw [h1] at u2; subst u2
        have v := sgnR_eq1.1 h2
        have := sq_lt (x := -B * s2) (y := A) (by grind) (by grind)
        rw [cmpR_1 (by grind)]; rfl
    · subst b1
      rw [← h1]
      have : A + 0 * s1 = A := by grind
      rw [this, a2]; rfl
    · subst b1
      rw [← h1]
      have : A + 0 * s1 = A := by grind
      rw [this, a2]; rfl
    · subst b1
      rw [← h1]
      have : A + 0 * s1 = A := by grind
      rw [this, a2]; rfl
    · have k1 := Rat.mul_nonneg (show 0 ≤ B by grind) p1
      have k2 := Rat.mul_nonneg (show 0 ≤ B by grind) p3
      rcases sgn_cases (A + B * s1) with ⟨u1, u2⟩ | ⟨u1, u2⟩ | ⟨u1, u2⟩
      · rw [h1] at u2; subst u2
        have v : A + B * s2 < 0 := by
          rcases sgn_cases (A + B * s2) with ⟨t1, t2⟩ | ⟨t1, t2⟩ | ⟨t1, t2⟩
          · exact t1
          · rw [h2] at t2; cases t2
          · rw [h2] at t2; cases t2
        have := sq_lt (x := B * s2) (y := -A) (by grind) (by grind)
        rw [cmpR_1 (by grind)]; rfl
      · rw [h1] at u2; subst u2
        have v := sgnR_eq0.1 h2
        have e : A * A = B * B * (s1 * s1) := by have : A = -B * s1 := by grind
                                                 subst this; grind
        have e2 : A * A = B * B * (s2 * s2) := by have : A = -B * s2 := by grind
                                                  subst this; grind
        rw [cmpR_z (by grind)]; rfl
      · rw [h1] at u2; subst u2
        have := sq_lt (x := -A) (y := B * s1) (by grind) (by grind)
        rw [cmpR_m (by grind)]; rfl
    · have k := Rat.mul_pos (show 0 < B by grind) p4
      rw [← h2, sgnR_eq1.2 (by grind)]; rfl
    · have k := Rat.mul_nonneg (show 0 ≤ B by grind) p1
      rw [← h1, sgnR_eq1.2 (by grind)]; rfl
/-- What a root's interval holds: the number at each end of the square root's interval. -/
theorem root_con {a b c : Rat} {p : Int × Int} (e : rootI a b c = some p) :
    (b = 0 ∧ con p a) ∨ (0 ≤ c ∧ ∃ s1 s2 : Rat, 0 ≤ s1 ∧ s1 ≤ s2 ∧ s1 * s1 ≤ c ∧ c ≤ s2 * s2 ∧ (∃ w z, fromR c = some z ∧ sqrtI z = some w ∧ s1 = (w.1 : Rat) * (1 / 65536) ∧ s2 = (w.2 : Rat) * (1 / 65536)) ∧ con p (a + b * s1) ∧ con p (a + b * s2)) := by
  unfold rootI at e
  cases ha : fromR a with
  | none => rw [ha] at e; cases e
  | some x =>
    rw [ha] at e
    simp only at e
    by_cases hb : b = 0
    · rw [if_pos hb] at e
      injection e with e
      subst e
      exact .inl ⟨hb, con_from ha⟩
    · rw [if_neg hb] at e
      right
      cases hy : fromR b with
      | none => rw [hy] at e; cases e
      | some y =>
        cases hz : fromR c with
        | none => rw [hy, hz] at e; cases e
        | some z =>
          rw [hy, hz] at e
          simp only at e
          split at e
          · cases e
          · rename_i hc
            have h0 : 0 ≤ c := by grind
            cases hw : sqrtI z with
            | none => rw [hw] at e; cases e
            | some w =>
              rw [hw] at e
              simp only at e
              cases hp : mulI y w with
              | none => rw [hp] at e; cases e
              | some m =>
                rw [hp] at e
                simp only at e
                obtain ⟨k1, k2, k3, k4⟩ := con_sqrt hw (con_from hz) h0
                have j1 := Rat.intCast_le_intCast.2 k3
                have j2 := Rat.intCast_le_intCast.2 k4
                have z0 : ((0 : Int) : Rat) = 0 := rfl
                rw [z0] at j1
                refine ⟨h0, (w.1 : Rat) * (1 / 65536), (w.2 : Rat) * (1 / 65536), by grind, by grind, by grind, by grind, ⟨w, z, rfl, hw, rfl, rfl⟩, ?_, ?_⟩
                · exact con_add e (con_from ha) (con_mul hp (con_from hy) (con_int (by omega) (by omega)))
                · exact con_add e (con_from ha) (con_mul hp (con_from hy) (con_int (by omega) (by omega)))
theorem root_sgn {a b c : Rat} {p : Int × Int} {n : Int} (e : rootI a b c = some p) (h : sgIv p.1 p.2 = (n, true)) : (b = 0 → n = sgnR a) ∧ (¬b = 0 → n = exI a b c) := by
  rcases root_con e with ⟨hb, k⟩ | ⟨h0, s1, s2, p1, p2, q1, q2, _, k1, k2⟩
  · exact ⟨fun _ => (con_sgn h k).symm, fun hn => absurd hb hn⟩
  · refine ⟨fun hb => ?_, fun _ => (exI_sgn p1 p2 q1 q2 (con_sgn h k1) (con_sgn h k2)).symm⟩
    subst hb
    rw [← con_sgn h k1]
    congr 1; grind
theorem exI_zero {a c : Rat} : exI a 0 c = sgnR a := by
  unfold exI
  have : sgnR 0 = 0 := sgnR_eq0.2 rfl
  rw [this, Int.zero_mul, if_pos (.inr rfl)]
theorem side_sgn {la lb lc ax bx ay bb c : Rat} {n : Int} (h : sideI la lb lc ax bx ay bb c = (n, true)) : exI (la * ax + lb * ay - lc) (la * bx + lb * bb) c = n := by
  unfold sideI prodI at h
  cases h1 : rootI ax bx c with
  | none => rw [h1] at h; cases hl : fromR la <;> rw [hl] at h <;> simp at h
  | some r1 =>
    cases h2 : rootI ay bb c with
    | none => rw [h1, h2] at h; cases hl : fromR la <;> cases hm : fromR lb <;> rw [hl, hm] at h <;> simp at h <;> (split at h <;> simp at h)
    | some r2 =>
      rw [h1, h2] at h
      cases h3 : fromR la with
      | none => rw [h3] at h; simp at h
      | some x =>
        cases h4 : fromR lb with
        | none => rw [h3, h4] at h; simp at h
        | some y =>
          rw [h3, h4] at h
          simp only at h
          cases h5 : mulI x r1 with
          | none => rw [h5] at h; simp at h
          | some m1 =>
            cases h6 : mulI y r2 with
            | none => rw [h5, h6] at h; simp at h
            | some m2 =>
              cases h7 : fromR lc with
              | none => rw [h5, h6, h7] at h; simp at h
              | some z =>
                rw [h5, h6, h7] at h
                simp only at h
                cases h8 : addI m1 m2 with
                | none => rw [h8] at h; simp at h
                | some s =>
                  rw [h8] at h
                  simp only at h
                  cases h9 : addI s (-z.2, -z.1) with
                  | none => rw [h9] at h; simp at h
                  | some t =>
                    rw [h9] at h
                    simp only at h
                    have key : ∀ u v : Rat, con r1 u → con r2 v → sgnR (la * u + lb * v - lc) = n := fun u v hu hv => by
                      have := con_add h9 (con_add h8 (con_mul h5 (con_from h3) hu) (con_mul h6 (con_from h4) hv)) (con_neg (con_from h7))
                      rw [← con_sgn h this]
                      congr 1
                      grind
                    rcases root_con h1 with ⟨b1, k1⟩ | ⟨h0, s1, s2, p1, p2, q1, q2, ⟨w, z', e1, e2, e3, e4⟩, k1, k2⟩ <;> rcases root_con h2 with ⟨b2, j1⟩ | ⟨h0', t1, t2, p1', p2', q1', q2', ⟨w', z'', e1', e2', e3', e4'⟩, j1, j2⟩
                    · have e : la * bx + lb * bb = 0 := by rw [b1, b2]; grind
                      rw [e, exI_zero]
                      exact key _ _ k1 j1
                    · refine exI_sgn p1' p2' q1' q2' ?_ ?_
                      · rw [← key _ _ k1 j1, b1]; congr 1; grind
                      · rw [← key _ _ k1 j2, b1]; congr 1; grind
                    · refine exI_sgn p1 p2 q1 q2 ?_ ?_
                      · rw [← key _ _ k1 j1, b2]; congr 1; grind
                      · rw [← key _ _ k2 j1, b2]; congr 1; grind
                    · rw [e1] at e1'
                      injection e1' with e1'
                      subst e1'
                      rw [e2] at e2'
                      injection e2' with e2'
                      subst e2'
                      subst e3 e4 e3' e4'
                      refine exI_sgn p1 p2 q1 q2 ?_ ?_
                      · rw [← key _ _ k1 j1]; congr 1; grind
                      · rw [← key _ _ k2 j2]; congr 1; grind
end Go.Sw

namespace Go.Sw
open Go
set_option linter.unusedVariables false
theorem root_n {a b c : Rat} (h1 : (!(rootI a b c).isSome) = false) (h2 : (!(sgIv ((rootI a b c).getD (0, 0)).1 ((rootI a b c).getD (0, 0)).2).2) = false) :
    (sgnR b = 0 → (sgIv ((rootI a b c).getD (0, 0)).1 ((rootI a b c).getD (0, 0)).2).1 = sgnR a) ∧ (¬sgnR b = 0 → (sgIv ((rootI a b c).getD (0, 0)).1 ((rootI a b c).getD (0, 0)).2).1 = exI a b c) := by
  cases h : rootI a b c with
  | none => rw [h] at h1; simp at h1
  | some p =>
    rw [h] at h2
    simp only [Option.getD_some] at h2 ⊢
    obtain ⟨k1, k2⟩ := root_sgn (n := (sgIv p.1 p.2).1) h (by
      have : (sgIv p.1 p.2).2 = true := by simpa using h2
      exact Prod.ext rfl this)
    exact ⟨fun e => k1 (sgnR_eq0.1 e), fun e => k2 fun e' => e (sgnR_eq0.2 e')⟩
theorem side_n {la lb lc ax bx ay bb c : Rat} (h2 : (!(sideI la lb lc ax bx ay bb c).2) = false) : (sideI la lb lc ax bx ay bb c).1 = exI (la * ax + lb * ay - lc) (la * bx + lb * bb) c :=
  (side_sgn (n := (sideI la lb lc ax bx ay bb c).1) (Prod.ext rfl (by simpa using h2))).symm
theorem okr_get {k : Int} {n1 : Bool} {l1 : List Nat} {n2 : Bool} {l2 : List Nat} (h : okr k (n1, l1, n2, l2) = true) : ∃ q : Rat, n1 = decide (q.num < 0) ∧ l1 = lim q.num.natAbs ∧ n2 = decide ((q.den : Int) < 0) ∧ l2 = lim (q.den : Int).natAbs ∧ rz q ≤ 2 * k.toNat ∧ okr k (decide (q.num < 0), lim q.num.natAbs, decide ((q.den : Int) < 0), lim (q.den : Int).natAbs) = true := by
  rcases okr_cases k n1 l1 n2 l2 with h' | h'
  · rw [h] at h'; cases h'
  · exact h'
end Go.Sw
