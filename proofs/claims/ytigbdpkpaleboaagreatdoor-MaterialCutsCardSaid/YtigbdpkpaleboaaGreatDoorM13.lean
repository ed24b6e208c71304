/-
  What the functions material.Cuts, swarfref52.Cuts, material.Lowest, swarfref52.Lowest, swarflaw52.of, swarfref52.Same answer, each out of its text by the abstract run.
  Lists of strokes, as they come in.
  Lists of motions and of tools, as they come in; the names of the kinds of tools.
  Conditions: none.
-/
import Derived.Test.YtigbdpkpaleboaaGreatDoorM12
set_option linter.all false
namespace Go.Proofs.YtigbdpkpaleboaaGreatDoor
open Go Go.RowKit Go.Sw
set_option linter.unusedVariables false
set_option maxRecDepth 100000
set_option maxHeartbeats 8000000
set_option synthInstance.maxSize 4000
set_option synthInstance.maxHeartbeats 400000
def clmRen : Go.Shelf.Ren := ⟨fun n => if n = 41 then 6 else n, fun n => if n = 22 then 22 else if n = 23 then 33 else  n, id⟩
theorem clmLay : Go.Proofs.SlLaysE0.n41 Tryz.prog clmRen where
  mixed := mixed_
  f41 := ⟨"slices.Clone[[]swarf/api.Motion,swarf/api.Motion]", by decide, Eq.trans Tryz.func6 (congrArg some (Eq.refl _))⟩
  t4 := Tryz.underlying4
  a4 := Tryz.isAgg4
  z4 := Tryz.sizeOf4
  v4 := Tryz.zeroValue4
  t22 := Tryz.underlying22
  a22 := Tryz.isAgg22
  z22 := Tryz.sizeOf22
  v22 := Tryz.zeroValue22
theorem clmInfo : ∃ i0, Tryz.prog.info? 33 = some i0 ∧ i0.zero = some (.agg #[.int .i64 0, .int .i64 0, .int .i64 0, .int .i64 0, .int .i64 0, .int .i64 0, .int .i64 0, .int .i64 0, .int .i64 0]) ∧ i0.size = 9 ∧ i0.bytes = 72 := info_parts (by kernel_rfl)
instance clmI (es : List (List Cell)) : DenI Tryz.prog 6 [.c (.sl 9 es)] (es.length ≤ 1000000) (.c (.sl 9 es)) := ⟨fun hp => by
  obtain ⟨i0, h1, h2, h3, h4⟩ := clmInfo
  exact den_clone clmLay (by kernel_rfl) i0 _ h1 h2 h3 (by omega) rfl (by decide) Tryz.sizeOf33 hp⟩
def cltRen : Go.Shelf.Ren := ⟨fun n => if n = 41 then 7 else n, fun n => if n = 22 then 23 else if n = 23 then 36 else  n, id⟩
theorem cltLay : Go.Proofs.SlLaysE0.n41 Tryz.prog cltRen where
  mixed := mixed_
  f41 := ⟨"slices.Clone[[]swarf/api.Tool,swarf/api.Tool]", by decide, Eq.trans Tryz.func7 (congrArg some (Eq.refl _))⟩
  t4 := Tryz.underlying4
  a4 := Tryz.isAgg4
  z4 := Tryz.sizeOf4
  v4 := Tryz.zeroValue4
  t22 := Tryz.underlying23
  a22 := Tryz.isAgg23
  z22 := Tryz.sizeOf23
  v22 := Tryz.zeroValue23
theorem cltInfo : ∃ i0, Tryz.prog.info? 36 = some i0 ∧ i0.zero = some (.agg #[.int .i64 0, .int .i64 0, .int .i64 0, .int .i64 0, .int .i64 0, .int .i64 0, .int .i64 0, .int .i64 0]) ∧ i0.size = 8 ∧ i0.bytes = 64 := info_parts (by kernel_rfl)
instance cltI (es : List (List Cell)) : DenI Tryz.prog 7 [.c (.sl 8 es)] (es.length ≤ 1000000) (.c (.sl 8 es)) := ⟨fun hp => by
  obtain ⟨i0, h1, h2, h3, h4⟩ := cltInfo
  exact den_clone cltLay (by kernel_rfl) i0 _ h1 h2 h3 (by omega) rfl (by decide) Tryz.sizeOf36 hp⟩
instance k_cuts (M : List Mo9) (T : List T8) : DenI Tryz.prog 5 [.c (.sl 9 (M.map moC)), .c (.sl 8 (T.map toC))] ((∀ t ∈ T, okK t) ∧ T.length ≤ 20 ∧ M.length ≤ 20) (.tup [.c (.sl (if cutE M T = 0 then 7 else 0) ((cutL M T).map cuC)), .int .i64 (cutE M T)]) := ⟨fun hp => by
 obtain ⟨hT, hl, hm⟩ := hp
 all_goals refine den_of (τ := tabs) tabs_ok mixed_ Tryz.func5 rfl (by kernel_rfl) (by kernel_rfl) (by kernel_rfl) ?_
 all_goals (repeat' ((try (conv => whnf)); first
  | refine call_0 ?_
  | refine call_i ?_ ?_
  | refine call_c ?_ (fun _ => ?_) (fun _ => ?_)
  | (with_reducible refine onB_t ?_)
  | (with_reducible refine onB_f ?_)
  | (with_reducible refine onB_d (fun _ => ?_) (fun _ => ?_))
  | (with_reducible refine onB_n (fun _ => ?_) (fun _ => ?_))
  | refine OnB.mk (fun _ => ?_) (fun _ => ?_)
  | refine obl_i ?_ ?_
  | refine Drw.mk (by kernel_rfl) ?_
  | refine mks_i ?_ ?_
  | refine slp_i ?_ ?_
  | (with_reducible refine elem_u ?_ ?_)
  | (with_reducible refine elem_0 ?_)
  | (with_reducible refine elem_1 ?_)
  | refine Ends.mk ?_))
 all_goals (try refine Pr.mk ?_)
 all_goals first
  | ((conv => whnf); refine Sw.Loop.ghost 7 100 41 7 ?_ rfl rfl rfl (by decide))
  | skip
 all_goals first
  | ((conv => whnf); refine Sw.Loop.inv (α := Nat) (fun k => [(1, .c (.sl 8 (T.map toC))), (17, .c (.sl 9 (M.map moC))), (18, .int .i64 ((M.map moC).length : Nat)), (19, .int .i64 (k : Nat)), (7, .gs 100 k)]) (fun k => [(100, .grow 41 7 (((M.take k).map (cutOf T)).map cuC))]) (fun k => k ≤ M.length ∧ (magC T = 0 ∧ ∀ j, j < k → 0 ≤ fI T (M.getD j mo0).tool)) (fun k => M.length - k) 0 ?_ ?_ ?_ (fun k hk => ?_))
  | skip
 all_goals (repeat' ((try (conv => whnf)); first
  | refine call_0 ?_
  | refine call_i ?_ ?_
  | refine call_c ?_ (fun _ => ?_) (fun _ => ?_)
  | (with_reducible refine onB_t ?_)
  | (with_reducible refine onB_f ?_)
  | (with_reducible refine onB_d (fun _ => ?_) (fun _ => ?_))
  | (with_reducible refine onB_n (fun _ => ?_) (fun _ => ?_))
  | refine OnB.mk (fun _ => ?_) (fun _ => ?_)
  | refine obl_i ?_ ?_
  | refine Drw.mk (by kernel_rfl) ?_
  | refine mks_i ?_ ?_
  | refine slp_i ?_ ?_
  | (with_reducible refine elem_u ?_ ?_)
  | (with_reducible refine elem_0 ?_)
  | (with_reducible refine elem_1 ?_)
  | refine elem_map mo0 ?_ ?_
  | refine elem_map to0 ?_ ?_
  | refine Ends.mk ?_))
 all_goals (try refine Pr.mk ?_)
 all_goals first | (show SubE _ _; repeat' (first | exact trivial | refine And.intro ?_ ?_)) | (show SubB _ _; repeat' (first | exact trivial | refine And.intro ?_ ?_)) | skip
 all_goals (try rfl)
 all_goals (try simp only [sgnI_lt0, sgnI_zero, sgnI_le0, sgnI_gt0, sgnI_ge0, sgnI_eq1, cmpI_lt0, cmpI_gt0, cmpI_eq0, cmpI_le0, cmpI_ge0, cmpR_of, sgnR_of, sgnR_lt0, sgnR_eq0, sgnR_gt0, sgnR_le0, sgnR_ge0, sgnR_eq1, cmpR_lt0, cmpR_gt0, cmpR_eq0, cmpR_le0, cmpR_ge0] at *)
 all_goals (try simp only [List.length_map, Int.toNat_natCast] at *)
 all_goals first
  | ((conv => whnf); exact ⟨k + 1, ⟨⟨rfl, rfl, rfl, inc64 (by omega), gsE (by simp only [List.length_map, List.length_append, List.length_take, List.length_cons, List.length_nil]; omega), trivial⟩, ⟨growM (by omega), trivial⟩, ⟨by omega, hk.2.1, all_up hk.2.2 (cut_i (by assumption))⟩, by show M.length - (k + 1) < M.length - k; omega⟩⟩)
  | exact ⟨hT, hl⟩
  | exact hl
  | exact cut_r0 (cut_mag (by assumption)) (by assumption)
  | exact cut_r0 (cut_m4 (k := k) hk.2.1 (by omega) (by assumption)) (by assumption)
  | exact cut_end hk.2.1 hk.1 (by omega) hk.2.2
  | exact ⟨Nat.zero_le _, by assumption, fun j hj => by omega⟩
  | exact ⟨Nat.zero_le _, Decidable.of_not_not (by assumption), fun j hj => by omega⟩
  | (have z := cut_p (by assumption); omega)
  | (simp only [List.length_map, List.length_append, List.length_take, List.length_cons, List.length_nil]; omega)
  | rfl
  | contradiction
  | omega
  | skip⟩

instance k_cuts2 (M : List Mo9) (T : List T8) : DenI Tryz.prog 8 [.c (.sl 9 (M.map moC)), .c (.sl 8 (T.map toC))] ((∀ t ∈ T, okK t) ∧ T.length ≤ 20 ∧ M.length ≤ 20) (.tup [.c (.sl (if cutE M T = 0 then 7 else 0) ((cutL M T).map cuC)), .int .i64 (cutE M T)]) := ⟨fun hp => by
 obtain ⟨hT, hl, hm⟩ := hp
 all_goals refine den_of (τ := tabs) tabs_ok mixed_ Tryz.func8 rfl (by kernel_rfl) (by kernel_rfl) (by kernel_rfl) ?_
 all_goals (repeat' ((try (conv => whnf)); first
  | refine call_0 ?_
  | refine call_i ?_ ?_
  | refine call_c ?_ (fun _ => ?_) (fun _ => ?_)
  | (with_reducible refine onB_t ?_)
  | (with_reducible refine onB_f ?_)
  | (with_reducible refine onB_d (fun _ => ?_) (fun _ => ?_))
  | (with_reducible refine onB_n (fun _ => ?_) (fun _ => ?_))
  | refine OnB.mk (fun _ => ?_) (fun _ => ?_)
  | refine obl_i ?_ ?_
  | refine Drw.mk (by kernel_rfl) ?_
  | refine mks_i ?_ ?_
  | refine slp_i ?_ ?_
  | (with_reducible refine elem_u ?_ ?_)
  | (with_reducible refine elem_0 ?_)
  | (with_reducible refine elem_1 ?_)
  | refine Ends.mk ?_))
 all_goals (try refine Pr.mk ?_)
 all_goals first
  | ((conv => whnf); refine Sw.Loop.ghost 7 100 42 7 ?_ rfl rfl rfl (by decide))
  | skip
 all_goals first
  | ((conv => whnf); refine Sw.Loop.inv (α := Nat) (fun k => [(0, .c (.sl 9 (M.map moC))), (1, .c (.sl 8 (T.map toC))), (8, .int .i64 (k : Nat)), (7, .gs 100 k)]) (fun k => [(100, .grow 42 7 (((M.take k).map (cutOf T)).map cuC))]) (fun k => k ≤ M.length ∧ (magC T = 0 ∧ ∀ j, j < k → 0 ≤ fI T (M.getD j mo0).tool)) (fun k => M.length - k) 0 ?_ ?_ ?_ (fun k hk => ?_))
  | skip
 all_goals (repeat' ((try (conv => whnf)); first
  | refine call_0 ?_
  | refine call_i ?_ ?_
  | refine call_c ?_ (fun _ => ?_) (fun _ => ?_)
  | (with_reducible refine onB_t ?_)
  | (with_reducible refine onB_f ?_)
  | (with_reducible refine onB_d (fun _ => ?_) (fun _ => ?_))
  | (with_reducible refine onB_n (fun _ => ?_) (fun _ => ?_))
  | refine OnB.mk (fun _ => ?_) (fun _ => ?_)
  | refine obl_i ?_ ?_
  | refine Drw.mk (by kernel_rfl) ?_
  | refine mks_i ?_ ?_
  | refine slp_i ?_ ?_
  | (with_reducible refine elem_u ?_ ?_)
  | (with_reducible refine elem_0 ?_)
  | (with_reducible refine elem_1 ?_)
  | refine elem_map mo0 ?_ ?_
  | refine elem_map to0 ?_ ?_
  | refine Ends.mk ?_))
 all_goals (try refine Pr.mk ?_)
 all_goals first | (show SubE _ _; repeat' (first | exact trivial | refine And.intro ?_ ?_)) | (show SubB _ _; repeat' (first | exact trivial | refine And.intro ?_ ?_)) | skip
 all_goals (try rfl)
 all_goals (try simp only [sgnI_lt0, sgnI_zero, sgnI_le0, sgnI_gt0, sgnI_ge0, sgnI_eq1, cmpI_lt0, cmpI_gt0, cmpI_eq0, cmpI_le0, cmpI_ge0, cmpR_of, sgnR_of, sgnR_lt0, sgnR_eq0, sgnR_gt0, sgnR_le0, sgnR_ge0, sgnR_eq1, cmpR_lt0, cmpR_gt0, cmpR_eq0, cmpR_le0, cmpR_ge0] at *)
 all_goals (try simp only [List.length_map, Int.toNat_natCast] at *)
 all_goals first
  | ((conv => whnf); exact ⟨k + 1, ⟨⟨rfl, rfl, inc64 (by omega), gsE (by simp only [List.length_map, List.length_append, List.length_take, List.length_cons, List.length_nil]; omega), trivial⟩, ⟨growM (by omega), trivial⟩, ⟨by omega, hk.2.1, all_up hk.2.2 (cut_i (by assumption))⟩, by show M.length - (k + 1) < M.length - k; omega⟩⟩)
  | exact ⟨hT, hl⟩
  | exact hl
  | exact cut_r0 (cut_mag (by assumption)) (by assumption)
  | exact cut_r0 (cut_m4 (k := k) hk.2.1 (by omega) (by assumption)) (by assumption)
  | exact cut_end hk.2.1 hk.1 (by omega) hk.2.2
  | exact ⟨Nat.zero_le _, by assumption, fun j hj => by omega⟩
  | exact ⟨Nat.zero_le _, Decidable.of_not_not (by assumption), fun j hj => by omega⟩
  | (have z := cut_p (by assumption); omega)
  | (simp only [List.length_map, List.length_append, List.length_take, List.length_cons, List.length_nil]; omega)
  | rfl
  | contradiction
  | omega
  | skip⟩

instance (priority := 3000) k_cutsB (M : List Mo9) (T : List T8) : DenI Tryz.prog 5 [.c (.sl 9 (M.map moC)), .c (.sl 8 (T.map toC))] ((∀ t ∈ T, okK t) ∧ T.length ≤ 20 ∧ M.length ≤ 20) (.tup [.c (.sl 7 ((cutL M T).map cuC)), .int .i64 (cutE M T)]) := ⟨fun hp => den_sl rfl cut_s ((inferInstance : DenI Tryz.prog 5 [.c (.sl 9 (M.map moC)), .c (.sl 8 (T.map toC))] _ (.tup [.c (.sl (if cutE M T = 0 then 7 else 0) ((cutL M T).map cuC)), .int .i64 (cutE M T)])).den hp)⟩
instance (priority := 3000) k_cutsB2 (M : List Mo9) (T : List T8) : DenI Tryz.prog 8 [.c (.sl 9 (M.map moC)), .c (.sl 8 (T.map toC))] ((∀ t ∈ T, okK t) ∧ T.length ≤ 20 ∧ M.length ≤ 20) (.tup [.c (.sl 7 ((cutL M T).map cuC)), .int .i64 (cutE M T)]) := ⟨fun hp => den_sl rfl cut_s ((inferInstance : DenI Tryz.prog 8 [.c (.sl 9 (M.map moC)), .c (.sl 8 (T.map toC))] _ (.tup [.c (.sl (if cutE M T = 0 then 7 else 0) ((cutL M T).map cuC)), .int .i64 (cutE M T)])).den hp)⟩
instance k_low (L : List Cut7) : DenI Tryz.prog 9 [.c (.sl 7 (L.map cuC))] (L.length ≤ 20) (.tup [.int .i64 (lowZ L), .bool (decide (¬L.length = 0))]) := ⟨fun hp => by
 refine den_of (τ := tabs) tabs_ok mixed_ Tryz.func9 rfl (by kernel_rfl) (by kernel_rfl) (by kernel_rfl) ?_
 all_goals (repeat' ((try (conv => whnf)); first
  | refine call_0 ?_
  | refine call_i ?_ ?_
  | refine call_c ?_ (fun _ => ?_) (fun _ => ?_)
  | (with_reducible refine onB_t ?_)
  | (with_reducible refine onB_f ?_)
  | (with_reducible refine onB_d (fun _ => ?_) (fun _ => ?_))
  | (with_reducible refine onB_n (fun _ => ?_) (fun _ => ?_))
  | refine OnB.mk (fun _ => ?_) (fun _ => ?_)
  | refine obl_i ?_ ?_
  | refine Drw.mk (by kernel_rfl) ?_
  | refine mks_i ?_ ?_
  | refine slp_i ?_ ?_
  | (with_reducible refine elem_u ?_ ?_)
  | (with_reducible refine elem_0 ?_)
  | (with_reducible refine elem_1 ?_)
  | refine elem_map cu0 ?_ ?_
  | refine Ends.mk ?_))
 all_goals (try refine Pr.mk ?_)
 all_goals first
  | ((conv => whnf); refine Sw.Loop.inv (α := Nat) (fun k => [(15, .c (.sl 7 (L.map cuC))), (16, .int .i64 ((L.map cuC).length : Nat)), (17, .int .i64 (k : Nat)), (4, .int .i64 ((L.take k).foldl lowS (L.getD 0 cu0).fz))]) (fun k => []) (fun k => k ≤ L.length ∧ True) (fun k => L.length - k) 0 ?_ ?_ ?_ (fun k hk => ?_))
  | skip
 all_goals (repeat' ((try (conv => whnf)); first
  | refine call_0 ?_
  | refine call_i ?_ ?_
  | refine call_c ?_ (fun _ => ?_) (fun _ => ?_)
  | (with_reducible refine onB_t ?_)
  | (with_reducible refine onB_f ?_)
  | (with_reducible refine onB_d (fun _ => ?_) (fun _ => ?_))
  | (with_reducible refine onB_n (fun _ => ?_) (fun _ => ?_))
  | refine OnB.mk (fun _ => ?_) (fun _ => ?_)
  | refine obl_i ?_ ?_
  | refine Drw.mk (by kernel_rfl) ?_
  | refine mks_i ?_ ?_
  | refine slp_i ?_ ?_
  | (with_reducible refine elem_u ?_ ?_)
  | (with_reducible refine elem_0 ?_)
  | (with_reducible refine elem_1 ?_)
  | refine elem_map cu0 ?_ ?_
  | refine Ends.mk ?_))
 all_goals (try refine Pr.mk ?_)
 all_goals first | (show SubE _ _; repeat' (first | exact trivial | refine And.intro ?_ ?_)) | (show SubB _ _; repeat' (first | exact trivial | refine And.intro ?_ ?_)) | skip
 all_goals (try rfl)
 all_goals (try simp only [sgnI_lt0, sgnI_zero, sgnI_le0, sgnI_gt0, sgnI_ge0, sgnI_eq1, cmpI_lt0, cmpI_gt0, cmpI_eq0, cmpI_le0, cmpI_ge0, cmpR_of, sgnR_of, sgnR_lt0, sgnR_eq0, sgnR_gt0, sgnR_le0, sgnR_ge0, sgnR_eq1, cmpR_lt0, cmpR_gt0, cmpR_eq0, cmpR_le0, cmpR_ge0] at *)
 all_goals (try simp only [List.length_map, Int.toNat_natCast] at *)
 all_goals first
  | ((conv => whnf); exact ⟨k + 1, ⟨⟨rfl, rfl, inc64 (by omega), congrArg (fun q => some (AV.int .i64 q)) (low_step (by omega)).symm, trivial⟩, ⟨⟩, ⟨by omega, trivial⟩, by show L.length - (k + 1) < L.length - k; omega⟩⟩)
  | exact low_e0 (by omega)
  | exact low_e1 (k := k) (by omega) (by omega)
  | exact ⟨Nat.zero_le _, trivial⟩
  | rfl
  | contradiction
  | omega
  | skip⟩

instance k_low2 (L : List Cut7) : DenI Tryz.prog 11 [.c (.sl 7 (L.map cuC))] (L.length ≤ 20) (.tup [.int .i64 (lowZ L), .bool (decide (¬L.length = 0))]) := ⟨fun hp => by
 refine den_of (τ := tabs) tabs_ok mixed_ Tryz.func11 rfl (by kernel_rfl) (by kernel_rfl) (by kernel_rfl) ?_
 all_goals (repeat' ((try (conv => whnf)); first
  | refine call_0 ?_
  | refine call_i ?_ ?_
  | refine call_c ?_ (fun _ => ?_) (fun _ => ?_)
  | (with_reducible refine onB_t ?_)
  | (with_reducible refine onB_f ?_)
  | (with_reducible refine onB_d (fun _ => ?_) (fun _ => ?_))
  | (with_reducible refine onB_n (fun _ => ?_) (fun _ => ?_))
  | refine OnB.mk (fun _ => ?_) (fun _ => ?_)
  | refine obl_i ?_ ?_
  | refine Drw.mk (by kernel_rfl) ?_
  | refine mks_i ?_ ?_
  | refine slp_i ?_ ?_
  | (with_reducible refine elem_u ?_ ?_)
  | (with_reducible refine elem_0 ?_)
  | (with_reducible refine elem_1 ?_)
  | refine elem_map cu0 ?_ ?_
  | refine Ends.mk ?_))
 all_goals (try refine Pr.mk ?_)
 all_goals first
  | ((conv => whnf); refine Sw.Loop.inv (α := Nat) (fun k => [(0, .c (.sl 7 (L.map cuC))), (5, .int .i64 (k : Nat)), (4, .int .i64 ((L.take k).foldl lowS (L.getD 0 cu0).fz))]) (fun k => []) (fun k => k ≤ L.length ∧ True) (fun k => L.length - k) 0 ?_ ?_ ?_ (fun k hk => ?_))
  | skip
 all_goals (repeat' ((try (conv => whnf)); first
  | refine call_0 ?_
  | refine call_i ?_ ?_
  | refine call_c ?_ (fun _ => ?_) (fun _ => ?_)
  | (with_reducible refine onB_t ?_)
  | (with_reducible refine onB_f ?_)
  | (with_reducible refine onB_d (fun _ => ?_) (fun _ => ?_))
  | (with_reducible refine onB_n (fun _ => ?_) (fun _ => ?_))
  | refine OnB.mk (fun _ => ?_) (fun _ => ?_)
  | refine obl_i ?_ ?_
  | refine Drw.mk (by kernel_rfl) ?_
  | refine mks_i ?_ ?_
  | refine slp_i ?_ ?_
  | (with_reducible refine elem_u ?_ ?_)
  | (with_reducible refine elem_0 ?_)
  | (with_reducible refine elem_1 ?_)
  | refine elem_map cu0 ?_ ?_
  | refine Ends.mk ?_))
 all_goals (try refine Pr.mk ?_)
 all_goals first | (show SubE _ _; repeat' (first | exact trivial | refine And.intro ?_ ?_)) | (show SubB _ _; repeat' (first | exact trivial | refine And.intro ?_ ?_)) | skip
 all_goals (try rfl)
 all_goals (try simp only [sgnI_lt0, sgnI_zero, sgnI_le0, sgnI_gt0, sgnI_ge0, sgnI_eq1, cmpI_lt0, cmpI_gt0, cmpI_eq0, cmpI_le0, cmpI_ge0, cmpR_of, sgnR_of, sgnR_lt0, sgnR_eq0, sgnR_gt0, sgnR_le0, sgnR_ge0, sgnR_eq1, cmpR_lt0, cmpR_gt0, cmpR_eq0, cmpR_le0, cmpR_ge0] at *)
 all_goals (try simp only [List.length_map, Int.toNat_natCast] at *)
 all_goals first
  | ((conv => whnf); exact ⟨k + 1, ⟨⟨rfl, inc64 (by omega), congrArg (fun q => some (AV.int .i64 q)) (low_step (by omega)).symm, trivial⟩, ⟨⟩, ⟨by omega, trivial⟩, by show L.length - (k + 1) < L.length - k; omega⟩⟩)
  | exact low_e0 (by omega)
  | exact low_e1 (k := k) (by omega) (by omega)
  | exact ⟨Nat.zero_le _, trivial⟩
  | rfl
  | contradiction
  | omega
  | skip⟩

instance l_of (L : List Cut7) : DenI Tryz.prog 10 [.c (.sl 7 (L.map cuC))] (L.length ≤ 20) (.c (.sl 7 (L.map cuC))) := ⟨fun hp => by
 refine den_of (τ := tabs) tabs_ok mixed_ Tryz.func10 rfl (by kernel_rfl) (by kernel_rfl) (by kernel_rfl) ?_
 all_goals first
  | ((conv => whnf); refine Sw.Loop.ghost 3 100 41 7 ?_ rfl rfl rfl (by decide))
  | skip
 all_goals first
  | ((conv => whnf); refine Sw.Loop.inv (α := Nat) (fun k => [(6, .c (.sl 7 (L.map cuC))), (7, .int .i64 ((L.map cuC).length : Nat)), (3, .gs 100 k), (8, .int .i64 (k : Nat))]) (fun k => [(100, .grow 41 7 ((L.take k).map cuC))]) (fun k => k ≤ L.length ∧ True) (fun k => L.length - k) 0 ?_ ?_ ?_ (fun k hk => ?_))
  | skip
 all_goals (repeat' ((try (conv => whnf)); first
  | refine call_0 ?_
  | refine call_i ?_ ?_
  | refine call_c ?_ (fun _ => ?_) (fun _ => ?_)
  | (with_reducible refine onB_t ?_)
  | (with_reducible refine onB_f ?_)
  | (with_reducible refine onB_d (fun _ => ?_) (fun _ => ?_))
  | (with_reducible refine onB_n (fun _ => ?_) (fun _ => ?_))
  | refine OnB.mk (fun _ => ?_) (fun _ => ?_)
  | refine obl_i ?_ ?_
  | refine Drw.mk (by kernel_rfl) ?_
  | refine mks_i ?_ ?_
  | refine slp_i ?_ ?_
  | (with_reducible refine elem_u ?_ ?_)
  | (with_reducible refine elem_0 ?_)
  | (with_reducible refine elem_1 ?_)
  | refine elem_map cu0 ?_ ?_
  | refine Ends.mk ?_))
 all_goals (try refine Pr.mk ?_)
 all_goals first | (show SubE _ _; repeat' (first | exact trivial | refine And.intro ?_ ?_)) | (show SubB _ _; repeat' (first | exact trivial | refine And.intro ?_ ?_)) | skip
 all_goals (try rfl)
 all_goals (try simp only [List.length_map, Int.toNat_natCast] at *)
 all_goals first
  | exact ofK_end hk.1 (by omega)
  | ((conv => whnf); exact ⟨k + 1, ⟨⟨rfl, rfl, gsE (by simp only [List.length_map, List.length_append, List.length_take, List.length_cons, List.length_nil]; omega), inc64 (by omega), trivial⟩, ⟨growK (by omega), trivial⟩, ⟨by omega, trivial⟩, by show L.length - (k + 1) < L.length - k; omega⟩⟩)
  | omega
  | exact ⟨Nat.zero_le _, trivial⟩
  | (simp only [List.length_map, List.length_append, List.length_take, List.length_cons, List.length_nil]; omega)
  | skip⟩

instance h_same (L : List Cut7) : DenI Tryz.prog 12 [.c (.sl 7 (L.map cuC)), .c (.sl 7 (L.map cuC))] (L.length ≤ 20) (.bool true) := ⟨fun hp => by
 refine den_of (τ := tabs) tabs_ok mixed_ Tryz.func12 rfl (by kernel_rfl) (by kernel_rfl) (by kernel_rfl) ?_
 all_goals (repeat' ((try (conv => whnf)); first
  | refine call_0 ?_
  | refine call_i ?_ ?_
  | refine call_c ?_ (fun _ => ?_) (fun _ => ?_)
  | (with_reducible refine onB_t ?_)
  | (with_reducible refine onB_f ?_)
  | (with_reducible refine onB_d (fun _ => ?_) (fun _ => ?_))
  | (with_reducible refine onB_n (fun _ => ?_) (fun _ => ?_))
  | refine OnB.mk (fun _ => ?_) (fun _ => ?_)
  | refine obl_i ?_ ?_
  | refine Drw.mk (by kernel_rfl) ?_
  | refine mks_i ?_ ?_
  | refine slp_i ?_ ?_
  | (with_reducible refine elem_u ?_ ?_)
  | (with_reducible refine elem_0 ?_)
  | (with_reducible refine elem_1 ?_)
  | refine Ends.mk ?_))
 all_goals (try refine Pr.mk ?_)
 all_goals first
  | ((conv => whnf); refine Sw.Loop.inv (α := Nat) (fun k => [(0, .c (.sl 7 (L.map cuC))), (1, .c (.sl 7 (L.map cuC))), (5, .int .i64 (k : Nat))]) (fun k => []) (fun k => k ≤ L.length ∧ True) (fun k => L.length - k) 0 ?_ ?_ ?_ (fun k hk => ?_))
  | skip
 all_goals (repeat' ((try (conv => whnf)); first
  | refine call_0 ?_
  | refine call_i ?_ ?_
  | refine call_c ?_ (fun _ => ?_) (fun _ => ?_)
  | (with_reducible refine onB_t ?_)
  | (with_reducible refine onB_f ?_)
  | (with_reducible refine onB_d (fun _ => ?_) (fun _ => ?_))
  | (with_reducible refine onB_n (fun _ => ?_) (fun _ => ?_))
  | refine OnB.mk (fun _ => ?_) (fun _ => ?_)
  | refine obl_i ?_ ?_
  | refine Drw.mk (by kernel_rfl) ?_
  | refine mks_i ?_ ?_
  | refine slp_i ?_ ?_
  | (with_reducible refine elem_u ?_ ?_)
  | (with_reducible refine elem_0 ?_)
  | (with_reducible refine elem_1 ?_)
  | refine elem_map cu0 ?_ ?_
  | refine Ends.mk ?_))
 all_goals (try refine Pr.mk ?_)
 all_goals first | (show SubE _ _; repeat' (first | exact trivial | refine And.intro ?_ ?_)) | (show SubB _ _; repeat' (first | exact trivial | refine And.intro ?_ ?_)) | skip
 all_goals (try rfl)
 all_goals (try simp only [List.length_map, Int.toNat_natCast] at *)
 all_goals first
  | rfl
  | ((conv => whnf); exact ⟨k + 1, ⟨⟨rfl, rfl, inc64 (by omega), trivial⟩, ⟨⟩, ⟨by omega, trivial⟩, by show L.length - (k + 1) < L.length - k; omega⟩⟩)
  | omega
  | exact ⟨Nat.zero_le _, trivial⟩
  | (exfalso; simp at *; done)
  | skip⟩

instance k_same2 (L : List Cut7) (k : Nat) : DenI Tryz.prog 12 [.c (.sl 7 ((L.take k).map cuC)), .c (.sl 7 (L.map cuC))] (L.length ≤ 20 ∧ L.length ≤ k) (.bool true) := ⟨fun hp => by rw [List.take_of_length_le hp.2]; exact (inferInstance : DenI Tryz.prog 12 [.c (.sl 7 (L.map cuC)), .c (.sl 7 (L.map cuC))] _ _).den hp.1⟩
end Go.Proofs.YtigbdpkpaleboaaGreatDoor

namespace Go.Sw
open Go Go.RowKit
set_option linter.unusedVariables false
theorem all_map {α : Type} {f : α → List Cell} {p : α → Prop} : ∀ {es : List (List Cell)}, (∀ x ∈ es, ∃ a, p a ∧ x = f a) → ∃ L : List α, L.length = es.length ∧ (∀ a ∈ L, p a) ∧ es = L.map f
  | [], _ => ⟨[], rfl, fun a h => by simp at h, rfl⟩
  | e :: r, h => by
    obtain ⟨a, ha, rfl⟩ := h e (by simp)
    obtain ⟨L, l1, l2, l3⟩ := all_map (es := r) fun x hx => h x (by simp [hx])
    exact ⟨a :: L, by simp [l1], fun b hb => by rcases List.mem_cons.1 hb with rfl | hb; exact ha; exact l2 b hb, by simp [l3]⟩
end Go.Sw

namespace Go.Sw
open Go Go.RowKit
set_option linter.unusedVariables false
theorem fit_mos {c : Cell} (h : Fit (.slice (.cons (.cons (.int .i64) (.cons (.int .i64) (.cons (.int .i64) .nil))) (.cons (.cons (.int .i64) (.cons (.int .i64) (.cons (.int .i64) .nil))) (.cons (.int .i64) (.cons (.int .i64) (.cons (.int .i64) .nil)))))) [c]) :
    ∃ L : List Mo9, L.length ≤ maxLen ∧ (∀ m ∈ L, True) ∧ c = .sl 9 (L.map moC) := by
  obtain ⟨es, h1, h2, rfl⟩ := fit_slice h
  obtain ⟨L, l1, l2, l3⟩ := all_map (f := moC) (p := fun _ => True) (es := es) fun x hx => by
    obtain ⟨_, _, ⟨_, _, ⟨a, _, rfl⟩, ⟨_, _, ⟨b, _, rfl⟩, ⟨_, _, ⟨c, _, rfl⟩, rfl, rfl⟩, rfl⟩, rfl⟩, ⟨_, _, ⟨_, _, ⟨d, _, rfl⟩, ⟨_, _, ⟨e, _, rfl⟩, ⟨_, _, ⟨f, _, rfl⟩, rfl, rfl⟩, rfl⟩, rfl⟩, ⟨_, _, ⟨g, _, rfl⟩, ⟨_, _, ⟨h, _, rfl⟩, ⟨_, _, ⟨i, _, rfl⟩, rfl, rfl⟩, rfl⟩, rfl⟩, rfl⟩, rfl⟩ := h2 x hx
    exact ⟨⟨a, b, c, d, e, f, g, h, i⟩, trivial, rfl⟩
  exact ⟨L, by omega, l2, by rw [l3]; rfl⟩
theorem fit_tools {c : Cell} (h : Fit (.slice (.cons (.int .i64) (.cons (.int .i64) (.cons (.int .i64) (.cons (.int .i64) (.cons (.int .i64) (.cons (.int .i64) (.cons (.int .i64) (.cons (.int .i64) .nil))))))))) [c]) :
    ∃ L : List T8, L.length ≤ maxLen ∧ (∀ t ∈ L, okK t) ∧ c = .sl 8 (L.map toC) := by
  obtain ⟨es, h1, h2, rfl⟩ := fit_slice h
  obtain ⟨L, l1, l2, l3⟩ := all_map (f := toC) (p := okK) (es := es) fun x hx => by
    obtain ⟨_, _, ⟨a, _, rfl⟩, ⟨_, _, ⟨b, wb, rfl⟩, ⟨_, _, ⟨c, _, rfl⟩, ⟨_, _, ⟨d, _, rfl⟩, ⟨_, _, ⟨e, _, rfl⟩, ⟨_, _, ⟨f, _, rfl⟩, ⟨_, _, ⟨g, _, rfl⟩, ⟨_, _, ⟨h, _, rfl⟩, rfl, rfl⟩, rfl⟩, rfl⟩, rfl⟩, rfl⟩, rfl⟩, rfl⟩, rfl⟩ := h2 x hx
    exact ⟨⟨a, b, c, d, e, f, g, h⟩, wfI64 wb, rfl⟩
  exact ⟨L, by omega, l2, by rw [l3]; rfl⟩
abbrev kindMap {H : Type} : List (Lit × DataW H) := [(.int .i64 1, .lit (.string [109, 105, 108, 108])), (.int .i64 2, .lit (.string [100, 114, 105, 108, 108])), (.int .i64 3, .lit (.string [99, 104, 97, 109, 102, 101, 114])), (.int .i64 4, .lit (.string [112, 114, 111, 98, 101]))]
theorem kind_at (k : Int) : (DataW.map (H := Unit) kindMap).atKey (.int .i64 k) (.lit (.string [])) = .lit (.string (kindName k).data.toList) := by
  by_cases h1 : k = 1
  · subst h1; rfl
  by_cases h2 : k = 2
  · subst h2; rfl
  by_cases h3 : k = 3
  · subst h3; rfl
  by_cases h4 : k = 4
  · subst h4; rfl
  have e : ∀ j : Int, ¬k = j → Lit.sameKey (.int .i64 j) (.int .i64 k) = false := fun j h => decide_eq_false fun h' => h h'.2.symm
  have hk : kindName k = ⟨#[]⟩ := by unfold kindName; rw [if_neg h1, if_neg h2, if_neg h3, if_neg h4]
  rw [hk]
  unfold DataW.atKey
  simp only [List.find?, e _ h1, e _ h2, e _ h3, e _ h4]
end Go.Sw
