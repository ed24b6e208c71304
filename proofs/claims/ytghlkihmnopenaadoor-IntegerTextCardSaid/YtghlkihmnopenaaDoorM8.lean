/-
  What the functions divide do, each call by call.
  What the functions answer, each out of its text by the abstract run.
  What the functions swarfref01.Sub, integer.Sub, swarfref01.Int64, integer.Int64, integer.DivMod answer, each out of its text by the abstract run.
  What the functions swarfref01.GCD, integer.GCD answer, each out of its text by the abstract run.
  What the functions answer, each out of its text by the abstract run.
  What the functions integer.Sqrt answer, each out of its text by the abstract run.
  Contracts under facts of the world: a stronger condition lifts them; a package's map of names.
  What the functions answer, each out of its text by the abstract run.
  A package's table of whole numbers, read off what the row lists.
  Texts of whole numbers: digits, one behind the other, and nine to a limb.
  What the functions strconv.FormatUint answer, each out of its text by the abstract run.
  What the functions answer, each out of its text by the abstract run.
  What the functions answer, each out of its text by the abstract run.
  Conditions: none.
-/
import Derived.Test.YtghlkihmnopenaaDoorM7
import Derived.Test.YtghlkihmnopenaaDoorChecked
import Derived.Maps.Keyed
import Derived.Maps.StringElems
import Derived.LaidMore
import Derived.OpenShut
import Derived.ProofKit
import Derived.Shelf.LaysM
import Derived.Shelf.Strconv.Itoa1
import Derived.Shelf.Strconv.Itoa2
import Derived.Lib.Walk
import Derived.Lib.ItoaMem
import Derived.Lib.ItoaLen
import Derived.Lib.AppendIntMem
import Derived.WalkKit
import Derived.BigCall
import Derived.BigGuard
import Derived.Lib.Itoa
import Derived.Lib.ItoaNum
import Derived.Shelf.Strings.Repeat
import Derived.Lib.Builder
import Derived.Shelf.Strings.Builder1
import Derived.Lib.Bytealg
import Derived.Lib.Strings
set_option linter.all false
namespace Go.Proofs.YtghlkihmnopenaaDoor
open Go Go.RowKit Go.Sw
set_option linter.unusedVariables false
set_option maxRecDepth 20000
namespace TfR
theorem body44 : hasBody Tryd.prog 44 = true := by kernel_rfl
theorem body45 : hasBody Tryd.prog 45 = true := by kernel_rfl
theorem body46 : hasBody Tryd.prog 46 = true := by kernel_rfl
theorem body47 : hasBody Tryd.prog 47 = true := by kernel_rfl
theorem body48 : hasBody Tryd.prog 48 = true := by kernel_rfl
theorem body49 : hasBody Tryd.prog 49 = true := by kernel_rfl
theorem el38 : Sw.elemOf Tryd.prog 38 = some (#[.int .u32 0], 1, 4) := by kernel_rfl
theorem mixed : Tryd.prog.follows .mixedOrders = true := by kernel_rfl
theorem one38 : isOne Tryd.prog 38 = true := by kernel_rfl
theorem size38 : (Tryd.prog.info? 38).map (fun i => i.size) = some 1 := by kernel_rfl
theorem sl22 : sliceOf Tryd.prog 22 = some (38, 1) := by kernel_rfl
theorem sls22 : (sliceOf Tryd.prog 22).isSome = true := by kernel_rfl
theorem und38 : Tryd.prog.underlying 38 = some (TypeDesc.int .u32) := by kernel_rfl
theorem und53 : Tryd.prog.underlying 53 = some (TypeDesc.int .u64) := by kernel_rfl
theorem unds38 : (Tryd.prog.underlying 38).isSome = true := by kernel_rfl
theorem unds53 : (Tryd.prog.underlying 53).isSome = true := by kernel_rfl
end TfR
set_option maxHeartbeats 4000000 in
theorem integer_divide_ok {w : World} {X : List Nat} (hX : ∀ m ∈ X, m < w.heap.size) {v_a : Value} {a : List Nat} (h_a : UL w X v_a (a)) {v_b : Value} {b : List Nat} (h_b : UL w X v_b (b)) (hn_a : a.length ≤ 100000000000) (hn_b : b.length ≤ 100000000000) (hb_a : Lb a) (hb_b : Lb b) (hpos : 0 < val b) :
    Calls Tryd.prog 27 #[v_a, v_b] w (Ret fun r w' => (∃ qs : List Nat, ∃ rs : List Nat, ∃ r0 r1, r = .tuple #[r0, r1] ∧ UL w' X r0 (qs) ∧ UL w' X r1 (rs) ∧ Lb qs ∧ Lb rs ∧ val a = val b * val qs + val rs ∧ val rs < val b ∧ qs.length = dql a b ∧ rs.length = drl a b) ∧ Below w.heap.size w w') := by
 refine enter (N := 179) (fn := Tryd.f27) (vs := [v_a, v_b]) Tryd.func27 rfl rfl rfl ?_
 intro fa hF
 obtain ⟨A_a, _, c_a, rfl, rfl, hu_a⟩ := h_a
 have hl_a := hu_a.len; have hc_a := hu_a.cap
 obtain ⟨A_b, _, c_b, rfl, rfl, hu_b⟩ := h_b
 have hl_b := hu_b.len; have hc_b := hu_b.cap
 replace hF : Frm 179 fa [(0, (.slice (A_a) (a.length) (c_a))), (1, (.slice (A_b) (b.length) (c_b)))] := hF
 have hS := St.refl w
 have hca := can_trimz hb_a; have hcb := can_trimz hb_b
 have hva := val_trimz a; have hvb0 := val_trimz b
 have hla := trimz_length_le a; have hlb := trimz_length_le b
 have hbn : 0 < (trimz b).length := by cases hq : trimz b with | nil => rw [hq] at hvb0; simp [val] at hvb0; omega | cons _ _ => simp
 refine c_seq ?_
 refine c_reg ?_
 refine pr hF (pa rfl <| pa rfl <| PR.nil) ?_
 clear hF fa; intro fa hF
 refine c_nil_then ?_
 refine c_seq ?_
 refine c_reg ?_
 refine pr hF (pm rfl <| PR.nil) ?_
 clear hF fa; intro fa hF
 have hC := integer_trim_ok (w := w) (X := X) (l := a) (hS.bnd hX) ⟨_, (a.length), _, rfl, (rfl), hu_a⟩
 refine st rfl (op_call hF rfl TfR.body44 (args1 (hF.ev rfl)) hC ?_)
 clear hC
 rintro _ w1 ⟨⟨A4, _, c5, rfl, rfl, hu6⟩, hb2⟩
 refine gen_ ?_; clear hF fa; intro fa hF
 replace hS := hS.call hb2; have E3 := Ext.call X hb2
 refine pr hF (pm rfl <| PR.nil) ?_
 clear hF fa; intro fa hF
 have hC := integer_trim_ok (w := w1) (X := X) (l := b) (hS.bnd hX) ⟨_, (b.length), _, rfl, (rfl), (hu_b.ext E3)⟩
 refine st rfl (op_call hF rfl TfR.body44 (args1 (hF.ev rfl)) hC ?_)
 clear hC
 rintro _ w7 ⟨⟨A10, _, c11, rfl, rfl, hu12⟩, hb8⟩
 refine gen_ ?_; clear hF fa; intro fa hF
 replace hS := hS.call hb8; have E9 := Ext.call X hb8
 refine pr hF (pa rfl <| pa rfl <| PR.nil) ?_
 clear hF fa; intro fa hF
 refine c_nil_then ?_
 refine c_seq ?_
 refine c_seq ?_
 refine c_reg ?_
 refine pr hF (pm rfl <| pg (fun _ hF => ex_len TfR.sls22 (hF.ev rfl)) <| pg (fun _ hF => ex_eql (hF.ev rfl) (hF.ev rfl)) <| PR.nil) ?_
 clear hF fa; intro fa hF
 refine c_nil_then ?_
 refine c_cond hF rfl (fun hc13 => ?_) (fun hc13 => ?_)
 ·
  have hc13p : (((trimz b).length : Nat) : Int) = 1 := by first | simpa using hc13 | exact bang_t hc13 | exact bang_f hc13
  have h1b := val_len1 (l := trimz b) (by omega)
  refine c_seq ?_
  refine c_reg ?_
  refine pr hF (pm rfl <| pm rfl <| PR.nil) ?_
  clear hF fa; intro fa hF
  obtain ⟨ad14, hA15, hq16⟩ := hu12.cl.at_ (us_get (l := (trimz b)) (i := 0) (by omega))
  refine pr hF (pg (fun _ hF => ex_idx (j := 0) TfR.sl22 (hF.ev rfl) hA15 (hF.ev rfl) (by omega) (by omega)) <| pg (fun _ hF => ex_load1 TfR.one38 (hF.ev rfl) hq16) <| PR.nil) ?_
  clear hF fa; intro fa hF
  have hC := integer_byWord_ok (w := w7) (X := X) (a := (trimz a)) (hS.bnd hX) ⟨_, ((trimz a).length), _, rfl, (rfl), (hu6.ext E9)⟩ ((trimz b).getD (0) 0) (by omega) (hca.1) (by omega) (hcb.1.getD 0)
  refine st rfl (op_call hF rfl TfR.body45 (args2 (hF.ev rfl) (hF.ev (ev_int (b := (((trimz b).getD (0) 0 : Nat) : Int)) rfl (by first | rfl | omega)))) hC ?_)
  clear hC
  rintro _ w17 ⟨⟨qs_20, rs_21, _, _, rfl, ⟨A22, _, c23, rfl, rfl, hu24⟩, ⟨A25, _, c26, rfl, rfl, hu27⟩, hp28, hp29, hp30, hp31, hp32, hp33⟩, hb18⟩
  refine gen_ ?_; clear hF fa; intro fa hF
  replace hS := hS.call hb18; have E19 := Ext.call X hb18
  have hw_lq := hp28; have hw_lr := hp29; have hw_v := hp30; have hw_l := hp31; have hw_q := hp32; have hw_r := hp33
  refine pr hF (px rfl rfl <| px rfl rfl <| pa rfl <| pa rfl <| PR.nil) ?_
  clear hF fa; intro fa hF
  replace hF : Frm 179 fa [(0, (.slice (A4) ((trimz a).length) (c5))), (1, (.slice (A10) ((trimz b).length) (c11))), (4, (.slice (A22) (qs_20.length) (c23))), (5, (.slice (A25) (rs_21.length) (c26))), (23, (.bool (decide ((((trimz b).length : Nat) : Int) = 1))))] := (hF.all ⟨rfl, rfl, rfl, rfl, rfl, trivial⟩)
  refine c_nil_then ?_
  refine c_ret ?_
  refine x_tr ?_
  refine end2 hF rfl (res_tmp hF rfl) (res_tmp hF rfl) ?_
  exact ⟨_, rfl, ⟨qs_20, rs_21, _, _, rfl, (UL.fin (L := qs_20) ⟨_, _, _, rfl, (rfl), hu24⟩ (rfl) (fun x hx => by simp [hx])), (UL.fin (L := rs_21) ⟨_, _, _, rfl, (rfl), hu27⟩ (rfl) (fun x hx => by simp [hx])), (hw_lq), (hw_lr), (by rw [← hva, ← hvb0, h1b]; exact hw_v), (by rw [← hvb0, h1b]; exact hw_l), (by unfold dql; rw [if_pos (by omega)]; omega), (by unfold drl; rw [if_pos (by omega)]; omega)⟩, hS.below⟩
 have hc13p : ¬ ((((trimz b).length : Nat) : Int) = 1) := by first | simpa using hc13 | exact bang_t hc13 | exact bang_f hc13
 have hn2 : 2 ≤ (trimz b).length := by omega
 refine c_skip ?_
 refine x_tn ?_
 refine c_seq ?_
 refine c_seq ?_
 refine c_reg ?_
 refine pr hF (pm rfl <| pm rfl <| PR.nil) ?_
 clear hF fa; intro fa hF
 have hC := integer_compare_ok (w := w7) (X := X) (a := (trimz a)) (b := (trimz b)) (hS.bnd hX) ⟨_, ((trimz a).length), _, rfl, (rfl), (hu6.ext E9)⟩ ⟨_, ((trimz b).length), _, rfl, (rfl), hu12⟩ (hca.1) (hcb.1)
 refine st rfl (op_call hF rfl TfR.body46 (args2 (hF.ev rfl) (hF.ev rfl)) hC ?_)
 clear hC
 rintro _ w34 ⟨rfl, hb35⟩
 refine gen_ ?_; clear hF fa; intro fa hF
 replace hS := hS.call hb35; have E36 := Ext.call X hb35
 refine pr hF (pg (fun _ hF => ex_lss (hF.ev rfl) (hF.ev rfl)) <| PR.nil) ?_
 clear hF fa; intro fa hF
 refine c_nil_then ?_
 refine c_cond hF rfl (fun hc37 => ?_) (fun hc37 => ?_)
 ·
  have hc37p : (cmpN (val ((trimz a))) (val ((trimz b)))) < 0 := by first | simpa using hc37 | exact bang_t hc37 | exact bang_f hc37
  have hlt0 := cmpN_lt0.1 hc37p
  refine c_seq ?_
  refine c_reg ?_
  refine pr hF (pm rfl <| PR.nil) ?_
  clear hF fa; intro fa hF
  refine st rfl (op_append (X := X) (F := []) (So := []) (l := us ([])) (m := us ((trimz a))) hF hS rfl TfR.sl22 TfR.el38 rfl rfl rfl (by simp) (OwV.nil 38) (hu6.ext (E9.trans E36)).cl (us_one _) (by simp; omega) (by simp; omega) ?_)
  intro v38 So39 w40 hO41 hS E42 hun43; refine gen_ ?_; clear hF fa; intro fa hF
  clear hun43
  rw [← us_append] at hO41
  simp only [List.nil_append] at hO41
  replace E42 : Ext w34 X w40 (bl So39 ++ X) := E42
  replace hS : St w w40 So39 := hS
  refine pr hF (pa rfl <| pa rfl <| PR.nil) ?_
  clear hF fa; intro fa hF
  refine c_nil_then ?_
  refine c_ret ?_
  refine x_tr ?_
  refine end2 hF rfl (res_tmp hF rfl) (res_tmp hF rfl) ?_
  exact ⟨_, rfl, ⟨[], (trimz a), _, _, rfl, (UL.nil_ _ _), (UL.fin (UC.of_ow (F := []) hO41 hS hX) (rfl) (fun _ h => h)), (Lb.nil), (hca.1), (by rw [hva]; simp [val]), (by omega), (by unfold dql; rw [if_neg (by omega), if_pos (by omega)]; rfl), (by unfold drl; rw [if_neg (by omega), if_pos (by omega)])⟩, hS.below⟩
 have hc37p : ¬ ((cmpN (val ((trimz a))) (val ((trimz b)))) < 0) := by first | simpa using hc37 | exact bang_t hc37 | exact bang_f hc37
 have hle0 : val (trimz b) ≤ val (trimz a) := by have := mt cmpN_lt0.2 hc37p; omega
 have hlen := len_le_of_val hca hcb hle0
 have hbtop := hcb.1.getD ((trimz b).length - 1)
 refine c_skip ?_
 refine x_tn ?_
 refine c_seq ?_
 refine c_reg ?_
 refine pr hF (pm rfl <| pg (fun _ hF => ex_len TfR.sls22 (hF.ev rfl)) <| pa rfl <| PR.nil) ?_
 clear hF fa; intro fa hF
 refine c_nil_then ?_
 refine c_seq ?_
 refine c_reg ?_
 refine pr hF (pm rfl <| pm rfl <| pg (fun _ hF => ex_sub (hF.ev rfl) (hF.ev rfl) vi64) <| PR.nil) ?_
 clear hF fa; intro fa hF
 obtain ⟨ad44, hA45, hq46⟩ := (hu12.ext E36).cl.at_ (us_get (l := (trimz b)) (i := (trimz b).length - 1) (by omega))
 refine pr hF (pg (fun _ hF => ex_idx (j := (trimz b).length - 1) TfR.sl22 (hF.ev rfl) hA45 (hF.ev rfl) (by omega) (by omega)) <| pg (fun _ hF => ex_load1 TfR.one38 (hF.ev rfl) hq46) <| pg (fun _ hF => ex_conv TfR.unds38 TfR.und53 (hF.ev rfl) (wu64n (by omega))) <| pg (fun _ hF => ex_add (hF.ev rfl) (hF.ev rfl) vu64) <| pg (fun _ hF => ex_quo (hF.ev rfl) (hF.ev rfl) (by omega) (q_u64 (x := 1000000000) (y := ((trimz b).getD ((trimz b).length - 1) 0) + 1) (by omega) (by omega) (by omega))) <| pg (fun _ hF => ex_conv TfR.unds53 TfR.und38 (hF.ev rfl) (wu32n (by have := Nat.div_le_self 1000000000 ((trimz b).getD ((trimz b).length - 1) 0 + 1); omega))) <| pa rfl <| PR.nil) ?_
 clear hF fa; intro fa hF
 replace hF : Frm 179 fa [(0, (.slice (A4) ((trimz a).length) (c5))), (1, (.slice (A10) ((trimz b).length) (c11))), (4, (.slice (none) (0) (0))), (5, (.slice (none) (0) (0))), (23, (.bool (decide ((((trimz b).length : Nat) : Int) = 1)))), (34, (.bool (decide ((cmpN (val ((trimz a))) (val ((trimz b)))) < 0)))), (6, (.int .i64 ((((trimz b).length : Nat) : Int)))), (7, (.int .u32 (((1000000000 / (((trimz b).getD ((trimz b).length - 1) 0) + 1) : Nat) : Int))))] := (hF.all ⟨rfl, rfl, rfl, rfl, rfl, rfl, rfl, rfl, trivial⟩)
 refine c_nil_then ?_
 refine c_seq ?_
 obtain ⟨sc, hsc⟩ : ∃ sc, sc = 1000000000 / ((trimz b).getD ((trimz b).length - 1) 0 + 1) := ⟨_, rfl⟩
 rw [← hsc] at hF
 have hscB := scale_lt hcb rfl hbn hsc
 refine c_reg ?_
 refine pr hF (pm rfl <| pm rfl <| PR.nil) ?_
 clear hF fa; intro fa hF
 refine st rfl (op_lit (X := X) hF hS (hS.bnd hX) rfl TfR.sl22 TfR.el38 rfl rfl (lits1 (hF.ev (ev_int (b := ((sc : Nat) : Int)) rfl (by omega)))) (fill_u1 (x := sc)) ?_)
 intro g47 w48 hg50 hS E49 hc51; refine gen_ ?_; clear hF fa; intro fa hF
 have hu52 := UC.one (l := [sc]) hc51 (by simp)
 have hC := integer_times_ok (w := w48) (X := X) (a := (trimz a)) (b := ([sc])) (hS.bnd hX) ⟨_, ((trimz a).length), _, rfl, (rfl), (hu6.ext ((E9.trans E36).trans E49))⟩ ⟨_, (1), _, rfl, (rfl), hu52⟩ (by omega) (by simp) (hca.1) (Lb.cons hscB Lb.nil)
 refine st rfl (op_call hF rfl TfR.body47 (args2 (hF.ev rfl) (hF.ev rfl)) hC ?_)
 clear hC
 rintro _ w53 ⟨⟨o_56, ⟨g57, rfl, hq58, hg59⟩, hp60, hp61, hp62⟩, hb54⟩
 refine gen_ ?_; clear hF fa; intro fa hF
 replace hS := hS.push_new hb54 hq58 hg59; have E55 := Ext.push_new X hb54 hg59
 simp [val] at hp61 hp62
 have hol := hp62; have hob := hp60
 have hu0 : val (o_56 ++ [0]) = val a * sc := by rw [val_snoc0, hp61, hva]
 refine st rfl (op_lit (X := (g57 :: X)) hF hS (hS.bnd hX) rfl TfR.sl22 TfR.el38 rfl rfl (lits1 (hF.ev (ev_int (b := ((0 : Nat) : Int)) rfl (by omega)))) (fill_u1 (x := 0)) ?_)
 intro g63 w64 hg66 hS E65 hc67; refine gen_ ?_; clear hF fa; intro fa hF
 have hu68 := UC.one (l := [0]) hc67 (by simp)
 refine st rfl (op_append (X := X) (F := []) (So := [(g57, 38, (us (o_56)).toArray)]) (l := us (o_56)) (m := us ([0])) hF hS rfl TfR.sl22 TfR.el38 rfl rfl rfl (by simp) (OwV.full 38 g57 (o_56) (o_56.length) (o_56.length) (by first | rfl | (simp; done) | omega) (by first | rfl | (simp; done) | omega) (by first | omega | (simp; omega))) hu68.cl (us_one _) (by simp; omega) (by simp; omega) ?_)
 intro v69 So70 w71 hO72 hS E73 hun74; refine gen_ ?_; clear hF fa; intro fa hF
 clear hun74
 rw [← us_append] at hO72
 replace E73 : Ext w64 (g57 :: X) w71 (bl So70 ++ X) := E73
 replace hS : St w w71 So70 := hS
 obtain ⟨g75, c76, R77, hs81, hv78, hcl79, hcm80⟩ := OwV.settle hO72 (by simp)
 unfold maxLen at hcm80
 subst hs81; subst hv78
 have hs81_ : (o_56 ++ ([0])).length = (trimz a).length + 2 := by simp; omega
 rw [hs81_] at hF hcl79
 refine pr hF (pa rfl <| PR.nil) ?_
 clear hF fa; intro fa hF
 refine c_nil_then ?_
 refine c_seq ?_
 refine c_reg ?_
 refine pr hF (pm rfl <| pm rfl <| PR.nil) ?_
 clear hF fa; intro fa hF
 refine st rfl (op_lit (X := (g75 :: X)) hF hS (hS.bnd hX) rfl TfR.sl22 TfR.el38 rfl rfl (lits1 (hF.ev (ev_int (b := ((sc : Nat) : Int)) rfl (by omega)))) (fill_u1 (x := sc)) ?_)
 intro g82 w83 hg85 hS E84 hc86; refine gen_ ?_; clear hF fa; intro fa hF
 have hu87 := UC.one (l := [sc]) hc86 (by simp)
 have hC := integer_times_ok (w := w83) (X := (g75 :: X)) (a := (trimz b)) (b := ([sc])) (hS.bnd hX) ⟨_, ((trimz b).length), _, rfl, (rfl), (hu12.ext (((((E36.trans E49).trans E55).trans E65).trans E73).trans E84))⟩ ⟨_, (1), _, rfl, (rfl), hu87⟩ (by omega) (by simp) (hcb.1) (Lb.cons hscB Lb.nil)
 refine st rfl (op_call hF rfl TfR.body47 (args2 (hF.ev rfl) (hF.ev rfl)) hC ?_)
 clear hC
 rintro _ w88 ⟨⟨o_91, ⟨g92, rfl, hq93, hg94⟩, hp95, hp96, hp97⟩, hb89⟩
 refine gen_ ?_; clear hF fa; intro fa hF
 replace hS := hS.push_new hb89 hq93 hg94; have E90 := Ext.push_new (g75 :: X) hb89 hg94
 simp [val] at hp96 hp97
 have hcv := can_trimz hp95
 obtain ⟨hsc0, _, hvn, hvtop, hvP⟩ := scale_law (v := trimz o_91) hcb rfl hbn hsc hcv (by rw [val_trimz, hp96])
 have hvb := hcv.1
 have hvL := fun i => hvb.getD i
 have hV : val (trimz o_91) = val b * sc := by rw [val_trimz, hp96, hvb0]
 have hVM : val (trimz o_91) ≤ 1000000000 ^ ((trimz b).length + 1) := by have h0 := val_lt _ hvb; rw [hvn] at h0; have := Nat.pow_le_pow_right (n := 1000000000) (by omega) (show (trimz b).length ≤ (trimz b).length + 1 by omega); omega
 obtain ⟨hS1, hn1⟩ := hS.out hX 0 rfl
 have hu98 := UC.of_box (L := o_91) (hS.get 0 rfl) hn1 (by first | omega | (simp; omega))
 have E99 : Ext w88 (g92 :: (g75 :: X)) w88 (g75 :: X) := Ext.drop (by simp +contextual)
 replace hu98 : UC w88 (g75 :: X) (some ⟨g92, 0, none⟩) (o_91).length (o_91) := hu98
 replace hS : St w w88 [(g75, 38, (us (o_56 ++ ([0])) ++ R77).toArray)] := hS1; clear hn1
 have hC := integer_trim_ok (w := w88) (X := (g75 :: X)) (l := o_91) (hS.bnd hX) (UL.cap (n := o_91.length) (c := o_91.length) hu98 (by first | rfl | (simp; done) | omega) (by first | rfl | (simp; done) | omega))
 refine st rfl (op_call hF rfl TfR.body44 (args1 (hF.ev rfl)) hC ?_)
 clear hC
 rintro _ w100 ⟨⟨A103, _, c104, rfl, rfl, hu105⟩, hb101⟩
 refine gen_ ?_; clear hF fa; intro fa hF
 replace hS := hS.call hb101; have E102 := Ext.call (g75 :: X) hb101
 refine pr hF (pa rfl <| PR.nil) ?_
 clear hF fa; intro fa hF
 refine c_nil_then ?_
 refine c_seq ?_
 refine c_reg ?_
 refine pr hF (pm rfl <| pg (fun _ hF => ex_len TfR.sls22 (hF.ev rfl)) <| pm rfl <| pg (fun _ hF => ex_sub (hF.ev rfl) (hF.ev rfl) vi64) <| PR.nil) ?_
 clear hF fa; intro fa hF
 refine st rfl (op_make (X := (g75 :: X)) (nl := ((trimz a).length + 2) - ((trimz b).length)) (nc := ((trimz a).length + 2) - ((trimz b).length)) hF hS rfl TfR.sl22 TfR.el38 rfl rfl (by omega) (by omega) (by omega) (by omega) (by omega) (made_us _) ?_)
 intro g106 w107 hg109 hS E108; refine gen_ ?_; clear hF fa; intro fa hF
 rw [Nat.mul_one] at hS
 refine pr hF (pa rfl <| PR.nil) ?_
 clear hF fa; intro fa hF
 replace hF : Frm 179 fa [(0, (.slice (A4) ((trimz a).length) (c5))), (1, (.slice (A10) ((trimz b).length) (c11))), (4, (.slice (none) (0) (0))), (5, (.slice (none) (0) (0))), (23, (.bool (decide ((((trimz b).length : Nat) : Int) = 1)))), (34, (.bool (decide ((cmpN (val ((trimz a))) (val ((trimz b)))) < 0)))), (6, (.int .i64 ((((trimz b).length : Nat) : Int)))), (7, (.int .u32 (((sc : Nat) : Int)))), (8, (.slice (some ⟨g75, 0, none⟩) ((trimz a).length + 2) (c76))), (9, (.slice (A103) ((trimz o_91).length) (c104))), (10, (.slice (some ⟨g106, 0, none⟩) (((trimz a).length + 2) - ((trimz b).length)) (((trimz a).length + 2) - ((trimz b).length))))] := (hF.all ⟨rfl, rfl, rfl, rfl, rfl, rfl, rfl, rfl, rfl, rfl, rfl, trivial⟩)
 refine c_nil_then ?_
 refine c_seq ?_
 refine c_seq ?_
 refine c_reg ?_
 refine pr hF (pm rfl <| pg (fun _ hF => ex_len TfR.sls22 (hF.ev rfl)) <| pm rfl <| pg (fun _ hF => ex_sub (hF.ev rfl) (hF.ev rfl) vi64) <| pg (fun _ hF => ex_sub (hF.ev rfl) (hF.ev rfl) vi64) <| pa rfl <| PR.nil) ?_
 clear hF fa; intro fa hF
 refine c_nil_then ?_
 refine c_block ?_
 refine c_loop (fun mu fa w' => ∃ U : List Nat, ∃ Q : List Nat, ∃ j : Nat, Frm 179 fa [(0, (.slice (A4) ((trimz a).length) (c5))), (1, (.slice (A10) ((trimz b).length) (c11))), (4, (.slice (none) (0) (0))), (5, (.slice (none) (0) (0))), (23, (.bool (decide ((((trimz b).length : Nat) : Int) = 1)))), (34, (.bool (decide ((cmpN (val ((trimz a))) (val ((trimz b)))) < 0)))), (6, (.int .i64 ((((trimz b).length : Nat) : Int)))), (7, (.int .u32 (((sc : Nat) : Int)))), (8, (.slice (some ⟨g75, 0, none⟩) ((trimz a).length + 2) (c76))), (9, (.slice (A103) ((trimz o_91).length) (c104))), (10, (.slice (some ⟨g106, 0, none⟩) (((trimz a).length + 2) - ((trimz b).length)) (((trimz a).length + 2) - ((trimz b).length)))), (11, (.int .i64 (((j : Nat) : Int) - 1)))] ∧ St w w' [(g106, 38, (us (Q)).toArray), (g75, 38, (us (U) ++ R77).toArray)] ∧ Ext w107 (g106 :: (g75 :: X)) w' (g106 :: (g75 :: X)) ∧ (j ≤ (trimz a).length + 2 - (trimz b).length) ∧ (U.length = (trimz a).length + 2) ∧ (Lb U) ∧ (Q.length = (trimz a).length + 2 - (trimz b).length) ∧ (Lb Q) ∧ (DivInv (val a * sc) (val (trimz o_91)) U Q j) ∧ j = mu) ?_ ?_
 ·
  exact ⟨_, o_56 ++ ([0]), List.replicate (((trimz a).length + 2) - ((trimz b).length)) 0, ((trimz a).length + 2 - (trimz b).length), (hF.all ⟨rfl, rfl, rfl, rfl, rfl, rfl, rfl, rfl, rfl, rfl, rfl, (lk_int rfl (by omega)), trivial⟩), hS, Ext.refl _ _, (Nat.le_refl _), (by simp; omega), (lb_snoc hob (by omega)), (by simp), (lb_zeros _), (by rw [← hu0]; exact DivInv.start (n := (trimz b).length) (by simp; omega) (by omega) (lb_snoc hob (by omega)) (by rw [show (trimz a).length + 2 - (trimz b).length + (trimz b).length - 1 = _ from (show _ = (_ : List Nat).length by rw [hol]; omega)]; exact snoc_last0 _) hvP), rfl⟩
 clear hF fa; intro n0_ fa w' hI
 clear hS
 obtain ⟨U, Q, j, hF, hS, E111, hj, hUl, hbU, hQl, hbQ, hI, rfl⟩ := hI
 rename World => w110
 refine c_seq ?_
 refine c_seq ?_
 refine c_reg ?_
 refine pr hF (pm rfl <| pg (fun _ hF => ex_geq (hF.ev rfl) (hF.ev rfl)) <| PR.nil) ?_
 clear hF fa; intro fa hF
 refine c_nil_then ?_
 refine c_cond hF rfl (fun hc112 => ?_) (fun hc112 => ?_)
 ·
  have hc112p : (((j : Nat) : Int) - 1) ≥ 0 := by first | simpa using hc112 | exact bang_t hc112 | exact bang_f hc112
  refine c_skip ?_
  refine x_tn ?_
  refine c_seq ?_
  refine c_block ?_
  refine c_seq ?_
  have hdw := hI.win (n := (trimz b).length) (by omega) (by omega) hvb hbU hvn
  have htl := top_lt hdw hn2 hvn hvb
  have hua := hbU.getD (j - 1 + (trimz b).length); have hub := hbU.getD (j - 1 + (trimz b).length - 1); have huc := hbU.getD (j - 1 + (trimz b).length - 2)
  have hva1 := hvL ((trimz b).length - 1); have hva2 := hvL ((trimz b).length - 2)
  refine drawn2 (N := 179) (L0 := [(0, (.slice (A4) ((trimz a).length) (c5))), (1, (.slice (A10) ((trimz b).length) (c11))), (4, (.slice (none) (0) (0))), (5, (.slice (none) (0) (0))), (23, (.bool (decide ((((trimz b).length : Nat) : Int) = 1)))), (34, (.bool (decide ((cmpN (val ((trimz a))) (val ((trimz b)))) < 0)))), (6, (.int .i64 ((((trimz b).length : Nat) : Int)))), (7, (.int .u32 (((sc : Nat) : Int)))), (8, (.slice (some ⟨g75, 0, none⟩) ((trimz a).length + 2) (c76))), (9, (.slice (A103) ((trimz o_91).length) (c104))), (10, (.slice (some ⟨g106, 0, none⟩) (((trimz a).length + 2) - ((trimz b).length)) (((trimz a).length + 2) - ((trimz b).length)))), (11, (.int .i64 (((j : Nat) : Int) - 1))), (70, (.bool (decide ((((j : Nat) : Int) - 1) ≥ 0))))]) [some (.slice (some ⟨g75, 0, none⟩) ((trimz a).length + 2) (c76)), some (.int .i64 (((j : Nat) : Int) - 1)), some (.int .i64 ((((trimz b).length : Nat) : Int))), some (.int .i64 ((((j : Nat) : Int) - 1) + (((trimz b).length : Nat) : Int))), some (.pointer (some ⟨g75, j - 1 + (trimz b).length, none⟩)), some (.int .u32 (((U.getD (j - 1 + (trimz b).length) 0 : Nat) : Int))), some (.int .u64 (((U.getD (j - 1 + (trimz b).length) 0 : Nat) : Int))), some (.int .u64 (((U.getD (j - 1 + (trimz b).length) 0 : Nat) : Int) * 1000000000)), some (.slice (some ⟨g75, 0, none⟩) ((trimz a).length + 2) (c76)), some (.int .i64 (((j : Nat) : Int) - 1)), some (.int .i64 ((((trimz b).length : Nat) : Int))), some (.int .i64 ((((j : Nat) : Int) - 1) + (((trimz b).length : Nat) : Int))), some (.int .i64 (((((j : Nat) : Int) - 1) + (((trimz b).length : Nat) : Int)) - 1)), some (.pointer (some ⟨g75, j - 1 + (trimz b).length - 1, none⟩)), some (.int .u32 (((U.getD (j - 1 + (trimz b).length - 1) 0 : Nat) : Int))), some (.int .u64 (((U.getD (j - 1 + (trimz b).length - 1) 0 : Nat) : Int))), some (.int .u64 ((((U.getD (j - 1 + (trimz b).length) 0 : Nat) : Int) * 1000000000) + ((U.getD (j - 1 + (trimz b).length - 1) 0 : Nat) : Int))), some (.int .u64 ((((U.getD (j - 1 + (trimz b).length) 0 : Nat) : Int) * 1000000000) + ((U.getD (j - 1 + (trimz b).length - 1) 0 : Nat) : Int)))] [] [[]] [[0], [0], [0], [0], [0], [0], [0], [0], [0], [0], [0], [0], [0], [0], [0], [0], [0], [0]] 0 [
        fun fa w' => Frm 179 fa [] ∧ St w w' [(g106, 38, (us (Q)).toArray), (g75, 38, (us (U) ++ R77).toArray)] ∧ Ext w110 (g106 :: (g75 :: X)) w' (g106 :: (g75 :: X))
      ] TfR.mixed rfl rfl rfl rfl rfl rfl (hF.all ⟨rfl, rfl, rfl, rfl, rfl, rfl, rfl, rfl, rfl, rfl, rfl, rfl, rfl, trivial⟩) rfl ⟨hF.nil, hS.drew, Ext.drew _ _⟩ ?_ ?_ ?_
  all_goals clear hF fa
  ·
   refine ⟨?_, trivial⟩
   ·
    rintro fa w' i o d v ho hd hna ⟨hA, hR⟩; exact ⟨hA.put_other v (freeOf_at (acts := []) rfl ho hd hna), hR⟩
  ·
   refine ⟨?_, ?_, ?_, ?_, ?_, ?_, ?_, ?_, ?_, ?_, ?_, ?_, ?_, ?_, ?_, ?_, ?_, ?_, trivial⟩
   ·
    refine .inl ⟨rfl, _, _, rfl, rfl, fun s fa w' hΦ hF hB K hK => ?_⟩
    exact fl_val rfl rfl rfl (ex_move (hF.ev rfl)) hK
   ·
    refine .inl ⟨rfl, _, _, rfl, rfl, fun s fa w' hΦ hF hB K hK => ?_⟩
    exact fl_val rfl rfl rfl (ex_move (hF.ev rfl)) hK
   ·
    refine .inl ⟨rfl, _, _, rfl, rfl, fun s fa w' hΦ hF hB K hK => ?_⟩
    exact fl_val rfl rfl rfl (ex_move (hF.ev rfl)) hK
   ·
    refine .inl ⟨rfl, _, _, rfl, rfl, fun s fa w' hΦ hF hB K hK => ?_⟩
    replace hF := hF.cons (hB.val 1 _ 74 _ rfl rfl rfl rfl)
    replace hF := hF.cons (hB.val 2 _ 75 _ rfl rfl rfl rfl)
    exact fl_val rfl rfl rfl (ex_add (hF.ev rfl) (hF.ev rfl) vi64) hK
   ·
    refine .inl ⟨rfl, _, _, rfl, rfl, fun s fa w' hΦ hF hB K hK => ?_⟩
    replace hF := hF.cons (hB.val 0 _ 73 _ rfl rfl rfl rfl)
    replace hF := hF.cons (hB.val 3 _ 76 _ rfl rfl rfl rfl)
    exact fl_val rfl rfl rfl (ex_idxo (j := j - 1 + (trimz b).length) TfR.sl22 (hF.ev rfl) (hF.ev rfl) (by omega) (by omega)) hK
   ·
    refine .inr (.inl ⟨rfl, _, _, rfl, rfl, ?_, trivial⟩)
    ·
     intro fa w' hΦ hF hB K hK
     obtain ⟨hA, hS, E_w'⟩ := hΦ
     replace hF := hF.cons (hB.val 4 _ 77 _ rfl rfl rfl rfl)
     exact fl_val rfl rfl rfl (ex_load1b TfR.one38 (hF.ev rfl) (hS.get 1 rfl) (us_arr2 (by first | omega | (simp; omega)))) hK
   ·
    refine .inl ⟨rfl, _, _, rfl, rfl, fun s fa w' hΦ hF hB K hK => ?_⟩
    replace hF := hF.cons (hB.val 5 _ 78 _ rfl rfl rfl rfl)
    exact fl_val rfl rfl rfl (ex_conv TfR.unds38 TfR.und53 (hF.ev rfl) (wu64n (by omega))) hK
   ·
    refine .inl ⟨rfl, _, _, rfl, rfl, fun s fa w' hΦ hF hB K hK => ?_⟩
    replace hF := hF.cons (hB.val 6 _ 79 _ rfl rfl rfl rfl)
    exact fl_val rfl rfl rfl (ex_mul (hF.ev rfl) (hF.ev rfl) vu64) hK
   ·
    refine .inl ⟨rfl, _, _, rfl, rfl, fun s fa w' hΦ hF hB K hK => ?_⟩
    exact fl_val rfl rfl rfl (ex_move (hF.ev rfl)) hK
   ·
    refine .inl ⟨rfl, _, _, rfl, rfl, fun s fa w' hΦ hF hB K hK => ?_⟩
    exact fl_val rfl rfl rfl (ex_move (hF.ev rfl)) hK
   ·
    refine .inl ⟨rfl, _, _, rfl, rfl, fun s fa w' hΦ hF hB K hK => ?_⟩
    exact fl_val rfl rfl rfl (ex_move (hF.ev rfl)) hK
   ·
    refine .inl ⟨rfl, _, _, rfl, rfl, fun s fa w' hΦ hF hB K hK => ?_⟩
    replace hF := hF.cons (hB.val 9 _ 82 _ rfl rfl rfl rfl)
    replace hF := hF.cons (hB.val 10 _ 83 _ rfl rfl rfl rfl)
    exact fl_val rfl rfl rfl (ex_add (hF.ev rfl) (hF.ev rfl) vi64) hK
   ·
    refine .inl ⟨rfl, _, _, rfl, rfl, fun s fa w' hΦ hF hB K hK => ?_⟩
    replace hF := hF.cons (hB.val 11 _ 84 _ rfl rfl rfl rfl)
    exact fl_val rfl rfl rfl (ex_sub (hF.ev rfl) (hF.ev rfl) vi64) hK
   ·
    refine .inl ⟨rfl, _, _, rfl, rfl, fun s fa w' hΦ hF hB K hK => ?_⟩
    replace hF := hF.cons (hB.val 8 _ 81 _ rfl rfl rfl rfl)
    replace hF := hF.cons (hB.val 12 _ 85 _ rfl rfl rfl rfl)
    exact fl_val rfl rfl rfl (ex_idxo (j := j - 1 + (trimz b).length - 1) TfR.sl22 (hF.ev rfl) (hF.ev rfl) (by omega) (by omega)) hK
   ·
    refine .inr (.inl ⟨rfl, _, _, rfl, rfl, ?_, trivial⟩)
    ·
     intro fa w' hΦ hF hB K hK
     obtain ⟨hA, hS, E_w'⟩ := hΦ
     replace hF := hF.cons (hB.val 13 _ 86 _ rfl rfl rfl rfl)
     exact fl_val rfl rfl rfl (ex_load1b TfR.one38 (hF.ev rfl) (hS.get 1 rfl) (us_arr2 (by first | omega | (simp; omega)))) hK
   ·
    refine .inl ⟨rfl, _, _, rfl, rfl, fun s fa w' hΦ hF hB K hK => ?_⟩
    replace hF := hF.cons (hB.val 14 _ 87 _ rfl rfl rfl rfl)
    exact fl_val rfl rfl rfl (ex_conv TfR.unds38 TfR.und53 (hF.ev rfl) (wu64n (by omega))) hK
   ·
    refine .inl ⟨rfl, _, _, rfl, rfl, fun s fa w' hΦ hF hB K hK => ?_⟩
    replace hF := hF.cons (hB.val 7 _ 80 _ rfl rfl rfl rfl)
    replace hF := hF.cons (hB.val 15 _ 88 _ rfl rfl rfl rfl)
    exact fl_val rfl rfl rfl (ex_add (hF.ev rfl) (hF.ev rfl) vu64) hK
   ·
    refine .inl ⟨rfl, _, _, rfl, rfl, fun s fa w' hΦ hF hB K hK => ?_⟩
    replace hF := hF.cons (hB.val 16 _ 89 _ rfl rfl rfl rfl)
    exact fl_val rfl rfl rfl (ex_assign (hF.ev rfl)) hK
  intro fa w113 hΦ hF hC
  obtain ⟨hA, hS, E_w113⟩ := hΦ
  replace hF := hF.cons (hC 17 _ 12 _ rfl rfl rfl)
  clear hA hC
  refine x_tn ?_
  refine c_seq ?_
  obtain ⟨ad_94, hA_94, hq_94⟩ := (hu105.ext ((E108.trans E111).trans E_w113)).cl.at2 (us_get (l := (trimz o_91)) (i := (trimz b).length - 1) (by omega))
  obtain ⟨ad_102, hA_102, hq_102⟩ := (hu105.ext ((E108.trans E111).trans E_w113)).cl.at2 (us_get (l := (trimz o_91)) (i := (trimz b).length - 1) (by omega))
  refine drawn2 (N := 179) (L0 := [(0, (.slice (A4) ((trimz a).length) (c5))), (1, (.slice (A10) ((trimz b).length) (c11))), (4, (.slice (none) (0) (0))), (5, (.slice (none) (0) (0))), (23, (.bool (decide ((((trimz b).length : Nat) : Int) = 1)))), (34, (.bool (decide ((cmpN (val ((trimz a))) (val ((trimz b)))) < 0)))), (6, (.int .i64 ((((trimz b).length : Nat) : Int)))), (7, (.int .u32 (((sc : Nat) : Int)))), (8, (.slice (some ⟨g75, 0, none⟩) ((trimz a).length + 2) (c76))), (9, (.slice (A103) ((trimz o_91).length) (c104))), (10, (.slice (some ⟨g106, 0, none⟩) (((trimz a).length + 2) - ((trimz b).length)) (((trimz a).length + 2) - ((trimz b).length)))), (11, (.int .i64 (((j : Nat) : Int) - 1))), (70, (.bool (decide ((((j : Nat) : Int) - 1) ≥ 0)))), (12, (.int .u64 ((((U.getD (j - 1 + (trimz b).length) 0 : Nat) : Int) * 1000000000) + ((U.getD (j - 1 + (trimz b).length - 1) 0 : Nat) : Int))))]) [some (.int .u64 ((((U.getD (j - 1 + (trimz b).length) 0 : Nat) : Int) * 1000000000) + ((U.getD (j - 1 + (trimz b).length - 1) 0 : Nat) : Int))), some (.slice (A103) ((trimz o_91).length) (c104)), some (.int .i64 ((((trimz b).length : Nat) : Int))), some (.int .i64 ((((trimz b).length : Nat) : Int) - 1)), some (.pointer (some (ad_94.add ((trimz b).length - 1)))), some (.int .u32 ((((trimz o_91).getD ((trimz b).length - 1) 0 : Nat) : Int))), some (.int .u64 ((((trimz o_91).getD ((trimz b).length - 1) 0 : Nat) : Int))), some (.int .u64 ((((((U.getD (j - 1 + (trimz b).length) 0) * 1000000000) + (U.getD (j - 1 + (trimz b).length - 1) 0)) / ((trimz o_91).getD ((trimz b).length - 1) 0) : Nat) : Int))), some (.int .u64 ((((U.getD (j - 1 + (trimz b).length) 0 : Nat) : Int) * 1000000000) + ((U.getD (j - 1 + (trimz b).length - 1) 0 : Nat) : Int))), some (.slice (A103) ((trimz o_91).length) (c104)), some (.int .i64 ((((trimz b).length : Nat) : Int))), some (.int .i64 ((((trimz b).length : Nat) : Int) - 1)), some (.pointer (some (ad_102.add ((trimz b).length - 1)))), some (.int .u32 ((((trimz o_91).getD ((trimz b).length - 1) 0 : Nat) : Int))), some (.int .u64 ((((trimz o_91).getD ((trimz b).length - 1) 0 : Nat) : Int))), some (.int .u64 ((((((U.getD (j - 1 + (trimz b).length) 0) * 1000000000) + (U.getD (j - 1 + (trimz b).length - 1) 0)) % ((trimz o_91).getD ((trimz b).length - 1) 0) : Nat) : Int))), some (.int .u64 ((((((U.getD (j - 1 + (trimz b).length) 0) * 1000000000) + (U.getD (j - 1 + (trimz b).length - 1) 0)) / ((trimz o_91).getD ((trimz b).length - 1) 0) : Nat) : Int))), some (.int .u64 ((((((U.getD (j - 1 + (trimz b).length) 0) * 1000000000) + (U.getD (j - 1 + (trimz b).length - 1) 0)) % ((trimz o_91).getD ((trimz b).length - 1) 0) : Nat) : Int)))] [] [[]] [[0], [0], [0], [0], [0], [0], [0], [0], [0], [0], [0], [0], [0], [0], [0], [0], [0], [0]] 0 [
        fun fa w' => Frm 179 fa [] ∧ St w w' [(g106, 38, (us (Q)).toArray), (g75, 38, (us (U) ++ R77).toArray)] ∧ Ext w113 (g106 :: (g75 :: X)) w' (g106 :: (g75 :: X))
      ] TfR.mixed rfl rfl rfl rfl rfl rfl (hF.all ⟨rfl, rfl, rfl, rfl, rfl, rfl, rfl, rfl, rfl, rfl, rfl, rfl, rfl, rfl, trivial⟩) rfl ⟨hF.nil, hS.drew, Ext.drew _ _⟩ ?_ ?_ ?_
  all_goals clear hF fa
  ·
   refine ⟨?_, trivial⟩
   ·
    rintro fa w' i o d v ho hd hna ⟨hA, hR⟩; exact ⟨hA.put_other v (freeOf_at (acts := []) rfl ho hd hna), hR⟩
  ·
   refine ⟨?_, ?_, ?_, ?_, ?_, ?_, ?_, ?_, ?_, ?_, ?_, ?_, ?_, ?_, ?_, ?_, ?_, ?_, trivial⟩
   ·
    refine .inl ⟨rfl, _, _, rfl, rfl, fun s fa w' hΦ hF hB K hK => ?_⟩
    exact fl_val rfl rfl rfl (ex_move (hF.ev rfl)) hK
   ·
    refine .inl ⟨rfl, _, _, rfl, rfl, fun s fa w' hΦ hF hB K hK => ?_⟩
    exact fl_val rfl rfl rfl (ex_move (hF.ev rfl)) hK
   ·
    refine .inl ⟨rfl, _, _, rfl, rfl, fun s fa w' hΦ hF hB K hK => ?_⟩
    exact fl_val rfl rfl rfl (ex_move (hF.ev rfl)) hK
   ·
    refine .inl ⟨rfl, _, _, rfl, rfl, fun s fa w' hΦ hF hB K hK => ?_⟩
    replace hF := hF.cons (hB.val 2 _ 92 _ rfl rfl rfl rfl)
    exact fl_val rfl rfl rfl (ex_sub (hF.ev rfl) (hF.ev rfl) vi64) hK
   ·
    refine .inl ⟨rfl, _, _, rfl, rfl, fun s fa w' hΦ hF hB K hK => ?_⟩
    replace hF := hF.cons (hB.val 1 _ 91 _ rfl rfl rfl rfl)
    replace hF := hF.cons (hB.val 3 _ 93 _ rfl rfl rfl rfl)
    exact fl_val rfl rfl rfl (ex_idx (j := (trimz b).length - 1) TfR.sl22 (hF.ev rfl) hA_94 (hF.ev rfl) (by omega) (by omega)) hK
   ·
    refine .inr (.inl ⟨rfl, _, _, rfl, rfl, ?_, trivial⟩)
    ·
     intro fa w' hΦ hF hB K hK
     obtain ⟨hA, hS, E_w'⟩ := hΦ
     replace hF := hF.cons (hB.val 4 _ 94 _ rfl rfl rfl rfl)
     exact fl_val rfl rfl rfl (ex_load1 TfR.one38 (hF.ev rfl) (hq_94 E_w')) hK
   ·
    refine .inl ⟨rfl, _, _, rfl, rfl, fun s fa w' hΦ hF hB K hK => ?_⟩
    replace hF := hF.cons (hB.val 5 _ 95 _ rfl rfl rfl rfl)
    exact fl_val rfl rfl rfl (ex_conv TfR.unds38 TfR.und53 (hF.ev rfl) (wu64n (by omega))) hK
   ·
    refine .inl ⟨rfl, _, _, rfl, rfl, fun s fa w' hΦ hF hB K hK => ?_⟩
    replace hF := hF.cons (hB.val 0 _ 90 _ rfl rfl rfl rfl)
    replace hF := hF.cons (hB.val 6 _ 96 _ rfl rfl rfl rfl)
    exact fl_val rfl rfl rfl (ex_quo (hF.ev rfl) (hF.ev rfl) (by omega) (q_u64 (x := ((U.getD (j - 1 + (trimz b).length) 0) * 1000000000) + (U.getD (j - 1 + (trimz b).length - 1) 0)) (y := (trimz o_91).getD ((trimz b).length - 1) 0) (by omega) (by omega) (by omega))) hK
   ·
    refine .inl ⟨rfl, _, _, rfl, rfl, fun s fa w' hΦ hF hB K hK => ?_⟩
    exact fl_val rfl rfl rfl (ex_move (hF.ev rfl)) hK
   ·
    refine .inl ⟨rfl, _, _, rfl, rfl, fun s fa w' hΦ hF hB K hK => ?_⟩
    exact fl_val rfl rfl rfl (ex_move (hF.ev rfl)) hK
   ·
    refine .inl ⟨rfl, _, _, rfl, rfl, fun s fa w' hΦ hF hB K hK => ?_⟩
    exact fl_val rfl rfl rfl (ex_move (hF.ev rfl)) hK
   ·
    refine .inl ⟨rfl, _, _, rfl, rfl, fun s fa w' hΦ hF hB K hK => ?_⟩
    replace hF := hF.cons (hB.val 10 _ 100 _ rfl rfl rfl rfl)
    exact fl_val rfl rfl rfl (ex_sub (hF.ev rfl) (hF.ev rfl) vi64) hK
   ·
    refine .inl ⟨rfl, _, _, rfl, rfl, fun s fa w' hΦ hF hB K hK => ?_⟩
    replace hF := hF.cons (hB.val 9 _ 99 _ rfl rfl rfl rfl)
    replace hF := hF.cons (hB.val 11 _ 101 _ rfl rfl rfl rfl)
    exact fl_val rfl rfl rfl (ex_idx (j := (trimz b).length - 1) TfR.sl22 (hF.ev rfl) hA_102 (hF.ev rfl) (by omega) (by omega)) hK
   ·
    refine .inr (.inl ⟨rfl, _, _, rfl, rfl, ?_, trivial⟩)
    ·
     intro fa w' hΦ hF hB K hK
     obtain ⟨hA, hS, E_w'⟩ := hΦ
     replace hF := hF.cons (hB.val 12 _ 102 _ rfl rfl rfl rfl)
     exact fl_val rfl rfl rfl (ex_load1 TfR.one38 (hF.ev rfl) (hq_102 E_w')) hK
   ·
    refine .inl ⟨rfl, _, _, rfl, rfl, fun s fa w' hΦ hF hB K hK => ?_⟩
    replace hF := hF.cons (hB.val 13 _ 103 _ rfl rfl rfl rfl)
    exact fl_val rfl rfl rfl (ex_conv TfR.unds38 TfR.und53 (hF.ev rfl) (wu64n (by omega))) hK
   ·
    refine .inl ⟨rfl, _, _, rfl, rfl, fun s fa w' hΦ hF hB K hK => ?_⟩
    replace hF := hF.cons (hB.val 8 _ 98 _ rfl rfl rfl rfl)
    replace hF := hF.cons (hB.val 14 _ 104 _ rfl rfl rfl rfl)
    exact fl_val rfl rfl rfl (ex_rem (hF.ev rfl) (hF.ev rfl) (by omega) (r_any (x := ((U.getD (j - 1 + (trimz b).length) 0) * 1000000000) + (U.getD (j - 1 + (trimz b).length - 1) 0)) (y := (trimz o_91).getD ((trimz b).length - 1) 0) (by omega) (by omega))) hK
   ·
    refine .inl ⟨rfl, _, _, rfl, rfl, fun s fa w' hΦ hF hB K hK => ?_⟩
    replace hF := hF.cons (hB.val 7 _ 97 _ rfl rfl rfl rfl)
    exact fl_val rfl rfl rfl (ex_assign (hF.ev rfl)) hK
   ·
    refine .inl ⟨rfl, _, _, rfl, rfl, fun s fa w' hΦ hF hB K hK => ?_⟩
    replace hF := hF.cons (hB.val 15 _ 105 _ rfl rfl rfl rfl)
    exact fl_val rfl rfl rfl (ex_assign (hF.ev rfl)) hK
  intro fa w114 hΦ hF hC
  obtain ⟨hA, hS, E_w114⟩ := hΦ
  replace hF := hF.cons (hC 16 _ 13 _ rfl rfl rfl)
  replace hF := hF.cons (hC 17 _ 14 _ rfl rfl rfl)
  clear hA hC
  refine x_tn ?_
  refine c_cut (fun fa w' => ∃ gs : Nat, Frm 179 fa [(0, (.slice (A4) ((trimz a).length) (c5))), (1, (.slice (A10) ((trimz b).length) (c11))), (4, (.slice (none) (0) (0))), (5, (.slice (none) (0) (0))), (23, (.bool (decide ((((trimz b).length : Nat) : Int) = 1)))), (34, (.bool (decide ((cmpN (val ((trimz a))) (val ((trimz b)))) < 0)))), (6, (.int .i64 ((((trimz b).length : Nat) : Int)))), (7, (.int .u32 (((sc : Nat) : Int)))), (8, (.slice (some ⟨g75, 0, none⟩) ((trimz a).length + 2) (c76))), (9, (.slice (A103) ((trimz o_91).length) (c104))), (10, (.slice (some ⟨g106, 0, none⟩) (((trimz a).length + 2) - ((trimz b).length)) (((trimz a).length + 2) - ((trimz b).length)))), (11, (.int .i64 (((j : Nat) : Int) - 1))), (70, (.bool (decide ((((j : Nat) : Int) - 1) ≥ 0)))), (12, (.int .u64 ((((U.getD (j - 1 + (trimz b).length) 0 : Nat) : Int) * 1000000000) + ((U.getD (j - 1 + (trimz b).length - 1) 0 : Nat) : Int)))), (13, (.int .u64 (((gs : Nat) : Int))))] ∧ St w w' [(g106, 38, (us (Q)).toArray), (g75, 38, (us (U) ++ R77).toArray)] ∧ Ext w114 (g106 :: (g75 :: X)) w' (g106 :: (g75 :: X)) ∧ (gs < 1000000000) ∧ (gs * val (trimz o_91) ≤ val (win U (j - 1) ((trimz b).length + 1)) + val (trimz o_91)) ∧ (val (win U (j - 1) ((trimz b).length + 1)) < (gs + 1) * val (trimz o_91))) ?_ ?_
  ·
   refine c_block ?_
   refine c_loop (fun mu fa w' => ∃ g : Nat, ∃ r : Nat, Frm 179 fa [(0, (.slice (A4) ((trimz a).length) (c5))), (1, (.slice (A10) ((trimz b).length) (c11))), (4, (.slice (none) (0) (0))), (5, (.slice (none) (0) (0))), (23, (.bool (decide ((((trimz b).length : Nat) : Int) = 1)))), (34, (.bool (decide ((cmpN (val ((trimz a))) (val ((trimz b)))) < 0)))), (6, (.int .i64 ((((trimz b).length : Nat) : Int)))), (7, (.int .u32 (((sc : Nat) : Int)))), (8, (.slice (some ⟨g75, 0, none⟩) ((trimz a).length + 2) (c76))), (9, (.slice (A103) ((trimz o_91).length) (c104))), (10, (.slice (some ⟨g106, 0, none⟩) (((trimz a).length + 2) - ((trimz b).length)) (((trimz a).length + 2) - ((trimz b).length)))), (11, (.int .i64 (((j : Nat) : Int) - 1))), (70, (.bool (decide ((((j : Nat) : Int) - 1) ≥ 0)))), (12, (.int .u64 ((((U.getD (j - 1 + (trimz b).length) 0 : Nat) : Int) * 1000000000) + ((U.getD (j - 1 + (trimz b).length - 1) 0 : Nat) : Int)))), (13, (.int .u64 (((g : Nat) : Int)))), (14, (.int .u64 (((r : Nat) : Int))))] ∧ St w w' [(g106, 38, (us (Q)).toArray), (g75, 38, (us (U) ++ R77).toArray)] ∧ Ext w114 (g106 :: (g75 :: X)) w' (g106 :: (g75 :: X)) ∧ (g * (trimz o_91).getD ((trimz b).length - 1) 0 + r = U.getD (j - 1 + (trimz b).length) 0 * 1000000000 + U.getD (j - 1 + (trimz b).length - 1) 0) ∧ (r < 1000000000) ∧ (g ≤ 1000000001) ∧ (val (win U (j - 1) ((trimz b).length + 1)) < (g + 1) * val (trimz o_91)) ∧ g = mu) ?_ ?_
   ·
    exact ⟨_, (((U.getD (j - 1 + (trimz b).length) 0) * 1000000000) + (U.getD (j - 1 + (trimz b).length - 1) 0)) / ((trimz o_91).getD ((trimz b).length - 1) 0), (((U.getD (j - 1 + (trimz b).length) 0) * 1000000000) + (U.getD (j - 1 + (trimz b).length - 1) 0)) % ((trimz o_91).getD ((trimz b).length - 1) 0), (hF.all ⟨rfl, rfl, rfl, rfl, rfl, rfl, rfl, rfl, rfl, rfl, rfl, rfl, rfl, rfl, (lk_int rfl (by omega)), (lk_int rfl (by omega)), trivial⟩), hS, Ext.refl _ _, (by rw [Nat.mul_comm]; exact Nat.div_add_mod _ _), (Nat.lt_of_lt_of_le (Nat.mod_lt _ (by omega)) (by omega)), ((gs_init hdw hn2 hvn hvb hbU hvtop rfl).2), ((gs_init hdw hn2 hvn hvb hbU hvtop rfl).1), rfl⟩
   clear hF fa; intro n1_ fa w' hI
   clear hS
   obtain ⟨g, r, hF, hS, E118, hgr, hrb, hgb, hgw, rfl⟩ := hI
   rename World => w117
   have hgm : g * (trimz o_91).getD ((trimz b).length - 2) 0 ≤ 1000000001 * 999999999 := Nat.mul_le_mul hgb (by have := hvL ((trimz b).length - 2); omega)
   refine c_seq ?_
   refine c_seq ?_
   rcases Bool.eq_false_or_eq_true (decide (((g : Nat) : Int) ≥ 1000000000)) with hk119 | hk119
   ·
    have hk119p := hk119; simp at hk119p
    have hgB := of_decide_eq_true hk119
    have hgp : 0 < g := by omega
    have hw1 := gs_big (g := g) hdw (by omega)
    refine drawn2 (N := 179) (L0 := [(0, (.slice (A4) ((trimz a).length) (c5))), (1, (.slice (A10) ((trimz b).length) (c11))), (4, (.slice (none) (0) (0))), (5, (.slice (none) (0) (0))), (23, (.bool (decide ((((trimz b).length : Nat) : Int) = 1)))), (34, (.bool (decide ((cmpN (val ((trimz a))) (val ((trimz b)))) < 0)))), (6, (.int .i64 ((((trimz b).length : Nat) : Int)))), (7, (.int .u32 (((sc : Nat) : Int)))), (8, (.slice (some ⟨g75, 0, none⟩) ((trimz a).length + 2) (c76))), (9, (.slice (A103) ((trimz o_91).length) (c104))), (10, (.slice (some ⟨g106, 0, none⟩) (((trimz a).length + 2) - ((trimz b).length)) (((trimz a).length + 2) - ((trimz b).length)))), (11, (.int .i64 (((j : Nat) : Int) - 1))), (70, (.bool (decide ((((j : Nat) : Int) - 1) ≥ 0)))), (12, (.int .u64 ((((U.getD (j - 1 + (trimz b).length) 0 : Nat) : Int) * 1000000000) + ((U.getD (j - 1 + (trimz b).length - 1) 0 : Nat) : Int)))), (13, (.int .u64 (((g : Nat) : Int)))), (14, (.int .u64 (((r : Nat) : Int))))]) [some (.int .u64 (((g : Nat) : Int))), some (.bool (true)), some (.bool (true)), some undef, some undef, some undef, some undef, some undef, some undef, some undef, some undef, some undef, some undef, some undef, some undef, some undef, some undef, some undef, some undef, some undef, some undef, some undef, some undef, some (.bool (true))] [] [[]] [[0], [0], [0], [0], [0], [0], [0], [0], [0], [0], [0], [0], [0], [0], [0], [0], [0], [0], [0], [0], [0], [0], [0], [0]] 0 [
          fun fa w' => Frm 179 fa [] ∧ St w w' [(g106, 38, (us (Q)).toArray), (g75, 38, (us (U) ++ R77).toArray)] ∧ Ext w117 (g106 :: (g75 :: X)) w' (g106 :: (g75 :: X))
        ] TfR.mixed rfl rfl rfl rfl rfl rfl (hF.all ⟨rfl, rfl, rfl, rfl, rfl, rfl, rfl, rfl, rfl, rfl, rfl, rfl, rfl, rfl, rfl, rfl, trivial⟩) rfl ⟨hF.nil, hS.drew, Ext.drew _ _⟩ ?_ ?_ ?_
    all_goals clear hF fa
    ·
     refine ⟨?_, trivial⟩
     ·
      rintro fa w' i o d v ho hd hna ⟨hA, hR⟩; exact ⟨hA.put_other v (freeOf_at (acts := []) rfl ho hd hna), hR⟩
    ·
     refine ⟨?_, ?_, ?_, ?_, ?_, ?_, ?_, ?_, ?_, ?_, ?_, ?_, ?_, ?_, ?_, ?_, ?_, ?_, ?_, ?_, ?_, ?_, ?_, ?_, trivial⟩
     ·
      refine .inl ⟨rfl, _, _, rfl, rfl, fun s fa w' hΦ hF hB K hK => ?_⟩
      exact fl_val rfl rfl rfl (ex_move (hF.ev rfl)) hK
     ·
      refine .inl ⟨rfl, _, _, rfl, rfl, fun s fa w' hΦ hF hB K hK => ?_⟩
      replace hF := hF.cons (hB.val 0 _ 106 _ rfl rfl rfl rfl)
      exact fl_val rfl rfl rfl (ex_b hk119 (ex_geq (hF.ev rfl) (hF.ev rfl))) hK
     ·
      refine .inl ⟨rfl, _, _, rfl, rfl, fun s fa w' hΦ hF hB K hK => ?_⟩
      replace hF := hF.cons (hB.val 1 _ 107 _ rfl rfl rfl rfl)
      exact fl_val rfl rfl rfl (ex_move (hF.ev rfl)) hK
     ·
      refine .inl ⟨rfl, _, _, rfl, rfl, fun s fa w' hΦ hF hB K hK => ?_⟩
      replace hF := hF.cons (hB.val 2 _ 108 _ rfl rfl rfl rfl)
      exact fl_skip hF rfl rfl rfl rfl rfl hK
     ·
      refine .inl ⟨rfl, _, _, rfl, rfl, fun s fa w' hΦ hF hB K hK => ?_⟩
      replace hF := hF.cons (hB.val 2 _ 108 _ rfl rfl rfl rfl)
      exact fl_skip hF rfl rfl rfl rfl rfl hK
     ·
      refine .inl ⟨rfl, _, _, rfl, rfl, fun s fa w' hΦ hF hB K hK => ?_⟩
      replace hF := hF.cons (hB.val 2 _ 108 _ rfl rfl rfl rfl)
      exact fl_skip hF rfl rfl rfl rfl rfl hK
     ·
      refine .inl ⟨rfl, _, _, rfl, rfl, fun s fa w' hΦ hF hB K hK => ?_⟩
      replace hF := hF.cons (hB.val 5 _ 111 _ rfl rfl rfl rfl)
      replace hF := hF.cons (hB.val 2 _ 108 _ rfl rfl rfl rfl)
      exact fl_skip hF rfl rfl rfl rfl rfl hK
     ·
      refine .inl ⟨rfl, _, _, rfl, rfl, fun s fa w' hΦ hF hB K hK => ?_⟩
      replace hF := hF.cons (hB.val 4 _ 110 _ rfl rfl rfl rfl)
      replace hF := hF.cons (hB.val 6 _ 112 _ rfl rfl rfl rfl)
      replace hF := hF.cons (hB.val 2 _ 108 _ rfl rfl rfl rfl)
      exact fl_skip hF rfl rfl rfl rfl rfl hK
     ·
      refine .inl ⟨rfl, _, _, rfl, rfl, fun s fa w' hΦ hF hB K hK => ?_⟩
      replace hF := hF.cons (hB.val 7 _ 113 _ rfl rfl rfl rfl)
      replace hF := hF.cons (hB.val 2 _ 108 _ rfl rfl rfl rfl)
      exact fl_skip hF rfl rfl rfl rfl rfl hK
     ·
      refine .inl ⟨rfl, _, _, rfl, rfl, fun s fa w' hΦ hF hB K hK => ?_⟩
      replace hF := hF.cons (hB.val 8 _ 114 _ rfl rfl rfl rfl)
      replace hF := hF.cons (hB.val 2 _ 108 _ rfl rfl rfl rfl)
      exact fl_skip hF rfl rfl rfl rfl rfl hK
     ·
      refine .inl ⟨rfl, _, _, rfl, rfl, fun s fa w' hΦ hF hB K hK => ?_⟩
      replace hF := hF.cons (hB.val 3 _ 109 _ rfl rfl rfl rfl)
      replace hF := hF.cons (hB.val 9 _ 115 _ rfl rfl rfl rfl)
      replace hF := hF.cons (hB.val 2 _ 108 _ rfl rfl rfl rfl)
      exact fl_skip hF rfl rfl rfl rfl rfl hK
     ·
      refine .inl ⟨rfl, _, _, rfl, rfl, fun s fa w' hΦ hF hB K hK => ?_⟩
      replace hF := hF.cons (hB.val 2 _ 108 _ rfl rfl rfl rfl)
      exact fl_skip hF rfl rfl rfl rfl rfl hK
     ·
      refine .inl ⟨rfl, _, _, rfl, rfl, fun s fa w' hΦ hF hB K hK => ?_⟩
      replace hF := hF.cons (hB.val 11 _ 117 _ rfl rfl rfl rfl)
      replace hF := hF.cons (hB.val 2 _ 108 _ rfl rfl rfl rfl)
      exact fl_skip hF rfl rfl rfl rfl rfl hK
     ·
      refine .inl ⟨rfl, _, _, rfl, rfl, fun s fa w' hΦ hF hB K hK => ?_⟩
      replace hF := hF.cons (hB.val 2 _ 108 _ rfl rfl rfl rfl)
      exact fl_skip hF rfl rfl rfl rfl rfl hK
     ·
      refine .inl ⟨rfl, _, _, rfl, rfl, fun s fa w' hΦ hF hB K hK => ?_⟩
      replace hF := hF.cons (hB.val 2 _ 108 _ rfl rfl rfl rfl)
      exact fl_skip hF rfl rfl rfl rfl rfl hK
     ·
      refine .inl ⟨rfl, _, _, rfl, rfl, fun s fa w' hΦ hF hB K hK => ?_⟩
      replace hF := hF.cons (hB.val 2 _ 108 _ rfl rfl rfl rfl)
      exact fl_skip hF rfl rfl rfl rfl rfl hK
     ·
      refine .inl ⟨rfl, _, _, rfl, rfl, fun s fa w' hΦ hF hB K hK => ?_⟩
      replace hF := hF.cons (hB.val 14 _ 120 _ rfl rfl rfl rfl)
      replace hF := hF.cons (hB.val 15 _ 121 _ rfl rfl rfl rfl)
      replace hF := hF.cons (hB.val 2 _ 108 _ rfl rfl rfl rfl)
      exact fl_skip hF rfl rfl rfl rfl rfl hK
     ·
      refine .inl ⟨rfl, _, _, rfl, rfl, fun s fa w' hΦ hF hB K hK => ?_⟩
      replace hF := hF.cons (hB.val 16 _ 122 _ rfl rfl rfl rfl)
      replace hF := hF.cons (hB.val 2 _ 108 _ rfl rfl rfl rfl)
      exact fl_skip hF rfl rfl rfl rfl rfl hK
     ·
      refine .inl ⟨rfl, _, _, rfl, rfl, fun s fa w' hΦ hF hB K hK => ?_⟩
      replace hF := hF.cons (hB.val 13 _ 119 _ rfl rfl rfl rfl)
      replace hF := hF.cons (hB.val 17 _ 123 _ rfl rfl rfl rfl)
      replace hF := hF.cons (hB.val 2 _ 108 _ rfl rfl rfl rfl)
      exact fl_skip hF rfl rfl rfl rfl rfl hK
     ·
      refine .inl ⟨rfl, _, _, rfl, rfl, fun s fa w' hΦ hF hB K hK => ?_⟩
      replace hF := hF.cons (hB.val 18 _ 124 _ rfl rfl rfl rfl)
      replace hF := hF.cons (hB.val 2 _ 108 _ rfl rfl rfl rfl)
      exact fl_skip hF rfl rfl rfl rfl rfl hK
     ·
      refine .inl ⟨rfl, _, _, rfl, rfl, fun s fa w' hΦ hF hB K hK => ?_⟩
      replace hF := hF.cons (hB.val 19 _ 125 _ rfl rfl rfl rfl)
      replace hF := hF.cons (hB.val 2 _ 108 _ rfl rfl rfl rfl)
      exact fl_skip hF rfl rfl rfl rfl rfl hK
     ·
      refine .inl ⟨rfl, _, _, rfl, rfl, fun s fa w' hΦ hF hB K hK => ?_⟩
      replace hF := hF.cons (hB.val 12 _ 118 _ rfl rfl rfl rfl)
      replace hF := hF.cons (hB.val 20 _ 126 _ rfl rfl rfl rfl)
      replace hF := hF.cons (hB.val 2 _ 108 _ rfl rfl rfl rfl)
      exact fl_skip hF rfl rfl rfl rfl rfl hK
     ·
      refine .inl ⟨rfl, _, _, rfl, rfl, fun s fa w' hΦ hF hB K hK => ?_⟩
      replace hF := hF.cons (hB.val 10 _ 116 _ rfl rfl rfl rfl)
      replace hF := hF.cons (hB.val 21 _ 127 _ rfl rfl rfl rfl)
      replace hF := hF.cons (hB.val 2 _ 108 _ rfl rfl rfl rfl)
      exact fl_skip hF rfl rfl rfl rfl rfl hK
     ·
      refine .inl ⟨rfl, _, _, rfl, rfl, fun s fa w' hΦ hF hB K hK => ?_⟩
      replace hF := hF.cons (hB.val 2 _ 108 _ rfl rfl rfl rfl)
      replace hF := hF.cons (hB.val 22 _ 128 _ rfl rfl rfl rfl)
      exact fl_val rfl rfl rfl (ex_pick (hF.ev rfl) (fun _ => hF.ev rfl) (v := undef) (fun h => by cases h) rfl) hK
    intro fa w120 hΦ hF hC
    obtain ⟨hA, hS, E_w120⟩ := hΦ
    replace hF := hF.cons (hC 23 _ 129 _ rfl rfl rfl)
    clear hA hC
    refine x_tn ?_
    refine c_cond hF rfl (fun hc => ?_) (fun hc => ?_)
    rotate_left
    ·
     cases hc
    refine c_skip ?_
    refine x_tn ?_
    refine c_block ?_
    refine c_seq ?_
    refine c_reg ?_
    refine pr hF (pm rfl <| pg (fun _ hF => ex_sub (hF.ev rfl) (hF.ev rfl) vu64) <| pa rfl <| PR.nil) ?_
    clear hF fa; intro fa hF
    refine c_nil_then ?_
    refine c_seq ?_
    refine c_reg ?_
    refine pr hF (pm rfl <| pm rfl <| pm rfl <| pg (fun _ hF => ex_sub (hF.ev rfl) (hF.ev rfl) vi64) <| PR.nil) ?_
    clear hF fa; intro fa hF
    obtain ⟨ad121, hA122, hq123⟩ := (hu105.ext (((((E108.trans E111).trans E_w113).trans E_w114).trans E118).trans E_w120)).cl.at_ (us_get (l := (trimz o_91)) (i := (trimz b).length - 1) (by omega))
    refine pr hF (pg (fun _ hF => ex_idx (j := (trimz b).length - 1) TfR.sl22 (hF.ev rfl) hA122 (hF.ev rfl) (by omega) (by omega)) <| pg (fun _ hF => ex_load1 TfR.one38 (hF.ev rfl) hq123) <| pg (fun _ hF => ex_conv TfR.unds38 TfR.und53 (hF.ev rfl) (wu64n (by omega))) <| pg (fun _ hF => ex_add (hF.ev rfl) (hF.ev rfl) vu64) <| pa rfl <| PR.nil) ?_
    clear hF fa; intro fa hF
    replace hF : Frm 179 fa [(0, (.slice (A4) ((trimz a).length) (c5))), (1, (.slice (A10) ((trimz b).length) (c11))), (4, (.slice (none) (0) (0))), (5, (.slice (none) (0) (0))), (23, (.bool (decide ((((trimz b).length : Nat) : Int) = 1)))), (34, (.bool (decide ((cmpN (val ((trimz a))) (val ((trimz b)))) < 0)))), (6, (.int .i64 ((((trimz b).length : Nat) : Int)))), (7, (.int .u32 (((sc : Nat) : Int)))), (8, (.slice (some ⟨g75, 0, none⟩) ((trimz a).length + 2) (c76))), (9, (.slice (A103) ((trimz o_91).length) (c104))), (10, (.slice (some ⟨g106, 0, none⟩) (((trimz a).length + 2) - ((trimz b).length)) (((trimz a).length + 2) - ((trimz b).length)))), (11, (.int .i64 (((j : Nat) : Int) - 1))), (70, (.bool (decide ((((j : Nat) : Int) - 1) ≥ 0)))), (12, (.int .u64 ((((U.getD (j - 1 + (trimz b).length) 0 : Nat) : Int) * 1000000000) + ((U.getD (j - 1 + (trimz b).length - 1) 0 : Nat) : Int)))), (13, (.int .u64 (((g : Nat) : Int) - 1))), (14, (.int .u64 (((r : Nat) : Int) + (((trimz o_91).getD ((trimz b).length - 1) 0 : Nat) : Int)))), (129, (.bool (true)))] := (hF.all ⟨rfl, rfl, rfl, rfl, rfl, rfl, rfl, rfl, rfl, rfl, rfl, rfl, rfl, rfl, rfl, rfl, rfl, trivial⟩)
    refine c_nil_then ?_
    refine c_seq ?_
    refine c_reg ?_
    refine pr hF (pm rfl <| pg (fun _ hF => ex_geq (hF.ev rfl) (hF.ev rfl)) <| PR.nil) ?_
    clear hF fa; intro fa hF
    refine c_nil_then ?_
    refine c_cond hF rfl (fun hc124 => ?_) (fun hc124 => ?_)
    ·
     have hc124p : (((r : Nat) : Int) + (((trimz o_91).getD ((trimz b).length - 1) 0 : Nat) : Int)) ≥ 1000000000 := by first | simpa using hc124 | exact bang_t hc124 | exact bang_f hc124
     have hgr1 := g_dec hgp hgr
     have hout := gs_out (w2 := U.getD (j - 1 + (trimz b).length - 2) 0) hgr1 htl (by omega) (hvL ((trimz b).length - 2)) rfl
     refine c_exit ?_
     refine x_bm rfl ?_
     refine x_te ?_
     refine x_bh ?_
     refine x_tn ?_
     exact ⟨(g - 1), (hF.all ⟨rfl, rfl, rfl, rfl, rfl, rfl, rfl, rfl, rfl, rfl, rfl, rfl, rfl, rfl, (lk_int rfl (by omega)), trivial⟩), hS, (E118.trans E_w120), (hout.1), (gs_end hn2 hvn hvb hvtop hgr1 hout.1 hout.2), (by rw [Nat.sub_add_cancel hgp]; exact hw1)⟩
    have hc124p : ¬ ((((r : Nat) : Int) + (((trimz o_91).getD ((trimz b).length - 1) 0 : Nat) : Int)) ≥ 1000000000) := by first | simpa using hc124 | exact bang_t hc124 | exact bang_f hc124
    refine c_skip ?_
    refine x_bn ?_
    refine x_tn ?_
    exact ⟨_, (by omega), (g - 1), r + ((trimz o_91).getD ((trimz b).length - 1) 0), (hF.all ⟨rfl, rfl, rfl, rfl, rfl, rfl, rfl, rfl, rfl, rfl, rfl, rfl, rfl, rfl, (lk_int rfl (by omega)), (lk_int rfl (by omega)), trivial⟩), hS, (E118.trans E_w120), (g_dec hgp hgr), (by omega), (by omega), (by rw [Nat.sub_add_cancel hgp]; exact hw1), rfl⟩
   have hk119p := hk119; simp at hk119p
   have hgB : g < 1000000000 := by have := of_decide_eq_false hk119; omega
   obtain ⟨ad_113, hA_113, hq_113⟩ := (hu105.ext ((((E108.trans E111).trans E_w113).trans E_w114).trans E118)).cl.at2 (us_get (l := (trimz o_91)) (i := (trimz b).length - 2) (by omega))
   refine drawn2 (N := 179) (L0 := [(0, (.slice (A4) ((trimz a).length) (c5))), (1, (.slice (A10) ((trimz b).length) (c11))), (4, (.slice (none) (0) (0))), (5, (.slice (none) (0) (0))), (23, (.bool (decide ((((trimz b).length : Nat) : Int) = 1)))), (34, (.bool (decide ((cmpN (val ((trimz a))) (val ((trimz b)))) < 0)))), (6, (.int .i64 ((((trimz b).length : Nat) : Int)))), (7, (.int .u32 (((sc : Nat) : Int)))), (8, (.slice (some ⟨g75, 0, none⟩) ((trimz a).length + 2) (c76))), (9, (.slice (A103) ((trimz o_91).length) (c104))), (10, (.slice (some ⟨g106, 0, none⟩) (((trimz a).length + 2) - ((trimz b).length)) (((trimz a).length + 2) - ((trimz b).length)))), (11, (.int .i64 (((j : Nat) : Int) - 1))), (70, (.bool (decide ((((j : Nat) : Int) - 1) ≥ 0)))), (12, (.int .u64 ((((U.getD (j - 1 + (trimz b).length) 0 : Nat) : Int) * 1000000000) + ((U.getD (j - 1 + (trimz b).length - 1) 0 : Nat) : Int)))), (13, (.int .u64 (((g : Nat) : Int)))), (14, (.int .u64 (((r : Nat) : Int))))]) [some (.int .u64 (((g : Nat) : Int))), some (.bool (false)), some (.bool (false)), some (.int .u64 (((g : Nat) : Int))), some (.slice (A103) ((trimz o_91).length) (c104)), some (.int .i64 ((((trimz b).length : Nat) : Int))), some (.int .i64 ((((trimz b).length : Nat) : Int) - 2)), some (.pointer (some (ad_113.add ((trimz b).length - 2)))), some (.int .u32 ((((trimz o_91).getD ((trimz b).length - 2) 0 : Nat) : Int))), some (.int .u64 ((((trimz o_91).getD ((trimz b).length - 2) 0 : Nat) : Int))), some (.int .u64 (((g : Nat) : Int) * (((trimz o_91).getD ((trimz b).length - 2) 0 : Nat) : Int))), some (.int .u64 (((r : Nat) : Int))), some (.int .u64 (((r : Nat) : Int) * 1000000000)), some (.slice (some ⟨g75, 0, none⟩) ((trimz a).length + 2) (c76)), some (.int .i64 (((j : Nat) : Int) - 1)), some (.int .i64 ((((trimz b).length : Nat) : Int))), some (.int .i64 ((((j : Nat) : Int) - 1) + (((trimz b).length : Nat) : Int))), some (.int .i64 (((((j : Nat) : Int) - 1) + (((trimz b).length : Nat) : Int)) - 2)), some (.pointer (some ⟨g75, j - 1 + (trimz b).length - 2, none⟩)), some (.int .u32 (((U.getD (j - 1 + (trimz b).length - 2) 0 : Nat) : Int))), some (.int .u64 (((U.getD (j - 1 + (trimz b).length - 2) 0 : Nat) : Int))), some (.int .u64 ((((r : Nat) : Int) * 1000000000) + ((U.getD (j - 1 + (trimz b).length - 2) 0 : Nat) : Int))), some (.bool (decide ((((g : Nat) : Int) * (((trimz o_91).getD ((trimz b).length - 2) 0 : Nat) : Int)) > ((((r : Nat) : Int) * 1000000000) + ((U.getD (j - 1 + (trimz b).length - 2) 0 : Nat) : Int))))), some (.bool (decide ((((g : Nat) : Int) * (((trimz o_91).getD ((trimz b).length - 2) 0 : Nat) : Int)) > ((((r : Nat) : Int) * 1000000000) + ((U.getD (j - 1 + (trimz b).length - 2) 0 : Nat) : Int)))))] [] [[]] [[0], [0], [0], [0], [0], [0], [0], [0], [0], [0], [0], [0], [0], [0], [0], [0], [0], [0], [0], [0], [0], [0], [0], [0]] 0 [
         fun fa w' => Frm 179 fa [] ∧ St w w' [(g106, 38, (us (Q)).toArray), (g75, 38, (us (U) ++ R77).toArray)] ∧ Ext w117 (g106 :: (g75 :: X)) w' (g106 :: (g75 :: X))
       ] TfR.mixed rfl rfl rfl rfl rfl rfl (hF.all ⟨rfl, rfl, rfl, rfl, rfl, rfl, rfl, rfl, rfl, rfl, rfl, rfl, rfl, rfl, rfl, rfl, trivial⟩) rfl ⟨hF.nil, hS.drew, Ext.drew _ _⟩ ?_ ?_ ?_
   all_goals clear hF fa
   ·
    refine ⟨?_, trivial⟩
    ·
     rintro fa w' i o d v ho hd hna ⟨hA, hR⟩; exact ⟨hA.put_other v (freeOf_at (acts := []) rfl ho hd hna), hR⟩
   ·
    refine ⟨?_, ?_, ?_, ?_, ?_, ?_, ?_, ?_, ?_, ?_, ?_, ?_, ?_, ?_, ?_, ?_, ?_, ?_, ?_, ?_, ?_, ?_, ?_, ?_, trivial⟩
    ·
     refine .inl ⟨rfl, _, _, rfl, rfl, fun s fa w' hΦ hF hB K hK => ?_⟩
     exact fl_val rfl rfl rfl (ex_move (hF.ev rfl)) hK
    ·
     refine .inl ⟨rfl, _, _, rfl, rfl, fun s fa w' hΦ hF hB K hK => ?_⟩
     replace hF := hF.cons (hB.val 0 _ 106 _ rfl rfl rfl rfl)
     exact fl_val rfl rfl rfl (ex_b hk119 (ex_geq (hF.ev rfl) (hF.ev rfl))) hK
    ·
     refine .inl ⟨rfl, _, _, rfl, rfl, fun s fa w' hΦ hF hB K hK => ?_⟩
     replace hF := hF.cons (hB.val 1 _ 107 _ rfl rfl rfl rfl)
     exact fl_val rfl rfl rfl (ex_move (hF.ev rfl)) hK
    ·
     refine .inl ⟨rfl, _, _, rfl, rfl, fun s fa w' hΦ hF hB K hK => ?_⟩
     replace hF := hF.cons (hB.val 2 _ 108 _ rfl rfl rfl rfl)
     exact fl_valg hF rfl rfl rfl rfl (ex_move (hF.ev rfl)) hK
    ·
     refine .inl ⟨rfl, _, _, rfl, rfl, fun s fa w' hΦ hF hB K hK => ?_⟩
     replace hF := hF.cons (hB.val 2 _ 108 _ rfl rfl rfl rfl)
     exact fl_valg hF rfl rfl rfl rfl (ex_move (hF.ev rfl)) hK
    ·
     refine .inl ⟨rfl, _, _, rfl, rfl, fun s fa w' hΦ hF hB K hK => ?_⟩
     replace hF := hF.cons (hB.val 2 _ 108 _ rfl rfl rfl rfl)
     exact fl_valg hF rfl rfl rfl rfl (ex_move (hF.ev rfl)) hK
    ·
     refine .inl ⟨rfl, _, _, rfl, rfl, fun s fa w' hΦ hF hB K hK => ?_⟩
     replace hF := hF.cons (hB.val 5 _ 111 _ rfl rfl rfl rfl)
     replace hF := hF.cons (hB.val 2 _ 108 _ rfl rfl rfl rfl)
     exact fl_valg hF rfl rfl rfl rfl (ex_sub (hF.ev rfl) (hF.ev rfl) vi64) hK
    ·
     refine .inl ⟨rfl, _, _, rfl, rfl, fun s fa w' hΦ hF hB K hK => ?_⟩
     replace hF := hF.cons (hB.val 4 _ 110 _ rfl rfl rfl rfl)
     replace hF := hF.cons (hB.val 6 _ 112 _ rfl rfl rfl rfl)
     replace hF := hF.cons (hB.val 2 _ 108 _ rfl rfl rfl rfl)
     exact fl_valg hF rfl rfl rfl rfl (ex_idx (j := (trimz b).length - 2) TfR.sl22 (hF.ev rfl) hA_113 (hF.ev rfl) (by omega) (by omega)) hK
    ·
     refine .inr (.inl ⟨rfl, _, _, rfl, rfl, ?_, trivial⟩)
     ·
      intro fa w' hΦ hF hB K hK
      obtain ⟨hA, hS, E_w'⟩ := hΦ
      replace hF := hF.cons (hB.val 7 _ 113 _ rfl rfl rfl rfl)
      replace hF := hF.cons (hB.val 2 _ 108 _ rfl rfl rfl rfl)
      exact fl_valg hF rfl rfl rfl rfl (ex_load1 TfR.one38 (hF.ev rfl) (hq_113 E_w')) hK
    ·
     refine .inl ⟨rfl, _, _, rfl, rfl, fun s fa w' hΦ hF hB K hK => ?_⟩
     replace hF := hF.cons (hB.val 8 _ 114 _ rfl rfl rfl rfl)
     replace hF := hF.cons (hB.val 2 _ 108 _ rfl rfl rfl rfl)
     exact fl_valg hF rfl rfl rfl rfl (ex_conv TfR.unds38 TfR.und53 (hF.ev rfl) (wu64n (by omega))) hK
    ·
     refine .inl ⟨rfl, _, _, rfl, rfl, fun s fa w' hΦ hF hB K hK => ?_⟩
     replace hF := hF.cons (hB.val 3 _ 109 _ rfl rfl rfl rfl)
     replace hF := hF.cons (hB.val 9 _ 115 _ rfl rfl rfl rfl)
     replace hF := hF.cons (hB.val 2 _ 108 _ rfl rfl rfl rfl)
     exact fl_valg hF rfl rfl rfl rfl (ex_mul (hF.ev rfl) (hF.ev rfl) vu64) hK
    ·
     refine .inl ⟨rfl, _, _, rfl, rfl, fun s fa w' hΦ hF hB K hK => ?_⟩
     replace hF := hF.cons (hB.val 2 _ 108 _ rfl rfl rfl rfl)
     exact fl_valg hF rfl rfl rfl rfl (ex_move (hF.ev rfl)) hK
    ·
     refine .inl ⟨rfl, _, _, rfl, rfl, fun s fa w' hΦ hF hB K hK => ?_⟩
     replace hF := hF.cons (hB.val 11 _ 117 _ rfl rfl rfl rfl)
     replace hF := hF.cons (hB.val 2 _ 108 _ rfl rfl rfl rfl)
     exact fl_valg hF rfl rfl rfl rfl (ex_mul (hF.ev rfl) (hF.ev rfl) vu64) hK
    ·
     refine .inl ⟨rfl, _, _, rfl, rfl, fun s fa w' hΦ hF hB K hK => ?_⟩
     replace hF := hF.cons (hB.val 2 _ 108 _ rfl rfl rfl rfl)
     exact fl_valg hF rfl rfl rfl rfl (ex_move (hF.ev rfl)) hK
    ·
     refine .inl ⟨rfl, _, _, rfl, rfl, fun s fa w' hΦ hF hB K hK => ?_⟩
     replace hF := hF.cons (hB.val 2 _ 108 _ rfl rfl rfl rfl)
     exact fl_valg hF rfl rfl rfl rfl (ex_move (hF.ev rfl)) hK
    ·
     refine .inl ⟨rfl, _, _, rfl, rfl, fun s fa w' hΦ hF hB K hK => ?_⟩
     replace hF := hF.cons (hB.val 2 _ 108 _ rfl rfl rfl rfl)
     exact fl_valg hF rfl rfl rfl rfl (ex_move (hF.ev rfl)) hK
    ·
     refine .inl ⟨rfl, _, _, rfl, rfl, fun s fa w' hΦ hF hB K hK => ?_⟩
     replace hF := hF.cons (hB.val 14 _ 120 _ rfl rfl rfl rfl)
     replace hF := hF.cons (hB.val 15 _ 121 _ rfl rfl rfl rfl)
     replace hF := hF.cons (hB.val 2 _ 108 _ rfl rfl rfl rfl)
     exact fl_valg hF rfl rfl rfl rfl (ex_add (hF.ev rfl) (hF.ev rfl) vi64) hK
    ·
     refine .inl ⟨rfl, _, _, rfl, rfl, fun s fa w' hΦ hF hB K hK => ?_⟩
     replace hF := hF.cons (hB.val 16 _ 122 _ rfl rfl rfl rfl)
     replace hF := hF.cons (hB.val 2 _ 108 _ rfl rfl rfl rfl)
     exact fl_valg hF rfl rfl rfl rfl (ex_sub (hF.ev rfl) (hF.ev rfl) vi64) hK
    ·
     refine .inl ⟨rfl, _, _, rfl, rfl, fun s fa w' hΦ hF hB K hK => ?_⟩
     replace hF := hF.cons (hB.val 13 _ 119 _ rfl rfl rfl rfl)
     replace hF := hF.cons (hB.val 17 _ 123 _ rfl rfl rfl rfl)
     replace hF := hF.cons (hB.val 2 _ 108 _ rfl rfl rfl rfl)
     exact fl_valg hF rfl rfl rfl rfl (ex_idxo (j := j - 1 + (trimz b).length - 2) TfR.sl22 (hF.ev rfl) (hF.ev rfl) (by omega) (by omega)) hK
    ·
     refine .inr (.inl ⟨rfl, _, _, rfl, rfl, ?_, trivial⟩)
     ·
      intro fa w' hΦ hF hB K hK
      obtain ⟨hA, hS, E_w'⟩ := hΦ
      replace hF := hF.cons (hB.val 18 _ 124 _ rfl rfl rfl rfl)
      replace hF := hF.cons (hB.val 2 _ 108 _ rfl rfl rfl rfl)
      exact fl_valg hF rfl rfl rfl rfl (ex_load1b TfR.one38 (hF.ev rfl) (hS.get 1 rfl) (us_arr2 (by first | omega | (simp; omega)))) hK
    ·
     refine .inl ⟨rfl, _, _, rfl, rfl, fun s fa w' hΦ hF hB K hK => ?_⟩
     replace hF := hF.cons (hB.val 19 _ 125 _ rfl rfl rfl rfl)
     replace hF := hF.cons (hB.val 2 _ 108 _ rfl rfl rfl rfl)
     exact fl_valg hF rfl rfl rfl rfl (ex_conv TfR.unds38 TfR.und53 (hF.ev rfl) (wu64n (by omega))) hK
    ·
     refine .inl ⟨rfl, _, _, rfl, rfl, fun s fa w' hΦ hF hB K hK => ?_⟩
     replace hF := hF.cons (hB.val 12 _ 118 _ rfl rfl rfl rfl)
     replace hF := hF.cons (hB.val 20 _ 126 _ rfl rfl rfl rfl)
     replace hF := hF.cons (hB.val 2 _ 108 _ rfl rfl rfl rfl)
     exact fl_valg hF rfl rfl rfl rfl (ex_add (hF.ev rfl) (hF.ev rfl) vu64) hK
    ·
     refine .inl ⟨rfl, _, _, rfl, rfl, fun s fa w' hΦ hF hB K hK => ?_⟩
     replace hF := hF.cons (hB.val 10 _ 116 _ rfl rfl rfl rfl)
     replace hF := hF.cons (hB.val 21 _ 127 _ rfl rfl rfl rfl)
     replace hF := hF.cons (hB.val 2 _ 108 _ rfl rfl rfl rfl)
     exact fl_valg hF rfl rfl rfl rfl (ex_gtr (hF.ev rfl) (hF.ev rfl)) hK
    ·
     refine .inl ⟨rfl, _, _, rfl, rfl, fun s fa w' hΦ hF hB K hK => ?_⟩
     replace hF := hF.cons (hB.val 2 _ 108 _ rfl rfl rfl rfl)
     replace hF := hF.cons (hB.val 22 _ 128 _ rfl rfl rfl rfl)
     exact fl_val rfl rfl rfl (ex_pick (hF.ev rfl) (u := undef) (fun h => by cases h) (fun _ => hF.ev rfl) rfl) hK
   intro fa w125 hΦ hF hC
   obtain ⟨hA, hS, E_w125⟩ := hΦ
   replace hF := hF.cons (hC 23 _ 129 _ rfl rfl rfl)
   clear hA hC
   refine x_tn ?_
   refine c_cond hF rfl (fun hc126 => ?_) (fun hc126 => ?_)
   ·
    have hc126p : (((g : Nat) : Int) * (((trimz o_91).getD ((trimz b).length - 2) 0 : Nat) : Int)) > ((((r : Nat) : Int) * 1000000000) + ((U.getD (j - 1 + (trimz b).length - 2) 0 : Nat) : Int)) := by first | simpa using hc126 | exact bang_t hc126 | exact bang_f hc126
    have hgv : g * (trimz o_91).getD ((trimz b).length - 2) 0 > r * 1000000000 + U.getD (j - 1 + (trimz b).length - 2) 0 := gt_cast hc126p
    have hgp := g_pos hgv
    have hw1 := gs_step hn2 hvn hbU hgr hgv
    refine c_skip ?_
    refine x_tn ?_
    refine c_block ?_
    refine c_seq ?_
    refine c_reg ?_
    refine pr hF (pm rfl <| pg (fun _ hF => ex_sub (hF.ev rfl) (hF.ev rfl) vu64) <| pa rfl <| PR.nil) ?_
    clear hF fa; intro fa hF
    refine c_nil_then ?_
    refine c_seq ?_
    refine c_reg ?_
    refine pr hF (pm rfl <| pm rfl <| pm rfl <| pg (fun _ hF => ex_sub (hF.ev rfl) (hF.ev rfl) vi64) <| PR.nil) ?_
    clear hF fa; intro fa hF
    obtain ⟨ad127, hA128, hq129⟩ := (hu105.ext (((((E108.trans E111).trans E_w113).trans E_w114).trans E118).trans E_w125)).cl.at_ (us_get (l := (trimz o_91)) (i := (trimz b).length - 1) (by omega))
    refine pr hF (pg (fun _ hF => ex_idx (j := (trimz b).length - 1) TfR.sl22 (hF.ev rfl) hA128 (hF.ev rfl) (by omega) (by omega)) <| pg (fun _ hF => ex_load1 TfR.one38 (hF.ev rfl) hq129) <| pg (fun _ hF => ex_conv TfR.unds38 TfR.und53 (hF.ev rfl) (wu64n (by omega))) <| pg (fun _ hF => ex_add (hF.ev rfl) (hF.ev rfl) vu64) <| pa rfl <| PR.nil) ?_
    clear hF fa; intro fa hF
    replace hF : Frm 179 fa [(0, (.slice (A4) ((trimz a).length) (c5))), (1, (.slice (A10) ((trimz b).length) (c11))), (4, (.slice (none) (0) (0))), (5, (.slice (none) (0) (0))), (23, (.bool (decide ((((trimz b).length : Nat) : Int) = 1)))), (34, (.bool (decide ((cmpN (val ((trimz a))) (val ((trimz b)))) < 0)))), (6, (.int .i64 ((((trimz b).length : Nat) : Int)))), (7, (.int .u32 (((sc : Nat) : Int)))), (8, (.slice (some ⟨g75, 0, none⟩) ((trimz a).length + 2) (c76))), (9, (.slice (A103) ((trimz o_91).length) (c104))), (10, (.slice (some ⟨g106, 0, none⟩) (((trimz a).length + 2) - ((trimz b).length)) (((trimz a).length + 2) - ((trimz b).length)))), (11, (.int .i64 (((j : Nat) : Int) - 1))), (70, (.bool (decide ((((j : Nat) : Int) - 1) ≥ 0)))), (12, (.int .u64 ((((U.getD (j - 1 + (trimz b).length) 0 : Nat) : Int) * 1000000000) + ((U.getD (j - 1 + (trimz b).length - 1) 0 : Nat) : Int)))), (13, (.int .u64 (((g : Nat) : Int) - 1))), (14, (.int .u64 (((r : Nat) : Int) + (((trimz o_91).getD ((trimz b).length - 1) 0 : Nat) : Int)))), (129, (.bool (decide ((((g : Nat) : Int) * (((trimz o_91).getD ((trimz b).length - 2) 0 : Nat) : Int)) > ((((r : Nat) : Int) * 1000000000) + ((U.getD (j - 1 + (trimz b).length - 2) 0 : Nat) : Int))))))] := (hF.all ⟨rfl, rfl, rfl, rfl, rfl, rfl, rfl, rfl, rfl, rfl, rfl, rfl, rfl, rfl, rfl, rfl, rfl, trivial⟩)
    refine c_nil_then ?_
    refine c_seq ?_
    refine c_reg ?_
    refine pr hF (pm rfl <| pg (fun _ hF => ex_geq (hF.ev rfl) (hF.ev rfl)) <| PR.nil) ?_
    clear hF fa; intro fa hF
    refine c_nil_then ?_
    refine c_cond hF rfl (fun hc130 => ?_) (fun hc130 => ?_)
    ·
     have hc130p : (((r : Nat) : Int) + (((trimz o_91).getD ((trimz b).length - 1) 0 : Nat) : Int)) ≥ 1000000000 := by first | simpa using hc130 | exact bang_t hc130 | exact bang_f hc130
     have hgr1 := g_dec hgp hgr
     have hout := gs_out (w2 := U.getD (j - 1 + (trimz b).length - 2) 0) hgr1 htl (by omega) (hvL ((trimz b).length - 2)) rfl
     refine c_exit ?_
     refine x_bm rfl ?_
     refine x_te ?_
     refine x_bh ?_
     refine x_tn ?_
     exact ⟨(g - 1), (hF.all ⟨rfl, rfl, rfl, rfl, rfl, rfl, rfl, rfl, rfl, rfl, rfl, rfl, rfl, rfl, (lk_int rfl (by omega)), trivial⟩), hS, (E118.trans E_w125), (hout.1), (gs_end hn2 hvn hvb hvtop hgr1 hout.1 hout.2), (by rw [Nat.sub_add_cancel hgp]; exact hw1)⟩
    have hc130p : ¬ ((((r : Nat) : Int) + (((trimz o_91).getD ((trimz b).length - 1) 0 : Nat) : Int)) ≥ 1000000000) := by first | simpa using hc130 | exact bang_t hc130 | exact bang_f hc130
    refine c_skip ?_
    refine x_bn ?_
    refine x_tn ?_
    exact ⟨_, (by omega), (g - 1), r + ((trimz o_91).getD ((trimz b).length - 1) 0), (hF.all ⟨rfl, rfl, rfl, rfl, rfl, rfl, rfl, rfl, rfl, rfl, rfl, rfl, rfl, rfl, (lk_int rfl (by omega)), (lk_int rfl (by omega)), trivial⟩), hS, (E118.trans E_w125), (g_dec hgp hgr), (by omega), (by omega), (by rw [Nat.sub_add_cancel hgp]; exact hw1), rfl⟩
   have hc126p : ¬ ((((g : Nat) : Int) * (((trimz o_91).getD ((trimz b).length - 2) 0 : Nat) : Int)) > ((((r : Nat) : Int) * 1000000000) + ((U.getD (j - 1 + (trimz b).length - 2) 0 : Nat) : Int))) := by first | simpa using hc126 | exact bang_t hc126 | exact bang_f hc126
   refine c_exit ?_
   refine x_te ?_
   refine x_te ?_
   refine x_bh ?_
   refine x_tn ?_
   exact ⟨(g), (hF.all ⟨rfl, rfl, rfl, rfl, rfl, rfl, rfl, rfl, rfl, rfl, rfl, rfl, rfl, rfl, (lk_int rfl (by omega)), trivial⟩), hS, (E118.trans E_w125), (hgB), (gs_end hn2 hvn hvb hvtop hgr hgB (by omega)), (hgw)⟩
  clear hF fa hS
  rintro fa w115 ⟨gs, hF, hS, E116, hgsB, hslo, hshi⟩
  refine c_seq ?_
  refine c_seq ?_
  refine c_reg ?_
  refine pr hF (pm rfl <| pm rfl <| pm rfl <| pm rfl <| pg (fun _ hF => ex_add (hF.ev rfl) (hF.ev rfl) vi64) <| pg (fun _ hF => ex_add (hF.ev rfl) (hF.ev rfl) vi64) <| pg (fun _ hF => ex_slice_lhq (j := j - 1) (m := j - 1 + (trimz b).length + 1) (q := (trimz b).length + 1) TfR.sl22 (hF.ev rfl) (hF.ev rfl) (hF.ev rfl) (by omega) (by omega) (by omega) (by omega) (by omega) (by omega)) <| pm rfl <| pm rfl <| PR.nil) ?_
  clear hF fa; intro fa hF
  replace hS : St w w115 [(g75, 38, (us (U) ++ R77).toArray), (g106, 38, (us (Q)).toArray)] := hS.perm (List.Perm.swap _ _ _)
  have E131 : Ext w115 (g106 :: (g75 :: X)) w115 (g75 :: (g106 :: X)) := Ext.drop (by simp +contextual)
  have hC := integer_subtract_ok (w := w115) (X := X) (So := [(g106, 38, (us (Q)).toArray)]) (v := (trimz o_91)) (U := U) (c_U := c76 - (j - 1)) hX hS (j - 1) ((trimz b).length + 1) ⟨_, ((trimz o_91).length), _, rfl, (rfl), (hu105.ext (((((E108.trans E111).trans E_w113).trans E_w114).trans E116).trans E131))⟩ (gs) (by omega) (by omega) (by omega) (hbU) (hvb) (hgsB)
  refine st rfl (op_call hF rfl TfR.body48 (args3 (hF.ev rfl) (hF.ev rfl) (hF.ev (ev_int (b := ((gs : Nat) : Int)) rfl (by first | rfl | omega)))) hC ?_)
  clear hC hS
  rintro _ w135 ⟨o_137, cy_138, rfl, hp139, hp140, hp141, hp142, hp143, hS, E136⟩
  refine gen_ ?_; clear hF fa; intro fa hF
  replace E136 : Ext w115 (g75 :: (g106 :: X)) w135 (g75 :: (g106 :: X)) := E136
  have hs_len := hp139; have hs_lb := hp140; have hs_tk := hp141; have hs_dr := hp142; have hs_v := hp143
  replace hF : Frm 179 fa [(0, (.slice (A4) ((trimz a).length) (c5))), (1, (.slice (A10) ((trimz b).length) (c11))), (4, (.slice (none) (0) (0))), (5, (.slice (none) (0) (0))), (23, (.bool (decide ((((trimz b).length : Nat) : Int) = 1)))), (34, (.bool (decide ((cmpN (val ((trimz a))) (val ((trimz b)))) < 0)))), (6, (.int .i64 ((((trimz b).length : Nat) : Int)))), (7, (.int .u32 (((sc : Nat) : Int)))), (8, (.slice (some ⟨g75, 0, none⟩) ((trimz a).length + 2) (c76))), (9, (.slice (A103) ((trimz o_91).length) (c104))), (10, (.slice (some ⟨g106, 0, none⟩) (((trimz a).length + 2) - ((trimz b).length)) (((trimz a).length + 2) - ((trimz b).length)))), (11, (.int .i64 (((j : Nat) : Int) - 1))), (70, (.bool (decide ((((j : Nat) : Int) - 1) ≥ 0)))), (12, (.int .u64 ((((U.getD (j - 1 + (trimz b).length) 0 : Nat) : Int) * 1000000000) + ((U.getD (j - 1 + (trimz b).length - 1) 0 : Nat) : Int)))), (13, (.int .u64 (((gs : Nat) : Int)))), (151, (.bool (decide (0 < cy_138))))] := (hF.all ⟨rfl, rfl, rfl, rfl, rfl, rfl, rfl, rfl, rfl, rfl, rfl, rfl, rfl, rfl, rfl, rfl, trivial⟩)
  refine c_nil_then ?_
  refine c_cond hF rfl (fun hc144 => ?_) (fun hc144 => ?_)
  ·
   have hc144p : 0 < cy_138 := by first | simpa using hc144 | exact bang_t hc144 | exact bang_f hc144
   have hgs0 : 0 < gs := dig_pos hs_v hc144p (win_lt hs_lb _ _)
   have hcyp := hc144p
   refine c_seq ?_
   refine c_reg ?_
   refine pr hF (pm rfl <| pg (fun _ hF => ex_sub (hF.ev rfl) (hF.ev rfl) vu64) <| pa rfl <| PR.nil) ?_
   clear hF fa; intro fa hF
   refine c_nil_then ?_
   refine c_reg ?_
   refine pr hF (pm rfl <| pm rfl <| pm rfl <| pm rfl <| pg (fun _ hF => ex_add (hF.ev rfl) (hF.ev rfl) vi64) <| pg (fun _ hF => ex_add (hF.ev rfl) (hF.ev rfl) vi64) <| pg (fun _ hF => ex_slice_lhq (j := j - 1) (m := j - 1 + (trimz b).length + 1) (q := (trimz b).length + 1) TfR.sl22 (hF.ev rfl) (hF.ev rfl) (hF.ev rfl) (by omega) (by omega) (by omega) (by omega) (by omega) (by omega)) <| pm rfl <| PR.nil) ?_
   clear hF fa; intro fa hF
   have hC := integer_restore_ok (w := w135) (X := X) (So := [(g106, 38, (us (Q)).toArray)]) (v := (trimz o_91)) (U := o_137) (c_U := c76 - (j - 1)) hX hS (j - 1) ((trimz b).length + 1) ⟨_, ((trimz o_91).length), _, rfl, (rfl), (hu105.ext ((((((E108.trans E111).trans E_w113).trans E_w114).trans E116).trans E131).trans E136))⟩ (by omega) (by omega) (by omega) (hs_lb) (hvb)
   refine st rfl (op_call hF rfl TfR.body49 (args2 (hF.ev rfl) (hF.ev rfl)) hC ?_)
   clear hC hS
   rintro _ w148 ⟨o_150, cy_151, rfl, hp152, hp153, hp154, hp155, hp156, hp157, hS, E149⟩
   refine gen_ ?_; clear hF fa; intro fa hF
   replace E149 : Ext w135 (g75 :: (g106 :: X)) w148 (g75 :: (g106 :: X)) := E149
   have hr_len := hp152; have hr_lb := hp153; have hr_tk := hp154; have hr_dr := hp155; have hr_v := hp156; have hr_c := hp157
   have hdb := dig_back hs_v hcyp (win_lt hs_lb _ _) hslo hVM hr_v (win_lt hr_lb _ _) hr_c
   refine c_nil_then ?_
   refine c_reg ?_
   refine pr hF (pm rfl <| pm rfl <| pm rfl <| pg (fun _ hF => ex_conv TfR.unds53 TfR.und38 (hF.ev rfl) vu32) <| pg (fun _ hF => ex_idxo (j := j - 1) TfR.sl22 (hF.ev rfl) (hF.ev rfl) (by omega) (by omega)) <| PR.nil) ?_
   clear hF fa; intro fa hF
   refine st rfl (op_store (vs := #[.int .u32 ((gs - 1 : Nat) : Int)]) (v := .int .u32 ((gs - 1 : Nat) : Int)) (X := (g75 :: (g106 :: X))) hF hS 1 rfl (by simp) rfl (ev_int rfl (by omega)) rfl TfR.size38 rfl (us_fit (by first | omega | (simp; omega))) ?_)
   intro w158 hS E159
   rw [splice_us (by first | omega | (simp; omega))] at hS
   replace hF : Frm 179 fa [(0, (.slice (A4) ((trimz a).length) (c5))), (1, (.slice (A10) ((trimz b).length) (c11))), (4, (.slice (none) (0) (0))), (5, (.slice (none) (0) (0))), (23, (.bool (decide ((((trimz b).length : Nat) : Int) = 1)))), (34, (.bool (decide ((cmpN (val ((trimz a))) (val ((trimz b)))) < 0)))), (6, (.int .i64 ((((trimz b).length : Nat) : Int)))), (7, (.int .u32 (((sc : Nat) : Int)))), (8, (.slice (some ⟨g75, 0, none⟩) ((trimz a).length + 2) (c76))), (9, (.slice (A103) ((trimz o_91).length) (c104))), (10, (.slice (some ⟨g106, 0, none⟩) (((trimz a).length + 2) - ((trimz b).length)) (((trimz a).length + 2) - ((trimz b).length)))), (11, (.int .i64 (((j : Nat) : Int) - 1))), (70, (.bool (decide ((((j : Nat) : Int) - 1) ≥ 0)))), (12, (.int .u64 ((((U.getD (j - 1 + (trimz b).length) 0 : Nat) : Int) * 1000000000) + ((U.getD (j - 1 + (trimz b).length - 1) 0 : Nat) : Int)))), (13, (.int .u64 (((gs : Nat) : Int) - 1))), (151, (.bool (decide (0 < cy_138))))] := (hF.all ⟨rfl, rfl, rfl, rfl, rfl, rfl, rfl, rfl, rfl, rfl, rfl, rfl, rfl, rfl, rfl, rfl, trivial⟩)
   refine c_nil ?_
   refine x_bn ?_
   refine x_tn ?_
   refine c_reg ?_
   refine pr hF (pm rfl <| pg (fun _ hF => ex_sub (hF.ev rfl) (hF.ev rfl) vi64) <| pa rfl <| PR.nil) ?_
   clear hF fa; intro fa hF
   refine c_nil ?_
   refine x_tn ?_
   replace hS : St w w158 [(g106, 38, (us (Q.set (j - 1) (gs - 1))).toArray), (g75, 38, (us (o_150) ++ R77).toArray)] := hS.perm (List.Perm.swap _ _ _)
   have E160 : Ext w158 (g75 :: (g106 :: X)) w158 (g106 :: (g75 :: X)) := Ext.drop (by simp +contextual)
   exact ⟨_, (by omega), o_150, Q.set (j - 1) (gs - 1), (j - 1), (hF.all ⟨rfl, rfl, rfl, rfl, rfl, rfl, rfl, rfl, rfl, rfl, rfl, (lk_int rfl (by omega)), trivial⟩), hS, ((((((((E111.trans E_w113).trans E_w114).trans E116).trans E131).trans E136).trans E149).trans E159).trans E160), (by omega), (hr_len.trans (hs_len.trans hUl)), (hr_lb), (by simp; omega), (lb_set hbQ (by omega)), (DivInv.step (k := j - 1) (n := (trimz b).length) hI (by omega) (by omega) (hr_len.trans hs_len) (by omega) (hr_tk.trans hs_tk) (hr_dr.trans hs_dr) hdw.rest rfl rfl hdb.2), rfl⟩
  have hc144p : ¬ (0 < cy_138) := by first | simpa using hc144 | exact bang_t hc144 | exact bang_f hc144
  refine c_skip ?_
  refine x_tn ?_
  refine c_reg ?_
  refine pr hF (pm rfl <| pm rfl <| pm rfl <| pg (fun _ hF => ex_conv TfR.unds53 TfR.und38 (hF.ev rfl) (wu32n (by omega))) <| pg (fun _ hF => ex_idxo (j := j - 1) TfR.sl22 (hF.ev rfl) (hF.ev rfl) (by omega) (by omega)) <| PR.nil) ?_
  clear hF fa; intro fa hF
  refine st rfl (op_store (vs := #[.int .u32 ((gs : Nat) : Int)]) (v := .int .u32 ((gs : Nat) : Int)) (X := (g75 :: (g106 :: X))) hF hS 1 rfl (by simp) rfl (ev_int rfl (by omega)) rfl TfR.size38 rfl (us_fit (by first | omega | (simp; omega))) ?_)
  intro w161 hS E162
  rw [splice_us (by first | omega | (simp; omega))] at hS
  refine c_nil ?_
  refine x_bn ?_
  refine x_tn ?_
  refine c_reg ?_
  refine pr hF (pm rfl <| pg (fun _ hF => ex_sub (hF.ev rfl) (hF.ev rfl) vi64) <| pa rfl <| PR.nil) ?_
  clear hF fa; intro fa hF
  refine c_nil ?_
  refine x_tn ?_
  replace hS : St w w161 [(g106, 38, (us (Q.set (j - 1) (gs))).toArray), (g75, 38, (us (o_137) ++ R77).toArray)] := hS.perm (List.Perm.swap _ _ _)
  have E163 : Ext w161 (g75 :: (g106 :: X)) w161 (g106 :: (g75 :: X)) := Ext.drop (by simp +contextual)
  exact ⟨_, (by omega), o_137, Q.set (j - 1) (gs), (j - 1), (hF.all ⟨rfl, rfl, rfl, rfl, rfl, rfl, rfl, rfl, rfl, rfl, rfl, (lk_int rfl (by omega)), trivial⟩), hS, (((((((E111.trans E_w113).trans E_w114).trans E116).trans E131).trans E136).trans E162).trans E163), (by omega), (hs_len.trans hUl), (hs_lb), (by simp; omega), (lb_set hbQ (by omega)), (DivInv.step (k := j - 1) (n := (trimz b).length) hI (by omega) (by omega) hs_len (by omega) hs_tk hs_dr hdw.rest rfl rfl (dig_keep hs_v (by omega) hshi)), rfl⟩
 have hc112p : ¬ ((((j : Nat) : Int) - 1) ≥ 0) := by first | simpa using hc112 | exact bang_t hc112 | exact bang_f hc112
 refine c_exit ?_
 refine x_te ?_
 refine x_te ?_
 refine x_bh ?_
 refine x_tn ?_
 refine c_seq ?_
 refine c_reg ?_
 refine pr hF (pm rfl <| pm rfl <| pg (fun _ hF => ex_slice_h (j := (trimz b).length) TfR.sl22 (hF.ev rfl) (hF.ev rfl) (by omega) (by omega)) <| PR.nil) ?_
 clear hF fa; intro fa hF
 obtain ⟨hS1, hn1⟩ := hS.out hX 1 rfl
 have hu164 := UC.of_boxR (R := R77) (c := c76) (n := (trimz b).length) (L := U) (hS.get 1 rfl) hn1 (by unfold maxLen; omega) (by first | omega | (simp; omega)) (by first | omega | (simp; omega))
 have E165 : Ext w110 (g106 :: (g75 :: X)) w110 (g106 :: X) := Ext.drop (by simp +contextual)
 replace hu164 : UC w110 (g106 :: X) (some ⟨g75, 0, none⟩) (c76) (U.take ((trimz b).length)) := hu164
 replace hS : St w w110 [(g106, 38, (us (Q)).toArray)] := hS1; clear hn1
 have hC := integer_trim_ok (w := w110) (X := (g106 :: X)) (l := (U.take ((trimz b).length))) (hS.bnd hX) ⟨_, ((trimz b).length), _, rfl, (by rw [List.length_take]; omega), hu164⟩
 refine st rfl (op_call hF rfl TfR.body44 (args1 (hF.ev rfl)) hC ?_)
 clear hC
 rintro _ w166 ⟨⟨A169, _, c170, rfl, rfl, hu171⟩, hb167⟩
 refine gen_ ?_; clear hF fa; intro fa hF
 replace hS := hS.call hb167; have E168 := Ext.call (g106 :: X) hb167
 refine pr hF (pm rfl <| PR.nil) ?_
 clear hF fa; intro fa hF
 have hC := integer_byWord_ok (w := w166) (X := (g106 :: X)) (a := (trimz (U.take ((trimz b).length)))) (hS.bnd hX) ⟨_, ((trimz (U.take ((trimz b).length))).length), _, rfl, (rfl), hu171⟩ (sc) (by have := trimz_length_le (U.take (trimz b).length); simp at this; omega) (trimz_lb (hbU.take _)) (hsc0) (hscB)
 refine st rfl (op_call hF rfl TfR.body45 (args2 (hF.ev rfl) (hF.ev (ev_int (b := ((sc : Nat) : Int)) rfl (by first | rfl | omega)))) hC ?_)
 clear hC
 rintro _ w172 ⟨⟨qs_175, rs_176, _, _, rfl, ⟨A177, _, c178, rfl, rfl, hu179⟩, ⟨A180, _, c181, rfl, rfl, hu182⟩, hp183, hp184, hp185, hp186, hp187, hp188⟩, hb173⟩
 refine gen_ ?_; clear hF fa; intro fa hF
 replace hS := hS.call hb173; have E174 := Ext.call (g106 :: X) hb173
 have hw_lq := hp183; have hw_v := hp185; have hw_l := hp186; have hw_q := hp187; rw [val_trimz] at hw_v
 refine pr hF (pm rfl <| px rfl rfl <| px rfl rfl <| pa rfl <| pa rfl <| PR.nil) ?_
 clear hF fa; intro fa hF
 replace hF : Frm 179 fa [(0, (.slice (A4) ((trimz a).length) (c5))), (1, (.slice (A10) ((trimz b).length) (c11))), (4, (.slice (none) (0) (0))), (5, (.slice (none) (0) (0))), (23, (.bool (decide ((((trimz b).length : Nat) : Int) = 1)))), (34, (.bool (decide ((cmpN (val ((trimz a))) (val ((trimz b)))) < 0)))), (6, (.int .i64 ((((trimz b).length : Nat) : Int)))), (7, (.int .u32 (((sc : Nat) : Int)))), (8, (.slice (some ⟨g75, 0, none⟩) ((trimz a).length + 2) (c76))), (9, (.slice (A103) ((trimz o_91).length) (c104))), (10, (.slice (some ⟨g106, 0, none⟩) (((trimz a).length + 2) - ((trimz b).length)) (((trimz a).length + 2) - ((trimz b).length)))), (11, (.int .i64 (((j : Nat) : Int) - 1))), (70, (.bool (decide ((((j : Nat) : Int) - 1) ≥ 0)))), (15, (.slice (A177) (qs_175.length) (c178)))] := (hF.all ⟨rfl, rfl, rfl, rfl, rfl, rfl, rfl, rfl, rfl, rfl, rfl, rfl, rfl, rfl, trivial⟩)
 refine c_nil_then ?_
 refine c_seq ?_
 refine c_reg ?_
 refine pr hF (pm rfl <| pm rfl <| pa rfl <| pa rfl <| PR.nil) ?_
 clear hF fa; intro fa hF
 refine c_nil_then ?_
 refine c_ret ?_
 have hj0 : j = 0 := by omega
 subst hj0
 simp only [DivInv, List.drop_zero, Nat.pow_zero, Nat.one_mul] at hI
 have hvlt := val_lt _ hvb; rw [hvn] at hvlt
 have htk0 := take_small (U := U) (k := (trimz b).length) (by omega) (Nat.lt_trans hI.2 hvlt)
 rw [take_small (by omega) (Nat.lt_trans hI.2 hvlt)] at hw_v
 rw [hV] at hI
 have hend := div_end hsc0 hI.1 hI.2 hw_v hw_l
 have htln := trimz_length_le (U.take (trimz b).length); simp at htln
 refine end2 hF rfl (res_tmp hF rfl) (res_tmp hF rfl) ?_
 exact ⟨_, rfl, ⟨Q, qs_175, _, _, rfl, (UL.own (L := Q) (hS.get 0 rfl) (hS.notX hX 0 rfl) (by first | rfl | (simp; done) | omega) (by first | rfl | (simp; done) | omega) (by first | omega | (simp; omega)) (rfl)), (UL.fin (L := qs_175) ⟨_, _, _, rfl, (rfl), hu179⟩ (rfl) (fun x hx => by simp [hx])), (hbQ), (hw_lq), (hend.1), (hend.2), (by unfold dql; rw [if_neg (by omega), if_neg (by omega)]; omega), (by unfold drl; rw [if_neg (by omega), if_neg (by omega), hw_q]; exact div_rl hbU htk0 (by unfold dsc; rw [← hsc]; exact hI.1) hend.1 hend.2)⟩, hS.below⟩

end Go.Proofs.YtghlkihmnopenaaDoor

namespace Go.Proofs.YtghlkihmnopenaaDoor
open Go Go.RowKit Go.Sw
set_option linter.unusedVariables false
set_option maxRecDepth 100000
set_option maxHeartbeats 8000000
instance (a b : List Nat) : DenI Tryd.prog 27 [.c (lmc a), .c (lmc b)] (a.length ≤ 100000000000 ∧ b.length ≤ 100000000000 ∧ Lb a ∧ Lb b ∧ 0 < val b) (.tup [.c (lmc (pad (dql a b) (val a / val b))), .c (lmc (pad (drl a b) (val a % val b)))]) := ⟨fun hp => den2 (by kernel_rfl) fun w X u v hX hu hv => (integer_divide_ok hX hu.ul hv.ul hp.1 hp.2.1 hp.2.2.1 hp.2.2.2.1 hp.2.2.2.2).mono fun e w' ⟨u, he, ⟨qs, rs, r0, r1, h1, h2, h3, h4, h5, h6, h7, h8, h9⟩, hb⟩ => ⟨u, he, by subst h1; obtain ⟨e1, e2⟩ := div_pads h4 h5 h6 h7 h8 h9; rw [← e1, ← e2]; exact tup2 (.c h2.rep) (.c h3.rep), hb⟩⟩
end Go.Proofs.YtghlkihmnopenaaDoor

namespace Go.Proofs.YtghlkihmnopenaaDoor
open Go Go.RowKit Go.Sw
set_option linter.unusedVariables false
set_option maxRecDepth 100000
set_option maxHeartbeats 8000000
instance ih_sub (a b : Int) : DenI Tryd.prog 28 [Z a, Z b] (sz a ≤ 1000000000 ∧ sz b ≤ 1000000000) (Z (a - b)) := ⟨fun hp => by
 refine den_of (τ := tab) tab_ok mixed_ Tryd.func28 rfl (by kernel_rfl) (by kernel_rfl) (by kernel_rfl) ?_
 repeat' ((try (conv => whnf)); first
  | refine call_0 ?_
  | refine call_i ?_ ?_
  | (with_reducible refine onB_t ?_)
  | (with_reducible refine onB_f ?_)
  | (with_reducible refine onB_d (fun _ => ?_) (fun _ => ?_))
  | (with_reducible refine onB_n (fun _ => ?_) (fun _ => ?_))
  | refine OnB.mk (fun _ => ?_) (fun _ => ?_)
  | refine obl_i ?_ ?_
  | refine Drw.mk (by kernel_rfl) ?_
  | refine mks_i ?_ ?_
  | refine slp_i ?_ ?_
  | (with_reducible refine elem_u ?_ ?_)
  | (with_reducible refine elem_0 ?_)
  | (with_reducible refine elem_1 ?_)
  | refine Ends.mk ?_)
 all_goals (try refine Pr.mk ?_)
 all_goals (try ((conv => whnf); first | rw [subc_1 (by assumption)] | rw [subc_2 (by assumption)]))
 all_goals (repeat' ((try (conv => whnf)); first
  | refine call_0 ?_
  | refine call_i ?_ ?_
  | (with_reducible refine onB_t ?_)
  | (with_reducible refine onB_f ?_)
  | (with_reducible refine onB_d (fun _ => ?_) (fun _ => ?_))
  | (with_reducible refine onB_n (fun _ => ?_) (fun _ => ?_))
  | refine OnB.mk (fun _ => ?_) (fun _ => ?_)
  | refine obl_i ?_ ?_
  | refine Drw.mk (by kernel_rfl) ?_
  | refine mks_i ?_ ?_
  | refine slp_i ?_ ?_
  | (with_reducible refine elem_u ?_ ?_)
  | (with_reducible refine elem_0 ?_)
  | (with_reducible refine elem_1 ?_)
  | refine Ends.mk ?_))
 all_goals (try refine Pr.mk ?_)
 all_goals first
  | (rw [sz_neg]; exact hp)
  | (refine zsE ?_; omega)
  | skip⟩

instance ih_divmod (a b : Int) : DenI Tryd.prog 12 [Z a, Z b] (sz a ≤ 1000000000 ∧ sz b ≤ 1000000000) (.tup [Z (a.fdiv b), Z (if b = 0 then 0 else a.fmod b), .int .i64 (if b = 0 then 6 else 0)]) := ⟨fun hp => by
 refine den_of (τ := tab) tab_ok mixed_ Tryd.func12 rfl (by kernel_rfl) (by kernel_rfl) (by kernel_rfl) ?_
 repeat' ((try (conv => whnf)); first
  | refine call_0 ?_
  | refine call_i ?_ ?_
  | (with_reducible refine onB_t ?_)
  | (with_reducible refine onB_f ?_)
  | (with_reducible refine onB_d (fun _ => ?_) (fun _ => ?_))
  | (with_reducible refine onB_n (fun _ => ?_) (fun _ => ?_))
  | refine OnB.mk (fun _ => ?_) (fun _ => ?_)
  | refine obl_i ?_ ?_
  | refine Drw.mk (by kernel_rfl) ?_
  | refine mks_i ?_ ?_
  | refine slp_i ?_ ?_
  | (with_reducible refine elem_u ?_ ?_)
  | (with_reducible refine elem_0 ?_)
  | (with_reducible refine elem_1 ?_)
  | refine Ends.mk ?_)
 all_goals (try refine Pr.mk ?_)
 all_goals (try simp (disch := assumption) only [val_lim, natAbs_sgnv, neg_sgnv, cast_len0, cast_len1, List.length_map, dqI, drI] at *)
 all_goals (try simp (disch := assumption) only [val_lim, natAbs_sgnv, neg_sgnv, cast_len0, cast_len1, List.length_map, dqI, drI] at *)
 all_goals first
  | omega
  | (have hb0 : b = 0 := (by omega); subst hb0; exact rdm_zero a)
  | with_reducible exact lb_pad _ _
  | with_reducible exact dv_pre hp.1 hp.2 (by assumption)
  | with_reducible exact ⟨sz_q hp.1 _, sz_o⟩
  | with_reducible exact ⟨sz_r hp.1 _, hp.2⟩
  | with_reducible exact rdm_turn (by assumption) (by assumption) (turn_sg (r := a.natAbs % b.natAbs) (by omega) (by assumption))
  | with_reducible exact rdm_keep (by assumption) (.inr (keep_sg (r := a.natAbs % b.natAbs) (by omega) (by assumption)))
  | with_reducible exact rdm_keep (by assumption) (.inl (by omega))
  | skip⟩

end Go.Proofs.YtghlkihmnopenaaDoor

namespace Go.Proofs.YtghlkihmnopenaaDoor
open Go Go.RowKit Go.Sw
set_option linter.unusedVariables false
set_option maxRecDepth 100000
set_option maxHeartbeats 8000000
instance ih_gcd (a b : Int) : DenI Tryd.prog 16 [Z a, Z b] (sz a ≤ 1000000000 ∧ sz b ≤ 1000000000) (Z ((Nat.gcd a.natAbs b.natAbs : Nat) : Int)) := ⟨fun hp => by
 refine den_of (τ := tab) tab_ok mixed_ Tryd.func16 rfl (by kernel_rfl) (by kernel_rfl) (by kernel_rfl) ?_
 repeat' ((try (conv => whnf)); first
  | refine call_0 ?_
  | refine call_i ?_ ?_
  | (with_reducible refine onB_t ?_)
  | (with_reducible refine onB_f ?_)
  | (with_reducible refine onB_d (fun _ => ?_) (fun _ => ?_))
  | (with_reducible refine onB_n (fun _ => ?_) (fun _ => ?_))
  | refine OnB.mk (fun _ => ?_) (fun _ => ?_)
  | refine obl_i ?_ ?_
  | refine Drw.mk (by kernel_rfl) ?_
  | refine mks_i ?_ ?_
  | refine slp_i ?_ ?_
  | (with_reducible refine elem_u ?_ ?_)
  | (with_reducible refine elem_0 ?_)
  | (with_reducible refine elem_1 ?_)
  | refine Ends.mk ?_)
 all_goals (try refine Pr.mk ?_)
 all_goals first
  | ((conv => whnf); refine Sw.Loop.inv (α := Nat × Nat) (fun x => [(4, .ptr 4 0), (5, .ptr 5 0), (6, .ptr 6 0)]) (fun x => [(4, .var [.v (.bool false), .sl 1 []]), (5, .var [zs (x.1 : Nat), zl (x.1 : Nat)]), (6, .var [zs (x.2 : Nat), zl (x.2 : Nat)])]) (fun x => Nat.gcd x.1 x.2 = Nat.gcd a.natAbs b.natAbs ∧ sz ((x.1 : Nat) : Int) ≤ 1000000000 ∧ sz ((x.2 : Nat) : Int) ≤ 1000000000) (fun x => x.2) (a.natAbs, b.natAbs) ?_ ?_ ?_ (fun x hx => ?_))
  | skip
 all_goals (repeat' ((try (conv => whnf)); first
  | refine call_0 ?_
  | refine call_i ?_ ?_
  | (with_reducible refine onB_t ?_)
  | (with_reducible refine onB_f ?_)
  | (with_reducible refine onB_d (fun _ => ?_) (fun _ => ?_))
  | (with_reducible refine onB_n (fun _ => ?_) (fun _ => ?_))
  | refine OnB.mk (fun _ => ?_) (fun _ => ?_)
  | refine obl_i ?_ ?_
  | refine Drw.mk (by kernel_rfl) ?_
  | refine mks_i ?_ ?_
  | refine slp_i ?_ ?_
  | (with_reducible refine elem_u ?_ ?_)
  | (with_reducible refine elem_0 ?_)
  | (with_reducible refine elem_1 ?_)
  | refine Ends.mk ?_))
 all_goals (try refine Pr.mk ?_)
 all_goals first
  | ((conv => whnf); refine Sw.Loop.inv (α := Nat × Nat) (fun y => [(4, .ptr 4 0), (7, .int .u64 (y.1 : Nat)), (9, .int .u64 (y.2 : Nat))]) (fun y => [(4, .var [.v (.bool false), .sl 1 []])]) (fun y => y.1 < 1000000000000000000 ∧ y.2 < 1000000000000000000 ∧ Nat.gcd y.1 y.2 = Nat.gcd a.natAbs b.natAbs) (fun y => y.2) x ?_ ?_ ?_ (fun y hy => ?_))
  | skip
 all_goals (repeat' ((try (conv => whnf)); first
  | refine call_0 ?_
  | refine call_i ?_ ?_
  | (with_reducible refine onB_t ?_)
  | (with_reducible refine onB_f ?_)
  | (with_reducible refine onB_d (fun _ => ?_) (fun _ => ?_))
  | (with_reducible refine onB_n (fun _ => ?_) (fun _ => ?_))
  | refine OnB.mk (fun _ => ?_) (fun _ => ?_)
  | refine obl_i ?_ ?_
  | refine Drw.mk (by kernel_rfl) ?_
  | refine mks_i ?_ ?_
  | refine slp_i ?_ ?_
  | (with_reducible refine elem_u ?_ ?_)
  | (with_reducible refine elem_0 ?_)
  | (with_reducible refine elem_1 ?_)
  | refine Ends.mk ?_))
 all_goals (try refine Pr.mk ?_)
 all_goals first | (show SubE _ _; repeat' (first | exact trivial | refine And.intro ?_ ?_)) | (show SubB _ _; repeat' (first | exact trivial | refine And.intro ?_ ?_)) | skip
 all_goals (try rfl)
 all_goals (try simp only [List.length_map] at *)
 all_goals first
  | with_reducible exact lb_lim _
  | with_reducible exact lb_pad _ _
  | exact zcells _ _ (by rw [val_lim]; rfl)
  | exact ⟨trivial, hp.1, hp.2⟩
  | exact wif (by assumption)
  | exact ⟨sz_lt18 (by assumption), sz_lt18 (by assumption), hx.1⟩
  | with_reducible exact gdiv hx.2.1 hx.2.2 (by assumption)
  | omega
  | with_reducible exact gend (gzero (by assumption)) hx.1 (val_lim _)
  | with_reducible exact gend (by omega) hy.2.2 (val_pad _ _ (by omega))
  | (have h1 := hy.1; have h2 := hy.2.1; have h3 : y.1 % y.2 < y.2 := Nat.mod_lt _ (by omega); ((conv => whnf); exact ⟨(y.2, y.1 % y.2), ⟨⟨rfl, rfl, gm2, trivial⟩, ⟨rfl, trivial⟩, ⟨by show y.2 < _; omega, by show y.1 % y.2 < _; omega, gcd_turn hy.2.2 rfl⟩, h3⟩⟩))
  | (have h0 := gpos (by assumption); have h3 : x.1 % x.2 < x.2 := Nat.mod_lt _ h0; ((conv => whnf); exact ⟨(x.2, x.1 % x.2), ⟨⟨rfl, rfl, rfl, trivial⟩, ⟨rfl, rfl, zcells _ _ (gst (by assumption)), trivial⟩, ⟨gcd_turn hx.1 rfl, hx.2.2, Nat.le_trans (sz_mono (by rw [Int.natAbs_natCast, Int.natAbs_natCast]; exact Nat.le_of_lt h3)) hx.2.2⟩, h3⟩⟩))
  | (have h0 := hx.2.1; unfold sz at h0; omega)
  | skip⟩

end Go.Proofs.YtghlkihmnopenaaDoor

namespace Go.Proofs.YtghlkihmnopenaaDoor
open Go Go.RowKit Go.Sw
set_option linter.unusedVariables false
set_option maxRecDepth 100000
set_option maxHeartbeats 8000000

end Go.Proofs.YtghlkihmnopenaaDoor

namespace Go.Proofs.YtghlkihmnopenaaDoor
open Go Go.RowKit Go.Sw
set_option linter.unusedVariables false
set_option maxRecDepth 100000
set_option maxHeartbeats 8000000
instance (k : Nat) : DenI Tryd.prog 24 [.bool false, .c (.sl 1 (List.replicate k [Cell.v (.int .u32 0)] ++ [[Cell.v (.int .u32 1)]]))] True (Z ((1000000000 ^ k : Nat) : Int)) := ⟨fun _ => by
 have h := (inferInstance : DenI Tryd.prog 24 [.bool false, .c (lmc (List.replicate k 0 ++ [1]))] _ _).den ((lb_zeros k).append (Lb.cons (by omega) Lb.nil))
 rw [sqrt_start] at h
 unfold lmc at h
 rw [List.map_append, List.map_replicate] at h
 exact h⟩
instance i_sqrt (a : Int) : DenI Tryd.prog 14 [Z a] (sz a ≤ 100000000) (.tup [Z (if a < 0 then 0 else isq a.natAbs), .int .i64 (if a < 0 then 7 else 0)]) := ⟨fun hp => by
 refine den_of (τ := tab) tab_ok mixed_ Tryd.func14 rfl (by kernel_rfl) (by kernel_rfl) (by kernel_rfl) ?_
 repeat' ((try (conv => whnf)); first
  | refine call_0 ?_
  | refine call_i ?_ ?_
  | (with_reducible refine onB_t ?_)
  | (with_reducible refine onB_f ?_)
  | (with_reducible refine onB_d (fun _ => ?_) (fun _ => ?_))
  | (with_reducible refine onB_n (fun _ => ?_) (fun _ => ?_))
  | refine OnB.mk (fun _ => ?_) (fun _ => ?_)
  | refine obl_i ?_ ?_
  | refine Drw.mk (by kernel_rfl) ?_
  | refine mks_i ?_ ?_
  | refine slp_i ?_ ?_
  | (with_reducible refine elem_u ?_ ?_)
  | (with_reducible refine elem_0 ?_)
  | (with_reducible refine elem_1 ?_)
  | refine Ends.mk ?_)
 all_goals (try refine Pr.mk ?_)
 all_goals have hl : (lim a.natAbs).length ≤ 100000000 := hp
 all_goals first
  | ((conv => whnf); refine Sw.Loop.inv (α := Nat) (fun x => [(1, .ptr 1 0), (2, .ptr 2 0), (3, .int .i64 0), (5, .ptr 5 0), (6, .ptr 6 0)]) (fun x => [(1, .var [zs a, zl a]), (2, .var [.v (.bool false), .sl 1 []]), (5, .var [zs x, zl x]), (6, .var [zs 2, zl 2])]) (fun x => 0 < x ∧ a.natAbs < (x + 1) * (x + 1) ∧ sz x ≤ 200000000) (fun x => x) (1000000000 ^ (((lim a.natAbs).length + 1) / 2)) ?_ ?_ ?_ (fun x hx => ?_))
  | skip
 all_goals (repeat' ((try (conv => whnf)); first
  | refine call_0 ?_
  | refine call_i ?_ ?_
  | (with_reducible refine onB_t ?_)
  | (with_reducible refine onB_f ?_)
  | (with_reducible refine onB_d (fun _ => ?_) (fun _ => ?_))
  | (with_reducible refine onB_n (fun _ => ?_) (fun _ => ?_))
  | refine OnB.mk (fun _ => ?_) (fun _ => ?_)
  | refine obl_i ?_ ?_
  | refine Drw.mk (by kernel_rfl) ?_
  | refine mks_i ?_ ?_
  | refine slp_i ?_ ?_
  | (with_reducible refine elem_u ?_ ?_)
  | (with_reducible refine elem_0 ?_)
  | (with_reducible refine elem_1 ?_)
  | refine Ends.mk ?_))
 all_goals (try refine Pr.mk ?_)
 all_goals first | (show SubE _ _; repeat' (first | exact trivial | refine And.intro ?_ ?_)) | (show SubB _ _; repeat' (first | exact trivial | refine And.intro ?_ ?_)) | skip
 all_goals (try rfl)
 all_goals (try simp only [sgnI_lt0, sgnI_zero, sgnI_le0, sgnI_gt0, sgnI_ge0, sgnI_eq1, cmpI_lt0, cmpI_gt0, cmpI_eq0, cmpI_le0, cmpI_ge0, cmpR_of, sgnR_of, sgnR_lt0, sgnR_eq0, sgnR_gt0, sgnR_le0, sgnR_ge0, sgnR_eq1, cmpR_lt0, cmpR_gt0, cmpR_eq0, cmpR_le0, cmpR_ge0] at *)
 all_goals (try simp only [List.length_map, val_lim, cast_len0, cast_len1] at *)
 all_goals (try rw [half_len (by omega)])
 all_goals (try simp only [Int.toNat_natCast, List.length_replicate, List.length_append, List.length_cons, List.length_nil])
 all_goals (try simp only [fdiv_nat (show 0 ≤ a by omega), fdiv_two] at *)
 all_goals first
  | exact rsq_neg (by assumption)
  | exact rsq_zero (by assumption) (by assumption)
  | with_reducible exact rsq_end (by assumption) (by assumption) (by assumption)
  | ((conv => whnf); exact ⟨(x + a.natAbs / x) / 2, ⟨⟨rfl, rfl, rfl, rfl, rfl, trivial⟩, ⟨rfl, rfl, rfl, rfl, trivial⟩, rsq_step (by assumption) (by assumption) (by assumption), by show (x + a.natAbs / x) / 2 < x; omega⟩⟩)
  | exact sqrt_facts rfl hl
  | with_reducible rfl
  | (show ld _ _ = some _; rfl)
  | (have z1 := @sz_quot a; have z2 := sz_add; have z3 := sz_one; have z4 := sz_64 (n := 2) (by omega) (by omega); (repeat' apply And.intro) <;> first | assumption | omega | decide | (simp; done) | (have z5 := z1 (x := x); have z6 := z2 x ((a.natAbs / x : Nat) : Int); omega) | skip)⟩

end Go.Proofs.YtghlkihmnopenaaDoor

namespace Go.Sw
open Go Go.RowKit
set_option linter.unusedVariables false
theorem den_lift {P : Program} (i j : Wld P) (hij : ∀ w, j.ok w → i.ok w) {f : FuncId} {xs : List AV} {r : AV} (h : @Den P i f xs r) : @Den P j f xs r := by
  revert h
  unfold Den
  split
  · exact id
  · exact id
  · exact fun h => ⟨h.1, fun w X vs hW => h.2 w X vs (hij w hW)⟩
/-- A package's variable that holds a map from whole numbers to texts. -/
structure MapSays (P : Program) (t : TypeId) (g : Nat) (f : Int → ByteArray) (w : World) : Prop where
  ex : ∃ bm es clock, w.cell? ⟨g, 0, none⟩ = some (.map (some bm)) ∧ w.heap[bm]? = some (.map es clock) ∧ ∀ w' : World, w'.heap[bm]? = some (.map es clock) → ∀ k : Int, -9223372036854775808 ≤ k → k ≤ 9223372036854775807 → (Instr.lookup t (.map (some bm)) (.int .i64 k) false).run P w' = .ok (.string (f k)) w'
theorem MapSays.keep {P : Program} {t : TypeId} {g : Nat} {f : Int → ByteArray} {w w' : World} (h : MapSays P t g f w) (hb : Below w.heap.size w w') : MapSays P t g f w' := by
  obtain ⟨bm, es, clock, h1, h2, h3⟩ := h.ex
  have hl : bm < w.heap.size := by
    rcases Nat.lt_or_ge bm w.heap.size with h' | h'
    · exact h'
    · rw [Array.getElem?_eq_none h'] at h2; cases h2
  have hg : g < w.heap.size := by
    rcases Nat.lt_or_ge g w.heap.size with h' | h'
    · exact h'
    · simp [World.cell?, Array.getElem?_eq_none h'] at h1
  exact ⟨bm, es, clock, (hb.cell (p := ⟨g, 0, none⟩) hg).trans h1, (hb.block bm hl).trans h2, h3⟩
theorem MapSays.run {P : Program} {t : TypeId} {g : Nat} {f : Int → ByteArray} {w : World} (h : MapSays P t g f w) (k : Int) (h1 : -9223372036854775808 ≤ k) (h2 : k ≤ 9223372036854775807) :
    ∃ bm, w.cell? ⟨g, 0, none⟩ = some (.map (some bm)) ∧ (Instr.lookup t (.map (some bm)) (.int .i64 k) false).run P w = .ok (.string (f k)) w := by
  obtain ⟨bm, es, clock, a, b, c⟩ := h.ex
  exact ⟨bm, a, c w b k h1 h2⟩
end Go.Sw

namespace Go.Proofs.YtghlkihmnopenaaDoor
open Go Go.RowKit Go.Sw Go.Shelf Go.Sort Go.Lib
set_option linter.unusedVariables false
set_option maxRecDepth 100000
set_option maxHeartbeats 8000000
def ndRen : Go.Shelf.Ren := ⟨fun n => if n = 284 then 55 else if n = 317 then 62 else if n = 318 then 64 else if n = 129 then 63 else n, fun n => if n = 46 then 66 else if n = 53 then 53 else if n = 212 then 93 else  n, fun n => if n = 17 then 0 else  n⟩
theorem ndLay0 : Go.Proofs.Lays.n284 Tryd.prog ndRen where
  mixed := mixed_
  f284 := Eq.trans Tryd.func55 (congrArg some (Eq.refl _))
  f317 := Eq.trans Tryd.func62 (congrArg some (Eq.refl _))
  f318 := Eq.trans Tryd.func64 (congrArg some (Eq.refl _))
  f129 := Eq.trans Tryd.func63 (congrArg some (Eq.refl _))
  t0 := Tryd.underlying0
  a0 := Tryd.isAgg0
  z0 := Tryd.sizeOf0
  v0 := Tryd.zeroValue0
  t3 := Tryd.underlying3
  a3 := Tryd.isAgg3
  z3 := Tryd.sizeOf3
  v3 := Tryd.zeroValue3
  t4 := Tryd.underlying4
  a4 := Tryd.isAgg4
  z4 := Tryd.sizeOf4
  v4 := Tryd.zeroValue4
  t5 := Tryd.underlying5
  a5 := Tryd.isAgg5
  z5 := Tryd.sizeOf5
  v5 := Tryd.zeroValue5
  t9 := Tryd.underlying9
  a9 := Tryd.isAgg9
  z9 := Tryd.sizeOf9
  v9 := Tryd.zeroValue9
  t46 := Tryd.underlying66
  a46 := Tryd.isAgg66
  z46 := Tryd.sizeOf66
  v46 := Tryd.zeroValue66
  t53 := Tryd.underlying53
  a53 := Tryd.isAgg53
  z53 := Tryd.sizeOf53
  v53 := Tryd.zeroValue53
  t212 := Tryd.underlying93
  a212 := Tryd.isAgg93
  z212 := Tryd.sizeOf93
  v212 := Tryd.zeroValue93
  g17 := by kernel_rfl
theorem ndLay : Go.Proofs.LaysM.n284 Tryd.prog ndRen where
  ton284 := ndLay0
  i0 := by kernel_rfl
  i3 := by kernel_rfl
  i4 := by kernel_rfl
  i5 := by kernel_rfl
  i9 := by kernel_rfl
  i46 := by kernel_rfl
  i53 := by kernel_rfl
  i212 := by kernel_rfl
  m17 := by kernel_rfl
def fbRen : Go.Shelf.Ren := ⟨fun n => if n = 285 then 56 else n, fun n => if n = 37 then 44 else if n = 51 then 38 else if n = 53 then 53 else  n, fun n =>  n⟩
theorem fbLay0 : Go.Proofs.Lays.n285 Tryd.prog fbRen where
  mixed := mixed_
  f285 := Eq.trans Tryd.func56 (congrArg some (Eq.refl _))
  t0 := Tryd.underlying0
  a0 := Tryd.isAgg0
  z0 := Tryd.sizeOf0
  v0 := Tryd.zeroValue0
  t3 := Tryd.underlying3
  a3 := Tryd.isAgg3
  z3 := Tryd.sizeOf3
  v3 := Tryd.zeroValue3
  t4 := Tryd.underlying4
  a4 := Tryd.isAgg4
  z4 := Tryd.sizeOf4
  v4 := Tryd.zeroValue4
  t5 := Tryd.underlying5
  a5 := Tryd.isAgg5
  z5 := Tryd.sizeOf5
  v5 := Tryd.zeroValue5
  t9 := Tryd.underlying9
  a9 := Tryd.isAgg9
  z9 := Tryd.sizeOf9
  v9 := Tryd.zeroValue9
  t37 := Tryd.underlying44
  a37 := Tryd.isAgg44
  z37 := Tryd.sizeOf44
  v37 := Tryd.zeroValue44
  t51 := Tryd.underlying38
  a51 := Tryd.isAgg38
  z51 := Tryd.sizeOf38
  v51 := Tryd.zeroValue38
  t53 := Tryd.underlying53
  a53 := Tryd.isAgg53
  z53 := Tryd.sizeOf53
  v53 := Tryd.zeroValue53

set_option maxHeartbeats 6400000 in
set_option maxRecDepth 100000 in
theorem fu_walk (u : Nat) (h1 : 100 ≤ u) (hu64 : u < 18446744073709551616) (w : World) (htab : Lib.TabIs Tryd.prog w "internal/strconv.uint64pow10" .u64 Lib.pow10Tab) :
    Calls Tryd.prog 36 #[.int .u64 u, .int .i64 10] w fun e w' => e = .returned (.string ⟨(Lib.decDigits u).toArray⟩) ∧ Below w.heap.size w w' := by
  have hu1 : 1 ≤ u := by omega
  have hlt : ¬((u : Int) < 100) := by omega
  have hnd20 : Lib.nDigits u ≤ 20 := Lib.nDigits_le20 u hu64
  have hal : Tryd.prog.arrayLen 82 = 24 := by kernel_rfl
  have hsl : ∀ W, (Instr.sliceAt 82 (.pointer (some ⟨w.heap.size, 0, none⟩)) none (some (.int .i64 (Lib.nDigits u : Int))) none).run Tryd.prog W = .ok (.slice (some ⟨w.heap.size, 0, none⟩) (Lib.nDigits u) 24) W := fun W => by
    rw [run_sliceAt_array_h W 82 ⟨w.heap.size, 0, none⟩ (by simp [Program.arrayLen, Program.elem, Tryd.underlying82]) .i64 (Lib.nDigits u : Int) (by omega) (by rw [hal]; omega)]
    go_simp
  have hH0 := Lib.holds_zero0 w 82 (Lib.nDigits u) (by omega)
  have hfmt := Any.internal_strconv_formatBase10 fbLay0 w.heap.size 0 24 u (Array.replicate (Lib.nDigits u) 0) (w.alloc (.cells Lib.zeros24 82)) hH0 (by rw [Array.size_replicate]; exact Lib.lt_pow_nDigits u) hu64 (by rw [Array.size_replicate]; omega)
  rw [Array.size_replicate] at hfmt
  have HH0 := Lib.hid hH0
  clear hH0 hal
  go_enter Tryd.func36, Tryd.ntmps36
  go_wp2_with (first
    | (go_at_call 55; refine (Any.internal_strconv_numDigits ndLay u hu1 hu64 _ (Lib.tabIs_alloc htab _)).mono ?_; rintro e w' ⟨rfl, rfl⟩))
  go_at_call 56
  refine hfmt.mono ?_
  rintro e w' ⟨rfl, k, v', dk, rfl, hF⟩
  have hcv : (convert 44 9 (.slice (some ⟨w.heap.size, 0, none⟩) (Lib.nDigits u) 24)).run Tryd.prog ((putRow (fun (b : UInt8) => Value.int .u8 (b.toNat : Int)) (w.alloc (.cells Lib.zeros24 82)) w.heap.size 0 dk).drewN k) = .ok (.string ⟨(Lib.decDigits u).toArray⟩) ((putRow (fun (b : UInt8) => Value.int .u8 (b.toNat : Int)) (w.alloc (.cells Lib.zeros24 82)) w.heap.size 0 dk).drewN k) := by
    have h := run_convert_bytes_back (P := Tryd.prog) ((putRow (fun (b : UInt8) => Value.int .u8 (b.toNat : Int)) (w.alloc (.cells Lib.zeros24 82)) w.heap.size 0 dk).drewN k) 44 9 5 ⟨w.heap.size, 0, none⟩ 24 (Lib.decDigits u) Tryd.underlying44 Tryd.underlying5 Tryd.underlying9 (fun j hj => by
      rw [Lib.row_is_numeral hF j hj, Lib.add_plain, World.cell?_drewN]
      exact cell?_putRow (fun (b : UInt8) => Value.int .u8 (b.toNat : Int)) _ w.heap.size 0 _ dk HH0.out (by rw [hF.size, Array.size_replicate]) j (by rw [hF.size]; rw [Lib.decDigits_length] at hj; exact hj))
    rw [Lib.decDigits_length] at h
    exact h
  go_wp2
  go_ret
  refine ⟨rfl, ?_⟩
  rw [alloc_eq_grow]
  obtain ⟨os', _, e⟩ := putRow_grow_new (fun (b : UInt8) => Value.int .u8 (b.toNat : Int)) w #[.cells Lib.zeros24 82] w.heap.size 0 dk (Nat.le_refl _)
  rw [e]
  exact Lib.below_grow _ w (Nat.le_refl _) k os'

end Go.Proofs.YtghlkihmnopenaaDoor

namespace Go.Sw
open Go Go.RowKit
set_option linter.unusedVariables false
theorem laid_mem {P : Program} {w : World} : ∀ {l : List (String × DataW Unit)} {ps : List MemPlace}, DataW.LaidVars P w l ps → ∀ x ∈ l, ∃ g t cs fuel p, P.globalNamed x.1 = some g ∧ (P.globals[g]?).map (·.type) = some t ∧ w.var? P x.1 = some cs ∧ DataW.trod (fun _ => ()) P w 0 (fun _ => true) false fuel t cs.toList = some (x.2, p)
  | [], _, _, x, hx => by cases hx
  | (n, d) :: r, ps, h, x, hx => by
    obtain ⟨g, t, cs, fuel, p, q, h1, h2, h3, h4, h5, _⟩ := h
    rcases List.mem_cons.1 hx with rfl | hx
    · exact ⟨g, t, cs, fuel, p, h1, h2, h3, h4⟩
    · exact laid_mem h5 x hx
theorem tab_of {P : Program} {W : World} {l : List (String × DataW Unit)} {nm : String} {k : IntKind} {zs : List Int} {g : Nat} {t e : TypeId} (h : laidMet P l W) (hm : (nm, DataW.agg (zs.map fun z => .lit (.int k z))) ∈ l)
    (hg : P.globalNamed nm = some g) (htg : (P.globals[g]?).map (·.type) = some t) (ht : P.underlying t = some (.array zs.length e)) (he : P.underlying e = some (.int k)) (ce : P.cellsOf e = 1) (ct : P.cellsOf t = zs.length) : Lib.TabIs P W nm k zs := by
  obtain ⟨ps, hl, _⟩ := h
  obtain ⟨g0, t0, cs, fuel, p, hg0, ht0, hv, hd⟩ := laid_mem hl _ hm
  obtain rfl := Option.some.inj (hg.symm.trans hg0)
  obtain rfl := Option.some.inj (htg.symm.trans ht0)
  obtain ⟨xs, m, _, ex, hlen, hxl, hel⟩ := DataW.trod_array ht hd
  have e1 : zs.map (fun z => DataW.lit (.int k z)) = xs.map (·.1) := by
    have := (Prod.mk.inj ex).1
    exact DataW.agg.inj this
  unfold Lib.TabIs
  rw [hv]
  congr 1
  apply Array.ext'
  rw [List.toArray]
  show cs.toList = zs.map (Value.int k)
  apply List.ext_getElem
  · rw [hlen, ct, List.length_map]
  · intro i h1 h2
    have hi : i < zs.length := by simpa using h2
    have h3 := hel i hi
    rw [ce, Nat.mul_one] at h3
    have hx : xs[i]? = some xs[i] := List.getElem?_eq_getElem (by omega)
    rw [hx] at h3
    obtain ⟨n, a, b, _⟩ := DataW.trod_int he h3
    have h4 : (zs.map (fun z => DataW.lit (H := Unit) (.int k z)))[i]? = (xs.map (·.1))[i]? := by rw [e1]
    rw [List.getElem?_map, List.getElem?_map, List.getElem?_eq_getElem hi, hx, b] at h4
    simp at h4
    have h5 : cs.toList[i]? = some (.int k n) := by
      have : ((cs.toList.drop i).take 1)[0]? = some (.int k n) := by rw [a]; rfl
      rw [List.getElem?_take, if_pos (by omega), List.getElem?_drop, Nat.add_zero] at this
      exact this
    rw [List.getElem?_eq_getElem h1] at h5
    rw [Option.some.inj h5, List.getElem_map, h4]
theorem tab_keep {P : Program} {w w' : World} {nm : String} {k : IntKind} {zs : List Int} (h : Lib.TabIs P w nm k zs) (hb : Below w.heap.size w w') : Lib.TabIs P w' nm k zs := by
  unfold Lib.TabIs World.var? at h ⊢
  cases hg : P.globalNamed nm with
  | none => rw [hg] at h; cases h
  | some g =>
    rw [hg] at h
    simp only [Option.bind_some] at h ⊢
    have hl : g < w.heap.size := by
      rcases Nat.lt_or_ge g w.heap.size with h' | h'
      · exact h'
      · rw [Array.getElem?_eq_none h'] at h; cases h
    rw [hb.block g hl]
    exact h
end Go.Sw

namespace Go.Sw
open Go Go.Lib
set_option linter.unusedVariables false
/-- The last k digits. -/
def padD : Nat → Nat → List UInt8
  | 0, _ => []
  | k + 1, n => padD k (n / 10) ++ [UInt8.ofNat (48 + n % 10)]
theorem padD_len : ∀ (k n : Nat), (padD k n).length = k
  | 0, _ => rfl
  | k + 1, n => by rw [padD, List.length_append, padD_len k]; rfl
theorem dec_small {n : Nat} (h : n < 10) : decDigits n = [UInt8.ofNat (48 + n)] := by rw [decDigits, dif_pos h]
theorem dec_big {n : Nat} (h : ¬n < 10) : decDigits n = decDigits (n / 10) ++ [UInt8.ofNat (48 + n % 10)] := by rw [decDigits, dif_neg h]
theorem dec_pos (n : Nat) : 0 < (decDigits n).length := by rw [decDigits_length]; exact nDigits_pos n
/-- A number and k digits behind it. -/
theorem dec_pad : ∀ (k a x : Nat), 0 < a → x < 10 ^ k → decDigits (a * 10 ^ k + x) = decDigits a ++ padD k x
  | 0, a, x, ha, hx => by
    have : x = 0 := by simpa using hx
    subst this
    simp [padD]
  | k + 1, a, x, ha, hx => by
    have hp : 10 ^ (k + 1) = 10 ^ k * 10 := Nat.pow_succ 10 k
    have h1 : 0 < 10 ^ k := Nat.pow_pos (by decide)
    have e : a * 10 ^ (k + 1) + x = (a * 10 ^ k) * 10 + x := by rw [hp, Nat.mul_assoc]
    have hge : ¬(a * 10 ^ (k + 1) + x) < 10 := by
      have := Nat.mul_pos ha h1
      omega
    have hd : (a * 10 ^ (k + 1) + x) / 10 = a * 10 ^ k + x / 10 := by omega
    have hm : (a * 10 ^ (k + 1) + x) % 10 = x % 10 := by omega
    rw [dec_big hge, hd, hm, dec_pad k a (x / 10) ha (by omega), padD, List.append_assoc]
/-- k digits, of which some are noughts ahead. -/
theorem pad_dec : ∀ (k n : Nat), 0 < k → n < 10 ^ k → padD k n = List.replicate (k - nDigits n) 48 ++ decDigits n
  | 0, n, hk, _ => absurd hk (by decide)
  | 1, n, _, h => by
    have h : n < 10 := by simpa using h
    rw [nDigits_small h, dec_small h]
    simp [padD, Nat.mod_eq_of_lt h]
  | k + 2, n, _, h => by
    have hp : 10 ^ (k + 2) = 10 ^ (k + 1) * 10 := Nat.pow_succ 10 (k + 1)
    rw [padD, pad_dec (k + 1) (n / 10) (by omega) (by omega)]
    by_cases h10 : n < 10
    · have h0 : n / 10 = 0 := by omega
      rw [h0, nDigits_small h10, nDigits_small (show 0 < 10 by decide), dec_small h10, dec_small (show 0 < 10 by decide), Nat.mod_eq_of_lt h10]
      rw [show k + 2 - 1 = (k + 1 - 1) + 1 by omega, List.replicate_succ']
      rfl
    · rw [nDigits_big h10, dec_big h10, show k + 2 - (nDigits (n / 10) + 1) = k + 1 - nDigits (n / 10) by omega, List.append_assoc]
theorem nDigits_le {k n : Nat} (hk : 0 < k) (h : n < 10 ^ k) : nDigits n ≤ k := by
  have h1 := padD_len k n
  rw [pad_dec k n hk h, List.length_append, List.length_replicate, decDigits_length] at h1
  omega
/-- The digits in two parts. -/
theorem pad_add : ∀ (j k n : Nat), padD (k + j) n = padD k (n / 10 ^ j) ++ padD j n
  | 0, k, n => by simp [padD]
  | j + 1, k, n => by
    show padD (k + j + 1) n = _
    rw [padD, pad_add j k (n / 10), padD, Nat.div_div_eq_div_mul, ← Nat.pow_succ', List.append_assoc]
/-- The first digit of a number is not a nought. -/
theorem dec_head : ∀ (n : Nat), 0 < n → ∃ d r, decDigits n = d :: r ∧ d ≠ 48
  | n, hn => by
    induction n using Nat.strongRecOn with
    | _ n ih =>
      by_cases h : n < 10
      · refine ⟨_, _, dec_small h, fun e => ?_⟩
        have : n = 1 ∨ n = 2 ∨ n = 3 ∨ n = 4 ∨ n = 5 ∨ n = 6 ∨ n = 7 ∨ n = 8 ∨ n = 9 := by omega
        rcases this with rfl | rfl | rfl | rfl | rfl | rfl | rfl | rfl | rfl <;> revert e <;> decide
      · obtain ⟨d, r, h1, h2⟩ := ih (n / 10) (by omega) (by omega)
        exact ⟨d, r ++ [UInt8.ofNat (48 + n % 10)], by rw [dec_big h, h1]; rfl, h2⟩
/-- The text of a whole number. -/
def decS (n : Nat) : ByteArray := ⟨(decDigits n).toArray⟩
def fmtD (n : Int) : ByteArray := ⟨((if n < 0 then [45] else []) ++ decDigits n.natAbs).toArray⟩
end Go.Sw

namespace Go.Proofs.YtghlkihmnopenaaDoor
open Go Go.RowKit Go.Sw Go.Shelf
set_option linter.unusedVariables false
set_option maxRecDepth 100000
set_option maxHeartbeats 8000000
def smRen : Go.Shelf.Ren := ⟨fun n => if n = 283 then 54 else n, fun n =>  n, fun n =>  n⟩
theorem smLay0 : Go.Proofs.Lays.n283 Tryd.prog smRen where
  mixed := mixed_
  f283 := Eq.trans Tryd.func54 (congrArg some (Eq.refl _))
  t3 := Tryd.underlying3
  a3 := Tryd.isAgg3
  z3 := Tryd.sizeOf3
  v3 := Tryd.zeroValue3
  t4 := Tryd.underlying4
  a4 := Tryd.isAgg4
  z4 := Tryd.sizeOf4
  v4 := Tryd.zeroValue4
  t9 := Tryd.underlying9
  a9 := Tryd.isAgg9
  z9 := Tryd.sizeOf9
  v9 := Tryd.zeroValue9

instance (priority := 2000) wls_ : Wld Tryd.prog := ⟨fun w => Lib.TabIs Tryd.prog w "internal/strconv.uint64pow10" .u64 Lib.pow10Tab, fun h hb => tab_keep h hb, [], fun _ _ _ h => by cases h⟩
instance wlift_ {f : FuncId} {xs : List AV} {pre : Prop} {r : AV} [h : @DenI Tryd.prog wld_ f xs pre r] : @DenI Tryd.prog wls_ f xs pre r := ⟨fun hp => den_lift wld_ wls_ (fun _ _ => trivial) (h.den hp)⟩
def tabs : Tab := tab
theorem tabs_ok : @tabOk Tryd.prog wls_ tabs = true := by kernel_rfl
set_option maxHeartbeats 6400000 in
theorem fu_small (u : Nat) (h1 : u < 100) (w : World) : Calls Tryd.prog 36 #[.int .u64 u, .int .i64 10] w fun e w' => e = .returned (.string ⟨(Lib.decDigits u).toArray⟩) ∧ Below w.heap.size w w' := by
  have hlt : (u : Int) < 100 := by omega
  go_enter Tryd.func36, Tryd.ntmps36
  go_wp2_with (go_at_call 54; refine (Any.internal_strconv_small smLay0 u h1 _).mono ?_; rintro e w' ⟨rfl, rfl⟩)
  go_ret
  exact ⟨rfl, Below.refl _ _⟩
theorem fu_all (u : Nat) (hu : u < 18446744073709551616) (w : World) (hW : Wld.ok Tryd.prog w) : Calls Tryd.prog 36 #[.int .u64 u, .int .i64 10] w fun e w' => e = .returned (.string (decS u)) ∧ Below w.heap.size w w' := by
  by_cases h : u < 100
  · exact fu_small u h w
  · exact fu_walk u (by omega) hu w hW
instance t_fu0 (z : Int) : DenI Tryd.prog 36 [.c (.v (.int .u64 z)), .c (.v (.int .i64 10))] (0 ≤ z ∧ z < 18446744073709551616) (.c (.v (.string (decS z.toNat)))) := ⟨fun hp => by
  obtain ⟨n, rfl⟩ := Int.eq_ofNat_of_zero_le hp.1
  refine Den.of ⟨by kernel_rfl, fun w X vs hW hX hl hr => ?_⟩ rfl
  match vs, hl with
  | [u, v], _ =>
  have hu : u = .int .u64 (n : Nat) := by
    have := hr 0 u _ rfl rfl
    cases this with
    | c h => cases h; rfl
  have hv : v = .int .i64 10 := by
    have := hr 1 v _ rfl rfl
    cases this with
    | c h => cases h; rfl
  subst hu hv
  refine Calls.mono (fu_all n (by omega) w hW) ?_
  rintro e w' ⟨rfl, hb⟩
  exact ⟨_, rfl, (RepR.d (.c (.v _ rfl))).f, hb⟩⟩
instance t_fu (z : Int) : DenI Tryd.prog 20 [.int .u64 z, .int .i64 10] (0 ≤ z ∧ z < 18446744073709551616) (.c (.v (.string (decS z.toNat)))) := ⟨fun hp => by
 refine den_of (τ := tabs) tabs_ok mixed_ Tryd.func20 rfl (by kernel_rfl) (by kernel_rfl) (by kernel_rfl) ?_
 all_goals (repeat' ((try (conv => whnf)); first
  | refine call_0 ?_
  | refine call_i ?_ ?_
  | refine call_c ?_ (fun _ => ?_) (fun _ => ?_)
  | (with_reducible refine onB_t ?_)
  | (with_reducible refine onB_f ?_)
  | (with_reducible refine onB_d (fun _ => ?_) (fun _ => ?_))
  | (with_reducible refine onB_n (fun _ => ?_) (fun _ => ?_))
  | refine OnB.mk (fun _ => ?_) (fun _ => ?_)
  | refine obl_i ?_ ?_
  | refine Drw.mk (by kernel_rfl) ?_
  | refine mks_i ?_ ?_
  | refine slp_i ?_ ?_
  | (with_reducible refine elem_u ?_ ?_)
  | (with_reducible refine elem_0 ?_)
  | (with_reducible refine elem_1 ?_)
  | refine Ends.mk ?_))
 all_goals (try refine Pr.mk ?_)
 · exact hp
 · rfl⟩

theorem FUa {m : Nat} (hm : m < 18446744073709551616) (w : World) (hW : Wld.ok Tryd.prog w) : Calls Tryd.prog 20 #[.int .u64 m, .int .i64 10] w fun e w' => e = .returned (.string (decS m)) ∧ Below w.heap.size w w' := by
  have h := ((t_fu (m : Int)).den ⟨by omega, by omega⟩).old rfl
  refine (h.2 w [] [.int .u64 m, .int .i64 10] hW (by simp) rfl (fun i u v hu hv => ?_)).mono ?_
  · match i, hu, hv with
    | 0, hu, hv => simp at hu hv; subst hu hv; exact .c (.v _ rfl)
    | 1, hu, hv => simp at hu hv; subst hu hv; exact .c (.v _ rfl)
  · rintro e w' ⟨u, rfl, hu, hb⟩
    refine ⟨?_, hb⟩
    cases hu.r with
    | d h => cases h with
      | c h => cases h; rfl
end Go.Proofs.YtghlkihmnopenaaDoor

namespace Go.Proofs.YtghlkihmnopenaaDoor
open Go Go.RowKit Go.Sw Go.Shelf
set_option linter.unusedVariables false
set_option maxRecDepth 100000
set_option maxHeartbeats 8000000
def rpRen : Go.Shelf.Ren := ⟨fun n => if n = 99 then 38 else if n = 105 then 21 else if n = 165 then 39 else if n = 166 then 19 else if n = 169 then 22 else if n = 170 then 40 else if n = 206 then 60 else if n = 212 then 37 else if n = 240 then 35 else if n = 241 then 61 else if n = 263 then 58 else if n = 264 then 59 else if n = 276 then 53 else if n = 277 then 67 else n, fun n => if n = 37 then 44 else if n = 46 then 66 else if n = 51 then 38 else if n = 53 then 53 else if n = 70 then 43 else if n = 72 then 46 else if n = 80 then 55 else if n = 75 then 48 else if n = 76 then 50 else if n = 109 then 67 else if n = 127 then 72 else if n = 146 then 87 else if n = 148 then 89 else if n = 164 then 79 else  n, fun n =>  n⟩
theorem rpLay0 : Go.Proofs.Lays.n105 Tryd.prog rpRen where
  mixed := mixed_
  f99 := Eq.trans Tryd.func38 (congrArg some (Eq.refl _))
  f105 := Eq.trans Tryd.func21 (congrArg some (Eq.refl _))
  f165 := Eq.trans Tryd.func39 (congrArg some (Eq.refl _))
  f166 := Eq.trans Tryd.func19 (congrArg some (Eq.refl _))
  f169 := Eq.trans Tryd.func22 (congrArg some (Eq.refl _))
  f170 := Eq.trans Tryd.func40 (congrArg some (Eq.refl _))
  f206 := Eq.trans Tryd.func60 (congrArg some (Eq.refl _))
  f212 := Eq.trans Tryd.func37 (congrArg some (Eq.refl _))
  f240 := Eq.trans Tryd.func35 (congrArg some (Eq.refl _))
  f241 := Eq.trans Tryd.func61 (congrArg some (Eq.refl _))
  f263 := Eq.trans Tryd.func58 (congrArg some (Eq.refl _))
  f264 := Eq.trans Tryd.func59 (congrArg some (Eq.refl _))
  f276 := Eq.trans Tryd.func53 (congrArg some (Eq.refl _))
  f277 := Eq.trans Tryd.func67 (congrArg some (Eq.refl _))
  t0 := Tryd.underlying0
  a0 := Tryd.isAgg0
  z0 := Tryd.sizeOf0
  v0 := Tryd.zeroValue0
  t3 := Tryd.underlying3
  a3 := Tryd.isAgg3
  z3 := Tryd.sizeOf3
  v3 := Tryd.zeroValue3
  t4 := Tryd.underlying4
  a4 := Tryd.isAgg4
  z4 := Tryd.sizeOf4
  v4 := Tryd.zeroValue4
  t5 := Tryd.underlying5
  a5 := Tryd.isAgg5
  z5 := Tryd.sizeOf5
  v5 := Tryd.zeroValue5
  t9 := Tryd.underlying9
  a9 := Tryd.isAgg9
  z9 := Tryd.sizeOf9
  v9 := Tryd.zeroValue9
  t20 := Tryd.underlying20
  a20 := Tryd.isAgg20
  z20 := Tryd.sizeOf20
  v20 := Tryd.zeroValue20
  t37 := Tryd.underlying44
  a37 := Tryd.isAgg44
  z37 := Tryd.sizeOf44
  v37 := Tryd.zeroValue44
  t46 := Tryd.underlying66
  a46 := Tryd.isAgg66
  z46 := Tryd.sizeOf66
  v46 := Tryd.zeroValue66
  t51 := Tryd.underlying38
  a51 := Tryd.isAgg38
  z51 := Tryd.sizeOf38
  v51 := Tryd.zeroValue38
  t53 := Tryd.underlying53
  a53 := Tryd.isAgg53
  z53 := Tryd.sizeOf53
  v53 := Tryd.zeroValue53
  t70 := Tryd.underlying43
  a70 := Tryd.isAgg43
  z70 := Tryd.sizeOf43
  v70 := Tryd.zeroValue43
  t72 := Tryd.underlying46
  a72 := Tryd.isAgg46
  z72 := Tryd.sizeOf46
  v72 := Tryd.zeroValue46
  t75 := Tryd.underlying48
  a75 := Tryd.isAgg48
  z75 := Tryd.sizeOf48
  v75 := Tryd.zeroValue48
  t76 := Tryd.underlying50
  a76 := Tryd.isAgg50
  z76 := Tryd.sizeOf50
  v76 := Tryd.zeroValue50
  t109 := Tryd.underlying67
  a109 := Tryd.isAgg67
  z109 := Tryd.sizeOf67
  v109 := Tryd.zeroValue67
  t127 := Tryd.underlying72
  a127 := Tryd.isAgg72
  z127 := Tryd.sizeOf72
  v127 := Tryd.zeroValue72
  t146 := Tryd.underlying87
  a146 := Tryd.isAgg87
  z146 := Tryd.sizeOf87
  v146 := Tryd.zeroValue87
  t148 := Tryd.underlying89
  a148 := Tryd.isAgg89
  z148 := Tryd.sizeOf89
  v148 := Tryd.zeroValue89
  t164 := Tryd.underlying79
  a164 := Tryd.isAgg79
  z164 := Tryd.sizeOf79
  v164 := Tryd.zeroValue79

theorem rpExt : Builder.Extra Tryd.prog rpRen where
  sizeBuilder := by kernel_rfl
  liesBuilder := by kernel_rfl
  t5 := Tryd.underlying5
  a5 := Tryd.isAgg5
  z5 := Tryd.sizeOf5
  v5 := Tryd.zeroValue5
  infoByte := by kernel_rfl
  cellsByte := by kernel_rfl
  sizeByte := by kernel_rfl
  neB5 := by decide
/-- k noughts. -/
theorem rep0 {k : Nat} (hk : k ≤ 9) (w : World) : Calls Tryd.prog 21 #[.string ⟨#[48]⟩, .int .i64 k] w fun e w' => e = .returned (.string ⟨(List.replicate k (48 : UInt8)).toArray⟩) ∧ Below w.heap.size w w' := by
  refine (Any.strings_Repeat rpLay0 rpExt ⟨#[48]⟩ k w (by omega) (by show 1 * k ≤ _; omega)).mono ?_
  rintro e w' ⟨rfl, hb⟩
  refine ⟨?_, hb⟩
  have : Lib.repeatL [(48 : UInt8)] k = List.replicate k 48 := by
    have : ∀ k : Nat, k ≤ 9 → Lib.repeatL [(48 : UInt8)] k = List.replicate k 48 := by decide +kernel
    exact this k hk
  rw [show (ByteArray.mk #[48]).data.toList = [(48 : UInt8)] from rfl, this]

end Go.Proofs.YtghlkihmnopenaaDoor

namespace Go.Proofs.YtghlkihmnopenaaDoor
open Go Go.RowKit Go.Sw Go.Shelf
set_option linter.unusedVariables false
set_option maxRecDepth 100000
set_option maxHeartbeats 8000000
theorem sizeB_ : (Tryd.prog.info? 46).map (fun i => i.size) = some 2 := by kernel_rfl
theorem liesB_ : liesAt Tryd.prog Tryd.prog.depth 46 (2 / Tryd.prog.cellsOf 46) 0 46 1 = true := by kernel_rfl
theorem cc_used_ (b : Nat) (w : World) (h0 : w.cell? ⟨b, 0, none⟩ = some (.pointer (some ⟨b, 0, none⟩))) :
    Calls Tryd.prog 35 #[.pointer (some ⟨b, 0, none⟩)] w fun e w' => e = .returned (.tuple #[]) ∧ w' = w := by
  obtain ⟨j, hj, _⟩ := Option.map_eq_some_iff.1 sizeB_
  go_enter Tryd.func35, Tryd.ntmps35
  go_wp2
  rw [Lib.run_neq_ptr_same w _ Tryd.underlying43 hj]
  go_wp2
  go_end0
  exact ⟨rfl, rfl⟩
theorem cc_fresh_ (b : Nat) (w : World) (h0 : w.cell? ⟨b, 0, none⟩ = some (.pointer none)) (hsh : w.shape? b = some (46, 2)) (hfz : w.frozen? ⟨b, 0, none⟩ = false) :
    Calls Tryd.prog 35 #[.pointer (some ⟨b, 0, none⟩)] w fun e w' => e = .returned (.tuple #[]) ∧ w' = w.setCell ⟨b, 0, none⟩ (.pointer (some ⟨b, 0, none⟩)) := by
  obtain ⟨j, hj, hjs⟩ := Option.map_eq_some_iff.1 sizeB_
  go_enter Tryd.func35, Tryd.ntmps35
  go_wp2
  rw [Lib.run_to_unsafe w ⟨b, 0, none⟩ Tryd.underlying43 Tryd.underlying79 hj (by rw [hjs]; decide) hsh (Nat.zero_lt_succ 1)]
  simp only [Result.andThen]
  rw [Oper.upon_value]
  go_wp2
  rw [run_callFunc_extern Tryd.func53 (by kernel_rfl) (by kernel_rfl) (by kernel_rfl) (e := Extern.AbiNoEscape.same) (by kernel_rfl)]
  rw [Lib.run_noEscape]
  simp only [Result.andThen]
  rw [Oper.upon_value]
  go_wp2
  rw [Lib.run_from_unsafe w ⟨b, 0, none⟩ Tryd.underlying79 Tryd.underlying43 hj hsh liesB_]
  simp only [Result.andThen]
  rw [Oper.upon_value]
  go_wp2
  go_end0
  exact ⟨rfl, rfl⟩
theorem cc_ (B b : Nat) (bs : List Value) (w : World) (h : Lib.IsBuilder 46 5 B b bs w) :
    Calls Tryd.prog 35 #[.pointer (some ⟨b, 0, none⟩)] w fun e w' => e = .returned (.tuple #[]) ∧ (Lib.BuilderAt 46 5 B b (.pointer (some ⟨b, 0, none⟩)) bs w' ∧ Below B w w') := by
  rcases h with h | h
  · refine (cc_fresh_ b w h.cell0 h.shape h.frozen0).mono ?_
    rintro e w' ⟨rfl, rfl⟩
    exact ⟨rfl, h.used _, (Below.refl B w).setCell (p := ⟨b, 0, none⟩) h.1 _⟩
  · refine (cc_used_ b w h.cell0).mono ?_
    rintro e w' ⟨rfl, rfl⟩
    exact ⟨rfl, h, Below.refl _ _⟩
theorem info5_ : ∃ i0, Tryd.prog.info? 5 = some i0 ∧ i0.zero = some (.int .u8 0) ∧ i0.size = 1 ∧ i0.bytes = 1 := info_parts (by kernel_rfl)
theorem liesAt93_ (w : World) {b : Nat} {x y : Value} (h : w.heap[b]? = some (.cells #[x, y] 46 (0, 0))) : b < w.heap.size := by
  rcases Nat.lt_or_ge b w.heap.size with h' | h'
  · exact h'
  · simp [Array.getElem?_eq_none h'] at h
theorem wb_ (B b : Nat) (bs : List Value) (c : Int) (w : World) (h : Lib.IsBuilder 46 5 B b bs w) (hlen : bs.length + 1 ≤ 1000000) (hBw : B ≤ w.heap.size) :
    Calls Tryd.prog 18 #[.pointer (some ⟨b, 0, none⟩), .int .u8 c] w fun e w' => e = .returned .nilIface ∧ (Lib.BuilderAt 46 5 B b (.pointer (some ⟨b, 0, none⟩)) (bs ++ [.int .u8 c]) w' ∧ Below B w w') := by
  obtain ⟨i0, hi, hz0, hz1, hz2⟩ := info5_
  go_enter Tryd.func18, Tryd.ntmps18
  go_wp2_with (go_at_call 35; refine (cc_ B b bs _ h).mono ?_)
  rintro e w1 ⟨rfl, h1, hb1⟩
  obtain ⟨hB, v, hbk, hown, hne⟩ := h1
  have c0 : w1.cell? ⟨b, 0, none⟩ = some (.pointer (some ⟨b, 0, none⟩)) := by rw [Lib.cell_of_heap hbk]; rfl
  have c1 : w1.cell? ⟨b, 1, none⟩ = some v := by rw [Lib.cell_of_heap hbk]; rfl
  go_wp2_with (at_builtin; refine wpList_append_own _ rfl _ _ 44 rfl B 5 i0 (.int .u8 0) 1 1 Tryd.underlying44 hi hz0 hz1 hz2 rfl (by decide) _ _ _ rfl (hown.alloc _) ⟨w1.heap.size, 0, none⟩ 1 1 [.int .u8 c] rfl rfl ?c1 ?c2 ?c3 ?c4 ?c5 ?_)
  case c1 =>
    intro j u hj
    match j, hj with
    | 0, hj => simp at hj; subst hj; simp [Addr.add]
  case c2 => intro u hu; simp at hu; subst hu; rfl
  case c3 => unfold maxLen; omega
  case c4 => omega
  case c5 => have := hb1.size; simp; omega
  intro v' w2 hown' hgrow _
  have hlt := liesAt93_ w1 hbk
  have hb2 : w2.heap[b]? = some (.cells #[.pointer (some ⟨b, 0, none⟩), v] 46 (0, 0)) := by
    rw [hgrow.block b (by simp; omega) (fun e => hne e.symm), Lib.alloc_old w1 _ b hlt]
    exact hbk
  have d0 : w2.cell? ⟨b, 0, none⟩ = some (.pointer (some ⟨b, 0, none⟩)) := by rw [Lib.cell_of_heap hb2]; rfl
  have d1 : w2.cell? ⟨b, 1, none⟩ = some v := by rw [Lib.cell_of_heap hb2]; rfl
  have f1 : w2.frozen? ⟨b, 1, none⟩ = false := Lib.frozen_of_heap hb2 1
  obtain ⟨g, cap, rfl⟩ : ∃ g cap, v' = .slice (some ⟨g, 0, none⟩) (bs.length + 1) cap := by
    rcases hown'.2 with ⟨_, h0⟩ | ⟨g, cap, cur, hv, _⟩
    · omega
    · exact ⟨g, cap, hv⟩
  go_wp2
  go_ret
  refine ⟨rfl, ?_, ?_⟩
  · exact Lib.BuilderAt.put (T := 46) (e := 5) hB hb2 (bs' := bs ++ [.int .u8 c]) (by simpa using hown') (by decide)
  · exact ((hb1.alloc (by have := hb1.size; omega) _).grown hgrow (by have := hb1.size; simp; omega) (fun k hk => (hown.lt k hk).1)).setCell (p := ⟨b, 1, none⟩) hB _
theorem ws_ (B b : Nat) (bs : List Value) (s : ByteArray) (w : World) (h : Lib.IsBuilder 46 5 B b bs w) (hlen : bs.length + s.size ≤ 1000000) (hBw : B ≤ w.heap.size) :
    Calls Tryd.prog 19 #[.pointer (some ⟨b, 0, none⟩), .string s] w fun e w' => e = .returned (.tuple #[.int .i64 s.size, .nilIface]) ∧ (Lib.BuilderAt 46 5 B b (.pointer (some ⟨b, 0, none⟩)) (bs ++ Lib.strCells s) w' ∧ Below B w w') := by
  obtain ⟨i0, hi, hz0, hz1, hz2⟩ := info5_
  go_enter Tryd.func19, Tryd.ntmps19
  go_wp2_with (go_at_call 35; refine (cc_ B b bs _ h).mono ?_)
  rintro e w1 ⟨rfl, h1, hb1⟩
  obtain ⟨hB, v, hbk, hown, hne⟩ := h1
  have c0 : w1.cell? ⟨b, 0, none⟩ = some (.pointer (some ⟨b, 0, none⟩)) := by rw [Lib.cell_of_heap hbk]; rfl
  have c1 : w1.cell? ⟨b, 1, none⟩ = some v := by rw [Lib.cell_of_heap hbk]; rfl
  go_wp2_with (at_builtin; refine Lib.wpList_append_own_string _ rfl _ _ 44 9 rfl B 5 i0 Tryd.underlying44 Tryd.underlying9 hi hz0 hz1 hz2 _ _ _ rfl hown s rfl ?c3 ?c4 ?c5 ?_)
  case c3 => unfold maxLen; omega
  case c4 => omega
  case c5 => have := hb1.size; omega
  intro v' w2 hown' hgrow _
  have hlt := liesAt93_ w1 hbk
  have hb2 : w2.heap[b]? = some (.cells #[.pointer (some ⟨b, 0, none⟩), v] 46 (0, 0)) := by
    rw [hgrow.block b hlt (fun e => hne e.symm)]
    exact hbk
  have d0 : w2.cell? ⟨b, 0, none⟩ = some (.pointer (some ⟨b, 0, none⟩)) := by rw [Lib.cell_of_heap hb2]; rfl
  have d1 : w2.cell? ⟨b, 1, none⟩ = some v := by rw [Lib.cell_of_heap hb2]; rfl
  have f1 : w2.frozen? ⟨b, 1, none⟩ = false := Lib.frozen_of_heap hb2 1
  obtain ⟨ao, n', cap, rfl⟩ : ∃ ao n' cap, v' = .slice ao n' cap := by
    rcases hown'.2 with ⟨hv, _⟩ | ⟨g, cap, cur, hv, _⟩
    · exact ⟨_, _, _, hv⟩
    · exact ⟨_, _, _, hv⟩
  go_wp2
  go_ret2
  refine ⟨rfl, ?_, ?_⟩
  · exact Lib.BuilderAt.put (T := 46) (e := 5) hB hb2 (bs' := bs ++ Lib.strCells s) (by simpa [Lib.strCells_length] using hown') (by decide)
  · exact (hb1.grown hgrow (by have := hb1.size; omega) (fun k hk => (hown.lt k hk).1)).setCell (p := ⟨b, 1, none⟩) hB _
def ren169_ : Ren where
  f := fun x => match x with | 169 => 22 | n => n
  t := fun x => match x with | 70 => 43 | 9 => 9 | 0 => 0 | 72 => 46 | 37 => 44 | 127 => 72 | 3 => 3 | 5 => 5 | n => n
  g := fun x => x
theorem lays169_ : Lays.n169 Tryd.prog ren169_ where
  mixed := by kernel_rfl
  f169 := Eq.trans Tryd.func22 (congrArg some (Eq.refl (Body.n169 ren169_)))
  t0 := Tryd.underlying0
  a0 := Tryd.isAgg0
  z0 := Tryd.sizeOf0
  v0 := Tryd.zeroValue0
  t3 := Tryd.underlying3
  a3 := Tryd.isAgg3
  z3 := Tryd.sizeOf3
  v3 := Tryd.zeroValue3
  t9 := Tryd.underlying9
  a9 := Tryd.isAgg9
  z9 := Tryd.sizeOf9
  v9 := Tryd.zeroValue9
  t37 := Tryd.underlying44
  a37 := Tryd.isAgg44
  z37 := Tryd.sizeOf44
  v37 := Tryd.zeroValue44
  t70 := Tryd.underlying43
  a70 := Tryd.isAgg43
  z70 := Tryd.sizeOf43
  v70 := Tryd.zeroValue43
  t72 := Tryd.underlying46
  a72 := Tryd.isAgg46
  z72 := Tryd.sizeOf46
  v72 := Tryd.zeroValue46
  t127 := Tryd.underlying72
  a127 := Tryd.isAgg72
  z127 := Tryd.sizeOf72
  v127 := Tryd.zeroValue72
theorem ext169_ : Builder.Extra Tryd.prog ren169_ where
  sizeBuilder := by kernel_rfl
  liesBuilder := by kernel_rfl
  t5 := Tryd.underlying5
  a5 := Tryd.isAgg5
  z5 := Tryd.sizeOf5
  v5 := Tryd.zeroValue5
  infoByte := by kernel_rfl
  cellsByte := by kernel_rfl
  sizeByte := by kernel_rfl
  neB5 := by decide
theorem al_size_ (w : World) (o : Obj) : (w.alloc o).heap.size = w.heap.size + 1 := by simp [World.alloc, -World.alloc_eq]
theorem al_new_ (w : World) (o : Obj) : (w.alloc o).heap[w.heap.size]? = some o := by simp [World.alloc, -World.alloc_eq]
theorem fmt_prep_ {w w1 : World} {x y : Array Value} {s t : TypeId} (hb : Below ((w.alloc (.cells x s)).alloc (.cells y t)).heap.size ((w.alloc (.cells x s)).alloc (.cells y t)) w1) :
    w1.heap[w.heap.size]? = some (.cells x s (0, 0)) ∧ w1.heap[w.heap.size + 1]? = some (.cells y t (0, 0)) ∧ Below w.heap.size w w1 ∧ w.heap.size + 2 ≤ w1.heap.size := by
  have e1 := al_size_ w (.cells x s)
  have e2 := al_size_ (w.alloc (.cells x s)) (.cells y t)
  refine ⟨?_, ?_, ⟨hb.os, hb.tape, hb.output, ?_, fun k hk => ?_⟩, ?_⟩
  · rw [hb.block _ (by omega), Lib.alloc_old _ _ _ (by omega), al_new_]
  · rw [hb.block _ (by omega), ← e1, al_new_]
  · have := hb.size; omega
  · rw [hb.block k (by omega), Lib.alloc_old _ _ _ (by omega), Lib.alloc_old _ _ _ hk]
  · have := hb.size; omega
theorem cell_hdr_ {w2 : World} {g : Nat} {x y : Value} {t : TypeId} (h : w2.heap[g]? = some (.cells #[x, y] t (0, 0))) : w2.cell? ⟨g, 1, none⟩ = some y := by
  rw [Lib.cell_of_heap h]; rfl
theorem heap_lt_ {w : World} {b : Nat} {o : Obj} (h : w.heap[b]? = some o) : b < w.heap.size := by
  rcases Nat.lt_or_ge b w.heap.size with h' | h'
  · exact h'
  · simp [Array.getElem?_eq_none h'] at h
theorem bld_below_ {w w' : World} {T e : TypeId} {B b : Nat} {p : Value} {bs : List Value} (h : Lib.BuilderAt T e B b p bs w) (hb : Below w.heap.size w w') : Lib.BuilderAt T e B b p bs w' := by
  obtain ⟨h1, v, h2, h3, h4⟩ := h
  refine ⟨h1, v, by rw [hb.block b (heap_lt_ h2)]; exact h2, ⟨h3.1, ?_⟩, h4⟩
  rcases h3.2 with h | ⟨g, cap, cur, k1, k2, k3, k4⟩
  · exact .inl h
  · exact .inr ⟨g, cap, cur, k1, k2, by rw [hb.block g (heap_lt_ k3)]; exact k3, k4⟩

end Go.Proofs.YtghlkihmnopenaaDoor
