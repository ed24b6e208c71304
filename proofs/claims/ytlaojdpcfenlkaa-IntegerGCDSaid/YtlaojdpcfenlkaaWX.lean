/-
  What the functions HasPrefix, CutPrefix, CutPrefix, Parse do, each call by call.
  Conditions: none.
-/
import Derived.Test.YtlaojdpcfenlkaaChecked
import Derived.Test.YtlaojdpcfenlkaaSwBaseK
namespace Go.Proofs.Ytlaojdpcfenlkaa
open Go Go.RowKit Go.Sw
set_option linter.unusedVariables false
namespace TfX
theorem body58 : hasBody Try.prog 58 = true := by kernel_rfl
theorem body64 : hasBody Try.prog 64 = true := by kernel_rfl
theorem body65 : hasBody Try.prog 65 = true := by kernel_rfl
theorem row24 : isRow Try.prog 24 2 = true := by kernel_rfl
theorem sf24 : (match Try.prog.underlying 24 with | some (.struct fs) => fs.all fun f => (Try.prog.info? f.type).isSome | _ => false) = true := by kernel_rfl
theorem size24 : (Try.prog.info? 24).map (fun i => i.size) = some 2 := by kernel_rfl
theorem st24 : (match Try.prog.underlying 24 with | some (.struct _) => true | _ => false) = true := by kernel_rfl
theorem und9 : Try.prog.underlying 9 = some TypeDesc.string := by kernel_rfl
theorem zero24 : zeroOf Try.prog 24 = some #[.bool false, .slice none 0 0] := by kernel_rfl
end TfX
set_option maxHeartbeats 4000000 in
theorem internal_stringslite_HasPrefix_ok {w : World} {X : List Nat} (hX : ∀ m ∈ X, m < w.heap.size) (s : ByteArray) (p : ByteArray) :
    Calls Try.prog 65 #[(.string s), (.string p)] w (Ret fun r w' => (r = .bool (hasP s p)) ∧ Below w.heap.size w w') := by
 refine enter (N := 18) (fn := Try.f65) (vs := [(.string s), (.string p)]) Try.func65 rfl rfl rfl ?_
 intro fa hF
 replace hF : Frm 18 fa [(0, (.string (s))), (1, (.string (p)))] := hF
 have hS := St.refl w
 refine c_seq ?_
 refine c_reg ?_
 refine st_val hF rfl rfl rfl (ex_assign (hF.ev rfl)) ?_
 clear hF fa; intro fa hF
 refine c_nil_then ?_
 refine c_seq ?_
 refine c_reg ?_
 refine st_val hF rfl rfl rfl (ex_move (hF.ev rfl)) ?_
 clear hF fa; intro fa hF
 refine st_val hF rfl rfl rfl (ex_lens TfX.und9 (hF.ev rfl)) ?_
 clear hF fa; intro fa hF
 refine st_val hF rfl rfl rfl (ex_move (hF.ev rfl)) ?_
 clear hF fa; intro fa hF
 refine st_val hF rfl rfl rfl (ex_lens TfX.und9 (hF.ev rfl)) ?_
 clear hF fa; intro fa hF
 refine st_val hF rfl rfl rfl (ex_geq (hF.ev rfl) (hF.ev rfl)) ?_
 clear hF fa; intro fa hF
 refine st_val hF rfl rfl rfl (ex_move (hF.ev rfl)) ?_
 clear hF fa; intro fa hF
 rcases Bool.eq_false_or_eq_true (decide (((s.size : Nat) : Int) ≥ ((p.size : Nat) : Int))) with hg1 | hg1
 ·
  replace hF := hF.cons (t := 10) (v := .bool true) ((hF.get 10 _ rfl).trans (congrArg Value.bool hg1))
  have hg1p : ((s.size : Nat) : Int) ≥ ((p.size : Nat) : Int) := by simpa using hg1
  refine stg_val hF rfl rfl rfl rfl (ex_move (hF.ev rfl)) ?_
  clear hF fa; intro fa hF
  refine stg_val hF rfl rfl rfl rfl (ex_move (hF.ev rfl)) ?_
  clear hF fa; intro fa hF
  refine stg_val hF rfl rfl rfl rfl (ex_lens TfX.und9 (hF.ev rfl)) ?_
  clear hF fa; intro fa hF
  refine stg_val hF rfl rfl rfl rfl (ex_str_h (j := p.size) TfX.und9 (hF.ev rfl) (hF.ev rfl) (by omega) (by omega)) ?_
  clear hF fa; intro fa hF
  refine stg_val hF rfl rfl rfl rfl (ex_move (hF.ev rfl)) ?_
  clear hF fa; intro fa hF
  refine stg_val hF rfl rfl rfl rfl (ex_eqs (hF.ev rfl) (hF.ev rfl)) ?_
  clear hF fa; intro fa hF
  refine st_val hF rfl rfl rfl (ex_pick (hF.ev rfl) (fun _ => hF.ev rfl) (v := undef) (fun h => by cases h) rfl) ?_
  clear hF fa; intro fa hF
  refine st_val hF rfl rfl rfl (ex_assign (hF.ev rfl)) ?_
  clear hF fa; intro fa hF
  replace hF : Frm 18 fa [(0, (.string (s))), (1, (.string (p))), (4, (.bool (decide ((s.extract 0 p.size) = p))))] := (hF.take (hF.take (hF.take hF.nil rfl) rfl) rfl)
  refine c_nil_then ?_
  refine c_ret ?_
  refine end1 hF rfl (res_tmp hF rfl) ?_
  exact ⟨_, rfl, (congrArg Value.bool (by unfold hasP; rw [decide_eq_true (p := p.size ≤ s.size) (by omega)]; rfl)), hS.below⟩
 replace hF := hF.cons (t := 10) (v := .bool false) ((hF.get 10 _ rfl).trans (congrArg Value.bool hg1))
 have hg1p : ¬ (((s.size : Nat) : Int) ≥ ((p.size : Nat) : Int)) := by simpa using hg1
 refine st_skip hF rfl rfl rfl rfl rfl ?_
 clear hF fa; intro fa hF
 refine st_skip hF rfl rfl rfl rfl rfl ?_
 clear hF fa; intro fa hF
 refine st_skip hF rfl rfl rfl rfl rfl ?_
 clear hF fa; intro fa hF
 refine st_skip hF rfl rfl rfl rfl rfl ?_
 clear hF fa; intro fa hF
 refine st_skip hF rfl rfl rfl rfl rfl ?_
 clear hF fa; intro fa hF
 refine st_skip hF rfl rfl rfl rfl rfl ?_
 clear hF fa; intro fa hF
 refine st_val hF rfl rfl rfl (ex_pick (hF.ev rfl) (u := undef) (fun h => by cases h) (fun _ => hF.ev rfl) rfl) ?_
 clear hF fa; intro fa hF
 refine st_val hF rfl rfl rfl (ex_assign (hF.ev rfl)) ?_
 clear hF fa; intro fa hF
 replace hF : Frm 18 fa [(0, (.string (s))), (1, (.string (p))), (4, (.bool (false)))] := (hF.take (hF.take (hF.take hF.nil rfl) rfl) rfl)
 refine c_nil_then ?_
 refine c_ret ?_
 refine end1 hF rfl (res_tmp hF rfl) ?_
 exact ⟨_, rfl, (congrArg Value.bool (by unfold hasP; rw [decide_eq_false (p := p.size ≤ s.size) (by omega)]; rfl)), hS.below⟩

set_option maxHeartbeats 4000000 in
theorem internal_stringslite_CutPrefix_ok {w : World} {X : List Nat} (hX : ∀ m ∈ X, m < w.heap.size) (s : ByteArray) (p : ByteArray) :
    Calls Try.prog 64 #[(.string s), (.string p)] w (Ret fun r w' => (∃ r0 r1, r = .tuple #[r0, r1] ∧ r0 = .string (if hasP s p then s.extract p.size s.size else s) ∧ r1 = .bool (hasP s p)) ∧ Below w.heap.size w w') := by
 refine enter (N := 15) (fn := Try.f64) (vs := [(.string s), (.string p)]) Try.func64 rfl rfl rfl ?_
 intro fa hF
 replace hF : Frm 15 fa [(0, (.string (s))), (1, (.string (p)))] := hF
 have hS := St.refl w
 refine c_seq ?_
 refine c_reg ?_
 refine st_val hF rfl rfl rfl (ex_assign (hF.ev rfl)) ?_
 clear hF fa; intro fa hF
 refine st_val hF rfl rfl rfl (ex_assign (hF.ev rfl)) ?_
 clear hF fa; intro fa hF
 refine c_nil_then ?_
 refine c_seq ?_
 refine c_seq ?_
 refine c_reg ?_
 refine st_val hF rfl rfl rfl (ex_move (hF.ev rfl)) ?_
 clear hF fa; intro fa hF
 refine st_val hF rfl rfl rfl (ex_move (hF.ev rfl)) ?_
 clear hF fa; intro fa hF
 have hC := internal_stringslite_HasPrefix_ok (w := w) (X := X) (hS.bnd hX) s p
 refine st rfl (op_call hF rfl TfX.body65 (args2 (hF.ev rfl) (hF.ev rfl)) hC ?_)
 clear hC
 rintro _ w1 ⟨rfl, hb2⟩
 refine gen_ ?_; clear hF fa; intro fa hF
 replace hS := hS.call hb2; have E3 := Ext.call X hb2
 refine st_val hF rfl rfl rfl (ex_not (hF.ev rfl)) ?_
 clear hF fa; intro fa hF
 refine c_nil_then ?_
 refine c_cond hF rfl (fun hc4 => ?_) (fun hc4 => ?_)
 ·
  have hc4p : ¬ ((hasP s p) = true) := by first | simpa using hc4 | exact bang_t hc4 | exact bang_f hc4
  have hp0 : hasP s p = false := by simpa using hc4p
  refine c_seq ?_
  refine c_reg ?_
  refine st_val hF rfl rfl rfl (ex_move (hF.ev rfl)) ?_
  clear hF fa; intro fa hF
  refine st_val hF rfl rfl rfl (ex_assign (hF.ev rfl)) ?_
  clear hF fa; intro fa hF
  refine st_val hF rfl rfl rfl (ex_assign (hF.ev rfl)) ?_
  clear hF fa; intro fa hF
  refine c_nil_then ?_
  refine c_ret ?_
  refine x_tr ?_
  refine end2 hF rfl (res_tmp hF rfl) (res_tmp hF rfl) ?_
  exact ⟨_, rfl, ⟨_, _, rfl, (congrArg Value.string (by rw [hp0]; rfl)), (congrArg Value.bool (hp0.symm))⟩, hS.below⟩
 have hc4p : ¬ (¬ ((hasP s p) = true)) := by first | simpa using hc4 | exact bang_t hc4 | exact bang_f hc4
 have hp0 : hasP s p = true := by simpa using hc4p
 have hp1 : p.size ≤ s.size := by unfold hasP at hp0; simp at hp0; exact hp0.1
 refine c_skip ?_
 refine x_tn ?_
 refine c_seq ?_
 refine c_reg ?_
 refine st_val hF rfl rfl rfl (ex_move (hF.ev rfl)) ?_
 clear hF fa; intro fa hF
 refine st_val hF rfl rfl rfl (ex_move (hF.ev rfl)) ?_
 clear hF fa; intro fa hF
 refine st_val hF rfl rfl rfl (ex_lens TfX.und9 (hF.ev rfl)) ?_
 clear hF fa; intro fa hF
 refine st_val hF rfl rfl rfl (ex_str_l (j := p.size) TfX.und9 (hF.ev rfl) (hF.ev rfl) (by omega) (by omega)) ?_
 clear hF fa; intro fa hF
 refine st_val hF rfl rfl rfl (ex_assign (hF.ev rfl)) ?_
 clear hF fa; intro fa hF
 refine st_val hF rfl rfl rfl (ex_assign (hF.ev rfl)) ?_
 clear hF fa; intro fa hF
 refine c_nil_then ?_
 refine c_ret ?_
 refine end2 hF rfl (res_tmp hF rfl) (res_tmp hF rfl) ?_
 exact ⟨_, rfl, ⟨_, _, rfl, (congrArg Value.string (by rw [hp0]; rfl)), (congrArg Value.bool (hp0.symm))⟩, hS.below⟩

set_option maxHeartbeats 4000000 in
theorem strings_CutPrefix_ok {w : World} {X : List Nat} (hX : ∀ m ∈ X, m < w.heap.size) (s : ByteArray) (p : ByteArray) :
    Calls Try.prog 58 #[(.string s), (.string p)] w (Ret fun r w' => (∃ r0 r1, r = .tuple #[r0, r1] ∧ r0 = .string (if hasP s p then s.extract p.size s.size else s) ∧ r1 = .bool (hasP s p)) ∧ Below w.heap.size w w') := by
 refine enter (N := 11) (fn := Try.f58) (vs := [(.string s), (.string p)]) Try.func58 rfl rfl rfl ?_
 intro fa hF
 replace hF : Frm 11 fa [(0, (.string (s))), (1, (.string (p)))] := hF
 have hS := St.refl w
 refine c_seq ?_
 refine c_reg ?_
 refine st_val hF rfl rfl rfl (ex_assign (hF.ev rfl)) ?_
 clear hF fa; intro fa hF
 refine st_val hF rfl rfl rfl (ex_assign (hF.ev rfl)) ?_
 clear hF fa; intro fa hF
 refine c_nil_then ?_
 refine c_seq ?_
 refine c_reg ?_
 refine st_val hF rfl rfl rfl (ex_move (hF.ev rfl)) ?_
 clear hF fa; intro fa hF
 refine st_val hF rfl rfl rfl (ex_move (hF.ev rfl)) ?_
 clear hF fa; intro fa hF
 have hC := internal_stringslite_CutPrefix_ok (w := w) (X := X) (hS.bnd hX) s p
 refine st rfl (op_call hF rfl TfX.body64 (args2 (hF.ev rfl) (hF.ev rfl)) hC ?_)
 clear hC
 rintro _ w1 ⟨⟨_, _, rfl, rfl, rfl⟩, hb2⟩
 refine gen_ ?_; clear hF fa; intro fa hF
 replace hS := hS.call hb2; have E3 := Ext.call X hb2
 refine st_val hF rfl rfl rfl (ex_extract (hF.ev rfl) rfl) ?_
 clear hF fa; intro fa hF
 refine st_val hF rfl rfl rfl (ex_extract (hF.ev rfl) rfl) ?_
 clear hF fa; intro fa hF
 refine st_val hF rfl rfl rfl (ex_assign (hF.ev rfl)) ?_
 clear hF fa; intro fa hF
 refine st_val hF rfl rfl rfl (ex_assign (hF.ev rfl)) ?_
 clear hF fa; intro fa hF
 refine c_nil_then ?_
 refine c_ret ?_
 refine end2 hF rfl (res_tmp hF rfl) (res_tmp hF rfl) ?_
 exact ⟨_, rfl, ⟨_, _, rfl, (congrArg Value.string (rfl)), (congrArg Value.bool (rfl))⟩, hS.below⟩

set_option maxHeartbeats 4000000 in
theorem integer_Parse_ok {w : World} {X : List Nat} (hX : ∀ m ∈ X, m < w.heap.size) (s : ByteArray) (hsb : s = ⟨#[45, 48]⟩ ∨ s = ⟨#[48, 49]⟩) :
    Calls Try.prog 39 #[(.string s)] w (Ret fun r w' => (∃ r0 r1, r = .tuple #[r0, r1] ∧ IntV w' X r0 ((0 : Int)) ∧ r1 = .int .i64 (2)) ∧ Below w.heap.size w w') := by
 refine enter (N := 87) (fn := Try.f39) (vs := [(.string s)]) Try.func39 rfl rfl rfl ?_
 intro fa hF
 replace hF : Frm 87 fa [(0, (.string (s)))] := hF
 have hS := St.refl w
 refine c_seq ?_
 refine c_reg ?_
 refine st rfl (op_alloc (X := X) hF hS rfl TfX.zero24 ?_)
 intro g1 w2 hg4 hS E3; refine gen_ ?_; clear hF fa; intro fa hF
 replace hS : St w w2 [(g1, 24, #[(.bool (false)), (.slice (none) (0) (0))])] := hS
 refine st_val hF rfl rfl rfl (ex_assign (hF.ev rfl)) ?_
 clear hF fa; intro fa hF
 refine c_nil_then ?_
 refine c_seq ?_
 refine c_reg ?_
 refine st_val hF rfl rfl rfl (ex_move (hF.ev rfl)) ?_
 clear hF fa; intro fa hF
 have hC := strings_CutPrefix_ok (w := w2) (X := (g1 :: X)) (hS.bnd hX) s (⟨#[45]⟩ : ByteArray)
 refine st rfl (op_call hF rfl TfX.body58 (args2 (hF.ev rfl) (hF.ev rfl)) hC ?_)
 clear hC
 rintro _ w5 ⟨⟨_, _, rfl, rfl, rfl⟩, hb6⟩
 refine gen_ ?_; clear hF fa; intro fa hF
 replace hS := hS.call hb6; have E7 := Ext.call (g1 :: X) hb6
 refine st_val hF rfl rfl rfl (ex_move (hF.ev rfl)) ?_
 clear hF fa; intro fa hF
 refine st_val hF rfl rfl rfl (ex_extract (hF.ev rfl) rfl) ?_
 clear hF fa; intro fa hF
 refine st_val hF rfl rfl rfl (ex_extract (hF.ev rfl) rfl) ?_
 clear hF fa; intro fa hF
 refine st_val hF rfl rfl rfl (ex_assign (hF.ev rfl)) ?_
 clear hF fa; intro fa hF
 refine st_val hF rfl rfl rfl (ex_assign (hF.ev rfl)) ?_
 clear hF fa; intro fa hF
 refine c_nil_then ?_
 refine c_seq ?_
 refine c_seq ?_
 obtain ⟨hk1, hk2, hk3, hk4, hk5⟩ := parse_bad hsb
 refine c_reg ?_
 refine st_val hF rfl rfl rfl (ex_move (hF.ev rfl)) ?_
 clear hF fa; intro fa hF
 refine st_val hF rfl rfl rfl (ex_b (t := decide ((if hasP s ((⟨#[45]⟩ : ByteArray)) then s.extract ((⟨#[45]⟩ : ByteArray)).size s.size else s) = (⟨#[]⟩ : ByteArray))) (b := false) (by rw [decide_eq_false_iff_not]; exact hk1) (ex_eqs (hF.ev rfl) (hF.ev rfl))) ?_
 clear hF fa; intro fa hF
 refine st_val hF rfl rfl rfl (ex_move (hF.ev rfl)) ?_
 clear hF fa; intro fa hF
 refine stg_val hF rfl rfl rfl rfl (ex_move (hF.ev rfl)) ?_
 clear hF fa; intro fa hF
 refine stg_val hF rfl rfl rfl rfl (ex_lens TfX.und9 (hF.ev rfl)) ?_
 clear hF fa; intro fa hF
 refine stg_val hF rfl rfl rfl rfl (ex_b (t := decide (((s.size : Nat) : Int) > 65536)) (b := false) (by rw [decide_eq_false_iff_not]; omega) (ex_gtr (hF.ev rfl) (hF.ev rfl))) ?_
 clear hF fa; intro fa hF
 refine st_val hF rfl rfl rfl (ex_pick (hF.ev rfl) (u := undef) (fun h => by cases h) (fun _ => hF.ev rfl) rfl) ?_
 clear hF fa; intro fa hF
 refine st_val hF rfl rfl rfl (ex_move (hF.ev rfl)) ?_
 clear hF fa; intro fa hF
 refine stg_val hF rfl rfl rfl rfl (ex_move (hF.ev rfl)) ?_
 clear hF fa; intro fa hF
 refine stg_val hF rfl rfl rfl rfl (ex_index (j := 0) TfX.und9 (hF.ev rfl) (hF.ev rfl) (by omega) (by omega)) ?_
 clear hF fa; intro fa hF
 refine stg_val hF rfl rfl rfl rfl (ex_b (t := decide (((bt (if hasP s ((⟨#[45]⟩ : ByteArray)) then s.extract ((⟨#[45]⟩ : ByteArray)).size s.size else s) 0 : Nat) : Int) = 48)) (b := true) (by rw [decide_eq_true_eq, hk4]; rfl) (ex_eql (hF.ev rfl) (hF.ev rfl))) ?_
 clear hF fa; intro fa hF
 refine stg_val hF rfl rfl rfl rfl (ex_move (hF.ev rfl)) ?_
 clear hF fa; intro fa hF
 refine stg_val hF rfl rfl rfl rfl (ex_move (hF.ev rfl)) ?_
 clear hF fa; intro fa hF
 refine stg_val hF rfl rfl rfl rfl (ex_lens TfX.und9 (hF.ev rfl)) ?_
 clear hF fa; intro fa hF
 refine stg_val hF rfl rfl rfl rfl (ex_gtr (hF.ev rfl) (hF.ev rfl)) ?_
 clear hF fa; intro fa hF
 refine stg_val hF rfl rfl rfl rfl (ex_move (hF.ev rfl)) ?_
 clear hF fa; intro fa hF
 rcases Bool.eq_false_or_eq_true (decide ((((if hasP s ((⟨#[45]⟩ : ByteArray)) then s.extract ((⟨#[45]⟩ : ByteArray)).size s.size else s).size : Nat) : Int) > 1)) with hg8 | hg8
 ·
  replace hF := hF.cons (t := 32) (v := .bool true) ((hF.get 32 _ rfl).trans (congrArg Value.bool hg8))
  have hg8p : (((if hasP s ((⟨#[45]⟩ : ByteArray)) then s.extract ((⟨#[45]⟩ : ByteArray)).size s.size else s).size : Nat) : Int) > 1 := by simpa using hg8
  refine st_skip hF rfl rfl rfl rfl rfl ?_
  clear hF fa; intro fa hF
  refine stg_val hF rfl rfl rfl rfl (ex_pick (hF.ev rfl) (fun _ => hF.ev rfl) (v := undef) (fun h => by cases h) rfl) ?_
  clear hF fa; intro fa hF
  refine stg_val hF rfl rfl rfl rfl (ex_pick (hF.ev rfl) (fun _ => hF.ev rfl) (v := undef) (fun h => by cases h) rfl) ?_
  clear hF fa; intro fa hF
  refine st_val hF rfl rfl rfl (ex_pick (hF.ev rfl) (u := undef) (fun h => by cases h) (fun _ => hF.ev rfl) rfl) ?_
  clear hF fa; intro fa hF
  replace hF : Frm 87 fa [(0, (.string (s))), (2, (.pointer (some ⟨g1, 0, none⟩))), (3, (.int .i64 (0))), (4, (.string (if hasP s ((⟨#[45]⟩ : ByteArray)) then s.extract ((⟨#[45]⟩ : ByteArray)).size s.size else s))), (5, (.bool (hasP s ((⟨#[45]⟩ : ByteArray))))), (36, (.bool (true)))] := (hF.take (hF.take (hF.take (hF.take (hF.take (hF.take hF.nil rfl) rfl) rfl) rfl) rfl) rfl)
  refine c_nil_then ?_
  refine c_cond hF rfl (fun hc => ?_) (fun hc => ?_)
  rotate_left
  ·
   cases hc
  refine c_seq ?_
  refine c_reg ?_
  refine st_val hF rfl rfl rfl (ex_build0 TfX.row24 TfX.st24 TfX.zero24 TfX.sf24) ?_
  clear hF fa; intro fa hF
  refine st rfl (op_store (X := (g1 :: X)) hF hS 0 rfl (by simp) rfl rfl rfl TfX.size24 rfl (Nat.le_of_ble_eq_true rfl) ?_)
  intro w9 hS E10
  replace hS : St w w9 [(g1, 24, #[(.bool (false)), (.slice (none) (0) (0))])] := hS
  refine st_val hF rfl rfl rfl (ex_assign (hF.ev rfl)) ?_
  clear hF fa; intro fa hF
  refine c_nil_then ?_
  refine c_ret ?_
  refine x_tr ?_
  refine end2 hF rfl (res_cell hF rfl TfX.row24 (hS.get 0 rfl) rfl) (res_tmp hF rfl) ?_
  exact ⟨_, rfl, ⟨_, _, rfl, (IntV.nil_ (rfl)), (congrArg (Value.int .i64) (by omega))⟩, hS.below⟩
 replace hF := hF.cons (t := 32) (v := .bool false) ((hF.get 32 _ rfl).trans (congrArg Value.bool hg8))
 have hg8p : ¬ ((((if hasP s ((⟨#[45]⟩ : ByteArray)) then s.extract ((⟨#[45]⟩ : ByteArray)).size s.size else s).size : Nat) : Int) > 1) := by simpa using hg8
 refine stg_val hF rfl rfl rfl rfl (ex_b (t := hasP s ((⟨#[45]⟩ : ByteArray))) (b := true) (by rcases hk5 with h0 | h0; exact absurd h0 (by omega); exact h0) (ex_move (hF.ev rfl))) ?_
 clear hF fa; intro fa hF
 refine stg_val hF rfl rfl rfl rfl (ex_pick (hF.ev rfl) (u := undef) (fun h => by cases h) (fun _ => hF.ev rfl) rfl) ?_
 clear hF fa; intro fa hF
 refine stg_val hF rfl rfl rfl rfl (ex_pick (hF.ev rfl) (fun _ => hF.ev rfl) (v := undef) (fun h => by cases h) rfl) ?_
 clear hF fa; intro fa hF
 refine st_val hF rfl rfl rfl (ex_pick (hF.ev rfl) (u := undef) (fun h => by cases h) (fun _ => hF.ev rfl) rfl) ?_
 clear hF fa; intro fa hF
 replace hF : Frm 87 fa [(0, (.string (s))), (2, (.pointer (some ⟨g1, 0, none⟩))), (3, (.int .i64 (0))), (4, (.string (if hasP s ((⟨#[45]⟩ : ByteArray)) then s.extract ((⟨#[45]⟩ : ByteArray)).size s.size else s))), (5, (.bool (hasP s ((⟨#[45]⟩ : ByteArray))))), (36, (.bool (true)))] := (hF.take (hF.take (hF.take (hF.take (hF.take (hF.take hF.nil rfl) rfl) rfl) rfl) rfl) rfl)
 refine c_nil_then ?_
 refine c_cond hF rfl (fun hc => ?_) (fun hc => ?_)
 rotate_left
 ·
  cases hc
 refine c_seq ?_
 refine c_reg ?_
 refine st_val hF rfl rfl rfl (ex_build0 TfX.row24 TfX.st24 TfX.zero24 TfX.sf24) ?_
 clear hF fa; intro fa hF
 refine st rfl (op_store (X := (g1 :: X)) hF hS 0 rfl (by simp) rfl rfl rfl TfX.size24 rfl (Nat.le_of_ble_eq_true rfl) ?_)
 intro w11 hS E12
 replace hS : St w w11 [(g1, 24, #[(.bool (false)), (.slice (none) (0) (0))])] := hS
 refine st_val hF rfl rfl rfl (ex_assign (hF.ev rfl)) ?_
 clear hF fa; intro fa hF
 refine c_nil_then ?_
 refine c_ret ?_
 refine x_tr ?_
 refine end2 hF rfl (res_cell hF rfl TfX.row24 (hS.get 0 rfl) rfl) (res_tmp hF rfl) ?_
 exact ⟨_, rfl, ⟨_, _, rfl, (IntV.nil_ (rfl)), (congrArg (Value.int .i64) (by omega))⟩, hS.below⟩

end Go.Proofs.Ytlaojdpcfenlkaa
