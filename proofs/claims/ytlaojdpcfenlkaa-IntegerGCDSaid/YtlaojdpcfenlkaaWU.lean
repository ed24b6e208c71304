/-
  What the functions GCD do, each call by call.
  Conditions: none.
-/
import Derived.Test.YtlaojdpcfenlkaaChecked
import Derived.Test.YtlaojdpcfenlkaaSwBaseK
import Derived.Test.YtlaojdpcfenlkaaWA
import Derived.Test.YtlaojdpcfenlkaaWG
import Derived.Test.YtlaojdpcfenlkaaWR
namespace Go.Proofs.Ytlaojdpcfenlkaa
open Go Go.RowKit Go.Sw
set_option linter.unusedVariables false
namespace TfU
theorem body40 : hasBody Try.prog 40 = true := by kernel_rfl
theorem body41 : hasBody Try.prog 41 = true := by kernel_rfl
theorem body49 : hasBody Try.prog 49 = true := by kernel_rfl
theorem body50 : hasBody Try.prog 50 = true := by kernel_rfl
theorem el46 : Sw.elemOf Try.prog 46 = some (#[.int .u32 0], 1, 4) := by kernel_rfl
theorem mixed : Try.prog.follows .mixedOrders = true := by kernel_rfl
theorem off24_1 : fieldOff Try.prog 24 1 = some 1 := by kernel_rfl
theorem one22 : isOne Try.prog 22 = true := by kernel_rfl
theorem row24 : isRow Try.prog 24 2 = true := by kernel_rfl
theorem size24 : (Try.prog.info? 24).map (fun i => i.size) = some 2 := by kernel_rfl
theorem sl22 : sliceOf Try.prog 22 = some (46, 1) := by kernel_rfl
theorem sls22 : (sliceOf Try.prog 22).isSome = true := by kernel_rfl
theorem zero24 : zeroOf Try.prog 24 = some #[.bool false, .slice none 0 0] := by kernel_rfl
end TfU
set_option maxHeartbeats 4000000 in
theorem integer_GCD_ok {w : World} {X : List Nat} (hX : ∀ m ∈ X, m < w.heap.size) {v_a : Value} {a : Int} (h_a : IntV w X v_a (a)) {v_b : Value} {b : Int} (h_b : IntV w X v_b (b)) (hs_a : sz a ≤ 1000000000) (hs_b : sz b ≤ 1000000000) :
    Calls Try.prog 23 #[v_a, v_b] w (Ret fun r w' => (IntV w' X r (((Nat.gcd a.natAbs b.natAbs : Nat) : Int))) ∧ Below w.heap.size w w') := by
 refine enter (N := 61) (fn := Try.f23) (vs := [v_a, v_b]) Try.func23 rfl rfl rfl ?_
 intro fa hF
 obtain ⟨_, rfl, A_a, c_a, rfl, hu_a⟩ := h_a
 have hl_a := hu_a.len; have hc_a := hu_a.cap
 obtain ⟨_, rfl, A_b, c_b, rfl, hu_b⟩ := h_b
 have hl_b := hu_b.len; have hc_b := hu_b.cap
 replace hF : Frm 61 fa [(0, (.agg (ic (A_a) (c_a) (a)))), (1, (.agg (ic (A_b) (c_b) (b))))] := hF
 have hS := St.refl w
 have hs_a0 := hs_a; have hs_b0 := hs_b; unfold sz at hs_a0 hs_b0
 refine c_seq ?_
 refine c_reg ?_
 refine st rfl (op_box (X := X) hF hS rfl rfl rfl ?_)
 intro g1 w2 hg4 hS E3; refine gen_ ?_; clear hF fa; intro fa hF
 replace hS : St w w2 [(g1, 24, (ic (A_a) (c_a) (a)))] := hS
 refine st rfl (op_box (X := (g1 :: X)) hF hS rfl rfl rfl ?_)
 intro g5 w6 hg8 hS E7; refine gen_ ?_; clear hF fa; intro fa hF
 replace hS : St w w6 [(g5, 24, (ic (A_b) (c_b) (b))), (g1, 24, (ic (A_a) (c_a) (a)))] := hS
 refine st rfl (op_alloc (X := (g5 :: (g1 :: X))) hF hS rfl TfU.zero24 ?_)
 intro g9 w10 hg12 hS E11; refine gen_ ?_; clear hF fa; intro fa hF
 replace hS : St w w10 [(g9, 24, #[(.bool (false)), (.slice (none) (0) (0))]), (g5, 24, (ic (A_b) (c_b) (b))), (g1, 24, (ic (A_a) (c_a) (a)))] := hS
 refine c_nil_then ?_
 refine c_seq ?_
 refine drawn2 (N := 61) (L0 := [(0, (.agg (ic (A_a) (c_a) (a)))), (1, (.agg (ic (A_b) (c_b) (b)))), (2, (.pointer (some ⟨g1, 0, none⟩))), (3, (.pointer (some ⟨g5, 0, none⟩))), (4, (.pointer (some ⟨g9, 0, none⟩)))]) [some (.pointer (some ⟨g1, 1, none⟩)), some (.slice (A_a) ((lim a.natAbs).length) (c_a)), none, some (.pointer (some ⟨g5, 1, none⟩)), some (.slice (A_b) ((lim b.natAbs).length) (c_b)), none, none, none, none, none] [2, 5, 6, 7, 8, 9] [[], [2], [6], [7], [2, 5], [2, 6], [2, 7], [6, 7], [2, 5, 6], [2, 5, 7], [2, 6, 7], [2, 5, 6, 7], [2, 5, 6, 7, 8], [2, 5, 6, 7, 8, 9]] [[0, 1, 2, 3, 4, 5, 6, 7, 8, 9, 10, 11], [0, 2, 3, 7], [0, 2, 3, 7], [0, 1, 2, 3, 4, 5, 6, 7, 8, 9, 10, 11, 12], [0, 1, 2, 3, 5, 6, 7, 10], [1, 5, 6, 10], [0, 1, 3, 4, 6, 9], [0, 1, 2, 4, 5, 8], [11], [12]] 13 [
       fun fa w' => Frm 61 fa [] ∧ St w w' [(g9, 24, #[(.bool (false)), (.slice (none) (0) (0))]), (g5, 24, (ic (A_b) (c_b) (b))), (g1, 24, (ic (A_a) (c_a) (a)))] ∧ Ext w10 (g9 :: (g5 :: (g1 :: X))) w' (g9 :: (g5 :: (g1 :: X)))
       , fun fa w' => ∃ Ao1_2_4 : Option Addr, ∃ co1_2_5 : Nat, Frm 61 fa [(15, (.agg (ic (Ao1_2_4) (co1_2_5) (((a.natAbs : Nat) : Int)))))] ∧ St w w' [(g9, 24, #[(.bool (false)), (.slice (none) (0) (0))]), (g5, 24, (ic (A_b) (c_b) (b))), (g1, 24, (ic (A_a) (c_a) (a)))] ∧ Ext w10 (g9 :: (g5 :: (g1 :: X))) w' (g9 :: (g5 :: (g1 :: X))) ∧ UC w' (g9 :: (g5 :: (g1 :: X))) Ao1_2_4 co1_2_5 (lim (((a.natAbs : Nat) : Int)).natAbs)
       , fun fa w' => ∃ go1_6_1 : Nat, Frm 61 fa [(5, (.pointer (some ⟨go1_6_1, 0, none⟩)))] ∧ St w w' [(go1_6_1, 24, #[(.bool (false)), (.slice (none) (0) (0))]), (g9, 24, #[(.bool (false)), (.slice (none) (0) (0))]), (g5, 24, (ic (A_b) (c_b) (b))), (g1, 24, (ic (A_a) (c_a) (a)))] ∧ Ext w10 (g9 :: (g5 :: (g1 :: X))) w' (go1_6_1 :: (g9 :: (g5 :: (g1 :: X))))
       , fun fa w' => ∃ go1_7_1 : Nat, Frm 61 fa [(6, (.pointer (some ⟨go1_7_1, 0, none⟩)))] ∧ St w w' [(go1_7_1, 24, #[(.bool (false)), (.slice (none) (0) (0))]), (g9, 24, #[(.bool (false)), (.slice (none) (0) (0))]), (g5, 24, (ic (A_b) (c_b) (b))), (g1, 24, (ic (A_a) (c_a) (a)))] ∧ Ext w10 (g9 :: (g5 :: (g1 :: X))) w' (go1_7_1 :: (g9 :: (g5 :: (g1 :: X))))
       , fun fa w' => ∃ Ao1_2_4 : Option Addr, ∃ co1_2_5 : Nat, ∃ Ao1_5_4 : Option Addr, ∃ co1_5_5 : Nat, Frm 61 fa [(15, (.agg (ic (Ao1_2_4) (co1_2_5) (((a.natAbs : Nat) : Int))))), (18, (.agg (ic (Ao1_5_4) (co1_5_5) (((b.natAbs : Nat) : Int)))))] ∧ St w w' [(g9, 24, #[(.bool (false)), (.slice (none) (0) (0))]), (g5, 24, (ic (A_b) (c_b) (b))), (g1, 24, (ic (A_a) (c_a) (a)))] ∧ Ext w10 (g9 :: (g5 :: (g1 :: X))) w' (g9 :: (g5 :: (g1 :: X))) ∧ UC w' (g9 :: (g5 :: (g1 :: X))) Ao1_2_4 co1_2_5 (lim (((a.natAbs : Nat) : Int)).natAbs) ∧ UC w' (g9 :: (g5 :: (g1 :: X))) Ao1_5_4 co1_5_5 (lim (((b.natAbs : Nat) : Int)).natAbs)
       , fun fa w' => ∃ Ao1_2_4 : Option Addr, ∃ co1_2_5 : Nat, ∃ go1_6_1 : Nat, Frm 61 fa [(15, (.agg (ic (Ao1_2_4) (co1_2_5) (((a.natAbs : Nat) : Int))))), (5, (.pointer (some ⟨go1_6_1, 0, none⟩)))] ∧ St w w' [(go1_6_1, 24, #[(.bool (false)), (.slice (none) (0) (0))]), (g9, 24, #[(.bool (false)), (.slice (none) (0) (0))]), (g5, 24, (ic (A_b) (c_b) (b))), (g1, 24, (ic (A_a) (c_a) (a)))] ∧ Ext w10 (g9 :: (g5 :: (g1 :: X))) w' (go1_6_1 :: (g9 :: (g5 :: (g1 :: X)))) ∧ UC w' (go1_6_1 :: (g9 :: (g5 :: (g1 :: X)))) Ao1_2_4 co1_2_5 (lim (((a.natAbs : Nat) : Int)).natAbs)
       , fun fa w' => ∃ Ao1_2_4 : Option Addr, ∃ co1_2_5 : Nat, ∃ go1_7_1 : Nat, Frm 61 fa [(15, (.agg (ic (Ao1_2_4) (co1_2_5) (((a.natAbs : Nat) : Int))))), (6, (.pointer (some ⟨go1_7_1, 0, none⟩)))] ∧ St w w' [(go1_7_1, 24, #[(.bool (false)), (.slice (none) (0) (0))]), (g9, 24, #[(.bool (false)), (.slice (none) (0) (0))]), (g5, 24, (ic (A_b) (c_b) (b))), (g1, 24, (ic (A_a) (c_a) (a)))] ∧ Ext w10 (g9 :: (g5 :: (g1 :: X))) w' (go1_7_1 :: (g9 :: (g5 :: (g1 :: X)))) ∧ UC w' (go1_7_1 :: (g9 :: (g5 :: (g1 :: X)))) Ao1_2_4 co1_2_5 (lim (((a.natAbs : Nat) : Int)).natAbs)
       , fun fa w' => ∃ go1_6_1 : Nat, ∃ go1_7_1 : Nat, Frm 61 fa [(5, (.pointer (some ⟨go1_6_1, 0, none⟩))), (6, (.pointer (some ⟨go1_7_1, 0, none⟩)))] ∧ St w w' [(go1_7_1, 24, #[(.bool (false)), (.slice (none) (0) (0))]), (go1_6_1, 24, #[(.bool (false)), (.slice (none) (0) (0))]), (g9, 24, #[(.bool (false)), (.slice (none) (0) (0))]), (g5, 24, (ic (A_b) (c_b) (b))), (g1, 24, (ic (A_a) (c_a) (a)))] ∧ Ext w10 (g9 :: (g5 :: (g1 :: X))) w' (go1_7_1 :: (go1_6_1 :: (g9 :: (g5 :: (g1 :: X)))))
       , fun fa w' => ∃ Ao1_2_4 : Option Addr, ∃ co1_2_5 : Nat, ∃ Ao1_5_4 : Option Addr, ∃ co1_5_5 : Nat, ∃ go1_6_1 : Nat, Frm 61 fa [(15, (.agg (ic (Ao1_2_4) (co1_2_5) (((a.natAbs : Nat) : Int))))), (18, (.agg (ic (Ao1_5_4) (co1_5_5) (((b.natAbs : Nat) : Int))))), (5, (.pointer (some ⟨go1_6_1, 0, none⟩)))] ∧ St w w' [(go1_6_1, 24, #[(.bool (false)), (.slice (none) (0) (0))]), (g9, 24, #[(.bool (false)), (.slice (none) (0) (0))]), (g5, 24, (ic (A_b) (c_b) (b))), (g1, 24, (ic (A_a) (c_a) (a)))] ∧ Ext w10 (g9 :: (g5 :: (g1 :: X))) w' (go1_6_1 :: (g9 :: (g5 :: (g1 :: X)))) ∧ UC w' (go1_6_1 :: (g9 :: (g5 :: (g1 :: X)))) Ao1_2_4 co1_2_5 (lim (((a.natAbs : Nat) : Int)).natAbs) ∧ UC w' (go1_6_1 :: (g9 :: (g5 :: (g1 :: X)))) Ao1_5_4 co1_5_5 (lim (((b.natAbs : Nat) : Int)).natAbs)
       , fun fa w' => ∃ Ao1_2_4 : Option Addr, ∃ co1_2_5 : Nat, ∃ Ao1_5_4 : Option Addr, ∃ co1_5_5 : Nat, ∃ go1_7_1 : Nat, Frm 61 fa [(15, (.agg (ic (Ao1_2_4) (co1_2_5) (((a.natAbs : Nat) : Int))))), (18, (.agg (ic (Ao1_5_4) (co1_5_5) (((b.natAbs : Nat) : Int))))), (6, (.pointer (some ⟨go1_7_1, 0, none⟩)))] ∧ St w w' [(go1_7_1, 24, #[(.bool (false)), (.slice (none) (0) (0))]), (g9, 24, #[(.bool (false)), (.slice (none) (0) (0))]), (g5, 24, (ic (A_b) (c_b) (b))), (g1, 24, (ic (A_a) (c_a) (a)))] ∧ Ext w10 (g9 :: (g5 :: (g1 :: X))) w' (go1_7_1 :: (g9 :: (g5 :: (g1 :: X)))) ∧ UC w' (go1_7_1 :: (g9 :: (g5 :: (g1 :: X)))) Ao1_2_4 co1_2_5 (lim (((a.natAbs : Nat) : Int)).natAbs) ∧ UC w' (go1_7_1 :: (g9 :: (g5 :: (g1 :: X)))) Ao1_5_4 co1_5_5 (lim (((b.natAbs : Nat) : Int)).natAbs)
       , fun fa w' => ∃ Ao1_2_4 : Option Addr, ∃ co1_2_5 : Nat, ∃ go1_6_1 : Nat, ∃ go1_7_1 : Nat, Frm 61 fa [(15, (.agg (ic (Ao1_2_4) (co1_2_5) (((a.natAbs : Nat) : Int))))), (5, (.pointer (some ⟨go1_6_1, 0, none⟩))), (6, (.pointer (some ⟨go1_7_1, 0, none⟩)))] ∧ St w w' [(go1_7_1, 24, #[(.bool (false)), (.slice (none) (0) (0))]), (go1_6_1, 24, #[(.bool (false)), (.slice (none) (0) (0))]), (g9, 24, #[(.bool (false)), (.slice (none) (0) (0))]), (g5, 24, (ic (A_b) (c_b) (b))), (g1, 24, (ic (A_a) (c_a) (a)))] ∧ Ext w10 (g9 :: (g5 :: (g1 :: X))) w' (go1_7_1 :: (go1_6_1 :: (g9 :: (g5 :: (g1 :: X))))) ∧ UC w' (go1_7_1 :: (go1_6_1 :: (g9 :: (g5 :: (g1 :: X))))) Ao1_2_4 co1_2_5 (lim (((a.natAbs : Nat) : Int)).natAbs)
       , fun fa w' => ∃ Ao1_2_4 : Option Addr, ∃ co1_2_5 : Nat, ∃ Ao1_5_4 : Option Addr, ∃ co1_5_5 : Nat, ∃ go1_6_1 : Nat, ∃ go1_7_1 : Nat, Frm 61 fa [(15, (.agg (ic (Ao1_2_4) (co1_2_5) (((a.natAbs : Nat) : Int))))), (18, (.agg (ic (Ao1_5_4) (co1_5_5) (((b.natAbs : Nat) : Int))))), (5, (.pointer (some ⟨go1_6_1, 0, none⟩))), (6, (.pointer (some ⟨go1_7_1, 0, none⟩)))] ∧ St w w' [(go1_7_1, 24, #[(.bool (false)), (.slice (none) (0) (0))]), (go1_6_1, 24, #[(.bool (false)), (.slice (none) (0) (0))]), (g9, 24, #[(.bool (false)), (.slice (none) (0) (0))]), (g5, 24, (ic (A_b) (c_b) (b))), (g1, 24, (ic (A_a) (c_a) (a)))] ∧ Ext w10 (g9 :: (g5 :: (g1 :: X))) w' (go1_7_1 :: (go1_6_1 :: (g9 :: (g5 :: (g1 :: X))))) ∧ UC w' (go1_7_1 :: (go1_6_1 :: (g9 :: (g5 :: (g1 :: X))))) Ao1_2_4 co1_2_5 (lim (((a.natAbs : Nat) : Int)).natAbs) ∧ UC w' (go1_7_1 :: (go1_6_1 :: (g9 :: (g5 :: (g1 :: X))))) Ao1_5_4 co1_5_5 (lim (((b.natAbs : Nat) : Int)).natAbs)
       , fun fa w' => ∃ Ao1_2_4 : Option Addr, ∃ co1_2_5 : Nat, ∃ Ao1_5_4 : Option Addr, ∃ co1_5_5 : Nat, ∃ go1_6_1 : Nat, ∃ go1_7_1 : Nat, Frm 61 fa [(15, (.agg (ic (Ao1_2_4) (co1_2_5) (((a.natAbs : Nat) : Int))))), (18, (.agg (ic (Ao1_5_4) (co1_5_5) (((b.natAbs : Nat) : Int))))), (5, (.pointer (some ⟨go1_6_1, 0, none⟩))), (6, (.pointer (some ⟨go1_7_1, 0, none⟩)))] ∧ St w w' [(go1_7_1, 24, #[(.bool (false)), (.slice (none) (0) (0))]), (go1_6_1, 24, (ic (Ao1_2_4) (co1_2_5) (((a.natAbs : Nat) : Int)))), (g9, 24, #[(.bool (false)), (.slice (none) (0) (0))]), (g5, 24, (ic (A_b) (c_b) (b))), (g1, 24, (ic (A_a) (c_a) (a)))] ∧ Ext w10 (g9 :: (g5 :: (g1 :: X))) w' (go1_7_1 :: (go1_6_1 :: (g9 :: (g5 :: (g1 :: X))))) ∧ UC w' (go1_7_1 :: (go1_6_1 :: (g9 :: (g5 :: (g1 :: X))))) Ao1_2_4 co1_2_5 (lim (((a.natAbs : Nat) : Int)).natAbs) ∧ UC w' (go1_7_1 :: (go1_6_1 :: (g9 :: (g5 :: (g1 :: X))))) Ao1_5_4 co1_5_5 (lim (((b.natAbs : Nat) : Int)).natAbs)
       , fun fa w' => ∃ Ao1_2_4 : Option Addr, ∃ co1_2_5 : Nat, ∃ Ao1_5_4 : Option Addr, ∃ co1_5_5 : Nat, ∃ go1_6_1 : Nat, ∃ go1_7_1 : Nat, Frm 61 fa [(15, (.agg (ic (Ao1_2_4) (co1_2_5) (((a.natAbs : Nat) : Int))))), (18, (.agg (ic (Ao1_5_4) (co1_5_5) (((b.natAbs : Nat) : Int))))), (5, (.pointer (some ⟨go1_6_1, 0, none⟩))), (6, (.pointer (some ⟨go1_7_1, 0, none⟩)))] ∧ St w w' [(go1_7_1, 24, (ic (Ao1_5_4) (co1_5_5) (((b.natAbs : Nat) : Int)))), (go1_6_1, 24, (ic (Ao1_2_4) (co1_2_5) (((a.natAbs : Nat) : Int)))), (g9, 24, #[(.bool (false)), (.slice (none) (0) (0))]), (g5, 24, (ic (A_b) (c_b) (b))), (g1, 24, (ic (A_a) (c_a) (a)))] ∧ Ext w10 (g9 :: (g5 :: (g1 :: X))) w' (go1_7_1 :: (go1_6_1 :: (g9 :: (g5 :: (g1 :: X))))) ∧ UC w' (go1_7_1 :: (go1_6_1 :: (g9 :: (g5 :: (g1 :: X))))) Ao1_2_4 co1_2_5 (lim (((a.natAbs : Nat) : Int)).natAbs) ∧ UC w' (go1_7_1 :: (go1_6_1 :: (g9 :: (g5 :: (g1 :: X))))) Ao1_5_4 co1_5_5 (lim (((b.natAbs : Nat) : Int)).natAbs)
     ] TfU.mixed rfl rfl rfl rfl rfl rfl (hF.take (hF.take (hF.take (hF.take (hF.take hF.nil rfl) rfl) rfl) rfl) rfl) rfl ⟨hF.nil, hS.drew, Ext.drew _ _⟩ ?_ ?_ ?_
 all_goals clear hF fa
 ·
  refine ⟨?_, ?_, ?_, ?_, ?_, ?_, ?_, ?_, ?_, ?_, ?_, ?_, ?_, ?_, trivial⟩
  ·
   rintro fa w' i o d v ho hd hna ⟨hA, hR⟩; exact ⟨hA.put_other v (freeOf_at (acts := [2, 5, 6, 7, 8, 9]) rfl ho hd hna), hR⟩
  ·
   rintro fa w' i o d v ho hd hna ⟨Ao1_2_4, co1_2_5, hA, hR⟩; exact ⟨Ao1_2_4, co1_2_5, hA.put_other v (freeOf_at (acts := [2, 5, 6, 7, 8, 9]) rfl ho hd hna), hR⟩
  ·
   rintro fa w' i o d v ho hd hna ⟨go1_6_1, hA, hR⟩; exact ⟨go1_6_1, hA.put_other v (freeOf_at (acts := [2, 5, 6, 7, 8, 9]) rfl ho hd hna), hR⟩
  ·
   rintro fa w' i o d v ho hd hna ⟨go1_7_1, hA, hR⟩; exact ⟨go1_7_1, hA.put_other v (freeOf_at (acts := [2, 5, 6, 7, 8, 9]) rfl ho hd hna), hR⟩
  ·
   rintro fa w' i o d v ho hd hna ⟨Ao1_2_4, co1_2_5, Ao1_5_4, co1_5_5, hA, hR⟩; exact ⟨Ao1_2_4, co1_2_5, Ao1_5_4, co1_5_5, hA.put_other v (freeOf_at (acts := [2, 5, 6, 7, 8, 9]) rfl ho hd hna), hR⟩
  ·
   rintro fa w' i o d v ho hd hna ⟨Ao1_2_4, co1_2_5, go1_6_1, hA, hR⟩; exact ⟨Ao1_2_4, co1_2_5, go1_6_1, hA.put_other v (freeOf_at (acts := [2, 5, 6, 7, 8, 9]) rfl ho hd hna), hR⟩
  ·
   rintro fa w' i o d v ho hd hna ⟨Ao1_2_4, co1_2_5, go1_7_1, hA, hR⟩; exact ⟨Ao1_2_4, co1_2_5, go1_7_1, hA.put_other v (freeOf_at (acts := [2, 5, 6, 7, 8, 9]) rfl ho hd hna), hR⟩
  ·
   rintro fa w' i o d v ho hd hna ⟨go1_6_1, go1_7_1, hA, hR⟩; exact ⟨go1_6_1, go1_7_1, hA.put_other v (freeOf_at (acts := [2, 5, 6, 7, 8, 9]) rfl ho hd hna), hR⟩
  ·
   rintro fa w' i o d v ho hd hna ⟨Ao1_2_4, co1_2_5, Ao1_5_4, co1_5_5, go1_6_1, hA, hR⟩; exact ⟨Ao1_2_4, co1_2_5, Ao1_5_4, co1_5_5, go1_6_1, hA.put_other v (freeOf_at (acts := [2, 5, 6, 7, 8, 9]) rfl ho hd hna), hR⟩
  ·
   rintro fa w' i o d v ho hd hna ⟨Ao1_2_4, co1_2_5, Ao1_5_4, co1_5_5, go1_7_1, hA, hR⟩; exact ⟨Ao1_2_4, co1_2_5, Ao1_5_4, co1_5_5, go1_7_1, hA.put_other v (freeOf_at (acts := [2, 5, 6, 7, 8, 9]) rfl ho hd hna), hR⟩
  ·
   rintro fa w' i o d v ho hd hna ⟨Ao1_2_4, co1_2_5, go1_6_1, go1_7_1, hA, hR⟩; exact ⟨Ao1_2_4, co1_2_5, go1_6_1, go1_7_1, hA.put_other v (freeOf_at (acts := [2, 5, 6, 7, 8, 9]) rfl ho hd hna), hR⟩
  ·
   rintro fa w' i o d v ho hd hna ⟨Ao1_2_4, co1_2_5, Ao1_5_4, co1_5_5, go1_6_1, go1_7_1, hA, hR⟩; exact ⟨Ao1_2_4, co1_2_5, Ao1_5_4, co1_5_5, go1_6_1, go1_7_1, hA.put_other v (freeOf_at (acts := [2, 5, 6, 7, 8, 9]) rfl ho hd hna), hR⟩
  ·
   rintro fa w' i o d v ho hd hna ⟨Ao1_2_4, co1_2_5, Ao1_5_4, co1_5_5, go1_6_1, go1_7_1, hA, hR⟩; exact ⟨Ao1_2_4, co1_2_5, Ao1_5_4, co1_5_5, go1_6_1, go1_7_1, hA.put_other v (freeOf_at (acts := [2, 5, 6, 7, 8, 9]) rfl ho hd hna), hR⟩
  ·
   rintro fa w' i o d v ho hd hna ⟨Ao1_2_4, co1_2_5, Ao1_5_4, co1_5_5, go1_6_1, go1_7_1, hA, hR⟩; exact ⟨Ao1_2_4, co1_2_5, Ao1_5_4, co1_5_5, go1_6_1, go1_7_1, hA.put_other v (freeOf_at (acts := [2, 5, 6, 7, 8, 9]) rfl ho hd hna), hR⟩
 ·
  refine ⟨?_, ?_, ?_, ?_, ?_, ?_, ?_, ?_, ?_, ?_, trivial⟩
  ·
   refine .inl ⟨rfl, _, _, rfl, rfl, fun s fa w' hΦ hF hB K hK => ?_⟩
   exact fl_val rfl rfl rfl (ex_field_addr TfU.off24_1 (hF.ev rfl)) hK
  ·
   refine .inr (.inl ⟨rfl, _, _, rfl, rfl, ?_, ?_, ?_, ?_, trivial⟩)
   ·
    intro fa w' hΦ hF hB K hK
    obtain ⟨hA, hS, E_w'⟩ := hΦ
    replace hF := hF.cons (hB.val 0 _ 13 _ rfl rfl rfl rfl)
    exact fl_val rfl rfl rfl (ex_load1b TfU.one22 (hF.ev rfl) (hS.get 2 rfl) rfl) hK
   ·
    intro fa w' hΦ hF hB K hK
    obtain ⟨go1_6_1, hA, hS, E_w'⟩ := hΦ
    replace hF := hF.cons (hB.val 0 _ 13 _ rfl rfl rfl rfl)
    exact fl_val rfl rfl rfl (ex_load1b TfU.one22 (hF.ev rfl) (hS.get 3 rfl) rfl) hK
   ·
    intro fa w' hΦ hF hB K hK
    obtain ⟨go1_7_1, hA, hS, E_w'⟩ := hΦ
    replace hF := hF.cons (hB.val 0 _ 13 _ rfl rfl rfl rfl)
    exact fl_val rfl rfl rfl (ex_load1b TfU.one22 (hF.ev rfl) (hS.get 3 rfl) rfl) hK
   ·
    intro fa w' hΦ hF hB K hK
    obtain ⟨go1_6_1, go1_7_1, hA, hS, E_w'⟩ := hΦ
    replace hF := hF.cons (hB.val 0 _ 13 _ rfl rfl rfl rfl)
    exact fl_val rfl rfl rfl (ex_load1b TfU.one22 (hF.ev rfl) (hS.get 4 rfl) rfl) hK
  ·
   refine .inr (.inr ⟨rfl, ?_, ?_, ?_, ?_, trivial⟩)
   ·
    intro fa w' hΦ hF hB
    obtain ⟨hA, hS, E_w'⟩ := hΦ
    replace hF := hF.cons (hB.val 1 _ 14 _ rfl rfl rfl rfl)
    refine wop rfl rfl ?_
    have hC := integer_signed_ok (w := w') (X := (g9 :: (g5 :: (g1 :: X)))) (l := (lim a.natAbs)) (hS.bnd hX) false ⟨_, ((lim a.natAbs).length), _, rfl, (rfl), (hu_a.ext (((E3.trans E7).trans E11).trans E_w'))⟩ (lb_lim _)
    rw [show (sgnv false (val ((lim a.natAbs)))) = ((a.natAbs : Nat) : Int) from by rw [val_lim]; rfl] at hC
    refine op_call hF rfl TfU.body41 (args2 (hF.ev rfl) (hF.ev rfl)) hC ?_
    clear hC
    rintro _ wo1_2_1 ⟨⟨_, rfl, Ao1_2_4, co1_2_5, rfl, huo1_2_6⟩, hbo1_2_2⟩
    clear hF; intro hF
    replace hS := hS.call hbo1_2_2; have Eo1_2_3 := Ext.call (g9 :: (g5 :: (g1 :: X))) hbo1_2_2
    have hA1 := ((hA.put_other _ rfl).cons (hF.get 15 _ rfl))
    exact ⟨1, rfl, ⟨Ao1_2_4, co1_2_5, (hA1.take hA1.nil rfl), hS, (E_w'.trans Eo1_2_3), huo1_2_6⟩, _, rfl, fun u hu => by cases hu <;> rfl⟩
   ·
    intro fa w' hΦ hF hB
    obtain ⟨go1_6_1, hA, hS, E_w'⟩ := hΦ
    replace hF := hF.cons (hB.val 1 _ 14 _ rfl rfl rfl rfl)
    refine wop rfl rfl ?_
    have hC := integer_signed_ok (w := w') (X := (go1_6_1 :: (g9 :: (g5 :: (g1 :: X))))) (l := (lim a.natAbs)) (hS.bnd hX) false ⟨_, ((lim a.natAbs).length), _, rfl, (rfl), (hu_a.ext (((E3.trans E7).trans E11).trans E_w'))⟩ (lb_lim _)
    rw [show (sgnv false (val ((lim a.natAbs)))) = ((a.natAbs : Nat) : Int) from by rw [val_lim]; rfl] at hC
    refine op_call hF rfl TfU.body41 (args2 (hF.ev rfl) (hF.ev rfl)) hC ?_
    clear hC
    rintro _ wo1_2_1 ⟨⟨_, rfl, Ao1_2_4, co1_2_5, rfl, huo1_2_6⟩, hbo1_2_2⟩
    clear hF; intro hF
    replace hS := hS.call hbo1_2_2; have Eo1_2_3 := Ext.call (go1_6_1 :: (g9 :: (g5 :: (g1 :: X)))) hbo1_2_2
    have hA1 := ((hA.put_other _ rfl).cons (hF.get 15 _ rfl))
    exact ⟨5, rfl, ⟨Ao1_2_4, co1_2_5, go1_6_1, (hA1.take (hA1.take hA1.nil rfl) rfl), hS, (E_w'.trans Eo1_2_3), huo1_2_6⟩, _, rfl, fun u hu => by cases hu <;> rfl⟩
   ·
    intro fa w' hΦ hF hB
    obtain ⟨go1_7_1, hA, hS, E_w'⟩ := hΦ
    replace hF := hF.cons (hB.val 1 _ 14 _ rfl rfl rfl rfl)
    refine wop rfl rfl ?_
    have hC := integer_signed_ok (w := w') (X := (go1_7_1 :: (g9 :: (g5 :: (g1 :: X))))) (l := (lim a.natAbs)) (hS.bnd hX) false ⟨_, ((lim a.natAbs).length), _, rfl, (rfl), (hu_a.ext (((E3.trans E7).trans E11).trans E_w'))⟩ (lb_lim _)
    rw [show (sgnv false (val ((lim a.natAbs)))) = ((a.natAbs : Nat) : Int) from by rw [val_lim]; rfl] at hC
    refine op_call hF rfl TfU.body41 (args2 (hF.ev rfl) (hF.ev rfl)) hC ?_
    clear hC
    rintro _ wo1_2_1 ⟨⟨_, rfl, Ao1_2_4, co1_2_5, rfl, huo1_2_6⟩, hbo1_2_2⟩
    clear hF; intro hF
    replace hS := hS.call hbo1_2_2; have Eo1_2_3 := Ext.call (go1_7_1 :: (g9 :: (g5 :: (g1 :: X)))) hbo1_2_2
    have hA1 := ((hA.put_other _ rfl).cons (hF.get 15 _ rfl))
    exact ⟨6, rfl, ⟨Ao1_2_4, co1_2_5, go1_7_1, (hA1.take (hA1.take hA1.nil rfl) rfl), hS, (E_w'.trans Eo1_2_3), huo1_2_6⟩, _, rfl, fun u hu => by cases hu <;> rfl⟩
   ·
    intro fa w' hΦ hF hB
    obtain ⟨go1_6_1, go1_7_1, hA, hS, E_w'⟩ := hΦ
    replace hF := hF.cons (hB.val 1 _ 14 _ rfl rfl rfl rfl)
    refine wop rfl rfl ?_
    have hC := integer_signed_ok (w := w') (X := (go1_7_1 :: (go1_6_1 :: (g9 :: (g5 :: (g1 :: X)))))) (l := (lim a.natAbs)) (hS.bnd hX) false ⟨_, ((lim a.natAbs).length), _, rfl, (rfl), (hu_a.ext (((E3.trans E7).trans E11).trans E_w'))⟩ (lb_lim _)
    rw [show (sgnv false (val ((lim a.natAbs)))) = ((a.natAbs : Nat) : Int) from by rw [val_lim]; rfl] at hC
    refine op_call hF rfl TfU.body41 (args2 (hF.ev rfl) (hF.ev rfl)) hC ?_
    clear hC
    rintro _ wo1_2_1 ⟨⟨_, rfl, Ao1_2_4, co1_2_5, rfl, huo1_2_6⟩, hbo1_2_2⟩
    clear hF; intro hF
    replace hS := hS.call hbo1_2_2; have Eo1_2_3 := Ext.call (go1_7_1 :: (go1_6_1 :: (g9 :: (g5 :: (g1 :: X))))) hbo1_2_2
    have hA1 := ((hA.put_other _ rfl).cons (hF.get 15 _ rfl))
    exact ⟨10, rfl, ⟨Ao1_2_4, co1_2_5, go1_6_1, go1_7_1, (hA1.take (hA1.take (hA1.take hA1.nil rfl) rfl) rfl), hS, (E_w'.trans Eo1_2_3), huo1_2_6⟩, _, rfl, fun u hu => by cases hu <;> rfl⟩
  ·
   refine .inl ⟨rfl, _, _, rfl, rfl, fun s fa w' hΦ hF hB K hK => ?_⟩
   exact fl_val rfl rfl rfl (ex_field_addr TfU.off24_1 (hF.ev rfl)) hK
  ·
   refine .inr (.inl ⟨rfl, _, _, rfl, rfl, ?_, ?_, ?_, ?_, ?_, ?_, ?_, ?_, trivial⟩)
   ·
    intro fa w' hΦ hF hB K hK
    obtain ⟨hA, hS, E_w'⟩ := hΦ
    replace hF := hF.cons (hB.val 3 _ 16 _ rfl rfl rfl rfl)
    exact fl_val rfl rfl rfl (ex_load1b TfU.one22 (hF.ev rfl) (hS.get 1 rfl) rfl) hK
   ·
    intro fa w' hΦ hF hB K hK
    obtain ⟨Ao1_2_4, co1_2_5, hA, hS, E_w', huo1_2_6⟩ := hΦ
    replace hF := hF.cons (hB.val 3 _ 16 _ rfl rfl rfl rfl)
    exact fl_val rfl rfl rfl (ex_load1b TfU.one22 (hF.ev rfl) (hS.get 1 rfl) rfl) hK
   ·
    intro fa w' hΦ hF hB K hK
    obtain ⟨go1_6_1, hA, hS, E_w'⟩ := hΦ
    replace hF := hF.cons (hB.val 3 _ 16 _ rfl rfl rfl rfl)
    exact fl_val rfl rfl rfl (ex_load1b TfU.one22 (hF.ev rfl) (hS.get 2 rfl) rfl) hK
   ·
    intro fa w' hΦ hF hB K hK
    obtain ⟨go1_7_1, hA, hS, E_w'⟩ := hΦ
    replace hF := hF.cons (hB.val 3 _ 16 _ rfl rfl rfl rfl)
    exact fl_val rfl rfl rfl (ex_load1b TfU.one22 (hF.ev rfl) (hS.get 2 rfl) rfl) hK
   ·
    intro fa w' hΦ hF hB K hK
    obtain ⟨Ao1_2_4, co1_2_5, go1_6_1, hA, hS, E_w', huo1_2_6⟩ := hΦ
    replace hF := hF.cons (hB.val 3 _ 16 _ rfl rfl rfl rfl)
    exact fl_val rfl rfl rfl (ex_load1b TfU.one22 (hF.ev rfl) (hS.get 2 rfl) rfl) hK
   ·
    intro fa w' hΦ hF hB K hK
    obtain ⟨Ao1_2_4, co1_2_5, go1_7_1, hA, hS, E_w', huo1_2_6⟩ := hΦ
    replace hF := hF.cons (hB.val 3 _ 16 _ rfl rfl rfl rfl)
    exact fl_val rfl rfl rfl (ex_load1b TfU.one22 (hF.ev rfl) (hS.get 2 rfl) rfl) hK
   ·
    intro fa w' hΦ hF hB K hK
    obtain ⟨go1_6_1, go1_7_1, hA, hS, E_w'⟩ := hΦ
    replace hF := hF.cons (hB.val 3 _ 16 _ rfl rfl rfl rfl)
    exact fl_val rfl rfl rfl (ex_load1b TfU.one22 (hF.ev rfl) (hS.get 3 rfl) rfl) hK
   ·
    intro fa w' hΦ hF hB K hK
    obtain ⟨Ao1_2_4, co1_2_5, go1_6_1, go1_7_1, hA, hS, E_w', huo1_2_6⟩ := hΦ
    replace hF := hF.cons (hB.val 3 _ 16 _ rfl rfl rfl rfl)
    exact fl_val rfl rfl rfl (ex_load1b TfU.one22 (hF.ev rfl) (hS.get 3 rfl) rfl) hK
  ·
   refine .inr (.inr ⟨rfl, ?_, ?_, ?_, ?_, trivial⟩)
   ·
    intro fa w' hΦ hF hB
    obtain ⟨Ao1_2_4, co1_2_5, hA, hS, E_w', huo1_2_6⟩ := hΦ
    replace hF := hF.cons (hB.val 4 _ 17 _ rfl rfl rfl rfl)
    refine wop rfl rfl ?_
    have hC := integer_signed_ok (w := w') (X := (g9 :: (g5 :: (g1 :: X)))) (l := (lim b.natAbs)) (hS.bnd hX) false ⟨_, ((lim b.natAbs).length), _, rfl, (rfl), (hu_b.ext (((E3.trans E7).trans E11).trans E_w'))⟩ (lb_lim _)
    rw [show (sgnv false (val ((lim b.natAbs)))) = ((b.natAbs : Nat) : Int) from by rw [val_lim]; rfl] at hC
    refine op_call hF rfl TfU.body41 (args2 (hF.ev rfl) (hF.ev rfl)) hC ?_
    clear hC
    rintro _ wo1_5_1 ⟨⟨_, rfl, Ao1_5_4, co1_5_5, rfl, huo1_5_6⟩, hbo1_5_2⟩
    clear hF; intro hF
    replace hS := hS.call hbo1_5_2; have Eo1_5_3 := Ext.call (g9 :: (g5 :: (g1 :: X))) hbo1_5_2
    have hA1 := ((hA.put_other _ rfl).cons (hF.get 18 _ rfl))
    exact ⟨4, rfl, ⟨Ao1_2_4, co1_2_5, Ao1_5_4, co1_5_5, (hA1.take (hA1.take hA1.nil rfl) rfl), hS, (E_w'.trans Eo1_5_3), (huo1_2_6.ext Eo1_5_3), huo1_5_6⟩, _, rfl, fun u hu => by cases hu <;> rfl⟩
   ·
    intro fa w' hΦ hF hB
    obtain ⟨Ao1_2_4, co1_2_5, go1_6_1, hA, hS, E_w', huo1_2_6⟩ := hΦ
    replace hF := hF.cons (hB.val 4 _ 17 _ rfl rfl rfl rfl)
    refine wop rfl rfl ?_
    have hC := integer_signed_ok (w := w') (X := (go1_6_1 :: (g9 :: (g5 :: (g1 :: X))))) (l := (lim b.natAbs)) (hS.bnd hX) false ⟨_, ((lim b.natAbs).length), _, rfl, (rfl), (hu_b.ext (((E3.trans E7).trans E11).trans E_w'))⟩ (lb_lim _)
    rw [show (sgnv false (val ((lim b.natAbs)))) = ((b.natAbs : Nat) : Int) from by rw [val_lim]; rfl] at hC
    refine op_call hF rfl TfU.body41 (args2 (hF.ev rfl) (hF.ev rfl)) hC ?_
    clear hC
    rintro _ wo1_5_1 ⟨⟨_, rfl, Ao1_5_4, co1_5_5, rfl, huo1_5_6⟩, hbo1_5_2⟩
    clear hF; intro hF
    replace hS := hS.call hbo1_5_2; have Eo1_5_3 := Ext.call (go1_6_1 :: (g9 :: (g5 :: (g1 :: X)))) hbo1_5_2
    have hA1 := ((hA.put_other _ rfl).cons (hF.get 18 _ rfl))
    exact ⟨8, rfl, ⟨Ao1_2_4, co1_2_5, Ao1_5_4, co1_5_5, go1_6_1, (hA1.take (hA1.take (hA1.take hA1.nil rfl) rfl) rfl), hS, (E_w'.trans Eo1_5_3), (huo1_2_6.ext Eo1_5_3), huo1_5_6⟩, _, rfl, fun u hu => by cases hu <;> rfl⟩
   ·
    intro fa w' hΦ hF hB
    obtain ⟨Ao1_2_4, co1_2_5, go1_7_1, hA, hS, E_w', huo1_2_6⟩ := hΦ
    replace hF := hF.cons (hB.val 4 _ 17 _ rfl rfl rfl rfl)
    refine wop rfl rfl ?_
    have hC := integer_signed_ok (w := w') (X := (go1_7_1 :: (g9 :: (g5 :: (g1 :: X))))) (l := (lim b.natAbs)) (hS.bnd hX) false ⟨_, ((lim b.natAbs).length), _, rfl, (rfl), (hu_b.ext (((E3.trans E7).trans E11).trans E_w'))⟩ (lb_lim _)
    rw [show (sgnv false (val ((lim b.natAbs)))) = ((b.natAbs : Nat) : Int) from by rw [val_lim]; rfl] at hC
    refine op_call hF rfl TfU.body41 (args2 (hF.ev rfl) (hF.ev rfl)) hC ?_
    clear hC
    rintro _ wo1_5_1 ⟨⟨_, rfl, Ao1_5_4, co1_5_5, rfl, huo1_5_6⟩, hbo1_5_2⟩
    clear hF; intro hF
    replace hS := hS.call hbo1_5_2; have Eo1_5_3 := Ext.call (go1_7_1 :: (g9 :: (g5 :: (g1 :: X)))) hbo1_5_2
    have hA1 := ((hA.put_other _ rfl).cons (hF.get 18 _ rfl))
    exact ⟨9, rfl, ⟨Ao1_2_4, co1_2_5, Ao1_5_4, co1_5_5, go1_7_1, (hA1.take (hA1.take (hA1.take hA1.nil rfl) rfl) rfl), hS, (E_w'.trans Eo1_5_3), (huo1_2_6.ext Eo1_5_3), huo1_5_6⟩, _, rfl, fun u hu => by cases hu <;> rfl⟩
   ·
    intro fa w' hΦ hF hB
    obtain ⟨Ao1_2_4, co1_2_5, go1_6_1, go1_7_1, hA, hS, E_w', huo1_2_6⟩ := hΦ
    replace hF := hF.cons (hB.val 4 _ 17 _ rfl rfl rfl rfl)
    refine wop rfl rfl ?_
    have hC := integer_signed_ok (w := w') (X := (go1_7_1 :: (go1_6_1 :: (g9 :: (g5 :: (g1 :: X)))))) (l := (lim b.natAbs)) (hS.bnd hX) false ⟨_, ((lim b.natAbs).length), _, rfl, (rfl), (hu_b.ext (((E3.trans E7).trans E11).trans E_w'))⟩ (lb_lim _)
    rw [show (sgnv false (val ((lim b.natAbs)))) = ((b.natAbs : Nat) : Int) from by rw [val_lim]; rfl] at hC
    refine op_call hF rfl TfU.body41 (args2 (hF.ev rfl) (hF.ev rfl)) hC ?_
    clear hC
    rintro _ wo1_5_1 ⟨⟨_, rfl, Ao1_5_4, co1_5_5, rfl, huo1_5_6⟩, hbo1_5_2⟩
    clear hF; intro hF
    replace hS := hS.call hbo1_5_2; have Eo1_5_3 := Ext.call (go1_7_1 :: (go1_6_1 :: (g9 :: (g5 :: (g1 :: X))))) hbo1_5_2
    have hA1 := ((hA.put_other _ rfl).cons (hF.get 18 _ rfl))
    exact ⟨11, rfl, ⟨Ao1_2_4, co1_2_5, Ao1_5_4, co1_5_5, go1_6_1, go1_7_1, (hA1.take (hA1.take (hA1.take (hA1.take hA1.nil rfl) rfl) rfl) rfl), hS, (E_w'.trans Eo1_5_3), (huo1_2_6.ext Eo1_5_3), huo1_5_6⟩, _, rfl, fun u hu => by cases hu <;> rfl⟩
  ·
   refine .inr (.inr ⟨rfl, ?_, ?_, ?_, ?_, ?_, ?_, trivial⟩)
   ·
    intro fa w' hΦ hF hB
    obtain ⟨hA, hS, E_w'⟩ := hΦ
    refine wop rfl rfl ?_
    refine op_alloc (X := (g9 :: (g5 :: (g1 :: X)))) hF hS rfl TfU.zero24 ?_
    intro go1_6_1 wo1_6_2 hgo1_6_4 hS Eo1_6_3 hF
    replace hS : St w wo1_6_2 [(go1_6_1, 24, #[(.bool (false)), (.slice (none) (0) (0))]), (g9, 24, #[(.bool (false)), (.slice (none) (0) (0))]), (g5, 24, (ic (A_b) (c_b) (b))), (g1, 24, (ic (A_a) (c_a) (a)))] := hS
    have hA1 := ((hA.put_other _ rfl).cons (hF.get 5 _ rfl))
    exact ⟨2, rfl, ⟨go1_6_1, (hA1.take hA1.nil rfl), hS, (E_w'.trans Eo1_6_3)⟩, _, rfl, fun u hu => by cases hu <;> rfl⟩
   ·
    intro fa w' hΦ hF hB
    obtain ⟨Ao1_2_4, co1_2_5, hA, hS, E_w', huo1_2_6⟩ := hΦ
    refine wop rfl rfl ?_
    refine op_alloc (X := (g9 :: (g5 :: (g1 :: X)))) hF hS rfl TfU.zero24 ?_
    intro go1_6_1 wo1_6_2 hgo1_6_4 hS Eo1_6_3 hF
    replace hS : St w wo1_6_2 [(go1_6_1, 24, #[(.bool (false)), (.slice (none) (0) (0))]), (g9, 24, #[(.bool (false)), (.slice (none) (0) (0))]), (g5, 24, (ic (A_b) (c_b) (b))), (g1, 24, (ic (A_a) (c_a) (a)))] := hS
    have hA1 := ((hA.put_other _ rfl).cons (hF.get 5 _ rfl))
    exact ⟨5, rfl, ⟨Ao1_2_4, co1_2_5, go1_6_1, (hA1.take (hA1.take hA1.nil rfl) rfl), hS, (E_w'.trans Eo1_6_3), (huo1_2_6.ext Eo1_6_3)⟩, _, rfl, fun u hu => by cases hu <;> rfl⟩
   ·
    intro fa w' hΦ hF hB
    obtain ⟨go1_7_1, hA, hS, E_w'⟩ := hΦ
    refine wop rfl rfl ?_
    refine op_alloc (X := (go1_7_1 :: (g9 :: (g5 :: (g1 :: X))))) hF hS rfl TfU.zero24 ?_
    intro go1_6_1 wo1_6_2 hgo1_6_4 hS Eo1_6_3 hF
    replace hS : St w wo1_6_2 [(go1_6_1, 24, #[(.bool (false)), (.slice (none) (0) (0))]), (go1_7_1, 24, #[(.bool (false)), (.slice (none) (0) (0))]), (g9, 24, #[(.bool (false)), (.slice (none) (0) (0))]), (g5, 24, (ic (A_b) (c_b) (b))), (g1, 24, (ic (A_a) (c_a) (a)))] := hS
    replace hS : St w wo1_6_2 [(go1_7_1, 24, #[(.bool (false)), (.slice (none) (0) (0))]), (go1_6_1, 24, #[(.bool (false)), (.slice (none) (0) (0))]), (g9, 24, #[(.bool (false)), (.slice (none) (0) (0))]), (g5, 24, (ic (A_b) (c_b) (b))), (g1, 24, (ic (A_a) (c_a) (a)))] := hS.perm (List.Perm.swap _ _ _)
    have E13 : Ext wo1_6_2 (go1_6_1 :: (go1_7_1 :: (g9 :: (g5 :: (g1 :: X))))) wo1_6_2 (go1_7_1 :: (go1_6_1 :: (g9 :: (g5 :: (g1 :: X))))) := Ext.drop (by simp +contextual)
    have hA1 := ((hA.put_other _ rfl).cons (hF.get 5 _ rfl))
    exact ⟨7, rfl, ⟨go1_6_1, go1_7_1, (hA1.take (hA1.take hA1.nil rfl) rfl), hS, ((E_w'.trans Eo1_6_3).trans E13)⟩, _, rfl, fun u hu => by cases hu <;> rfl⟩
   ·
    intro fa w' hΦ hF hB
    obtain ⟨Ao1_2_4, co1_2_5, Ao1_5_4, co1_5_5, hA, hS, E_w', huo1_2_6, huo1_5_6⟩ := hΦ
    refine wop rfl rfl ?_
    refine op_alloc (X := (g9 :: (g5 :: (g1 :: X)))) hF hS rfl TfU.zero24 ?_
    intro go1_6_1 wo1_6_2 hgo1_6_4 hS Eo1_6_3 hF
    replace hS : St w wo1_6_2 [(go1_6_1, 24, #[(.bool (false)), (.slice (none) (0) (0))]), (g9, 24, #[(.bool (false)), (.slice (none) (0) (0))]), (g5, 24, (ic (A_b) (c_b) (b))), (g1, 24, (ic (A_a) (c_a) (a)))] := hS
    have hA1 := ((hA.put_other _ rfl).cons (hF.get 5 _ rfl))
    exact ⟨8, rfl, ⟨Ao1_2_4, co1_2_5, Ao1_5_4, co1_5_5, go1_6_1, (hA1.take (hA1.take (hA1.take hA1.nil rfl) rfl) rfl), hS, (E_w'.trans Eo1_6_3), (huo1_2_6.ext Eo1_6_3), (huo1_5_6.ext Eo1_6_3)⟩, _, rfl, fun u hu => by cases hu <;> rfl⟩
   ·
    intro fa w' hΦ hF hB
    obtain ⟨Ao1_2_4, co1_2_5, go1_7_1, hA, hS, E_w', huo1_2_6⟩ := hΦ
    refine wop rfl rfl ?_
    refine op_alloc (X := (go1_7_1 :: (g9 :: (g5 :: (g1 :: X))))) hF hS rfl TfU.zero24 ?_
    intro go1_6_1 wo1_6_2 hgo1_6_4 hS Eo1_6_3 hF
    replace hS : St w wo1_6_2 [(go1_6_1, 24, #[(.bool (false)), (.slice (none) (0) (0))]), (go1_7_1, 24, #[(.bool (false)), (.slice (none) (0) (0))]), (g9, 24, #[(.bool (false)), (.slice (none) (0) (0))]), (g5, 24, (ic (A_b) (c_b) (b))), (g1, 24, (ic (A_a) (c_a) (a)))] := hS
    replace hS : St w wo1_6_2 [(go1_7_1, 24, #[(.bool (false)), (.slice (none) (0) (0))]), (go1_6_1, 24, #[(.bool (false)), (.slice (none) (0) (0))]), (g9, 24, #[(.bool (false)), (.slice (none) (0) (0))]), (g5, 24, (ic (A_b) (c_b) (b))), (g1, 24, (ic (A_a) (c_a) (a)))] := hS.perm (List.Perm.swap _ _ _)
    have E14 : Ext wo1_6_2 (go1_6_1 :: (go1_7_1 :: (g9 :: (g5 :: (g1 :: X))))) wo1_6_2 (go1_7_1 :: (go1_6_1 :: (g9 :: (g5 :: (g1 :: X))))) := Ext.drop (by simp +contextual)
    have hA1 := ((hA.put_other _ rfl).cons (hF.get 5 _ rfl))
    exact ⟨10, rfl, ⟨Ao1_2_4, co1_2_5, go1_6_1, go1_7_1, (hA1.take (hA1.take (hA1.take hA1.nil rfl) rfl) rfl), hS, ((E_w'.trans Eo1_6_3).trans E14), (huo1_2_6.ext (Eo1_6_3.trans E14))⟩, _, rfl, fun u hu => by cases hu <;> rfl⟩
   ·
    intro fa w' hΦ hF hB
    obtain ⟨Ao1_2_4, co1_2_5, Ao1_5_4, co1_5_5, go1_7_1, hA, hS, E_w', huo1_2_6, huo1_5_6⟩ := hΦ
    refine wop rfl rfl ?_
    refine op_alloc (X := (go1_7_1 :: (g9 :: (g5 :: (g1 :: X))))) hF hS rfl TfU.zero24 ?_
    intro go1_6_1 wo1_6_2 hgo1_6_4 hS Eo1_6_3 hF
    replace hS : St w wo1_6_2 [(go1_6_1, 24, #[(.bool (false)), (.slice (none) (0) (0))]), (go1_7_1, 24, #[(.bool (false)), (.slice (none) (0) (0))]), (g9, 24, #[(.bool (false)), (.slice (none) (0) (0))]), (g5, 24, (ic (A_b) (c_b) (b))), (g1, 24, (ic (A_a) (c_a) (a)))] := hS
    replace hS : St w wo1_6_2 [(go1_7_1, 24, #[(.bool (false)), (.slice (none) (0) (0))]), (go1_6_1, 24, #[(.bool (false)), (.slice (none) (0) (0))]), (g9, 24, #[(.bool (false)), (.slice (none) (0) (0))]), (g5, 24, (ic (A_b) (c_b) (b))), (g1, 24, (ic (A_a) (c_a) (a)))] := hS.perm (List.Perm.swap _ _ _)
    have E15 : Ext wo1_6_2 (go1_6_1 :: (go1_7_1 :: (g9 :: (g5 :: (g1 :: X))))) wo1_6_2 (go1_7_1 :: (go1_6_1 :: (g9 :: (g5 :: (g1 :: X))))) := Ext.drop (by simp +contextual)
    have hA1 := ((hA.put_other _ rfl).cons (hF.get 5 _ rfl))
    exact ⟨11, rfl, ⟨Ao1_2_4, co1_2_5, Ao1_5_4, co1_5_5, go1_6_1, go1_7_1, (hA1.take (hA1.take (hA1.take (hA1.take hA1.nil rfl) rfl) rfl) rfl), hS, ((E_w'.trans Eo1_6_3).trans E15), (huo1_2_6.ext (Eo1_6_3.trans E15)), (huo1_5_6.ext (Eo1_6_3.trans E15))⟩, _, rfl, fun u hu => by cases hu <;> rfl⟩
  ·
   refine .inr (.inr ⟨rfl, ?_, ?_, ?_, ?_, ?_, ?_, trivial⟩)
   ·
    intro fa w' hΦ hF hB
    obtain ⟨hA, hS, E_w'⟩ := hΦ
    refine wop rfl rfl ?_
    refine op_alloc (X := (g9 :: (g5 :: (g1 :: X)))) hF hS rfl TfU.zero24 ?_
    intro go1_7_1 wo1_7_2 hgo1_7_4 hS Eo1_7_3 hF
    replace hS : St w wo1_7_2 [(go1_7_1, 24, #[(.bool (false)), (.slice (none) (0) (0))]), (g9, 24, #[(.bool (false)), (.slice (none) (0) (0))]), (g5, 24, (ic (A_b) (c_b) (b))), (g1, 24, (ic (A_a) (c_a) (a)))] := hS
    have hA1 := ((hA.put_other _ rfl).cons (hF.get 6 _ rfl))
    exact ⟨3, rfl, ⟨go1_7_1, (hA1.take hA1.nil rfl), hS, (E_w'.trans Eo1_7_3)⟩, _, rfl, fun u hu => by cases hu <;> rfl⟩
   ·
    intro fa w' hΦ hF hB
    obtain ⟨Ao1_2_4, co1_2_5, hA, hS, E_w', huo1_2_6⟩ := hΦ
    refine wop rfl rfl ?_
    refine op_alloc (X := (g9 :: (g5 :: (g1 :: X)))) hF hS rfl TfU.zero24 ?_
    intro go1_7_1 wo1_7_2 hgo1_7_4 hS Eo1_7_3 hF
    replace hS : St w wo1_7_2 [(go1_7_1, 24, #[(.bool (false)), (.slice (none) (0) (0))]), (g9, 24, #[(.bool (false)), (.slice (none) (0) (0))]), (g5, 24, (ic (A_b) (c_b) (b))), (g1, 24, (ic (A_a) (c_a) (a)))] := hS
    have hA1 := ((hA.put_other _ rfl).cons (hF.get 6 _ rfl))
    exact ⟨6, rfl, ⟨Ao1_2_4, co1_2_5, go1_7_1, (hA1.take (hA1.take hA1.nil rfl) rfl), hS, (E_w'.trans Eo1_7_3), (huo1_2_6.ext Eo1_7_3)⟩, _, rfl, fun u hu => by cases hu <;> rfl⟩
   ·
    intro fa w' hΦ hF hB
    obtain ⟨go1_6_1, hA, hS, E_w'⟩ := hΦ
    refine wop rfl rfl ?_
    refine op_alloc (X := (go1_6_1 :: (g9 :: (g5 :: (g1 :: X))))) hF hS rfl TfU.zero24 ?_
    intro go1_7_1 wo1_7_2 hgo1_7_4 hS Eo1_7_3 hF
    replace hS : St w wo1_7_2 [(go1_7_1, 24, #[(.bool (false)), (.slice (none) (0) (0))]), (go1_6_1, 24, #[(.bool (false)), (.slice (none) (0) (0))]), (g9, 24, #[(.bool (false)), (.slice (none) (0) (0))]), (g5, 24, (ic (A_b) (c_b) (b))), (g1, 24, (ic (A_a) (c_a) (a)))] := hS
    have hA1 := ((hA.put_other _ rfl).cons (hF.get 6 _ rfl))
    exact ⟨7, rfl, ⟨go1_6_1, go1_7_1, (hA1.take (hA1.take hA1.nil rfl) rfl), hS, (E_w'.trans Eo1_7_3)⟩, _, rfl, fun u hu => by cases hu <;> rfl⟩
   ·
    intro fa w' hΦ hF hB
    obtain ⟨Ao1_2_4, co1_2_5, Ao1_5_4, co1_5_5, hA, hS, E_w', huo1_2_6, huo1_5_6⟩ := hΦ
    refine wop rfl rfl ?_
    refine op_alloc (X := (g9 :: (g5 :: (g1 :: X)))) hF hS rfl TfU.zero24 ?_
    intro go1_7_1 wo1_7_2 hgo1_7_4 hS Eo1_7_3 hF
    replace hS : St w wo1_7_2 [(go1_7_1, 24, #[(.bool (false)), (.slice (none) (0) (0))]), (g9, 24, #[(.bool (false)), (.slice (none) (0) (0))]), (g5, 24, (ic (A_b) (c_b) (b))), (g1, 24, (ic (A_a) (c_a) (a)))] := hS
    have hA1 := ((hA.put_other _ rfl).cons (hF.get 6 _ rfl))
    exact ⟨9, rfl, ⟨Ao1_2_4, co1_2_5, Ao1_5_4, co1_5_5, go1_7_1, (hA1.take (hA1.take (hA1.take hA1.nil rfl) rfl) rfl), hS, (E_w'.trans Eo1_7_3), (huo1_2_6.ext Eo1_7_3), (huo1_5_6.ext Eo1_7_3)⟩, _, rfl, fun u hu => by cases hu <;> rfl⟩
   ·
    intro fa w' hΦ hF hB
    obtain ⟨Ao1_2_4, co1_2_5, go1_6_1, hA, hS, E_w', huo1_2_6⟩ := hΦ
    refine wop rfl rfl ?_
    refine op_alloc (X := (go1_6_1 :: (g9 :: (g5 :: (g1 :: X))))) hF hS rfl TfU.zero24 ?_
    intro go1_7_1 wo1_7_2 hgo1_7_4 hS Eo1_7_3 hF
    replace hS : St w wo1_7_2 [(go1_7_1, 24, #[(.bool (false)), (.slice (none) (0) (0))]), (go1_6_1, 24, #[(.bool (false)), (.slice (none) (0) (0))]), (g9, 24, #[(.bool (false)), (.slice (none) (0) (0))]), (g5, 24, (ic (A_b) (c_b) (b))), (g1, 24, (ic (A_a) (c_a) (a)))] := hS
    have hA1 := ((hA.put_other _ rfl).cons (hF.get 6 _ rfl))
    exact ⟨10, rfl, ⟨Ao1_2_4, co1_2_5, go1_6_1, go1_7_1, (hA1.take (hA1.take (hA1.take hA1.nil rfl) rfl) rfl), hS, (E_w'.trans Eo1_7_3), (huo1_2_6.ext Eo1_7_3)⟩, _, rfl, fun u hu => by cases hu <;> rfl⟩
   ·
    intro fa w' hΦ hF hB
    obtain ⟨Ao1_2_4, co1_2_5, Ao1_5_4, co1_5_5, go1_6_1, hA, hS, E_w', huo1_2_6, huo1_5_6⟩ := hΦ
    refine wop rfl rfl ?_
    refine op_alloc (X := (go1_6_1 :: (g9 :: (g5 :: (g1 :: X))))) hF hS rfl TfU.zero24 ?_
    intro go1_7_1 wo1_7_2 hgo1_7_4 hS Eo1_7_3 hF
    replace hS : St w wo1_7_2 [(go1_7_1, 24, #[(.bool (false)), (.slice (none) (0) (0))]), (go1_6_1, 24, #[(.bool (false)), (.slice (none) (0) (0))]), (g9, 24, #[(.bool (false)), (.slice (none) (0) (0))]), (g5, 24, (ic (A_b) (c_b) (b))), (g1, 24, (ic (A_a) (c_a) (a)))] := hS
    have hA1 := ((hA.put_other _ rfl).cons (hF.get 6 _ rfl))
    exact ⟨11, rfl, ⟨Ao1_2_4, co1_2_5, Ao1_5_4, co1_5_5, go1_6_1, go1_7_1, (hA1.take (hA1.take (hA1.take (hA1.take hA1.nil rfl) rfl) rfl) rfl), hS, (E_w'.trans Eo1_7_3), (huo1_2_6.ext Eo1_7_3), (huo1_5_6.ext Eo1_7_3)⟩, _, rfl, fun u hu => by cases hu <;> rfl⟩
  ·
   refine .inr (.inr ⟨rfl, ?_, trivial⟩)
   ·
    intro fa w' hΦ hF hB
    obtain ⟨Ao1_2_4, co1_2_5, Ao1_5_4, co1_5_5, go1_6_1, go1_7_1, hA, hS, E_w', huo1_2_6, huo1_5_6⟩ := hΦ
    replace hF := hF.cons (hA.get 5 _ rfl)
    replace hF := hF.cons (hA.get 15 _ rfl)
    refine wop rfl rfl ?_
    refine op_store (X := (go1_7_1 :: (go1_6_1 :: (g9 :: (g5 :: (g1 :: X)))))) hF hS 1 rfl (by simp) rfl rfl rfl TfU.size24 rfl (Nat.le_of_ble_eq_true rfl) ?_
    intro wo1_8_1 hS Eo1_8_2
    replace hS : St w wo1_8_1 [(go1_7_1, 24, #[(.bool (false)), (.slice (none) (0) (0))]), (go1_6_1, 24, (ic (Ao1_2_4) (co1_2_5) (((a.natAbs : Nat) : Int)))), (g9, 24, #[(.bool (false)), (.slice (none) (0) (0))]), (g5, 24, (ic (A_b) (c_b) (b))), (g1, 24, (ic (A_a) (c_a) (a)))] := hS
    exact ⟨12, rfl, ⟨Ao1_2_4, co1_2_5, Ao1_5_4, co1_5_5, go1_6_1, go1_7_1, hA, hS, (E_w'.trans Eo1_8_2), (huo1_2_6.ext Eo1_8_2), (huo1_5_6.ext Eo1_8_2)⟩, undef, rfl, fun u hu => by cases hu <;> rfl⟩
  ·
   refine .inr (.inr ⟨rfl, ?_, trivial⟩)
   ·
    intro fa w' hΦ hF hB
    obtain ⟨Ao1_2_4, co1_2_5, Ao1_5_4, co1_5_5, go1_6_1, go1_7_1, hA, hS, E_w', huo1_2_6, huo1_5_6⟩ := hΦ
    replace hF := hF.cons (hA.get 6 _ rfl)
    replace hF := hF.cons (hA.get 18 _ rfl)
    refine wop rfl rfl ?_
    refine op_store (X := (go1_7_1 :: (go1_6_1 :: (g9 :: (g5 :: (g1 :: X)))))) hF hS 0 rfl (by simp) rfl rfl rfl TfU.size24 rfl (Nat.le_of_ble_eq_true rfl) ?_
    intro wo1_9_1 hS Eo1_9_2
    replace hS : St w wo1_9_1 [(go1_7_1, 24, (ic (Ao1_5_4) (co1_5_5) (((b.natAbs : Nat) : Int)))), (go1_6_1, 24, (ic (Ao1_2_4) (co1_2_5) (((a.natAbs : Nat) : Int)))), (g9, 24, #[(.bool (false)), (.slice (none) (0) (0))]), (g5, 24, (ic (A_b) (c_b) (b))), (g1, 24, (ic (A_a) (c_a) (a)))] := hS
    exact ⟨13, rfl, ⟨Ao1_2_4, co1_2_5, Ao1_5_4, co1_5_5, go1_6_1, go1_7_1, hA, hS, (E_w'.trans Eo1_9_2), (huo1_2_6.ext Eo1_9_2), (huo1_5_6.ext Eo1_9_2)⟩, undef, rfl, fun u hu => by cases hu <;> rfl⟩
 intro fa w16 hΦ hF hC
 obtain ⟨Ao1_2_4, co1_2_5, Ao1_5_4, co1_5_5, go1_6_1, go1_7_1, hA, hS, E_w16, huo1_2_6, huo1_5_6⟩ := hΦ
 replace hF := hF.cons (hA.get 5 _ rfl)
 replace hF := hF.cons (hA.get 6 _ rfl)
 clear hA hC
 refine x_tn ?_
 refine c_seq ?_
 refine c_block ?_
 refine c_loop (fun mu fa w' => ∃ mm : Nat, ∃ nn : Nat, ∃ Ax : Option Addr, ∃ cx : Nat, ∃ Ay : Option Addr, ∃ cy : Nat, Frm 61 fa [(0, (.agg (ic (A_a) (c_a) (a)))), (1, (.agg (ic (A_b) (c_b) (b)))), (2, (.pointer (some ⟨g1, 0, none⟩))), (3, (.pointer (some ⟨g5, 0, none⟩))), (4, (.pointer (some ⟨g9, 0, none⟩))), (5, (.pointer (some ⟨go1_6_1, 0, none⟩))), (6, (.pointer (some ⟨go1_7_1, 0, none⟩)))] ∧ St w w' [(go1_7_1, 24, (ic (Ay) (cy) (((nn : Nat) : Int)))), (go1_6_1, 24, (ic (Ax) (cx) (((mm : Nat) : Int)))), (g9, 24, #[(.bool (false)), (.slice (none) (0) (0))]), (g5, 24, (ic (A_b) (c_b) (b))), (g1, 24, (ic (A_a) (c_a) (a)))] ∧ Ext w16 (go1_7_1 :: (go1_6_1 :: (g9 :: (g5 :: (g1 :: X))))) w' (go1_7_1 :: (go1_6_1 :: (g9 :: (g5 :: (g1 :: X))))) ∧ UC w' (go1_7_1 :: (go1_6_1 :: (g9 :: (g5 :: (g1 :: X))))) Ax cx (lim ((mm : Nat) : Int).natAbs) ∧ UC w' (go1_7_1 :: (go1_6_1 :: (g9 :: (g5 :: (g1 :: X))))) Ay cy (lim ((nn : Nat) : Int).natAbs) ∧ (Nat.gcd mm nn = Nat.gcd a.natAbs b.natAbs) ∧ (sz ((mm : Nat) : Int) ≤ 1000000000) ∧ (sz ((nn : Nat) : Int) ≤ 1000000000) ∧ nn = mu) ?_ ?_
 ·
  exact ⟨_, a.natAbs, b.natAbs, Ao1_2_4, co1_2_5, Ao1_5_4, co1_5_5, (hF.take (hF.take (hF.take (hF.take (hF.take (hF.take (hF.take hF.nil rfl) rfl) rfl) rfl) rfl) rfl) rfl), hS, Ext.refl _ _, huo1_2_6, huo1_5_6, (rfl), (by unfold sz; rw [Int.natAbs_natCast]; exact hs_a0), (by unfold sz; rw [Int.natAbs_natCast]; exact hs_b0), rfl⟩
 clear hF fa; intro n0_ fa w' hI
 clear hS
 obtain ⟨mm, nn, Ax, cx, Ay, cy, hF, hS, E18, hx, hy, hg, hs_mm, hs_nn, rfl⟩ := hI
 rename World => w17
 have hs_m0 := hs_mm; have hs_n0 := hs_nn; unfold sz at hs_m0 hs_n0
 have hzn := lim_len_zero (n := nn)
 have han : ((nn : Nat) : Int).natAbs = nn := Int.natAbs_natCast nn; have ham : ((mm : Nat) : Int).natAbs = mm := Int.natAbs_natCast mm
 rw [← han] at hzn
 have hs_m2 : (lim mm).length ≤ 1000000000 := by rw [ham] at hs_m0; exact hs_m0
 refine c_seq ?_
 refine c_seq ?_
 refine c_reg ?_
 refine st_val hF rfl rfl rfl (ex_field_addr TfU.off24_1 (hF.ev rfl)) ?_
 clear hF fa; intro fa hF
 refine st_val hF rfl rfl rfl (ex_load1b TfU.one22 (hF.ev rfl) (hS.get 0 rfl) rfl) ?_
 clear hF fa; intro fa hF
 refine st_val hF rfl rfl rfl (ex_len TfU.sls22 (hF.ev rfl)) ?_
 clear hF fa; intro fa hF
 refine st_val hF rfl rfl rfl (ex_gtr (hF.ev rfl) (hF.ev rfl)) ?_
 clear hF fa; intro fa hF
 refine c_nil_then ?_
 refine c_cond hF rfl (fun hc19 => ?_) (fun hc19 => ?_)
 ·
  have hc19p : (((lim ((nn : Nat) : Int).natAbs).length : Nat) : Int) > 0 := by first | simpa using hc19 | exact bang_t hc19 | exact bang_f hc19
  refine c_skip ?_
  refine x_tn ?_
  refine c_block ?_
  refine c_seq ?_
  refine c_reg ?_
  refine st_val hF rfl rfl rfl (ex_loadb TfU.row24 (hF.ev rfl) (hS.get 1 rfl) rfl) ?_
  clear hF fa; intro fa hF
  have hC := integer_word_ok (w := w17) (X := (go1_7_1 :: (go1_6_1 :: (g9 :: (g5 :: (g1 :: X)))))) (a := ((mm : Nat) : Int)) (hS.bnd hX) (IntV.of_ (n := (lim ((mm : Nat) : Int).natAbs).length) (b := decide (((mm : Nat) : Int) < 0)) (x := ((mm : Nat) : Int)) (hx) (rfl) (rfl) (rfl)) (by omega)
  refine st rfl (op_call hF rfl TfU.body49 (args1 (hF.ev rfl)) hC ?_)
  clear hC
  rintro _ w20 ⟨⟨_, _, rfl, rfl, rfl⟩, hb21⟩
  refine gen_ ?_; clear hF fa; intro fa hF
  replace hS := hS.call hb21; have E22 := Ext.call (go1_7_1 :: (go1_6_1 :: (g9 :: (g5 :: (g1 :: X))))) hb21
  refine st_val hF rfl rfl rfl (ex_move (hF.ev rfl)) ?_
  clear hF fa; intro fa hF
  refine st_val hF rfl rfl rfl (ex_extract (hF.ev rfl) rfl) ?_
  clear hF fa; intro fa hF
  refine st_val hF rfl rfl rfl (ex_extract (hF.ev rfl) rfl) ?_
  clear hF fa; intro fa hF
  refine st_val hF rfl rfl rfl (ex_assign (hF.ev rfl)) ?_
  clear hF fa; intro fa hF
  refine st_val hF rfl rfl rfl (ex_assign (hF.ev rfl)) ?_
  clear hF fa; intro fa hF
  refine c_nil_then ?_
  refine c_seq ?_
  refine c_reg ?_
  refine st_val hF rfl rfl rfl (ex_loadb TfU.row24 (hF.ev rfl) (hS.get 0 rfl) rfl) ?_
  clear hF fa; intro fa hF
  have hC := integer_word_ok (w := w20) (X := (go1_7_1 :: (go1_6_1 :: (g9 :: (g5 :: (g1 :: X)))))) (a := ((nn : Nat) : Int)) (hS.bnd hX) (IntV.of_ (n := (lim ((nn : Nat) : Int).natAbs).length) (b := decide (((nn : Nat) : Int) < 0)) (x := ((nn : Nat) : Int)) ((hy.ext E22)) (rfl) (rfl) (rfl)) (by omega)
  refine st rfl (op_call hF rfl TfU.body49 (args1 (hF.ev rfl)) hC ?_)
  clear hC
  rintro _ w23 ⟨⟨_, _, rfl, rfl, rfl⟩, hb24⟩
  refine gen_ ?_; clear hF fa; intro fa hF
  replace hS := hS.call hb24; have E25 := Ext.call (go1_7_1 :: (go1_6_1 :: (g9 :: (g5 :: (g1 :: X))))) hb24
  refine st_val hF rfl rfl rfl (ex_move (hF.ev rfl)) ?_
  clear hF fa; intro fa hF
  refine st_val hF rfl rfl rfl (ex_extract (hF.ev rfl) rfl) ?_
  clear hF fa; intro fa hF
  refine st_val hF rfl rfl rfl (ex_extract (hF.ev rfl) rfl) ?_
  clear hF fa; intro fa hF
  refine st_val hF rfl rfl rfl (ex_assign (hF.ev rfl)) ?_
  clear hF fa; intro fa hF
  refine st_val hF rfl rfl rfl (ex_assign (hF.ev rfl)) ?_
  clear hF fa; intro fa hF
  replace hF : Frm 61 fa [(0, (.agg (ic (A_a) (c_a) (a)))), (1, (.agg (ic (A_b) (c_b) (b)))), (2, (.pointer (some ⟨g1, 0, none⟩))), (3, (.pointer (some ⟨g5, 0, none⟩))), (4, (.pointer (some ⟨g9, 0, none⟩))), (5, (.pointer (some ⟨go1_6_1, 0, none⟩))), (6, (.pointer (some ⟨go1_7_1, 0, none⟩))), (22, (.bool (decide ((((lim ((nn : Nat) : Int).natAbs).length : Nat) : Int) > 0)))), (7, (.int .u64 ((((if sz (((mm : Nat) : Int)) ≤ 2 then (((mm : Nat) : Int)).natAbs else 0) : Nat) : Int)))), (8, (.bool (decide (sz (((mm : Nat) : Int)) ≤ 2)))), (9, (.int .u64 ((((if sz (((nn : Nat) : Int)) ≤ 2 then (((nn : Nat) : Int)).natAbs else 0) : Nat) : Int)))), (10, (.bool (decide (sz (((nn : Nat) : Int)) ≤ 2))))] := (hF.take (hF.take (hF.take (hF.take (hF.take (hF.take (hF.take (hF.take (hF.take (hF.take (hF.take (hF.take hF.nil rfl) rfl) rfl) rfl) rfl) rfl) rfl) rfl) rfl) rfl) rfl) rfl)
  refine c_nil_then ?_
  refine c_seq ?_
  refine c_seq ?_
  refine c_reg ?_
  refine st_val hF rfl rfl rfl (ex_move (hF.ev rfl)) ?_
  clear hF fa; intro fa hF
  refine st_val hF rfl rfl rfl (ex_move (hF.ev rfl)) ?_
  clear hF fa; intro fa hF
  rcases Bool.eq_false_or_eq_true (decide (sz (((mm : Nat) : Int)) ≤ 2)) with hg26 | hg26
  ·
   replace hF := hF.cons (t := 34) (v := .bool true) ((hF.get 34 _ rfl).trans (congrArg Value.bool hg26))
   have hg26p : sz (((mm : Nat) : Int)) ≤ 2 := by simpa using hg26
   refine stg_val hF rfl rfl rfl rfl (ex_move (hF.ev rfl)) ?_
   clear hF fa; intro fa hF
   refine st_val hF rfl rfl rfl (ex_pick (hF.ev rfl) (fun _ => hF.ev rfl) (v := undef) (fun h => by cases h) rfl) ?_
   clear hF fa; intro fa hF
   refine c_nil_then ?_
   refine c_cond hF rfl (fun hc27 => ?_) (fun hc27 => ?_)
   ·
    have hc27p : sz (((nn : Nat) : Int)) ≤ 2 := by first | simpa using hc27 | exact bang_t hc27 | exact bang_f hc27
    have hu7 : (if sz ((mm : Nat) : Int) ≤ 2 then ((mm : Nat) : Int).natAbs else 0) = mm := by rw [if_pos (by omega)]; exact ham
    have hu9 : (if sz ((nn : Nat) : Int) ≤ 2 then ((nn : Nat) : Int).natAbs else 0) = nn := by rw [if_pos (by omega)]; exact han
    have hm18 := sz_lt18 (n := mm) (by omega); have hn18 := sz_lt18 (n := nn) (by omega)
    refine c_seq ?_
    refine c_block ?_
    refine c_loop (fun mu fa w' => ∃ u : Nat, ∃ v : Nat, Frm 61 fa [(0, (.agg (ic (A_a) (c_a) (a)))), (1, (.agg (ic (A_b) (c_b) (b)))), (2, (.pointer (some ⟨g1, 0, none⟩))), (3, (.pointer (some ⟨g5, 0, none⟩))), (4, (.pointer (some ⟨g9, 0, none⟩))), (5, (.pointer (some ⟨go1_6_1, 0, none⟩))), (6, (.pointer (some ⟨go1_7_1, 0, none⟩))), (22, (.bool (decide ((((lim ((nn : Nat) : Int).natAbs).length : Nat) : Int) > 0)))), (8, (.bool (decide (sz (((mm : Nat) : Int)) ≤ 2)))), (10, (.bool (decide (sz (((nn : Nat) : Int)) ≤ 2)))), (36, (.bool (decide (sz (((nn : Nat) : Int)) ≤ 2)))), (7, (.int .u64 (((u : Nat) : Int)))), (9, (.int .u64 (((v : Nat) : Int))))] ∧ St w w' [(go1_7_1, 24, (ic (Ay) (cy) (((nn : Nat) : Int)))), (go1_6_1, 24, (ic (Ax) (cx) (((mm : Nat) : Int)))), (g9, 24, #[(.bool (false)), (.slice (none) (0) (0))]), (g5, 24, (ic (A_b) (c_b) (b))), (g1, 24, (ic (A_a) (c_a) (a)))] ∧ Ext w23 (go1_7_1 :: (go1_6_1 :: (g9 :: (g5 :: (g1 :: X))))) w' (go1_7_1 :: (go1_6_1 :: (g9 :: (g5 :: (g1 :: X))))) ∧ (u < 1000000000000000000) ∧ (v < 1000000000000000000) ∧ (Nat.gcd u v = Nat.gcd a.natAbs b.natAbs) ∧ v = mu) ?_ ?_
    ·
     exact ⟨_, mm, nn, (hF.take (hF.take (hF.take (hF.take (hF.take (hF.take (hF.take (hF.take (hF.take (hF.take (hF.take (hF.take (hF.take hF.nil (lk_int rfl (by omega))) (lk_int rfl (by omega))) rfl) rfl) rfl) rfl) rfl) rfl) rfl) rfl) rfl) rfl) rfl), hS, Ext.refl _ _, (by omega), (by omega), (by omega), rfl⟩
    clear hF fa; intro n1_ fa w' hI
    clear hS
    obtain ⟨u, v, hF, hS, E29, hu1, hv1, huv, rfl⟩ := hI
    rename World => w28
    refine c_seq ?_
    refine c_seq ?_
    refine c_reg ?_
    refine st_val hF rfl rfl rfl (ex_move (hF.ev rfl)) ?_
    clear hF fa; intro fa hF
    refine st_val hF rfl rfl rfl (ex_gtr (hF.ev rfl) (hF.ev rfl)) ?_
    clear hF fa; intro fa hF
    refine c_nil_then ?_
    refine c_cond hF rfl (fun hc30 => ?_) (fun hc30 => ?_)
    ·
     have hc30p : ((v : Nat) : Int) > 0 := by first | simpa using hc30 | exact bang_t hc30 | exact bang_f hc30
     refine c_skip ?_
     refine x_tn ?_
     refine c_block ?_
     refine drawn2 (N := 61) (L0 := [(0, (.agg (ic (A_a) (c_a) (a)))), (1, (.agg (ic (A_b) (c_b) (b)))), (2, (.pointer (some ⟨g1, 0, none⟩))), (3, (.pointer (some ⟨g5, 0, none⟩))), (4, (.pointer (some ⟨g9, 0, none⟩))), (5, (.pointer (some ⟨go1_6_1, 0, none⟩))), (6, (.pointer (some ⟨go1_7_1, 0, none⟩))), (22, (.bool (decide ((((lim ((nn : Nat) : Int).natAbs).length : Nat) : Int) > 0)))), (8, (.bool (decide (sz (((mm : Nat) : Int)) ≤ 2)))), (10, (.bool (decide (sz (((nn : Nat) : Int)) ≤ 2)))), (36, (.bool (decide (sz (((nn : Nat) : Int)) ≤ 2)))), (38, (.bool (decide (((v : Nat) : Int) > 0))))]) [some (.int .u64 (((v : Nat) : Int))), some (.int .u64 (((u : Nat) : Int))), some (.int .u64 (((v : Nat) : Int))), some (.int .u64 (((u % v : Nat) : Int))), some (.int .u64 (((v : Nat) : Int))), some (.int .u64 (((u % v : Nat) : Int)))] [4, 5] [[], [4], [4, 5]] [[0], [0], [0, 1], [0, 1], [0], [1]] 2 [
           fun fa w' => Frm 61 fa [(7, (.int .u64 (((u : Nat) : Int)))), (9, (.int .u64 (((v : Nat) : Int))))] ∧ St w w' [(go1_7_1, 24, (ic (Ay) (cy) (((nn : Nat) : Int)))), (go1_6_1, 24, (ic (Ax) (cx) (((mm : Nat) : Int)))), (g9, 24, #[(.bool (false)), (.slice (none) (0) (0))]), (g5, 24, (ic (A_b) (c_b) (b))), (g1, 24, (ic (A_a) (c_a) (a)))] ∧ Ext w28 (go1_7_1 :: (go1_6_1 :: (g9 :: (g5 :: (g1 :: X))))) w' (go1_7_1 :: (go1_6_1 :: (g9 :: (g5 :: (g1 :: X)))))
           , fun fa w' => Frm 61 fa [(7, (.int .u64 (((v : Nat) : Int)))), (9, (.int .u64 (((v : Nat) : Int))))] ∧ St w w' [(go1_7_1, 24, (ic (Ay) (cy) (((nn : Nat) : Int)))), (go1_6_1, 24, (ic (Ax) (cx) (((mm : Nat) : Int)))), (g9, 24, #[(.bool (false)), (.slice (none) (0) (0))]), (g5, 24, (ic (A_b) (c_b) (b))), (g1, 24, (ic (A_a) (c_a) (a)))] ∧ Ext w28 (go1_7_1 :: (go1_6_1 :: (g9 :: (g5 :: (g1 :: X))))) w' (go1_7_1 :: (go1_6_1 :: (g9 :: (g5 :: (g1 :: X)))))
           , fun fa w' => Frm 61 fa [(7, (.int .u64 (((v : Nat) : Int)))), (9, (.int .u64 (((u % v : Nat) : Int))))] ∧ St w w' [(go1_7_1, 24, (ic (Ay) (cy) (((nn : Nat) : Int)))), (go1_6_1, 24, (ic (Ax) (cx) (((mm : Nat) : Int)))), (g9, 24, #[(.bool (false)), (.slice (none) (0) (0))]), (g5, 24, (ic (A_b) (c_b) (b))), (g1, 24, (ic (A_a) (c_a) (a)))] ∧ Ext w28 (go1_7_1 :: (go1_6_1 :: (g9 :: (g5 :: (g1 :: X))))) w' (go1_7_1 :: (go1_6_1 :: (g9 :: (g5 :: (g1 :: X)))))
         ] TfU.mixed rfl rfl rfl rfl rfl rfl (hF.take (hF.take (hF.take (hF.take (hF.take (hF.take (hF.take (hF.take (hF.take (hF.take (hF.take (hF.take hF.nil rfl) rfl) rfl) rfl) rfl) rfl) rfl) rfl) rfl) rfl) rfl) rfl) rfl ⟨(hF.take (hF.take hF.nil rfl) rfl), hS.drew, Ext.drew _ _⟩ ?_ ?_ ?_
     all_goals clear hF fa
     ·
      refine ⟨?_, ?_, ?_, trivial⟩
      ·
       rintro fa w' i o d v ho hd hna ⟨hA, hR⟩; exact ⟨hA.put_other v (freeOf_at (acts := [4, 5]) rfl ho hd hna), hR⟩
      ·
       rintro fa w' i o d v ho hd hna ⟨hA, hR⟩; exact ⟨hA.put_other v (freeOf_at (acts := [4, 5]) rfl ho hd hna), hR⟩
      ·
       rintro fa w' i o d v ho hd hna ⟨hA, hR⟩; exact ⟨hA.put_other v (freeOf_at (acts := [4, 5]) rfl ho hd hna), hR⟩
     ·
      refine ⟨?_, ?_, ?_, ?_, ?_, ?_, trivial⟩
      ·
       refine .inr (.inl ⟨rfl, _, _, rfl, rfl, ?_, trivial⟩)
       ·
        intro fa w' hΦ hF hB K hK
        obtain ⟨hA, hS, E_w'⟩ := hΦ
        replace hF := hF.cons (hA.get 9 _ rfl)
        exact fl_val rfl rfl rfl (ex_move (hF.ev rfl)) hK
      ·
       refine .inr (.inl ⟨rfl, _, _, rfl, rfl, ?_, trivial⟩)
       ·
        intro fa w' hΦ hF hB K hK
        obtain ⟨hA, hS, E_w'⟩ := hΦ
        replace hF := hF.cons (hA.get 7 _ rfl)
        exact fl_val rfl rfl rfl (ex_move (hF.ev rfl)) hK
      ·
       refine .inr (.inl ⟨rfl, _, _, rfl, rfl, ?_, ?_, trivial⟩)
       ·
        intro fa w' hΦ hF hB K hK
        obtain ⟨hA, hS, E_w'⟩ := hΦ
        replace hF := hF.cons (hA.get 9 _ rfl)
        exact fl_val rfl rfl rfl (ex_move (hF.ev rfl)) hK
       ·
        intro fa w' hΦ hF hB K hK
        obtain ⟨hA, hS, E_w'⟩ := hΦ
        replace hF := hF.cons (hA.get 9 _ rfl)
        exact fl_val rfl rfl rfl (ex_move (hF.ev rfl)) hK
      ·
       refine .inl ⟨rfl, _, _, rfl, rfl, fun s fa w' hΦ hF hB K hK => ?_⟩
       replace hF := hF.cons (hB.val 1 _ 40 _ rfl rfl rfl rfl)
       replace hF := hF.cons (hB.val 2 _ 41 _ rfl rfl rfl rfl)
       exact fl_val rfl rfl rfl (ex_rem (hF.ev rfl) (hF.ev rfl) (by omega) (r_any (x := u) (y := v) (by omega) (by omega))) hK
      ·
       refine .inr (.inr ⟨rfl, ?_, trivial⟩)
       ·
        intro fa w' hΦ hF hB
        obtain ⟨hA, hS, E_w'⟩ := hΦ
        replace hF := hF.cons (hB.val 0 _ 39 _ rfl rfl rfl rfl)
        refine wop rfl rfl ?_
        refine op_val hF rfl rfl (ex_assign (hF.ev rfl)) ?_; clear hF; intro hF
        replace hA := hA.put (d := 7) (by decide) (.int .u64 (((v : Nat) : Int)))
        have hA1 := hA
        exact ⟨1, rfl, ⟨(hA1.take (hA1.take hA1.nil rfl) rfl), hS, E_w'⟩, _, rfl, fun u hu => by cases hu <;> rfl⟩
      ·
       refine .inr (.inr ⟨rfl, ?_, trivial⟩)
       ·
        intro fa w' hΦ hF hB
        obtain ⟨hA, hS, E_w'⟩ := hΦ
        replace hF := hF.cons (hB.val 3 _ 42 _ rfl rfl rfl rfl)
        refine wop rfl rfl ?_
        refine op_val hF rfl rfl (ex_assign (hF.ev rfl)) ?_; clear hF; intro hF
        replace hA := hA.put (d := 9) (by decide) (.int .u64 (((u % v : Nat) : Int)))
        have hA1 := hA
        exact ⟨2, rfl, ⟨(hA1.take (hA1.take hA1.nil rfl) rfl), hS, E_w'⟩, _, rfl, fun u hu => by cases hu <;> rfl⟩
     intro fa w31 hΦ hF hC
     obtain ⟨hA, hS, E_w31⟩ := hΦ
     replace hF := hF.cons (hC 4 _ 7 _ rfl rfl rfl)
     replace hF := hF.cons (hC 5 _ 9 _ rfl rfl rfl)
     replace hF := hF.cons (hA.get 7 _ rfl)
     replace hF := hF.cons (hA.get 9 _ rfl)
     clear hA hC
     refine x_bn ?_
     refine x_tn ?_
     exact ⟨_, (Nat.mod_lt _ (by omega)), v, (u % v), (hF.take (hF.take (hF.take (hF.take (hF.take (hF.take (hF.take (hF.take (hF.take (hF.take (hF.take (hF.take (hF.take hF.nil (lk_int rfl (by omega))) (lk_int rfl (by omega))) rfl) rfl) rfl) rfl) rfl) rfl) rfl) rfl) rfl) rfl) rfl), hS, (E29.trans E_w31), (hv1), (Nat.lt_of_le_of_lt (Nat.mod_le _ _) hu1), (gcd_turn huv rfl), rfl⟩
    have hc30p : ¬ (((v : Nat) : Int) > 0) := by first | simpa using hc30 | exact bang_t hc30 | exact bang_f hc30
    refine c_exit ?_
    refine x_te ?_
    refine x_te ?_
    refine x_bh ?_
    refine x_tn ?_
    refine c_seq ?_
    refine c_reg ?_
    refine st_val hF rfl rfl rfl (ex_move (hF.ev rfl)) ?_
    clear hF fa; intro fa hF
    have hC := integer_split_ok (w := w28) (X := (go1_7_1 :: (go1_6_1 :: (g9 :: (g5 :: (g1 :: X)))))) (hS.bnd hX) (u) (by omega)
    refine st rfl (op_call hF rfl TfU.body50 (args1 (hF.ev (ev_int (b := ((u : Nat) : Int)) rfl (by first | rfl | omega)))) hC ?_)
    clear hC
    rintro _ w32 ⟨⟨A35, _, c36, rfl, rfl, hu37⟩, hb33⟩
    refine gen_ ?_; clear hF fa; intro fa hF
    replace hS := hS.call hb33; have E34 := Ext.call (go1_7_1 :: (go1_6_1 :: (g9 :: (g5 :: (g1 :: X))))) hb33
    have hC := integer_signed_ok (w := w32) (X := (go1_7_1 :: (go1_6_1 :: (g9 :: (g5 :: (g1 :: X)))))) (l := ([u % 1000000000, u / 1000000000 % 1000000000, u / 1000000000 / 1000000000])) (hS.bnd hX) false ⟨_, (([u % 1000000000, u / 1000000000 % 1000000000, u / 1000000000 / 1000000000]).length), _, rfl, (rfl), hu37⟩ (three_lb (by omega))
    refine st rfl (op_call hF rfl TfU.body41 (args2 (hF.ev rfl) (hF.ev rfl)) hC ?_)
    clear hC
    rintro _ w38 ⟨⟨_, rfl, A41, c42, rfl, hu43⟩, hb39⟩
    refine gen_ ?_; clear hF fa; intro fa hF
    replace hS := hS.call hb39; have E40 := Ext.call (go1_7_1 :: (go1_6_1 :: (g9 :: (g5 :: (g1 :: X))))) hb39
    refine st rfl (op_store (X := (go1_7_1 :: (go1_6_1 :: (g9 :: (g5 :: (g1 :: X)))))) hF hS 2 rfl (by simp) rfl rfl rfl TfU.size24 rfl (Nat.le_of_ble_eq_true rfl) ?_)
    intro w44 hS E45
    replace hS : St w w44 [(go1_7_1, 24, (ic (Ay) (cy) (((nn : Nat) : Int)))), (go1_6_1, 24, (ic (Ax) (cx) (((mm : Nat) : Int)))), (g9, 24, (ic (A41) (c42) ((sgnv false (val (([u % 1000000000, u / 1000000000 % 1000000000, u / 1000000000 / 1000000000]))))))), (g5, 24, (ic (A_b) (c_b) (b))), (g1, 24, (ic (A_a) (c_a) (a)))] := hS
    refine c_nil_then ?_
    refine c_ret ?_
    refine x_tr ?_
    refine x_br ?_
    refine x_tr ?_
    refine x_br ?_
    refine x_tr ?_
    refine end1 hF rfl (res_cell hF rfl TfU.row24 (hS.get 2 rfl) rfl) ?_
    exact ⟨_, rfl, (IntV.fin (x := sgnv false (val (([u % 1000000000, u / 1000000000 % 1000000000, u / 1000000000 / 1000000000])))) ⟨_, rfl, _, _, rfl, (hu43.ext E45)⟩ (by show ((val _ : Nat) : Int) = _; rw [val_three]; have h0 := huv; rw [show v = 0 by omega, Nat.gcd_zero_right] at h0; rw [h0]) (fun x hx => by simp [hx])), hS.below⟩
   have hc27p : ¬ (sz (((nn : Nat) : Int)) ≤ 2) := by first | simpa using hc27 | exact bang_t hc27 | exact bang_f hc27
   refine c_skip ?_
   refine x_tn ?_
   refine c_seq ?_
   refine c_reg ?_
   refine st_val hF rfl rfl rfl (ex_field_addr TfU.off24_1 (hF.ev rfl)) ?_
   clear hF fa; intro fa hF
   refine st_val hF rfl rfl rfl (ex_load1b TfU.one22 (hF.ev rfl) (hS.get 1 rfl) rfl) ?_
   clear hF fa; intro fa hF
   refine st_val hF rfl rfl rfl (ex_field_addr TfU.off24_1 (hF.ev rfl)) ?_
   clear hF fa; intro fa hF
   refine st_val hF rfl rfl rfl (ex_load1b TfU.one22 (hF.ev rfl) (hS.get 0 rfl) rfl) ?_
   clear hF fa; intro fa hF
   have hC := integer_divide_ok (w := w23) (X := (go1_7_1 :: (go1_6_1 :: (g9 :: (g5 :: (g1 :: X)))))) (a := (lim ((mm : Nat) : Int).natAbs)) (b := (lim ((nn : Nat) : Int).natAbs)) (hS.bnd hX) ⟨_, ((lim ((mm : Nat) : Int).natAbs).length), _, rfl, (rfl), (hx.ext (E22.trans E25))⟩ ⟨_, ((lim ((nn : Nat) : Int).natAbs).length), _, rfl, (rfl), (hy.ext (E22.trans E25))⟩ (by omega) (by omega) (lb_lim _) (lb_lim _) (by rw [val_lim]; omega)
   refine st rfl (op_call hF rfl TfU.body40 (args2 (hF.ev rfl) (hF.ev rfl)) hC ?_)
   clear hC
   rintro _ w46 ⟨⟨qs_49, rs_50, _, _, rfl, ⟨A51, _, c52, rfl, rfl, hu53⟩, ⟨A54, _, c55, rfl, rfl, hu56⟩, hp57, hp58, hp59, hp60, hp61, hp62⟩, hb47⟩
   refine gen_ ?_; clear hF fa; intro fa hF
   replace hS := hS.call hb47; have E48 := Ext.call (go1_7_1 :: (go1_6_1 :: (g9 :: (g5 :: (g1 :: X))))) hb47
   have hlr := hp58; have hdv := hp59; have hdl := hp60
   rw [val_lim, val_lim, ham, han] at hdv; rw [val_lim, han] at hdl
   refine st_val hF rfl rfl rfl (ex_move (hF.ev rfl)) ?_
   clear hF fa; intro fa hF
   refine st_val hF rfl rfl rfl (ex_extract (hF.ev rfl) rfl) ?_
   clear hF fa; intro fa hF
   refine st_val hF rfl rfl rfl (ex_extract (hF.ev rfl) rfl) ?_
   clear hF fa; intro fa hF
   refine st_val hF rfl rfl rfl (ex_assign (hF.ev rfl)) ?_
   clear hF fa; intro fa hF
   refine st_val hF rfl rfl rfl (ex_assign (hF.ev rfl)) ?_
   clear hF fa; intro fa hF
   replace hF : Frm 61 fa [(0, (.agg (ic (A_a) (c_a) (a)))), (1, (.agg (ic (A_b) (c_b) (b)))), (2, (.pointer (some ⟨g1, 0, none⟩))), (3, (.pointer (some ⟨g5, 0, none⟩))), (4, (.pointer (some ⟨g9, 0, none⟩))), (5, (.pointer (some ⟨go1_6_1, 0, none⟩))), (6, (.pointer (some ⟨go1_7_1, 0, none⟩))), (22, (.bool (decide ((((lim ((nn : Nat) : Int).natAbs).length : Nat) : Int) > 0)))), (7, (.int .u64 ((((if sz (((mm : Nat) : Int)) ≤ 2 then (((mm : Nat) : Int)).natAbs else 0) : Nat) : Int)))), (8, (.bool (decide (sz (((mm : Nat) : Int)) ≤ 2)))), (9, (.int .u64 ((((if sz (((nn : Nat) : Int)) ≤ 2 then (((nn : Nat) : Int)).natAbs else 0) : Nat) : Int)))), (10, (.bool (decide (sz (((nn : Nat) : Int)) ≤ 2)))), (36, (.bool (decide (sz (((nn : Nat) : Int)) ≤ 2)))), (12, (.slice (A54) (rs_50.length) (c55)))] := (hF.take (hF.take (hF.take (hF.take (hF.take (hF.take (hF.take (hF.take (hF.take (hF.take (hF.take (hF.take (hF.take (hF.take hF.nil rfl) rfl) rfl) rfl) rfl) rfl) rfl) rfl) rfl) rfl) rfl) rfl) rfl) rfl)
   refine c_nil_then ?_
   refine drawn2 (N := 61) (L0 := [(0, (.agg (ic (A_a) (c_a) (a)))), (1, (.agg (ic (A_b) (c_b) (b)))), (2, (.pointer (some ⟨g1, 0, none⟩))), (3, (.pointer (some ⟨g5, 0, none⟩))), (4, (.pointer (some ⟨g9, 0, none⟩))), (5, (.pointer (some ⟨go1_6_1, 0, none⟩))), (6, (.pointer (some ⟨go1_7_1, 0, none⟩))), (22, (.bool (decide ((((lim ((nn : Nat) : Int).natAbs).length : Nat) : Int) > 0)))), (7, (.int .u64 ((((if sz (((mm : Nat) : Int)) ≤ 2 then (((mm : Nat) : Int)).natAbs else 0) : Nat) : Int)))), (8, (.bool (decide (sz (((mm : Nat) : Int)) ≤ 2)))), (9, (.int .u64 ((((if sz (((nn : Nat) : Int)) ≤ 2 then (((nn : Nat) : Int)).natAbs else 0) : Nat) : Int)))), (10, (.bool (decide (sz (((nn : Nat) : Int)) ≤ 2)))), (36, (.bool (decide (sz (((nn : Nat) : Int)) ≤ 2)))), (12, (.slice (A54) (rs_50.length) (c55)))]) [some (.agg (ic (Ay) (cy) (((nn : Nat) : Int)))), some (.slice (A54) (rs_50.length) (c55)), none, none, none] [2, 3, 4] [[], [2], [2, 3], [2, 3, 4]] [[0, 1], [0], [0], [1], [2]] 3 [
         fun fa w' => Frm 61 fa [] ∧ St w w' [(go1_7_1, 24, (ic (Ay) (cy) (((nn : Nat) : Int)))), (go1_6_1, 24, (ic (Ax) (cx) (((mm : Nat) : Int)))), (g9, 24, #[(.bool (false)), (.slice (none) (0) (0))]), (g5, 24, (ic (A_b) (c_b) (b))), (g1, 24, (ic (A_a) (c_a) (a)))] ∧ Ext w46 (go1_7_1 :: (go1_6_1 :: (g9 :: (g5 :: (g1 :: X))))) w' (go1_7_1 :: (go1_6_1 :: (g9 :: (g5 :: (g1 :: X)))))
         , fun fa w' => ∃ Ao10_2_4 : Option Addr, ∃ co10_2_5 : Nat, Frm 61 fa [(56, (.agg (ic (Ao10_2_4) (co10_2_5) (((val rs_50 : Nat) : Int)))))] ∧ St w w' [(go1_7_1, 24, (ic (Ay) (cy) (((nn : Nat) : Int)))), (go1_6_1, 24, (ic (Ax) (cx) (((mm : Nat) : Int)))), (g9, 24, #[(.bool (false)), (.slice (none) (0) (0))]), (g5, 24, (ic (A_b) (c_b) (b))), (g1, 24, (ic (A_a) (c_a) (a)))] ∧ Ext w46 (go1_7_1 :: (go1_6_1 :: (g9 :: (g5 :: (g1 :: X))))) w' (go1_7_1 :: (go1_6_1 :: (g9 :: (g5 :: (g1 :: X))))) ∧ UC w' (go1_7_1 :: (go1_6_1 :: (g9 :: (g5 :: (g1 :: X))))) Ao10_2_4 co10_2_5 (lim (((val rs_50 : Nat) : Int)).natAbs)
         , fun fa w' => ∃ Ao10_2_4 : Option Addr, ∃ co10_2_5 : Nat, Frm 61 fa [(56, (.agg (ic (Ao10_2_4) (co10_2_5) (((val rs_50 : Nat) : Int)))))] ∧ St w w' [(go1_7_1, 24, (ic (Ay) (cy) (((nn : Nat) : Int)))), (go1_6_1, 24, (ic (Ay) (cy) (((nn : Nat) : Int)))), (g9, 24, #[(.bool (false)), (.slice (none) (0) (0))]), (g5, 24, (ic (A_b) (c_b) (b))), (g1, 24, (ic (A_a) (c_a) (a)))] ∧ Ext w46 (go1_7_1 :: (go1_6_1 :: (g9 :: (g5 :: (g1 :: X))))) w' (go1_7_1 :: (go1_6_1 :: (g9 :: (g5 :: (g1 :: X))))) ∧ UC w' (go1_7_1 :: (go1_6_1 :: (g9 :: (g5 :: (g1 :: X))))) Ao10_2_4 co10_2_5 (lim (((val rs_50 : Nat) : Int)).natAbs)
         , fun fa w' => ∃ Ao10_2_4 : Option Addr, ∃ co10_2_5 : Nat, Frm 61 fa [(56, (.agg (ic (Ao10_2_4) (co10_2_5) (((val rs_50 : Nat) : Int)))))] ∧ St w w' [(go1_7_1, 24, (ic (Ao10_2_4) (co10_2_5) (((val rs_50 : Nat) : Int)))), (go1_6_1, 24, (ic (Ay) (cy) (((nn : Nat) : Int)))), (g9, 24, #[(.bool (false)), (.slice (none) (0) (0))]), (g5, 24, (ic (A_b) (c_b) (b))), (g1, 24, (ic (A_a) (c_a) (a)))] ∧ Ext w46 (go1_7_1 :: (go1_6_1 :: (g9 :: (g5 :: (g1 :: X))))) w' (go1_7_1 :: (go1_6_1 :: (g9 :: (g5 :: (g1 :: X))))) ∧ UC w' (go1_7_1 :: (go1_6_1 :: (g9 :: (g5 :: (g1 :: X))))) Ao10_2_4 co10_2_5 (lim (((val rs_50 : Nat) : Int)).natAbs)
       ] TfU.mixed rfl rfl rfl rfl rfl rfl (hF.take (hF.take (hF.take (hF.take (hF.take (hF.take (hF.take (hF.take (hF.take (hF.take (hF.take (hF.take (hF.take (hF.take hF.nil rfl) rfl) rfl) rfl) rfl) rfl) rfl) rfl) rfl) rfl) rfl) rfl) rfl) rfl) rfl ⟨hF.nil, hS.drew, Ext.drew _ _⟩ ?_ ?_ ?_
   all_goals clear hF fa
   ·
    refine ⟨?_, ?_, ?_, ?_, trivial⟩
    ·
     rintro fa w' i o d v ho hd hna ⟨hA, hR⟩; exact ⟨hA.put_other v (freeOf_at (acts := [2, 3, 4]) rfl ho hd hna), hR⟩
    ·
     rintro fa w' i o d v ho hd hna ⟨Ao10_2_4, co10_2_5, hA, hR⟩; exact ⟨Ao10_2_4, co10_2_5, hA.put_other v (freeOf_at (acts := [2, 3, 4]) rfl ho hd hna), hR⟩
    ·
     rintro fa w' i o d v ho hd hna ⟨Ao10_2_4, co10_2_5, hA, hR⟩; exact ⟨Ao10_2_4, co10_2_5, hA.put_other v (freeOf_at (acts := [2, 3, 4]) rfl ho hd hna), hR⟩
    ·
     rintro fa w' i o d v ho hd hna ⟨Ao10_2_4, co10_2_5, hA, hR⟩; exact ⟨Ao10_2_4, co10_2_5, hA.put_other v (freeOf_at (acts := [2, 3, 4]) rfl ho hd hna), hR⟩
   ·
    refine ⟨?_, ?_, ?_, ?_, ?_, trivial⟩
    ·
     refine .inr (.inl ⟨rfl, _, _, rfl, rfl, ?_, ?_, trivial⟩)
     ·
      intro fa w' hΦ hF hB K hK
      obtain ⟨hA, hS, E_w'⟩ := hΦ
      exact fl_val rfl rfl rfl (ex_loadb TfU.row24 (hF.ev rfl) (hS.get 0 rfl) rfl) hK
     ·
      intro fa w' hΦ hF hB K hK
      obtain ⟨Ao10_2_4, co10_2_5, hA, hS, E_w', huo10_2_6⟩ := hΦ
      exact fl_val rfl rfl rfl (ex_loadb TfU.row24 (hF.ev rfl) (hS.get 0 rfl) rfl) hK
    ·
     refine .inl ⟨rfl, _, _, rfl, rfl, fun s fa w' hΦ hF hB K hK => ?_⟩
     exact fl_val rfl rfl rfl (ex_move (hF.ev rfl)) hK
    ·
     refine .inr (.inr ⟨rfl, ?_, trivial⟩)
     ·
      intro fa w' hΦ hF hB
      obtain ⟨hA, hS, E_w'⟩ := hΦ
      replace hF := hF.cons (hB.val 1 _ 55 _ rfl rfl rfl rfl)
      refine wop rfl rfl ?_
      have hC := integer_signed_ok (w := w') (X := (go1_7_1 :: (go1_6_1 :: (g9 :: (g5 :: (g1 :: X)))))) (l := rs_50) (hS.bnd hX) false ⟨_, (rs_50.length), _, rfl, (rfl), (hu56.ext E_w')⟩ (hlr)
      rw [show (sgnv false (val rs_50)) = ((val rs_50 : Nat) : Int) from rfl] at hC
      refine op_call hF rfl TfU.body41 (args2 (hF.ev rfl) (hF.ev rfl)) hC ?_
      clear hC
      rintro _ wo10_2_1 ⟨⟨_, rfl, Ao10_2_4, co10_2_5, rfl, huo10_2_6⟩, hbo10_2_2⟩
      clear hF; intro hF
      replace hS := hS.call hbo10_2_2; have Eo10_2_3 := Ext.call (go1_7_1 :: (go1_6_1 :: (g9 :: (g5 :: (g1 :: X))))) hbo10_2_2
      have hA1 := ((hA.put_other _ rfl).cons (hF.get 56 _ rfl))
      exact ⟨1, rfl, ⟨Ao10_2_4, co10_2_5, (hA1.take hA1.nil rfl), hS, (E_w'.trans Eo10_2_3), huo10_2_6⟩, _, rfl, fun u hu => by cases hu <;> rfl⟩
    ·
     refine .inr (.inr ⟨rfl, ?_, trivial⟩)
     ·
      intro fa w' hΦ hF hB
      obtain ⟨Ao10_2_4, co10_2_5, hA, hS, E_w', huo10_2_6⟩ := hΦ
      replace hF := hF.cons (hB.val 0 _ 54 _ rfl rfl rfl rfl)
      refine wop rfl rfl ?_
      refine op_store (X := (go1_7_1 :: (go1_6_1 :: (g9 :: (g5 :: (g1 :: X)))))) hF hS 1 rfl (by simp) rfl rfl rfl TfU.size24 rfl (Nat.le_of_ble_eq_true rfl) ?_
      intro wo10_3_1 hS Eo10_3_2
      replace hS : St w wo10_3_1 [(go1_7_1, 24, (ic (Ay) (cy) (((nn : Nat) : Int)))), (go1_6_1, 24, (ic (Ay) (cy) (((nn : Nat) : Int)))), (g9, 24, #[(.bool (false)), (.slice (none) (0) (0))]), (g5, 24, (ic (A_b) (c_b) (b))), (g1, 24, (ic (A_a) (c_a) (a)))] := hS
      exact ⟨2, rfl, ⟨Ao10_2_4, co10_2_5, hA, hS, (E_w'.trans Eo10_3_2), (huo10_2_6.ext Eo10_3_2)⟩, undef, rfl, fun u hu => by cases hu <;> rfl⟩
    ·
     refine .inr (.inr ⟨rfl, ?_, trivial⟩)
     ·
      intro fa w' hΦ hF hB
      obtain ⟨Ao10_2_4, co10_2_5, hA, hS, E_w', huo10_2_6⟩ := hΦ
      replace hF := hF.cons (hA.get 56 _ rfl)
      refine wop rfl rfl ?_
      refine op_store (X := (go1_7_1 :: (go1_6_1 :: (g9 :: (g5 :: (g1 :: X)))))) hF hS 0 rfl (by simp) rfl rfl rfl TfU.size24 rfl (Nat.le_of_ble_eq_true rfl) ?_
      intro wo10_4_1 hS Eo10_4_2
      replace hS : St w wo10_4_1 [(go1_7_1, 24, (ic (Ao10_2_4) (co10_2_5) (((val rs_50 : Nat) : Int)))), (go1_6_1, 24, (ic (Ay) (cy) (((nn : Nat) : Int)))), (g9, 24, #[(.bool (false)), (.slice (none) (0) (0))]), (g5, 24, (ic (A_b) (c_b) (b))), (g1, 24, (ic (A_a) (c_a) (a)))] := hS
      exact ⟨3, rfl, ⟨Ao10_2_4, co10_2_5, hA, hS, (E_w'.trans Eo10_4_2), (huo10_2_6.ext Eo10_4_2)⟩, undef, rfl, fun u hu => by cases hu <;> rfl⟩
   intro fa w63 hΦ hF hC
   obtain ⟨Ao10_2_4, co10_2_5, hA, hS, E_w63, huo10_2_6⟩ := hΦ
   clear hA hC
   refine x_bn ?_
   refine x_tn ?_
   exact ⟨_, (by omega), nn, (val rs_50), Ay, cy, Ao10_2_4, co10_2_5, (hF.take (hF.take (hF.take (hF.take (hF.take (hF.take (hF.take hF.nil rfl) rfl) rfl) rfl) rfl) rfl) rfl), hS, ((((E18.trans E22).trans E25).trans E48).trans E_w63), (hy.ext (((E22.trans E25).trans E48).trans E_w63)), huo10_2_6, (gcd_div hg hdv), (hs_nn), (Nat.le_trans (sz_mono (by omega)) hs_nn), rfl⟩
  replace hF := hF.cons (t := 34) (v := .bool false) ((hF.get 34 _ rfl).trans (congrArg Value.bool hg26))
  have hg26p : ¬ (sz (((mm : Nat) : Int)) ≤ 2) := by simpa using hg26
  refine st_skip hF rfl rfl rfl rfl rfl ?_
  clear hF fa; intro fa hF
  refine st_val hF rfl rfl rfl (ex_pick (hF.ev rfl) (u := undef) (fun h => by cases h) (fun _ => hF.ev rfl) rfl) ?_
  clear hF fa; intro fa hF
  refine c_nil_then ?_
  refine c_cond hF rfl (fun hc => ?_) (fun hc => ?_)
  ·
   cases hc
  refine c_skip ?_
  refine x_tn ?_
  refine c_seq ?_
  refine c_reg ?_
  refine st_val hF rfl rfl rfl (ex_field_addr TfU.off24_1 (hF.ev rfl)) ?_
  clear hF fa; intro fa hF
  refine st_val hF rfl rfl rfl (ex_load1b TfU.one22 (hF.ev rfl) (hS.get 1 rfl) rfl) ?_
  clear hF fa; intro fa hF
  refine st_val hF rfl rfl rfl (ex_field_addr TfU.off24_1 (hF.ev rfl)) ?_
  clear hF fa; intro fa hF
  refine st_val hF rfl rfl rfl (ex_load1b TfU.one22 (hF.ev rfl) (hS.get 0 rfl) rfl) ?_
  clear hF fa; intro fa hF
  have hC := integer_divide_ok (w := w23) (X := (go1_7_1 :: (go1_6_1 :: (g9 :: (g5 :: (g1 :: X)))))) (a := (lim ((mm : Nat) : Int).natAbs)) (b := (lim ((nn : Nat) : Int).natAbs)) (hS.bnd hX) ⟨_, ((lim ((mm : Nat) : Int).natAbs).length), _, rfl, (rfl), (hx.ext (E22.trans E25))⟩ ⟨_, ((lim ((nn : Nat) : Int).natAbs).length), _, rfl, (rfl), (hy.ext (E22.trans E25))⟩ (by omega) (by omega) (lb_lim _) (lb_lim _) (by rw [val_lim]; omega)
  refine st rfl (op_call hF rfl TfU.body40 (args2 (hF.ev rfl) (hF.ev rfl)) hC ?_)
  clear hC
  rintro _ w64 ⟨⟨qs_67, rs_68, _, _, rfl, ⟨A69, _, c70, rfl, rfl, hu71⟩, ⟨A72, _, c73, rfl, rfl, hu74⟩, hp75, hp76, hp77, hp78, hp79, hp80⟩, hb65⟩
  refine gen_ ?_; clear hF fa; intro fa hF
  replace hS := hS.call hb65; have E66 := Ext.call (go1_7_1 :: (go1_6_1 :: (g9 :: (g5 :: (g1 :: X))))) hb65
  have hlr := hp76; have hdv := hp77; have hdl := hp78
  rw [val_lim, val_lim, ham, han] at hdv; rw [val_lim, han] at hdl
  refine st_val hF rfl rfl rfl (ex_move (hF.ev rfl)) ?_
  clear hF fa; intro fa hF
  refine st_val hF rfl rfl rfl (ex_extract (hF.ev rfl) rfl) ?_
  clear hF fa; intro fa hF
  refine st_val hF rfl rfl rfl (ex_extract (hF.ev rfl) rfl) ?_
  clear hF fa; intro fa hF
  refine st_val hF rfl rfl rfl (ex_assign (hF.ev rfl)) ?_
  clear hF fa; intro fa hF
  refine st_val hF rfl rfl rfl (ex_assign (hF.ev rfl)) ?_
  clear hF fa; intro fa hF
  replace hF : Frm 61 fa [(0, (.agg (ic (A_a) (c_a) (a)))), (1, (.agg (ic (A_b) (c_b) (b)))), (2, (.pointer (some ⟨g1, 0, none⟩))), (3, (.pointer (some ⟨g5, 0, none⟩))), (4, (.pointer (some ⟨g9, 0, none⟩))), (5, (.pointer (some ⟨go1_6_1, 0, none⟩))), (6, (.pointer (some ⟨go1_7_1, 0, none⟩))), (22, (.bool (decide ((((lim ((nn : Nat) : Int).natAbs).length : Nat) : Int) > 0)))), (7, (.int .u64 ((((if sz (((mm : Nat) : Int)) ≤ 2 then (((mm : Nat) : Int)).natAbs else 0) : Nat) : Int)))), (8, (.bool (decide (sz (((mm : Nat) : Int)) ≤ 2)))), (9, (.int .u64 ((((if sz (((nn : Nat) : Int)) ≤ 2 then (((nn : Nat) : Int)).natAbs else 0) : Nat) : Int)))), (10, (.bool (decide (sz (((nn : Nat) : Int)) ≤ 2)))), (36, (.bool (false))), (12, (.slice (A72) (rs_68.length) (c73)))] := (hF.take (hF.take (hF.take (hF.take (hF.take (hF.take (hF.take (hF.take (hF.take (hF.take (hF.take (hF.take (hF.take (hF.take hF.nil rfl) rfl) rfl) rfl) rfl) rfl) rfl) rfl) rfl) rfl) rfl) rfl) rfl) rfl)
  refine c_nil_then ?_
  refine drawn2 (N := 61) (L0 := [(0, (.agg (ic (A_a) (c_a) (a)))), (1, (.agg (ic (A_b) (c_b) (b)))), (2, (.pointer (some ⟨g1, 0, none⟩))), (3, (.pointer (some ⟨g5, 0, none⟩))), (4, (.pointer (some ⟨g9, 0, none⟩))), (5, (.pointer (some ⟨go1_6_1, 0, none⟩))), (6, (.pointer (some ⟨go1_7_1, 0, none⟩))), (22, (.bool (decide ((((lim ((nn : Nat) : Int).natAbs).length : Nat) : Int) > 0)))), (7, (.int .u64 ((((if sz (((mm : Nat) : Int)) ≤ 2 then (((mm : Nat) : Int)).natAbs else 0) : Nat) : Int)))), (8, (.bool (decide (sz (((mm : Nat) : Int)) ≤ 2)))), (9, (.int .u64 ((((if sz (((nn : Nat) : Int)) ≤ 2 then (((nn : Nat) : Int)).natAbs else 0) : Nat) : Int)))), (10, (.bool (decide (sz (((nn : Nat) : Int)) ≤ 2)))), (36, (.bool (false))), (12, (.slice (A72) (rs_68.length) (c73)))]) [some (.agg (ic (Ay) (cy) (((nn : Nat) : Int)))), some (.slice (A72) (rs_68.length) (c73)), none, none, none] [2, 3, 4] [[], [2], [2, 3], [2, 3, 4]] [[0, 1], [0], [0], [1], [2]] 3 [
        fun fa w' => Frm 61 fa [] ∧ St w w' [(go1_7_1, 24, (ic (Ay) (cy) (((nn : Nat) : Int)))), (go1_6_1, 24, (ic (Ax) (cx) (((mm : Nat) : Int)))), (g9, 24, #[(.bool (false)), (.slice (none) (0) (0))]), (g5, 24, (ic (A_b) (c_b) (b))), (g1, 24, (ic (A_a) (c_a) (a)))] ∧ Ext w64 (go1_7_1 :: (go1_6_1 :: (g9 :: (g5 :: (g1 :: X))))) w' (go1_7_1 :: (go1_6_1 :: (g9 :: (g5 :: (g1 :: X)))))
        , fun fa w' => ∃ Ao10_2_4 : Option Addr, ∃ co10_2_5 : Nat, Frm 61 fa [(56, (.agg (ic (Ao10_2_4) (co10_2_5) (((val rs_68 : Nat) : Int)))))] ∧ St w w' [(go1_7_1, 24, (ic (Ay) (cy) (((nn : Nat) : Int)))), (go1_6_1, 24, (ic (Ax) (cx) (((mm : Nat) : Int)))), (g9, 24, #[(.bool (false)), (.slice (none) (0) (0))]), (g5, 24, (ic (A_b) (c_b) (b))), (g1, 24, (ic (A_a) (c_a) (a)))] ∧ Ext w64 (go1_7_1 :: (go1_6_1 :: (g9 :: (g5 :: (g1 :: X))))) w' (go1_7_1 :: (go1_6_1 :: (g9 :: (g5 :: (g1 :: X))))) ∧ UC w' (go1_7_1 :: (go1_6_1 :: (g9 :: (g5 :: (g1 :: X))))) Ao10_2_4 co10_2_5 (lim (((val rs_68 : Nat) : Int)).natAbs)
        , fun fa w' => ∃ Ao10_2_4 : Option Addr, ∃ co10_2_5 : Nat, Frm 61 fa [(56, (.agg (ic (Ao10_2_4) (co10_2_5) (((val rs_68 : Nat) : Int)))))] ∧ St w w' [(go1_7_1, 24, (ic (Ay) (cy) (((nn : Nat) : Int)))), (go1_6_1, 24, (ic (Ay) (cy) (((nn : Nat) : Int)))), (g9, 24, #[(.bool (false)), (.slice (none) (0) (0))]), (g5, 24, (ic (A_b) (c_b) (b))), (g1, 24, (ic (A_a) (c_a) (a)))] ∧ Ext w64 (go1_7_1 :: (go1_6_1 :: (g9 :: (g5 :: (g1 :: X))))) w' (go1_7_1 :: (go1_6_1 :: (g9 :: (g5 :: (g1 :: X))))) ∧ UC w' (go1_7_1 :: (go1_6_1 :: (g9 :: (g5 :: (g1 :: X))))) Ao10_2_4 co10_2_5 (lim (((val rs_68 : Nat) : Int)).natAbs)
        , fun fa w' => ∃ Ao10_2_4 : Option Addr, ∃ co10_2_5 : Nat, Frm 61 fa [(56, (.agg (ic (Ao10_2_4) (co10_2_5) (((val rs_68 : Nat) : Int)))))] ∧ St w w' [(go1_7_1, 24, (ic (Ao10_2_4) (co10_2_5) (((val rs_68 : Nat) : Int)))), (go1_6_1, 24, (ic (Ay) (cy) (((nn : Nat) : Int)))), (g9, 24, #[(.bool (false)), (.slice (none) (0) (0))]), (g5, 24, (ic (A_b) (c_b) (b))), (g1, 24, (ic (A_a) (c_a) (a)))] ∧ Ext w64 (go1_7_1 :: (go1_6_1 :: (g9 :: (g5 :: (g1 :: X))))) w' (go1_7_1 :: (go1_6_1 :: (g9 :: (g5 :: (g1 :: X))))) ∧ UC w' (go1_7_1 :: (go1_6_1 :: (g9 :: (g5 :: (g1 :: X))))) Ao10_2_4 co10_2_5 (lim (((val rs_68 : Nat) : Int)).natAbs)
      ] TfU.mixed rfl rfl rfl rfl rfl rfl (hF.take (hF.take (hF.take (hF.take (hF.take (hF.take (hF.take (hF.take (hF.take (hF.take (hF.take (hF.take (hF.take (hF.take hF.nil rfl) rfl) rfl) rfl) rfl) rfl) rfl) rfl) rfl) rfl) rfl) rfl) rfl) rfl) rfl ⟨hF.nil, hS.drew, Ext.drew _ _⟩ ?_ ?_ ?_
  all_goals clear hF fa
  ·
   refine ⟨?_, ?_, ?_, ?_, trivial⟩
   ·
    rintro fa w' i o d v ho hd hna ⟨hA, hR⟩; exact ⟨hA.put_other v (freeOf_at (acts := [2, 3, 4]) rfl ho hd hna), hR⟩
   ·
    rintro fa w' i o d v ho hd hna ⟨Ao10_2_4, co10_2_5, hA, hR⟩; exact ⟨Ao10_2_4, co10_2_5, hA.put_other v (freeOf_at (acts := [2, 3, 4]) rfl ho hd hna), hR⟩
   ·
    rintro fa w' i o d v ho hd hna ⟨Ao10_2_4, co10_2_5, hA, hR⟩; exact ⟨Ao10_2_4, co10_2_5, hA.put_other v (freeOf_at (acts := [2, 3, 4]) rfl ho hd hna), hR⟩
   ·
    rintro fa w' i o d v ho hd hna ⟨Ao10_2_4, co10_2_5, hA, hR⟩; exact ⟨Ao10_2_4, co10_2_5, hA.put_other v (freeOf_at (acts := [2, 3, 4]) rfl ho hd hna), hR⟩
  ·
   refine ⟨?_, ?_, ?_, ?_, ?_, trivial⟩
   ·
    refine .inr (.inl ⟨rfl, _, _, rfl, rfl, ?_, ?_, trivial⟩)
    ·
     intro fa w' hΦ hF hB K hK
     obtain ⟨hA, hS, E_w'⟩ := hΦ
     exact fl_val rfl rfl rfl (ex_loadb TfU.row24 (hF.ev rfl) (hS.get 0 rfl) rfl) hK
    ·
     intro fa w' hΦ hF hB K hK
     obtain ⟨Ao10_2_4, co10_2_5, hA, hS, E_w', huo10_2_6⟩ := hΦ
     exact fl_val rfl rfl rfl (ex_loadb TfU.row24 (hF.ev rfl) (hS.get 0 rfl) rfl) hK
   ·
    refine .inl ⟨rfl, _, _, rfl, rfl, fun s fa w' hΦ hF hB K hK => ?_⟩
    exact fl_val rfl rfl rfl (ex_move (hF.ev rfl)) hK
   ·
    refine .inr (.inr ⟨rfl, ?_, trivial⟩)
    ·
     intro fa w' hΦ hF hB
     obtain ⟨hA, hS, E_w'⟩ := hΦ
     replace hF := hF.cons (hB.val 1 _ 55 _ rfl rfl rfl rfl)
     refine wop rfl rfl ?_
     have hC := integer_signed_ok (w := w') (X := (go1_7_1 :: (go1_6_1 :: (g9 :: (g5 :: (g1 :: X)))))) (l := rs_68) (hS.bnd hX) false ⟨_, (rs_68.length), _, rfl, (rfl), (hu74.ext E_w')⟩ (hlr)
     rw [show (sgnv false (val rs_68)) = ((val rs_68 : Nat) : Int) from rfl] at hC
     refine op_call hF rfl TfU.body41 (args2 (hF.ev rfl) (hF.ev rfl)) hC ?_
     clear hC
     rintro _ wo10_2_1 ⟨⟨_, rfl, Ao10_2_4, co10_2_5, rfl, huo10_2_6⟩, hbo10_2_2⟩
     clear hF; intro hF
     replace hS := hS.call hbo10_2_2; have Eo10_2_3 := Ext.call (go1_7_1 :: (go1_6_1 :: (g9 :: (g5 :: (g1 :: X))))) hbo10_2_2
     have hA1 := ((hA.put_other _ rfl).cons (hF.get 56 _ rfl))
     exact ⟨1, rfl, ⟨Ao10_2_4, co10_2_5, (hA1.take hA1.nil rfl), hS, (E_w'.trans Eo10_2_3), huo10_2_6⟩, _, rfl, fun u hu => by cases hu <;> rfl⟩
   ·
    refine .inr (.inr ⟨rfl, ?_, trivial⟩)
    ·
     intro fa w' hΦ hF hB
     obtain ⟨Ao10_2_4, co10_2_5, hA, hS, E_w', huo10_2_6⟩ := hΦ
     replace hF := hF.cons (hB.val 0 _ 54 _ rfl rfl rfl rfl)
     refine wop rfl rfl ?_
     refine op_store (X := (go1_7_1 :: (go1_6_1 :: (g9 :: (g5 :: (g1 :: X)))))) hF hS 1 rfl (by simp) rfl rfl rfl TfU.size24 rfl (Nat.le_of_ble_eq_true rfl) ?_
     intro wo10_3_1 hS Eo10_3_2
     replace hS : St w wo10_3_1 [(go1_7_1, 24, (ic (Ay) (cy) (((nn : Nat) : Int)))), (go1_6_1, 24, (ic (Ay) (cy) (((nn : Nat) : Int)))), (g9, 24, #[(.bool (false)), (.slice (none) (0) (0))]), (g5, 24, (ic (A_b) (c_b) (b))), (g1, 24, (ic (A_a) (c_a) (a)))] := hS
     exact ⟨2, rfl, ⟨Ao10_2_4, co10_2_5, hA, hS, (E_w'.trans Eo10_3_2), (huo10_2_6.ext Eo10_3_2)⟩, undef, rfl, fun u hu => by cases hu <;> rfl⟩
   ·
    refine .inr (.inr ⟨rfl, ?_, trivial⟩)
    ·
     intro fa w' hΦ hF hB
     obtain ⟨Ao10_2_4, co10_2_5, hA, hS, E_w', huo10_2_6⟩ := hΦ
     replace hF := hF.cons (hA.get 56 _ rfl)
     refine wop rfl rfl ?_
     refine op_store (X := (go1_7_1 :: (go1_6_1 :: (g9 :: (g5 :: (g1 :: X)))))) hF hS 0 rfl (by simp) rfl rfl rfl TfU.size24 rfl (Nat.le_of_ble_eq_true rfl) ?_
     intro wo10_4_1 hS Eo10_4_2
     replace hS : St w wo10_4_1 [(go1_7_1, 24, (ic (Ao10_2_4) (co10_2_5) (((val rs_68 : Nat) : Int)))), (go1_6_1, 24, (ic (Ay) (cy) (((nn : Nat) : Int)))), (g9, 24, #[(.bool (false)), (.slice (none) (0) (0))]), (g5, 24, (ic (A_b) (c_b) (b))), (g1, 24, (ic (A_a) (c_a) (a)))] := hS
     exact ⟨3, rfl, ⟨Ao10_2_4, co10_2_5, hA, hS, (E_w'.trans Eo10_4_2), (huo10_2_6.ext Eo10_4_2)⟩, undef, rfl, fun u hu => by cases hu <;> rfl⟩
  intro fa w81 hΦ hF hC
  obtain ⟨Ao10_2_4, co10_2_5, hA, hS, E_w81, huo10_2_6⟩ := hΦ
  clear hA hC
  refine x_bn ?_
  refine x_tn ?_
  exact ⟨_, (by omega), nn, (val rs_68), Ay, cy, Ao10_2_4, co10_2_5, (hF.take (hF.take (hF.take (hF.take (hF.take (hF.take (hF.take hF.nil rfl) rfl) rfl) rfl) rfl) rfl) rfl), hS, ((((E18.trans E22).trans E25).trans E66).trans E_w81), (hy.ext (((E22.trans E25).trans E66).trans E_w81)), huo10_2_6, (gcd_div hg hdv), (hs_nn), (Nat.le_trans (sz_mono (by omega)) hs_nn), rfl⟩
 have hc19p : ¬ ((((lim ((nn : Nat) : Int).natAbs).length : Nat) : Int) > 0) := by first | simpa using hc19 | exact bang_t hc19 | exact bang_f hc19
 have hn0 : nn = 0 := by omega
 refine c_exit ?_
 refine x_te ?_
 refine x_te ?_
 refine x_bh ?_
 refine x_tn ?_
 refine c_seq ?_
 refine c_reg ?_
 refine st_val hF rfl rfl rfl (ex_field_addr TfU.off24_1 (hF.ev rfl)) ?_
 clear hF fa; intro fa hF
 refine st_val hF rfl rfl rfl (ex_load1b TfU.one22 (hF.ev rfl) (hS.get 1 rfl) rfl) ?_
 clear hF fa; intro fa hF
 refine st rfl (op_append (X := X) (F := [(go1_7_1, 24, (ic (Ay) (cy) (((nn : Nat) : Int)))), (go1_6_1, 24, (ic (Ax) (cx) (((mm : Nat) : Int)))), (g9, 24, #[(.bool (false)), (.slice (none) (0) (0))]), (g5, 24, (ic (A_b) (c_b) (b))), (g1, 24, (ic (A_a) (c_a) (a)))]) (So := []) (l := us ([])) (m := us ((lim ((mm : Nat) : Int).natAbs))) hF hS rfl TfU.sl22 TfU.el46 rfl rfl rfl (by simp) (OwV.nil 46) hx.cl (us_one _) (by simp; omega) (by simp; omega) ?_)
 intro v82 So83 w84 hO85 hS E86 hun87; refine gen_ ?_; clear hF fa; intro fa hF
 clear hun87
 rw [← us_append] at hO85
 simp only [List.nil_append] at hO85
 replace E86 : Ext w17 (go1_7_1 :: (go1_6_1 :: (g9 :: (g5 :: (g1 :: X))))) w84 (go1_7_1 :: (go1_6_1 :: (g9 :: (g5 :: (g1 :: (bl So83 ++ X)))))) := E86
 replace hS : St w w84 ([(go1_7_1, 24, (ic (Ay) (cy) (((nn : Nat) : Int)))), (go1_6_1, 24, (ic (Ax) (cx) (((mm : Nat) : Int)))), (g9, 24, #[(.bool (false)), (.slice (none) (0) (0))]), (g5, 24, (ic (A_b) (c_b) (b))), (g1, 24, (ic (A_a) (c_a) (a)))] ++ So83) := hS
 obtain ⟨A88, c89, hv91, hu90⟩ := UC.thaw (F := [(go1_7_1, 24, (ic (Ay) (cy) (((nn : Nat) : Int)))), (go1_6_1, 24, (ic (Ax) (cx) (((mm : Nat) : Int)))), (g9, 24, #[(.bool (false)), (.slice (none) (0) (0))]), (g5, 24, (ic (A_b) (c_b) (b))), (g1, 24, (ic (A_a) (c_a) (a)))]) hO85 hS hX
 subst hv91
 have E92 : Ext w84 (go1_7_1 :: (go1_6_1 :: (g9 :: (g5 :: (g1 :: (bl So83 ++ X)))))) w84 (go1_7_1 :: (go1_6_1 :: (g9 :: (g5 :: (g1 :: X))))) := Ext.drop (by simp +contextual)
 replace hu90 : UC w84 (go1_7_1 :: (go1_6_1 :: (g9 :: (g5 :: (g1 :: X))))) A88 c89 ((lim ((mm : Nat) : Int).natAbs)) := hu90
 replace hS : St w w84 [(go1_7_1, 24, (ic (Ay) (cy) (((nn : Nat) : Int)))), (go1_6_1, 24, (ic (Ax) (cx) (((mm : Nat) : Int)))), (g9, 24, #[(.bool (false)), (.slice (none) (0) (0))]), (g5, 24, (ic (A_b) (c_b) (b))), (g1, 24, (ic (A_a) (c_a) (a)))] := hS.drop (List.sublist_append_left _ _)
 have hC := integer_signed_ok (w := w84) (X := (go1_7_1 :: (go1_6_1 :: (g9 :: (g5 :: (g1 :: X)))))) (l := (lim ((mm : Nat) : Int).natAbs)) (hS.bnd hX) false ⟨_, (((lim ((mm : Nat) : Int).natAbs)).length), _, rfl, (rfl), hu90⟩ (lb_lim _)
 rw [show (sgnv false (val ((lim ((mm : Nat) : Int).natAbs)))) = ((mm : Nat) : Int) from by rw [val_lim, Int.natAbs_natCast]; rfl] at hC
 refine st rfl (op_call hF rfl TfU.body41 (args2 (hF.ev rfl) (hF.ev rfl)) hC ?_)
 clear hC
 rintro _ w93 ⟨⟨_, rfl, A96, c97, rfl, hu98⟩, hb94⟩
 refine gen_ ?_; clear hF fa; intro fa hF
 replace hS := hS.call hb94; have E95 := Ext.call (go1_7_1 :: (go1_6_1 :: (g9 :: (g5 :: (g1 :: X))))) hb94
 refine st rfl (op_store (X := (go1_7_1 :: (go1_6_1 :: (g9 :: (g5 :: (g1 :: X)))))) hF hS 2 rfl (by simp) rfl rfl rfl TfU.size24 rfl (Nat.le_of_ble_eq_true rfl) ?_)
 intro w99 hS E100
 replace hS : St w w99 [(go1_7_1, 24, (ic (Ay) (cy) (((nn : Nat) : Int)))), (go1_6_1, 24, (ic (Ax) (cx) (((mm : Nat) : Int)))), (g9, 24, (ic (A96) (c97) (((mm : Nat) : Int)))), (g5, 24, (ic (A_b) (c_b) (b))), (g1, 24, (ic (A_a) (c_a) (a)))] := hS
 refine c_nil_then ?_
 refine c_ret ?_
 refine end1 hF rfl (res_cell hF rfl TfU.row24 (hS.get 2 rfl) rfl) ?_
 exact ⟨_, rfl, (IntV.fin (x := ((mm : Nat) : Int)) ⟨_, rfl, _, _, rfl, (hu98.ext E100)⟩ (by rw [← hg, hn0, Nat.gcd_zero_right]) (fun x hx => by simp [hx])), hS.below⟩

end Go.Proofs.Ytlaojdpcfenlkaa
