/-
  What the functions answer, each out of its text by the abstract run.
  Digits that the reference writes and reads one at a time.
  What the functions swarfref01.Format answer, each out of its text by the abstract run.
  What the functions stringslite.HasPrefix, stringslite.CutPrefix, strings.HasPrefix, strings.CutPrefix answer, each out of its text by the abstract run.
  What the functions integer.Parse answer, each out of its text by the abstract run.
  What the reference reads.
  What the functions swarfref01.Parse answer, each out of its text by the abstract run.
  What the functions swarfref01.Valid, swarfref01.Small, swarflaw01.same, swarflaw01.is, swarflaw01.small, swarflaw01.cp, swarflaw01.awake answer, each out of its text by the abstract run.
  What the reference reads of a fraction's text.
  Conditions: none.
-/
import Derived.Test.YtghlkihmnopenaaDoorM10
import Derived.Lib.Builder
import Derived.Lib.Bytealg
import Derived.Lib.Strings
import Derived.Lib.Walk
import Derived.Shelf.Strings.Builder1
set_option linter.all false
namespace Go.Proofs.YtghlkihmnopenaaDoor
open Go Go.RowKit Go.Sw Go.Shelf
set_option linter.unusedVariables false
set_option maxRecDepth 100000
set_option maxHeartbeats 8000000
set_option maxHeartbeats 6400000 in
theorem fmt_walk0 (L : Nat) (x : Nat → Nat) (D : Nat → List UInt8) (A : Addr) (cap : Nat) (w : World) (hW : Wld.ok Tryd.prog w) (hA : A.block < w.heap.size) (hc : ∀ i, i < L → w.cell? (A.add i) = some (.int .u32 ((x i : Nat) : Int)))
    (hn : 0 < L) (hl : L ≤ 100000) (hx : ∀ i, x i < 1000000000) (hD : D (L - 1) = Lib.decDigits (x (L - 1))) (hs : ∀ i, i + 1 < L → D (i + 1) ++ List.replicate (9 - Lib.nDigits (x i)) 48 ++ Lib.decDigits (x i) = D i) (hdl : ∀ i, (D i).length ≤ 9 * L) (h0 : 0 < (D 0).length) :
    Calls Tryd.prog 6 #[.agg #[.bool false, .slice (some A) L cap]] w fun e w' => e = .returned (.string ⟨([] ++ D 0).toArray⟩) ∧ Below w.heap.size w w' := by
  have hln : ¬((L : Nat) : Int) = 0 := by omega
  have w1 : wrap64 ((L : Int) - 1) = ((L - 1 : Nat) : Int) := by unfold wrap64; omega
  have hci : ∀ (w1 : World) (i : Nat), i < L → Below w.heap.size w w1 → w1.cell? (A.add i) = some (.int .u32 ((x i : Nat) : Int)) := fun w1 i hi h => by rw [h.cell (by rw [block_add]; exact hA)]; exact hc i hi
  have hbl : ∀ i, i + 1 < L → bv ([] ++ D (i + 1)) ++ Lib.strCells ⟨(List.replicate (9 - Lib.nDigits (x i)) (48 : UInt8)).toArray⟩ ++ Lib.strCells (decS (x i)) = bv ([] ++ D i) := fun i hi => by
    rw [← hs i hi, bv_str, show Lib.strCells (decS (x i)) = bv (Lib.decDigits (x i)) from rfl, ← bv_app, ← bv_app, List.append_assoc, List.append_assoc, List.append_assoc]
  have hbd : bv ([] ++ D (L - 1)) = bv [] ++ Lib.strCells (decS (x (L - 1))) := by rw [hD, bv_app]; rfl
  have hdl : ∀ i, (bv ([] ++ D i)).length ≤ 9 * L + 1 := fun i => by have := hdl i; rw [bv_len, List.length_append]; simp only [List.length_cons, List.length_nil]; omega
  have hb0 : bv ([] ++ D 0) = ([] ++ D 0 : List UInt8).map fun b : UInt8 => Value.int .u8 (b.toNat : Int) := rfl
  have hne : [] ++ D 0 ≠ [] := by intro e; have := congrArg List.length e; rw [List.length_append, List.length_nil] at this; omega
  clear hs hD hc
  have c1 := hci
  have hxt := hx (L - 1)
  have hdt := decS_size (x (L - 1))
  have hgt := limb_dg hxt
  have ctop := fun w1 h => hci w1 (L - 1) (by omega) h
  generalize hxg : x (L - 1) = xt at hxt hdt hgt ctop hbd
  clear c1
  go_enter Tryd.func6, Tryd.ntmps6
  have e1 := al_size_ w (.cells #[.bool false, .slice (some A) L cap] 24)
  obtain ⟨r1, r2, hW0, r3⟩ := fmt_prep_ (Below.refl _ ((w.alloc (.cells #[.bool false, .slice (some A) L cap] 24)).alloc (.cells #[.pointer none, .slice none 0 0] 46)))
  have c1 := ctop _ hW0
  have hk0 : Wld.ok Tryd.prog ((w.alloc (.cells #[.bool false, .slice (some A) L cap] 24)).alloc (.cells #[.pointer none, .slice none 0 0] 46)) := Wld.keep hW hW0
  clear hW0 r1 r2 r3
  go_wp2_with (go_at_call 20; refine (FUa (m := xt) (by omega) _ hk0).mono ?_)
  rintro e w1 ⟨rfl, hb1⟩
  obtain ⟨q0, q1, hW1, hsz⟩ := fmt_prep_ hb1
  have hB : Lib.IsBuilder 46 5 (w.heap.size + 1) (w.heap.size + 1) [] w1 := .inl ⟨Nat.le_refl _, .slice none 0 0, q1, World.ownsRow_nil _ _ _ _, by simp [Value.ownBlock]⟩
  clear hb1 c1 hk0
  go_wp2_with (go_at_call 19; refine (ws_ _ _ _ (decS xt) _ hB (by simp only [List.length_nil]; omega) (by omega)).mono ?_)
  rintro e w2 ⟨rfl, hB2, hb2⟩
  have q2 : w2.heap[w.heap.size]? = some (.cells #[.bool false, .slice (some A) L cap] 24 (0, 0)) := by rw [hb2.block _ (by omega)]; exact q0
  have hW3 : Below w.heap.size w w2 := hW1.trans (hb2.mono (by omega))
  have hs2 : w.heap.size + 2 ≤ w2.heap.size := by have := hb2.size; omega
  clear hB q0 q1 hW1 hsz hb2 ctop
  have w2e : wrap64 ((L : Int) - 2) = ((L - 1 : Nat) : Int) - 1 := by unfold wrap64; omega
  rw [show ([] : List Value) ++ Lib.strCells (decS xt) = bv ([] ++ D (L - 1)) from hbd.symm] at hB2
  clear hbd hxg hxt hdt hgt
  go_wp2
  go_loopg [5] L (fun kk s5 wr => ∃ i : Nat, i + 1 ≤ L ∧ i ≤ kk ∧ s5 = .int .i64 ((i : Int) - 1) ∧ Lib.BuilderAt 46 5 (w.heap.size + 1) (w.heap.size + 1) (.pointer (some ⟨w.heap.size + 1, 0, none⟩)) (bv ([] ++ D i)) wr ∧
      wr.heap[w.heap.size]? = some (.cells #[.bool false, .slice (some A) L cap] 24 (0, 0)) ∧ Below w.heap.size w wr ∧ w.heap.size + 2 ≤ wr.heap.size)
  case atStart =>
    refine ⟨L - 1, by omega, by omega, by congr 1; omega, ?_, q2, hW3, hs2⟩
    exact hB2
  case round =>
    obtain ⟨i, hi1, hi2, rfl, hBi, qi, hWi, hsi⟩ := hrel
    clear hB2 q2 hW3 hs2 w2e w1
    have ci := cell_hdr_ qi
    cases i with
    | zero =>
      clear hci hbl hdl hx
      rw [hb0] at hBi
      go_wp2_with (go_at_call 22; refine (Any.Builder_String lays169_ ext169_ _ _ ([] ++ D 0) _ (.inr hBi) hne).mono ?_)
      rintro e w3 ⟨rfl, hb3⟩
      go_wp2
      go_ret
      exact ⟨rfl, hWi.trans (hb3.mono (by omega))⟩
    | succ i =>
      have cy := hci wr i (by omega) hWi
      have hlb := hx i
      have hbl := hbl i (by omega)
      have hdl1 := hdl (i + 1)
      have hdl0 := hdl i
      have hpos : ((i + 1 : Nat) : Int) - 1 ≥ 0 := by omega
      have hz : ((i + 1 : Nat) : Int) - 1 = (i : Int) := by omega
      have hk1 : Wld.ok Tryd.prog wr := Wld.keep hW hWi
      have hsy := decS_size (x i)
      have hdy := limb_dg hlb
      clear hci hdl hb0 hne h0 hx
      generalize x i = y at cy hlb hbl hsy hdy
      obtain ⟨k, hk⟩ : ∃ k, k + Lib.nDigits y = 9 := ⟨9 - Lib.nDigits y, by omega⟩
      rw [show 9 - Lib.nDigits y = k by omega] at hbl
      have e9 : (9 : Int) - (Lib.nDigits y : Int) = (k : Int) := by omega
      have wi : wrap64 ((i : Int) - 1) = (i : Int) - 1 := by unfold wrap64; omega
      rw [hz] at hpos ⊢
      clear hz
      go_wp2_with (go_at_call 20; refine (FUa (m := y) (by omega) _ hk1).mono ?_)
      rintro e wa ⟨rfl, hba⟩
      have hBa := bld_below_ hBi hba
      have hsa : w.heap.size + 2 ≤ wa.heap.size := by have := hba.size; omega
      have qa : wa.heap[w.heap.size]? = some (.cells #[.bool false, .slice (some A) L cap] 24 (0, 0)) := by rw [hba.block _ (by omega)]; exact qi
      have hWa : Below w.heap.size w wa := hWi.trans (hba.mono (by omega))
      clear hBi qi ci cy hWi hsi hba hk1
      go_wp2_with (go_at_call 21; refine (rep0 (k := k) (by omega) _).mono ?_)
      rintro e wb_ ⟨rfl, hbb⟩
      have hBb := bld_below_ hBa hbb
      have hsb : w.heap.size + 2 ≤ wb_.heap.size := by have := hbb.size; omega
      have qb : wb_.heap[w.heap.size]? = some (.cells #[.bool false, .slice (some A) L cap] 24 (0, 0)) := by rw [hbb.block _ (by omega)]; exact qa
      have hWb : Below w.heap.size w wb_ := hWa.trans (hbb.mono (by omega))
      clear hBa qa hWa hsa hbb
      have hrl : (ByteArray.mk (List.replicate k (48 : UInt8)).toArray).size = k := by show (List.replicate k (48 : UInt8)).toArray.size = _; rw [List.size_toArray, List.length_replicate]
      generalize ByteArray.mk (List.replicate k (48 : UInt8)).toArray = rs at hrl hbl ⊢
      go_wp2_with (go_at_call 19; refine (ws_ _ _ _ rs _ (.inr hBb) (by omega) (by omega)).mono ?_)
      rintro e wc ⟨rfl, hBc, hbc⟩
      have hsc : w.heap.size + 2 ≤ wc.heap.size := by have := hbc.size; omega
      have qc : wc.heap[w.heap.size]? = some (.cells #[.bool false, .slice (some A) L cap] 24 (0, 0)) := by rw [hbc.block _ (by omega)]; exact qb
      have hWc : Below w.heap.size w wc := hWb.trans (hbc.mono (by omega))
      clear hBb qb hWb hsb hbc
      go_wp2_with (go_at_call 19; refine (ws_ _ _ _ (decS y) _ (.inr hBc) (by rw [List.length_append, Lib.strCells_length]; omega) (by omega)).mono ?_)
      rintro e wd ⟨rfl, hBd, hbd⟩
      rw [hbl] at hBd
      have hsd : w.heap.size + 2 ≤ wd.heap.size := by have := hbd.size; omega
      have qd : wd.heap[w.heap.size]? = some (.cells #[.bool false, .slice (some A) L cap] 24 (0, 0)) := by rw [hbd.block _ (by omega)]; exact qc
      have hWd : Below w.heap.size w wd := hWc.trans (hbd.mono (by omega))
      clear hBc qc hWc hsc hbd
      go_wp2
      go_roundg i
      case measure => omega
      case rel => exact ⟨i, by omega, Nat.le_refl _, rfl, hBd, qd, hWd, hsd⟩

set_option maxHeartbeats 6400000 in
theorem fmt_walk1 (L : Nat) (x : Nat → Nat) (D : Nat → List UInt8) (A : Addr) (cap : Nat) (w : World) (hW : Wld.ok Tryd.prog w) (hA : A.block < w.heap.size) (hc : ∀ i, i < L → w.cell? (A.add i) = some (.int .u32 ((x i : Nat) : Int)))
    (hn : 0 < L) (hl : L ≤ 100000) (hx : ∀ i, x i < 1000000000) (hD : D (L - 1) = Lib.decDigits (x (L - 1))) (hs : ∀ i, i + 1 < L → D (i + 1) ++ List.replicate (9 - Lib.nDigits (x i)) 48 ++ Lib.decDigits (x i) = D i) (hdl : ∀ i, (D i).length ≤ 9 * L) (h0 : 0 < (D 0).length) :
    Calls Tryd.prog 6 #[.agg #[.bool true, .slice (some A) L cap]] w fun e w' => e = .returned (.string ⟨([45] ++ D 0).toArray⟩) ∧ Below w.heap.size w w' := by
  have hln : ¬((L : Nat) : Int) = 0 := by omega
  have w1 : wrap64 ((L : Int) - 1) = ((L - 1 : Nat) : Int) := by unfold wrap64; omega
  have hci : ∀ (w1 : World) (i : Nat), i < L → Below w.heap.size w w1 → w1.cell? (A.add i) = some (.int .u32 ((x i : Nat) : Int)) := fun w1 i hi h => by rw [h.cell (by rw [block_add]; exact hA)]; exact hc i hi
  have hbl : ∀ i, i + 1 < L → bv ([45] ++ D (i + 1)) ++ Lib.strCells ⟨(List.replicate (9 - Lib.nDigits (x i)) (48 : UInt8)).toArray⟩ ++ Lib.strCells (decS (x i)) = bv ([45] ++ D i) := fun i hi => by
    rw [← hs i hi, bv_str, show Lib.strCells (decS (x i)) = bv (Lib.decDigits (x i)) from rfl, ← bv_app, ← bv_app, List.append_assoc, List.append_assoc, List.append_assoc]
  have hbd : bv ([45] ++ D (L - 1)) = bv [45] ++ Lib.strCells (decS (x (L - 1))) := by rw [hD, bv_app]; rfl
  have hdl : ∀ i, (bv ([45] ++ D i)).length ≤ 9 * L + 1 := fun i => by have := hdl i; rw [bv_len, List.length_append]; simp only [List.length_cons, List.length_nil]; omega
  have hb0 : bv ([45] ++ D 0) = ([45] ++ D 0 : List UInt8).map fun b : UInt8 => Value.int .u8 (b.toNat : Int) := rfl
  have hne : [45] ++ D 0 ≠ [] := by intro e; have := congrArg List.length e; rw [List.length_append, List.length_nil] at this; omega
  clear hs hD hc
  have c1 := hci
  have hxt := hx (L - 1)
  have hdt := decS_size (x (L - 1))
  have hgt := limb_dg hxt
  have ctop := fun w1 h => hci w1 (L - 1) (by omega) h
  generalize hxg : x (L - 1) = xt at hxt hdt hgt ctop hbd
  clear c1
  go_enter Tryd.func6, Tryd.ntmps6
  have e1 := al_size_ w (.cells #[.bool true, .slice (some A) L cap] 24)
  obtain ⟨q0, q1, hW0, hsz0⟩ := fmt_prep_ (Below.refl _ ((w.alloc (.cells #[.bool true, .slice (some A) L cap] 24)).alloc (.cells #[.pointer none, .slice none 0 0] 46)))
  have hB : Lib.IsBuilder 46 5 (w.heap.size + 1) (w.heap.size + 1) [] ((w.alloc (.cells #[.bool true, .slice (some A) L cap] 24)).alloc (.cells #[.pointer none, .slice none 0 0] 46)) := .inl ⟨Nat.le_refl _, .slice none 0 0, q1, World.ownsRow_nil _ _ _ _, by simp [Value.ownBlock]⟩
  go_wp2_with (go_at_call 18; refine (wb_ _ _ _ 45 _ hB (by decide) (by omega)).mono ?_)
  rintro e w0 ⟨rfl, hB0, hb0'⟩
  have hW1 : Below w.heap.size w w0 := hW0.trans (hb0'.mono (by omega))
  have q5 : w0.heap[w.heap.size]? = some (.cells #[.bool true, .slice (some A) L cap] 24 (0, 0)) := by rw [hb0'.block _ (by omega)]; exact q0
  have c5 := cell_hdr_ q5
  have c6 := ctop w0 hW1
  clear hB q0 q1 hW0
  have hs0 : w.heap.size + 2 ≤ w0.heap.size := by have := hb0'.size; omega
  clear hb0'
  have hk0 : Wld.ok Tryd.prog w0 := Wld.keep hW hW1
  go_wp2_with (go_at_call 20; refine (FUa (m := xt) (by omega) _ hk0).mono ?_)
  rintro e w1 ⟨rfl, hb1⟩
  have hW2 : Below w.heap.size w w1 := hW1.trans (hb1.mono (by omega))
  have hB1 := bld_below_ hB0 hb1
  have q6 : w1.heap[w.heap.size]? = some (.cells #[.bool true, .slice (some A) L cap] 24 (0, 0)) := by rw [hb1.block _ (by omega)]; exact q5
  have hs1 : w.heap.size + 2 ≤ w1.heap.size := by have := hb1.size; omega
  clear hb1 c5 c6 hk0
  go_wp2_with (go_at_call 19; refine (ws_ _ _ _ (decS xt) _ (.inr hB1) (by simp only [List.length_append, List.length_nil, List.length_cons]; omega) (by omega)).mono ?_)
  rintro e w2 ⟨rfl, hB2, hb2⟩
  have q2 : w2.heap[w.heap.size]? = some (.cells #[.bool true, .slice (some A) L cap] 24 (0, 0)) := by rw [hb2.block _ (by omega)]; exact q6
  have hW3 : Below w.heap.size w w2 := hW2.trans (hb2.mono (by omega))
  have hs2 : w.heap.size + 2 ≤ w2.heap.size := by have := hb2.size; omega
  clear hB1 hB0 q5 q6 hW1 hW2 hs0 hs1 hb2 hsz0 ctop
  have w2e : wrap64 ((L : Int) - 2) = ((L - 1 : Nat) : Int) - 1 := by unfold wrap64; omega
  rw [show ([] : List Value) ++ [.int .u8 45] ++ Lib.strCells (decS xt) = bv ([45] ++ D (L - 1)) from hbd.symm] at hB2
  clear hbd hxg hxt hdt hgt
  go_wp2
  go_loopg [5] L (fun kk s5 wr => ∃ i : Nat, i + 1 ≤ L ∧ i ≤ kk ∧ s5 = .int .i64 ((i : Int) - 1) ∧ Lib.BuilderAt 46 5 (w.heap.size + 1) (w.heap.size + 1) (.pointer (some ⟨w.heap.size + 1, 0, none⟩)) (bv ([45] ++ D i)) wr ∧
      wr.heap[w.heap.size]? = some (.cells #[.bool true, .slice (some A) L cap] 24 (0, 0)) ∧ Below w.heap.size w wr ∧ w.heap.size + 2 ≤ wr.heap.size)
  case atStart =>
    refine ⟨L - 1, by omega, by omega, by congr 1; omega, ?_, q2, hW3, hs2⟩
    exact hB2
  case round =>
    obtain ⟨i, hi1, hi2, rfl, hBi, qi, hWi, hsi⟩ := hrel
    clear hB2 q2 hW3 hs2 w2e w1
    have ci := cell_hdr_ qi
    cases i with
    | zero =>
      clear hci hbl hdl hx
      rw [hb0] at hBi
      go_wp2_with (go_at_call 22; refine (Any.Builder_String lays169_ ext169_ _ _ ([45] ++ D 0) _ (.inr hBi) hne).mono ?_)
      rintro e w3 ⟨rfl, hb3⟩
      go_wp2
      go_ret
      exact ⟨rfl, hWi.trans (hb3.mono (by omega))⟩
    | succ i =>
      have cy := hci wr i (by omega) hWi
      have hlb := hx i
      have hbl := hbl i (by omega)
      have hdl1 := hdl (i + 1)
      have hdl0 := hdl i
      have hpos : ((i + 1 : Nat) : Int) - 1 ≥ 0 := by omega
      have hz : ((i + 1 : Nat) : Int) - 1 = (i : Int) := by omega
      have hk1 : Wld.ok Tryd.prog wr := Wld.keep hW hWi
      have hsy := decS_size (x i)
      have hdy := limb_dg hlb
      clear hci hdl hb0 hne h0 hx
      generalize x i = y at cy hlb hbl hsy hdy
      obtain ⟨k, hk⟩ : ∃ k, k + Lib.nDigits y = 9 := ⟨9 - Lib.nDigits y, by omega⟩
      rw [show 9 - Lib.nDigits y = k by omega] at hbl
      have e9 : (9 : Int) - (Lib.nDigits y : Int) = (k : Int) := by omega
      have wi : wrap64 ((i : Int) - 1) = (i : Int) - 1 := by unfold wrap64; omega
      rw [hz] at hpos ⊢
      clear hz
      go_wp2_with (go_at_call 20; refine (FUa (m := y) (by omega) _ hk1).mono ?_)
      rintro e wa ⟨rfl, hba⟩
      have hBa := bld_below_ hBi hba
      have hsa : w.heap.size + 2 ≤ wa.heap.size := by have := hba.size; omega
      have qa : wa.heap[w.heap.size]? = some (.cells #[.bool true, .slice (some A) L cap] 24 (0, 0)) := by rw [hba.block _ (by omega)]; exact qi
      have hWa : Below w.heap.size w wa := hWi.trans (hba.mono (by omega))
      clear hBi qi ci cy hWi hsi hba hk1
      go_wp2_with (go_at_call 21; refine (rep0 (k := k) (by omega) _).mono ?_)
      rintro e wb_ ⟨rfl, hbb⟩
      have hBb := bld_below_ hBa hbb
      have hsb : w.heap.size + 2 ≤ wb_.heap.size := by have := hbb.size; omega
      have qb : wb_.heap[w.heap.size]? = some (.cells #[.bool true, .slice (some A) L cap] 24 (0, 0)) := by rw [hbb.block _ (by omega)]; exact qa
      have hWb : Below w.heap.size w wb_ := hWa.trans (hbb.mono (by omega))
      clear hBa qa hWa hsa hbb
      have hrl : (ByteArray.mk (List.replicate k (48 : UInt8)).toArray).size = k := by show (List.replicate k (48 : UInt8)).toArray.size = _; rw [List.size_toArray, List.length_replicate]
      generalize ByteArray.mk (List.replicate k (48 : UInt8)).toArray = rs at hrl hbl ⊢
      go_wp2_with (go_at_call 19; refine (ws_ _ _ _ rs _ (.inr hBb) (by omega) (by omega)).mono ?_)
      rintro e wc ⟨rfl, hBc, hbc⟩
      have hsc : w.heap.size + 2 ≤ wc.heap.size := by have := hbc.size; omega
      have qc : wc.heap[w.heap.size]? = some (.cells #[.bool true, .slice (some A) L cap] 24 (0, 0)) := by rw [hbc.block _ (by omega)]; exact qb
      have hWc : Below w.heap.size w wc := hWb.trans (hbc.mono (by omega))
      clear hBb qb hWb hsb hbc
      go_wp2_with (go_at_call 19; refine (ws_ _ _ _ (decS y) _ (.inr hBc) (by rw [List.length_append, Lib.strCells_length]; omega) (by omega)).mono ?_)
      rintro e wd ⟨rfl, hBd, hbd⟩
      rw [hbl] at hBd
      have hsd : w.heap.size + 2 ≤ wd.heap.size := by have := hbd.size; omega
      have qd : wd.heap[w.heap.size]? = some (.cells #[.bool true, .slice (some A) L cap] 24 (0, 0)) := by rw [hbd.block _ (by omega)]; exact qc
      have hWd : Below w.heap.size w wd := hWc.trans (hbd.mono (by omega))
      clear hBc qc hWc hsc hbd
      go_wp2
      go_roundg i
      case measure => omega
      case rel => exact ⟨i, by omega, Nat.le_refl _, rfl, hBd, qd, hWd, hsd⟩

theorem fmt0_ (A : Option Addr) (cap : Nat) (b : Bool) (w : World) : Calls Tryd.prog 6 #[.agg #[.bool b, .slice A 0 cap]] w fun e w' => e = .returned (.string ⟨#[48]⟩) ∧ Below w.heap.size w w' := by
  go_enter Tryd.func6, Tryd.ntmps6
  go_wp2
  go_ret
  refine ⟨rfl, ⟨rfl, rfl, rfl, by rw [al_size_]; omega, fun k hk => Lib.alloc_old _ _ _ hk⟩⟩

theorem fmt_any {n : Int} (hp : sz n ≤ 100000) {w : World} {X : List Nat} {u : Value} (hW : Wld.ok Tryd.prog w) (hu : IntV w X u n) : Calls Tryd.prog 6 #[u] w fun e w' => e = .returned (.string (fmtD n)) ∧ Below w.heap.size w w' := by
  obtain ⟨_, rfl, A, c, rfl, hu⟩ := hu
  by_cases h0 : n = 0
  · subst h0
    rw [show (0 : Int).natAbs = 0 from rfl, lim_zero]
    have e : fmtD 0 = ⟨#[48]⟩ := by unfold fmtD; rw [show (0 : Int).natAbs = 0 from rfl, dec_small (by decide)]; rfl
    rw [e]
    exact fmt0_ A c _ w
  · have hn : 0 < (lim n.natAbs).length := by rw [lim_pos (by omega)]; simp
    obtain ⟨ad, rfl, h1, _, h3⟩ := hu.cl (by intro e; have := congrArg List.length e; simp [us] at this; rw [this] at hn; exact absurd hn (by decide))
    have hc : ∀ i, i < (lim n.natAbs).length → w.cell? (ad.add i) = some (.int .u32 ((n.natAbs / 1000000000 ^ i % 1000000000 : Nat) : Int)) := fun i hi => h3 i _ (by
      show ((lim n.natAbs).map _)[i]? = _
      rw [List.getElem?_map, lim_at hi]; rfl)
    have hD0 : Lib.decDigits (n.natAbs / 1000000000 ^ 0) = Lib.decDigits n.natAbs := by rw [Nat.pow_zero, Nat.div_one]
    have r0 := fmt_walk0 (lim n.natAbs).length (fun i => n.natAbs / 1000000000 ^ i % 1000000000) (fun i => Lib.decDigits (n.natAbs / 1000000000 ^ i)) ad c w hW h1 hc hn hp (fun i => Nat.mod_lt _ (by decide)) (by rw [lim_topx hn]) (fun i hi => (dec_limb hi).symm) (fun i => dec_lenX hn) (dec_pos _)
    have r1 := fmt_walk1 (lim n.natAbs).length (fun i => n.natAbs / 1000000000 ^ i % 1000000000) (fun i => Lib.decDigits (n.natAbs / 1000000000 ^ i)) ad c w hW h1 hc hn hp (fun i => Nat.mod_lt _ (by decide)) (by rw [lim_topx hn]) (fun i hi => (dec_limb hi).symm) (fun i => dec_lenX hn) (dec_pos _)
    rw [hD0] at r0 r1
    unfold fmtD
    by_cases hz : n < 0
    · rw [if_pos hz, decide_eq_true hz]
      exact r1
    · rw [if_neg hz, decide_eq_false hz]
      exact r0
instance t_fmt (n : Int) : DenI Tryd.prog 6 [Z n] (sz n ≤ 100000) (.c (.v (.string (fmtD n)))) := ⟨fun hp => by
  refine Den.of ⟨by kernel_rfl, fun w X vs hW hX hl hr => ?_⟩ rfl
  match vs, hl with
  | [u], _ =>
  have hu := hr 0 u _ rfl rfl
  refine Calls.mono (fmt_any hp hW hu.int_) ?_
  rintro e w' ⟨rfl, hb⟩
  exact ⟨_, rfl, (RepR.d (.c (.v _ rfl))).f, hb⟩⟩

end Go.Proofs.YtghlkihmnopenaaDoor

namespace Go.Sw
open Go Go.Lib Go.RowKit
set_option linter.unusedVariables false
def padS (d m : Nat) : ByteArray := ⟨(padD d m).toArray⟩
def stS (j m : Nat) : ByteArray := ⟨(List.replicate j 48 ++ decDigits m).toArray⟩
theorem padS_size (d m : Nat) : (padS d m).size = d := by
  show (padD d m).toArray.size = d
  rw [List.size_toArray, padD_len]
theorem enc_dig {k : Nat} (h : k < 10) : Utf8.encode ((48 + k : Nat) : Int) = ⟨#[UInt8.ofNat (48 + k)]⟩ := by
  have : k = 0 ∨ k = 1 ∨ k = 2 ∨ k = 3 ∨ k = 4 ∨ k = 5 ∨ k = 6 ∨ k = 7 ∨ k = 8 ∨ k = 9 := by omega
  rcases this with rfl | rfl | rfl | rfl | rfl | rfl | rfl | rfl | rfl | rfl <;> decide +kernel
theorem limb_dig {m x k : Nat} (hk : k < 9) : m / 1000000000 ^ x % 1000000000 / 10 ^ k % 10 = m / 10 ^ (9 * x + k) % 10 := by
  have e : m / 10 ^ (9 * x + k) = m / 1000000000 ^ x / 10 ^ k := by rw [Nat.div_div_eq_div_mul, Nat.pow_add, Nat.pow_mul]
  rw [e]
  generalize m / 1000000000 ^ x = a
  have h9 : (1000000000 : Nat) = 10 ^ k * 10 ^ (9 - k) := by rw [← Nat.pow_add, show k + (9 - k) = 9 by omega]
  rw [h9, Nat.mod_mul_right_div_self]
  exact Nat.mod_mod_of_dvd _ ⟨10 ^ (8 - k), by rw [← Nat.pow_succ', show (8 - k).succ = 9 - k by omega]⟩
/-- A digit more ahead. -/
theorem pad_more (d m : Nat) : padD (d + 1) m = UInt8.ofNat (48 + m / 10 ^ d % 10) :: padD d m := by
  rw [Nat.add_comm d 1, pad_add d 1 m]; rfl
theorem ref_rune {m x k : Nat} (hk : k < 9) : IntKind.i32.wrap (IntKind.u32.wrap (48 + (((m / 1000000000 ^ x % 1000000000 / 10 ^ k : Nat) : Int)).tmod 10)) = ((48 + m / 10 ^ (9 * x + k) % 10 : Nat) : Int) := by
  rw [← limb_dig hk]
  generalize m / 1000000000 ^ x % 1000000000 / 10 ^ k = q
  rw [Int.tmod_eq_emod_of_nonneg (Int.natCast_nonneg q), IntKind.wrap_u32, IntKind.wrap_i32]
  omega
theorem ref_dig {m x k : Nat} (hk : k < 9) :
    some (AV.c (Cell.v (.string (Utf8.encode (IntKind.i32.wrap (IntKind.u32.wrap (48 + (((m / 1000000000 ^ x % 1000000000 / 10 ^ k : Nat) : Int)).tmod 10))) ++ padS (9 * x + k) m)))) = some (AV.str (padS (9 * x + (k + 1)) m)) := by
  have : Utf8.encode (IntKind.i32.wrap (IntKind.u32.wrap (48 + (((m / 1000000000 ^ x % 1000000000 / 10 ^ k : Nat) : Int)).tmod 10))) ++ padS (9 * x + k) m = padS (9 * x + (k + 1)) m := by
    rw [ref_rune hk, enc_dig (Nat.mod_lt _ (by decide))]
    unfold padS
    rw [← Nat.add_assoc, pad_more, ByteArray.ext_iff, ByteArray.data_append]
    simp
  rw [this]
theorem ref_es {m x k : Nat} (hk : k < 9) : (Utf8.encode (IntKind.i32.wrap (IntKind.u32.wrap (48 + (((m / 1000000000 ^ x % 1000000000 / 10 ^ k : Nat) : Int)).tmod 10)))).size = 1 := by
  rw [ref_rune hk, enc_dig (Nat.mod_lt _ (by decide))]; rfl
theorem ref_quo {m x k : Nat} : IntKind.u32.wrap (((m / 1000000000 ^ x % 1000000000 / 10 ^ k : Nat) : Int).tdiv 10) = ((m / 1000000000 ^ x % 1000000000 / 10 ^ (k + 1) : Nat) : Int) := by
  have h1 : m / 1000000000 ^ x % 1000000000 / 10 ^ k ≤ m / 1000000000 ^ x % 1000000000 := Nat.div_le_self _ _
  have h2 := Nat.mod_lt (m / 1000000000 ^ x) (show 0 < 1000000000 by decide)
  rw [Nat.pow_succ, ← Nat.div_div_eq_div_mul]
  generalize m / 1000000000 ^ x % 1000000000 / 10 ^ k = q at h1 ⊢
  rw [Int.tdiv_eq_ediv_of_nonneg (Int.natCast_nonneg q), IntKind.wrap_u32]
  omega
theorem ref_lim (m x : Nat) : some (AV.c (Cell.v (u32 ((lim m).getD x 0)))) = some (AV.int .u32 ((m / 1000000000 ^ x % 1000000000 / 10 ^ 0 : Nat) : Int)) := by
  rw [lim_get, Nat.pow_zero, Nat.div_one]; rfl
theorem ref_nxt {m x k : Nat} (h1 : k ≤ 9) (h2 : ¬(k : Int) < 9) : some (AV.str (padS (9 * x + k) m)) = some (AV.str (padS (9 * (x + 1)) m)) := by rw [show 9 * x + k = 9 * (x + 1) by omega]
theorem pad_all {m : Nat} (h : 0 < (lim m).length) : padS (9 * (lim m).length) m = stS (9 * (lim m).length - nDigits m) m := by
  unfold padS stS
  rw [pad_dec _ _ (by omega) (by rw [Nat.pow_mul]; exact lim_ltX m)]
theorem ref_end {m x : Nat} (h : 0 < (lim m).length) (h1 : x ≤ (lim m).length) (h2 : ¬(x : Int) < ((lim m).length : Nat)) : some (AV.str (padS (9 * x) m)) = some (AV.str (stS (9 * (lim m).length - nDigits m) m)) := by rw [show x = (lim m).length by omega, pad_all h]
theorem stS_size (j m : Nat) : (stS j m).size = j + nDigits m := by
  show (List.replicate j 48 ++ decDigits m).toArray.size = _
  rw [List.size_toArray, List.length_append, List.length_replicate, decDigits_length]
theorem bsL_st (j m : Nat) : bsL (stS j m) = List.replicate j 48 ++ dgl m := by
  unfold stS
  rw [bsL_mk, List.map_append, List.map_replicate]; rfl
theorem st_nz {j m : Nat} (hm : 0 < m) (h : ¬(((bsL (stS j m)).getD 0 0 : Nat) : Int) = 48) : j = 0 := by
  cases j with
  | zero => rfl
  | succ j => rw [bsL_st, List.replicate_succ] at h; exact absurd rfl h
theorem st_z {j m : Nat} (hm : 0 < m) (h : (((bsL (stS j m)).getD 0 0 : Nat) : Int) = 48) : 0 < j := by
  cases j with
  | zero =>
    rw [bsL_st, List.replicate_zero, List.nil_append] at h
    exact absurd (by omega) (dgl_head hm)
  | succ j => omega
theorem st_cut {j m : Nat} (h : 0 < j) : (stS j m).extract 1 (stS j m).size = stS (j - 1) m := by
  apply bsL_inj
  rw [bsL_ext, show (stS j m).size = (bsL (stS j m)).length from (bsL_len _).symm, List.take_length, bsL_st, bsL_st]
  cases j with
  | zero => exact absurd h (by decide)
  | succ j => rfl
theorem fmtD_neg {n : Int} (h : n < 0) : (⟨#[45]⟩ : ByteArray) ++ stS 0 n.natAbs = fmtD n := by
  apply bsL_inj
  rw [bsL_app, bsL_st, bsL_fmt, if_pos h]; rfl
theorem fmtD_pos {n : Int} (h : ¬n < 0) : stS 0 n.natAbs = fmtD n := by
  apply bsL_inj
  rw [bsL_st, bsL_fmt, if_neg h]; rfl
theorem fmtD_0 : (⟨#[48]⟩ : ByteArray) = fmtD 0 := by
  apply bsL_inj
  rw [bsL_fmt, show (0 : Int).natAbs = 0 from rfl, dgl_small (by decide)]; rfl
theorem dig_le {n : Int} {k : Nat} (h : sz n ≤ k) (hk : 0 < k) : nDigits n.natAbs ≤ 9 * k := by
  apply nDigits_le (by omega)
  refine Nat.lt_of_lt_of_le (lim_ltX n.natAbs) ?_
  rw [Nat.pow_mul]
  exact Nat.pow_le_pow_right (by decide) h
theorem fmtD_le {n : Int} {k : Nat} (h : sz n ≤ k) (hk : 0 < k) : (fmtD n).size ≤ 9 * k + 1 := by
  have := dig_le h hk
  rw [fmtD_size]
  split <;> omega
end Go.Sw

namespace Go.Proofs.YtghlkihmnopenaaDoor
open Go Go.RowKit Go.Sw
set_option linter.unusedVariables false
set_option maxRecDepth 100000
set_option maxHeartbeats 8000000
set_option synthInstance.maxSize 4000
set_option synthInstance.maxHeartbeats 400000
instance t_rfmt (n : Int) : DenI Tryd.prog 10 [Z n] (sz n ≤ 100000) (.str (fmtD n)) := ⟨fun hp => by
 have hsz : (lim n.natAbs).length ≤ 100000 := hp
 all_goals refine den_of (τ := tabs) tabs_ok mixed_ Tryd.func10 rfl (by kernel_rfl) (by kernel_rfl) (by kernel_rfl) ?_
 all_goals (repeat' ((try (conv => whnf)); first
  | refine call_0 ?_
  | refine call_i ?_ ?_
  | refine call_c ?_ (fun _ => ?_) (fun _ => ?_)
  | (with_reducible refine onB_t ?_)
  | (with_reducible refine onB_f ?_)
  | (with_reducible refine onB_d (fun _ => ?_) (fun _ => ?_))
  | (with_reducible refine onB_n (fun _ => ?_) (fun _ => ?_))
  | refine OnB.mk (fun _ => ?_) (fun _ => ?_)
  | refine obl_i ?_ ?_
  | refine Drw.mk (by kernel_rfl) ?_
  | refine mks_i ?_ ?_
  | refine slp_i ?_ ?_
  | (with_reducible refine elem_u ?_ ?_)
  | (with_reducible refine elem_0 ?_)
  | (with_reducible refine elem_1 ?_)
  | (with_reducible refine strAt_i ?_ ?_)
  | (with_reducible refine elem_b ?_ ?_)
  | refine Ends.mk ?_))
 all_goals (try refine Pr.mk ?_)
 all_goals (try simp only [Option.getD_some, Option.getD_none, Int.toNat_natCast, Int.toNat_zero, bytesC_len, bsL_len, ByteArray.size_extract, eqb_iff, decide_eq_true_eq, decide_eq_false_iff_not, List.foldl_cons, List.foldl_nil] at *)
 all_goals (try simp (disch := omega) only [wi64] at *)
 all_goals first
  | ((conv => whnf); refine Sw.Loop.inv (α := Nat) (fun x => [(1, .ptr 1 0), (3, .str (padS (9 * x) n.natAbs)), (4, .int .i64 (x : Nat))]) (fun x => [(1, .var [zs n, zl n])]) (fun x => x ≤ (lim n.natAbs).length ∧ True) (fun x => (lim n.natAbs).length - x) 0 ?_ ?_ ?_ (fun x hx => ?_))
  | skip
 all_goals (repeat' ((try (conv => whnf)); first
  | refine call_0 ?_
  | refine call_i ?_ ?_
  | refine call_c ?_ (fun _ => ?_) (fun _ => ?_)
  | (with_reducible refine onB_t ?_)
  | (with_reducible refine onB_f ?_)
  | (with_reducible refine onB_d (fun _ => ?_) (fun _ => ?_))
  | (with_reducible refine onB_n (fun _ => ?_) (fun _ => ?_))
  | refine OnB.mk (fun _ => ?_) (fun _ => ?_)
  | refine obl_i ?_ ?_
  | refine Drw.mk (by kernel_rfl) ?_
  | refine mks_i ?_ ?_
  | refine slp_i ?_ ?_
  | (with_reducible refine elem_u ?_ ?_)
  | (with_reducible refine elem_0 ?_)
  | (with_reducible refine elem_1 ?_)
  | (with_reducible refine strAt_i ?_ ?_)
  | (with_reducible refine elem_b ?_ ?_)
  | refine Ends.mk ?_))
 all_goals (try refine Pr.mk ?_)
 all_goals (try simp only [Option.getD_some, Option.getD_none, Int.toNat_natCast, Int.toNat_zero, bytesC_len, bsL_len, ByteArray.size_extract, eqb_iff, decide_eq_true_eq, decide_eq_false_iff_not, List.foldl_cons, List.foldl_nil] at *)
 all_goals (try simp (disch := omega) only [wi64] at *)
 all_goals (try simp only [List.length_map] at *)
 all_goals first
  | (have hg : x < (lim n.natAbs).length := (by omega); (conv => whnf); refine Sw.Loop.inv (α := Nat) (fun k => [(1, .ptr 1 0), (3, .str (padS (9 * x + k) n.natAbs)), (4, .int .i64 (x : Nat)), (5, .int .u32 ((n.natAbs / 1000000000 ^ x % 1000000000 / 10 ^ k : Nat) : Int)), (6, .int .i64 (k : Nat))]) (fun k => [(1, .var [zs n, zl n])]) (fun k => k ≤ 9 ∧ True) (fun k => 9 - k) 0 ?_ ?_ ?_ (fun k hk => ?_))
  | skip
 all_goals (repeat' ((try (conv => whnf)); first
  | refine call_0 ?_
  | refine call_i ?_ ?_
  | refine call_c ?_ (fun _ => ?_) (fun _ => ?_)
  | (with_reducible refine onB_t ?_)
  | (with_reducible refine onB_f ?_)
  | (with_reducible refine onB_d (fun _ => ?_) (fun _ => ?_))
  | (with_reducible refine onB_n (fun _ => ?_) (fun _ => ?_))
  | refine OnB.mk (fun _ => ?_) (fun _ => ?_)
  | refine obl_i ?_ ?_
  | refine Drw.mk (by kernel_rfl) ?_
  | refine mks_i ?_ ?_
  | refine slp_i ?_ ?_
  | (with_reducible refine elem_u ?_ ?_)
  | (with_reducible refine elem_0 ?_)
  | (with_reducible refine elem_1 ?_)
  | (with_reducible refine strAt_i ?_ ?_)
  | (with_reducible refine elem_b ?_ ?_)
  | refine Ends.mk ?_))
 all_goals (try refine Pr.mk ?_)
 all_goals (try simp only [Option.getD_some, Option.getD_none, Int.toNat_natCast, Int.toNat_zero, bytesC_len, bsL_len, ByteArray.size_extract, eqb_iff, decide_eq_true_eq, decide_eq_false_iff_not, List.foldl_cons, List.foldl_nil] at *)
 all_goals (try simp (disch := omega) only [wi64] at *)
 all_goals (try simp only [List.length_map] at *)
 all_goals first
  | (have hg : ¬x < (lim n.natAbs).length := (by omega); (conv => whnf); refine Sw.Loop.inv (α := Nat) (fun j => [(1, .ptr 1 0), (3, .str (stS j n.natAbs))]) (fun j => [(1, .var [zs n, zl n])]) (fun j => j ≤ 9 * (lim n.natAbs).length ∧ True) (fun j => j) (9 * (lim n.natAbs).length - Lib.nDigits n.natAbs) ?_ ?_ ?_ (fun j hj => ?_))
  | skip
 all_goals (repeat' ((try (conv => whnf)); first
  | refine call_0 ?_
  | refine call_i ?_ ?_
  | refine call_c ?_ (fun _ => ?_) (fun _ => ?_)
  | (with_reducible refine onB_t ?_)
  | (with_reducible refine onB_f ?_)
  | (with_reducible refine onB_d (fun _ => ?_) (fun _ => ?_))
  | (with_reducible refine onB_n (fun _ => ?_) (fun _ => ?_))
  | refine OnB.mk (fun _ => ?_) (fun _ => ?_)
  | refine obl_i ?_ ?_
  | refine Drw.mk (by kernel_rfl) ?_
  | refine mks_i ?_ ?_
  | refine slp_i ?_ ?_
  | (with_reducible refine elem_u ?_ ?_)
  | (with_reducible refine elem_0 ?_)
  | (with_reducible refine elem_1 ?_)
  | (with_reducible refine strAt_i ?_ ?_)
  | (with_reducible refine elem_b ?_ ?_)
  | refine Ends.mk ?_))
 all_goals (try refine Pr.mk ?_)
 all_goals first | (show SubE _ _; repeat' (first | exact trivial | refine And.intro ?_ ?_)) | (show SubB _ _; repeat' (first | exact trivial | refine And.intro ?_ ?_)) | skip
 all_goals (try rfl)
 all_goals (try simp only [Option.getD_some, Option.getD_none, Int.toNat_natCast, Int.toNat_zero, bytesC_len, bsL_len, ByteArray.size_extract, eqb_iff, decide_eq_true_eq, decide_eq_false_iff_not, List.foldl_cons, List.foldl_nil] at *)
 all_goals (try simp (disch := omega) only [wi64] at *)
 all_goals (try simp only [List.length_map] at *)
 all_goals first
  | (obtain rfl : n = 0 := (by have := lim_len0 n.natAbs; omega); exact strE fmtD_0)
  | omega
  | rfl
  | exact ref_lim _ _
  | (rw [ref_es (by omega), padS_size]; omega)
  | exact ⟨by omega, trivial⟩
  | ((conv => whnf); exact ⟨k + 1, ⟨⟨rfl, ref_dig (by omega), rfl, congrArg (fun z => some (AV.int .u32 z)) ref_quo, inc64 (by omega), trivial⟩, ⟨rfl, trivial⟩, ⟨by omega, trivial⟩, by show 9 - (k + 1) < 9 - k; omega⟩⟩)
  | ((conv => whnf); exact ⟨x + 1, ⟨⟨rfl, ref_nxt (by omega) (by assumption), inc64 (by omega), trivial⟩, ⟨rfl, trivial⟩, ⟨by omega, trivial⟩, by show (lim n.natAbs).length - (x + 1) < (lim n.natAbs).length - x; omega⟩⟩)
  | exact ref_end (by omega) (by omega) (by assumption)
  | (have h0 := lim_len0 n.natAbs; have z := st_z (m := n.natAbs) (by omega) (by assumption); ((conv => whnf); exact ⟨j - 1, ⟨⟨rfl, congrArg (fun z => some (AV.str z)) (st_cut z), trivial⟩, ⟨rfl, trivial⟩, ⟨by omega, trivial⟩, by show j - 1 < j; omega⟩⟩))
  | (have z := stS_size j n.natAbs; have z2 := Lib.nDigits_pos n.natAbs; (repeat' apply And.intro) <;> first | omega | (intro h; cases h; done) | (intro h; rfl))
  | (have z := stS_size j n.natAbs; have z2 := dig_le hsz (by decide); have z3 : (ByteArray.mk #[45]).size = 1 := rfl; omega)
  | (have h0 := lim_len0 n.natAbs; obtain rfl := st_nz (m := n.natAbs) (by omega) (by assumption); exact strE (fmtD_neg (by assumption)))
  | (have h0 := lim_len0 n.natAbs; obtain rfl := st_nz (m := n.natAbs) (by omega) (by assumption); exact strE (fmtD_pos (by assumption)))
  | skip⟩

end Go.Proofs.YtghlkihmnopenaaDoor

namespace Go.Proofs.YtghlkihmnopenaaDoor
open Go Go.RowKit Go.Sw
set_option linter.unusedVariables false
set_option maxRecDepth 100000
set_option maxHeartbeats 8000000
set_option synthInstance.maxSize 4000
set_option synthInstance.maxHeartbeats 400000
instance s_hp (s p : ByteArray) : DenI Tryd.prog 60 [.str s, .str p] (True) (.bool (pfx s p)) := ⟨fun hp => by
 refine den_of (τ := tab) tab_ok mixed_ Tryd.func60 rfl (by kernel_rfl) (by kernel_rfl) (by kernel_rfl) ?_
 all_goals (repeat' ((try (conv => whnf)); first
  | refine call_0 ?_
  | refine call_i ?_ ?_
  | refine call_c ?_ (fun _ => ?_) (fun _ => ?_)
  | (with_reducible refine onB_t ?_)
  | (with_reducible refine onB_f ?_)
  | (with_reducible refine onB_d (fun _ => ?_) (fun _ => ?_))
  | (with_reducible refine onB_n (fun _ => ?_) (fun _ => ?_))
  | refine OnB.mk (fun _ => ?_) (fun _ => ?_)
  | refine obl_i ?_ ?_
  | refine Drw.mk (by kernel_rfl) ?_
  | refine mks_i ?_ ?_
  | refine slp_i ?_ ?_
  | (with_reducible refine elem_u ?_ ?_)
  | (with_reducible refine elem_0 ?_)
  | (with_reducible refine elem_1 ?_)
  | (with_reducible refine strAt_i ?_ ?_)
  | (with_reducible refine elem_b ?_ ?_)
  | refine Ends.mk ?_))
 all_goals (try refine Pr.mk ?_)
 all_goals (try simp only [Option.getD_some, Option.getD_none, Int.toNat_natCast, Int.toNat_zero] at *)
 all_goals first
  | exact hp_y (by assumption)
  | exact hp_n (by assumption)
  | rfl
  | omega
  | decide
  | ((repeat' apply And.intro) <;> first | omega | decide | (intro h; cases h; done) | (intro h; rfl))
  | skip⟩

instance s_cp0 (s p : ByteArray) : DenI Tryd.prog 41 [.str s, .str p] (True) (.tup [.str (cutP s p), .bool (pfx s p)]) := ⟨fun hp => by
 refine den_of (τ := tab) tab_ok mixed_ Tryd.func41 rfl (by kernel_rfl) (by kernel_rfl) (by kernel_rfl) ?_
 all_goals (repeat' ((try (conv => whnf)); first
  | refine call_0 ?_
  | refine call_i ?_ ?_
  | refine call_c ?_ (fun _ => ?_) (fun _ => ?_)
  | (with_reducible refine onB_t ?_)
  | (with_reducible refine onB_f ?_)
  | (with_reducible refine onB_d (fun _ => ?_) (fun _ => ?_))
  | (with_reducible refine onB_n (fun _ => ?_) (fun _ => ?_))
  | refine OnB.mk (fun _ => ?_) (fun _ => ?_)
  | refine obl_i ?_ ?_
  | refine Drw.mk (by kernel_rfl) ?_
  | refine mks_i ?_ ?_
  | refine slp_i ?_ ?_
  | (with_reducible refine elem_u ?_ ?_)
  | (with_reducible refine elem_0 ?_)
  | (with_reducible refine elem_1 ?_)
  | (with_reducible refine strAt_i ?_ ?_)
  | (with_reducible refine elem_b ?_ ?_)
  | refine Ends.mk ?_))
 all_goals (try refine Pr.mk ?_)
 all_goals (try simp only [Option.getD_some, Option.getD_none, Int.toNat_natCast, Int.toNat_zero] at *)
 all_goals first
  | exact cp_y (by assumption)
  | exact cp_n (by assumption)
  | (have z := pfx_le (by assumption); (repeat' apply And.intro) <;> first | omega | decide | (intro h; cases h; done))
  | rfl
  | omega
  | decide
  | ((repeat' apply And.intro) <;> first | omega | decide | (intro h; cases h; done) | (intro h; rfl))
  | skip⟩

instance s_hp2 (s p : ByteArray) : DenI Tryd.prog 38 [.str s, .str p] (True) (.bool (pfx s p)) := ⟨fun hp => by
 refine den_of (τ := tab) tab_ok mixed_ Tryd.func38 rfl (by kernel_rfl) (by kernel_rfl) (by kernel_rfl) ?_
 all_goals (repeat' ((try (conv => whnf)); first
  | refine call_0 ?_
  | refine call_i ?_ ?_
  | refine call_c ?_ (fun _ => ?_) (fun _ => ?_)
  | (with_reducible refine onB_t ?_)
  | (with_reducible refine onB_f ?_)
  | (with_reducible refine onB_d (fun _ => ?_) (fun _ => ?_))
  | (with_reducible refine onB_n (fun _ => ?_) (fun _ => ?_))
  | refine OnB.mk (fun _ => ?_) (fun _ => ?_)
  | refine obl_i ?_ ?_
  | refine Drw.mk (by kernel_rfl) ?_
  | refine mks_i ?_ ?_
  | refine slp_i ?_ ?_
  | (with_reducible refine elem_u ?_ ?_)
  | (with_reducible refine elem_0 ?_)
  | (with_reducible refine elem_1 ?_)
  | (with_reducible refine strAt_i ?_ ?_)
  | (with_reducible refine elem_b ?_ ?_)
  | refine Ends.mk ?_))
 all_goals (try refine Pr.mk ?_)
 all_goals (try simp only [Option.getD_some, Option.getD_none, Int.toNat_natCast, Int.toNat_zero] at *)
 all_goals first
  | rfl
  | omega
  | decide
  | ((repeat' apply And.intro) <;> first | omega | decide | (intro h; cases h; done) | (intro h; rfl))
  | skip⟩

instance s_cp (s p : ByteArray) : DenI Tryd.prog 23 [.str s, .str p] (True) (.tup [.str (cutP s p), .bool (pfx s p)]) := ⟨fun hp => by
 refine den_of (τ := tab) tab_ok mixed_ Tryd.func23 rfl (by kernel_rfl) (by kernel_rfl) (by kernel_rfl) ?_
 all_goals (repeat' ((try (conv => whnf)); first
  | refine call_0 ?_
  | refine call_i ?_ ?_
  | refine call_c ?_ (fun _ => ?_) (fun _ => ?_)
  | (with_reducible refine onB_t ?_)
  | (with_reducible refine onB_f ?_)
  | (with_reducible refine onB_d (fun _ => ?_) (fun _ => ?_))
  | (with_reducible refine onB_n (fun _ => ?_) (fun _ => ?_))
  | refine OnB.mk (fun _ => ?_) (fun _ => ?_)
  | refine obl_i ?_ ?_
  | refine Drw.mk (by kernel_rfl) ?_
  | refine mks_i ?_ ?_
  | refine slp_i ?_ ?_
  | (with_reducible refine elem_u ?_ ?_)
  | (with_reducible refine elem_0 ?_)
  | (with_reducible refine elem_1 ?_)
  | (with_reducible refine strAt_i ?_ ?_)
  | (with_reducible refine elem_b ?_ ?_)
  | refine Ends.mk ?_))
 all_goals (try refine Pr.mk ?_)
 all_goals (try simp only [Option.getD_some, Option.getD_none, Int.toNat_natCast, Int.toNat_zero] at *)
 all_goals first
  | rfl
  | omega
  | decide
  | ((repeat' apply And.intro) <;> first | omega | decide | (intro h; cases h; done) | (intro h; rfl))
  | skip⟩

end Go.Proofs.YtghlkihmnopenaaDoor

namespace Go.Proofs.YtghlkihmnopenaaDoor
open Go Go.RowKit Go.Sw
set_option linter.unusedVariables false
set_option maxRecDepth 100000
set_option maxHeartbeats 8000000
set_option synthInstance.maxSize 4000
set_option synthInstance.maxHeartbeats 400000
instance s_parse (s : ByteArray) : DenI Tryd.prog 8 [.str s] (True) (parR s) := ⟨fun hp => by
 have hcs := cutP_size s mB
 all_goals refine den_of (τ := tab) tab_ok mixed_ Tryd.func8 rfl (by kernel_rfl) (by kernel_rfl) (by kernel_rfl) ?_
 all_goals (repeat' ((try (conv => whnf)); first
  | refine call_0 ?_
  | refine call_i ?_ ?_
  | refine call_c ?_ (fun _ => ?_) (fun _ => ?_)
  | (with_reducible refine onB_t ?_)
  | (with_reducible refine onB_f ?_)
  | (with_reducible refine onB_d (fun _ => ?_) (fun _ => ?_))
  | (with_reducible refine onB_n (fun _ => ?_) (fun _ => ?_))
  | refine OnB.mk (fun _ => ?_) (fun _ => ?_)
  | refine obl_i ?_ ?_
  | refine Drw.mk (by kernel_rfl) ?_
  | refine mks_i ?_ ?_
  | refine slp_i ?_ ?_
  | (with_reducible refine elem_u ?_ ?_)
  | (with_reducible refine elem_0 ?_)
  | (with_reducible refine elem_1 ?_)
  | (with_reducible refine strAt_i ?_ ?_)
  | (with_reducible refine elem_b ?_ ?_)
  | refine Ends.mk ?_))
 all_goals (try refine Pr.mk ?_)
 all_goals (try simp only [Option.getD_some, Option.getD_none, Int.toNat_natCast, Int.toNat_zero, bytesC_len, bsL_len, ByteArray.size_extract, eqb_iff, decide_eq_true_eq, decide_eq_false_iff_not, List.foldl_cons, List.foldl_nil] at *)
 all_goals (try simp (disch := omega) only [wi64] at *)
 all_goals first
  | ((conv => whnf); refine Sw.Loop.inv (α := Nat) (fun k => [(0, .str s), (2, .ptr 2 0), (3, .int .i64 0), (4, .str (cutP s mB)), (5, .bool (pfx s mB)), (39, .int .i64 ((cutP s mB).size : Nat)), (40, .int .i64 (k : Nat))]) (fun k => [(2, .var [.v (.bool false), .sl 1 []])]) (fun k => k ≤ (cutP s mB).size ∧ ∀ j, j < k → dgt (bsL (cutP s mB)) j) (fun k => (cutP s mB).size - k) 0 ?_ ?_ ?_ (fun k hk => ?_))
  | skip
 all_goals (repeat' ((try (conv => whnf)); first
  | refine call_0 ?_
  | refine call_i ?_ ?_
  | refine call_c ?_ (fun _ => ?_) (fun _ => ?_)
  | (with_reducible refine onB_t ?_)
  | (with_reducible refine onB_f ?_)
  | (with_reducible refine onB_d (fun _ => ?_) (fun _ => ?_))
  | (with_reducible refine onB_n (fun _ => ?_) (fun _ => ?_))
  | refine OnB.mk (fun _ => ?_) (fun _ => ?_)
  | refine obl_i ?_ ?_
  | refine Drw.mk (by kernel_rfl) ?_
  | refine mks_i ?_ ?_
  | refine slp_i ?_ ?_
  | (with_reducible refine elem_u ?_ ?_)
  | (with_reducible refine elem_0 ?_)
  | (with_reducible refine elem_1 ?_)
  | (with_reducible refine strAt_i ?_ ?_)
  | (with_reducible refine elem_b ?_ ?_)
  | refine Ends.mk ?_))
 all_goals (try refine Pr.mk ?_)
 all_goals (try simp only [Option.getD_some, Option.getD_none, Int.toNat_natCast, Int.toNat_zero, bytesC_len, bsL_len, ByteArray.size_extract, eqb_iff, decide_eq_true_eq, decide_eq_false_iff_not, List.foldl_cons, List.foldl_nil] at *)
 all_goals (try simp (disch := omega) only [wi64] at *)
 all_goals first
  | ((conv => whnf); refine Sw.Loop.ghost 7 100 38 1 ?_ rfl rfl rfl (by decide))
  | skip
 all_goals first
  | ((conv => whnf); refine Sw.Loop.inv (α := Nat) (fun m => [(2, .ptr 2 0), (3, .int .i64 0), (4, .str (cutP s mB)), (5, .bool (pfx s mB)), (7, .gs 100 m), (8, .int .i64 (((cutP s mB).size : Int) - 9 * (m : Int)))]) (fun m => [(2, .var [.v (.bool false), .sl 1 []]), (100, .grow 38 1 ((grp (bsL (cutP s mB)) m).map fun x => [.v (u32 x)]))]) (fun m => 9 * m < (cutP s mB).size + 9 ∧ True) (fun m => (cutP s mB).size + 9 - 9 * m) 0 ?_ ?_ ?_ (fun m hm => ?_))
  | skip
 all_goals (repeat' ((try (conv => whnf)); first
  | refine call_0 ?_
  | refine call_i ?_ ?_
  | refine call_c ?_ (fun _ => ?_) (fun _ => ?_)
  | (with_reducible refine onB_t ?_)
  | (with_reducible refine onB_f ?_)
  | (with_reducible refine onB_d (fun _ => ?_) (fun _ => ?_))
  | (with_reducible refine onB_n (fun _ => ?_) (fun _ => ?_))
  | refine OnB.mk (fun _ => ?_) (fun _ => ?_)
  | refine obl_i ?_ ?_
  | refine Drw.mk (by kernel_rfl) ?_
  | refine mks_i ?_ ?_
  | refine slp_i ?_ ?_
  | (with_reducible refine elem_u ?_ ?_)
  | (with_reducible refine elem_0 ?_)
  | (with_reducible refine elem_1 ?_)
  | (with_reducible refine strAt_i ?_ ?_)
  | (with_reducible refine elem_b ?_ ?_)
  | refine Ends.mk ?_))
 all_goals (try refine Pr.mk ?_)
 all_goals (try simp only [Option.getD_some, Option.getD_none, Int.toNat_natCast, Int.toNat_zero, bytesC_len, bsL_len, ByteArray.size_extract, eqb_iff, decide_eq_true_eq, decide_eq_false_iff_not, List.foldl_cons, List.foldl_nil] at *)
 all_goals (try simp (disch := omega) only [wi64] at *)
 all_goals first
  | ((conv => whnf); refine Sw.Loop.inv (α := Nat) (fun q => [(2, .ptr 2 0), (3, .int .i64 0), (4, .str (cutP s mB)), (5, .bool (pfx s mB)), (7, .gs 100 m), (8, .int .i64 (((cutP s mB).size : Int) - 9 * (m : Int))), (67, .c (.sl 1 (bytesC ((cutP s mB).extract ((cutP s mB).size - 9 * (m + 1)) ((cutP s mB).size - 9 * m))))), (68, .int .i64 ((gbs (cutP s mB) m).length : Nat)), (69, .int .i64 (q : Nat)), (9, .int .u32 (decV ((gbs (cutP s mB) m).take q) : Nat))]) (fun q => [(2, .var [.v (.bool false), .sl 1 []]), (100, .grow 38 1 ((grp (bsL (cutP s mB)) m).map fun x => [.v (u32 x)]))]) (fun q => q ≤ (gbs (cutP s mB) m).length ∧ True) (fun q => (gbs (cutP s mB) m).length - q) 0 ?_ ?_ ?_ (fun q hq => ?_))
  | skip
 all_goals (repeat' ((try (conv => whnf)); first
  | refine call_0 ?_
  | refine call_i ?_ ?_
  | refine call_c ?_ (fun _ => ?_) (fun _ => ?_)
  | (with_reducible refine onB_t ?_)
  | (with_reducible refine onB_f ?_)
  | (with_reducible refine onB_d (fun _ => ?_) (fun _ => ?_))
  | (with_reducible refine onB_n (fun _ => ?_) (fun _ => ?_))
  | refine OnB.mk (fun _ => ?_) (fun _ => ?_)
  | refine obl_i ?_ ?_
  | refine Drw.mk (by kernel_rfl) ?_
  | refine mks_i ?_ ?_
  | refine slp_i ?_ ?_
  | (with_reducible refine elem_u ?_ ?_)
  | (with_reducible refine elem_0 ?_)
  | (with_reducible refine elem_1 ?_)
  | (with_reducible refine strAt_i ?_ ?_)
  | (with_reducible refine elem_b ?_ ?_)
  | refine Ends.mk ?_))
 all_goals (try refine Pr.mk ?_)
 all_goals first | (show SubE _ _; repeat' (first | exact trivial | refine And.intro ?_ ?_)) | (show SubB _ _; repeat' (first | exact trivial | refine And.intro ?_ ?_)) | skip
 all_goals (try rfl)
 all_goals (try simp only [Option.getD_some, Option.getD_none, Int.toNat_natCast, Int.toNat_zero, bytesC_len, bsL_len, ByteArray.size_extract, eqb_iff, decide_eq_true_eq, decide_eq_false_iff_not, List.foldl_cons, List.foldl_nil] at *)
 all_goals (try simp (disch := omega) only [wi64] at *)
 all_goals first
  | ((conv => whnf); exact ⟨k + 1, ⟨⟨rfl, rfl, rfl, rfl, rfl, rfl, inc64 (by omega), trivial⟩, ⟨rfl, trivial⟩, ⟨by omega, dg_step hk.2 (by assumption) (by assumption)⟩, by show (cutP s mB).size - (k + 1) < (cutP s mB).size - k; omega⟩⟩)
  | (have z := gbs_len (cutP s mB) m; ((conv => whnf); exact ⟨q + 1, ⟨⟨rfl, rfl, rfl, rfl, rfl, rfl, rfl, rfl, inc64 (by omega), gbs_u32 (all_of hk.1 (by assumption) hk.2) (by omega), trivial⟩, ⟨rfl, rfl, trivial⟩, ⟨by omega, trivial⟩, by show (gbs (cutP s mB) m).length - (q + 1) < (gbs (cutP s mB) m).length - q; omega⟩⟩))
  | ((conv => whnf); exact ⟨m + 1, ⟨⟨rfl, rfl, rfl, rfl, gsE (by simp [grp_len]), iS (by rw [wi64 (by omega) (by omega)]; omega), trivial⟩, ⟨rfl, grpX (by omega), trivial⟩, ⟨by omega, trivial⟩, by show (cutP s mB).size + 9 - 9 * (m + 1) < (cutP s mB).size + 9 - 9 * m; omega⟩⟩)
  | exact ne_size (by assumption)
  | exact ⟨Nat.zero_le _, fun j hj => by omega⟩
  | exact ⟨Nat.zero_le _, trivial⟩
  | exact ⟨by omega, trivial⟩
  | (refine ext_eq ?_ ?_ <;> first | omega | (split <;> omega))
  | (refine iS ?_; rw [gbs_len]; first | omega | (split <;> omega))
  | exact grp_lb (dgts (all_of hk.1 (by assumption) hk.2)) _
  | exact par_yes (ok_y (by assumption) (by assumption) (ok_a (by assumption)) (all_of hk.1 (by assumption) hk.2)) (grp_end (by assumption))
  | exact par_yes (ok_y (by assumption) (by assumption) (ok_b (by assumption) (by assumption)) (all_of hk.1 (by assumption) hk.2)) (grp_end (by assumption))
  | ((repeat' apply And.intro) <;> first | omega | (split <;> omega) | (intro h; rfl))
  | (simp only [List.length_map, List.length_append, grp_len, List.length_cons, List.length_nil]; omega)
  | (have z := gbs_len (cutP s mB) m; omega)
  | (rw [grp_len])
  | (rw [List.length_map, grp_len])
  | exact par_no (ok_n1 (by assumption))
  | exact par_no (ok_n2 (by assumption))
  | exact par_no (ok_n3 (by assumption) (by assumption))
  | exact par_no (ok_n4 (by assumption) (by assumption))
  | exact par_no (ok_n5 (k := k) (by omega) (dg_lo (by assumption)))
  | exact par_no (ok_n5 (k := k) (by omega) (dg_hi (by assumption)))
  | rfl
  | omega
  | skip⟩

end Go.Proofs.YtghlkihmnopenaaDoor

namespace Go.Sw
open Go Go.Lib Go.RowKit
set_option linter.unusedVariables false
theorem rp_pfx {s : ByteArray} (h : (s.size : Int) > 0) : decide (((((bsL s).getD 0 0 : Nat) : Int)) = 45) = pfx s mB := by
  rw [pfx_iff]
  cases hb : bsL s with
  | nil => have := bsL_len s; rw [hb] at this; simp at this; omega
  | cons x r =>
    apply decide_eq_decide.2
    simp
    omega
theorem rp_y {s : ByteArray} (h0 : (s.size : Int) > 0) (h : (((bsL s).getD 0 0 : Nat) : Int) = 45) : s.extract 1 s.size = cutP s mB ∧ pfx s mB = true := by
  have hp : pfx s mB = true := by rw [← rp_pfx h0, decide_eq_true h]
  refine ⟨?_, hp⟩
  apply bsL_inj
  rw [bsL_cut, hp, if_pos rfl, bsL_ext, show s.size = (bsL s).length from (bsL_len s).symm, List.take_length]
theorem rp_n {s : ByteArray} (h : ¬(((bsL s).getD 0 0 : Nat) : Int) = 45) : cutP s mB = s ∧ pfx s mB = false := by
  have hp : pfx s mB = false := by
    rw [pfx_iff]
    cases hb : bsL s with
    | nil => rfl
    | cons x r => rw [hb] at h; apply decide_eq_false; simp at h ⊢; omega
  exact ⟨by unfold cutP; rw [hp, if_neg (by decide)], hp⟩
theorem rp_n0 {s : ByteArray} (h : ¬(s.size : Int) > 0) : cutP s mB = s ∧ pfx s mB = false := by
  apply rp_n
  have : bsL s = [] := List.length_eq_zero_iff.1 (by rw [bsL_len]; omega)
  rw [this]; simp
theorem rp_cases (s : ByteArray) : (decide ((s.size : Int) > 0) = true ∧ decide ((((bsL s).getD (Int.toNat 0) 0 : Nat) : Int) = 45) = true ∧ cutP s mB = s.extract (Int.toNat 1) s.size ∧ pfx s mB = true ∧ (cutP s mB).size + 1 = s.size) ∨
    (decide ((s.size : Int) > 0) = true ∧ decide ((((bsL s).getD (Int.toNat 0) 0 : Nat) : Int) = 45) = false ∧ cutP s mB = s ∧ pfx s mB = false ∧ (cutP s mB).size = s.size) ∨ (decide ((s.size : Int) > 0) = false ∧ cutP s mB = s ∧ pfx s mB = false ∧ (cutP s mB).size = s.size) := by
  by_cases h0 : (s.size : Int) > 0
  · by_cases h : (((bsL s).getD 0 0 : Nat) : Int) = 45
    · obtain ⟨h1, h2⟩ := rp_y h0 h
      exact .inl ⟨decide_eq_true h0, decide_eq_true h, h1.symm, h2, by rw [← h1, ByteArray.size_extract]; omega⟩
    · obtain ⟨h1, h2⟩ := rp_n h
      exact .inr (.inl ⟨decide_eq_true h0, decide_eq_false h, h1, h2, by rw [h1]⟩)
  · obtain ⟨h1, h2⟩ := rp_n0 h0
    exact .inr (.inr ⟨decide_eq_false h0, h1, h2, by rw [h1]⟩)
theorem tm_lt {k n : Nat} (h : (k : Int) < ((n : Nat) : Int).tmod 9) : k < n % 9 := by rw [Int.tmod_eq_emod_of_nonneg (Int.natCast_nonneg n)] at h; omega
theorem tm_ge {k n : Nat} (h0 : k ≤ n % 9) (h : ¬(k : Int) < ((n : Nat) : Int).tmod 9) : k = n % 9 := by rw [Int.tmod_eq_emod_of_nonneg (Int.natCast_nonneg n)] at h; omega
theorem td_n {n : Nat} (h : n ≤ 1000000) : (IntKind.i64.wrap (((n : Nat) : Int).tdiv 9)).toNat = n / 9 := by rw [Int.tdiv_eq_ediv_of_nonneg (Int.natCast_nonneg n), wi64 (by omega) (by omega)]; omega
theorem td_i {n : Nat} (h : n ≤ 1000000) : IntKind.i64.wrap (((n : Nat) : Int).tdiv 9) = ((n / 9 : Nat) : Int) := by rw [Int.tdiv_eq_ediv_of_nonneg (Int.natCast_nonneg n), wi64 (by omega) (by omega)]; omega
theorem ok_n6 {s : ByteArray} (h : (((bsL (cutP s mB)).getD 0 0 : Nat) : Int) = 48) (h2 : (!decide (bsL s = bsL ⟨#[48]⟩)) = true) : okI s = false := by
  cases hp : pfx s mB with
  | true => exact ok_n4 h hp
  | false =>
    by_cases h1 : ((cutP s mB).size : Int) > 1
    · exact ok_n3 h h1
    · exfalso
      have hc : cutP s mB = s := by unfold cutP; rw [hp, if_neg (by decide)]
      rw [hc] at h h1
      have hl := bsL_len s
      cases hb : bsL s with
      | nil => rw [hb] at h; simp at h
      | cons x r =>
        rw [hb] at hl h h2
        cases r with
        | nil =>
          have hx : (x : Int) = 48 := h
          obtain rfl : x = 48 := by omega
          exact absurd h2 (by decide)
        | cons y r => simp only [List.length_cons] at hl; omega
theorem ok_c {s : ByteArray} (h2 : (!decide (bsL s = bsL ⟨#[48]⟩)) = false) : ¬((((bsL (cutP s mB)).getD 0 0 : Nat) : Int) = 48 ∧ (((cutP s mB).size : Int) > 1 ∨ pfx s mB = true)) := by
  have e : bsL s = bsL ⟨#[48]⟩ := by simpa using h2
  obtain rfl := bsL_inj e
  decide +kernel
theorem mk_sz {n : Nat} (h : n ≤ 1000000) : IntKind.i64.wrap (IntKind.i64.wrap ((n : Int).tdiv 9) + 1) = ((n / 9 + 1 : Nat) : Int) := by
  rw [Int.tdiv_eq_ediv_of_nonneg (Int.natCast_nonneg n), wi64 (a := (n : Int) / 9) (by omega) (by omega), wi64 (by omega) (by omega)]; omega
theorem rp_z {l : List Nat} {m T k : Nat} (h : k = m) : some (Bk.grow T 1 (List.replicate k [Cell.v (.int .u32 0)])) = some (Bk.grow T 1 ((grp (fstD l 0) m).map fun x => [Cell.v (u32 x)])) := by
  rw [fstD_0, List.map_replicate, h]; rfl
theorem rp_pow {k n : Nat} (h : k < n % 9) : some (AV.c (Cell.v (.int .u32 (IntKind.u32.wrap (((10 ^ k : Nat) : Int) * 10))))) = some (AV.int .u32 ((10 ^ (k + 1) : Nat) : Int)) := by
  have h9 : 10 ^ k ≤ 10 ^ 7 := Nat.pow_le_pow_right (by decide) (by omega)
  rw [Nat.pow_succ]
  generalize 10 ^ k = q at h9 ⊢
  rw [IntKind.wrap_u32]
  exact congrArg (fun z => some (AV.int .u32 z)) (by omega)
theorem grp_get {l : List Nat} {m i : Nat} (h : i < m) : (grp l m).getD i 0 = chk l i := by
  unfold grp
  rw [List.getD_eq_getElem?_getD, List.getElem?_map, List.getElem?_range h]; rfl
/-- A digit is set at its place. -/
theorem rp_set {b : ByteArray} {x k M T i : Nat} {v : Int} (hx : x < b.size) (hd : ∀ j, j < x → dgt (bsL b) j) (h1 : ¬(((bsL b).getD x 0 : Nat) : Int) < 48) (h2 : ¬(((bsL b).getD x 0 : Nat) : Int) > 57)
    (hk : k = (b.size - 1 - x) % 9) (hi : i = (b.size - 1 - x) / 9) (hM : M = b.size / 9 + 1)
    (hv : v = IntKind.u32.wrap ((((grp (fstD (bsL b) x) M).getD i 0 : Nat) : Int) + IntKind.u32.wrap (IntKind.u32.wrap (IntKind.u8.wrap ((((bsL b).getD x 0 : Nat) : Int) - 48)) * ((10 ^ k : Nat) : Int)))) :
    some (Bk.grow T 1 (((grp (fstD (bsL b) x) M).map fun x => [Cell.v (u32 x)]).set i [Cell.v (.int .u32 v)])) = some (Bk.grow T 1 ((grp (fstD (bsL b) (x + 1)) M).map fun x => [Cell.v (u32 x)])) := by
  have hl := bsL_len b
  have hg := grp_set (l := bsL b) (x := x) (M := M) (by omega) (by omega)
  rw [hl, ← hi, ← hk] at hg
  have hdd : ∀ j, j < x + 1 → 48 ≤ (bsL b).getD j 0 ∧ (bsL b).getD j 0 ≤ 57 := dg_step hd h1 h2
  have hc1 := chk_lt (l := fstD (bsL b) (x + 1)) (fstD_dg hdd (by omega)) i
  obtain ⟨f1, f2⟩ := fstD_step (l := bsL b) (x := x) (by omega)
  have hcs := chk_set (l := fstD (bsL b) x) (i := x) (c := (bsL b).getD x 0) (by rw [fstD_len (by omega)]; omega) f2 (by omega) i
  rw [← f1, fstD_len (by omega), hl, ← hi, if_pos rfl, ← hk] at hcs
  rw [grp_get (by omega)] at hv
  have hq : v = ((chk (fstD (bsL b) x) i + ((bsL b).getD x 0 - 48) * 10 ^ k : Nat) : Int) := by
    rw [hcs] at hc1
    obtain ⟨y, hy⟩ : ∃ y, (bsL b).getD x 0 = 48 + y := ⟨(bsL b).getD x 0 - 48, by omega⟩
    rw [hy] at hv hc1 h2 ⊢
    rw [show 48 + y - 48 = y by omega] at hc1 ⊢
    rw [hv, show IntKind.u8.wrap (((48 + y : Nat) : Int) - 48) = y by rw [IntKind.wrap_u8]; omega, show IntKind.u32.wrap (y : Int) = y by rw [IntKind.wrap_u32]; omega, ← Int.natCast_mul]
    generalize y * 10 ^ k = p at hc1 ⊢
    rw [IntKind.wrap_u32, IntKind.wrap_u32]
    omega
  rw [hg, hq, ← setM]
theorem fst_all {b : ByteArray} {x : Nat} (hx : x ≤ b.size) (h : ¬(x : Int) < b.size) : fstD (bsL b) x = bsL b := by
  rw [show x = (bsL b).length by rw [bsL_len]; omega, fstD_all]
end Go.Sw

namespace Go.Proofs.YtghlkihmnopenaaDoor
open Go Go.RowKit Go.Sw
set_option linter.unusedVariables false
set_option maxRecDepth 100000
set_option maxHeartbeats 8000000
set_option synthInstance.maxSize 4000
set_option synthInstance.maxHeartbeats 400000
instance t_rpar (s : ByteArray) : DenI Tryd.prog 9 [.str s] (True) (parR s) := ⟨fun hp => by
 have hcs := cutP_size s mB
 rcases rp_cases s with ⟨h0, h45, hq1, hq2, hqs⟩ | ⟨h0, h45, hq1, hq2, hqs⟩ | ⟨h0, hq1, hq2, hqs⟩
 all_goals refine den_of (τ := tabs) tabs_ok mixed_ Tryd.func9 rfl (by kernel_rfl) (by kernel_rfl) (by kernel_rfl) ?_
 all_goals (repeat' ((try (conv => whnf)); first
  | (with_reducible refine onB_yes (by assumption) ?_)
  | (with_reducible refine onB_no (by assumption) ?_)
  | refine call_0 ?_
  | refine call_i ?_ ?_
  | refine call_c ?_ (fun _ => ?_) (fun _ => ?_)
  | (with_reducible refine onB_t ?_)
  | (with_reducible refine onB_f ?_)
  | (with_reducible refine onB_d (fun _ => ?_) (fun _ => ?_))
  | (with_reducible refine onB_n (fun _ => ?_) (fun _ => ?_))
  | refine OnB.mk (fun _ => ?_) (fun _ => ?_)
  | refine obl_i ?_ ?_
  | refine Drw.mk (by kernel_rfl) ?_
  | refine mks_i ?_ ?_
  | refine slp_i ?_ ?_
  | (with_reducible refine elem_u ?_ ?_)
  | (with_reducible refine elem_0 ?_)
  | (with_reducible refine elem_1 ?_)
  | (with_reducible refine strAt_i ?_ ?_)
  | (with_reducible refine elem_b ?_ ?_)
  | refine Ends.mk ?_))
 all_goals (try refine Pr.mk ?_)
 all_goals (try simp only [Option.getD_some, Option.getD_none, Int.toNat_natCast, Int.toNat_zero, bytesC_len, bsL_len, ByteArray.size_extract, eqb_iff, decide_eq_true_eq, decide_eq_false_iff_not, List.foldl_cons, List.foldl_nil] at *)
 all_goals (try simp (disch := omega) only [wi64] at *)
 all_goals (try simp only [List.length_map] at *)
 all_goals first
  | ((conv => whnf); refine Sw.Loop.inv (α := Nat) (fun x => [(0, .str s), (2, .ptr 2 0), (4, .str (cutP s mB)), (5, .gs 42 ((cutP s mB).size / 9 + 1)), (6, .int .i64 (x : Nat))]) (fun x => [(2, .var [.v (.bool false), .sl 1 []]), (42, .grow 38 1 ((grp (fstD (bsL (cutP s mB)) x) ((cutP s mB).size / 9 + 1)).map fun x => [.v (u32 x)]))]) (fun x => x ≤ (cutP s mB).size ∧ ∀ j, j < x → dgt (bsL (cutP s mB)) j) (fun x => (cutP s mB).size - x) 0 ?_ ?_ ?_ (fun x hx => ?_))
  | skip
 all_goals (repeat' ((try (conv => whnf)); first
  | refine call_0 ?_
  | refine call_i ?_ ?_
  | refine call_c ?_ (fun _ => ?_) (fun _ => ?_)
  | (with_reducible refine onB_t ?_)
  | (with_reducible refine onB_f ?_)
  | (with_reducible refine onB_d (fun _ => ?_) (fun _ => ?_))
  | (with_reducible refine onB_n (fun _ => ?_) (fun _ => ?_))
  | refine OnB.mk (fun _ => ?_) (fun _ => ?_)
  | refine obl_i ?_ ?_
  | refine Drw.mk (by kernel_rfl) ?_
  | refine mks_i ?_ ?_
  | refine slp_i ?_ ?_
  | (with_reducible refine elem_u ?_ ?_)
  | (with_reducible refine elem_0 ?_)
  | (with_reducible refine elem_1 ?_)
  | (with_reducible refine strAt_i ?_ ?_)
  | (with_reducible refine elem_b ?_ ?_)
  | refine Ends.mk ?_))
 all_goals (try refine Pr.mk ?_)
 all_goals (try simp only [Option.getD_some, Option.getD_none, Int.toNat_natCast, Int.toNat_zero, bytesC_len, bsL_len, ByteArray.size_extract, eqb_iff, decide_eq_true_eq, decide_eq_false_iff_not, List.foldl_cons, List.foldl_nil] at *)
 all_goals (try simp (disch := omega) only [wi64] at *)
 all_goals (try simp only [List.length_map] at *)
 all_goals first
  | ((conv => whnf); refine Sw.Loop.inv (α := Nat) (fun k => [(0, .str s), (2, .ptr 2 0), (4, .str (cutP s mB)), (5, .gs 42 ((cutP s mB).size / 9 + 1)), (6, .int .i64 (x : Nat)), (7, .int .i64 (((cutP s mB).size - 1 - x : Nat) : Int)), (8, .int .u32 ((10 ^ k : Nat) : Int)), (9, .int .i64 (k : Nat))]) (fun k => [(2, .var [.v (.bool false), .sl 1 []]), (42, .grow 38 1 ((grp (fstD (bsL (cutP s mB)) x) ((cutP s mB).size / 9 + 1)).map fun x => [.v (u32 x)]))]) (fun k => k ≤ ((cutP s mB).size - 1 - x) % 9 ∧ True) (fun k => ((cutP s mB).size - 1 - x) % 9 - k) 0 ?_ ?_ ?_ (fun k hk => ?_))
  | skip
 all_goals (repeat' ((try (conv => whnf)); first
  | refine call_0 ?_
  | refine call_i ?_ ?_
  | refine call_c ?_ (fun _ => ?_) (fun _ => ?_)
  | (with_reducible refine onB_t ?_)
  | (with_reducible refine onB_f ?_)
  | (with_reducible refine onB_d (fun _ => ?_) (fun _ => ?_))
  | (with_reducible refine onB_n (fun _ => ?_) (fun _ => ?_))
  | refine OnB.mk (fun _ => ?_) (fun _ => ?_)
  | refine obl_i ?_ ?_
  | refine Drw.mk (by kernel_rfl) ?_
  | refine mks_i ?_ ?_
  | refine slp_i ?_ ?_
  | (with_reducible refine elem_u ?_ ?_)
  | (with_reducible refine elem_0 ?_)
  | (with_reducible refine elem_1 ?_)
  | (with_reducible refine strAt_i ?_ ?_)
  | (with_reducible refine elem_b ?_ ?_)
  | refine Ends.mk ?_))
 all_goals (try refine Pr.mk ?_)
 all_goals first | (show SubE _ _; repeat' (first | exact trivial | refine And.intro ?_ ?_)) | (show SubB _ _; repeat' (first | exact trivial | refine And.intro ?_ ?_)) | skip
 all_goals (try rfl)
 all_goals (try simp only [Option.getD_some, Option.getD_none, Int.toNat_natCast, Int.toNat_zero, bytesC_len, bsL_len, ByteArray.size_extract, eqb_iff, decide_eq_true_eq, decide_eq_false_iff_not, List.foldl_cons, List.foldl_nil] at *)
 all_goals (try simp (disch := omega) only [wi64] at *)
 all_goals (try simp only [List.length_map] at *)
 all_goals first
  | ((with_reducible show awp _ _ _ _ _ _); ((conv => whnf); exact ⟨k + 1, ⟨⟨rfl, rfl, rfl, rfl, rfl, rfl, rp_pow (n := (cutP s mB).size - 1 - x) (tm_lt (by assumption)), inc64 (by omega), trivial⟩, ⟨rfl, rfl, trivial⟩, ⟨by have := tm_lt (n := (cutP s mB).size - 1 - x) (by assumption); omega, trivial⟩, by have := tm_lt (n := (cutP s mB).size - 1 - x) (by assumption); show ((cutP s mB).size - 1 - x) % 9 - (k + 1) < ((cutP s mB).size - 1 - x) % 9 - k; omega⟩⟩))
  | ((with_reducible show awp _ _ _ _ _ _); ((conv => whnf); exact ⟨x + 1, ⟨⟨rfl, rfl, rfl, rfl, inc64 (by omega), trivial⟩, ⟨rfl, rp_set (by omega) hx.2 (by assumption) (by assumption) (k := k) (tm_ge (by omega) (by assumption)) (td_n (by omega)) rfl rfl, trivial⟩, ⟨by omega, dg_step hx.2 (by assumption) (by assumption)⟩, by show (cutP s mB).size - (x + 1) < (cutP s mB).size - x; omega⟩⟩))
  | omega
  | (with_reducible exact par_no (ok_n1 (by first | assumption | (rw [hq1]; assumption))))
  | (with_reducible exact par_no (ok_n2 (by assumption)))
  | (with_reducible exact par_no (ok_n6 (by first | assumption | (rw [hq1]; assumption)) (by assumption)))
  | (with_reducible exact par_no (ok_n5 (k := x) (by omega) (dg_lo (by assumption))))
  | (with_reducible exact par_no (ok_n5 (k := x) (by omega) (dg_hi (by assumption))))
  | (rw [grp_len]; done)
  | (have z := ne_size (b := s.extract (Int.toNat 1) s.size) (by assumption); rw [ByteArray.size_extract] at z; exact z)
  | exact ne_size (by assumption)
  | (rw [grp_len, td_i (by omega)]; omega)
  | (rw [grp_len, td_n (by omega)]; omega)
  | (exfalso; have z := ne_size (b := s) (by assumption); omega)
  | exact grp_lb (fstD_dg hx.2 (by rw [bsL_len]; exact hx.1)) _
  | (show ld 4 _ = _; exact congrArg (fun z => some (AV.str z)) hq1.symm)
  | (show ld 4 _ = _; rfl)
  | (show ld 5 _ = _; refine gsE ?_; rw [show min s.size s.size - Int.toNat 1 = (cutP s mB).size by (have := tz1; omega), mk_sz (by omega)]; omega)
  | (show ld 5 _ = _; refine gsE ?_; rw [show s.size = (cutP s mB).size by omega, mk_sz (by omega)]; omega)
  | (show ld 42 _ = _; refine rp_z ?_; rw [show min s.size s.size - Int.toNat 1 = (cutP s mB).size by (have := tz1; omega), mk_sz (by omega)]; omega)
  | (show ld 42 _ = _; refine rp_z ?_; rw [show s.size = (cutP s mB).size by omega, mk_sz (by omega)]; omega)
  | (show ld 7 _ = _; refine iS ?_; omega)
  | (rw [show min s.size s.size - Int.toNat 1 = (cutP s mB).size by (have := tz1; omega), mk_sz (by omega)]; omega)
  | (rw [show s.size = (cutP s mB).size by omega, mk_sz (by omega)]; omega)
  | exact ⟨Nat.zero_le _, fun j hj => by omega⟩
  | exact ⟨by omega, trivial⟩
  | (rw [rp_pfx (by assumption)]; with_reducible exact par_yes (ok_y (by first | assumption | (rw [hq1]; assumption)) (by assumption) (ok_c (by assumption)) (all_of hx.1 (by assumption) hx.2)) (by rw [fst_all hx.1 (by assumption)]; exact val_grp_all (by rw [bsL_len]; omega)))
  | (rw [rp_pfx (by assumption)]; with_reducible exact par_yes (ok_y (by first | assumption | (rw [hq1]; assumption)) (by assumption) (ok_a (by first | assumption | (rw [hq1]; assumption))) (all_of hx.1 (by assumption) hx.2)) (by rw [fst_all hx.1 (by assumption)]; exact val_grp_all (by rw [bsL_len]; omega)))
  | ((repeat' apply And.intro) <;> first | omega | (intro h; cases h; done) | (have := tz1; omega))
  | skip⟩

end Go.Proofs.YtghlkihmnopenaaDoor

namespace Go.Proofs.YtghlkihmnopenaaDoor
open Go Go.RowKit Go.Sw
set_option linter.unusedVariables false
set_option maxRecDepth 100000
set_option maxHeartbeats 8000000
set_option synthInstance.maxSize 4000
set_option synthInstance.maxHeartbeats 400000
instance ri_valid (neg : Bool) (l : List Nat) : DenI Tryd.prog 34 [Zr neg l] (l.length ≤ 9223372036854775807) (.bool (validL neg l)) := ⟨fun hp => by
 refine den_of (τ := tabs) tabs_ok mixed_ Tryd.func34 rfl (by kernel_rfl) (by kernel_rfl) (by kernel_rfl) ?_
 repeat' ((try (conv => whnf)); first
  | refine call_0 ?_
  | refine call_i ?_ ?_
  | (with_reducible refine onB_t ?_)
  | (with_reducible refine onB_f ?_)
  | (with_reducible refine onB_d (fun _ => ?_) (fun _ => ?_))
  | (with_reducible refine onB_n (fun _ => ?_) (fun _ => ?_))
  | refine OnB.mk (fun _ => ?_) (fun _ => ?_)
  | refine obl_i ?_ ?_
  | refine Drw.mk (by kernel_rfl) ?_
  | refine mks_i ?_ ?_
  | refine slp_i ?_ ?_
  | (with_reducible refine elem_u ?_ ?_)
  | (with_reducible refine elem_0 ?_)
  | (with_reducible refine elem_1 ?_)
  | refine Ends.mk ?_)
 all_goals (try refine Pr.mk ?_)
 all_goals first
  | ((conv => whnf); refine Sw.Loop.inv (α := Nat) (fun x => [(1, .ptr 1 0), (2, .bool false), (3, .int .i64 x)]) (fun x => [(1, .var [.v (.bool neg), lmc l])]) (fun x => x ≤ l.length ∧ ∀ j, j < x → l.getD j 0 < 1000000000) (fun x => l.length - x) 0 ?_ ?_ ?_ (fun x hx => ?_))
  | skip
 all_goals (repeat' ((try (conv => whnf)); first
  | refine call_0 ?_
  | refine call_i ?_ ?_
  | (with_reducible refine onB_t ?_)
  | (with_reducible refine onB_f ?_)
  | (with_reducible refine onB_d (fun _ => ?_) (fun _ => ?_))
  | (with_reducible refine onB_n (fun _ => ?_) (fun _ => ?_))
  | refine OnB.mk (fun _ => ?_) (fun _ => ?_)
  | refine obl_i ?_ ?_
  | refine Drw.mk (by kernel_rfl) ?_
  | refine mks_i ?_ ?_
  | refine slp_i ?_ ?_
  | (with_reducible refine elem_u ?_ ?_)
  | (with_reducible refine elem_0 ?_)
  | (with_reducible refine elem_1 ?_)
  | refine Ends.mk ?_))
 all_goals (try refine Pr.mk ?_)
 all_goals first | (show SubE _ _; repeat' (first | exact trivial | refine And.intro ?_ ?_)) | (show SubB _ _; repeat' (first | exact trivial | refine And.intro ?_ ?_)) | skip
 all_goals (try rfl)
 all_goals (try simp only [List.length_map, Int.toNat_natCast] at *)
 all_goals first
  | exact bE (rv_bad (x := x) (by omega) (by assumption))
  | (refine bE ?_; rw [rv_end hx (by assumption)]; (have hh : (trimz l).length = l.length := by omega); simp_all; done)
  | (refine bE ?_; rw [rv_end hx (by assumption)]; (have hh : ¬(trimz l).length = l.length := by omega); simp_all; done)
  | ((conv => whnf); exact ⟨x + 1, ⟨⟨rfl, rfl, inc64 (by omega), trivial⟩, ⟨rfl, trivial⟩, ⟨by omega, fun j hj => by rcases Nat.lt_succ_iff_lt_or_eq.1 hj with h | h; exact hx.2 j h; subst h; omega⟩, by show l.length - (x + 1) < l.length - x; omega⟩⟩)
  | omega
  | exact ⟨by omega, fun j hj => by omega⟩⟩

instance g_smi (neg : Bool) (l : List Nat) (n : Int) : DenI Tryd.prog 17 [Zr neg l, .int .i64 n] (n ≤ 1000) (.bool (decide ((l.length : Int) ≤ n) && validL neg l)) := ⟨fun hp => by
 refine den_of (τ := tabs) tabs_ok mixed_ Tryd.func17 rfl (by kernel_rfl) (by kernel_rfl) (by kernel_rfl) ?_
 all_goals (repeat' ((try (conv => whnf)); first
  | refine call_0 ?_
  | refine call_i ?_ ?_
  | refine call_c ?_ (fun _ => ?_) (fun _ => ?_)
  | (with_reducible refine onB_t ?_)
  | (with_reducible refine onB_f ?_)
  | (with_reducible refine onB_d (fun _ => ?_) (fun _ => ?_))
  | (with_reducible refine onB_n (fun _ => ?_) (fun _ => ?_))
  | refine OnB.mk (fun _ => ?_) (fun _ => ?_)
  | refine obl_i ?_ ?_
  | refine Drw.mk (by kernel_rfl) ?_
  | refine mks_i ?_ ?_
  | refine slp_i ?_ ?_
  | (with_reducible refine elem_u ?_ ?_)
  | (with_reducible refine elem_0 ?_)
  | (with_reducible refine elem_1 ?_)
  | refine Ends.mk ?_))
 all_goals (try refine Pr.mk ?_)
 all_goals (try simp only [sgnI_lt0, sgnI_zero, sgnI_le0, sgnI_gt0, sgnI_ge0, sgnI_eq1, cmpI_lt0, cmpI_gt0, cmpI_eq0, cmpI_le0, cmpI_ge0, cmpR_of, sgnR_of, sgnR_lt0, sgnR_eq0, sgnR_gt0, sgnR_le0, sgnR_ge0, sgnR_eq1, cmpR_lt0, cmpR_gt0, cmpR_eq0, cmpR_le0, cmpR_ge0] at *)
 all_goals (try simp only [List.length_map, Int.toNat_natCast] at *)
 all_goals first
  | omega
  | (constructor <;> omega)
  | (refine bE ?_; simp_all; done)
  | (rw [decide_eq_false (by assumption)]; rfl)
  | skip⟩

instance j_same (a b : Int) : DenI Tryd.prog 11 [Z a, Z b] (True) (.bool (decide (a = b))) := ⟨fun hp => by
 refine den_of (τ := tabs) tabs_ok mixed_ Tryd.func11 rfl (by kernel_rfl) (by kernel_rfl) (by kernel_rfl) ?_
 all_goals (repeat' ((try (conv => whnf)); first
  | refine call_0 ?_
  | refine call_i ?_ ?_
  | refine call_c ?_ (fun _ => ?_) (fun _ => ?_)
  | (with_reducible refine onB_t ?_)
  | (with_reducible refine onB_f ?_)
  | (with_reducible refine onB_d (fun _ => ?_) (fun _ => ?_))
  | (with_reducible refine onB_n (fun _ => ?_) (fun _ => ?_))
  | refine OnB.mk (fun _ => ?_) (fun _ => ?_)
  | refine obl_i ?_ ?_
  | refine Drw.mk (by kernel_rfl) ?_
  | refine mks_i ?_ ?_
  | refine slp_i ?_ ?_
  | (with_reducible refine elem_u ?_ ?_)
  | (with_reducible refine elem_0 ?_)
  | (with_reducible refine elem_1 ?_)
  | refine Ends.mk ?_))
 all_goals (try refine Pr.mk ?_)
 all_goals first
  | rfl
  | skip⟩

theorem lim_base : lim 1000000000 = [0, 1] := by rw [lim_pos (by decide), show 1000000000 / 1000000000 = 1 by decide, lim_pos (by decide), show 1 / 1000000000 = 0 by decide, lim_zero]
instance j_samel (a : Int) : DenI Tryd.prog 11 [Z a, .agg [.v (.bool false), .sl 1 [[.v (.int .u32 0)], [.v (.int .u32 1)]]]] True (.bool (decide (a = 1000000000))) := ⟨fun h => by
 have z := (j_same a 1000000000).den trivial
 have e : zl 1000000000 = .sl 1 [[.v (.int .u32 0)], [.v (.int .u32 1)]] := by show lmc (lim (1000000000 : Int).natAbs) = _; rw [show (1000000000 : Int).natAbs = 1000000000 from rfl, lim_base]; rfl
 have e2 : Z 1000000000 = .agg [.v (.bool false), .sl 1 [[.v (.int .u32 0)], [.v (.int .u32 1)]]] := by show AV.agg [zs 1000000000, zl 1000000000] = _; rw [e]; rfl
 rwa [e2] at z⟩
instance j_is (a n : Int) : DenI Tryd.prog 15 [Z a, .int .i64 n] (-9223372036854775808 ≤ n ∧ n ≤ 9223372036854775807) (.bool (decide (a = n))) := ⟨fun hp => by
 refine den_of (τ := tabs) tabs_ok mixed_ Tryd.func15 rfl (by kernel_rfl) (by kernel_rfl) (by kernel_rfl) ?_
 all_goals (repeat' ((try (conv => whnf)); first
  | refine call_0 ?_
  | refine call_i ?_ ?_
  | refine call_c ?_ (fun _ => ?_) (fun _ => ?_)
  | (with_reducible refine onB_t ?_)
  | (with_reducible refine onB_f ?_)
  | (with_reducible refine onB_d (fun _ => ?_) (fun _ => ?_))
  | (with_reducible refine onB_n (fun _ => ?_) (fun _ => ?_))
  | refine OnB.mk (fun _ => ?_) (fun _ => ?_)
  | refine obl_i ?_ ?_
  | refine Drw.mk (by kernel_rfl) ?_
  | refine mks_i ?_ ?_
  | refine slp_i ?_ ?_
  | (with_reducible refine elem_u ?_ ?_)
  | (with_reducible refine elem_0 ?_)
  | (with_reducible refine elem_1 ?_)
  | refine Ends.mk ?_))
 all_goals (try refine Pr.mk ?_)
 all_goals first
  | exact hp
  | rfl
  | skip⟩

instance j_small (p : Bool) (l : List Nat) : DenI Tryd.prog 5 [.c (.sl 2 [[.v (.bool p), lmc l]])] (True) (.bool (decide ((l.length : Int) ≤ 16) && validL p l)) := ⟨fun hp => by
 refine den_of (τ := tabs) tabs_ok mixed_ Tryd.func5 rfl (by kernel_rfl) (by kernel_rfl) (by kernel_rfl) ?_
 all_goals first
  | ((conv => whnf); refine Sw.Loop.unroll ?_)
  | skip
 all_goals (repeat' ((try rw [w01]); (try rw [w11]); (try (conv => whnf)); first
  | refine call_0 ?_
  | refine call_i ?_ ?_
  | (with_reducible refine onB_t ?_)
  | (with_reducible refine onB_f ?_)
  | refine onB_yes (by simp only [List.length_cons, List.length_nil]; decide) ?_
  | refine onB_no (by simp only [List.length_cons, List.length_nil]; decide) ?_
  | refine onB_yes (by decide) ?_
  | refine onB_no (by decide) ?_
  | (with_reducible refine onB_d (fun _ => ?_) (fun _ => ?_))
  | (with_reducible refine onB_n (fun _ => ?_) (fun _ => ?_))
  | refine OnB.mk (fun _ => ?_) (fun _ => ?_)
  | refine obl_i ?_ ?_
  | refine Drw.mk (by kernel_rfl) ?_
  | refine mks_i ?_ ?_
  | refine slp_i ?_ ?_
  | (with_reducible refine elem_u ?_ ?_)
  | (with_reducible refine elem_0 ?_)
  | (with_reducible refine elem_1 ?_)
  | refine Ends.mk ?_))
 all_goals (try refine Pr.mk ?_)
 all_goals first
  | ((conv => whnf); refine Sw.Loop.unroll ?_)
  | skip
 all_goals (repeat' ((try rw [w01]); (try rw [w11]); (try (conv => whnf)); first
  | refine call_0 ?_
  | refine call_i ?_ ?_
  | (with_reducible refine onB_t ?_)
  | (with_reducible refine onB_f ?_)
  | refine onB_yes (by simp only [List.length_cons, List.length_nil]; decide) ?_
  | refine onB_no (by simp only [List.length_cons, List.length_nil]; decide) ?_
  | refine onB_yes (by decide) ?_
  | refine onB_no (by decide) ?_
  | (with_reducible refine onB_d (fun _ => ?_) (fun _ => ?_))
  | (with_reducible refine onB_n (fun _ => ?_) (fun _ => ?_))
  | refine OnB.mk (fun _ => ?_) (fun _ => ?_)
  | refine obl_i ?_ ?_
  | refine Drw.mk (by kernel_rfl) ?_
  | refine mks_i ?_ ?_
  | refine slp_i ?_ ?_
  | (with_reducible refine elem_u ?_ ?_)
  | (with_reducible refine elem_0 ?_)
  | (with_reducible refine elem_1 ?_)
  | refine Ends.mk ?_))
 all_goals (try refine Pr.mk ?_)
 all_goals (try simp only [sgnI_lt0, sgnI_zero, sgnI_le0, sgnI_gt0, sgnI_ge0, sgnI_eq1, cmpI_lt0, cmpI_gt0, cmpI_eq0, cmpI_le0, cmpI_ge0, cmpR_of, sgnR_of, sgnR_lt0, sgnR_eq0, sgnR_gt0, sgnR_le0, sgnR_ge0, sgnR_eq1, cmpR_lt0, cmpR_gt0, cmpR_eq0, cmpR_le0, cmpR_ge0] at *)
 all_goals first
  | (exfalso; rename_i h; simp at h; done)
  | (rename_i g; refine bE ?_; revert g; cases (decide ((l.length : Int) ≤ 16) && validL p l) <;> intro g <;> first | rfl | cases g)
  | rfl
  | decide
  | omega
  | (refine bE ?_; simp_all; done)
  | skip⟩

instance j_cp (a : Int) : DenI Tryd.prog 7 [Z a] (sz a ≤ 1000000) (Z a) := ⟨fun hp => by
 have hsz : (lim a.natAbs).length ≤ 1000000 := hp
 all_goals refine den_of (τ := tabs) tabs_ok mixed_ Tryd.func7 rfl (by kernel_rfl) (by kernel_rfl) (by kernel_rfl) ?_
 all_goals (repeat' ((try (conv => whnf)); first
  | refine call_0 ?_
  | refine call_i ?_ ?_
  | refine call_c ?_ (fun _ => ?_) (fun _ => ?_)
  | (with_reducible refine onB_t ?_)
  | (with_reducible refine onB_f ?_)
  | (with_reducible refine onB_d (fun _ => ?_) (fun _ => ?_))
  | (with_reducible refine onB_n (fun _ => ?_) (fun _ => ?_))
  | refine OnB.mk (fun _ => ?_) (fun _ => ?_)
  | refine obl_i ?_ ?_
  | refine Drw.mk (by kernel_rfl) ?_
  | refine mks_i ?_ ?_
  | refine slp_i ?_ ?_
  | (with_reducible refine elem_u ?_ ?_)
  | (with_reducible refine elem_0 ?_)
  | (with_reducible refine elem_1 ?_)
  | refine Ends.mk ?_))
 all_goals (try refine Pr.mk ?_)
 all_goals first
  | rfl
  | (simp only [List.nil_append, List.length_map]; omega)
  | skip⟩

instance j_awake  : DenI Tryd.prog 4 [] (True) (.bool true) := ⟨fun hp => by
 refine den_of (τ := tabs) tabs_ok mixed_ Tryd.func4 rfl (by kernel_rfl) (by kernel_rfl) (by kernel_rfl) ?_
 all_goals (repeat' ((try (conv => whnf)); first
  | (with_reducible refine onB_yes (by decide +kernel) ?_)
  | (with_reducible refine onB_no (by decide +kernel) ?_)
  | refine call_0 ?_
  | refine call_i ?_ ?_
  | refine call_c ?_ (fun _ => ?_) (fun _ => ?_)
  | (with_reducible refine onB_t ?_)
  | (with_reducible refine onB_f ?_)
  | (with_reducible refine onB_d (fun _ => ?_) (fun _ => ?_))
  | (with_reducible refine onB_n (fun _ => ?_) (fun _ => ?_))
  | refine OnB.mk (fun _ => ?_) (fun _ => ?_)
  | refine obl_i ?_ ?_
  | refine Drw.mk (by kernel_rfl) ?_
  | refine mks_i ?_ ?_
  | refine slp_i ?_ ?_
  | (with_reducible refine elem_u ?_ ?_)
  | (with_reducible refine elem_0 ?_)
  | (with_reducible refine elem_1 ?_)
  | (with_reducible refine strAt_i ?_ ?_)
  | (with_reducible refine elem_b ?_ ?_)
  | refine Ends.mk ?_))
 all_goals (try refine Pr.mk ?_)
 all_goals (try simp only [sgnI_lt0, sgnI_zero, sgnI_le0, sgnI_gt0, sgnI_ge0, sgnI_eq1, cmpI_lt0, cmpI_gt0, cmpI_eq0, cmpI_le0, cmpI_ge0, cmpR_of, sgnR_of, sgnR_lt0, sgnR_eq0, sgnR_gt0, sgnR_le0, sgnR_ge0, sgnR_eq1, cmpR_lt0, cmpR_gt0, cmpR_eq0, cmpR_le0, cmpR_ge0] at *)
 all_goals first
  | trivial
  | exact Nat.le_trans (sz_64 (by decide) (by decide)) (by decide)
  | (refine ⟨?_, ?_⟩ <;> exact Nat.le_trans (sz_64 (by decide) (by decide)) (by decide))
  | decide +kernel
  | rfl
  | (refine bE ?_; decide +kernel)
  | skip⟩

end Go.Proofs.YtghlkihmnopenaaDoor

namespace Go.Sw
open Go Go.Lib Go.RowKit
set_option linter.unusedVariables false
section
variable {s : ByteArray} {x : Nat} (hx : ¬(x : Int) - 1 ≥ 0)
end
theorem zi_cases (k : Int) (neg : Bool) (l : List Nat) : (decide ((l.length : Int) ≤ k) && validL neg l) = false ∨ ∃ a : Int, neg = decide (a < 0) ∧ l = lim a.natAbs ∧ sz a ≤ k.toNat ∧ (decide (((lim a.natAbs).length : Int) ≤ k) && validL (decide (a < 0)) (lim a.natAbs)) = true := by
  cases h : (decide ((l.length : Int) ≤ k) && validL neg l) with
  | false => exact .inl rfl
  | true =>
    right
    have h' := h
    simp only [Bool.and_eq_true, decide_eq_true_eq] at h'
    obtain ⟨a, rfl, rfl⟩ := validL_ex h'.2
    refine ⟨a, rfl, rfl, ?_, h⟩
    unfold sz; omega
/-! ### The simplest number -/
end Go.Sw
