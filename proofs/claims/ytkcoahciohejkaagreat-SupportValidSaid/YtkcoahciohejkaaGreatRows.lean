/-
  No cell of these rows narrows 'for every input' (looked for: loops, veiled, ifaces, maps, wideKeys, modest, calm, conditions, laid).
  DERIVED. THE GIVEN ROWS OF THIS SEAT. 8 by the template 'for every input the law returns true; each argument reads behind the call as it read before'; 0 by the template 'total and deterministic' (their statements: YtkcoahciohejkaaGreatTotals.lean).
  GIVEN WITH THE SEED: the statements are not yours to turn. If you find one false, say at which input.
  Laid BY PROGRAM, IN A SANDBOX (cutbox-rows.mjs): the forced cells as the released guide's own fill.sh prints them over the translation a305d24048befd27… (all of the seat's roots in one cut). By AI agents, Wed Nov 11 2026. No macro, syntax, notation, axiom, sorry.
-/
import Derived.Test.YtkcoahciohejkaaGreatChecked
import GoSem.Claim
import GoSem.ClaimJoined
import GoSem.ClaimMapViews
import Derived.JoinedTies
import Derived.KernelRfl
namespace Go.Proofs.YtkcoahciohejkaaGreat
/- THE CELL 'sum', in the pinned program and in every row, IS THE sha256 OF THE DUMP (.gsa) THAT YtkcoahciohejkaaGreatProg.lean LOADS. Nothing in Lean hashes anything: it is a label: what it is worth is what the hold of that sum in a sandbox is worth. -/
noncomputable def Tryz.pinned : Pinned := { name := "ytkcoahciohejkaagreat", sum := "a305d24048befd27330a5c93840008ad926ada10a643bf1e11425690f707462e", checked := Tryz.checked }
namespace Rows
def none {H : Type} : Left H := { results := [], args := [] }

/-- 'swarflaw08.SupportThrough': WHATEVER THE INPUT: true; the input reads as it did. -/
def supportThroughSpec : ChangeSpec := { name := "supportThrough", fn := fun _ => fun
  | [d1, d2] => { results := [.lit (.bool true)], args := [d1, d2] }
  | _ => none }
def supportThroughRow : OpenClaim := { program := "ytkcoahciohejkaagreat", sum := "a305d24048befd27330a5c93840008ad926ada10a643bf1e11425690f707462e", func := "swarf/swarflaw08.SupportThrough", spec := "supportThrough", apart := false }
def SupportThroughSaid : Prop := supportThroughRow.holds Tryz.pinned (OpenSpec.ofChange supportThroughSpec)

/-- ITS FALSE NEIGHBOUR: 'it returns false'. Refute it at one input. -/
def supportThroughWrong : ChangeSpec := { name := "supportThrough", fn := fun _ => fun
  | [d1, d2] => { results := [.lit (.bool false)], args := [d1, d2] }
  | _ => none }
def SupportThroughWrongFalsely : Prop := supportThroughRow.holds Tryz.pinned (OpenSpec.ofChange supportThroughWrong)

/-- 'swarflaw08.SupportSide': WHATEVER THE INPUT: true; the input reads as it did. -/
def supportSideSpec : ChangeSpec := { name := "supportSide", fn := fun _ => fun
  | [d1, d2] => { results := [.lit (.bool true)], args := [d1, d2] }
  | _ => none }
def supportSideRow : OpenClaim := { program := "ytkcoahciohejkaagreat", sum := "a305d24048befd27330a5c93840008ad926ada10a643bf1e11425690f707462e", func := "swarf/swarflaw08.SupportSide", spec := "supportSide", apart := false }
def SupportSideSaid : Prop := supportSideRow.holds Tryz.pinned (OpenSpec.ofChange supportSideSpec)

/-- ITS FALSE NEIGHBOUR: 'it returns false'. Refute it at one input. -/
def supportSideWrong : ChangeSpec := { name := "supportSide", fn := fun _ => fun
  | [d1, d2] => { results := [.lit (.bool false)], args := [d1, d2] }
  | _ => none }
def SupportSideWrongFalsely : Prop := supportSideRow.holds Tryz.pinned (OpenSpec.ofChange supportSideWrong)

/-- 'swarflaw08.SupportInside': WHATEVER THE INPUT: true; the input reads as it did. -/
def supportInsideSpec : ChangeSpec := { name := "supportInside", fn := fun _ => fun
  | [d1, d2] => { results := [.lit (.bool true)], args := [d1, d2] }
  | _ => none }
def supportInsideRow : OpenClaim := { program := "ytkcoahciohejkaagreat", sum := "a305d24048befd27330a5c93840008ad926ada10a643bf1e11425690f707462e", func := "swarf/swarflaw08.SupportInside", spec := "supportInside", apart := false }
def SupportInsideSaid : Prop := supportInsideRow.holds Tryz.pinned (OpenSpec.ofChange supportInsideSpec)

/-- ITS FALSE NEIGHBOUR: 'it returns false'. Refute it at one input. -/
def supportInsideWrong : ChangeSpec := { name := "supportInside", fn := fun _ => fun
  | [d1, d2] => { results := [.lit (.bool false)], args := [d1, d2] }
  | _ => none }
def SupportInsideWrongFalsely : Prop := supportInsideRow.holds Tryz.pinned (OpenSpec.ofChange supportInsideWrong)

/-- 'swarflaw08.SupportFoot': WHATEVER THE INPUT: true; the input reads as it did. -/
def supportFootSpec : ChangeSpec := { name := "supportFoot", fn := fun _ => fun
  | [d1, d2] => { results := [.lit (.bool true)], args := [d1, d2] }
  | _ => none }
def supportFootRow : OpenClaim := { program := "ytkcoahciohejkaagreat", sum := "a305d24048befd27330a5c93840008ad926ada10a643bf1e11425690f707462e", func := "swarf/swarflaw08.SupportFoot", spec := "supportFoot", apart := false }
def SupportFootSaid : Prop := supportFootRow.holds Tryz.pinned (OpenSpec.ofChange supportFootSpec)

/-- ITS FALSE NEIGHBOUR: 'it returns false'. Refute it at one input. -/
def supportFootWrong : ChangeSpec := { name := "supportFoot", fn := fun _ => fun
  | [d1, d2] => { results := [.lit (.bool false)], args := [d1, d2] }
  | _ => none }
def SupportFootWrongFalsely : Prop := supportFootRow.holds Tryz.pinned (OpenSpec.ofChange supportFootWrong)

/-- 'swarflaw08.SupportCircle': WHATEVER THE INPUT: true; the input reads as it did. -/
def supportCircleSpec : ChangeSpec := { name := "supportCircle", fn := fun _ => fun
  | [d1, d2, d3] => { results := [.lit (.bool true)], args := [d1, d2, d3] }
  | _ => none }
def supportCircleRow : OpenClaim := { program := "ytkcoahciohejkaagreat", sum := "a305d24048befd27330a5c93840008ad926ada10a643bf1e11425690f707462e", func := "swarf/swarflaw08.SupportCircle", spec := "supportCircle", apart := false }
def SupportCircleSaid : Prop := supportCircleRow.holds Tryz.pinned (OpenSpec.ofChange supportCircleSpec)

/-- ITS FALSE NEIGHBOUR: 'it returns false'. Refute it at one input. -/
def supportCircleWrong : ChangeSpec := { name := "supportCircle", fn := fun _ => fun
  | [d1, d2, d3] => { results := [.lit (.bool false)], args := [d1, d2, d3] }
  | _ => none }
def SupportCircleWrongFalsely : Prop := supportCircleRow.holds Tryz.pinned (OpenSpec.ofChange supportCircleWrong)

/-- 'swarflaw08.SupportMoved': WHATEVER THE INPUT: true; the input reads as it did. -/
def supportMovedSpec : ChangeSpec := { name := "supportMoved", fn := fun _ => fun
  | [d1, d2, d3] => { results := [.lit (.bool true)], args := [d1, d2, d3] }
  | _ => none }
def supportMovedRow : OpenClaim := { program := "ytkcoahciohejkaagreat", sum := "a305d24048befd27330a5c93840008ad926ada10a643bf1e11425690f707462e", func := "swarf/swarflaw08.SupportMoved", spec := "supportMoved", apart := false }
def SupportMovedSaid : Prop := supportMovedRow.holds Tryz.pinned (OpenSpec.ofChange supportMovedSpec)

/-- ITS FALSE NEIGHBOUR: 'it returns false'. Refute it at one input. -/
def supportMovedWrong : ChangeSpec := { name := "supportMoved", fn := fun _ => fun
  | [d1, d2, d3] => { results := [.lit (.bool false)], args := [d1, d2, d3] }
  | _ => none }
def SupportMovedWrongFalsely : Prop := supportMovedRow.holds Tryz.pinned (OpenSpec.ofChange supportMovedWrong)

/-- 'swarflaw08.SupportSame': WHATEVER THE INPUT: true; the input reads as it did. -/
def supportSameSpec : ChangeSpec := { name := "supportSame", fn := fun _ => fun
  | [d1, d2, d3] => { results := [.lit (.bool true)], args := [d1, d2, d3] }
  | _ => none }
def supportSameRow : OpenClaim := { program := "ytkcoahciohejkaagreat", sum := "a305d24048befd27330a5c93840008ad926ada10a643bf1e11425690f707462e", func := "swarf/swarflaw08.SupportSame", spec := "supportSame", apart := false }
def SupportSameSaid : Prop := supportSameRow.holds Tryz.pinned (OpenSpec.ofChange supportSameSpec)

/-- ITS FALSE NEIGHBOUR: 'it returns false'. Refute it at one input. -/
def supportSameWrong : ChangeSpec := { name := "supportSame", fn := fun _ => fun
  | [d1, d2, d3] => { results := [.lit (.bool false)], args := [d1, d2, d3] }
  | _ => none }
def SupportSameWrongFalsely : Prop := supportSameRow.holds Tryz.pinned (OpenSpec.ofChange supportSameWrong)

/-- 'swarflaw08.SupportValid': WHATEVER THE INPUT: true; the input reads as it did. -/
def supportValidSpec : ChangeSpec := { name := "supportValid", fn := fun _ => fun
  | [d1, d2, d3] => { results := [.lit (.bool true)], args := [d1, d2, d3] }
  | _ => none }
def supportValidRow : OpenClaim := { program := "ytkcoahciohejkaagreat", sum := "a305d24048befd27330a5c93840008ad926ada10a643bf1e11425690f707462e", func := "swarf/swarflaw08.SupportValid", spec := "supportValid", apart := false }
def SupportValidSaid : Prop := supportValidRow.holds Tryz.pinned (OpenSpec.ofChange supportValidSpec)

/-- ITS FALSE NEIGHBOUR: 'it returns false'. Refute it at one input. -/
def supportValidWrong : ChangeSpec := { name := "supportValid", fn := fun _ => fun
  | [d1, d2, d3] => { results := [.lit (.bool false)], args := [d1, d2, d3] }
  | _ => none }
def SupportValidWrongFalsely : Prop := supportValidRow.holds Tryz.pinned (OpenSpec.ofChange supportValidWrong)

/- THE SECOND FORM. 'bulk': how many values and letters a reading holds, each counted each time it is reached (what is shared counts as often as it is met; a slice's spare places count too). A statement '..UptoSaid' is the law's where the arguments, and the package variables that the reading takes, are together of bulk at most 1048576: NARROWER than '..Said'. Prove '..Said' where nothing that the law and all that it calls make is longer than what came in: it says more and counts as full. Else prove '..UptoSaid'. A law counts once. -/
mutual
def uptoBulk {H : Type} : DataW H → Nat
  | .lit (.string bytes) => bytes.length + 1
  | .lit _ => 1
  | .nil => 1
  | .ptr d => uptoBulk d + 1
  | .slice elems spare => uptoBulkAll elems + uptoBulkAll spare + 1
  | .agg parts => uptoBulkAll parts + 1
  | .iface _ d => uptoBulk d + 1
  | .map entries => uptoBulkEntries entries + 1
  | .held _ => 1
def uptoBulkAll {H : Type} : List (DataW H) → Nat
  | [] => 0
  | d :: r => uptoBulk d + uptoBulkAll r
def uptoBulkEntries {H : Type} : List (Lit × DataW H) → Nat
  | [] => 0
  | x :: r => uptoBulkEntry x + uptoBulkEntries r
def uptoBulkEntry {H : Type} : Lit × DataW H → Nat
  | (.string bytes, d) => bytes.length + uptoBulk d + 1
  | (_, d) => uptoBulk d + 1
 end
def uptoSmall : (H : Type) → List (DataW H) → Bool := fun _ ds => decide (uptoBulkAll ds ≤ 1048576)
def OpenSpec.upto (s : _root_.Go.ChangeSpec) : _root_.Go.OpenSpec := { _root_.Go.OpenSpec.ofChange s with cond := some uptoSmall }

/-- 'swarflaw08.SupportThrough', WHERE WHAT IT READS IS OF BULK AT MOST 1048576: true; the input reads as it did. -/
def supportThroughUptoRow : OpenClaim := { program := "ytkcoahciohejkaagreat", sum := "a305d24048befd27330a5c93840008ad926ada10a643bf1e11425690f707462e", func := "swarf/swarflaw08.SupportThrough", spec := "supportThrough", apart := false, narrowed := true }
def SupportThroughUptoSaid : Prop := supportThroughUptoRow.holds Tryz.pinned (OpenSpec.upto supportThroughSpec)

/-- 'swarflaw08.SupportSide', WHERE WHAT IT READS IS OF BULK AT MOST 1048576: true; the input reads as it did. -/
def supportSideUptoRow : OpenClaim := { program := "ytkcoahciohejkaagreat", sum := "a305d24048befd27330a5c93840008ad926ada10a643bf1e11425690f707462e", func := "swarf/swarflaw08.SupportSide", spec := "supportSide", apart := false, narrowed := true }
def SupportSideUptoSaid : Prop := supportSideUptoRow.holds Tryz.pinned (OpenSpec.upto supportSideSpec)

/-- 'swarflaw08.SupportInside', WHERE WHAT IT READS IS OF BULK AT MOST 1048576: true; the input reads as it did. -/
def supportInsideUptoRow : OpenClaim := { program := "ytkcoahciohejkaagreat", sum := "a305d24048befd27330a5c93840008ad926ada10a643bf1e11425690f707462e", func := "swarf/swarflaw08.SupportInside", spec := "supportInside", apart := false, narrowed := true }
def SupportInsideUptoSaid : Prop := supportInsideUptoRow.holds Tryz.pinned (OpenSpec.upto supportInsideSpec)

/-- 'swarflaw08.SupportFoot', WHERE WHAT IT READS IS OF BULK AT MOST 1048576: true; the input reads as it did. -/
def supportFootUptoRow : OpenClaim := { program := "ytkcoahciohejkaagreat", sum := "a305d24048befd27330a5c93840008ad926ada10a643bf1e11425690f707462e", func := "swarf/swarflaw08.SupportFoot", spec := "supportFoot", apart := false, narrowed := true }
def SupportFootUptoSaid : Prop := supportFootUptoRow.holds Tryz.pinned (OpenSpec.upto supportFootSpec)

/-- 'swarflaw08.SupportCircle', WHERE WHAT IT READS IS OF BULK AT MOST 1048576: true; the input reads as it did. -/
def supportCircleUptoRow : OpenClaim := { program := "ytkcoahciohejkaagreat", sum := "a305d24048befd27330a5c93840008ad926ada10a643bf1e11425690f707462e", func := "swarf/swarflaw08.SupportCircle", spec := "supportCircle", apart := false, narrowed := true }
def SupportCircleUptoSaid : Prop := supportCircleUptoRow.holds Tryz.pinned (OpenSpec.upto supportCircleSpec)

/-- 'swarflaw08.SupportMoved', WHERE WHAT IT READS IS OF BULK AT MOST 1048576: true; the input reads as it did. -/
def supportMovedUptoRow : OpenClaim := { program := "ytkcoahciohejkaagreat", sum := "a305d24048befd27330a5c93840008ad926ada10a643bf1e11425690f707462e", func := "swarf/swarflaw08.SupportMoved", spec := "supportMoved", apart := false, narrowed := true }
def SupportMovedUptoSaid : Prop := supportMovedUptoRow.holds Tryz.pinned (OpenSpec.upto supportMovedSpec)

/-- 'swarflaw08.SupportSame', WHERE WHAT IT READS IS OF BULK AT MOST 1048576: true; the input reads as it did. -/
def supportSameUptoRow : OpenClaim := { program := "ytkcoahciohejkaagreat", sum := "a305d24048befd27330a5c93840008ad926ada10a643bf1e11425690f707462e", func := "swarf/swarflaw08.SupportSame", spec := "supportSame", apart := false, narrowed := true }
def SupportSameUptoSaid : Prop := supportSameUptoRow.holds Tryz.pinned (OpenSpec.upto supportSameSpec)

/-- 'swarflaw08.SupportValid', WHERE WHAT IT READS IS OF BULK AT MOST 1048576: true; the input reads as it did. -/
def supportValidUptoRow : OpenClaim := { program := "ytkcoahciohejkaagreat", sum := "a305d24048befd27330a5c93840008ad926ada10a643bf1e11425690f707462e", func := "swarf/swarflaw08.SupportValid", spec := "supportValid", apart := false, narrowed := true }
def SupportValidUptoSaid : Prop := supportValidUptoRow.holds Tryz.pinned (OpenSpec.upto supportValidSpec)

end Rows
end Go.Proofs.YtkcoahciohejkaaGreat
