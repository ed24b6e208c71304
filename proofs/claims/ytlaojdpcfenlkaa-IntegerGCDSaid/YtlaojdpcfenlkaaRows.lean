/-
  No cell of these rows narrows 'for every input' (looked for: loops, veiled, ifaces, maps, wideKeys, modest, calm, conditions, laid).
  DERIVED. THE GIVEN ROWS OF THIS SEAT. 8 by the template 'for every input the law returns true; each argument reads behind the call as it read before'; 0 by the template 'total and deterministic' (their statements: YtlaojdpcfenlkaaTotals.lean).
  GIVEN WITH THE SEED: the statements are not yours to turn. If you find one false, say at which input.
  Laid BY PROGRAM, IN A SANDBOX (cutbox-rows.mjs): the forced cells as the released guide's own fill.sh prints them over the translation 77eb4a971dbbd018… (all of the seat's roots in one cut). By AI agents, Wed Nov 11 2026. No macro, syntax, notation, axiom, sorry.
-/
import Derived.Test.YtlaojdpcfenlkaaChecked
import GoSem.Claim
import GoSem.ClaimJoined
import GoSem.ClaimMapViews
import Derived.JoinedTies
import Derived.KernelRfl
namespace Go.Proofs.Ytlaojdpcfenlkaa
/- THE CELL 'sum', in the pinned program and in every row, IS THE sha256 OF THE DUMP (.gsa) THAT YtlaojdpcfenlkaaProg.lean LOADS. Nothing in Lean hashes anything: it is a label: what it is worth is what the hold of that sum in a sandbox is worth. -/
noncomputable def Try.pinned : Pinned := { name := "ytlaojdpcfenlkaa", sum := "77eb4a971dbbd018608f4eca528c0afa4670c3b0d7390b8b6f383e26ca6ba661", checked := Try.checked }
namespace Rows
def none {H : Type} : Left H := { results := [], args := [] }

/-- 'swarflaw01.IntegerDivMod': WHATEVER THE INPUT: true; the input reads as it did. -/
def integerDivModSpec : ChangeSpec := { name := "integerDivMod", fn := fun _ => fun
  | [d1, d2] => { results := [.lit (.bool true)], args := [d1, d2] }
  | _ => none }
def integerDivModRow : OpenClaim := { program := "ytlaojdpcfenlkaa", sum := "77eb4a971dbbd018608f4eca528c0afa4670c3b0d7390b8b6f383e26ca6ba661", func := "swarf/swarflaw01.IntegerDivMod", spec := "integerDivMod", apart := false }
def IntegerDivModSaid : Prop := integerDivModRow.holds Try.pinned (OpenSpec.ofChange integerDivModSpec)

/-- ITS FALSE NEIGHBOUR: 'it returns false'. Refute it at one input. -/
def integerDivModWrong : ChangeSpec := { name := "integerDivMod", fn := fun _ => fun
  | [d1, d2] => { results := [.lit (.bool false)], args := [d1, d2] }
  | _ => none }
def IntegerDivModWrongFalsely : Prop := integerDivModRow.holds Try.pinned (OpenSpec.ofChange integerDivModWrong)

/-- 'swarflaw01.IntegerGCD': WHATEVER THE INPUT: true; the input reads as it did. -/
def integerGCDSpec : ChangeSpec := { name := "integerGCD", fn := fun _ => fun
  | [d1, d2, d3] => { results := [.lit (.bool true)], args := [d1, d2, d3] }
  | _ => none }
def integerGCDRow : OpenClaim := { program := "ytlaojdpcfenlkaa", sum := "77eb4a971dbbd018608f4eca528c0afa4670c3b0d7390b8b6f383e26ca6ba661", func := "swarf/swarflaw01.IntegerGCD", spec := "integerGCD", apart := false }
def IntegerGCDSaid : Prop := integerGCDRow.holds Try.pinned (OpenSpec.ofChange integerGCDSpec)

/-- ITS FALSE NEIGHBOUR: 'it returns false'. Refute it at one input. -/
def integerGCDWrong : ChangeSpec := { name := "integerGCD", fn := fun _ => fun
  | [d1, d2, d3] => { results := [.lit (.bool false)], args := [d1, d2, d3] }
  | _ => none }
def IntegerGCDWrongFalsely : Prop := integerGCDRow.holds Try.pinned (OpenSpec.ofChange integerGCDWrong)

/-- 'swarflaw01.IntegerSqrt': WHATEVER THE INPUT: true; the input reads as it did. -/
def integerSqrtSpec : ChangeSpec := { name := "integerSqrt", fn := fun _ => fun
  | [d] => { results := [.lit (.bool true)], args := [d] }
  | _ => none }
def integerSqrtRow : OpenClaim := { program := "ytlaojdpcfenlkaa", sum := "77eb4a971dbbd018608f4eca528c0afa4670c3b0d7390b8b6f383e26ca6ba661", func := "swarf/swarflaw01.IntegerSqrt", spec := "integerSqrt", apart := false }
def IntegerSqrtSaid : Prop := integerSqrtRow.holds Try.pinned (OpenSpec.ofChange integerSqrtSpec)

/-- ITS FALSE NEIGHBOUR: 'it returns false'. Refute it at one input. -/
def integerSqrtWrong : ChangeSpec := { name := "integerSqrt", fn := fun _ => fun
  | [d] => { results := [.lit (.bool false)], args := [d] }
  | _ => none }
def IntegerSqrtWrongFalsely : Prop := integerSqrtRow.holds Try.pinned (OpenSpec.ofChange integerSqrtWrong)

/-- 'swarflaw01.IntegerMul': WHATEVER THE INPUT: true; the input reads as it did. -/
def integerMulSpec : ChangeSpec := { name := "integerMul", fn := fun _ => fun
  | [d1, d2] => { results := [.lit (.bool true)], args := [d1, d2] }
  | _ => none }
def integerMulRow : OpenClaim := { program := "ytlaojdpcfenlkaa", sum := "77eb4a971dbbd018608f4eca528c0afa4670c3b0d7390b8b6f383e26ca6ba661", func := "swarf/swarflaw01.IntegerMul", spec := "integerMul", apart := false }
def IntegerMulSaid : Prop := integerMulRow.holds Try.pinned (OpenSpec.ofChange integerMulSpec)

/-- ITS FALSE NEIGHBOUR: 'it returns false'. Refute it at one input. -/
def integerMulWrong : ChangeSpec := { name := "integerMul", fn := fun _ => fun
  | [d1, d2] => { results := [.lit (.bool false)], args := [d1, d2] }
  | _ => none }
def IntegerMulWrongFalsely : Prop := integerMulRow.holds Try.pinned (OpenSpec.ofChange integerMulWrong)

/-- 'swarflaw01.IntegerSums': WHATEVER THE INPUT: true; the input reads as it did. -/
def integerSumsSpec : ChangeSpec := { name := "integerSums", fn := fun _ => fun
  | [d1, d2] => { results := [.lit (.bool true)], args := [d1, d2] }
  | _ => none }
def integerSumsRow : OpenClaim := { program := "ytlaojdpcfenlkaa", sum := "77eb4a971dbbd018608f4eca528c0afa4670c3b0d7390b8b6f383e26ca6ba661", func := "swarf/swarflaw01.IntegerSums", spec := "integerSums", apart := false }
def IntegerSumsSaid : Prop := integerSumsRow.holds Try.pinned (OpenSpec.ofChange integerSumsSpec)

/-- ITS FALSE NEIGHBOUR: 'it returns false'. Refute it at one input. -/
def integerSumsWrong : ChangeSpec := { name := "integerSums", fn := fun _ => fun
  | [d1, d2] => { results := [.lit (.bool false)], args := [d1, d2] }
  | _ => none }
def IntegerSumsWrongFalsely : Prop := integerSumsRow.holds Try.pinned (OpenSpec.ofChange integerSumsWrong)

/-- 'swarflaw01.IntegerRing': WHATEVER THE INPUT: true; the input reads as it did. -/
def integerRingSpec : ChangeSpec := { name := "integerRing", fn := fun _ => fun
  | [d1, d2, d3] => { results := [.lit (.bool true)], args := [d1, d2, d3] }
  | _ => none }
def integerRingRow : OpenClaim := { program := "ytlaojdpcfenlkaa", sum := "77eb4a971dbbd018608f4eca528c0afa4670c3b0d7390b8b6f383e26ca6ba661", func := "swarf/swarflaw01.IntegerRing", spec := "integerRing", apart := false }
def IntegerRingSaid : Prop := integerRingRow.holds Try.pinned (OpenSpec.ofChange integerRingSpec)

/-- ITS FALSE NEIGHBOUR: 'it returns false'. Refute it at one input. -/
def integerRingWrong : ChangeSpec := { name := "integerRing", fn := fun _ => fun
  | [d1, d2, d3] => { results := [.lit (.bool false)], args := [d1, d2, d3] }
  | _ => none }
def IntegerRingWrongFalsely : Prop := integerRingRow.holds Try.pinned (OpenSpec.ofChange integerRingWrong)

/-- 'swarflaw01.IntegerValid': WHATEVER THE INPUT: true; the input reads as it did. -/
def integerValidSpec : ChangeSpec := { name := "integerValid", fn := fun _ => fun
  | [d] => { results := [.lit (.bool true)], args := [d] }
  | _ => none }
def integerValidRow : OpenClaim := { program := "ytlaojdpcfenlkaa", sum := "77eb4a971dbbd018608f4eca528c0afa4670c3b0d7390b8b6f383e26ca6ba661", func := "swarf/swarflaw01.IntegerValid", spec := "integerValid", apart := false }
def IntegerValidSaid : Prop := integerValidRow.holds Try.pinned (OpenSpec.ofChange integerValidSpec)

/-- ITS FALSE NEIGHBOUR: 'it returns false'. Refute it at one input. -/
def integerValidWrong : ChangeSpec := { name := "integerValid", fn := fun _ => fun
  | [d] => { results := [.lit (.bool false)], args := [d] }
  | _ => none }
def IntegerValidWrongFalsely : Prop := integerValidRow.holds Try.pinned (OpenSpec.ofChange integerValidWrong)

/-- 'swarflaw01.IntegerInt64': WHATEVER THE INPUT: true; the input reads as it did. -/
def integerInt64Spec : ChangeSpec := { name := "integerInt64", fn := fun _ => fun
  | [d1, d2] => { results := [.lit (.bool true)], args := [d1, d2] }
  | _ => none }
def integerInt64Row : OpenClaim := { program := "ytlaojdpcfenlkaa", sum := "77eb4a971dbbd018608f4eca528c0afa4670c3b0d7390b8b6f383e26ca6ba661", func := "swarf/swarflaw01.IntegerInt64", spec := "integerInt64", apart := false }
def IntegerInt64Said : Prop := integerInt64Row.holds Try.pinned (OpenSpec.ofChange integerInt64Spec)

/-- ITS FALSE NEIGHBOUR: 'it returns false'. Refute it at one input. -/
def integerInt64Wrong : ChangeSpec := { name := "integerInt64", fn := fun _ => fun
  | [d1, d2] => { results := [.lit (.bool false)], args := [d1, d2] }
  | _ => none }
def IntegerInt64WrongFalsely : Prop := integerInt64Row.holds Try.pinned (OpenSpec.ofChange integerInt64Wrong)

/- THE SECOND FORM. 'bulk': how many values and letters a reading holds, each counted each time it is reached (what is shared counts as often as it is met; a slice's spare places count too). A statement '..UptoSaid' is the law's where the arguments, and the package variables that the reading takes, are together of bulk at most 1048576: NARROWER than '..Said'. Prove '..Said' where nothing that the law and all that it calls make is longer than what came in: it says more and counts as full. Else prove '..UptoSaid'. A law counts once. -/
mutual
def uptoBulk {H : Type} : DataW H → Nat
  | .lit (.string bytes) => bytes.length + 1
  | .lit _ => 1
  | .nil => 1
  | .ptr d => uptoBulk d + 1
  | .slice elems spare => uptoBulkAll elems + uptoBulkAll spare + 1
  | .agg parts => uptoBulkAll parts + 1
  | .iface _ d => uptoBulk d + 1
  | .map entries => uptoBulkEntries entries + 1
  | .held _ => 1
def uptoBulkAll {H : Type} : List (DataW H) → Nat
  | [] => 0
  | d :: r => uptoBulk d + uptoBulkAll r
def uptoBulkEntries {H : Type} : List (Lit × DataW H) → Nat
  | [] => 0
  | x :: r => uptoBulkEntry x + uptoBulkEntries r
def uptoBulkEntry {H : Type} : Lit × DataW H → Nat
  | (.string bytes, d) => bytes.length + uptoBulk d + 1
  | (_, d) => uptoBulk d + 1
 end
def uptoSmall : (H : Type) → List (DataW H) → Bool := fun _ ds => decide (uptoBulkAll ds ≤ 1048576)
def OpenSpec.upto (s : _root_.Go.ChangeSpec) : _root_.Go.OpenSpec := { _root_.Go.OpenSpec.ofChange s with cond := some uptoSmall }

/-- 'swarflaw01.IntegerDivMod', WHERE WHAT IT READS IS OF BULK AT MOST 1048576: true; the input reads as it did. -/
def integerDivModUptoRow : OpenClaim := { program := "ytlaojdpcfenlkaa", sum := "77eb4a971dbbd018608f4eca528c0afa4670c3b0d7390b8b6f383e26ca6ba661", func := "swarf/swarflaw01.IntegerDivMod", spec := "integerDivMod", apart := false, narrowed := true }
def IntegerDivModUptoSaid : Prop := integerDivModUptoRow.holds Try.pinned (OpenSpec.upto integerDivModSpec)

/-- 'swarflaw01.IntegerGCD', WHERE WHAT IT READS IS OF BULK AT MOST 1048576: true; the input reads as it did. -/
def integerGCDUptoRow : OpenClaim := { program := "ytlaojdpcfenlkaa", sum := "77eb4a971dbbd018608f4eca528c0afa4670c3b0d7390b8b6f383e26ca6ba661", func := "swarf/swarflaw01.IntegerGCD", spec := "integerGCD", apart := false, narrowed := true }
def IntegerGCDUptoSaid : Prop := integerGCDUptoRow.holds Try.pinned (OpenSpec.upto integerGCDSpec)

/-- 'swarflaw01.IntegerSqrt', WHERE WHAT IT READS IS OF BULK AT MOST 1048576: true; the input reads as it did. -/
def integerSqrtUptoRow : OpenClaim := { program := "ytlaojdpcfenlkaa", sum := "77eb4a971dbbd018608f4eca528c0afa4670c3b0d7390b8b6f383e26ca6ba661", func := "swarf/swarflaw01.IntegerSqrt", spec := "integerSqrt", apart := false, narrowed := true }
def IntegerSqrtUptoSaid : Prop := integerSqrtUptoRow.holds Try.pinned (OpenSpec.upto integerSqrtSpec)

/-- 'swarflaw01.IntegerMul', WHERE WHAT IT READS IS OF BULK AT MOST 1048576: true; the input reads as it did. -/
def integerMulUptoRow : OpenClaim := { program := "ytlaojdpcfenlkaa", sum := "77eb4a971dbbd018608f4eca528c0afa4670c3b0d7390b8b6f383e26ca6ba661", func := "swarf/swarflaw01.IntegerMul", spec := "integerMul", apart := false, narrowed := true }
def IntegerMulUptoSaid : Prop := integerMulUptoRow.holds Try.pinned (OpenSpec.upto integerMulSpec)

/-- 'swarflaw01.IntegerSums', WHERE WHAT IT READS IS OF BULK AT MOST 1048576: true; the input reads as it did. -/
def integerSumsUptoRow : OpenClaim := { program := "ytlaojdpcfenlkaa", sum := "77eb4a971dbbd018608f4eca528c0afa4670c3b0d7390b8b6f383e26ca6ba661", func := "swarf/swarflaw01.IntegerSums", spec := "integerSums", apart := false, narrowed := true }
def IntegerSumsUptoSaid : Prop := integerSumsUptoRow.holds Try.pinned (OpenSpec.upto integerSumsSpec)

/-- 'swarflaw01.IntegerRing', WHERE WHAT IT READS IS OF BULK AT MOST 1048576: true; the input reads as it did. -/
def integerRingUptoRow : OpenClaim := { program := "ytlaojdpcfenlkaa", sum := "77eb4a971dbbd018608f4eca528c0afa4670c3b0d7390b8b6f383e26ca6ba661", func := "swarf/swarflaw01.IntegerRing", spec := "integerRing", apart := false, narrowed := true }
def IntegerRingUptoSaid : Prop := integerRingUptoRow.holds Try.pinned (OpenSpec.upto integerRingSpec)

/-- 'swarflaw01.IntegerValid', WHERE WHAT IT READS IS OF BULK AT MOST 1048576: true; the input reads as it did. -/
def integerValidUptoRow : OpenClaim := { program := "ytlaojdpcfenlkaa", sum := "77eb4a971dbbd018608f4eca528c0afa4670c3b0d7390b8b6f383e26ca6ba661", func := "swarf/swarflaw01.IntegerValid", spec := "integerValid", apart := false, narrowed := true }
def IntegerValidUptoSaid : Prop := integerValidUptoRow.holds Try.pinned (OpenSpec.upto integerValidSpec)

/-- 'swarflaw01.IntegerInt64', WHERE WHAT IT READS IS OF BULK AT MOST 1048576: true; the input reads as it did. -/
def integerInt64UptoRow : OpenClaim := { program := "ytlaojdpcfenlkaa", sum := "77eb4a971dbbd018608f4eca528c0afa4670c3b0d7390b8b6f383e26ca6ba661", func := "swarf/swarflaw01.IntegerInt64", spec := "integerInt64", apart := false, narrowed := true }
def IntegerInt64UptoSaid : Prop := integerInt64UptoRow.holds Try.pinned (OpenSpec.upto integerInt64Spec)

end Rows
end Go.Proofs.Ytlaojdpcfenlkaa
