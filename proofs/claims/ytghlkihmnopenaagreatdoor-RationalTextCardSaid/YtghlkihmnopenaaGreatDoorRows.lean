/-
  NARROWER THAN 'FOR EVERY INPUT', by the rows' own cells (each row's printed sentence says how): RationalFloor: laid · RationalSqrt: laid · RationalSimplest: laid · RationalText: laid · RationalOrder: laid · RationalMake: laid · RationalArithmetic: laid · RationalField: laid · RationalValid: laid.
  DERIVED. THE GIVEN ROWS OF THIS SEAT. 9 by the template 'for every input the law returns true; each argument reads behind the call as it read before'; 0 by the template 'total and deterministic' (their statements: YtghlkihmnopenaaGreatDoorTotals.lean).
  GIVEN WITH THE SEED: the statements are not yours to turn. If you find one false, say at which input.
  Laid BY PROGRAM, IN A SANDBOX (cutbox-rows.mjs): the forced cells as the released guide's own fill.sh prints them over the translation d67c45e6e6c08e5e… (all of the seat's roots in one cut). By AI agents, Wed Nov 11 2026. No macro, syntax, notation, axiom, sorry.
-/
import Derived.Test.YtghlkihmnopenaaGreatDoorChecked
import GoSem.Claim
import GoSem.ClaimJoined
import GoSem.ClaimMapViews
import Derived.JoinedTies
import Derived.KernelRfl
namespace Go.Proofs.YtghlkihmnopenaaGreatDoor
/- THE CELL 'sum', in the pinned program and in every row, IS THE sha256 OF THE DUMP (.gsa) THAT YtghlkihmnopenaaGreatDoorProg.lean LOADS. Nothing in Lean hashes anything: it is a label: what it is worth is what the hold of that sum in a sandbox is worth. -/
noncomputable def Tryz.pinned : Pinned := { name := "ytghlkihmnopenaagreatdoor", sum := "d67c45e6e6c08e5e0f72e1e6a8e3433cd267468b3edc2083e5edac4a84c5d2ad", checked := Tryz.checked }
namespace Rows
def none {H : Type} : Left H := { results := [], args := [] }

/- WHAT THE LISTED PACKAGE-LEVEL VARIABLES READ AS WHEN THE CALL BEGINS. Each datum BY PROGRAM (the guide's laid-datum.mjs) off the statement by which the dump's own 'gosem.cut.vars' lays the variable. In a bare row this is a premise. The card (YtghlkihmnopenaaGreatDoorCards.lean) ties it to the program's text. -/
def laid_math_bits_deBruijn32tab {H : Type} : DataW H := .agg [.lit (.int .u8 0), .lit (.int .u8 1), .lit (.int .u8 28), .lit (.int .u8 2), .lit (.int .u8 29), .lit (.int .u8 14), .lit (.int .u8 24), .lit (.int .u8 3), .lit (.int .u8 30), .lit (.int .u8 22), .lit (.int .u8 20), .lit (.int .u8 15), .lit (.int .u8 25), .lit (.int .u8 17), .lit (.int .u8 4), .lit (.int .u8 8), .lit (.int .u8 31), .lit (.int .u8 27), .lit (.int .u8 13), .lit (.int .u8 23), .lit (.int .u8 21), .lit (.int .u8 19), .lit (.int .u8 16), .lit (.int .u8 7), .lit (.int .u8 26), .lit (.int .u8 12), .lit (.int .u8 18), .lit (.int .u8 6), .lit (.int .u8 11), .lit (.int .u8 5), .lit (.int .u8 10), .lit (.int .u8 9)]
def laid_math_bits_deBruijn64tab {H : Type} : DataW H := .agg [.lit (.int .u8 0), .lit (.int .u8 1), .lit (.int .u8 56), .lit (.int .u8 2), .lit (.int .u8 57), .lit (.int .u8 49), .lit (.int .u8 28), .lit (.int .u8 3), .lit (.int .u8 61), .lit (.int .u8 58), .lit (.int .u8 42), .lit (.int .u8 50), .lit (.int .u8 38), .lit (.int .u8 29), .lit (.int .u8 17), .lit (.int .u8 4), .lit (.int .u8 62), .lit (.int .u8 47), .lit (.int .u8 59), .lit (.int .u8 36), .lit (.int .u8 45), .lit (.int .u8 43), .lit (.int .u8 51), .lit (.int .u8 22), .lit (.int .u8 53), .lit (.int .u8 39), .lit (.int .u8 33), .lit (.int .u8 30), .lit (.int .u8 24), .lit (.int .u8 18), .lit (.int .u8 12), .lit (.int .u8 5), .lit (.int .u8 63), .lit (.int .u8 55), .lit (.int .u8 48), .lit (.int .u8 27), .lit (.int .u8 60), .lit (.int .u8 41), .lit (.int .u8 37), .lit (.int .u8 16), .lit (.int .u8 46), .lit (.int .u8 35), .lit (.int .u8 44), .lit (.int .u8 21), .lit (.int .u8 52), .lit (.int .u8 32), .lit (.int .u8 23), .lit (.int .u8 11), .lit (.int .u8 54), .lit (.int .u8 26), .lit (.int .u8 40), .lit (.int .u8 15), .lit (.int .u8 34), .lit (.int .u8 20), .lit (.int .u8 31), .lit (.int .u8 10), .lit (.int .u8 25), .lit (.int .u8 14), .lit (.int .u8 19), .lit (.int .u8 9), .lit (.int .u8 13), .lit (.int .u8 8), .lit (.int .u8 7), .lit (.int .u8 6)]
def laid_internal_strconv_uint64pow10 {H : Type} : DataW H := .agg [.lit (.int .u64 1), .lit (.int .u64 10), .lit (.int .u64 100), .lit (.int .u64 1000), .lit (.int .u64 10000), .lit (.int .u64 100000), .lit (.int .u64 1000000), .lit (.int .u64 10000000), .lit (.int .u64 100000000), .lit (.int .u64 1000000000), .lit (.int .u64 10000000000), .lit (.int .u64 100000000000), .lit (.int .u64 1000000000000), .lit (.int .u64 10000000000000), .lit (.int .u64 100000000000000), .lit (.int .u64 1000000000000000), .lit (.int .u64 10000000000000000), .lit (.int .u64 100000000000000000), .lit (.int .u64 1000000000000000000), .lit (.int .u64 10000000000000000000)]

/-- 'swarflaw02.RationalFloor': WHATEVER THE INPUT: true; the input reads as it did. -/
def rationalFloorSpec : ChangeSpec := { name := "rationalFloor", fn := fun _ => fun
  | [d] => { results := [.lit (.bool true)], args := [d] }
  | _ => none }
def rationalFloorRow : OpenClaim := { program := "ytghlkihmnopenaagreatdoor", sum := "d67c45e6e6c08e5e0f72e1e6a8e3433cd267468b3edc2083e5edac4a84c5d2ad", func := "swarf/swarflaw02.RationalFloor", spec := "rationalFloor", inPlace := ["internal/bytealg.IndexByteString", "internal/bytealg.IndexString", "internal/abi.NoEscape", "internal/bytealg.MakeNoZero"], recurses := true, named := ["internal/bytealg.MaxLen", "internal/strconv.uint64pow10", "math/bits.deBruijn32tab", "math/bits.deBruijn64tab"], apart := false, laid := [("math/bits.deBruijn32tab", laid_math_bits_deBruijn32tab), ("math/bits.deBruijn64tab", laid_math_bits_deBruijn64tab), ("internal/strconv.uint64pow10", laid_internal_strconv_uint64pow10)] }
def RationalFloorSaid : Prop := rationalFloorRow.holds Tryz.pinned (OpenSpec.ofChange rationalFloorSpec)

/-- ITS FALSE NEIGHBOUR: 'it returns false'. Refute it at one input. -/
def rationalFloorWrong : ChangeSpec := { name := "rationalFloor", fn := fun _ => fun
  | [d] => { results := [.lit (.bool false)], args := [d] }
  | _ => none }
def RationalFloorWrongFalsely : Prop := rationalFloorRow.holds Tryz.pinned (OpenSpec.ofChange rationalFloorWrong)

/-- 'swarflaw02.RationalSqrt': WHATEVER THE INPUT: true; the input reads as it did. -/
def rationalSqrtSpec : ChangeSpec := { name := "rationalSqrt", fn := fun _ => fun
  | [d] => { results := [.lit (.bool true)], args := [d] }
  | _ => none }
def rationalSqrtRow : OpenClaim := { program := "ytghlkihmnopenaagreatdoor", sum := "d67c45e6e6c08e5e0f72e1e6a8e3433cd267468b3edc2083e5edac4a84c5d2ad", func := "swarf/swarflaw02.RationalSqrt", spec := "rationalSqrt", inPlace := ["internal/bytealg.IndexByteString", "internal/bytealg.IndexString", "internal/abi.NoEscape", "internal/bytealg.MakeNoZero"], recurses := true, named := ["internal/bytealg.MaxLen", "internal/strconv.uint64pow10", "math/bits.deBruijn32tab", "math/bits.deBruijn64tab"], apart := false, laid := [("math/bits.deBruijn32tab", laid_math_bits_deBruijn32tab), ("math/bits.deBruijn64tab", laid_math_bits_deBruijn64tab), ("internal/strconv.uint64pow10", laid_internal_strconv_uint64pow10)] }
def RationalSqrtSaid : Prop := rationalSqrtRow.holds Tryz.pinned (OpenSpec.ofChange rationalSqrtSpec)

/-- ITS FALSE NEIGHBOUR: 'it returns false'. Refute it at one input. -/
def rationalSqrtWrong : ChangeSpec := { name := "rationalSqrt", fn := fun _ => fun
  | [d] => { results := [.lit (.bool false)], args := [d] }
  | _ => none }
def RationalSqrtWrongFalsely : Prop := rationalSqrtRow.holds Tryz.pinned (OpenSpec.ofChange rationalSqrtWrong)

/-- 'swarflaw02.RationalSimplest': WHATEVER THE INPUT: true; the input reads as it did. -/
def rationalSimplestSpec : ChangeSpec := { name := "rationalSimplest", fn := fun _ => fun
  | [d1, d2] => { results := [.lit (.bool true)], args := [d1, d2] }
  | _ => none }
def rationalSimplestRow : OpenClaim := { program := "ytghlkihmnopenaagreatdoor", sum := "d67c45e6e6c08e5e0f72e1e6a8e3433cd267468b3edc2083e5edac4a84c5d2ad", func := "swarf/swarflaw02.RationalSimplest", spec := "rationalSimplest", inPlace := ["internal/bytealg.IndexByteString", "internal/bytealg.IndexString", "internal/abi.NoEscape", "internal/bytealg.MakeNoZero"], recurses := true, named := ["internal/bytealg.MaxLen", "internal/strconv.uint64pow10", "math/bits.deBruijn32tab", "math/bits.deBruijn64tab"], apart := false, laid := [("math/bits.deBruijn32tab", laid_math_bits_deBruijn32tab), ("math/bits.deBruijn64tab", laid_math_bits_deBruijn64tab), ("internal/strconv.uint64pow10", laid_internal_strconv_uint64pow10)] }
def RationalSimplestSaid : Prop := rationalSimplestRow.holds Tryz.pinned (OpenSpec.ofChange rationalSimplestSpec)

/-- ITS FALSE NEIGHBOUR: 'it returns false'. Refute it at one input. -/
def rationalSimplestWrong : ChangeSpec := { name := "rationalSimplest", fn := fun _ => fun
  | [d1, d2] => { results := [.lit (.bool false)], args := [d1, d2] }
  | _ => none }
def RationalSimplestWrongFalsely : Prop := rationalSimplestRow.holds Tryz.pinned (OpenSpec.ofChange rationalSimplestWrong)

/-- 'swarflaw02.RationalText': WHATEVER THE INPUT: true; the input reads as it did. -/
def rationalTextSpec : ChangeSpec := { name := "rationalText", fn := fun _ => fun
  | [d1, d2] => { results := [.lit (.bool true)], args := [d1, d2] }
  | _ => none }
def rationalTextRow : OpenClaim := { program := "ytghlkihmnopenaagreatdoor", sum := "d67c45e6e6c08e5e0f72e1e6a8e3433cd267468b3edc2083e5edac4a84c5d2ad", func := "swarf/swarflaw02.RationalText", spec := "rationalText", inPlace := ["internal/bytealg.IndexByteString", "internal/bytealg.IndexString", "internal/abi.NoEscape", "internal/bytealg.MakeNoZero"], recurses := true, named := ["internal/bytealg.MaxLen", "internal/strconv.uint64pow10", "math/bits.deBruijn32tab", "math/bits.deBruijn64tab"], apart := false, laid := [("math/bits.deBruijn32tab", laid_math_bits_deBruijn32tab), ("math/bits.deBruijn64tab", laid_math_bits_deBruijn64tab), ("internal/strconv.uint64pow10", laid_internal_strconv_uint64pow10)] }
def RationalTextSaid : Prop := rationalTextRow.holds Tryz.pinned (OpenSpec.ofChange rationalTextSpec)

/-- ITS FALSE NEIGHBOUR: 'it returns false'. Refute it at one input. -/
def rationalTextWrong : ChangeSpec := { name := "rationalText", fn := fun _ => fun
  | [d1, d2] => { results := [.lit (.bool false)], args := [d1, d2] }
  | _ => none }
def RationalTextWrongFalsely : Prop := rationalTextRow.holds Tryz.pinned (OpenSpec.ofChange rationalTextWrong)

/-- 'swarflaw02.RationalOrder': WHATEVER THE INPUT: true; the input reads as it did. -/
def rationalOrderSpec : ChangeSpec := { name := "rationalOrder", fn := fun _ => fun
  | [d1, d2, d3] => { results := [.lit (.bool true)], args := [d1, d2, d3] }
  | _ => none }
def rationalOrderRow : OpenClaim := { program := "ytghlkihmnopenaagreatdoor", sum := "d67c45e6e6c08e5e0f72e1e6a8e3433cd267468b3edc2083e5edac4a84c5d2ad", func := "swarf/swarflaw02.RationalOrder", spec := "rationalOrder", inPlace := ["internal/bytealg.IndexByteString", "internal/bytealg.IndexString", "internal/abi.NoEscape", "internal/bytealg.MakeNoZero"], recurses := true, named := ["internal/bytealg.MaxLen", "internal/strconv.uint64pow10", "math/bits.deBruijn32tab", "math/bits.deBruijn64tab"], apart := false, laid := [("math/bits.deBruijn32tab", laid_math_bits_deBruijn32tab), ("math/bits.deBruijn64tab", laid_math_bits_deBruijn64tab), ("internal/strconv.uint64pow10", laid_internal_strconv_uint64pow10)] }
def RationalOrderSaid : Prop := rationalOrderRow.holds Tryz.pinned (OpenSpec.ofChange rationalOrderSpec)

/-- ITS FALSE NEIGHBOUR: 'it returns false'. Refute it at one input. -/
def rationalOrderWrong : ChangeSpec := { name := "rationalOrder", fn := fun _ => fun
  | [d1, d2, d3] => { results := [.lit (.bool false)], args := [d1, d2, d3] }
  | _ => none }
def RationalOrderWrongFalsely : Prop := rationalOrderRow.holds Tryz.pinned (OpenSpec.ofChange rationalOrderWrong)

/-- 'swarflaw02.RationalMake': WHATEVER THE INPUT: true; the input reads as it did. -/
def rationalMakeSpec : ChangeSpec := { name := "rationalMake", fn := fun _ => fun
  | [d1, d2, d3] => { results := [.lit (.bool true)], args := [d1, d2, d3] }
  | _ => none }
def rationalMakeRow : OpenClaim := { program := "ytghlkihmnopenaagreatdoor", sum := "d67c45e6e6c08e5e0f72e1e6a8e3433cd267468b3edc2083e5edac4a84c5d2ad", func := "swarf/swarflaw02.RationalMake", spec := "rationalMake", inPlace := ["internal/bytealg.IndexByteString", "internal/bytealg.IndexString", "internal/abi.NoEscape", "internal/bytealg.MakeNoZero"], recurses := true, named := ["internal/bytealg.MaxLen", "internal/strconv.uint64pow10", "math/bits.deBruijn32tab", "math/bits.deBruijn64tab"], apart := false, laid := [("math/bits.deBruijn32tab", laid_math_bits_deBruijn32tab), ("math/bits.deBruijn64tab", laid_math_bits_deBruijn64tab), ("internal/strconv.uint64pow10", laid_internal_strconv_uint64pow10)] }
def RationalMakeSaid : Prop := rationalMakeRow.holds Tryz.pinned (OpenSpec.ofChange rationalMakeSpec)

/-- ITS FALSE NEIGHBOUR: 'it returns false'. Refute it at one input. -/
def rationalMakeWrong : ChangeSpec := { name := "rationalMake", fn := fun _ => fun
  | [d1, d2, d3] => { results := [.lit (.bool false)], args := [d1, d2, d3] }
  | _ => none }
def RationalMakeWrongFalsely : Prop := rationalMakeRow.holds Tryz.pinned (OpenSpec.ofChange rationalMakeWrong)

/-- 'swarflaw02.RationalArithmetic': WHATEVER THE INPUT: true; the input reads as it did. -/
def rationalArithmeticSpec : ChangeSpec := { name := "rationalArithmetic", fn := fun _ => fun
  | [d1, d2] => { results := [.lit (.bool true)], args := [d1, d2] }
  | _ => none }
def rationalArithmeticRow : OpenClaim := { program := "ytghlkihmnopenaagreatdoor", sum := "d67c45e6e6c08e5e0f72e1e6a8e3433cd267468b3edc2083e5edac4a84c5d2ad", func := "swarf/swarflaw02.RationalArithmetic", spec := "rationalArithmetic", inPlace := ["internal/bytealg.IndexByteString", "internal/bytealg.IndexString", "internal/abi.NoEscape", "internal/bytealg.MakeNoZero"], recurses := true, named := ["internal/bytealg.MaxLen", "internal/strconv.uint64pow10", "math/bits.deBruijn32tab", "math/bits.deBruijn64tab"], apart := false, laid := [("math/bits.deBruijn32tab", laid_math_bits_deBruijn32tab), ("math/bits.deBruijn64tab", laid_math_bits_deBruijn64tab), ("internal/strconv.uint64pow10", laid_internal_strconv_uint64pow10)] }
def RationalArithmeticSaid : Prop := rationalArithmeticRow.holds Tryz.pinned (OpenSpec.ofChange rationalArithmeticSpec)

/-- ITS FALSE NEIGHBOUR: 'it returns false'. Refute it at one input. -/
def rationalArithmeticWrong : ChangeSpec := { name := "rationalArithmetic", fn := fun _ => fun
  | [d1, d2] => { results := [.lit (.bool false)], args := [d1, d2] }
  | _ => none }
def RationalArithmeticWrongFalsely : Prop := rationalArithmeticRow.holds Tryz.pinned (OpenSpec.ofChange rationalArithmeticWrong)

/-- 'swarflaw02.RationalField': WHATEVER THE INPUT: true; the input reads as it did. -/
def rationalFieldSpec : ChangeSpec := { name := "rationalField", fn := fun _ => fun
  | [d1, d2, d3] => { results := [.lit (.bool true)], args := [d1, d2, d3] }
  | _ => none }
def rationalFieldRow : OpenClaim := { program := "ytghlkihmnopenaagreatdoor", sum := "d67c45e6e6c08e5e0f72e1e6a8e3433cd267468b3edc2083e5edac4a84c5d2ad", func := "swarf/swarflaw02.RationalField", spec := "rationalField", inPlace := ["internal/bytealg.IndexByteString", "internal/bytealg.IndexString", "internal/abi.NoEscape", "internal/bytealg.MakeNoZero"], recurses := true, named := ["internal/bytealg.MaxLen", "internal/strconv.uint64pow10", "math/bits.deBruijn32tab", "math/bits.deBruijn64tab"], apart := false, laid := [("math/bits.deBruijn32tab", laid_math_bits_deBruijn32tab), ("math/bits.deBruijn64tab", laid_math_bits_deBruijn64tab), ("internal/strconv.uint64pow10", laid_internal_strconv_uint64pow10)] }
def RationalFieldSaid : Prop := rationalFieldRow.holds Tryz.pinned (OpenSpec.ofChange rationalFieldSpec)

/-- ITS FALSE NEIGHBOUR: 'it returns false'. Refute it at one input. -/
def rationalFieldWrong : ChangeSpec := { name := "rationalField", fn := fun _ => fun
  | [d1, d2, d3] => { results := [.lit (.bool false)], args := [d1, d2, d3] }
  | _ => none }
def RationalFieldWrongFalsely : Prop := rationalFieldRow.holds Tryz.pinned (OpenSpec.ofChange rationalFieldWrong)

/-- 'swarflaw02.RationalValid': WHATEVER THE INPUT: true; the input reads as it did. -/
def rationalValidSpec : ChangeSpec := { name := "rationalValid", fn := fun _ => fun
  | [d] => { results := [.lit (.bool true)], args := [d] }
  | _ => none }
def rationalValidRow : OpenClaim := { program := "ytghlkihmnopenaagreatdoor", sum := "d67c45e6e6c08e5e0f72e1e6a8e3433cd267468b3edc2083e5edac4a84c5d2ad", func := "swarf/swarflaw02.RationalValid", spec := "rationalValid", inPlace := ["internal/bytealg.IndexByteString", "internal/bytealg.IndexString", "internal/abi.NoEscape", "internal/bytealg.MakeNoZero"], recurses := true, named := ["internal/bytealg.MaxLen", "internal/strconv.uint64pow10", "math/bits.deBruijn32tab", "math/bits.deBruijn64tab"], apart := false, laid := [("math/bits.deBruijn32tab", laid_math_bits_deBruijn32tab), ("math/bits.deBruijn64tab", laid_math_bits_deBruijn64tab), ("internal/strconv.uint64pow10", laid_internal_strconv_uint64pow10)] }
def RationalValidSaid : Prop := rationalValidRow.holds Tryz.pinned (OpenSpec.ofChange rationalValidSpec)

/-- ITS FALSE NEIGHBOUR: 'it returns false'. Refute it at one input. -/
def rationalValidWrong : ChangeSpec := { name := "rationalValid", fn := fun _ => fun
  | [d] => { results := [.lit (.bool false)], args := [d] }
  | _ => none }
def RationalValidWrongFalsely : Prop := rationalValidRow.holds Tryz.pinned (OpenSpec.ofChange rationalValidWrong)

/- THE SECOND FORM. 'bulk': how many values and letters a reading holds, each counted each time it is reached (what is shared counts as often as it is met; a slice's spare places count too). A statement '..UptoSaid' is the law's where the arguments, and the package variables that the reading takes, are together of bulk at most 1048576: NARROWER than '..Said'. Prove '..Said' where nothing that the law and all that it calls make is longer than what came in: it says more and counts as full. Else prove '..UptoSaid'. A law counts once. -/
mutual
def uptoBulk {H : Type} : DataW H → Nat
  | .lit (.string bytes) => bytes.length + 1
  | .lit _ => 1
  | .nil => 1
  | .ptr d => uptoBulk d + 1
  | .slice elems spare => uptoBulkAll elems + uptoBulkAll spare + 1
  | .agg parts => uptoBulkAll parts + 1
  | .iface _ d => uptoBulk d + 1
  | .map entries => uptoBulkEntries entries + 1
  | .held _ => 1
def uptoBulkAll {H : Type} : List (DataW H) → Nat
  | [] => 0
  | d :: r => uptoBulk d + uptoBulkAll r
def uptoBulkEntries {H : Type} : List (Lit × DataW H) → Nat
  | [] => 0
  | x :: r => uptoBulkEntry x + uptoBulkEntries r
def uptoBulkEntry {H : Type} : Lit × DataW H → Nat
  | (.string bytes, d) => bytes.length + uptoBulk d + 1
  | (_, d) => uptoBulk d + 1
 end
def uptoSmall : (H : Type) → List (DataW H) → Bool := fun _ ds => decide (uptoBulkAll ds ≤ 1048576)
def OpenSpec.upto (s : _root_.Go.ChangeSpec) : _root_.Go.OpenSpec := { _root_.Go.OpenSpec.ofChange s with cond := some uptoSmall }

/-- 'swarflaw02.RationalFloor', WHERE WHAT IT READS IS OF BULK AT MOST 1048576: true; the input reads as it did. -/
def rationalFloorUptoRow : OpenClaim := { program := "ytghlkihmnopenaagreatdoor", sum := "d67c45e6e6c08e5e0f72e1e6a8e3433cd267468b3edc2083e5edac4a84c5d2ad", func := "swarf/swarflaw02.RationalFloor", spec := "rationalFloor", inPlace := ["internal/bytealg.IndexByteString", "internal/bytealg.IndexString", "internal/abi.NoEscape", "internal/bytealg.MakeNoZero"], recurses := true, named := ["internal/bytealg.MaxLen", "internal/strconv.uint64pow10", "math/bits.deBruijn32tab", "math/bits.deBruijn64tab"], apart := false, laid := [("math/bits.deBruijn32tab", laid_math_bits_deBruijn32tab), ("math/bits.deBruijn64tab", laid_math_bits_deBruijn64tab), ("internal/strconv.uint64pow10", laid_internal_strconv_uint64pow10)], narrowed := true }
def RationalFloorUptoSaid : Prop := rationalFloorUptoRow.holds Tryz.pinned (OpenSpec.upto rationalFloorSpec)

/-- 'swarflaw02.RationalSqrt', WHERE WHAT IT READS IS OF BULK AT MOST 1048576: true; the input reads as it did. -/
def rationalSqrtUptoRow : OpenClaim := { program := "ytghlkihmnopenaagreatdoor", sum := "d67c45e6e6c08e5e0f72e1e6a8e3433cd267468b3edc2083e5edac4a84c5d2ad", func := "swarf/swarflaw02.RationalSqrt", spec := "rationalSqrt", inPlace := ["internal/bytealg.IndexByteString", "internal/bytealg.IndexString", "internal/abi.NoEscape", "internal/bytealg.MakeNoZero"], recurses := true, named := ["internal/bytealg.MaxLen", "internal/strconv.uint64pow10", "math/bits.deBruijn32tab", "math/bits.deBruijn64tab"], apart := false, laid := [("math/bits.deBruijn32tab", laid_math_bits_deBruijn32tab), ("math/bits.deBruijn64tab", laid_math_bits_deBruijn64tab), ("internal/strconv.uint64pow10", laid_internal_strconv_uint64pow10)], narrowed := true }
def RationalSqrtUptoSaid : Prop := rationalSqrtUptoRow.holds Tryz.pinned (OpenSpec.upto rationalSqrtSpec)

/-- 'swarflaw02.RationalSimplest', WHERE WHAT IT READS IS OF BULK AT MOST 1048576: true; the input reads as it did. -/
def rationalSimplestUptoRow : OpenClaim := { program := "ytghlkihmnopenaagreatdoor", sum := "d67c45e6e6c08e5e0f72e1e6a8e3433cd267468b3edc2083e5edac4a84c5d2ad", func := "swarf/swarflaw02.RationalSimplest", spec := "rationalSimplest", inPlace := ["internal/bytealg.IndexByteString", "internal/bytealg.IndexString", "internal/abi.NoEscape", "internal/bytealg.MakeNoZero"], recurses := true, named := ["internal/bytealg.MaxLen", "internal/strconv.uint64pow10", "math/bits.deBruijn32tab", "math/bits.deBruijn64tab"], apart := false, laid := [("math/bits.deBruijn32tab", laid_math_bits_deBruijn32tab), ("math/bits.deBruijn64tab", laid_math_bits_deBruijn64tab), ("internal/strconv.uint64pow10", laid_internal_strconv_uint64pow10)], narrowed := true }
def RationalSimplestUptoSaid : Prop := rationalSimplestUptoRow.holds Tryz.pinned (OpenSpec.upto rationalSimplestSpec)

/-- 'swarflaw02.RationalText', WHERE WHAT IT READS IS OF BULK AT MOST 1048576: true; the input reads as it did. -/
def rationalTextUptoRow : OpenClaim := { program := "ytghlkihmnopenaagreatdoor", sum := "d67c45e6e6c08e5e0f72e1e6a8e3433cd267468b3edc2083e5edac4a84c5d2ad", func := "swarf/swarflaw02.RationalText", spec := "rationalText", inPlace := ["internal/bytealg.IndexByteString", "internal/bytealg.IndexString", "internal/abi.NoEscape", "internal/bytealg.MakeNoZero"], recurses := true, named := ["internal/bytealg.MaxLen", "internal/strconv.uint64pow10", "math/bits.deBruijn32tab", "math/bits.deBruijn64tab"], apart := false, laid := [("math/bits.deBruijn32tab", laid_math_bits_deBruijn32tab), ("math/bits.deBruijn64tab", laid_math_bits_deBruijn64tab), ("internal/strconv.uint64pow10", laid_internal_strconv_uint64pow10)], narrowed := true }
def RationalTextUptoSaid : Prop := rationalTextUptoRow.holds Tryz.pinned (OpenSpec.upto rationalTextSpec)

/-- 'swarflaw02.RationalOrder', WHERE WHAT IT READS IS OF BULK AT MOST 1048576: true; the input reads as it did. -/
def rationalOrderUptoRow : OpenClaim := { program := "ytghlkihmnopenaagreatdoor", sum := "d67c45e6e6c08e5e0f72e1e6a8e3433cd267468b3edc2083e5edac4a84c5d2ad", func := "swarf/swarflaw02.RationalOrder", spec := "rationalOrder", inPlace := ["internal/bytealg.IndexByteString", "internal/bytealg.IndexString", "internal/abi.NoEscape", "internal/bytealg.MakeNoZero"], recurses := true, named := ["internal/bytealg.MaxLen", "internal/strconv.uint64pow10", "math/bits.deBruijn32tab", "math/bits.deBruijn64tab"], apart := false, laid := [("math/bits.deBruijn32tab", laid_math_bits_deBruijn32tab), ("math/bits.deBruijn64tab", laid_math_bits_deBruijn64tab), ("internal/strconv.uint64pow10", laid_internal_strconv_uint64pow10)], narrowed := true }
def RationalOrderUptoSaid : Prop := rationalOrderUptoRow.holds Tryz.pinned (OpenSpec.upto rationalOrderSpec)

/-- 'swarflaw02.RationalMake', WHERE WHAT IT READS IS OF BULK AT MOST 1048576: true; the input reads as it did. -/
def rationalMakeUptoRow : OpenClaim := { program := "ytghlkihmnopenaagreatdoor", sum := "d67c45e6e6c08e5e0f72e1e6a8e3433cd267468b3edc2083e5edac4a84c5d2ad", func := "swarf/swarflaw02.RationalMake", spec := "rationalMake", inPlace := ["internal/bytealg.IndexByteString", "internal/bytealg.IndexString", "internal/abi.NoEscape", "internal/bytealg.MakeNoZero"], recurses := true, named := ["internal/bytealg.MaxLen", "internal/strconv.uint64pow10", "math/bits.deBruijn32tab", "math/bits.deBruijn64tab"], apart := false, laid := [("math/bits.deBruijn32tab", laid_math_bits_deBruijn32tab), ("math/bits.deBruijn64tab", laid_math_bits_deBruijn64tab), ("internal/strconv.uint64pow10", laid_internal_strconv_uint64pow10)], narrowed := true }
def RationalMakeUptoSaid : Prop := rationalMakeUptoRow.holds Tryz.pinned (OpenSpec.upto rationalMakeSpec)

/-- 'swarflaw02.RationalArithmetic', WHERE WHAT IT READS IS OF BULK AT MOST 1048576: true; the input reads as it did. -/
def rationalArithmeticUptoRow : OpenClaim := { program := "ytghlkihmnopenaagreatdoor", sum := "d67c45e6e6c08e5e0f72e1e6a8e3433cd267468b3edc2083e5edac4a84c5d2ad", func := "swarf/swarflaw02.RationalArithmetic", spec := "rationalArithmetic", inPlace := ["internal/bytealg.IndexByteString", "internal/bytealg.IndexString", "internal/abi.NoEscape", "internal/bytealg.MakeNoZero"], recurses := true, named := ["internal/bytealg.MaxLen", "internal/strconv.uint64pow10", "math/bits.deBruijn32tab", "math/bits.deBruijn64tab"], apart := false, laid := [("math/bits.deBruijn32tab", laid_math_bits_deBruijn32tab), ("math/bits.deBruijn64tab", laid_math_bits_deBruijn64tab), ("internal/strconv.uint64pow10", laid_internal_strconv_uint64pow10)], narrowed := true }
def RationalArithmeticUptoSaid : Prop := rationalArithmeticUptoRow.holds Tryz.pinned (OpenSpec.upto rationalArithmeticSpec)

/-- 'swarflaw02.RationalField', WHERE WHAT IT READS IS OF BULK AT MOST 1048576: true; the input reads as it did. -/
def rationalFieldUptoRow : OpenClaim := { program := "ytghlkihmnopenaagreatdoor", sum := "d67c45e6e6c08e5e0f72e1e6a8e3433cd267468b3edc2083e5edac4a84c5d2ad", func := "swarf/swarflaw02.RationalField", spec := "rationalField", inPlace := ["internal/bytealg.IndexByteString", "internal/bytealg.IndexString", "internal/abi.NoEscape", "internal/bytealg.MakeNoZero"], recurses := true, named := ["internal/bytealg.MaxLen", "internal/strconv.uint64pow10", "math/bits.deBruijn32tab", "math/bits.deBruijn64tab"], apart := false, laid := [("math/bits.deBruijn32tab", laid_math_bits_deBruijn32tab), ("math/bits.deBruijn64tab", laid_math_bits_deBruijn64tab), ("internal/strconv.uint64pow10", laid_internal_strconv_uint64pow10)], narrowed := true }
def RationalFieldUptoSaid : Prop := rationalFieldUptoRow.holds Tryz.pinned (OpenSpec.upto rationalFieldSpec)

/-- 'swarflaw02.RationalValid', WHERE WHAT IT READS IS OF BULK AT MOST 1048576: true; the input reads as it did. -/
def rationalValidUptoRow : OpenClaim := { program := "ytghlkihmnopenaagreatdoor", sum := "d67c45e6e6c08e5e0f72e1e6a8e3433cd267468b3edc2083e5edac4a84c5d2ad", func := "swarf/swarflaw02.RationalValid", spec := "rationalValid", inPlace := ["internal/bytealg.IndexByteString", "internal/bytealg.IndexString", "internal/abi.NoEscape", "internal/bytealg.MakeNoZero"], recurses := true, named := ["internal/bytealg.MaxLen", "internal/strconv.uint64pow10", "math/bits.deBruijn32tab", "math/bits.deBruijn64tab"], apart := false, laid := [("math/bits.deBruijn32tab", laid_math_bits_deBruijn32tab), ("math/bits.deBruijn64tab", laid_math_bits_deBruijn64tab), ("internal/strconv.uint64pow10", laid_internal_strconv_uint64pow10)], narrowed := true }
def RationalValidUptoSaid : Prop := rationalValidUptoRow.holds Tryz.pinned (OpenSpec.upto rationalValidSpec)

end Rows
end Go.Proofs.YtghlkihmnopenaaGreatDoor
