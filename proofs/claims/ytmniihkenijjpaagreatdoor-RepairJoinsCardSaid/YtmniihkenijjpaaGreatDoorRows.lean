/-
  NARROWER THAN 'FOR EVERY INPUT', by the rows' own cells (each row's printed sentence says how): RepairReport: laid · RepairTwice: laid · RepairDistances: laid · RepairClean: laid · RepairJoins: laid · RepairEnds: laid · RepairOpen: laid · TopRepaired: laid.
  DERIVED. THE GIVEN ROWS OF THIS SEAT. 8 by the template 'for every input the law returns true; each argument reads behind the call as it read before'; 0 by the template 'total and deterministic' (their statements: YtmniihkenijjpaaGreatDoorTotals.lean).
  GIVEN WITH THE SEED: the statements are not yours to turn. If you find one false, say at which input.
  Laid BY PROGRAM, IN A SANDBOX (cutbox-rows.mjs): the forced cells as the released guide's own fill.sh prints them over the translation 93df7be9c0bcf102… (all of the seat's roots in one cut). By AI agents, Wed Nov 11 2026. No macro, syntax, notation, axiom, sorry.
-/
import Derived.Test.YtmniihkenijjpaaGreatDoorChecked
import GoSem.Claim
import GoSem.ClaimJoined
import GoSem.ClaimMapViews
import Derived.JoinedTies
import Derived.KernelRfl
namespace Go.Proofs.YtmniihkenijjpaaGreatDoor
/- THE CELL 'sum', in the pinned program and in every row, IS THE sha256 OF THE DUMP (.gsa) THAT YtmniihkenijjpaaGreatDoorProg.lean LOADS. Nothing in Lean hashes anything: it is a label: what it is worth is what the hold of that sum in a sandbox is worth. -/
noncomputable def Tryz.pinned : Pinned := { name := "ytmniihkenijjpaagreatdoor", sum := "93df7be9c0bcf102d562418321160f6db7edde74beb3a395a3dba9f50539d759", checked := Tryz.checked }
namespace Rows
def none {H : Type} : Left H := { results := [], args := [] }

/- WHAT THE LISTED PACKAGE-LEVEL VARIABLES READ AS WHEN THE CALL BEGINS. Each datum BY PROGRAM (the guide's laid-datum.mjs) off the statement by which the dump's own 'gosem.cut.vars' lays the variable. In a bare row this is a premise. The card (YtmniihkenijjpaaGreatDoorCards.lean) ties it to the program's text. -/
def laid_math_bits_deBruijn32tab {H : Type} : DataW H := .agg [.lit (.int .u8 0), .lit (.int .u8 1), .lit (.int .u8 28), .lit (.int .u8 2), .lit (.int .u8 29), .lit (.int .u8 14), .lit (.int .u8 24), .lit (.int .u8 3), .lit (.int .u8 30), .lit (.int .u8 22), .lit (.int .u8 20), .lit (.int .u8 15), .lit (.int .u8 25), .lit (.int .u8 17), .lit (.int .u8 4), .lit (.int .u8 8), .lit (.int .u8 31), .lit (.int .u8 27), .lit (.int .u8 13), .lit (.int .u8 23), .lit (.int .u8 21), .lit (.int .u8 19), .lit (.int .u8 16), .lit (.int .u8 7), .lit (.int .u8 26), .lit (.int .u8 12), .lit (.int .u8 18), .lit (.int .u8 6), .lit (.int .u8 11), .lit (.int .u8 5), .lit (.int .u8 10), .lit (.int .u8 9)]
def laid_math_bits_deBruijn64tab {H : Type} : DataW H := .agg [.lit (.int .u8 0), .lit (.int .u8 1), .lit (.int .u8 56), .lit (.int .u8 2), .lit (.int .u8 57), .lit (.int .u8 49), .lit (.int .u8 28), .lit (.int .u8 3), .lit (.int .u8 61), .lit (.int .u8 58), .lit (.int .u8 42), .lit (.int .u8 50), .lit (.int .u8 38), .lit (.int .u8 29), .lit (.int .u8 17), .lit (.int .u8 4), .lit (.int .u8 62), .lit (.int .u8 47), .lit (.int .u8 59), .lit (.int .u8 36), .lit (.int .u8 45), .lit (.int .u8 43), .lit (.int .u8 51), .lit (.int .u8 22), .lit (.int .u8 53), .lit (.int .u8 39), .lit (.int .u8 33), .lit (.int .u8 30), .lit (.int .u8 24), .lit (.int .u8 18), .lit (.int .u8 12), .lit (.int .u8 5), .lit (.int .u8 63), .lit (.int .u8 55), .lit (.int .u8 48), .lit (.int .u8 27), .lit (.int .u8 60), .lit (.int .u8 41), .lit (.int .u8 37), .lit (.int .u8 16), .lit (.int .u8 46), .lit (.int .u8 35), .lit (.int .u8 44), .lit (.int .u8 21), .lit (.int .u8 52), .lit (.int .u8 32), .lit (.int .u8 23), .lit (.int .u8 11), .lit (.int .u8 54), .lit (.int .u8 26), .lit (.int .u8 40), .lit (.int .u8 15), .lit (.int .u8 34), .lit (.int .u8 20), .lit (.int .u8 31), .lit (.int .u8 10), .lit (.int .u8 25), .lit (.int .u8 14), .lit (.int .u8 19), .lit (.int .u8 9), .lit (.int .u8 13), .lit (.int .u8 8), .lit (.int .u8 7), .lit (.int .u8 6)]
def laid_internal_strconv_uint64pow10 {H : Type} : DataW H := .agg [.lit (.int .u64 1), .lit (.int .u64 10), .lit (.int .u64 100), .lit (.int .u64 1000), .lit (.int .u64 10000), .lit (.int .u64 100000), .lit (.int .u64 1000000), .lit (.int .u64 10000000), .lit (.int .u64 100000000), .lit (.int .u64 1000000000), .lit (.int .u64 10000000000), .lit (.int .u64 100000000000), .lit (.int .u64 1000000000000), .lit (.int .u64 10000000000000), .lit (.int .u64 100000000000000), .lit (.int .u64 1000000000000000), .lit (.int .u64 10000000000000000), .lit (.int .u64 100000000000000000), .lit (.int .u64 1000000000000000000), .lit (.int .u64 10000000000000000000)]
def laid_swarf_drawing_shapes {H : Type} : DataW H := .agg [.agg [.lit (.string []), .lit (.int .i64 0)], .agg [.lit (.string [108, 105, 110, 101]), .lit (.int .i64 2)], .agg [.lit (.string [97, 114, 99]), .lit (.int .i64 3)], .agg [.lit (.string [99, 105, 114, 99, 108, 101]), .lit (.int .i64 1)]]

/-- 'swarflaw23.RepairReport': WHATEVER THE INPUT: true; the input reads as it did. -/
def repairReportSpec : ChangeSpec := { name := "repairReport", fn := fun _ => fun
  | [d1, d2] => { results := [.lit (.bool true)], args := [d1, d2] }
  | _ => none }
def repairReportRow : OpenClaim := { program := "ytmniihkenijjpaagreatdoor", sum := "93df7be9c0bcf102d562418321160f6db7edde74beb3a395a3dba9f50539d759", func := "swarf/swarflaw23.RepairReport", spec := "repairReport", inPlace := ["internal/abi.NoEscape", "internal/bytealg.MakeNoZero"], unfollowed := true, recurses := true, named := ["swarf/drawing.shapes", "internal/strconv.uint64pow10", "math/bits.deBruijn32tab", "math/bits.deBruijn64tab"], apart := false, laid := [("math/bits.deBruijn32tab", laid_math_bits_deBruijn32tab), ("math/bits.deBruijn64tab", laid_math_bits_deBruijn64tab), ("internal/strconv.uint64pow10", laid_internal_strconv_uint64pow10), ("swarf/drawing.shapes", laid_swarf_drawing_shapes)] }
def RepairReportSaid : Prop := repairReportRow.holds Tryz.pinned (OpenSpec.ofChange repairReportSpec)

/-- ITS FALSE NEIGHBOUR: 'it returns false'. Refute it at one input. -/
def repairReportWrong : ChangeSpec := { name := "repairReport", fn := fun _ => fun
  | [d1, d2] => { results := [.lit (.bool false)], args := [d1, d2] }
  | _ => none }
def RepairReportWrongFalsely : Prop := repairReportRow.holds Tryz.pinned (OpenSpec.ofChange repairReportWrong)

/-- 'swarflaw23.RepairTwice': WHATEVER THE INPUT: true; the input reads as it did. -/
def repairTwiceSpec : ChangeSpec := { name := "repairTwice", fn := fun _ => fun
  | [d1, d2] => { results := [.lit (.bool true)], args := [d1, d2] }
  | _ => none }
def repairTwiceRow : OpenClaim := { program := "ytmniihkenijjpaagreatdoor", sum := "93df7be9c0bcf102d562418321160f6db7edde74beb3a395a3dba9f50539d759", func := "swarf/swarflaw23.RepairTwice", spec := "repairTwice", inPlace := ["internal/abi.NoEscape", "internal/bytealg.MakeNoZero"], unfollowed := true, recurses := true, named := ["swarf/drawing.shapes", "internal/strconv.uint64pow10", "math/bits.deBruijn32tab", "math/bits.deBruijn64tab"], apart := false, laid := [("math/bits.deBruijn32tab", laid_math_bits_deBruijn32tab), ("math/bits.deBruijn64tab", laid_math_bits_deBruijn64tab), ("internal/strconv.uint64pow10", laid_internal_strconv_uint64pow10), ("swarf/drawing.shapes", laid_swarf_drawing_shapes)] }
def RepairTwiceSaid : Prop := repairTwiceRow.holds Tryz.pinned (OpenSpec.ofChange repairTwiceSpec)

/-- ITS FALSE NEIGHBOUR: 'it returns false'. Refute it at one input. -/
def repairTwiceWrong : ChangeSpec := { name := "repairTwice", fn := fun _ => fun
  | [d1, d2] => { results := [.lit (.bool false)], args := [d1, d2] }
  | _ => none }
def RepairTwiceWrongFalsely : Prop := repairTwiceRow.holds Tryz.pinned (OpenSpec.ofChange repairTwiceWrong)

/-- 'swarflaw23.RepairDistances': WHATEVER THE INPUT: true; the input reads as it did. -/
def repairDistancesSpec : ChangeSpec := { name := "repairDistances", fn := fun _ => fun
  | [d1, d2] => { results := [.lit (.bool true)], args := [d1, d2] }
  | _ => none }
def repairDistancesRow : OpenClaim := { program := "ytmniihkenijjpaagreatdoor", sum := "93df7be9c0bcf102d562418321160f6db7edde74beb3a395a3dba9f50539d759", func := "swarf/swarflaw23.RepairDistances", spec := "repairDistances", inPlace := ["internal/abi.NoEscape", "internal/bytealg.MakeNoZero"], unfollowed := true, recurses := true, named := ["swarf/drawing.shapes", "internal/strconv.uint64pow10", "math/bits.deBruijn32tab", "math/bits.deBruijn64tab"], apart := false, laid := [("math/bits.deBruijn32tab", laid_math_bits_deBruijn32tab), ("math/bits.deBruijn64tab", laid_math_bits_deBruijn64tab), ("internal/strconv.uint64pow10", laid_internal_strconv_uint64pow10), ("swarf/drawing.shapes", laid_swarf_drawing_shapes)] }
def RepairDistancesSaid : Prop := repairDistancesRow.holds Tryz.pinned (OpenSpec.ofChange repairDistancesSpec)

/-- ITS FALSE NEIGHBOUR: 'it returns false'. Refute it at one input. -/
def repairDistancesWrong : ChangeSpec := { name := "repairDistances", fn := fun _ => fun
  | [d1, d2] => { results := [.lit (.bool false)], args := [d1, d2] }
  | _ => none }
def RepairDistancesWrongFalsely : Prop := repairDistancesRow.holds Tryz.pinned (OpenSpec.ofChange repairDistancesWrong)

/-- 'swarflaw23.RepairClean': WHATEVER THE INPUT: true; the input reads as it did. -/
def repairCleanSpec : ChangeSpec := { name := "repairClean", fn := fun _ => fun
  | [d1, d2] => { results := [.lit (.bool true)], args := [d1, d2] }
  | _ => none }
def repairCleanRow : OpenClaim := { program := "ytmniihkenijjpaagreatdoor", sum := "93df7be9c0bcf102d562418321160f6db7edde74beb3a395a3dba9f50539d759", func := "swarf/swarflaw23.RepairClean", spec := "repairClean", inPlace := ["internal/abi.NoEscape", "internal/bytealg.MakeNoZero"], unfollowed := true, recurses := true, named := ["swarf/drawing.shapes", "internal/strconv.uint64pow10", "math/bits.deBruijn32tab", "math/bits.deBruijn64tab"], apart := false, laid := [("math/bits.deBruijn32tab", laid_math_bits_deBruijn32tab), ("math/bits.deBruijn64tab", laid_math_bits_deBruijn64tab), ("internal/strconv.uint64pow10", laid_internal_strconv_uint64pow10), ("swarf/drawing.shapes", laid_swarf_drawing_shapes)] }
def RepairCleanSaid : Prop := repairCleanRow.holds Tryz.pinned (OpenSpec.ofChange repairCleanSpec)

/-- ITS FALSE NEIGHBOUR: 'it returns false'. Refute it at one input. -/
def repairCleanWrong : ChangeSpec := { name := "repairClean", fn := fun _ => fun
  | [d1, d2] => { results := [.lit (.bool false)], args := [d1, d2] }
  | _ => none }
def RepairCleanWrongFalsely : Prop := repairCleanRow.holds Tryz.pinned (OpenSpec.ofChange repairCleanWrong)

/-- 'swarflaw23.RepairJoins': WHATEVER THE INPUT: true; the input reads as it did. -/
def repairJoinsSpec : ChangeSpec := { name := "repairJoins", fn := fun _ => fun
  | [d1, d2] => { results := [.lit (.bool true)], args := [d1, d2] }
  | _ => none }
def repairJoinsRow : OpenClaim := { program := "ytmniihkenijjpaagreatdoor", sum := "93df7be9c0bcf102d562418321160f6db7edde74beb3a395a3dba9f50539d759", func := "swarf/swarflaw23.RepairJoins", spec := "repairJoins", inPlace := ["internal/abi.NoEscape", "internal/bytealg.MakeNoZero"], unfollowed := true, recurses := true, named := ["swarf/drawing.shapes", "internal/strconv.uint64pow10", "math/bits.deBruijn32tab", "math/bits.deBruijn64tab"], apart := false, laid := [("math/bits.deBruijn32tab", laid_math_bits_deBruijn32tab), ("math/bits.deBruijn64tab", laid_math_bits_deBruijn64tab), ("internal/strconv.uint64pow10", laid_internal_strconv_uint64pow10), ("swarf/drawing.shapes", laid_swarf_drawing_shapes)] }
def RepairJoinsSaid : Prop := repairJoinsRow.holds Tryz.pinned (OpenSpec.ofChange repairJoinsSpec)

/-- ITS FALSE NEIGHBOUR: 'it returns false'. Refute it at one input. -/
def repairJoinsWrong : ChangeSpec := { name := "repairJoins", fn := fun _ => fun
  | [d1, d2] => { results := [.lit (.bool false)], args := [d1, d2] }
  | _ => none }
def RepairJoinsWrongFalsely : Prop := repairJoinsRow.holds Tryz.pinned (OpenSpec.ofChange repairJoinsWrong)

/-- 'swarflaw23.RepairEnds': WHATEVER THE INPUT: true; the input reads as it did. -/
def repairEndsSpec : ChangeSpec := { name := "repairEnds", fn := fun _ => fun
  | [d] => { results := [.lit (.bool true)], args := [d] }
  | _ => none }
def repairEndsRow : OpenClaim := { program := "ytmniihkenijjpaagreatdoor", sum := "93df7be9c0bcf102d562418321160f6db7edde74beb3a395a3dba9f50539d759", func := "swarf/swarflaw23.RepairEnds", spec := "repairEnds", inPlace := ["internal/abi.NoEscape", "internal/bytealg.MakeNoZero"], unfollowed := true, recurses := true, named := ["swarf/drawing.shapes", "internal/strconv.uint64pow10", "math/bits.deBruijn32tab", "math/bits.deBruijn64tab"], apart := false, laid := [("math/bits.deBruijn32tab", laid_math_bits_deBruijn32tab), ("math/bits.deBruijn64tab", laid_math_bits_deBruijn64tab), ("internal/strconv.uint64pow10", laid_internal_strconv_uint64pow10), ("swarf/drawing.shapes", laid_swarf_drawing_shapes)] }
def RepairEndsSaid : Prop := repairEndsRow.holds Tryz.pinned (OpenSpec.ofChange repairEndsSpec)

/-- ITS FALSE NEIGHBOUR: 'it returns false'. Refute it at one input. -/
def repairEndsWrong : ChangeSpec := { name := "repairEnds", fn := fun _ => fun
  | [d] => { results := [.lit (.bool false)], args := [d] }
  | _ => none }
def RepairEndsWrongFalsely : Prop := repairEndsRow.holds Tryz.pinned (OpenSpec.ofChange repairEndsWrong)

/-- 'swarflaw23.RepairOpen': WHATEVER THE INPUT: true; the input reads as it did. -/
def repairOpenSpec : ChangeSpec := { name := "repairOpen", fn := fun _ => fun
  | [d] => { results := [.lit (.bool true)], args := [d] }
  | _ => none }
def repairOpenRow : OpenClaim := { program := "ytmniihkenijjpaagreatdoor", sum := "93df7be9c0bcf102d562418321160f6db7edde74beb3a395a3dba9f50539d759", func := "swarf/swarflaw23.RepairOpen", spec := "repairOpen", inPlace := ["internal/abi.NoEscape", "internal/bytealg.MakeNoZero"], unfollowed := true, recurses := true, named := ["swarf/drawing.shapes", "internal/strconv.uint64pow10", "math/bits.deBruijn32tab", "math/bits.deBruijn64tab"], apart := false, laid := [("math/bits.deBruijn32tab", laid_math_bits_deBruijn32tab), ("math/bits.deBruijn64tab", laid_math_bits_deBruijn64tab), ("internal/strconv.uint64pow10", laid_internal_strconv_uint64pow10), ("swarf/drawing.shapes", laid_swarf_drawing_shapes)] }
def RepairOpenSaid : Prop := repairOpenRow.holds Tryz.pinned (OpenSpec.ofChange repairOpenSpec)

/-- ITS FALSE NEIGHBOUR: 'it returns false'. Refute it at one input. -/
def repairOpenWrong : ChangeSpec := { name := "repairOpen", fn := fun _ => fun
  | [d] => { results := [.lit (.bool false)], args := [d] }
  | _ => none }
def RepairOpenWrongFalsely : Prop := repairOpenRow.holds Tryz.pinned (OpenSpec.ofChange repairOpenWrong)

/-- 'swarftop.TopRepaired': WHATEVER THE INPUT: true; the input reads as it did. -/
def topRepairedSpec : ChangeSpec := { name := "topRepaired", fn := fun _ => fun
  | [d1, d2] => { results := [.lit (.bool true)], args := [d1, d2] }
  | _ => none }
def topRepairedRow : OpenClaim := { program := "ytmniihkenijjpaagreatdoor", sum := "93df7be9c0bcf102d562418321160f6db7edde74beb3a395a3dba9f50539d759", func := "swarf/swarftop.TopRepaired", spec := "topRepaired", inPlace := ["internal/abi.NoEscape", "internal/bytealg.MakeNoZero"], unfollowed := true, recurses := true, named := ["swarf/drawing.shapes", "internal/strconv.uint64pow10", "math/bits.deBruijn32tab", "math/bits.deBruijn64tab"], apart := false, laid := [("math/bits.deBruijn32tab", laid_math_bits_deBruijn32tab), ("math/bits.deBruijn64tab", laid_math_bits_deBruijn64tab), ("internal/strconv.uint64pow10", laid_internal_strconv_uint64pow10), ("swarf/drawing.shapes", laid_swarf_drawing_shapes)] }
def TopRepairedSaid : Prop := topRepairedRow.holds Tryz.pinned (OpenSpec.ofChange topRepairedSpec)

/-- ITS FALSE NEIGHBOUR: 'it returns false'. Refute it at one input. -/
def topRepairedWrong : ChangeSpec := { name := "topRepaired", fn := fun _ => fun
  | [d1, d2] => { results := [.lit (.bool false)], args := [d1, d2] }
  | _ => none }
def TopRepairedWrongFalsely : Prop := topRepairedRow.holds Tryz.pinned (OpenSpec.ofChange topRepairedWrong)

/- THE SECOND FORM. 'bulk': how many values and letters a reading holds, each counted each time it is reached (what is shared counts as often as it is met; a slice's spare places count too). A statement '..UptoSaid' is the law's where the arguments, and the package variables that the reading takes, are together of bulk at most 1048576: NARROWER than '..Said'. Prove '..Said' where nothing that the law and all that it calls make is longer than what came in: it says more and counts as full. Else prove '..UptoSaid'. A law counts once. -/
mutual
def uptoBulk {H : Type} : DataW H → Nat
  | .lit (.string bytes) => bytes.length + 1
  | .lit _ => 1
  | .nil => 1
  | .ptr d => uptoBulk d + 1
  | .slice elems spare => uptoBulkAll elems + uptoBulkAll spare + 1
  | .agg parts => uptoBulkAll parts + 1
  | .iface _ d => uptoBulk d + 1
  | .map entries => uptoBulkEntries entries + 1
  | .held _ => 1
def uptoBulkAll {H : Type} : List (DataW H) → Nat
  | [] => 0
  | d :: r => uptoBulk d + uptoBulkAll r
def uptoBulkEntries {H : Type} : List (Lit × DataW H) → Nat
  | [] => 0
  | x :: r => uptoBulkEntry x + uptoBulkEntries r
def uptoBulkEntry {H : Type} : Lit × DataW H → Nat
  | (.string bytes, d) => bytes.length + uptoBulk d + 1
  | (_, d) => uptoBulk d + 1
 end
def uptoSmall : (H : Type) → List (DataW H) → Bool := fun _ ds => decide (uptoBulkAll ds ≤ 1048576)
def OpenSpec.upto (s : _root_.Go.ChangeSpec) : _root_.Go.OpenSpec := { _root_.Go.OpenSpec.ofChange s with cond := some uptoSmall }

/-- 'swarflaw23.RepairReport', WHERE WHAT IT READS IS OF BULK AT MOST 1048576: true; the input reads as it did. -/
def repairReportUptoRow : OpenClaim := { program := "ytmniihkenijjpaagreatdoor", sum := "93df7be9c0bcf102d562418321160f6db7edde74beb3a395a3dba9f50539d759", func := "swarf/swarflaw23.RepairReport", spec := "repairReport", inPlace := ["internal/abi.NoEscape", "internal/bytealg.MakeNoZero"], unfollowed := true, recurses := true, named := ["swarf/drawing.shapes", "internal/strconv.uint64pow10", "math/bits.deBruijn32tab", "math/bits.deBruijn64tab"], apart := false, laid := [("math/bits.deBruijn32tab", laid_math_bits_deBruijn32tab), ("math/bits.deBruijn64tab", laid_math_bits_deBruijn64tab), ("internal/strconv.uint64pow10", laid_internal_strconv_uint64pow10), ("swarf/drawing.shapes", laid_swarf_drawing_shapes)], narrowed := true }
def RepairReportUptoSaid : Prop := repairReportUptoRow.holds Tryz.pinned (OpenSpec.upto repairReportSpec)

/-- 'swarflaw23.RepairTwice', WHERE WHAT IT READS IS OF BULK AT MOST 1048576: true; the input reads as it did. -/
def repairTwiceUptoRow : OpenClaim := { program := "ytmniihkenijjpaagreatdoor", sum := "93df7be9c0bcf102d562418321160f6db7edde74beb3a395a3dba9f50539d759", func := "swarf/swarflaw23.RepairTwice", spec := "repairTwice", inPlace := ["internal/abi.NoEscape", "internal/bytealg.MakeNoZero"], unfollowed := true, recurses := true, named := ["swarf/drawing.shapes", "internal/strconv.uint64pow10", "math/bits.deBruijn32tab", "math/bits.deBruijn64tab"], apart := false, laid := [("math/bits.deBruijn32tab", laid_math_bits_deBruijn32tab), ("math/bits.deBruijn64tab", laid_math_bits_deBruijn64tab), ("internal/strconv.uint64pow10", laid_internal_strconv_uint64pow10), ("swarf/drawing.shapes", laid_swarf_drawing_shapes)], narrowed := true }
def RepairTwiceUptoSaid : Prop := repairTwiceUptoRow.holds Tryz.pinned (OpenSpec.upto repairTwiceSpec)

/-- 'swarflaw23.RepairDistances', WHERE WHAT IT READS IS OF BULK AT MOST 1048576: true; the input reads as it did. -/
def repairDistancesUptoRow : OpenClaim := { program := "ytmniihkenijjpaagreatdoor", sum := "93df7be9c0bcf102d562418321160f6db7edde74beb3a395a3dba9f50539d759", func := "swarf/swarflaw23.RepairDistances", spec := "repairDistances", inPlace := ["internal/abi.NoEscape", "internal/bytealg.MakeNoZero"], unfollowed := true, recurses := true, named := ["swarf/drawing.shapes", "internal/strconv.uint64pow10", "math/bits.deBruijn32tab", "math/bits.deBruijn64tab"], apart := false, laid := [("math/bits.deBruijn32tab", laid_math_bits_deBruijn32tab), ("math/bits.deBruijn64tab", laid_math_bits_deBruijn64tab), ("internal/strconv.uint64pow10", laid_internal_strconv_uint64pow10), ("swarf/drawing.shapes", laid_swarf_drawing_shapes)], narrowed := true }
def RepairDistancesUptoSaid : Prop := repairDistancesUptoRow.holds Tryz.pinned (OpenSpec.upto repairDistancesSpec)

/-- 'swarflaw23.RepairClean', WHERE WHAT IT READS IS OF BULK AT MOST 1048576: true; the input reads as it did. -/
def repairCleanUptoRow : OpenClaim := { program := "ytmniihkenijjpaagreatdoor", sum := "93df7be9c0bcf102d562418321160f6db7edde74beb3a395a3dba9f50539d759", func := "swarf/swarflaw23.RepairClean", spec := "repairClean", inPlace := ["internal/abi.NoEscape", "internal/bytealg.MakeNoZero"], unfollowed := true, recurses := true, named := ["swarf/drawing.shapes", "internal/strconv.uint64pow10", "math/bits.deBruijn32tab", "math/bits.deBruijn64tab"], apart := false, laid := [("math/bits.deBruijn32tab", laid_math_bits_deBruijn32tab), ("math/bits.deBruijn64tab", laid_math_bits_deBruijn64tab), ("internal/strconv.uint64pow10", laid_internal_strconv_uint64pow10), ("swarf/drawing.shapes", laid_swarf_drawing_shapes)], narrowed := true }
def RepairCleanUptoSaid : Prop := repairCleanUptoRow.holds Tryz.pinned (OpenSpec.upto repairCleanSpec)

/-- 'swarflaw23.RepairJoins', WHERE WHAT IT READS IS OF BULK AT MOST 1048576: true; the input reads as it did. -/
def repairJoinsUptoRow : OpenClaim := { program := "ytmniihkenijjpaagreatdoor", sum := "93df7be9c0bcf102d562418321160f6db7edde74beb3a395a3dba9f50539d759", func := "swarf/swarflaw23.RepairJoins", spec := "repairJoins", inPlace := ["internal/abi.NoEscape", "internal/bytealg.MakeNoZero"], unfollowed := true, recurses := true, named := ["swarf/drawing.shapes", "internal/strconv.uint64pow10", "math/bits.deBruijn32tab", "math/bits.deBruijn64tab"], apart := false, laid := [("math/bits.deBruijn32tab", laid_math_bits_deBruijn32tab), ("math/bits.deBruijn64tab", laid_math_bits_deBruijn64tab), ("internal/strconv.uint64pow10", laid_internal_strconv_uint64pow10), ("swarf/drawing.shapes", laid_swarf_drawing_shapes)], narrowed := true }
def RepairJoinsUptoSaid : Prop := repairJoinsUptoRow.holds Tryz.pinned (OpenSpec.upto repairJoinsSpec)

/-- 'swarflaw23.RepairEnds', WHERE WHAT IT READS IS OF BULK AT MOST 1048576: true; the input reads as it did. -/
def repairEndsUptoRow : OpenClaim := { program := "ytmniihkenijjpaagreatdoor", sum := "93df7be9c0bcf102d562418321160f6db7edde74beb3a395a3dba9f50539d759", func := "swarf/swarflaw23.RepairEnds", spec := "repairEnds", inPlace := ["internal/abi.NoEscape", "internal/bytealg.MakeNoZero"], unfollowed := true, recurses := true, named := ["swarf/drawing.shapes", "internal/strconv.uint64pow10", "math/bits.deBruijn32tab", "math/bits.deBruijn64tab"], apart := false, laid := [("math/bits.deBruijn32tab", laid_math_bits_deBruijn32tab), ("math/bits.deBruijn64tab", laid_math_bits_deBruijn64tab), ("internal/strconv.uint64pow10", laid_internal_strconv_uint64pow10), ("swarf/drawing.shapes", laid_swarf_drawing_shapes)], narrowed := true }
def RepairEndsUptoSaid : Prop := repairEndsUptoRow.holds Tryz.pinned (OpenSpec.upto repairEndsSpec)

/-- 'swarflaw23.RepairOpen', WHERE WHAT IT READS IS OF BULK AT MOST 1048576: true; the input reads as it did. -/
def repairOpenUptoRow : OpenClaim := { program := "ytmniihkenijjpaagreatdoor", sum := "93df7be9c0bcf102d562418321160f6db7edde74beb3a395a3dba9f50539d759", func := "swarf/swarflaw23.RepairOpen", spec := "repairOpen", inPlace := ["internal/abi.NoEscape", "internal/bytealg.MakeNoZero"], unfollowed := true, recurses := true, named := ["swarf/drawing.shapes", "internal/strconv.uint64pow10", "math/bits.deBruijn32tab", "math/bits.deBruijn64tab"], apart := false, laid := [("math/bits.deBruijn32tab", laid_math_bits_deBruijn32tab), ("math/bits.deBruijn64tab", laid_math_bits_deBruijn64tab), ("internal/strconv.uint64pow10", laid_internal_strconv_uint64pow10), ("swarf/drawing.shapes", laid_swarf_drawing_shapes)], narrowed := true }
def RepairOpenUptoSaid : Prop := repairOpenUptoRow.holds Tryz.pinned (OpenSpec.upto repairOpenSpec)

/-- 'swarftop.TopRepaired', WHERE WHAT IT READS IS OF BULK AT MOST 1048576: true; the input reads as it did. -/
def topRepairedUptoRow : OpenClaim := { program := "ytmniihkenijjpaagreatdoor", sum := "93df7be9c0bcf102d562418321160f6db7edde74beb3a395a3dba9f50539d759", func := "swarf/swarftop.TopRepaired", spec := "topRepaired", inPlace := ["internal/abi.NoEscape", "internal/bytealg.MakeNoZero"], unfollowed := true, recurses := true, named := ["swarf/drawing.shapes", "internal/strconv.uint64pow10", "math/bits.deBruijn32tab", "math/bits.deBruijn64tab"], apart := false, laid := [("math/bits.deBruijn32tab", laid_math_bits_deBruijn32tab), ("math/bits.deBruijn64tab", laid_math_bits_deBruijn64tab), ("internal/strconv.uint64pow10", laid_internal_strconv_uint64pow10), ("swarf/drawing.shapes", laid_swarf_drawing_shapes)], narrowed := true }
def TopRepairedUptoSaid : Prop := topRepairedUptoRow.holds Tryz.pinned (OpenSpec.upto topRepairedSpec)

end Rows
end Go.Proofs.YtmniihkenijjpaaGreatDoor
