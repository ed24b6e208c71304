/-
  No cell of these rows narrows 'for every input' (looked for: loops, veiled, ifaces, maps, wideKeys, modest, calm, conditions, laid).
  DERIVED. THE GIVEN ROWS OF THIS SEAT. 8 by the template 'for every input the law returns true; each argument reads behind the call as it read before'; 0 by the template 'total and deterministic' (their statements: YtjhekoechimbnaaTotals.lean).
  GIVEN WITH THE SEED: the statements are not yours to turn. If you find one false, say at which input.
  Laid BY PROGRAM, IN A SANDBOX (cutbox-rows.mjs): the forced cells as the released guide's own fill.sh prints them over the translation a49a477d57e17193… (all of the seat's roots in one cut). By AI agents, Wed Nov 11 2026. No macro, syntax, notation, axiom, sorry.
-/
import Derived.Test.YtjhekoechimbnaaChecked
import GoSem.Claim
import GoSem.ClaimJoined
import GoSem.ClaimMapViews
import Derived.JoinedTies
import Derived.KernelRfl
namespace Go.Proofs.Ytjhekoechimbnaa
/- THE CELL 'sum', in the pinned program and in every row, IS THE sha256 OF THE DUMP (.gsa) THAT YtjhekoechimbnaaProg.lean LOADS. Nothing in Lean hashes anything: it is a label: what it is worth is what the hold of that sum in a sandbox is worth. -/
noncomputable def Try.pinned : Pinned := { name := "ytjhekoechimbnaa", sum := "a49a477d57e171933ffaaad922f60723ec6d6415c5c7c26571db669fdab9c62e", checked := Try.checked }
namespace Rows
def none {H : Type} : Left H := { results := [], args := [] }

/-- 'swarflaw04.FilterFromRat': WHATEVER THE INPUT: true; the input reads as it did. -/
def filterFromRatSpec : ChangeSpec := { name := "filterFromRat", fn := fun _ => fun
  | [d] => { results := [.lit (.bool true)], args := [d] }
  | _ => none }
def filterFromRatRow : OpenClaim := { program := "ytjhekoechimbnaa", sum := "a49a477d57e171933ffaaad922f60723ec6d6415c5c7c26571db669fdab9c62e", func := "swarf/swarflaw04.FilterFromRat", spec := "filterFromRat", apart := false }
def FilterFromRatSaid : Prop := filterFromRatRow.holds Try.pinned (OpenSpec.ofChange filterFromRatSpec)

/-- ITS FALSE NEIGHBOUR: 'it returns false'. Refute it at one input. -/
def filterFromRatWrong : ChangeSpec := { name := "filterFromRat", fn := fun _ => fun
  | [d] => { results := [.lit (.bool false)], args := [d] }
  | _ => none }
def FilterFromRatWrongFalsely : Prop := filterFromRatRow.holds Try.pinned (OpenSpec.ofChange filterFromRatWrong)

/-- 'swarflaw04.FilterSums': WHATEVER THE INPUT: true; the input reads as it did. -/
def filterSumsSpec : ChangeSpec := { name := "filterSums", fn := fun _ => fun
  | [d1, d2] => { results := [.lit (.bool true)], args := [d1, d2] }
  | _ => none }
def filterSumsRow : OpenClaim := { program := "ytjhekoechimbnaa", sum := "a49a477d57e171933ffaaad922f60723ec6d6415c5c7c26571db669fdab9c62e", func := "swarf/swarflaw04.FilterSums", spec := "filterSums", apart := false }
def FilterSumsSaid : Prop := filterSumsRow.holds Try.pinned (OpenSpec.ofChange filterSumsSpec)

/-- ITS FALSE NEIGHBOUR: 'it returns false'. Refute it at one input. -/
def filterSumsWrong : ChangeSpec := { name := "filterSums", fn := fun _ => fun
  | [d1, d2] => { results := [.lit (.bool false)], args := [d1, d2] }
  | _ => none }
def FilterSumsWrongFalsely : Prop := filterSumsRow.holds Try.pinned (OpenSpec.ofChange filterSumsWrong)

/-- 'swarflaw04.FilterMul': WHATEVER THE INPUT: true; the input reads as it did. -/
def filterMulSpec : ChangeSpec := { name := "filterMul", fn := fun _ => fun
  | [d1, d2, d3] => { results := [.lit (.bool true)], args := [d1, d2, d3] }
  | _ => none }
def filterMulRow : OpenClaim := { program := "ytjhekoechimbnaa", sum := "a49a477d57e171933ffaaad922f60723ec6d6415c5c7c26571db669fdab9c62e", func := "swarf/swarflaw04.FilterMul", spec := "filterMul", apart := false }
def FilterMulSaid : Prop := filterMulRow.holds Try.pinned (OpenSpec.ofChange filterMulSpec)

/-- ITS FALSE NEIGHBOUR: 'it returns false'. Refute it at one input. -/
def filterMulWrong : ChangeSpec := { name := "filterMul", fn := fun _ => fun
  | [d1, d2, d3] => { results := [.lit (.bool false)], args := [d1, d2, d3] }
  | _ => none }
def FilterMulWrongFalsely : Prop := filterMulRow.holds Try.pinned (OpenSpec.ofChange filterMulWrong)

/-- 'swarflaw04.FilterSqrt': WHATEVER THE INPUT: true; the input reads as it did. -/
def filterSqrtSpec : ChangeSpec := { name := "filterSqrt", fn := fun _ => fun
  | [d1, d2] => { results := [.lit (.bool true)], args := [d1, d2] }
  | _ => none }
def filterSqrtRow : OpenClaim := { program := "ytjhekoechimbnaa", sum := "a49a477d57e171933ffaaad922f60723ec6d6415c5c7c26571db669fdab9c62e", func := "swarf/swarflaw04.FilterSqrt", spec := "filterSqrt", apart := false }
def FilterSqrtSaid : Prop := filterSqrtRow.holds Try.pinned (OpenSpec.ofChange filterSqrtSpec)

/-- ITS FALSE NEIGHBOUR: 'it returns false'. Refute it at one input. -/
def filterSqrtWrong : ChangeSpec := { name := "filterSqrt", fn := fun _ => fun
  | [d1, d2] => { results := [.lit (.bool false)], args := [d1, d2] }
  | _ => none }
def FilterSqrtWrongFalsely : Prop := filterSqrtRow.holds Try.pinned (OpenSpec.ofChange filterSqrtWrong)

/-- 'swarflaw04.FilterRoot': WHATEVER THE INPUT: true; the input reads as it did. -/
def filterRootSpec : ChangeSpec := { name := "filterRoot", fn := fun _ => fun
  | [d] => { results := [.lit (.bool true)], args := [d] }
  | _ => none }
def filterRootRow : OpenClaim := { program := "ytjhekoechimbnaa", sum := "a49a477d57e171933ffaaad922f60723ec6d6415c5c7c26571db669fdab9c62e", func := "swarf/swarflaw04.FilterRoot", spec := "filterRoot", apart := false }
def FilterRootSaid : Prop := filterRootRow.holds Try.pinned (OpenSpec.ofChange filterRootSpec)

/-- ITS FALSE NEIGHBOUR: 'it returns false'. Refute it at one input. -/
def filterRootWrong : ChangeSpec := { name := "filterRoot", fn := fun _ => fun
  | [d] => { results := [.lit (.bool false)], args := [d] }
  | _ => none }
def FilterRootWrongFalsely : Prop := filterRootRow.holds Try.pinned (OpenSpec.ofChange filterRootWrong)

/-- 'swarflaw04.FilterSign': WHATEVER THE INPUT: true; the input reads as it did. -/
def filterSignSpec : ChangeSpec := { name := "filterSign", fn := fun _ => fun
  | [d] => { results := [.lit (.bool true)], args := [d] }
  | _ => none }
def filterSignRow : OpenClaim := { program := "ytjhekoechimbnaa", sum := "a49a477d57e171933ffaaad922f60723ec6d6415c5c7c26571db669fdab9c62e", func := "swarf/swarflaw04.FilterSign", spec := "filterSign", apart := false }
def FilterSignSaid : Prop := filterSignRow.holds Try.pinned (OpenSpec.ofChange filterSignSpec)

/-- ITS FALSE NEIGHBOUR: 'it returns false'. Refute it at one input. -/
def filterSignWrong : ChangeSpec := { name := "filterSign", fn := fun _ => fun
  | [d] => { results := [.lit (.bool false)], args := [d] }
  | _ => none }
def FilterSignWrongFalsely : Prop := filterSignRow.holds Try.pinned (OpenSpec.ofChange filterSignWrong)

/-- 'swarflaw04.FilterSide': WHATEVER THE INPUT: true; the input reads as it did. -/
def filterSideSpec : ChangeSpec := { name := "filterSide", fn := fun _ => fun
  | [d1, d2] => { results := [.lit (.bool true)], args := [d1, d2] }
  | _ => none }
def filterSideRow : OpenClaim := { program := "ytjhekoechimbnaa", sum := "a49a477d57e171933ffaaad922f60723ec6d6415c5c7c26571db669fdab9c62e", func := "swarf/swarflaw04.FilterSide", spec := "filterSide", apart := false }
def FilterSideSaid : Prop := filterSideRow.holds Try.pinned (OpenSpec.ofChange filterSideSpec)

/-- ITS FALSE NEIGHBOUR: 'it returns false'. Refute it at one input. -/
def filterSideWrong : ChangeSpec := { name := "filterSide", fn := fun _ => fun
  | [d1, d2] => { results := [.lit (.bool false)], args := [d1, d2] }
  | _ => none }
def FilterSideWrongFalsely : Prop := filterSideRow.holds Try.pinned (OpenSpec.ofChange filterSideWrong)

/-- 'swarflaw04.FilterParts': WHATEVER THE INPUT: true; the input reads as it did. -/
def filterPartsSpec : ChangeSpec := { name := "filterParts", fn := fun _ => fun
  | [d1, d2, d3] => { results := [.lit (.bool true)], args := [d1, d2, d3] }
  | _ => none }
def filterPartsRow : OpenClaim := { program := "ytjhekoechimbnaa", sum := "a49a477d57e171933ffaaad922f60723ec6d6415c5c7c26571db669fdab9c62e", func := "swarf/swarflaw04.FilterParts", spec := "filterParts", apart := false }
def FilterPartsSaid : Prop := filterPartsRow.holds Try.pinned (OpenSpec.ofChange filterPartsSpec)

/-- ITS FALSE NEIGHBOUR: 'it returns false'. Refute it at one input. -/
def filterPartsWrong : ChangeSpec := { name := "filterParts", fn := fun _ => fun
  | [d1, d2, d3] => { results := [.lit (.bool false)], args := [d1, d2, d3] }
  | _ => none }
def FilterPartsWrongFalsely : Prop := filterPartsRow.holds Try.pinned (OpenSpec.ofChange filterPartsWrong)

/- THE SECOND FORM. 'bulk': how many values and letters a reading holds, each counted each time it is reached (what is shared counts as often as it is met; a slice's spare places count too). A statement '..UptoSaid' is the law's where the arguments, and the package variables that the reading takes, are together of bulk at most 1048576: NARROWER than '..Said'. Prove '..Said' where nothing that the law and all that it calls make is longer than what came in: it says more and counts as full. Else prove '..UptoSaid'. A law counts once. -/
mutual
def uptoBulk {H : Type} : DataW H → Nat
  | .lit (.string bytes) => bytes.length + 1
  | .lit _ => 1
  | .nil => 1
  | .ptr d => uptoBulk d + 1
  | .slice elems spare => uptoBulkAll elems + uptoBulkAll spare + 1
  | .agg parts => uptoBulkAll parts + 1
  | .iface _ d => uptoBulk d + 1
  | .map entries => uptoBulkEntries entries + 1
  | .held _ => 1
def uptoBulkAll {H : Type} : List (DataW H) → Nat
  | [] => 0
  | d :: r => uptoBulk d + uptoBulkAll r
def uptoBulkEntries {H : Type} : List (Lit × DataW H) → Nat
  | [] => 0
  | x :: r => uptoBulkEntry x + uptoBulkEntries r
def uptoBulkEntry {H : Type} : Lit × DataW H → Nat
  | (.string bytes, d) => bytes.length + uptoBulk d + 1
  | (_, d) => uptoBulk d + 1
 end
def uptoSmall : (H : Type) → List (DataW H) → Bool := fun _ ds => decide (uptoBulkAll ds ≤ 1048576)
def OpenSpec.upto (s : _root_.Go.ChangeSpec) : _root_.Go.OpenSpec := { _root_.Go.OpenSpec.ofChange s with cond := some uptoSmall }

/-- 'swarflaw04.FilterFromRat', WHERE WHAT IT READS IS OF BULK AT MOST 1048576: true; the input reads as it did. -/
def filterFromRatUptoRow : OpenClaim := { program := "ytjhekoechimbnaa", sum := "a49a477d57e171933ffaaad922f60723ec6d6415c5c7c26571db669fdab9c62e", func := "swarf/swarflaw04.FilterFromRat", spec := "filterFromRat", apart := false, narrowed := true }
def FilterFromRatUptoSaid : Prop := filterFromRatUptoRow.holds Try.pinned (OpenSpec.upto filterFromRatSpec)

/-- 'swarflaw04.FilterSums', WHERE WHAT IT READS IS OF BULK AT MOST 1048576: true; the input reads as it did. -/
def filterSumsUptoRow : OpenClaim := { program := "ytjhekoechimbnaa", sum := "a49a477d57e171933ffaaad922f60723ec6d6415c5c7c26571db669fdab9c62e", func := "swarf/swarflaw04.FilterSums", spec := "filterSums", apart := false, narrowed := true }
def FilterSumsUptoSaid : Prop := filterSumsUptoRow.holds Try.pinned (OpenSpec.upto filterSumsSpec)

/-- 'swarflaw04.FilterMul', WHERE WHAT IT READS IS OF BULK AT MOST 1048576: true; the input reads as it did. -/
def filterMulUptoRow : OpenClaim := { program := "ytjhekoechimbnaa", sum := "a49a477d57e171933ffaaad922f60723ec6d6415c5c7c26571db669fdab9c62e", func := "swarf/swarflaw04.FilterMul", spec := "filterMul", apart := false, narrowed := true }
def FilterMulUptoSaid : Prop := filterMulUptoRow.holds Try.pinned (OpenSpec.upto filterMulSpec)

/-- 'swarflaw04.FilterSqrt', WHERE WHAT IT READS IS OF BULK AT MOST 1048576: true; the input reads as it did. -/
def filterSqrtUptoRow : OpenClaim := { program := "ytjhekoechimbnaa", sum := "a49a477d57e171933ffaaad922f60723ec6d6415c5c7c26571db669fdab9c62e", func := "swarf/swarflaw04.FilterSqrt", spec := "filterSqrt", apart := false, narrowed := true }
def FilterSqrtUptoSaid : Prop := filterSqrtUptoRow.holds Try.pinned (OpenSpec.upto filterSqrtSpec)

/-- 'swarflaw04.FilterRoot', WHERE WHAT IT READS IS OF BULK AT MOST 1048576: true; the input reads as it did. -/
def filterRootUptoRow : OpenClaim := { program := "ytjhekoechimbnaa", sum := "a49a477d57e171933ffaaad922f60723ec6d6415c5c7c26571db669fdab9c62e", func := "swarf/swarflaw04.FilterRoot", spec := "filterRoot", apart := false, narrowed := true }
def FilterRootUptoSaid : Prop := filterRootUptoRow.holds Try.pinned (OpenSpec.upto filterRootSpec)

/-- 'swarflaw04.FilterSign', WHERE WHAT IT READS IS OF BULK AT MOST 1048576: true; the input reads as it did. -/
def filterSignUptoRow : OpenClaim := { program := "ytjhekoechimbnaa", sum := "a49a477d57e171933ffaaad922f60723ec6d6415c5c7c26571db669fdab9c62e", func := "swarf/swarflaw04.FilterSign", spec := "filterSign", apart := false, narrowed := true }
def FilterSignUptoSaid : Prop := filterSignUptoRow.holds Try.pinned (OpenSpec.upto filterSignSpec)

/-- 'swarflaw04.FilterSide', WHERE WHAT IT READS IS OF BULK AT MOST 1048576: true; the input reads as it did. -/
def filterSideUptoRow : OpenClaim := { program := "ytjhekoechimbnaa", sum := "a49a477d57e171933ffaaad922f60723ec6d6415c5c7c26571db669fdab9c62e", func := "swarf/swarflaw04.FilterSide", spec := "filterSide", apart := false, narrowed := true }
def FilterSideUptoSaid : Prop := filterSideUptoRow.holds Try.pinned (OpenSpec.upto filterSideSpec)

/-- 'swarflaw04.FilterParts', WHERE WHAT IT READS IS OF BULK AT MOST 1048576: true; the input reads as it did. -/
def filterPartsUptoRow : OpenClaim := { program := "ytjhekoechimbnaa", sum := "a49a477d57e171933ffaaad922f60723ec6d6415c5c7c26571db669fdab9c62e", func := "swarf/swarflaw04.FilterParts", spec := "filterParts", apart := false, narrowed := true }
def FilterPartsUptoSaid : Prop := filterPartsUptoRow.holds Try.pinned (OpenSpec.upto filterPartsSpec)

end Rows
end Go.Proofs.Ytjhekoechimbnaa
