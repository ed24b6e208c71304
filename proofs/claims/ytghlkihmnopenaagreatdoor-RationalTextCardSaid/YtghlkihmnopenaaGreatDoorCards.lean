/-
  DERIVED. GIVEN WITH THE SEED: THE CARDS: each row of YtghlkihmnopenaaGreatDoorRows.lean that lists a variable, with what it lists TIED to the program's text (the seventh form; the later family's looks); each row that meets fmt, with fmt's text TOLD by the authors' own Lean function (tested against real Go, not proved from fmt's source: count such statements apart). THE CARD IS WHAT COUNTS. Prove the row's statement (the work); the ties are given (YtghlkihmnopenaaGreatDoorTie.lean); close each card by the builder's one call (the guide's Derived/Test/ToyasCard.lean, 'card_holds'). Laid BY PROGRAM, IN A SANDBOX (cutbox-door.mjs). By AI agents, Wed Nov 11 2026. No macro, syntax, notation, axiom, sorry.
-/
import Derived.Test.YtghlkihmnopenaaGreatDoorRows
import GoSem.ClaimSeven
namespace Go.Proofs.YtghlkihmnopenaaGreatDoor
namespace Rows

/-- THE TIED CARD OF 'swarflaw02.RationalFloor'. -/
def rationalFloorCard : Claim7 := { stood := { row := rationalFloorRow, standIns := [], harness := (true, "b1b54a3cdfadc512e161576f3b042f79bb56210ac94dbdacb5ba0d7036b5e27c"), looks := false }, kinds := [], alts := [], laidByText := true, laidKinds := [.data, .data, .data], laidTests := true, laidLooks := .later }
def RationalFloorCardSaid : Prop := Claim7.holds Tryz.pinned (.plain (OpenSpec.ofChange rationalFloorSpec)) rationalFloorCard

/-- THE TIED CARD OF 'swarflaw02.RationalSqrt'. -/
def rationalSqrtCard : Claim7 := { stood := { row := rationalSqrtRow, standIns := [], harness := (true, "b1b54a3cdfadc512e161576f3b042f79bb56210ac94dbdacb5ba0d7036b5e27c"), looks := false }, kinds := [], alts := [], laidByText := true, laidKinds := [.data, .data, .data], laidTests := true, laidLooks := .later }
def RationalSqrtCardSaid : Prop := Claim7.holds Tryz.pinned (.plain (OpenSpec.ofChange rationalSqrtSpec)) rationalSqrtCard

/-- THE TIED CARD OF 'swarflaw02.RationalSimplest'. -/
def rationalSimplestCard : Claim7 := { stood := { row := rationalSimplestRow, standIns := [], harness := (true, "b1b54a3cdfadc512e161576f3b042f79bb56210ac94dbdacb5ba0d7036b5e27c"), looks := false }, kinds := [], alts := [], laidByText := true, laidKinds := [.data, .data, .data], laidTests := true, laidLooks := .later }
def RationalSimplestCardSaid : Prop := Claim7.holds Tryz.pinned (.plain (OpenSpec.ofChange rationalSimplestSpec)) rationalSimplestCard

/-- THE TIED CARD OF 'swarflaw02.RationalText'. -/
def rationalTextCard : Claim7 := { stood := { row := rationalTextRow, standIns := [], harness := (true, "b1b54a3cdfadc512e161576f3b042f79bb56210ac94dbdacb5ba0d7036b5e27c"), looks := false }, kinds := [], alts := [], laidByText := true, laidKinds := [.data, .data, .data], laidTests := true, laidLooks := .later }
def RationalTextCardSaid : Prop := Claim7.holds Tryz.pinned (.plain (OpenSpec.ofChange rationalTextSpec)) rationalTextCard

/-- THE TIED CARD OF 'swarflaw02.RationalOrder'. -/
def rationalOrderCard : Claim7 := { stood := { row := rationalOrderRow, standIns := [], harness := (true, "b1b54a3cdfadc512e161576f3b042f79bb56210ac94dbdacb5ba0d7036b5e27c"), looks := false }, kinds := [], alts := [], laidByText := true, laidKinds := [.data, .data, .data], laidTests := true, laidLooks := .later }
def RationalOrderCardSaid : Prop := Claim7.holds Tryz.pinned (.plain (OpenSpec.ofChange rationalOrderSpec)) rationalOrderCard

/-- THE TIED CARD OF 'swarflaw02.RationalMake'. -/
def rationalMakeCard : Claim7 := { stood := { row := rationalMakeRow, standIns := [], harness := (true, "b1b54a3cdfadc512e161576f3b042f79bb56210ac94dbdacb5ba0d7036b5e27c"), looks := false }, kinds := [], alts := [], laidByText := true, laidKinds := [.data, .data, .data], laidTests := true, laidLooks := .later }
def RationalMakeCardSaid : Prop := Claim7.holds Tryz.pinned (.plain (OpenSpec.ofChange rationalMakeSpec)) rationalMakeCard

/-- THE TIED CARD OF 'swarflaw02.RationalArithmetic'. -/
def rationalArithmeticCard : Claim7 := { stood := { row := rationalArithmeticRow, standIns := [], harness := (true, "b1b54a3cdfadc512e161576f3b042f79bb56210ac94dbdacb5ba0d7036b5e27c"), looks := false }, kinds := [], alts := [], laidByText := true, laidKinds := [.data, .data, .data], laidTests := true, laidLooks := .later }
def RationalArithmeticCardSaid : Prop := Claim7.holds Tryz.pinned (.plain (OpenSpec.ofChange rationalArithmeticSpec)) rationalArithmeticCard

/-- THE TIED CARD OF 'swarflaw02.RationalField'. -/
def rationalFieldCard : Claim7 := { stood := { row := rationalFieldRow, standIns := [], harness := (true, "b1b54a3cdfadc512e161576f3b042f79bb56210ac94dbdacb5ba0d7036b5e27c"), looks := false }, kinds := [], alts := [], laidByText := true, laidKinds := [.data, .data, .data], laidTests := true, laidLooks := .later }
def RationalFieldCardSaid : Prop := Claim7.holds Tryz.pinned (.plain (OpenSpec.ofChange rationalFieldSpec)) rationalFieldCard

/-- THE TIED CARD OF 'swarflaw02.RationalValid'. -/
def rationalValidCard : Claim7 := { stood := { row := rationalValidRow, standIns := [], harness := (true, "b1b54a3cdfadc512e161576f3b042f79bb56210ac94dbdacb5ba0d7036b5e27c"), looks := false }, kinds := [], alts := [], laidByText := true, laidKinds := [.data, .data, .data], laidTests := true, laidLooks := .later }
def RationalValidCardSaid : Prop := Claim7.holds Tryz.pinned (.plain (OpenSpec.ofChange rationalValidSpec)) rationalValidCard

/-- THE SECOND FORM's CARD OF 'swarflaw02.RationalFloor'. -/
def rationalFloorUptoCard : Claim7 := { stood := { row := rationalFloorUptoRow, standIns := [], harness := (true, "b1b54a3cdfadc512e161576f3b042f79bb56210ac94dbdacb5ba0d7036b5e27c"), looks := false }, kinds := [], alts := [], laidByText := true, laidKinds := [.data, .data, .data], laidTests := true, laidLooks := .later }
def RationalFloorUptoCardSaid : Prop := Claim7.holds Tryz.pinned (.plain (OpenSpec.upto rationalFloorSpec)) rationalFloorUptoCard

/-- THE SECOND FORM's CARD OF 'swarflaw02.RationalSqrt'. -/
def rationalSqrtUptoCard : Claim7 := { stood := { row := rationalSqrtUptoRow, standIns := [], harness := (true, "b1b54a3cdfadc512e161576f3b042f79bb56210ac94dbdacb5ba0d7036b5e27c"), looks := false }, kinds := [], alts := [], laidByText := true, laidKinds := [.data, .data, .data], laidTests := true, laidLooks := .later }
def RationalSqrtUptoCardSaid : Prop := Claim7.holds Tryz.pinned (.plain (OpenSpec.upto rationalSqrtSpec)) rationalSqrtUptoCard

/-- THE SECOND FORM's CARD OF 'swarflaw02.RationalSimplest'. -/
def rationalSimplestUptoCard : Claim7 := { stood := { row := rationalSimplestUptoRow, standIns := [], harness := (true, "b1b54a3cdfadc512e161576f3b042f79bb56210ac94dbdacb5ba0d7036b5e27c"), looks := false }, kinds := [], alts := [], laidByText := true, laidKinds := [.data, .data, .data], laidTests := true, laidLooks := .later }
def RationalSimplestUptoCardSaid : Prop := Claim7.holds Tryz.pinned (.plain (OpenSpec.upto rationalSimplestSpec)) rationalSimplestUptoCard

/-- THE SECOND FORM's CARD OF 'swarflaw02.RationalText'. -/
def rationalTextUptoCard : Claim7 := { stood := { row := rationalTextUptoRow, standIns := [], harness := (true, "b1b54a3cdfadc512e161576f3b042f79bb56210ac94dbdacb5ba0d7036b5e27c"), looks := false }, kinds := [], alts := [], laidByText := true, laidKinds := [.data, .data, .data], laidTests := true, laidLooks := .later }
def RationalTextUptoCardSaid : Prop := Claim7.holds Tryz.pinned (.plain (OpenSpec.upto rationalTextSpec)) rationalTextUptoCard

/-- THE SECOND FORM's CARD OF 'swarflaw02.RationalOrder'. -/
def rationalOrderUptoCard : Claim7 := { stood := { row := rationalOrderUptoRow, standIns := [], harness := (true, "b1b54a3cdfadc512e161576f3b042f79bb56210ac94dbdacb5ba0d7036b5e27c"), looks := false }, kinds := [], alts := [], laidByText := true, laidKinds := [.data, .data, .data], laidTests := true, laidLooks := .later }
def RationalOrderUptoCardSaid : Prop := Claim7.holds Tryz.pinned (.plain (OpenSpec.upto rationalOrderSpec)) rationalOrderUptoCard

/-- THE SECOND FORM's CARD OF 'swarflaw02.RationalMake'. -/
def rationalMakeUptoCard : Claim7 := { stood := { row := rationalMakeUptoRow, standIns := [], harness := (true, "b1b54a3cdfadc512e161576f3b042f79bb56210ac94dbdacb5ba0d7036b5e27c"), looks := false }, kinds := [], alts := [], laidByText := true, laidKinds := [.data, .data, .data], laidTests := true, laidLooks := .later }
def RationalMakeUptoCardSaid : Prop := Claim7.holds Tryz.pinned (.plain (OpenSpec.upto rationalMakeSpec)) rationalMakeUptoCard

/-- THE SECOND FORM's CARD OF 'swarflaw02.RationalArithmetic'. -/
def rationalArithmeticUptoCard : Claim7 := { stood := { row := rationalArithmeticUptoRow, standIns := [], harness := (true, "b1b54a3cdfadc512e161576f3b042f79bb56210ac94dbdacb5ba0d7036b5e27c"), looks := false }, kinds := [], alts := [], laidByText := true, laidKinds := [.data, .data, .data], laidTests := true, laidLooks := .later }
def RationalArithmeticUptoCardSaid : Prop := Claim7.holds Tryz.pinned (.plain (OpenSpec.upto rationalArithmeticSpec)) rationalArithmeticUptoCard

/-- THE SECOND FORM's CARD OF 'swarflaw02.RationalField'. -/
def rationalFieldUptoCard : Claim7 := { stood := { row := rationalFieldUptoRow, standIns := [], harness := (true, "b1b54a3cdfadc512e161576f3b042f79bb56210ac94dbdacb5ba0d7036b5e27c"), looks := false }, kinds := [], alts := [], laidByText := true, laidKinds := [.data, .data, .data], laidTests := true, laidLooks := .later }
def RationalFieldUptoCardSaid : Prop := Claim7.holds Tryz.pinned (.plain (OpenSpec.upto rationalFieldSpec)) rationalFieldUptoCard

/-- THE SECOND FORM's CARD OF 'swarflaw02.RationalValid'. -/
def rationalValidUptoCard : Claim7 := { stood := { row := rationalValidUptoRow, standIns := [], harness := (true, "b1b54a3cdfadc512e161576f3b042f79bb56210ac94dbdacb5ba0d7036b5e27c"), looks := false }, kinds := [], alts := [], laidByText := true, laidKinds := [.data, .data, .data], laidTests := true, laidLooks := .later }
def RationalValidUptoCardSaid : Prop := Claim7.holds Tryz.pinned (.plain (OpenSpec.upto rationalValidSpec)) rationalValidUptoCard
end Rows
end Go.Proofs.YtghlkihmnopenaaGreatDoor
