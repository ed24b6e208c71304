/-
  DERIVED. GIVEN WITH THE SEED: THE CARDS: each row of YtghlkihmnopenaaDoorRows.lean that lists a variable, with what it lists TIED to the program's text (the seventh form; the later family's looks); each row that meets fmt, with fmt's text TOLD by the authors' own Lean function (tested against real Go, not proved from fmt's source: count such statements apart). THE CARD IS WHAT COUNTS. Prove the row's statement (the work); the ties are given (YtghlkihmnopenaaDoorTie.lean); close each card by the builder's one call (the guide's Derived/Test/ToyasCard.lean, 'card_holds'). Laid BY PROGRAM, IN A SANDBOX (cutbox-door.mjs). By AI agents, Wed Nov 11 2026. No macro, syntax, notation, axiom, sorry.
-/
import Derived.Test.YtghlkihmnopenaaDoorRows
import GoSem.ClaimSeven
namespace Go.Proofs.YtghlkihmnopenaaDoor
namespace Rows

/-- THE TIED CARD OF 'swarflaw01.IntegerText'. -/
def integerTextCard : Claim7 := { stood := { row := integerTextRow, standIns := [], harness := (true, "956bed09c434a2d595ef210180814e3fae6aeaa55b3eb3367eab7d69a98e4e11"), looks := false }, kinds := [], alts := [], laidByText := true, laidKinds := [.data, .data, .data], laidTests := true, laidLooks := .later }
def IntegerTextCardSaid : Prop := Claim7.holds Tryd.pinned (.plain (OpenSpec.ofChange integerTextSpec)) integerTextCard

/-- THE SECOND FORM's CARD OF 'swarflaw01.IntegerText'. -/
def integerTextUptoCard : Claim7 := { stood := { row := integerTextUptoRow, standIns := [], harness := (true, "956bed09c434a2d595ef210180814e3fae6aeaa55b3eb3367eab7d69a98e4e11"), looks := false }, kinds := [], alts := [], laidByText := true, laidKinds := [.data, .data, .data], laidTests := true, laidLooks := .later }
def IntegerTextUptoCardSaid : Prop := Claim7.holds Tryd.pinned (.plain (OpenSpec.upto integerTextSpec)) integerTextUptoCard
end Rows
end Go.Proofs.YtghlkihmnopenaaDoor
