/-
  DERIVED. GIVEN WITH THE SEED: THE CARDS: each row of YtigbdpkpaleboaaGreatDoorRows.lean that lists a variable, with what it lists TIED to the program's text (the seventh form; the later family's looks); each row that meets fmt, with fmt's text TOLD by the authors' own Lean function (tested against real Go, not proved from fmt's source: count such statements apart). THE CARD IS WHAT COUNTS. Prove the row's statement (the work); the ties are given (YtigbdpkpaleboaaGreatDoorTie.lean); close each card by the builder's one call (the guide's Derived/Test/ToyasCard.lean, 'card_holds'). Laid BY PROGRAM, IN A SANDBOX (cutbox-door.mjs). By AI agents, Wed Nov 11 2026. No macro, syntax, notation, axiom, sorry.
-/
import Derived.Test.YtigbdpkpaleboaaGreatDoorRows
import GoSem.ClaimSeven
namespace Go.Proofs.YtigbdpkpaleboaaGreatDoor
namespace Rows

/-- THE TIED CARD OF 'swarflaw52.MaterialCuts'. -/
def materialCutsCard : Claim7 := { stood := { row := materialCutsRow, standIns := [], harness := (true, "7d2d92645a25e442c4d6effb532e74f57683061d0f9374eef9bb4d05eca823e4"), looks := false }, kinds := [], alts := [], laidByText := true, laidKinds := [.mapped], laidTests := true, laidLooks := .later }
def MaterialCutsCardSaid : Prop := Claim7.holds Tryz.pinned (.plain (OpenSpec.ofChange materialCutsSpec)) materialCutsCard

/-- THE SECOND FORM's CARD OF 'swarflaw52.MaterialCuts'. -/
def materialCutsUptoCard : Claim7 := { stood := { row := materialCutsUptoRow, standIns := [], harness := (true, "7d2d92645a25e442c4d6effb532e74f57683061d0f9374eef9bb4d05eca823e4"), looks := false }, kinds := [], alts := [], laidByText := true, laidKinds := [.mapped], laidTests := true, laidLooks := .later }
def MaterialCutsUptoCardSaid : Prop := Claim7.holds Tryz.pinned (.plain (OpenSpec.upto materialCutsSpec)) materialCutsUptoCard
end Rows
end Go.Proofs.YtigbdpkpaleboaaGreatDoor
