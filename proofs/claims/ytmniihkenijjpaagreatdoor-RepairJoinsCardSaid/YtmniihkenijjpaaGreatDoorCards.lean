/-
  DERIVED. GIVEN WITH THE SEED: THE CARDS: each row of YtmniihkenijjpaaGreatDoorRows.lean that lists a variable, with what it lists TIED to the program's text (the seventh form; the later family's looks); each row that meets fmt, with fmt's text TOLD by the authors' own Lean function (tested against real Go, not proved from fmt's source: count such statements apart). THE CARD IS WHAT COUNTS. Prove the row's statement (the work); the ties are given (YtmniihkenijjpaaGreatDoorTie.lean); close each card by the builder's one call (the guide's Derived/Test/ToyasCard.lean, 'card_holds'). Laid BY PROGRAM, IN A SANDBOX (cutbox-door.mjs). By AI agents, Wed Nov 11 2026. No macro, syntax, notation, axiom, sorry.
-/
import Derived.Test.YtmniihkenijjpaaGreatDoorRows
import GoSem.ClaimSeven
namespace Go.Proofs.YtmniihkenijjpaaGreatDoor
namespace Rows

/-- THE TIED CARD OF 'swarflaw23.RepairReport'. -/
def repairReportCard : Claim7 := { stood := { row := repairReportRow, standIns := [], harness := (true, "f3ac26bbc19fa5dd170bbef99dadcbcd1f24a254e3c8ae9d56f844f18c3416bf"), looks := false }, kinds := [], alts := [], laidByText := true, laidKinds := [.data, .data, .data, .data], laidTests := true, laidLooks := .later }
def RepairReportCardSaid : Prop := Claim7.holds Tryz.pinned (.plain (OpenSpec.ofChange repairReportSpec)) repairReportCard

/-- THE TIED CARD OF 'swarflaw23.RepairTwice'. -/
def repairTwiceCard : Claim7 := { stood := { row := repairTwiceRow, standIns := [], harness := (true, "f3ac26bbc19fa5dd170bbef99dadcbcd1f24a254e3c8ae9d56f844f18c3416bf"), looks := false }, kinds := [], alts := [], laidByText := true, laidKinds := [.data, .data, .data, .data], laidTests := true, laidLooks := .later }
def RepairTwiceCardSaid : Prop := Claim7.holds Tryz.pinned (.plain (OpenSpec.ofChange repairTwiceSpec)) repairTwiceCard

/-- THE TIED CARD OF 'swarflaw23.RepairDistances'. -/
def repairDistancesCard : Claim7 := { stood := { row := repairDistancesRow, standIns := [], harness := (true, "f3ac26bbc19fa5dd170bbef99dadcbcd1f24a254e3c8ae9d56f844f18c3416bf"), looks := false }, kinds := [], alts := [], laidByText := true, laidKinds := [.data, .data, .data, .data], laidTests := true, laidLooks := .later }
def RepairDistancesCardSaid : Prop := Claim7.holds Tryz.pinned (.plain (OpenSpec.ofChange repairDistancesSpec)) repairDistancesCard

/-- THE TIED CARD OF 'swarflaw23.RepairClean'. -/
def repairCleanCard : Claim7 := { stood := { row := repairCleanRow, standIns := [], harness := (true, "f3ac26bbc19fa5dd170bbef99dadcbcd1f24a254e3c8ae9d56f844f18c3416bf"), looks := false }, kinds := [], alts := [], laidByText := true, laidKinds := [.data, .data, .data, .data], laidTests := true, laidLooks := .later }
def RepairCleanCardSaid : Prop := Claim7.holds Tryz.pinned (.plain (OpenSpec.ofChange repairCleanSpec)) repairCleanCard

/-- THE TIED CARD OF 'swarflaw23.RepairJoins'. -/
def repairJoinsCard : Claim7 := { stood := { row := repairJoinsRow, standIns := [], harness := (true, "f3ac26bbc19fa5dd170bbef99dadcbcd1f24a254e3c8ae9d56f844f18c3416bf"), looks := false }, kinds := [], alts := [], laidByText := true, laidKinds := [.data, .data, .data, .data], laidTests := true, laidLooks := .later }
def RepairJoinsCardSaid : Prop := Claim7.holds Tryz.pinned (.plain (OpenSpec.ofChange repairJoinsSpec)) repairJoinsCard

/-- THE TIED CARD OF 'swarflaw23.RepairEnds'. -/
def repairEndsCard : Claim7 := { stood := { row := repairEndsRow, standIns := [], harness := (true, "f3ac26bbc19fa5dd170bbef99dadcbcd1f24a254e3c8ae9d56f844f18c3416bf"), looks := false }, kinds := [], alts := [], laidByText := true, laidKinds := [.data, .data, .data, .data], laidTests := true, laidLooks := .later }
def RepairEndsCardSaid : Prop := Claim7.holds Tryz.pinned (.plain (OpenSpec.ofChange repairEndsSpec)) repairEndsCard

/-- THE TIED CARD OF 'swarflaw23.RepairOpen'. -/
def repairOpenCard : Claim7 := { stood := { row := repairOpenRow, standIns := [], harness := (true, "f3ac26bbc19fa5dd170bbef99dadcbcd1f24a254e3c8ae9d56f844f18c3416bf"), looks := false }, kinds := [], alts := [], laidByText := true, laidKinds := [.data, .data, .data, .data], laidTests := true, laidLooks := .later }
def RepairOpenCardSaid : Prop := Claim7.holds Tryz.pinned (.plain (OpenSpec.ofChange repairOpenSpec)) repairOpenCard

/-- THE TIED CARD OF 'swarftop.TopRepaired'. -/
def topRepairedCard : Claim7 := { stood := { row := topRepairedRow, standIns := [], harness := (true, "f3ac26bbc19fa5dd170bbef99dadcbcd1f24a254e3c8ae9d56f844f18c3416bf"), looks := false }, kinds := [], alts := [], laidByText := true, laidKinds := [.data, .data, .data, .data], laidTests := true, laidLooks := .later }
def TopRepairedCardSaid : Prop := Claim7.holds Tryz.pinned (.plain (OpenSpec.ofChange topRepairedSpec)) topRepairedCard

/-- THE SECOND FORM's CARD OF 'swarflaw23.RepairReport'. -/
def repairReportUptoCard : Claim7 := { stood := { row := repairReportUptoRow, standIns := [], harness := (true, "f3ac26bbc19fa5dd170bbef99dadcbcd1f24a254e3c8ae9d56f844f18c3416bf"), looks := false }, kinds := [], alts := [], laidByText := true, laidKinds := [.data, .data, .data, .data], laidTests := true, laidLooks := .later }
def RepairReportUptoCardSaid : Prop := Claim7.holds Tryz.pinned (.plain (OpenSpec.upto repairReportSpec)) repairReportUptoCard

/-- THE SECOND FORM's CARD OF 'swarflaw23.RepairTwice'. -/
def repairTwiceUptoCard : Claim7 := { stood := { row := repairTwiceUptoRow, standIns := [], harness := (true, "f3ac26bbc19fa5dd170bbef99dadcbcd1f24a254e3c8ae9d56f844f18c3416bf"), looks := false }, kinds := [], alts := [], laidByText := true, laidKinds := [.data, .data, .data, .data], laidTests := true, laidLooks := .later }
def RepairTwiceUptoCardSaid : Prop := Claim7.holds Tryz.pinned (.plain (OpenSpec.upto repairTwiceSpec)) repairTwiceUptoCard

/-- THE SECOND FORM's CARD OF 'swarflaw23.RepairDistances'. -/
def repairDistancesUptoCard : Claim7 := { stood := { row := repairDistancesUptoRow, standIns := [], harness := (true, "f3ac26bbc19fa5dd170bbef99dadcbcd1f24a254e3c8ae9d56f844f18c3416bf"), looks := false }, kinds := [], alts := [], laidByText := true, laidKinds := [.data, .data, .data, .data], laidTests := true, laidLooks := .later }
def RepairDistancesUptoCardSaid : Prop := Claim7.holds Tryz.pinned (.plain (OpenSpec.upto repairDistancesSpec)) repairDistancesUptoCard

/-- THE SECOND FORM's CARD OF 'swarflaw23.RepairClean'. -/
def repairCleanUptoCard : Claim7 := { stood := { row := repairCleanUptoRow, standIns := [], harness := (true, "f3ac26bbc19fa5dd170bbef99dadcbcd1f24a254e3c8ae9d56f844f18c3416bf"), looks := false }, kinds := [], alts := [], laidByText := true, laidKinds := [.data, .data, .data, .data], laidTests := true, laidLooks := .later }
def RepairCleanUptoCardSaid : Prop := Claim7.holds Tryz.pinned (.plain (OpenSpec.upto repairCleanSpec)) repairCleanUptoCard

/-- THE SECOND FORM's CARD OF 'swarflaw23.RepairJoins'. -/
def repairJoinsUptoCard : Claim7 := { stood := { row := repairJoinsUptoRow, standIns := [], harness := (true, "f3ac26bbc19fa5dd170bbef99dadcbcd1f24a254e3c8ae9d56f844f18c3416bf"), looks := false }, kinds := [], alts := [], laidByText := true, laidKinds := [.data, .data, .data, .data], laidTests := true, laidLooks := .later }
def RepairJoinsUptoCardSaid : Prop := Claim7.holds Tryz.pinned (.plain (OpenSpec.upto repairJoinsSpec)) repairJoinsUptoCard

/-- THE SECOND FORM's CARD OF 'swarflaw23.RepairEnds'. -/
def repairEndsUptoCard : Claim7 := { stood := { row := repairEndsUptoRow, standIns := [], harness := (true, "f3ac26bbc19fa5dd170bbef99dadcbcd1f24a254e3c8ae9d56f844f18c3416bf"), looks := false }, kinds := [], alts := [], laidByText := true, laidKinds := [.data, .data, .data, .data], laidTests := true, laidLooks := .later }
def RepairEndsUptoCardSaid : Prop := Claim7.holds Tryz.pinned (.plain (OpenSpec.upto repairEndsSpec)) repairEndsUptoCard

/-- THE SECOND FORM's CARD OF 'swarflaw23.RepairOpen'. -/
def repairOpenUptoCard : Claim7 := { stood := { row := repairOpenUptoRow, standIns := [], harness := (true, "f3ac26bbc19fa5dd170bbef99dadcbcd1f24a254e3c8ae9d56f844f18c3416bf"), looks := false }, kinds := [], alts := [], laidByText := true, laidKinds := [.data, .data, .data, .data], laidTests := true, laidLooks := .later }
def RepairOpenUptoCardSaid : Prop := Claim7.holds Tryz.pinned (.plain (OpenSpec.upto repairOpenSpec)) repairOpenUptoCard

/-- THE SECOND FORM's CARD OF 'swarftop.TopRepaired'. -/
def topRepairedUptoCard : Claim7 := { stood := { row := topRepairedUptoRow, standIns := [], harness := (true, "f3ac26bbc19fa5dd170bbef99dadcbcd1f24a254e3c8ae9d56f844f18c3416bf"), looks := false }, kinds := [], alts := [], laidByText := true, laidKinds := [.data, .data, .data, .data], laidTests := true, laidLooks := .later }
def TopRepairedUptoCardSaid : Prop := Claim7.holds Tryz.pinned (.plain (OpenSpec.upto topRepairedSpec)) topRepairedUptoCard
end Rows
end Go.Proofs.YtmniihkenijjpaaGreatDoor
