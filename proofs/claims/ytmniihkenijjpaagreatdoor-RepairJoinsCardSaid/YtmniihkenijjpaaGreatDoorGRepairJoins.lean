/-
  Closed facts of the row of RepairJoins.
  Conditions: none.
-/
import Derived.Test.YtmniihkenijjpaaGreatDoorX19
set_option linter.all false
namespace Go.Proofs.YtmniihkenijjpaaGreatDoor
open Go
set_option maxRecDepth 100000
theorem DF:(Rows.repairJoinsRow.inPlace == Tryz.pinned.checked.prog.inPlace 7)=true:=by kernel_rfl
theorem DK:(Rows.repairJoinsRow.unfollowed == Tryz.pinned.checked.prog.unfollowed 7)=true:=by kernel_rfl
theorem DW:(Rows.repairJoinsRow.recurses == Tryz.pinned.checked.prog.recurses 7)=true:=by kernel_rfl
theorem DU:(Rows.repairJoinsRow.named == Tryz.pinned.checked.prog.varsNamed 7)=true:=by kernel_rfl
theorem vX:joinedFacts Tryz.pinned.checked.prog 7 Tryz.f7 Rows.repairJoinsSpec Rows.repairJoinsRow=true:=by
 unfold joinedFacts;rw[DF,DK,DW,DU]
 kernel_rfl
theorem yc:false=Rows.repairJoinsRow.goesBy Tryz.pinned.checked.prog:=by kernel_rfl
theorem yu:Tryz.pinned.checked.prog.mainIs=some (true,"f3ac26bbc19fa5dd170bbef99dadcbcd1f24a254e3c8ae9d56f844f18c3416bf".toList):=by kernel_rfl
theorem vZ:false=Tryz.pinned.checked.prog.looks []:=by kernel_rfl
end Go.Proofs.YtmniihkenijjpaaGreatDoor
