/-
  Closed facts of the row of RepairEnds.
  Conditions: none.
-/
import Derived.Test.YtmniihkenijjpaaGreatDoorM17
set_option linter.all false
namespace Go.Proofs.YtmniihkenijjpaaGreatDoor
open Go
set_option maxRecDepth 100000
theorem CY:(Rows.repairEndsRow.inPlace == Tryz.pinned.checked.prog.inPlace 8)=true:=by kernel_rfl
theorem DV:(Rows.repairEndsRow.unfollowed == Tryz.pinned.checked.prog.unfollowed 8)=true:=by kernel_rfl
theorem DZ:(Rows.repairEndsRow.recurses == Tryz.pinned.checked.prog.recurses 8)=true:=by kernel_rfl
theorem CG:(Rows.repairEndsRow.named == Tryz.pinned.checked.prog.varsNamed 8)=true:=by kernel_rfl
theorem vH:joinedFacts Tryz.pinned.checked.prog 8 Tryz.f8 Rows.repairEndsSpec Rows.repairEndsRow=true:=by
 unfold joinedFacts;rw [CY,DV,DZ,CG]
 kernel_rfl
theorem wP:false=Rows.repairEndsRow.goesBy Tryz.pinned.checked.prog:=by kernel_rfl
theorem wV:Tryz.pinned.checked.prog.mainIs=some (true,"f3ac26bbc19fa5dd170bbef99dadcbcd1f24a254e3c8ae9d56f844f18c3416bf".toList):=by kernel_rfl
theorem uJ:false=Tryz.pinned.checked.prog.looks []:=by kernel_rfl
end Go.Proofs.YtmniihkenijjpaaGreatDoor
