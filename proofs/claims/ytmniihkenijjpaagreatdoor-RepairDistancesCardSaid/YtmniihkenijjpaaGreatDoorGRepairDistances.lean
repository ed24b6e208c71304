/-
  Closed facts of the row of RepairDistances.
  Conditions: none.
-/
import Derived.Test.YtmniihkenijjpaaGreatDoorQ18
set_option linter.all false
namespace Go.Proofs.YtmniihkenijjpaaGreatDoor
open Go
set_option maxRecDepth 100000
theorem xB:(Rows.repairDistancesRow.inPlace == Tryz.pinned.checked.prog.inPlace 5)=true:=by kernel_rfl
theorem vT:(Rows.repairDistancesRow.unfollowed == Tryz.pinned.checked.prog.unfollowed 5)=true:=by kernel_rfl
theorem wZ:(Rows.repairDistancesRow.recurses == Tryz.pinned.checked.prog.recurses 5)=true:=by kernel_rfl
theorem wK:(Rows.repairDistancesRow.named == Tryz.pinned.checked.prog.varsNamed 5)=true:=by kernel_rfl
theorem rD:joinedFacts Tryz.pinned.checked.prog 5 Tryz.f5 Rows.repairDistancesSpec Rows.repairDistancesRow=true:=by
 unfold joinedFacts;rw [xB,vT,wZ,wK]
 kernel_rfl
theorem rP:false=Rows.repairDistancesRow.goesBy Tryz.pinned.checked.prog:=by kernel_rfl
theorem rV:Tryz.pinned.checked.prog.mainIs=some (true,"f3ac26bbc19fa5dd170bbef99dadcbcd1f24a254e3c8ae9d56f844f18c3416bf".toList):=by kernel_rfl
theorem qZ:false=Tryz.pinned.checked.prog.looks []:=by kernel_rfl
end Go.Proofs.YtmniihkenijjpaaGreatDoor
