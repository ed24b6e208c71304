/-
  Closed facts of the row of RepairTwice.
  Conditions: none.
-/
import Derived.Test.YtmniihkenijjpaaGreatDoorP17
set_option linter.all false
namespace Go.Proofs.YtmniihkenijjpaaGreatDoor
open Go
set_option maxRecDepth 100000
theorem BQ:(Rows.repairTwiceRow.inPlace == Tryz.pinned.checked.prog.inPlace 4)=true:=by kernel_rfl
theorem Bz:(Rows.repairTwiceRow.unfollowed == Tryz.pinned.checked.prog.unfollowed 4)=true:=by kernel_rfl
theorem BA:(Rows.repairTwiceRow.recurses == Tryz.pinned.checked.prog.recurses 4)=true:=by kernel_rfl
theorem BD:(Rows.repairTwiceRow.named == Tryz.pinned.checked.prog.varsNamed 4)=true:=by kernel_rfl
theorem vw:joinedFacts Tryz.pinned.checked.prog 4 Tryz.f4 Rows.repairTwiceSpec Rows.repairTwiceRow=true:=by
 unfold joinedFacts;rw [BQ,Bz,BA,BD]
 kernel_rfl
theorem xJ:false=Rows.repairTwiceRow.goesBy Tryz.pinned.checked.prog:=by kernel_rfl
theorem wG:Tryz.pinned.checked.prog.mainIs=some (true,"f3ac26bbc19fa5dd170bbef99dadcbcd1f24a254e3c8ae9d56f844f18c3416bf".toList):=by kernel_rfl
theorem uG:false=Tryz.pinned.checked.prog.looks []:=by kernel_rfl
end Go.Proofs.YtmniihkenijjpaaGreatDoor
