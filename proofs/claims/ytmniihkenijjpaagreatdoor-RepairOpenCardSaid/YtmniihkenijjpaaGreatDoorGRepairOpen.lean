/-
  Closed facts of the row of RepairOpen.
  Conditions: none.
-/
import Derived.Test.YtmniihkenijjpaaGreatDoorT18
set_option linter.all false
namespace Go.Proofs.YtmniihkenijjpaaGreatDoor
open Go
set_option maxRecDepth 100000
theorem IZ:(Rows.repairOpenRow.inPlace == Tryz.pinned.checked.prog.inPlace 9)=true:=by kernel_rfl
theorem Ju:(Rows.repairOpenRow.unfollowed == Tryz.pinned.checked.prog.unfollowed 9)=true:=by kernel_rfl
theorem GZ:(Rows.repairOpenRow.recurses == Tryz.pinned.checked.prog.recurses 9)=true:=by kernel_rfl
theorem IB:(Rows.repairOpenRow.named == Tryz.pinned.checked.prog.varsNamed 9)=true:=by kernel_rfl
theorem y8:joinedFacts Tryz.pinned.checked.prog 9 Tryz.f9 Rows.repairOpenSpec Rows.repairOpenRow=true:=by
 unfold joinedFacts;rw[IZ,Ju,GZ,IB]
 kernel_rfl
theorem AY:false=Rows.repairOpenRow.goesBy Tryz.pinned.checked.prog:=by kernel_rfl
theorem AP:Tryz.pinned.checked.prog.mainIs=some (true,"f3ac26bbc19fa5dd170bbef99dadcbcd1f24a254e3c8ae9d56f844f18c3416bf".toList):=by kernel_rfl
theorem zF:false=Tryz.pinned.checked.prog.looks []:=by kernel_rfl
end Go.Proofs.YtmniihkenijjpaaGreatDoor
