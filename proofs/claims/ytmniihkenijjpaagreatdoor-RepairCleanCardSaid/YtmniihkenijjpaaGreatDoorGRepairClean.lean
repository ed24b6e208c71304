/-
  Closed facts of the row of RepairClean.
  Conditions: none.
-/
import Derived.Test.YtmniihkenijjpaaGreatDoorV19
set_option linter.all false
namespace Go.Proofs.YtmniihkenijjpaaGreatDoor
open Go
set_option maxRecDepth 100000
theorem yA:(Rows.repairCleanRow.inPlace == Tryz.pinned.checked.prog.inPlace 6)=true:=ζ
theorem yG:(Rows.repairCleanRow.unfollowed == Tryz.pinned.checked.prog.unfollowed 6)=true:=ζ
theorem yF:(Rows.repairCleanRow.recurses == Tryz.pinned.checked.prog.recurses 6)=true:=ζ
theorem yj:(Rows.repairCleanRow.named == Tryz.pinned.checked.prog.varsNamed 6)=true:=ζ
theorem qK:joinedFacts Tryz.pinned.checked.prog 6 Tryz.f6 Rows.repairCleanSpec Rows.repairCleanRow=true:=by
 unfold joinedFacts;rw[yA,yG,yF,yj]
 kernel_rfl
theorem sF:false=Rows.repairCleanRow.goesBy Tryz.pinned.checked.prog:=ζ
theorem sU:Tryz.pinned.checked.prog.mainIs=some (true,"f3ac26bbc19fa5dd170bbef99dadcbcd1f24a254e3c8ae9d56f844f18c3416bf".toList):=ζ
theorem rU:false=Tryz.pinned.checked.prog.looks []:=ζ
end Go.Proofs.YtmniihkenijjpaaGreatDoor
