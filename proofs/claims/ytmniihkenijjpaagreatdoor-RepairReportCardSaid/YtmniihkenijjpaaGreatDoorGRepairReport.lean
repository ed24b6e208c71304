/-
  Closed facts of the row of RepairReport.
  Conditions: none.
-/
import Derived.Test.YtmniihkenijjpaaGreatDoorU19
set_option linter.all false
set_option maxHeartbeats 16000000
namespace Go.Proofs.YtmniihkenijjpaaGreatDoor
open Go
set_option maxRecDepth 100000
theorem xC:(Rows.repairReportRow.inPlace == Tryz.pinned.checked.prog.inPlace 3)=true:=ζ
theorem xI:(Rows.repairReportRow.unfollowed == Tryz.pinned.checked.prog.unfollowed 3)=true:=ζ
theorem xg:(Rows.repairReportRow.recurses == Tryz.pinned.checked.prog.recurses 3)=true:=ζ
theorem xJ:(Rows.repairReportRow.named == Tryz.pinned.checked.prog.varsNamed 3)=true:=ζ
theorem pR:joinedFacts Tryz.pinned.checked.prog 3 Tryz.f3 Rows.repairReportSpec Rows.repairReportRow=true:=by
 unfold joinedFacts;rw[xC,xI,xg,xJ]
 kernel_rfl
theorem rZ:false=Rows.repairReportRow.goesBy Tryz.pinned.checked.prog:=ζ
theorem rE:Tryz.pinned.checked.prog.mainIs=some (true,"f3ac26bbc19fa5dd170bbef99dadcbcd1f24a254e3c8ae9d56f844f18c3416bf".toList):=ζ
theorem qw:false=Tryz.pinned.checked.prog.looks []:=ζ
end Go.Proofs.YtmniihkenijjpaaGreatDoor
