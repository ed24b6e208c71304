/-
  Closed facts of the row of TopRepaired.
  Conditions: none.
-/
import Derived.Test.YtmniihkenijjpaaGreatDoorW19
set_option linter.all false
set_option maxHeartbeats 16000000
namespace Go.Proofs.YtmniihkenijjpaaGreatDoor
open Go
set_option maxRecDepth 100000
theorem tV:(Rows.topRepairedRow.inPlace == Tryz.pinned.checked.prog.inPlace 10)=true:=ζ
theorem uf:(Rows.topRepairedRow.unfollowed == Tryz.pinned.checked.prog.unfollowed 10)=true:=ζ
theorem tu:(Rows.topRepairedRow.recurses == Tryz.pinned.checked.prog.recurses 10)=true:=ζ
theorem tC:(Rows.topRepairedRow.named == Tryz.pinned.checked.prog.varsNamed 10)=true:=ζ
theorem nJ:joinedFacts Tryz.pinned.checked.prog 10 Tryz.f10 Rows.topRepairedSpec Rows.topRepairedRow=true:=by
 unfold joinedFacts;rw[tV,uf,tu,tC]
 kernel_rfl
theorem oU:false=Rows.topRepairedRow.goesBy Tryz.pinned.checked.prog:=ζ
theorem o7:Tryz.pinned.checked.prog.mainIs=some (true,"f3ac26bbc19fa5dd170bbef99dadcbcd1f24a254e3c8ae9d56f844f18c3416bf".toList):=ζ
theorem oD:false=Tryz.pinned.checked.prog.looks []:=ζ
end Go.Proofs.YtmniihkenijjpaaGreatDoor
