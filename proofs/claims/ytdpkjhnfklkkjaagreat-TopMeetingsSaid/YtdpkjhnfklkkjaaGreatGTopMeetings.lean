/-
  Closed facts of the row of TopMeetings.
  Conditions: none.
-/
import Derived.Test.YtdpkjhnfklkkjaaGreatM29
set_option linter.all false
set_option maxHeartbeats 16000000
namespace Go.Proofs.YtdpkjhnfklkkjaaGreat
open Go Go.Proofs.Tryz
set_option maxRecDepth 100000
theorem ET:(Rows.topMeetingsRow.inPlace == Tryz.pinned.checked.prog.inPlace 3)=true:=ζ
theorem EY:(Rows.topMeetingsRow.unfollowed == Tryz.pinned.checked.prog.unfollowed 3)=true:=ζ
theorem EI:(Rows.topMeetingsRow.recurses == Tryz.pinned.checked.prog.recurses 3)=true:=ζ
theorem Ey:(Rows.topMeetingsRow.named == Tryz.pinned.checked.prog.varsNamed 3)=true:=ζ
theorem yP:joinedFacts Tryz.pinned.checked.prog 3 Tryz.f3 Rows.topMeetingsSpec Rows.topMeetingsRow=true:=by
 unfold joinedFacts;rw[ET,EY,EI,Ey]
 kernel_rfl
end Go.Proofs.YtdpkjhnfklkkjaaGreat
