/-
  Rules of the abstract run, plain laws, and what functions answer, for the law TopMeetings.
  Conditions: none.
-/
import Derived.Test.YtdpkjhnfklkkjaaGreatM25
set_option linter.all false
namespace Go.Proofs.YtdpkjhnfklkkjaaGreat
open Go Go.RowKit Go.Sw Go.Proofs.Tryz
set_option maxRecDepth 100000
set_option maxHeartbeats 16000000
set_option synthInstance.maxSize 4000
set_option synthInstance.maxHeartbeats 400000
theorem alq:Den prog 18 [aA,aB] run:=gu (T:=[(199,[aA,aB],adb),(199,[aB,aA],adx),(21,[aB,am0],(.c (.v (.int .i64 (-1))))),(21,[aB,am1],(.c (.v (.int .i64 (-1))))),(21,[aB,am2],(.c (.v (.int .i64 (-1))))),(21,[aB,am3],(.c (.v (.int .i64 1)))),(21,[aB,am4],(.c (.v (.int .i64 (-1))))),(21,[aB,am5],(.c (.v (.int .i64 1)))),(21,[aA,am6],(.c (.v (.int .i64 1)))),(21,[aA,am7],(.c (.v (.int .i64 (-1))))),(21,[aA,am8],(.c (.v (.int .i64 1)))),(21,[aA,am9],(.c (.v (.int .i64 (-1))))),(21,[aA,aic],(.c (.v (.int .i64 (-1))))),(21,[aA,aip],(.c (.v (.int .i64 (-1)))))]) (by intro x hx;simp only[jA,List.not_mem_nil,or_false]at hx;rcases hx with rfl|rfl|rfl|rfl|rfl|rfl|rfl|rfl|rfl|rfl|rfl|rfl|rfl|rfl<;>first|exact afI|exact adE|exact agV|exact ahO|exact agR|exact aiY|exact agM|exact ahi|exact aiA|exact aha|exact ag5|exact ahK|exact adF|exact afE) ζ
end Go.Proofs.YtdpkjhnfklkkjaaGreat
