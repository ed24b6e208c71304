/-
  Rules of the abstract run, plain laws, and what functions answer, for the law TopMeetings.
  Conditions: none.
-/
import Derived.Test.YtdpkjhnfklkkjaaGreatM27
set_option linter.all false
namespace Go.Proofs.YtdpkjhnfklkkjaaGreat
open Go Go.RowKit Go.Sw Go.Proofs.Tryz
set_option maxRecDepth 100000
set_option maxHeartbeats 16000000
set_option synthInstance.maxSize 4000
set_option synthInstance.maxHeartbeats 400000
theorem ama:Den prog 5 [] (.bool true):=gu (T:=[(17,[.int .i64 0,.int .i64 0,.int .i64 2],aia),(17,[.int .i64 1,.int .i64 1,.int .i64 2],ah7),(18,[aA,aB],run),(21,[aU,apt],(.c (.v (.int .i64 1))))]) (by intro x hx;simp only[jA,List.not_mem_nil,or_false]at hx;rcases hx with rfl|rfl|rfl|rfl<;>first|exact agr|exact aiL|exact alq|exact ail) ζ
instance QH:DenI prog 5 [] True (.bool true):=⟨λ_=>ama⟩
end Go.Proofs.YtdpkjhnfklkkjaaGreat
