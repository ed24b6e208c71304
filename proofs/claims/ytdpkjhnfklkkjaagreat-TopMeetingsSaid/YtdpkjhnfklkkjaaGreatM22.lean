/-
  Rules of the abstract run, plain laws, and what functions answer, for the law TopMeetings.
  Conditions: none.
-/
import Derived.Test.YtdpkjhnfklkkjaaGreatM21
set_option linter.all false
namespace Go.Proofs.YtdpkjhnfklkkjaaGreat
open Go Go.RowKit Go.Sw Go.Proofs.Tryz
set_option maxRecDepth 100000
set_option maxHeartbeats 16000000
set_option synthInstance.maxSize 4000
set_option synthInstance.maxHeartbeats 400000
theorem aiE:Den prog 190 [aLB] ahV:=gu (T:=[]) (λ_ h=>by cases h) ζ
theorem af5:Den prog 106 [aLB] ain:=gu (T:=[(190,[aLB],ahV)]) (by intro x hx;simp only[jA,List.not_mem_nil,or_false]at hx;rcases hx with rfl<;>first|exact aiE) ζ
theorem aiL:Den prog 17 [.int .i64 1,.int .i64 1,.int .i64 2] ah7:=gu (T:=[(106,[aLB],ain)]) (by intro x hx;simp only[jA,List.not_mem_nil,or_false]at hx;rcases hx with rfl<;>first|exact af5) ζ
end Go.Proofs.YtdpkjhnfklkkjaaGreat
