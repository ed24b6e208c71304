/-
  Rules of the abstract run, plain laws, and what functions answer, for the law TopMeetings.
  Conditions: none.
-/
import Derived.Test.YtdpkjhnfklkkjaaGreatM20
set_option linter.all false
namespace Go.Proofs.YtdpkjhnfklkkjaaGreat
open Go Go.RowKit Go.Sw Go.Proofs.Tryz
set_option maxRecDepth 100000
set_option maxHeartbeats 16000000
set_option synthInstance.maxSize 4000
set_option synthInstance.maxHeartbeats 400000
theorem agB:Den prog 190 [aLA] af0:=gu (T:=[]) (λ_ h=>by cases h) ζ
theorem aiG:Den prog 106 [aLA] ag6:=gu (T:=[(190,[aLA],af0)]) (by intro x hx;simp only[jA,List.not_mem_nil,or_false]at hx;rcases hx with rfl<;>first|exact agB) ζ
theorem agr:Den prog 17 [.int .i64 0,.int .i64 0,.int .i64 2] aia:=gu (T:=[(106,[aLA],ag6)]) (by intro x hx;simp only[jA,List.not_mem_nil,or_false]at hx;rcases hx with rfl<;>first|exact aiG) ζ
end Go.Proofs.YtdpkjhnfklkkjaaGreat
