/-
  What the functions answer, each out of its text by the abstract run.
  Conditions: none.
-/
import Derived.Test.YtbbfmlhkgceabaaGreatM16
import Derived.Test.YtbbfmlhkgceabaaGreatM17
import Derived.Test.YtbbfmlhkgceabaaGreatM21
import Derived.Test.YtbbfmlhkgceabaaGreatM22
set_option linter.all false
namespace Go.Proofs.YtbbfmlhkgceabaaGreat
open Go Go.RowKit Go.Sw
set_option linter.unusedVariables false
set_option maxRecDepth 100000
set_option maxHeartbeats 8000000
set_option synthInstance.maxSize 4000
set_option synthInstance.maxHeartbeats 400000
theorem f_aw:Den Tryz.prog 4 [] (.bool true):=run_den (T:=[(10,[.int .i64 0,.int .i64 0,.int .i64 2],rsqA),(10,[.int .i64 1,.int .i64 1,.int .i64 2],rsqB),(11,[aA,aB],run),(13,[aU,apt],(.c (.v (.int .i64 1))))]) (by intro x hx;simp only [List.mem_cons,List.not_mem_nil,or_false] at hx;rcases hx with rfl|rfl|rfl|rfl<;>first|exact f_sqA|exact f_sqB|exact f_un|exact f_inU) (by kernel_rfl)
end Go.Proofs.YtbbfmlhkgceabaaGreat
