/-
  What the functions answer, each out of its text by the abstract run.
  Conditions: none.
-/
import Derived.Test.YtbbfmlhkgceabaaGreatM18
import Derived.Test.YtbbfmlhkgceabaaGreatM19
import Derived.Test.YtbbfmlhkgceabaaGreatM20
set_option linter.all false
namespace Go.Proofs.YtbbfmlhkgceabaaGreat
open Go Go.RowKit Go.Sw
set_option linter.unusedVariables false
set_option maxRecDepth 100000
set_option maxHeartbeats 8000000
set_option synthInstance.maxSize 4000
set_option synthInstance.maxHeartbeats 400000
theorem f_un:Den Tryz.prog 11 [aA,aB] run:=run_den (T:=[(120,[aA,aB],rcuAB),(120,[aB,aA],rcuBA),(13,[aB,am0],(.c (.v (.int .i64 (-1))))),(13,[aB,am1],(.c (.v (.int .i64 (-1))))),(13,[aB,am2],(.c (.v (.int .i64 (-1))))),(13,[aB,am3],(.c (.v (.int .i64 1)))),(13,[aB,am4],(.c (.v (.int .i64 (-1))))),(13,[aB,am5],(.c (.v (.int .i64 1)))),(13,[aA,am6],(.c (.v (.int .i64 1)))),(13,[aA,am7],(.c (.v (.int .i64 (-1))))),(13,[aA,am8],(.c (.v (.int .i64 1)))),(13,[aA,am9],(.c (.v (.int .i64 (-1))))),(13,[aA,am10],(.c (.v (.int .i64 (-1))))),(13,[aA,am11],(.c (.v (.int .i64 (-1)))))]) (by intro x hx;simp only [List.mem_cons,List.not_mem_nil,or_false] at hx;rcases hx with rfl|rfl|rfl|rfl|rfl|rfl|rfl|rfl|rfl|rfl|rfl|rfl|rfl|rfl<;>first|exact f_cuAB|exact f_cuBA|exact f_in0|exact f_in1|exact f_in2|exact f_in3|exact f_in4|exact f_in5|exact f_in6|exact f_in7|exact f_in8|exact f_in9|exact f_in10|exact f_in11) (by kernel_rfl)
end Go.Proofs.YtbbfmlhkgceabaaGreat
