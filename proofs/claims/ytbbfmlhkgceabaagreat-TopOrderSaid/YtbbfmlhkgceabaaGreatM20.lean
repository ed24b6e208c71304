/-
  What the functions answer, each out of its text by the abstract run.
  Conditions: none.
-/
import Derived.Test.YtbbfmlhkgceabaaGreatM15
set_option linter.all false
namespace Go.Proofs.YtbbfmlhkgceabaaGreat
open Go Go.RowKit Go.Sw
set_option linter.unusedVariables false
set_option maxRecDepth 100000
set_option maxHeartbeats 8000000
set_option synthInstance.maxSize 4000
set_option synthInstance.maxHeartbeats 400000
theorem f_in7:Den Tryz.prog 13 [aA,am7] (.c (.v (.int .i64 (-1)))):=run_den (T:=[]) (λ_ h=>by cases h) (by kernel_rfl)
theorem f_in6:Den Tryz.prog 13 [aA,am6] (.c (.v (.int .i64 1))):=run_den (T:=[]) (λ_ h=>by cases h) (by kernel_rfl)
theorem f_in8:Den Tryz.prog 13 [aA,am8] (.c (.v (.int .i64 1))):=run_den (T:=[]) (λ_ h=>by cases h) (by kernel_rfl)
theorem f_in9:Den Tryz.prog 13 [aA,am9] (.c (.v (.int .i64 (-1)))):=run_den (T:=[]) (λ_ h=>by cases h) (by kernel_rfl)
theorem f_in10:Den Tryz.prog 13 [aA,am10] (.c (.v (.int .i64 (-1)))):=run_den (T:=[]) (λ_ h=>by cases h) (by kernel_rfl)
theorem f_in11:Den Tryz.prog 13 [aA,am11] (.c (.v (.int .i64 (-1)))):=run_den (T:=[]) (λ_ h=>by cases h) (by kernel_rfl)
end Go.Proofs.YtbbfmlhkgceabaaGreat
