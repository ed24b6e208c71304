/-
  What the functions answer, each out of its text by the abstract run.
  Conditions: none.
-/
import Derived.Test.YtbbfmlhkgceabaaGreatM15
set_option linter.all false
namespace Go.Proofs.YtbbfmlhkgceabaaGreat
open Go Go.RowKit Go.Sw
set_option linter.unusedVariables false
set_option maxRecDepth 100000
set_option maxHeartbeats 8000000
set_option synthInstance.maxSize 4000
set_option synthInstance.maxHeartbeats 400000
theorem f_inU:Den Tryz.prog 13 [aU,apt] (.c (.v (.int .i64 1))):=run_den (T:=[]) (λ_ h=>by cases h) (by kernel_rfl)
end Go.Proofs.YtbbfmlhkgceabaaGreat
