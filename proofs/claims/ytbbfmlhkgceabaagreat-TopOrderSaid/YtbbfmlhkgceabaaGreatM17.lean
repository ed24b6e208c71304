/-
  What the functions answer, each out of its text by the abstract run.
  Conditions: none.
-/
import Derived.Test.YtbbfmlhkgceabaaGreatM15
set_option linter.all false
namespace Go.Proofs.YtbbfmlhkgceabaaGreat
open Go Go.RowKit Go.Sw
set_option linter.unusedVariables false
set_option maxRecDepth 100000
set_option maxHeartbeats 8000000
set_option synthInstance.maxSize 4000
set_option synthInstance.maxHeartbeats 400000
theorem f_pcB:Den Tryz.prog 112 [aLB] rpcB:=run_den (T:=[]) (λ_ h=>by cases h) (by kernel_rfl)
theorem f_fiB:Den Tryz.prog 63 [aLB] rfiB:=run_den (T:=[(112,[aLB],rpcB)]) (by intro x hx;simp only [List.mem_cons,List.not_mem_nil,or_false] at hx;rcases hx with rfl<;>first|exact f_pcB) (by kernel_rfl)
theorem f_sqB:Den Tryz.prog 10 [.int .i64 1,.int .i64 1,.int .i64 2] rsqB:=run_den (T:=[(63,[aLB],rfiB)]) (by intro x hx;simp only [List.mem_cons,List.not_mem_nil,or_false] at hx;rcases hx with rfl<;>first|exact f_fiB) (by kernel_rfl)
end Go.Proofs.YtbbfmlhkgceabaaGreat
