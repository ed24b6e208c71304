/-
  Rules of the abstract run, plain laws, and what functions answer, for the law TopMeetings.
  Conditions: none.
-/
import Derived.Test.YtdpkjhnfklkkjaaGreatM23
set_option linter.all false
namespace Go.Proofs.YtdpkjhnfklkkjaaGreat
open Go Go.RowKit Go.Sw Go.Proofs.Tryz
set_option maxRecDepth 100000
set_option maxHeartbeats 16000000
set_option synthInstance.maxSize 4000
set_option synthInstance.maxHeartbeats 400000
theorem ahO:Den prog 21 [aB,am1] (.c (.v (.int .i64 (-1)))):=gu (T:=[]) (λ_ h=>by cases h) ζ
theorem agR:Den prog 21 [aB,am2] (.c (.v (.int .i64 (-1)))):=gu (T:=[]) (λ_ h=>by cases h) ζ
theorem agV:Den prog 21 [aB,am0] (.c (.v (.int .i64 (-1)))):=gu (T:=[]) (λ_ h=>by cases h) ζ
theorem aiY:Den prog 21 [aB,am3] (.c (.v (.int .i64 1))):=gu (T:=[]) (λ_ h=>by cases h) ζ
theorem agM:Den prog 21 [aB,am4] (.c (.v (.int .i64 (-1)))):=gu (T:=[]) (λ_ h=>by cases h) ζ
theorem ahi:Den prog 21 [aB,am5] (.c (.v (.int .i64 1))):=gu (T:=[]) (λ_ h=>by cases h) ζ
end Go.Proofs.YtdpkjhnfklkkjaaGreat
