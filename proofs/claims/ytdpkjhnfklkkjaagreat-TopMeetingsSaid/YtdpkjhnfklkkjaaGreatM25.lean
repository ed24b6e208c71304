/-
  Rules of the abstract run, plain laws, and what functions answer, for the law TopMeetings.
  Conditions: none.
-/
import Derived.Test.YtdpkjhnfklkkjaaGreatM24
set_option linter.all false
namespace Go.Proofs.YtdpkjhnfklkkjaaGreat
open Go Go.RowKit Go.Sw Go.Proofs.Tryz
set_option maxRecDepth 100000
set_option maxHeartbeats 16000000
set_option synthInstance.maxSize 4000
set_option synthInstance.maxHeartbeats 400000
theorem aha:Den prog 21 [aA,am7] (.c (.v (.int .i64 (-1)))):=gu (T:=[]) (λ_ h=>by cases h) ζ
theorem aiA:Den prog 21 [aA,am6] (.c (.v (.int .i64 1))):=gu (T:=[]) (λ_ h=>by cases h) ζ
theorem ag5:Den prog 21 [aA,am8] (.c (.v (.int .i64 1))):=gu (T:=[]) (λ_ h=>by cases h) ζ
theorem ahK:Den prog 21 [aA,am9] (.c (.v (.int .i64 (-1)))):=gu (T:=[]) (λ_ h=>by cases h) ζ
theorem adF:Den prog 21 [aA,aic] (.c (.v (.int .i64 (-1)))):=gu (T:=[]) (λ_ h=>by cases h) ζ
theorem afE:Den prog 21 [aA,aip] (.c (.v (.int .i64 (-1)))):=gu (T:=[]) (λ_ h=>by cases h) ζ
end Go.Proofs.YtdpkjhnfklkkjaaGreat
