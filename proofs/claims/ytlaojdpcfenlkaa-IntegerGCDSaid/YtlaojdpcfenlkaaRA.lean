/-
  What every row of this seat needs: closed facts of the program, and an integer argument opened.
  Conditions: none.
-/
import Derived.Test.YtlaojdpcfenlkaaRows
import Derived.Test.YtlaojdpcfenlkaaSwBaseL
namespace Go.Proofs.Ytlaojdpcfenlkaa
open Go Go.RowKit Go.Sw Go.ChangeShapes Go.WideShapes Go.ChangeAt
theorem Try.own : ownKnob Try.prog.godebug = none := by kernel_rfl
theorem Try.laidOut : laidOutB Try.prog = true := by kernel_rfl
theorem raw24 {H : Type} {enc : TypeId × Value → H} {w : World} {r : Reach} {b0 : Nat} {v : Value} {d : DataW H} {p : List MemPlace} (hv : Value.okWide Try.prog w r b0 24 v) (h : DataW.Trod enc Try.prog w 0 (fun _ => true) true 24 v d p) : ∃ neg l, RawV w [] v neg l :=
  raw_open Try.underlying24 (by kernel_rfl) (by kernel_rfl) Try.underlying4 Try.underlying22 Try.underlying46 (by kernel_rfl) hv h
end Go.Proofs.Ytlaojdpcfenlkaa
