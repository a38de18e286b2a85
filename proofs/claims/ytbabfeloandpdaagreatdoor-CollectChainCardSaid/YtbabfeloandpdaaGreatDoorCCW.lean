/-
  What the law CollectChain gives.
-/
import Derived.Test.YtbabfeloandpdaaGreatDoorCCO
set_option linter.unusedVariables false
namespace Go.Proofs.YtbabfeloandpdaaGreatDoor.cc
open Go.X Go.RowKit
theorem walk (a0 a1 : Int) (a2 : Bool) (w : World) : Calls Tryz.prog 3 #[.int .i64 a0, .int .i64 a1, .bool a2] w fun e w' => e = .returned (.bool true) ∧ Below w.heap.size w w' := walkAny a0 a1 a2 w
end Go.Proofs.YtbabfeloandpdaaGreatDoor.cc
