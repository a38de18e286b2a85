/-
  What the law TableChain gives.
-/
import Derived.Test.YtnjpgmajapfjeaaGreatDoorTCV
set_option linter.unusedVariables false
namespace Go.Proofs.YtnjpgmajapfjeaaGreatDoor.tc
open Go.X Go.RowKit
theorem walk (a0 : Int) (a1 : Bool) (w : World) : Calls Tryz.prog 3 #[.int .i64 a0, .bool a1] w fun e w' => e = .returned (.bool true) ∧ Below w.heap.size w w' :=
  walk0 a0 a1 w
end Go.Proofs.YtnjpgmajapfjeaaGreatDoor.tc
