/-
  What the law TableAbove gives.
-/
import Derived.Test.YtnjpgmajapfjeaaGreatDoorTAV
set_option linter.unusedVariables false
namespace Go.Proofs.YtnjpgmajapfjeaaGreatDoor.ta
open Go.X Go.RowKit
theorem walk (a0 a1 : Int) (w : World) : Calls Tryz.prog 4 #[.int .i64 a0, .int .i64 a1] w fun e w' => e = .returned (.bool true) ∧ Below w.heap.size w w' :=
  walk0 a0 a1 w
end Go.Proofs.YtnjpgmajapfjeaaGreatDoor.ta
