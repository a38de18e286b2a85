/-
  What the law ClassFlags gives.
-/
import Derived.Test.YtlfinnicdpiaaaaGreatDoorCFV
set_option linter.unusedVariables false
namespace Go.Proofs.YtlfinnicdpiaaaaGreatDoor.cf
open Go.X Go.RowKit
theorem walk (a0 a1 a2 a3 : Int) (w : World) : Calls Tryz.prog 3 #[.int .i64 a0, .int .i64 a1, .int .i64 a2, .int .i64 a3] w fun e w' => e = .returned (.bool true) ∧ Below w.heap.size w w' :=
  walk0 a0 a1 a2 a3 w
end Go.Proofs.YtlfinnicdpiaaaaGreatDoor.cf
