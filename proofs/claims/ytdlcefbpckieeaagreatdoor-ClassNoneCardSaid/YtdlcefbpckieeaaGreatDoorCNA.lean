import Derived.Test.YtdlcefbpckieeaaGreatDoorXShut
import Derived.Test.YtdlcefbpckieeaaGreatDoorChecked
import Derived.KernelRfl
set_option linter.unusedSectionVars false
set_option maxRecDepth 1000000
set_option maxHeartbeats 4000000
namespace Go.Proofs.YtdlcefbpckieeaaGreatDoor
open Go.X
variable [Tab]

theorem mixed : Tryz.prog.follows .mixedOrders = true := by kernel_rfl

def A_0 : Sum := ⟨(.bool true), 90, []⟩
theorem A_0_ok : SumOk Tryz.prog 3 [] A_0 := SumOk.of_run (K := Hand.none) (n := 2000) (keep := []) mixed HandOk.none (by kernel_rfl) (by kernel_rfl)

def tabA : List (FuncId × SRows) := (3, [([], A_0)]) :: []
theorem tabA_ok : TabOk Tryz.prog tabA := (TabOk.cons (RowsOk.cons A_0_ok RowsOk.nil) TabOk.nil)
end Go.Proofs.YtdlcefbpckieeaaGreatDoor
