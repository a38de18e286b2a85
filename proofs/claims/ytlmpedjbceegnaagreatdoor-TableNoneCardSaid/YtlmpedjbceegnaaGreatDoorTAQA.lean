import Derived.Test.YtlmpedjbceegnaaGreatDoorXShut
import Derived.Test.YtlmpedjbceegnaaGreatDoorChecked
import Derived.KernelRfl
import Derived.Test.YtlmpedjbceegnaaGreatDoorTAQBA
import Derived.Test.YtlmpedjbceegnaaGreatDoorTAQBB
import Derived.Test.YtlmpedjbceegnaaGreatDoorTAQBC
import Derived.Test.YtlmpedjbceegnaaGreatDoorTAQBD
import Derived.Test.YtlmpedjbceegnaaGreatDoorTAQBF
import Derived.Test.YtlmpedjbceegnaaGreatDoorTAQBJ
import Derived.Test.YtlmpedjbceegnaaGreatDoorTAQT
import Derived.Test.YtlmpedjbceegnaaGreatDoorTAQG
set_option linter.unusedSectionVars false
set_option maxRecDepth 1000000
set_option maxHeartbeats 4000000
namespace Go.Proofs.YtlmpedjbceegnaaGreatDoor
open Go.X
variable [Tab]

def A_0 : Sum := ⟨(.bool true), 3261, []⟩
theorem A_0_ok : SumOk Tryz.prog 3 [] A_0 := SumOk.of_run (K := (sumsHand tabG)) (n := 2000) (keep := []) mixed (sumsHand_ok tabG_ok) (by kernel_rfl) (by kernel_rfl)

def tabA : List (FuncId × SRows) := (3, [([], A_0)]) :: tabG
theorem tabA_ok : TabOk Tryz.prog tabA := (TabOk.cons (RowsOk.cons A_0_ok RowsOk.nil) tabG_ok)
end Go.Proofs.YtlmpedjbceegnaaGreatDoor
