import Derived.Test.YtmjdeloeffhicaaGreatDoorXShut
import Derived.Test.YtmjdeloeffhicaaGreatDoorChecked
import Derived.KernelRfl
import Derived.Test.YtmjdeloeffhicaaGreatDoorLIQBA
import Derived.Test.YtmjdeloeffhicaaGreatDoorLIQBB
import Derived.Test.YtmjdeloeffhicaaGreatDoorLIQBC
import Derived.Test.YtmjdeloeffhicaaGreatDoorLIQBD
import Derived.Test.YtmjdeloeffhicaaGreatDoorLIQBF
import Derived.Test.YtmjdeloeffhicaaGreatDoorLIQBJ
import Derived.Test.YtmjdeloeffhicaaGreatDoorLIQT
import Derived.Test.YtmjdeloeffhicaaGreatDoorLIQG
import Derived.Test.YtmjdeloeffhicaaGreatDoorLIQM0
import Derived.Test.YtmjdeloeffhicaaGreatDoorLIQM1
import Derived.Test.YtmjdeloeffhicaaGreatDoorLIQM2
set_option linter.unusedSectionVars false
set_option maxRecDepth 1000000
set_option maxHeartbeats 4000000
namespace Go.Proofs.YtmjdeloeffhicaaGreatDoor
open Go.X
variable [Tab]

def A_0 : Sum := ⟨(.bool true), 7828, []⟩
theorem A_0_ok : SumOk Tryz.prog 3 [] A_0 := SumOk.of_run (K := (sumsHand tabM2)) (n := 2000) (keep := []) mixed (sumsHand_ok tabM2_ok) (by kernel_rfl) (by kernel_rfl)

def tabA : List (FuncId × SRows) := (3, [([], A_0)]) :: tabM2
theorem tabA_ok : TabOk Tryz.prog tabA := (TabOk.cons (RowsOk.cons A_0_ok RowsOk.nil) tabM2_ok)
end Go.Proofs.YtmjdeloeffhicaaGreatDoor
