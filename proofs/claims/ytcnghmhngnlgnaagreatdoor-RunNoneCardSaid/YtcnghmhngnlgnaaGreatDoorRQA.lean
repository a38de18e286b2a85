import Derived.Test.YtcnghmhngnlgnaaGreatDoorXShut
import Derived.Test.YtcnghmhngnlgnaaGreatDoorChecked
import Derived.KernelRfl
import Derived.Test.YtcnghmhngnlgnaaGreatDoorRQBA
import Derived.Test.YtcnghmhngnlgnaaGreatDoorRQBB
import Derived.Test.YtcnghmhngnlgnaaGreatDoorRQBC
import Derived.Test.YtcnghmhngnlgnaaGreatDoorRQBD
import Derived.Test.YtcnghmhngnlgnaaGreatDoorRQBF
import Derived.Test.YtcnghmhngnlgnaaGreatDoorRQBJ
import Derived.Test.YtcnghmhngnlgnaaGreatDoorRQT
import Derived.Test.YtcnghmhngnlgnaaGreatDoorRQM
import Derived.Test.YtcnghmhngnlgnaaGreatDoorRQN
import Derived.Test.YtcnghmhngnlgnaaGreatDoorRQG
set_option linter.unusedSectionVars false
set_option maxRecDepth 1000000
set_option maxHeartbeats 4000000
namespace Go.Proofs.YtcnghmhngnlgnaaGreatDoor
open Go.X
variable [Tab]

def A_0 : Sum := ⟨(.bool true), 10201, []⟩
theorem A_0_ok : SumOk Tryz.prog 3 [] A_0 := SumOk.of_run (K := (sumsHand tabG)) (n := 2000) (keep := []) mixed (sumsHand_ok tabG_ok) (by kernel_rfl) (by kernel_rfl)

def tabA : List (FuncId × SRows) := (3, [([], A_0)]) :: tabG
theorem tabA_ok : TabOk Tryz.prog tabA := (TabOk.cons (RowsOk.cons A_0_ok RowsOk.nil) tabG_ok)
end Go.Proofs.YtcnghmhngnlgnaaGreatDoor
