import Derived.Test.YtcnghmhngnlgnaaGreatDoorXShut
import Derived.Test.YtcnghmhngnlgnaaGreatDoorChecked
import Derived.KernelRfl
import Derived.Test.YtcnghmhngnlgnaaGreatDoorRQBA
import Derived.Test.YtcnghmhngnlgnaaGreatDoorRQBB
import Derived.Test.YtcnghmhngnlgnaaGreatDoorRQBC
import Derived.Test.YtcnghmhngnlgnaaGreatDoorRQBD
import Derived.Test.YtcnghmhngnlgnaaGreatDoorRQBF
import Derived.Test.YtcnghmhngnlgnaaGreatDoorRQBJ
import Derived.Test.YtcnghmhngnlgnaaGreatDoorRQT
import Derived.Test.YtcnghmhngnlgnaaGreatDoorRQM
import Derived.Test.YtcnghmhngnlgnaaGreatDoorRQN
set_option linter.unusedSectionVars false
set_option maxRecDepth 1000000
set_option maxHeartbeats 4000000
namespace Go.Proofs.YtcnghmhngnlgnaaGreatDoor
open Go.X
variable [Tab]

def G_0 : Sum := ⟨(.bool true), 6833, []⟩
theorem G_0_ok : SumOk Tryz.prog 6 [] G_0 := SumOk.of_run (K := (sumsHand tabN)) (n := 2000) (keep := []) mixed (sumsHand_ok tabN_ok) (by kernel_rfl) (by kernel_rfl)

def tabG : List (FuncId × SRows) := (6, [([], G_0)]) :: tabN
theorem tabG_ok : TabOk Tryz.prog tabG := (TabOk.cons (RowsOk.cons G_0_ok RowsOk.nil) tabN_ok)
end Go.Proofs.YtcnghmhngnlgnaaGreatDoor
