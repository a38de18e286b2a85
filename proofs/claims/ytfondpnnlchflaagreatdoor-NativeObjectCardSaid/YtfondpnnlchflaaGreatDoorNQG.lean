import Derived.Test.YtfondpnnlchflaaGreatDoorXShut
import Derived.Test.YtfondpnnlchflaaGreatDoorChecked
import Derived.KernelRfl
import Derived.Test.YtfondpnnlchflaaGreatDoorNQBA
import Derived.Test.YtfondpnnlchflaaGreatDoorNQBB
import Derived.Test.YtfondpnnlchflaaGreatDoorNQBC
import Derived.Test.YtfondpnnlchflaaGreatDoorNQBD
import Derived.Test.YtfondpnnlchflaaGreatDoorNQBF
import Derived.Test.YtfondpnnlchflaaGreatDoorNQBJ
import Derived.Test.YtfondpnnlchflaaGreatDoorNQT
import Derived.Test.YtfondpnnlchflaaGreatDoorNQM
import Derived.Test.YtfondpnnlchflaaGreatDoorNQN
set_option linter.unusedSectionVars false
set_option maxRecDepth 1000000
set_option maxHeartbeats 4000000
namespace Go.Proofs.YtfondpnnlchflaaGreatDoor
open Go.X
variable [Tab]

def G_0 : Sum := ⟨(.bool true), 6644, []⟩
theorem G_0_ok : SumOk Tryz.prog 4 [] G_0 := SumOk.of_run (K := (sumsHand tabN)) (n := 2000) (keep := []) mixed (sumsHand_ok tabN_ok) (by kernel_rfl) (by kernel_rfl)

def tabG : List (FuncId × SRows) := (4, [([], G_0)]) :: tabN
theorem tabG_ok : TabOk Tryz.prog tabG := (TabOk.cons (RowsOk.cons G_0_ok RowsOk.nil) tabN_ok)
end Go.Proofs.YtfondpnnlchflaaGreatDoor
