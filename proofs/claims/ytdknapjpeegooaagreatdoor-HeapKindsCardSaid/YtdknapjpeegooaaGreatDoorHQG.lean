import Derived.Test.YtdknapjpeegooaaGreatDoorXShut
import Derived.Test.YtdknapjpeegooaaGreatDoorChecked
import Derived.KernelRfl
import Derived.Test.YtdknapjpeegooaaGreatDoorHQBA
import Derived.Test.YtdknapjpeegooaaGreatDoorHQBB
import Derived.Test.YtdknapjpeegooaaGreatDoorHQBC
import Derived.Test.YtdknapjpeegooaaGreatDoorHQBD
import Derived.Test.YtdknapjpeegooaaGreatDoorHQBF
import Derived.Test.YtdknapjpeegooaaGreatDoorHQBJ
import Derived.Test.YtdknapjpeegooaaGreatDoorHQT
set_option linter.unusedSectionVars false
set_option maxRecDepth 1000000
set_option maxHeartbeats 4000000
namespace Go.Proofs.YtdknapjpeegooaaGreatDoor
open Go.X
variable [Tab]

def G_0 : Sum := ⟨(.bool true), 3306, []⟩
theorem G_0_ok : SumOk Tryz.prog 5 [] G_0 := SumOk.of_run (K := (sumsHand tabT)) (n := 2000) (keep := []) mixed (sumsHand_ok tabT_ok) (by kernel_rfl) (by kernel_rfl)

def tabG : List (FuncId × SRows) := (5, [([], G_0)]) :: tabT
theorem tabG_ok : TabOk Tryz.prog tabG := (TabOk.cons (RowsOk.cons G_0_ok RowsOk.nil) tabT_ok)
end Go.Proofs.YtdknapjpeegooaaGreatDoor
