import Derived.Test.YtlmpedjbceegnaaGreatDoorXShut
import Derived.Test.YtlmpedjbceegnaaGreatDoorChecked
import Derived.KernelRfl
import Derived.Test.YtlmpedjbceegnaaGreatDoorTAQBA
import Derived.Test.YtlmpedjbceegnaaGreatDoorTAQBB
import Derived.Test.YtlmpedjbceegnaaGreatDoorTAQBC
import Derived.Test.YtlmpedjbceegnaaGreatDoorTAQBD
import Derived.Test.YtlmpedjbceegnaaGreatDoorTAQBF
import Derived.Test.YtlmpedjbceegnaaGreatDoorTAQBJ
import Derived.Test.YtlmpedjbceegnaaGreatDoorTAQT
set_option linter.unusedSectionVars false
set_option maxRecDepth 1000000
set_option maxHeartbeats 4000000
namespace Go.Proofs.YtlmpedjbceegnaaGreatDoor
open Go.X
variable [Tab]

def G_0 : Sum := ⟨(.bool true), 3261, []⟩
theorem G_0_ok : SumOk Tryz.prog 4 [] G_0 := SumOk.of_run (K := (sumsHand tabT)) (n := 2000) (keep := []) mixed (sumsHand_ok tabT_ok) (by kernel_rfl) (by kernel_rfl)

def tabG : List (FuncId × SRows) := (4, [([], G_0)]) :: tabT
theorem tabG_ok : TabOk Tryz.prog tabG := (TabOk.cons (RowsOk.cons G_0_ok RowsOk.nil) tabT_ok)
end Go.Proofs.YtlmpedjbceegnaaGreatDoor
