import Derived.Test.YtlfinnicdpiaaaaGreatDoorXShut
import Derived.Test.YtlfinnicdpiaaaaGreatDoorChecked
import Derived.KernelRfl
import Derived.Test.YtlfinnicdpiaaaaGreatDoorCQF
import Derived.Test.YtlfinnicdpiaaaaGreatDoorCQS
set_option linter.unusedSectionVars false
set_option maxRecDepth 1000000
set_option maxHeartbeats 4000000
namespace Go.Proofs.YtlfinnicdpiaaaaGreatDoor
open Go.X
variable [Tab]

def G_0 : Sum := ⟨(.bool true), 86, []⟩
theorem G_0_ok : SumOk Tryz.prog 5 [] G_0 := SumOk.of_run (K := (sumsHand tabS)) (n := 2000) (keep := []) mixed (sumsHand_ok tabS_ok) (by kernel_rfl) (by kernel_rfl)

def tabG : List (FuncId × SRows) := (5, [([], G_0)]) :: tabS
theorem tabG_ok : TabOk Tryz.prog tabG := (TabOk.cons (RowsOk.cons G_0_ok RowsOk.nil) tabS_ok)
end Go.Proofs.YtlfinnicdpiaaaaGreatDoor
