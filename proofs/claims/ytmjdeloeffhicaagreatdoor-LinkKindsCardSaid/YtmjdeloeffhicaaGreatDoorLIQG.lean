import Derived.Test.YtmjdeloeffhicaaGreatDoorXShut
import Derived.Test.YtmjdeloeffhicaaGreatDoorChecked
import Derived.KernelRfl
import Derived.Test.YtmjdeloeffhicaaGreatDoorLIQBA
import Derived.Test.YtmjdeloeffhicaaGreatDoorLIQBB
import Derived.Test.YtmjdeloeffhicaaGreatDoorLIQBC
import Derived.Test.YtmjdeloeffhicaaGreatDoorLIQBD
import Derived.Test.YtmjdeloeffhicaaGreatDoorLIQBF
import Derived.Test.YtmjdeloeffhicaaGreatDoorLIQBJ
import Derived.Test.YtmjdeloeffhicaaGreatDoorLIQT
set_option linter.unusedSectionVars false
set_option maxRecDepth 1000000
set_option maxHeartbeats 4000000
namespace Go.Proofs.YtmjdeloeffhicaaGreatDoor
open Go.X
variable [Tab]

def G_0 : Sum := ⟨(.bool true), 3257, []⟩
theorem G_0_ok : SumOk Tryz.prog 8 [] G_0 := SumOk.of_run (K := (sumsHand tabT)) (n := 2000) (keep := []) mixed (sumsHand_ok tabT_ok) (by kernel_rfl) (by kernel_rfl)

def tabG : List (FuncId × SRows) := (8, [([], G_0)]) :: tabT
theorem tabG_ok : TabOk Tryz.prog tabG := (TabOk.cons (RowsOk.cons G_0_ok RowsOk.nil) tabT_ok)
end Go.Proofs.YtmjdeloeffhicaaGreatDoor
