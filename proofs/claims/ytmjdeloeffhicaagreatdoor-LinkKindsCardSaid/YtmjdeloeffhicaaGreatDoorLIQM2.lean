import Derived.Test.YtmjdeloeffhicaaGreatDoorXShut
import Derived.Test.YtmjdeloeffhicaaGreatDoorChecked
import Derived.KernelRfl
import Derived.Test.YtmjdeloeffhicaaGreatDoorLIQBA
import Derived.Test.YtmjdeloeffhicaaGreatDoorLIQBB
import Derived.Test.YtmjdeloeffhicaaGreatDoorLIQBC
import Derived.Test.YtmjdeloeffhicaaGreatDoorLIQBD
import Derived.Test.YtmjdeloeffhicaaGreatDoorLIQBF
import Derived.Test.YtmjdeloeffhicaaGreatDoorLIQBJ
import Derived.Test.YtmjdeloeffhicaaGreatDoorLIQT
import Derived.Test.YtmjdeloeffhicaaGreatDoorLIQG
import Derived.Test.YtmjdeloeffhicaaGreatDoorLIQM0
import Derived.Test.YtmjdeloeffhicaaGreatDoorLIQM1
set_option linter.unusedSectionVars false
set_option maxRecDepth 1000000
set_option maxHeartbeats 4000000
namespace Go.Proofs.YtmjdeloeffhicaaGreatDoor
open Go.X
variable [Tab]

def M2_0 : Sum := ⟨(.tup [(.so 32 0 16 1), (.bool true)]), 33, [(32, (.cells 16 true [] (.node (.node (.node (.node (.node .leaf (.some (.int .u16 116)) .leaf) (.some (.int .u16 110)) .leaf) (.some (.int .u16 97)) (.node .leaf (.some (.int .u16 98)) .leaf)) (.some (.int .u16 97)) (.node (.node .leaf (.some (.int .u16 47)) .leaf) (.some (.int .u16 108)) (.node .leaf (.some (.int .u16 101)) .leaf))) (.some (.int .u16 106)) (.node (.node (.node .leaf (.some (.int .u16 103)) .leaf) (.some (.int .u16 47)) (.node .leaf (.some (.int .u16 106)) .leaf)) (.some (.int .u16 118)) (.node (.node .leaf (.some (.int .u16 79)) .leaf) (.some (.int .u16 97)) (.node .leaf (.some (.int .u16 99)) .leaf))))))]⟩
theorem M2_0_ok : SumOk Tryz.prog 100 [(.str 16 154706541852025644484233205990057992554)] M2_0 := SumOk.of_run (K := (sumsHand tabM1)) (n := 2000) (keep := [32]) mixed (sumsHand_ok tabM1_ok) (by kernel_rfl) (by kernel_rfl)

def M2_1 : Sum := ⟨(.bool true), 35, []⟩
theorem M2_1_ok : SumOk Tryz.prog 103 [(.str 16 154706541852025644484233205990057992554)] M2_1 := SumOk.of_run (K := (sumsHand tabM1)) (n := 2000) (keep := []) mixed (sumsHand_ok tabM1_ok) (by kernel_rfl) (by kernel_rfl)

def tabM2 : List (FuncId × SRows) := (103, [([(.str 16 154706541852025644484233205990057992554)], M2_1)]) :: (100, [([(.str 16 154706541852025644484233205990057992554)], M2_0)]) :: tabM1
theorem tabM2_ok : TabOk Tryz.prog tabM2 := (TabOk.cons (RowsOk.cons M2_1_ok RowsOk.nil) (TabOk.cons (RowsOk.cons M2_0_ok RowsOk.nil) tabM1_ok))
end Go.Proofs.YtmjdeloeffhicaaGreatDoor
