import Derived.Test.YtmjdeloeffhicaaGreatDoorXShut
import Derived.Test.YtmjdeloeffhicaaGreatDoorChecked
import Derived.KernelRfl
import Derived.Test.YtmjdeloeffhicaaGreatDoorLIQBA
import Derived.Test.YtmjdeloeffhicaaGreatDoorLIQBB
import Derived.Test.YtmjdeloeffhicaaGreatDoorLIQBC
import Derived.Test.YtmjdeloeffhicaaGreatDoorLIQBD
import Derived.Test.YtmjdeloeffhicaaGreatDoorLIQBF
import Derived.Test.YtmjdeloeffhicaaGreatDoorLIQBJ
import Derived.Test.YtmjdeloeffhicaaGreatDoorLIQT
import Derived.Test.YtmjdeloeffhicaaGreatDoorLIQG
set_option linter.unusedSectionVars false
set_option maxRecDepth 1000000
set_option maxHeartbeats 4000000
namespace Go.Proofs.YtmjdeloeffhicaaGreatDoor
open Go.X
variable [Tab]

def M0_0 : Sum := ⟨(.tup [(.so 2 0 1 1), (.bool true)]), 3, [(2, (.cells 1 true [] (.node .leaf (.some (.int .u16 102)) .leaf)))]⟩
theorem M0_0_ok : SumOk Tryz.prog 100 [(.str 1 102)] M0_0 := SumOk.of_run (K := (sumsHand tabG)) (n := 2000) (keep := [2]) mixed (sumsHand_ok tabG_ok) (by kernel_rfl) (by kernel_rfl)

def M0_1 : Sum := ⟨(.tup [(.so 2 0 1 1), (.bool true)]), 3, [(2, (.cells 1 true [] (.node .leaf (.some (.int .u16 105)) .leaf)))]⟩
theorem M0_1_ok : SumOk Tryz.prog 100 [(.str 1 105)] M0_1 := SumOk.of_run (K := (sumsHand tabG)) (n := 2000) (keep := [2]) mixed (sumsHand_ok tabG_ok) (by kernel_rfl) (by kernel_rfl)

def M0_2 : Sum := ⟨(.tup [(.so 2 0 1 1), (.bool true)]), 3, [(2, (.cells 1 true [] (.node .leaf (.some (.int .u16 112)) .leaf)))]⟩
theorem M0_2_ok : SumOk Tryz.prog 100 [(.str 1 112)] M0_2 := SumOk.of_run (K := (sumsHand tabG)) (n := 2000) (keep := [2]) mixed (sumsHand_ok tabG_ok) (by kernel_rfl) (by kernel_rfl)

def M0_3 : Sum := ⟨(.tup [(.so 2 0 1 1), (.bool true)]), 3, [(2, (.cells 1 true [] (.node .leaf (.some (.int .u16 113)) .leaf)))]⟩
theorem M0_3_ok : SumOk Tryz.prog 100 [(.str 1 113)] M0_3 := SumOk.of_run (K := (sumsHand tabG)) (n := 2000) (keep := [2]) mixed (sumsHand_ok tabG_ok) (by kernel_rfl) (by kernel_rfl)

def M0_4 : Sum := ⟨(.tup [(.so 2 0 1 1), (.bool true)]), 3, [(2, (.cells 1 true [] (.node .leaf (.some (.int .u16 114)) .leaf)))]⟩
theorem M0_4_ok : SumOk Tryz.prog 100 [(.str 1 114)] M0_4 := SumOk.of_run (K := (sumsHand tabG)) (n := 2000) (keep := [2]) mixed (sumsHand_ok tabG_ok) (by kernel_rfl) (by kernel_rfl)

def M0_5 : Sum := ⟨(.tup [(.so 2 0 1 1), (.bool true)]), 3, [(2, (.cells 1 true [] (.node .leaf (.some (.int .u16 115)) .leaf)))]⟩
theorem M0_5_ok : SumOk Tryz.prog 100 [(.str 1 115)] M0_5 := SumOk.of_run (K := (sumsHand tabG)) (n := 2000) (keep := [2]) mixed (sumsHand_ok tabG_ok) (by kernel_rfl) (by kernel_rfl)

def M0_6 : Sum := ⟨(.tup [(.so 2 0 1 1), (.bool true)]), 3, [(2, (.cells 1 true [] (.node .leaf (.some (.int .u16 117)) .leaf)))]⟩
theorem M0_6_ok : SumOk Tryz.prog 100 [(.str 1 117)] M0_6 := SumOk.of_run (K := (sumsHand tabG)) (n := 2000) (keep := [2]) mixed (sumsHand_ok tabG_ok) (by kernel_rfl) (by kernel_rfl)

def M0_7 : Sum := ⟨(.tup [(.so 2 0 1 1), (.bool true)]), 3, [(2, (.cells 1 true [] (.node .leaf (.some (.int .u16 118)) .leaf)))]⟩
theorem M0_7_ok : SumOk Tryz.prog 100 [(.str 1 118)] M0_7 := SumOk.of_run (K := (sumsHand tabG)) (n := 2000) (keep := [2]) mixed (sumsHand_ok tabG_ok) (by kernel_rfl) (by kernel_rfl)

def M0_8 : Sum := ⟨(.tup [(.so 2 0 1 1), (.bool true)]), 3, [(2, (.cells 1 true [] (.node .leaf (.some (.int .u16 99)) .leaf)))]⟩
theorem M0_8_ok : SumOk Tryz.prog 100 [(.str 1 99)] M0_8 := SumOk.of_run (K := (sumsHand tabG)) (n := 2000) (keep := [2]) mixed (sumsHand_ok tabG_ok) (by kernel_rfl) (by kernel_rfl)

def M0_9 : Sum := ⟨(.tup [(.agg [(.int .u8 0), (.str 0 0), (.int .i64 0), (.int .u8 0)]), (.int .i64 0)]), 2, []⟩
theorem M0_9_ok : SumOk Tryz.prog 109 [(.str 1 102)] M0_9 := SumOk.of_run (K := (sumsHand tabG)) (n := 2000) (keep := []) mixed (sumsHand_ok tabG_ok) (by kernel_rfl) (by kernel_rfl)

def M0_10 : Sum := ⟨(.tup [(.agg [(.int .u8 0), (.str 0 0), (.int .i64 0), (.int .u8 0)]), (.int .i64 0)]), 2, []⟩
theorem M0_10_ok : SumOk Tryz.prog 109 [(.str 1 105)] M0_10 := SumOk.of_run (K := (sumsHand tabG)) (n := 2000) (keep := []) mixed (sumsHand_ok tabG_ok) (by kernel_rfl) (by kernel_rfl)

def M0_11 : Sum := ⟨(.tup [(.agg [(.int .u8 0), (.str 0 0), (.int .i64 0), (.int .u8 0)]), (.int .i64 0)]), 2, []⟩
theorem M0_11_ok : SumOk Tryz.prog 109 [(.str 1 99)] M0_11 := SumOk.of_run (K := (sumsHand tabG)) (n := 2000) (keep := []) mixed (sumsHand_ok tabG_ok) (by kernel_rfl) (by kernel_rfl)

def M0_12 : Sum := ⟨(.tup [(.agg [(.int .u8 0), (.str 0 0), (.int .i64 0), (.int .u8 0)]), (.int .i64 0)]), 2, []⟩
theorem M0_12_ok : SumOk Tryz.prog 109 [(.str 16 154706541852025644484233205990057992554)] M0_12 := SumOk.of_run (K := (sumsHand tabG)) (n := 2000) (keep := []) mixed (sumsHand_ok tabG_ok) (by kernel_rfl) (by kernel_rfl)

def tabM0 : List (FuncId × SRows) := (109, [([(.str 1 102)], M0_9), ([(.str 1 105)], M0_10), ([(.str 1 99)], M0_11), ([(.str 16 154706541852025644484233205990057992554)], M0_12)]) :: (100, [([(.str 1 102)], M0_0), ([(.str 1 105)], M0_1), ([(.str 1 112)], M0_2), ([(.str 1 113)], M0_3), ([(.str 1 114)], M0_4), ([(.str 1 115)], M0_5), ([(.str 1 117)], M0_6), ([(.str 1 118)], M0_7), ([(.str 1 99)], M0_8)]) :: tabG
theorem tabM0_ok : TabOk Tryz.prog tabM0 := (TabOk.cons (RowsOk.cons M0_9_ok (RowsOk.cons M0_10_ok (RowsOk.cons M0_11_ok (RowsOk.cons M0_12_ok RowsOk.nil)))) (TabOk.cons (RowsOk.cons M0_0_ok (RowsOk.cons M0_1_ok (RowsOk.cons M0_2_ok (RowsOk.cons M0_3_ok (RowsOk.cons M0_4_ok (RowsOk.cons M0_5_ok (RowsOk.cons M0_6_ok (RowsOk.cons M0_7_ok (RowsOk.cons M0_8_ok RowsOk.nil))))))))) tabG_ok))
end Go.Proofs.YtmjdeloeffhicaaGreatDoor
