import Derived.Test.YtmjdeloeffhicaaGreatDoorXShut
import Derived.Test.YtmjdeloeffhicaaGreatDoorChecked
import Derived.KernelRfl
import Derived.Test.YtmjdeloeffhicaaGreatDoorLIQBA
import Derived.Test.YtmjdeloeffhicaaGreatDoorLIQBB
import Derived.Test.YtmjdeloeffhicaaGreatDoorLIQBC
import Derived.Test.YtmjdeloeffhicaaGreatDoorLIQBD
import Derived.Test.YtmjdeloeffhicaaGreatDoorLIQBF
import Derived.Test.YtmjdeloeffhicaaGreatDoorLIQBJ
import Derived.Test.YtmjdeloeffhicaaGreatDoorLIQT
import Derived.Test.YtmjdeloeffhicaaGreatDoorLIQG
import Derived.Test.YtmjdeloeffhicaaGreatDoorLIQM0
set_option linter.unusedSectionVars false
set_option maxRecDepth 1000000
set_option maxHeartbeats 4000000
namespace Go.Proofs.YtmjdeloeffhicaaGreatDoor
open Go.X
variable [Tab]

def M1_0 : Sum := ⟨(.tup [(.agg [(.int .u8 0), (.str 0 0), (.int .i64 0), (.int .u8 0)]), (.bool false)]), 4, []⟩
theorem M1_0_ok : SumOk Tryz.prog 68 [(.str 1 102)] M1_0 := SumOk.of_run (K := (sumsHand tabM0)) (n := 2000) (keep := []) mixed (sumsHand_ok tabM0_ok) (by kernel_rfl) (by kernel_rfl)

def M1_1 : Sum := ⟨(.tup [(.agg [(.int .u8 0), (.str 0 0), (.int .i64 0), (.int .u8 0)]), (.bool false)]), 4, []⟩
theorem M1_1_ok : SumOk Tryz.prog 68 [(.str 1 105)] M1_1 := SumOk.of_run (K := (sumsHand tabM0)) (n := 2000) (keep := []) mixed (sumsHand_ok tabM0_ok) (by kernel_rfl) (by kernel_rfl)

def M1_2 : Sum := ⟨(.tup [(.agg [(.int .u8 0), (.str 0 0), (.int .i64 0), (.int .u8 0)]), (.bool false)]), 4, []⟩
theorem M1_2_ok : SumOk Tryz.prog 68 [(.str 1 112)] M1_2 := SumOk.of_run (K := (sumsHand tabM0)) (n := 2000) (keep := []) mixed (sumsHand_ok tabM0_ok) (by kernel_rfl) (by kernel_rfl)

def M1_3 : Sum := ⟨(.tup [(.agg [(.int .u8 0), (.str 0 0), (.int .i64 0), (.int .u8 0)]), (.bool false)]), 4, []⟩
theorem M1_3_ok : SumOk Tryz.prog 68 [(.str 1 113)] M1_3 := SumOk.of_run (K := (sumsHand tabM0)) (n := 2000) (keep := []) mixed (sumsHand_ok tabM0_ok) (by kernel_rfl) (by kernel_rfl)

def M1_4 : Sum := ⟨(.tup [(.agg [(.int .u8 0), (.str 0 0), (.int .i64 0), (.int .u8 0)]), (.bool false)]), 4, []⟩
theorem M1_4_ok : SumOk Tryz.prog 68 [(.str 1 114)] M1_4 := SumOk.of_run (K := (sumsHand tabM0)) (n := 2000) (keep := []) mixed (sumsHand_ok tabM0_ok) (by kernel_rfl) (by kernel_rfl)

def M1_5 : Sum := ⟨(.tup [(.agg [(.int .u8 0), (.str 0 0), (.int .i64 0), (.int .u8 0)]), (.bool false)]), 4, []⟩
theorem M1_5_ok : SumOk Tryz.prog 68 [(.str 1 115)] M1_5 := SumOk.of_run (K := (sumsHand tabM0)) (n := 2000) (keep := []) mixed (sumsHand_ok tabM0_ok) (by kernel_rfl) (by kernel_rfl)

def M1_6 : Sum := ⟨(.tup [(.agg [(.int .u8 0), (.str 0 0), (.int .i64 0), (.int .u8 0)]), (.bool false)]), 4, []⟩
theorem M1_6_ok : SumOk Tryz.prog 68 [(.str 1 117)] M1_6 := SumOk.of_run (K := (sumsHand tabM0)) (n := 2000) (keep := []) mixed (sumsHand_ok tabM0_ok) (by kernel_rfl) (by kernel_rfl)

def M1_7 : Sum := ⟨(.tup [(.agg [(.int .u8 0), (.str 0 0), (.int .i64 0), (.int .u8 0)]), (.bool false)]), 4, []⟩
theorem M1_7_ok : SumOk Tryz.prog 68 [(.str 1 118)] M1_7 := SumOk.of_run (K := (sumsHand tabM0)) (n := 2000) (keep := []) mixed (sumsHand_ok tabM0_ok) (by kernel_rfl) (by kernel_rfl)

def M1_8 : Sum := ⟨(.tup [(.agg [(.int .u8 0), (.str 0 0), (.int .i64 0), (.int .u8 0)]), (.bool false)]), 4, []⟩
theorem M1_8_ok : SumOk Tryz.prog 68 [(.str 1 99)] M1_8 := SumOk.of_run (K := (sumsHand tabM0)) (n := 2000) (keep := []) mixed (sumsHand_ok tabM0_ok) (by kernel_rfl) (by kernel_rfl)

def M1_9 : Sum := ⟨(.tup [(.agg [(.int .u8 0), (.str 0 0), (.int .i64 0), (.int .u8 0)]), (.bool false)]), 4, []⟩
theorem M1_9_ok : SumOk Tryz.prog 68 [(.str 16 154706541852025644484233205990057992554)] M1_9 := SumOk.of_run (K := (sumsHand tabM0)) (n := 2000) (keep := []) mixed (sumsHand_ok tabM0_ok) (by kernel_rfl) (by kernel_rfl)

def M1_10 : Sum := ⟨(.tup [(.agg [(.int .u8 0), (.str 0 0), (.int .i64 0), (.int .u8 0)]), (.bool false)]), 6, []⟩
theorem M1_10_ok : SumOk Tryz.prog 102 [(.str 1 102)] M1_10 := SumOk.of_run (K := (sumsHand tabM0)) (n := 2000) (keep := []) mixed (sumsHand_ok tabM0_ok) (by kernel_rfl) (by kernel_rfl)

def M1_11 : Sum := ⟨(.tup [(.agg [(.int .u8 0), (.str 0 0), (.int .i64 0), (.int .u8 0)]), (.bool false)]), 6, []⟩
theorem M1_11_ok : SumOk Tryz.prog 102 [(.str 1 105)] M1_11 := SumOk.of_run (K := (sumsHand tabM0)) (n := 2000) (keep := []) mixed (sumsHand_ok tabM0_ok) (by kernel_rfl) (by kernel_rfl)

def M1_12 : Sum := ⟨(.tup [(.agg [(.int .u8 0), (.str 0 0), (.int .i64 0), (.int .u8 0)]), (.bool false)]), 6, []⟩
theorem M1_12_ok : SumOk Tryz.prog 102 [(.str 1 112)] M1_12 := SumOk.of_run (K := (sumsHand tabM0)) (n := 2000) (keep := []) mixed (sumsHand_ok tabM0_ok) (by kernel_rfl) (by kernel_rfl)

def M1_13 : Sum := ⟨(.tup [(.agg [(.int .u8 0), (.str 0 0), (.int .i64 0), (.int .u8 0)]), (.bool false)]), 6, []⟩
theorem M1_13_ok : SumOk Tryz.prog 102 [(.str 1 113)] M1_13 := SumOk.of_run (K := (sumsHand tabM0)) (n := 2000) (keep := []) mixed (sumsHand_ok tabM0_ok) (by kernel_rfl) (by kernel_rfl)

def M1_14 : Sum := ⟨(.tup [(.agg [(.int .u8 0), (.str 0 0), (.int .i64 0), (.int .u8 0)]), (.bool false)]), 6, []⟩
theorem M1_14_ok : SumOk Tryz.prog 102 [(.str 1 114)] M1_14 := SumOk.of_run (K := (sumsHand tabM0)) (n := 2000) (keep := []) mixed (sumsHand_ok tabM0_ok) (by kernel_rfl) (by kernel_rfl)

def M1_15 : Sum := ⟨(.tup [(.agg [(.int .u8 0), (.str 0 0), (.int .i64 0), (.int .u8 0)]), (.bool false)]), 6, []⟩
theorem M1_15_ok : SumOk Tryz.prog 102 [(.str 1 115)] M1_15 := SumOk.of_run (K := (sumsHand tabM0)) (n := 2000) (keep := []) mixed (sumsHand_ok tabM0_ok) (by kernel_rfl) (by kernel_rfl)

def M1_16 : Sum := ⟨(.tup [(.agg [(.int .u8 0), (.str 0 0), (.int .i64 0), (.int .u8 0)]), (.bool false)]), 6, []⟩
theorem M1_16_ok : SumOk Tryz.prog 102 [(.str 1 117)] M1_16 := SumOk.of_run (K := (sumsHand tabM0)) (n := 2000) (keep := []) mixed (sumsHand_ok tabM0_ok) (by kernel_rfl) (by kernel_rfl)

def M1_17 : Sum := ⟨(.tup [(.agg [(.int .u8 0), (.str 0 0), (.int .i64 0), (.int .u8 0)]), (.bool false)]), 6, []⟩
theorem M1_17_ok : SumOk Tryz.prog 102 [(.str 1 118)] M1_17 := SumOk.of_run (K := (sumsHand tabM0)) (n := 2000) (keep := []) mixed (sumsHand_ok tabM0_ok) (by kernel_rfl) (by kernel_rfl)

def M1_18 : Sum := ⟨(.tup [(.agg [(.int .u8 0), (.str 0 0), (.int .i64 0), (.int .u8 0)]), (.bool false)]), 6, []⟩
theorem M1_18_ok : SumOk Tryz.prog 102 [(.str 1 99)] M1_18 := SumOk.of_run (K := (sumsHand tabM0)) (n := 2000) (keep := []) mixed (sumsHand_ok tabM0_ok) (by kernel_rfl) (by kernel_rfl)

def M1_19 : Sum := ⟨(.tup [(.agg [(.int .u8 0), (.str 0 0), (.int .i64 0), (.int .u8 0)]), (.bool false)]), 6, []⟩
theorem M1_19_ok : SumOk Tryz.prog 102 [(.str 16 154706541852025644484233205990057992554)] M1_19 := SumOk.of_run (K := (sumsHand tabM0)) (n := 2000) (keep := []) mixed (sumsHand_ok tabM0_ok) (by kernel_rfl) (by kernel_rfl)

def M1_20 : Sum := ⟨(.so 15 0 53 1), 16, [(15, (.cells 53 true [] (.node (.node (.node (.node (.node (.node .leaf (.some (.int .u8 98)) .leaf) (.some (.int .u8 0)) (.node .leaf (.some (.int .u8 0)) .leaf)) (.some (.int .u8 52)) (.node (.node .leaf (.some (.int .u8 0)) .leaf) (.some (.int .u8 97)) .leaf)) (.some (.int .u8 190)) (.node (.node (.node .leaf (.some (.int .u8 116)) .leaf) (.some (.int .u8 16)) (.node .leaf (.some (.int .u8 0)) .leaf)) (.some (.int .u8 0)) (.node (.node .leaf (.some (.int .u8 0)) .leaf) (.some (.int .u8 110)) .leaf))) (.some (.int .u8 254)) (.node (.node (.node (.node .leaf (.some (.int .u8 101)) .leaf) (.some (.int .u8 1)) (.node .leaf (.some (.int .u8 0)) .leaf)) (.some (.int .u8 5)) (.node (.node .leaf (.some (.int .u8 0)) .leaf) (.some (.int .u8 108)) .leaf)) (.some (.int .u8 0)) (.node (.node (.node .leaf (.some (.int .u8 0)) .leaf) (.some (.int .u8 97)) .leaf) (.some (.int .u8 102)) (.node (.node .leaf (.some (.int .u8 0)) .leaf) (.some (.int .u8 47)) .leaf)))) (.some (.int .u8 202)) (.node (.node (.node (.node (.node .leaf (.some (.int .u8 106)) .leaf) (.some (.int .u8 1)) (.node .leaf (.some (.int .u8 0)) .leaf)) (.some (.int .u8 0)) (.node (.node .leaf (.some (.int .u8 49)) .leaf) (.some (.int .u8 47)) .leaf)) (.some (.int .u8 0)) (.node (.node (.node .leaf (.some (.int .u8 7)) .leaf) (.some (.int .u8 106)) (.node .leaf (.some (.int .u8 0)) .leaf)) (.some (.int .u8 1)) (.node (.node .leaf (.some (.int .u8 4)) .leaf) (.some (.int .u8 103)) .leaf))) (.some (.int .u8 186)) (.node (.node (.node (.node .leaf (.some (.int .u8 99)) .leaf) (.some (.int .u8 0)) (.node .leaf (.some (.int .u8 0)) .leaf)) (.some (.int .u8 1)) (.node (.node .leaf (.some (.int .u8 2)) .leaf) (.some (.int .u8 97)) .leaf)) (.some (.int .u8 0)) (.node (.node (.node .leaf (.some (.int .u8 3)) .leaf) (.some (.int .u8 118)) .leaf) (.some (.int .u8 7)) (.node (.node .leaf (.some (.int .u8 0)) .leaf) (.some (.int .u8 79)) .leaf)))))))]⟩
theorem M1_20_ok : SumOk Tryz.prog 6 [(.str 1 102), (.str 16 154706541852025644484233205990057992554), (.int .i64 49), .nils] M1_20 := SumOk.of_run (K := (sumsHand tabM0)) (n := 2000) (keep := [15]) mixed (sumsHand_ok tabM0_ok) (by kernel_rfl) (by kernel_rfl)

def M1_21 : Sum := ⟨(.so 15 0 53 1), 16, [(15, (.cells 53 true [] (.node (.node (.node (.node (.node (.node .leaf (.some (.int .u8 98)) .leaf) (.some (.int .u8 0)) (.node .leaf (.some (.int .u8 0)) .leaf)) (.some (.int .u8 52)) (.node (.node .leaf (.some (.int .u8 6)) .leaf) (.some (.int .u8 97)) .leaf)) (.some (.int .u8 190)) (.node (.node (.node .leaf (.some (.int .u8 116)) .leaf) (.some (.int .u8 16)) (.node .leaf (.some (.int .u8 0)) .leaf)) (.some (.int .u8 0)) (.node (.node .leaf (.some (.int .u8 0)) .leaf) (.some (.int .u8 110)) .leaf))) (.some (.int .u8 254)) (.node (.node (.node (.node .leaf (.some (.int .u8 101)) .leaf) (.some (.int .u8 1)) (.node .leaf (.some (.int .u8 0)) .leaf)) (.some (.int .u8 5)) (.node (.node .leaf (.some (.int .u8 0)) .leaf) (.some (.int .u8 108)) .leaf)) (.some (.int .u8 0)) (.node (.node (.node .leaf (.some (.int .u8 0)) .leaf) (.some (.int .u8 97)) .leaf) (.some (.int .u8 105)) (.node (.node .leaf (.some (.int .u8 0)) .leaf) (.some (.int .u8 47)) .leaf)))) (.some (.int .u8 202)) (.node (.node (.node (.node (.node .leaf (.some (.int .u8 106)) .leaf) (.some (.int .u8 1)) (.node .leaf (.some (.int .u8 0)) .leaf)) (.some (.int .u8 0)) (.node (.node .leaf (.some (.int .u8 1)) .leaf) (.some (.int .u8 47)) .leaf)) (.some (.int .u8 0)) (.node (.node (.node .leaf (.some (.int .u8 7)) .leaf) (.some (.int .u8 106)) (.node .leaf (.some (.int .u8 0)) .leaf)) (.some (.int .u8 1)) (.node (.node .leaf (.some (.int .u8 4)) .leaf) (.some (.int .u8 103)) .leaf))) (.some (.int .u8 186)) (.node (.node (.node (.node .leaf (.some (.int .u8 99)) .leaf) (.some (.int .u8 0)) (.node .leaf (.some (.int .u8 0)) .leaf)) (.some (.int .u8 1)) (.node (.node .leaf (.some (.int .u8 2)) .leaf) (.some (.int .u8 97)) .leaf)) (.some (.int .u8 0)) (.node (.node (.node .leaf (.some (.int .u8 3)) .leaf) (.some (.int .u8 118)) .leaf) (.some (.int .u8 7)) (.node (.node .leaf (.some (.int .u8 0)) .leaf) (.some (.int .u8 79)) .leaf)))))))]⟩
theorem M1_21_ok : SumOk Tryz.prog 6 [(.str 1 105), (.str 16 154706541852025644484233205990057992554), (.int .i64 1537), .nils] M1_21 := SumOk.of_run (K := (sumsHand tabM0)) (n := 2000) (keep := [15]) mixed (sumsHand_ok tabM0_ok) (by kernel_rfl) (by kernel_rfl)

def M1_22 : Sum := ⟨(.so 15 0 38 1), 16, [(15, (.cells 38 true [] (.node (.node (.node (.node (.node (.node .leaf (.some (.int .u8 0)) .leaf) (.some (.int .u8 0)) .leaf) (.some (.int .u8 52)) (.node .leaf (.some (.int .u8 3)) .leaf)) (.some (.int .u8 190)) (.node (.node (.node .leaf (.some (.int .u8 0)) .leaf) (.some (.int .u8 1)) .leaf) (.some (.int .u8 0)) (.node .leaf (.some (.int .u8 2)) .leaf))) (.some (.int .u8 254)) (.node (.node (.node (.node .leaf (.some (.int .u8 0)) .leaf) (.some (.int .u8 1)) .leaf) (.some (.int .u8 5)) (.node .leaf (.some (.int .u8 33)) .leaf)) (.some (.int .u8 0)) (.node (.node (.node .leaf (.some (.int .u8 0)) .leaf) (.some (.int .u8 7)) .leaf) (.some (.int .u8 112)) (.node .leaf (.some (.int .u8 4)) .leaf)))) (.some (.int .u8 202)) (.node (.node (.node (.node (.node .leaf (.some (.int .u8 0)) .leaf) (.some (.int .u8 1)) .leaf) (.some (.int .u8 0)) (.node .leaf (.some (.int .u8 0)) .leaf)) (.some (.int .u8 0)) (.node (.node (.node .leaf (.some (.int .u8 0)) .leaf) (.some (.int .u8 105)) .leaf) (.some (.int .u8 1)) (.node .leaf (.some (.int .u8 0)) .leaf))) (.some (.int .u8 186)) (.node (.node (.node (.node .leaf (.some (.int .u8 0)) .leaf) (.some (.int .u8 0)) .leaf) (.some (.int .u8 1)) (.node .leaf (.some (.int .u8 0)) .leaf)) (.some (.int .u8 0)) (.node (.node .leaf (.some (.int .u8 0)) .leaf) (.some (.int .u8 7)) (.node .leaf (.some (.int .u8 0)) .leaf)))))))]⟩
theorem M1_22_ok : SumOk Tryz.prog 6 [(.str 1 112), (.str 1 105), (.int .i64 33), .nils] M1_22 := SumOk.of_run (K := (sumsHand tabM0)) (n := 2000) (keep := [15]) mixed (sumsHand_ok tabM0_ok) (by kernel_rfl) (by kernel_rfl)

def M1_23 : Sum := ⟨(.so 15 0 38 1), 16, [(15, (.cells 38 true [] (.node (.node (.node (.node (.node (.node .leaf (.some (.int .u8 0)) .leaf) (.some (.int .u8 0)) .leaf) (.some (.int .u8 52)) (.node .leaf (.some (.int .u8 3)) .leaf)) (.some (.int .u8 190)) (.node (.node (.node .leaf (.some (.int .u8 0)) .leaf) (.some (.int .u8 1)) .leaf) (.some (.int .u8 0)) (.node .leaf (.some (.int .u8 2)) .leaf))) (.some (.int .u8 254)) (.node (.node (.node (.node .leaf (.some (.int .u8 0)) .leaf) (.some (.int .u8 1)) .leaf) (.some (.int .u8 5)) (.node .leaf (.some (.int .u8 33)) .leaf)) (.some (.int .u8 0)) (.node (.node (.node .leaf (.some (.int .u8 0)) .leaf) (.some (.int .u8 7)) .leaf) (.some (.int .u8 114)) (.node .leaf (.some (.int .u8 4)) .leaf)))) (.some (.int .u8 202)) (.node (.node (.node (.node (.node .leaf (.some (.int .u8 0)) .leaf) (.some (.int .u8 1)) .leaf) (.some (.int .u8 0)) (.node .leaf (.some (.int .u8 0)) .leaf)) (.some (.int .u8 0)) (.node (.node (.node .leaf (.some (.int .u8 0)) .leaf) (.some (.int .u8 102)) .leaf) (.some (.int .u8 1)) (.node .leaf (.some (.int .u8 0)) .leaf))) (.some (.int .u8 186)) (.node (.node (.node (.node .leaf (.some (.int .u8 0)) .leaf) (.some (.int .u8 0)) .leaf) (.some (.int .u8 1)) (.node .leaf (.some (.int .u8 0)) .leaf)) (.some (.int .u8 0)) (.node (.node .leaf (.some (.int .u8 0)) .leaf) (.some (.int .u8 7)) (.node .leaf (.some (.int .u8 0)) .leaf)))))))]⟩
theorem M1_23_ok : SumOk Tryz.prog 6 [(.str 1 114), (.str 1 102), (.int .i64 33), .nils] M1_23 := SumOk.of_run (K := (sumsHand tabM0)) (n := 2000) (keep := [15]) mixed (sumsHand_ok tabM0_ok) (by kernel_rfl) (by kernel_rfl)

def M1_24 : Sum := ⟨(.so 15 0 53 1), 16, [(15, (.cells 53 true [] (.node (.node (.node (.node (.node (.node .leaf (.some (.int .u8 98)) .leaf) (.some (.int .u8 0)) (.node .leaf (.some (.int .u8 0)) .leaf)) (.some (.int .u8 52)) (.node (.node .leaf (.some (.int .u8 0)) .leaf) (.some (.int .u8 97)) .leaf)) (.some (.int .u8 190)) (.node (.node (.node .leaf (.some (.int .u8 116)) .leaf) (.some (.int .u8 16)) (.node .leaf (.some (.int .u8 0)) .leaf)) (.some (.int .u8 0)) (.node (.node .leaf (.some (.int .u8 0)) .leaf) (.some (.int .u8 110)) .leaf))) (.some (.int .u8 254)) (.node (.node (.node (.node .leaf (.some (.int .u8 101)) .leaf) (.some (.int .u8 1)) (.node .leaf (.some (.int .u8 0)) .leaf)) (.some (.int .u8 5)) (.node (.node .leaf (.some (.int .u8 0)) .leaf) (.some (.int .u8 108)) .leaf)) (.some (.int .u8 0)) (.node (.node (.node .leaf (.some (.int .u8 0)) .leaf) (.some (.int .u8 97)) .leaf) (.some (.int .u8 99)) (.node (.node .leaf (.some (.int .u8 0)) .leaf) (.some (.int .u8 47)) .leaf)))) (.some (.int .u8 202)) (.node (.node (.node (.node (.node .leaf (.some (.int .u8 106)) .leaf) (.some (.int .u8 1)) (.node .leaf (.some (.int .u8 0)) .leaf)) (.some (.int .u8 0)) (.node (.node .leaf (.some (.int .u8 33)) .leaf) (.some (.int .u8 47)) .leaf)) (.some (.int .u8 0)) (.node (.node (.node .leaf (.some (.int .u8 7)) .leaf) (.some (.int .u8 106)) (.node .leaf (.some (.int .u8 0)) .leaf)) (.some (.int .u8 1)) (.node (.node .leaf (.some (.int .u8 4)) .leaf) (.some (.int .u8 103)) .leaf))) (.some (.int .u8 186)) (.node (.node (.node (.node .leaf (.some (.int .u8 99)) .leaf) (.some (.int .u8 0)) (.node .leaf (.some (.int .u8 0)) .leaf)) (.some (.int .u8 1)) (.node (.node .leaf (.some (.int .u8 2)) .leaf) (.some (.int .u8 97)) .leaf)) (.some (.int .u8 0)) (.node (.node (.node .leaf (.some (.int .u8 3)) .leaf) (.some (.int .u8 118)) .leaf) (.some (.int .u8 7)) (.node (.node .leaf (.some (.int .u8 0)) .leaf) (.some (.int .u8 79)) .leaf)))))))]⟩
theorem M1_24_ok : SumOk Tryz.prog 6 [(.str 1 99), (.str 16 154706541852025644484233205990057992554), (.int .i64 33), .nils] M1_24 := SumOk.of_run (K := (sumsHand tabM0)) (n := 2000) (keep := [15]) mixed (sumsHand_ok tabM0_ok) (by kernel_rfl) (by kernel_rfl)

def M1_25 : Sum := ⟨(.tup [(.so 8 0 4 1), (.bool true)]), 9, [(8, (.cells 4 true [] (.node (.node (.node .leaf (.some (.int .u16 97)) .leaf) (.some (.int .u16 97)) .leaf) (.some (.int .u16 106)) (.node .leaf (.some (.int .u16 118)) .leaf))))]⟩
theorem M1_25_ok : SumOk Tryz.prog 100 [(.str 4 1635148138)] M1_25 := SumOk.of_run (K := (sumsHand tabM0)) (n := 2000) (keep := [8]) mixed (sumsHand_ok tabM0_ok) (by kernel_rfl) (by kernel_rfl)

def M1_26 : Sum := ⟨(.tup [(.so 8 0 4 1), (.bool true)]), 9, [(8, (.cells 4 true [] (.node (.node (.node .leaf (.some (.int .u16 103)) .leaf) (.some (.int .u16 97)) .leaf) (.some (.int .u16 108)) (.node .leaf (.some (.int .u16 110)) .leaf))))]⟩
theorem M1_26_ok : SumOk Tryz.prog 100 [(.str 4 1735287148)] M1_26 := SumOk.of_run (K := (sumsHand tabM0)) (n := 2000) (keep := [8]) mixed (sumsHand_ok tabM0_ok) (by kernel_rfl) (by kernel_rfl)

def M1_27 : Sum := ⟨(.tup [(.so 12 0 6 1), (.bool true)]), 13, [(12, (.cells 6 true [] (.node (.node (.node .leaf (.some (.int .u16 101)) .leaf) (.some (.int .u16 98)) (.node .leaf (.some (.int .u16 116)) .leaf)) (.some (.int .u16 79)) (.node (.node .leaf (.some (.int .u16 99)) .leaf) (.some (.int .u16 106)) .leaf))))]⟩
theorem M1_27_ok : SumOk Tryz.prog 100 [(.str 6 127970252055119)] M1_27 := SumOk.of_run (K := (sumsHand tabM0)) (n := 2000) (keep := [12]) mixed (sumsHand_ok tabM0_ok) (by kernel_rfl) (by kernel_rfl)

def M1_28 : Sum := ⟨(.bool true), 5, []⟩
theorem M1_28_ok : SumOk Tryz.prog 103 [(.str 1 102)] M1_28 := SumOk.of_run (K := (sumsHand tabM0)) (n := 2000) (keep := []) mixed (sumsHand_ok tabM0_ok) (by kernel_rfl) (by kernel_rfl)

def M1_29 : Sum := ⟨(.bool true), 5, []⟩
theorem M1_29_ok : SumOk Tryz.prog 103 [(.str 1 105)] M1_29 := SumOk.of_run (K := (sumsHand tabM0)) (n := 2000) (keep := []) mixed (sumsHand_ok tabM0_ok) (by kernel_rfl) (by kernel_rfl)

def M1_30 : Sum := ⟨(.bool true), 5, []⟩
theorem M1_30_ok : SumOk Tryz.prog 103 [(.str 1 112)] M1_30 := SumOk.of_run (K := (sumsHand tabM0)) (n := 2000) (keep := []) mixed (sumsHand_ok tabM0_ok) (by kernel_rfl) (by kernel_rfl)

def M1_31 : Sum := ⟨(.bool true), 5, []⟩
theorem M1_31_ok : SumOk Tryz.prog 103 [(.str 1 113)] M1_31 := SumOk.of_run (K := (sumsHand tabM0)) (n := 2000) (keep := []) mixed (sumsHand_ok tabM0_ok) (by kernel_rfl) (by kernel_rfl)

def M1_32 : Sum := ⟨(.bool true), 5, []⟩
theorem M1_32_ok : SumOk Tryz.prog 103 [(.str 1 114)] M1_32 := SumOk.of_run (K := (sumsHand tabM0)) (n := 2000) (keep := []) mixed (sumsHand_ok tabM0_ok) (by kernel_rfl) (by kernel_rfl)

def M1_33 : Sum := ⟨(.bool true), 5, []⟩
theorem M1_33_ok : SumOk Tryz.prog 103 [(.str 1 115)] M1_33 := SumOk.of_run (K := (sumsHand tabM0)) (n := 2000) (keep := []) mixed (sumsHand_ok tabM0_ok) (by kernel_rfl) (by kernel_rfl)

def M1_34 : Sum := ⟨(.bool true), 5, []⟩
theorem M1_34_ok : SumOk Tryz.prog 103 [(.str 1 117)] M1_34 := SumOk.of_run (K := (sumsHand tabM0)) (n := 2000) (keep := []) mixed (sumsHand_ok tabM0_ok) (by kernel_rfl) (by kernel_rfl)

def M1_35 : Sum := ⟨(.bool true), 5, []⟩
theorem M1_35_ok : SumOk Tryz.prog 103 [(.str 1 118)] M1_35 := SumOk.of_run (K := (sumsHand tabM0)) (n := 2000) (keep := []) mixed (sumsHand_ok tabM0_ok) (by kernel_rfl) (by kernel_rfl)

def M1_36 : Sum := ⟨(.bool true), 5, []⟩
theorem M1_36_ok : SumOk Tryz.prog 103 [(.str 1 99)] M1_36 := SumOk.of_run (K := (sumsHand tabM0)) (n := 2000) (keep := []) mixed (sumsHand_ok tabM0_ok) (by kernel_rfl) (by kernel_rfl)

def tabM1 : List (FuncId × SRows) := (103, [([(.str 1 102)], M1_28), ([(.str 1 105)], M1_29), ([(.str 1 112)], M1_30), ([(.str 1 113)], M1_31), ([(.str 1 114)], M1_32), ([(.str 1 115)], M1_33), ([(.str 1 117)], M1_34), ([(.str 1 118)], M1_35), ([(.str 1 99)], M1_36)]) :: (100, [([(.str 4 1635148138)], M1_25), ([(.str 4 1735287148)], M1_26), ([(.str 6 127970252055119)], M1_27)]) :: (6, [([(.str 1 102), (.str 16 154706541852025644484233205990057992554), (.int .i64 49), .nils], M1_20), ([(.str 1 105), (.str 16 154706541852025644484233205990057992554), (.int .i64 1537), .nils], M1_21), ([(.str 1 112), (.str 1 105), (.int .i64 33), .nils], M1_22), ([(.str 1 114), (.str 1 102), (.int .i64 33), .nils], M1_23), ([(.str 1 99), (.str 16 154706541852025644484233205990057992554), (.int .i64 33), .nils], M1_24)]) :: (102, [([(.str 1 102)], M1_10), ([(.str 1 105)], M1_11), ([(.str 1 112)], M1_12), ([(.str 1 113)], M1_13), ([(.str 1 114)], M1_14), ([(.str 1 115)], M1_15), ([(.str 1 117)], M1_16), ([(.str 1 118)], M1_17), ([(.str 1 99)], M1_18), ([(.str 16 154706541852025644484233205990057992554)], M1_19)]) :: (68, [([(.str 1 102)], M1_0), ([(.str 1 105)], M1_1), ([(.str 1 112)], M1_2), ([(.str 1 113)], M1_3), ([(.str 1 114)], M1_4), ([(.str 1 115)], M1_5), ([(.str 1 117)], M1_6), ([(.str 1 118)], M1_7), ([(.str 1 99)], M1_8), ([(.str 16 154706541852025644484233205990057992554)], M1_9)]) :: tabM0
theorem tabM1_ok : TabOk Tryz.prog tabM1 := (TabOk.cons (RowsOk.cons M1_28_ok (RowsOk.cons M1_29_ok (RowsOk.cons M1_30_ok (RowsOk.cons M1_31_ok (RowsOk.cons M1_32_ok (RowsOk.cons M1_33_ok (RowsOk.cons M1_34_ok (RowsOk.cons M1_35_ok (RowsOk.cons M1_36_ok RowsOk.nil))))))))) (TabOk.cons (RowsOk.cons M1_25_ok (RowsOk.cons M1_26_ok (RowsOk.cons M1_27_ok RowsOk.nil))) (TabOk.cons (RowsOk.cons M1_20_ok (RowsOk.cons M1_21_ok (RowsOk.cons M1_22_ok (RowsOk.cons M1_23_ok (RowsOk.cons M1_24_ok RowsOk.nil))))) (TabOk.cons (RowsOk.cons M1_10_ok (RowsOk.cons M1_11_ok (RowsOk.cons M1_12_ok (RowsOk.cons M1_13_ok (RowsOk.cons M1_14_ok (RowsOk.cons M1_15_ok (RowsOk.cons M1_16_ok (RowsOk.cons M1_17_ok (RowsOk.cons M1_18_ok (RowsOk.cons M1_19_ok RowsOk.nil)))))))))) (TabOk.cons (RowsOk.cons M1_0_ok (RowsOk.cons M1_1_ok (RowsOk.cons M1_2_ok (RowsOk.cons M1_3_ok (RowsOk.cons M1_4_ok (RowsOk.cons M1_5_ok (RowsOk.cons M1_6_ok (RowsOk.cons M1_7_ok (RowsOk.cons M1_8_ok (RowsOk.cons M1_9_ok RowsOk.nil)))))))))) tabM0_ok)))))
end Go.Proofs.YtmjdeloeffhicaaGreatDoor
