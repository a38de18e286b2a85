import Derived.Test.YtlfinnicdpiaaaaGreatDoorXShut
import Derived.Test.YtlfinnicdpiaaaaGreatDoorChecked
import Derived.KernelRfl
import Derived.Test.YtlfinnicdpiaaaaGreatDoorCQF
set_option linter.unusedSectionVars false
set_option maxRecDepth 1000000
set_option maxHeartbeats 4000000
namespace Go.Proofs.YtlfinnicdpiaaaaGreatDoor
open Go.X
variable [Tab]

def S_0 : Sum := ⟨(.bool true), 0, []⟩
theorem S_0_ok : SumOk Tryz.prog 36 [(.int .i64 0)] S_0 := SumOk.of_run (K := (sumsHand tabF)) (n := 2000) (keep := []) mixed (sumsHand_ok tabF_ok) (by kernel_rfl) (by kernel_rfl)

def S_1 : Sum := ⟨(.bool true), 0, []⟩
theorem S_1_ok : SumOk Tryz.prog 36 [(.int .i64 1)] S_1 := SumOk.of_run (K := (sumsHand tabF)) (n := 2000) (keep := []) mixed (sumsHand_ok tabF_ok) (by kernel_rfl) (by kernel_rfl)

def S_2 : Sum := ⟨(.bool true), 0, []⟩
theorem S_2_ok : SumOk Tryz.prog 36 [(.int .i64 2)] S_2 := SumOk.of_run (K := (sumsHand tabF)) (n := 2000) (keep := []) mixed (sumsHand_ok tabF_ok) (by kernel_rfl) (by kernel_rfl)

def S_3 : Sum := ⟨(.bool false), 0, []⟩
theorem S_3_ok : SumOk Tryz.prog 36 [(.int .i64 3)] S_3 := SumOk.of_run (K := (sumsHand tabF)) (n := 2000) (keep := []) mixed (sumsHand_ok tabF_ok) (by kernel_rfl) (by kernel_rfl)

def S_4 : Sum := ⟨(.bool true), 0, []⟩
theorem S_4_ok : SumOk Tryz.prog 36 [(.int .i64 4)] S_4 := SumOk.of_run (K := (sumsHand tabF)) (n := 2000) (keep := []) mixed (sumsHand_ok tabF_ok) (by kernel_rfl) (by kernel_rfl)

def S_5 : Sum := ⟨(.bool false), 0, []⟩
theorem S_5_ok : SumOk Tryz.prog 36 [(.int .i64 5)] S_5 := SumOk.of_run (K := (sumsHand tabF)) (n := 2000) (keep := []) mixed (sumsHand_ok tabF_ok) (by kernel_rfl) (by kernel_rfl)

def S_6 : Sum := ⟨(.bool false), 0, []⟩
theorem S_6_ok : SumOk Tryz.prog 36 [(.int .i64 6)] S_6 := SumOk.of_run (K := (sumsHand tabF)) (n := 2000) (keep := []) mixed (sumsHand_ok tabF_ok) (by kernel_rfl) (by kernel_rfl)

def S_7 : Sum := ⟨(.bool false), 0, []⟩
theorem S_7_ok : SumOk Tryz.prog 36 [(.int .i64 7)] S_7 := SumOk.of_run (K := (sumsHand tabF)) (n := 2000) (keep := []) mixed (sumsHand_ok tabF_ok) (by kernel_rfl) (by kernel_rfl)

def S_8 : Sum := ⟨(.bool true), 0, []⟩
theorem S_8_ok : SumOk Tryz.prog 6 [(.int .i64 0)] S_8 := SumOk.of_run (K := (sumsHand tabF)) (n := 2000) (keep := []) mixed (sumsHand_ok tabF_ok) (by kernel_rfl) (by kernel_rfl)

def S_9 : Sum := ⟨(.bool true), 0, []⟩
theorem S_9_ok : SumOk Tryz.prog 6 [(.int .i64 1)] S_9 := SumOk.of_run (K := (sumsHand tabF)) (n := 2000) (keep := []) mixed (sumsHand_ok tabF_ok) (by kernel_rfl) (by kernel_rfl)

def S_10 : Sum := ⟨(.bool true), 0, []⟩
theorem S_10_ok : SumOk Tryz.prog 6 [(.int .i64 2)] S_10 := SumOk.of_run (K := (sumsHand tabF)) (n := 2000) (keep := []) mixed (sumsHand_ok tabF_ok) (by kernel_rfl) (by kernel_rfl)

def S_11 : Sum := ⟨(.bool false), 0, []⟩
theorem S_11_ok : SumOk Tryz.prog 6 [(.int .i64 3)] S_11 := SumOk.of_run (K := (sumsHand tabF)) (n := 2000) (keep := []) mixed (sumsHand_ok tabF_ok) (by kernel_rfl) (by kernel_rfl)

def S_12 : Sum := ⟨(.bool true), 0, []⟩
theorem S_12_ok : SumOk Tryz.prog 6 [(.int .i64 4)] S_12 := SumOk.of_run (K := (sumsHand tabF)) (n := 2000) (keep := []) mixed (sumsHand_ok tabF_ok) (by kernel_rfl) (by kernel_rfl)

def S_13 : Sum := ⟨(.bool false), 0, []⟩
theorem S_13_ok : SumOk Tryz.prog 6 [(.int .i64 5)] S_13 := SumOk.of_run (K := (sumsHand tabF)) (n := 2000) (keep := []) mixed (sumsHand_ok tabF_ok) (by kernel_rfl) (by kernel_rfl)

def S_14 : Sum := ⟨(.bool false), 0, []⟩
theorem S_14_ok : SumOk Tryz.prog 6 [(.int .i64 6)] S_14 := SumOk.of_run (K := (sumsHand tabF)) (n := 2000) (keep := []) mixed (sumsHand_ok tabF_ok) (by kernel_rfl) (by kernel_rfl)

def S_15 : Sum := ⟨(.bool false), 0, []⟩
theorem S_15_ok : SumOk Tryz.prog 6 [(.int .i64 7)] S_15 := SumOk.of_run (K := (sumsHand tabF)) (n := 2000) (keep := []) mixed (sumsHand_ok tabF_ok) (by kernel_rfl) (by kernel_rfl)

def S_16 : Sum := ⟨(.bool true), 0, []⟩
theorem S_16_ok : SumOk Tryz.prog 6 [(.int .i64 8)] S_16 := SumOk.of_run (K := (sumsHand tabF)) (n := 2000) (keep := []) mixed (sumsHand_ok tabF_ok) (by kernel_rfl) (by kernel_rfl)

def S_17 : Sum := ⟨(.int .i64 0), 0, []⟩
theorem S_17_ok : SumOk Tryz.prog 60 [(.int .u64 0)] S_17 := SumOk.of_run (K := (sumsHand tabF)) (n := 2000) (keep := []) mixed (sumsHand_ok tabF_ok) (by kernel_rfl) (by kernel_rfl)

def S_18 : Sum := ⟨(.int .i64 1), 0, []⟩
theorem S_18_ok : SumOk Tryz.prog 60 [(.int .u64 1)] S_18 := SumOk.of_run (K := (sumsHand tabF)) (n := 2000) (keep := []) mixed (sumsHand_ok tabF_ok) (by kernel_rfl) (by kernel_rfl)

def S_19 : Sum := ⟨(.int .i64 1), 0, []⟩
theorem S_19_ok : SumOk Tryz.prog 60 [(.int .u64 2)] S_19 := SumOk.of_run (K := (sumsHand tabF)) (n := 2000) (keep := []) mixed (sumsHand_ok tabF_ok) (by kernel_rfl) (by kernel_rfl)

def S_20 : Sum := ⟨(.int .i64 2), 0, []⟩
theorem S_20_ok : SumOk Tryz.prog 60 [(.int .u64 3)] S_20 := SumOk.of_run (K := (sumsHand tabF)) (n := 2000) (keep := []) mixed (sumsHand_ok tabF_ok) (by kernel_rfl) (by kernel_rfl)

def S_21 : Sum := ⟨(.int .i64 1), 0, []⟩
theorem S_21_ok : SumOk Tryz.prog 60 [(.int .u64 4)] S_21 := SumOk.of_run (K := (sumsHand tabF)) (n := 2000) (keep := []) mixed (sumsHand_ok tabF_ok) (by kernel_rfl) (by kernel_rfl)

def S_22 : Sum := ⟨(.int .i64 2), 0, []⟩
theorem S_22_ok : SumOk Tryz.prog 60 [(.int .u64 5)] S_22 := SumOk.of_run (K := (sumsHand tabF)) (n := 2000) (keep := []) mixed (sumsHand_ok tabF_ok) (by kernel_rfl) (by kernel_rfl)

def S_23 : Sum := ⟨(.int .i64 2), 0, []⟩
theorem S_23_ok : SumOk Tryz.prog 60 [(.int .u64 6)] S_23 := SumOk.of_run (K := (sumsHand tabF)) (n := 2000) (keep := []) mixed (sumsHand_ok tabF_ok) (by kernel_rfl) (by kernel_rfl)

def S_24 : Sum := ⟨(.int .i64 3), 0, []⟩
theorem S_24_ok : SumOk Tryz.prog 60 [(.int .u64 7)] S_24 := SumOk.of_run (K := (sumsHand tabF)) (n := 2000) (keep := []) mixed (sumsHand_ok tabF_ok) (by kernel_rfl) (by kernel_rfl)

def tabS : List (FuncId × SRows) := (60, [([(.int .u64 0)], S_17), ([(.int .u64 1)], S_18), ([(.int .u64 2)], S_19), ([(.int .u64 3)], S_20), ([(.int .u64 4)], S_21), ([(.int .u64 5)], S_22), ([(.int .u64 6)], S_23), ([(.int .u64 7)], S_24)]) :: (6, [([(.int .i64 0)], S_8), ([(.int .i64 1)], S_9), ([(.int .i64 2)], S_10), ([(.int .i64 3)], S_11), ([(.int .i64 4)], S_12), ([(.int .i64 5)], S_13), ([(.int .i64 6)], S_14), ([(.int .i64 7)], S_15), ([(.int .i64 8)], S_16)]) :: (36, [([(.int .i64 0)], S_0), ([(.int .i64 1)], S_1), ([(.int .i64 2)], S_2), ([(.int .i64 3)], S_3), ([(.int .i64 4)], S_4), ([(.int .i64 5)], S_5), ([(.int .i64 6)], S_6), ([(.int .i64 7)], S_7)]) :: tabF
theorem tabS_ok : TabOk Tryz.prog tabS := (TabOk.cons (RowsOk.cons S_17_ok (RowsOk.cons S_18_ok (RowsOk.cons S_19_ok (RowsOk.cons S_20_ok (RowsOk.cons S_21_ok (RowsOk.cons S_22_ok (RowsOk.cons S_23_ok (RowsOk.cons S_24_ok RowsOk.nil)))))))) (TabOk.cons (RowsOk.cons S_8_ok (RowsOk.cons S_9_ok (RowsOk.cons S_10_ok (RowsOk.cons S_11_ok (RowsOk.cons S_12_ok (RowsOk.cons S_13_ok (RowsOk.cons S_14_ok (RowsOk.cons S_15_ok (RowsOk.cons S_16_ok RowsOk.nil))))))))) (TabOk.cons (RowsOk.cons S_0_ok (RowsOk.cons S_1_ok (RowsOk.cons S_2_ok (RowsOk.cons S_3_ok (RowsOk.cons S_4_ok (RowsOk.cons S_5_ok (RowsOk.cons S_6_ok (RowsOk.cons S_7_ok RowsOk.nil)))))))) tabF_ok)))
end Go.Proofs.YtlfinnicdpiaaaaGreatDoor
