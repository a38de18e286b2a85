import Derived.Test.YtlfinnicdpiaaaaGreatDoorXShut
import Derived.Test.YtlfinnicdpiaaaaGreatDoorChecked
import Derived.KernelRfl
set_option linter.unusedSectionVars false
set_option maxRecDepth 1000000
set_option maxHeartbeats 4000000
namespace Go.Proofs.YtlfinnicdpiaaaaGreatDoor
open Go.X
variable [Tab]

theorem mixed : Tryz.prog.follows .mixedOrders = true := by kernel_rfl

def F_0 : Sum := ⟨(.tup [(.agg [(.int .u8 73), (.str 0 0), (.int .i64 0), (.int .u8 0)]), (.bool true)]), 4, []⟩
theorem F_0_ok : SumOk Tryz.prog 34 [(.str 1 73)] F_0 := SumOk.of_run (K := Hand.none) (n := 2000) (keep := []) mixed HandOk.none (by kernel_rfl) (by kernel_rfl)

def F_1 : Sum := ⟨(.bool true), 4, []⟩
theorem F_1_ok : SumOk Tryz.prog 35 [(.str 1 120)] F_1 := SumOk.of_run (K := Hand.none) (n := 2000) (keep := []) mixed HandOk.none (by kernel_rfl) (by kernel_rfl)

def F_2 : Sum := ⟨(.bool true), 4, []⟩
theorem F_2_ok : SumOk Tryz.prog 35 [(.str 1 109)] F_2 := SumOk.of_run (K := Hand.none) (n := 2000) (keep := []) mixed HandOk.none (by kernel_rfl) (by kernel_rfl)

def F_3 : Sum := ⟨(.bool true), 14, []⟩
theorem F_3_ok : SumOk Tryz.prog 35 [(.str 6 68669705972028)] F_3 := SumOk.of_run (K := Hand.none) (n := 2000) (keep := []) mixed HandOk.none (by kernel_rfl) (by kernel_rfl)

def F_4 : Sum := ⟨(.bool true), 18, []⟩
theorem F_4_ok : SumOk Tryz.prog 35 [(.str 8 4500337850585998140)] F_4 := SumOk.of_run (K := Hand.none) (n := 2000) (keep := []) mixed HandOk.none (by kernel_rfl) (by kernel_rfl)

def F_5 : Sum := ⟨(.bool true), 5, []⟩
theorem F_5_ok : SumOk Tryz.prog 51 [(.str 1 97)] F_5 := SumOk.of_run (K := Hand.none) (n := 2000) (keep := []) mixed HandOk.none (by kernel_rfl) (by kernel_rfl)

def F_6 : Sum := ⟨(.bool true), 35, []⟩
theorem F_6_ok : SumOk Tryz.prog 51 [(.str 16 154706541852025644484233205990057992554)] F_6 := SumOk.of_run (K := Hand.none) (n := 2000) (keep := []) mixed HandOk.none (by kernel_rfl) (by kernel_rfl)

def F_7 : Sum := ⟨(.int .i64 0), 2, []⟩
theorem F_7_ok : SumOk Tryz.prog 41 [(.str 3 5646632)] F_7 := SumOk.of_run (K := Hand.none) (n := 2000) (keep := []) mixed HandOk.none (by kernel_rfl) (by kernel_rfl)

def F_8 : Sum := ⟨(.int .i64 0), 7, []⟩
theorem F_8_ok : SumOk Tryz.prog 41 [(.str 3 4794664)] F_8 := SumOk.of_run (K := Hand.none) (n := 2000) (keep := []) mixed HandOk.none (by kernel_rfl) (by kernel_rfl)

def F_9 : Sum := ⟨(.bool true), 5, []⟩
theorem F_9_ok : SumOk Tryz.prog 42 [(.str 1 109)] F_9 := SumOk.of_run (K := Hand.none) (n := 2000) (keep := []) mixed HandOk.none (by kernel_rfl) (by kernel_rfl)

def F_10 : Sum := ⟨(.bool true), 0, []⟩
theorem F_10_ok : SumOk Tryz.prog 42 [(.str 6 68669705972028)] F_10 := SumOk.of_run (K := Hand.none) (n := 2000) (keep := []) mixed HandOk.none (by kernel_rfl) (by kernel_rfl)

def F_11 : Sum := ⟨(.bool true), 0, []⟩
theorem F_11_ok : SumOk Tryz.prog 42 [(.str 8 4500337850585998140)] F_11 := SumOk.of_run (K := Hand.none) (n := 2000) (keep := []) mixed HandOk.none (by kernel_rfl) (by kernel_rfl)

def F_12 : Sum := ⟨(.tup [.nils, (.agg [(.int .u8 86), (.str 0 0), (.int .i64 0), (.int .u8 0)]), (.bool true)]), 1, []⟩
theorem F_12_ok : SumOk Tryz.prog 61 [(.str 3 5646632)] F_12 := SumOk.of_run (K := Hand.none) (n := 2000) (keep := []) mixed HandOk.none (by kernel_rfl) (by kernel_rfl)

def F_13 : Sum := ⟨(.tup [.nils, (.agg [(.int .u8 73), (.str 0 0), (.int .i64 0), (.int .u8 0)]), (.bool true)]), 6, []⟩
theorem F_13_ok : SumOk Tryz.prog 61 [(.str 3 4794664)] F_13 := SumOk.of_run (K := Hand.none) (n := 2000) (keep := []) mixed HandOk.none (by kernel_rfl) (by kernel_rfl)

def tabF : List (FuncId × SRows) := (61, [([(.str 3 5646632)], F_12), ([(.str 3 4794664)], F_13)]) :: (42, [([(.str 1 109)], F_9), ([(.str 6 68669705972028)], F_10), ([(.str 8 4500337850585998140)], F_11)]) :: (41, [([(.str 3 5646632)], F_7), ([(.str 3 4794664)], F_8)]) :: (51, [([(.str 1 97)], F_5), ([(.str 16 154706541852025644484233205990057992554)], F_6)]) :: (35, [([(.str 1 120)], F_1), ([(.str 1 109)], F_2), ([(.str 6 68669705972028)], F_3), ([(.str 8 4500337850585998140)], F_4)]) :: (34, [([(.str 1 73)], F_0)]) :: []
theorem tabF_ok : TabOk Tryz.prog tabF := (TabOk.cons (RowsOk.cons F_12_ok (RowsOk.cons F_13_ok RowsOk.nil)) (TabOk.cons (RowsOk.cons F_9_ok (RowsOk.cons F_10_ok (RowsOk.cons F_11_ok RowsOk.nil))) (TabOk.cons (RowsOk.cons F_7_ok (RowsOk.cons F_8_ok RowsOk.nil)) (TabOk.cons (RowsOk.cons F_5_ok (RowsOk.cons F_6_ok RowsOk.nil)) (TabOk.cons (RowsOk.cons F_1_ok (RowsOk.cons F_2_ok (RowsOk.cons F_3_ok (RowsOk.cons F_4_ok RowsOk.nil)))) (TabOk.cons (RowsOk.cons F_0_ok RowsOk.nil) TabOk.nil))))))
end Go.Proofs.YtlfinnicdpiaaaaGreatDoor
