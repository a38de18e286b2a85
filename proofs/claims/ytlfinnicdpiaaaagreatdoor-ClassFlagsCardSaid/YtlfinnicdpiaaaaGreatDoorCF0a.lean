/-
  Contracts of calls, by the kernel.
-/
import Derived.Test.YtlfinnicdpiaaaaGreatDoorXN3
import Derived.Test.YtlfinnicdpiaaaaGreatDoorProg
import Derived.KernelRfl
set_option linter.unusedSectionVars false
set_option linter.unusedVariables false
set_option maxRecDepth 1000000
set_option maxHeartbeats 0
namespace Go.Proofs.YtlfinnicdpiaaaaGreatDoor.cf
open Go.X Go.RowKit
theorem mixed : Tryz.prog.follows .mixedOrders = true := by kernel_rfl
variable [Tab]
noncomputable def K_CF0a : Hand := Hand.none
theorem K_CF0a_ok : HandOk Tryz.prog K_CF0a := HandOk.none

noncomputable def S402 : Sum := ⟨(.int .i64 (-1)), 1, []⟩
theorem S402_ok : SumOk Tryz.prog 71 [(.str 6 127970252055119), (.str 4 794508078)] S402 := SumOk.of_run (K := K_CF0a) (n := 5000) (keep := []) mixed K_CF0a_ok (by kernel_rfl) (by as_aux_lemma => kernel_rfl)

noncomputable def S400 : Sum := ⟨(.tup [(.so 12 0 6 1), (.bool true)]), 13, [(12, (.cells 6 true [] (T.ofList 0 .leaf [(.int .u16 79), (.int .u16 98), (.int .u16 106), (.int .u16 101), (.int .u16 99), (.int .u16 116)])))]⟩
theorem S400_ok : SumOk Tryz.prog 48 [(.str 6 127970252055119)] S400 := SumOk.of_run (K := K_CF0a) (n := 5000) (keep := [12]) mixed K_CF0a_ok (by kernel_rfl) (by as_aux_lemma => kernel_rfl)

noncomputable def S382 : Sum := ⟨(.bool true), 10, []⟩
theorem S382_ok : SumOk Tryz.prog 35 [(.str 4 1735287148)] S382 := SumOk.of_run (K := K_CF0a) (n := 5000) (keep := []) mixed K_CF0a_ok (by kernel_rfl) (by as_aux_lemma => kernel_rfl)

noncomputable def S365 : Sum := ⟨(.bool true), 10, []⟩
theorem S365_ok : SumOk Tryz.prog 35 [(.str 4 1635148138)] S365 := SumOk.of_run (K := K_CF0a) (n := 5000) (keep := []) mixed K_CF0a_ok (by kernel_rfl) (by as_aux_lemma => kernel_rfl)

noncomputable def S357 : Sum := ⟨(.sl 0 0 3 3), 1, [(0, (.cells 3 false [(.str 0 0)] (T.ofList 0 .leaf [(.str 4 1635148138), (.str 4 1735287148), (.str 6 127970252055119)])))]⟩
theorem S357_ok : SumOk Tryz.prog 80 [(.str 16 154706541852025644484233205990057992554), (.str 1 47), (.int .i64 0), (.int .i64 (-1))] S357 := SumOk.of_run (K := K_CF0a) (n := 5000) (keep := [0]) mixed K_CF0a_ok (by kernel_rfl) (by as_aux_lemma => kernel_rfl)

noncomputable def S346 : Sum := ⟨(.tup [(.so 32 0 16 1), (.bool true)]), 33, [(32, (.cells 16 true [] (T.ofList 0 .leaf [(.int .u16 106), (.int .u16 97), (.int .u16 118), (.int .u16 97), (.int .u16 47), (.int .u16 108), (.int .u16 97), (.int .u16 110), (.int .u16 103), (.int .u16 47), (.int .u16 79), (.int .u16 98), (.int .u16 106), (.int .u16 101), (.int .u16 99), (.int .u16 116)])))]⟩
theorem S346_ok : SumOk Tryz.prog 48 [(.str 16 154706541852025644484233205990057992554)] S346 := SumOk.of_run (K := K_CF0a) (n := 5000) (keep := [32]) mixed K_CF0a_ok (by kernel_rfl) (by as_aux_lemma => kernel_rfl)

noncomputable def S106 : Sum := ⟨(.bool true), 5, []⟩
theorem S106_ok : SumOk Tryz.prog 51 [(.str 1 98)] S106 := SumOk.of_run (K := K_CF0a) (n := 5000) (keep := []) mixed K_CF0a_ok (by kernel_rfl) (by as_aux_lemma => kernel_rfl)

noncomputable def S84 : Sum := ⟨(.bool true), 5, []⟩
theorem S84_ok : SumOk Tryz.prog 51 [(.str 1 97)] S84 := SumOk.of_run (K := K_CF0a) (n := 5000) (keep := []) mixed K_CF0a_ok (by kernel_rfl) (by as_aux_lemma => kernel_rfl)

noncomputable def tab_CF0a : List (FuncId × SRows) := (51, [([(.str 1 98)], S106), ([(.str 1 97)], S84)]) :: (80, [([(.str 16 154706541852025644484233205990057992554), (.str 1 47), (.int .i64 0), (.int .i64 (-1))], S357)]) :: (35, [([(.str 4 1735287148)], S382), ([(.str 4 1635148138)], S365)]) :: (48, [([(.str 6 127970252055119)], S400), ([(.str 16 154706541852025644484233205990057992554)], S346)]) :: (71, [([(.str 6 127970252055119), (.str 4 794508078)], S402)]) :: []
theorem tab_CF0a_ok : TabOk Tryz.prog tab_CF0a := (TabOk.cons (RowsOk.cons S106_ok (RowsOk.cons S84_ok RowsOk.nil)) (TabOk.cons (RowsOk.cons S357_ok RowsOk.nil) (TabOk.cons (RowsOk.cons S382_ok (RowsOk.cons S365_ok RowsOk.nil)) (TabOk.cons (RowsOk.cons S400_ok (RowsOk.cons S346_ok RowsOk.nil)) (TabOk.cons (RowsOk.cons S402_ok RowsOk.nil) TabOk.nil)))))
noncomputable def H_CF0a : Hand := (sumsHand tab_CF0a)
theorem H_CF0a_ok : HandOk Tryz.prog H_CF0a := (sumsHand_ok tab_CF0a_ok)
end Go.Proofs.YtlfinnicdpiaaaaGreatDoor.cf
