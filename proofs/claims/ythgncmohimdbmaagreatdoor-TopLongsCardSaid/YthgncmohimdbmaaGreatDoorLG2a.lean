/-
  Contracts of calls, by the kernel.
-/
import Derived.Test.YthgncmohimdbmaaGreatDoorXN3
import Derived.Test.YthgncmohimdbmaaGreatDoorProg
import Derived.KernelRfl
import Derived.Test.YthgncmohimdbmaaGreatDoorLG0a
import Derived.Test.YthgncmohimdbmaaGreatDoorLG1a
set_option linter.unusedSectionVars false
set_option linter.unusedVariables false
set_option maxRecDepth 1000000
set_option maxHeartbeats 0
namespace Go.Proofs.YthgncmohimdbmaaGreatDoor.lg
open Go.X Go.RowKit
variable [Tab]
noncomputable def K_LG2a : Hand := ((H_LG1a).or H_LG0a)
theorem K_LG2a_ok : HandOk Tryz.prog K_LG2a := (HandOk.or H_LG1a_ok H_LG0a_ok)

noncomputable def S4909 : Sum := ⟨(.tup [(.agg [(.int .u8 76), (.str 23 10956966084090815260342509131105871416374185281426186602), (.int .i64 0), (.int .u8 0)]), (.int .i64 25)]), 52, []⟩
theorem S4909_ok : SumOk Tryz.prog 208 [(.str 25 373153985705341413772959258306815421632630762655423140031052)] S4909 := SumOk.of_run (K := K_LG2a) (n := 5000) (keep := []) mixed K_LG2a_ok (by kernel_rfl) (by as_aux_lemma => kernel_rfl)

noncomputable def S4708 : Sum := ⟨(.tup [(.so 5 0 1 4), (.agg [(.int .u8 76), (.str 16 137483774941304901841256615957136564586), (.int .i64 0), (.int .u8 0)]), (.bool true)]), 46, [q143]⟩
theorem S4708_ok : SumOk Tryz.prog 116 [(.str 21 86819084919626801046990092479340231442403959593512)] S4708 := SumOk.of_run (K := K_LG2a) (n := 5000) (keep := [5]) mixed K_LG2a_ok (by kernel_rfl) (by as_aux_lemma => kernel_rfl)

noncomputable def S4602 : Sum := ⟨(.tup [(.so 5 0 1 4), (.agg [(.int .u8 76), (.str 16 137483774941304901841256615957136564586), (.int .i64 0), (.int .u8 0)]), (.bool true)]), 46, [q144]⟩
theorem S4602_ok : SumOk Tryz.prog 116 [(.str 21 86819084919626801046990092479340231442403959587624)] S4602 := SumOk.of_run (K := K_LG2a) (n := 5000) (keep := [5]) mixed K_LG2a_ok (by kernel_rfl) (by as_aux_lemma => kernel_rfl)

noncomputable def S4497 : Sum := ⟨(.tup [(.so 5 0 1 4), (.agg [(.int .u8 76), (.str 16 137483774941304901841256615957136564586), (.int .i64 0), (.int .u8 0)]), (.bool true)]), 46, [q145]⟩
theorem S4497_ok : SumOk Tryz.prog 116 [(.str 21 86819084919626801046990092479340231442403959589416)] S4497 := SumOk.of_run (K := K_LG2a) (n := 5000) (keep := [5]) mixed K_LG2a_ok (by kernel_rfl) (by as_aux_lemma => kernel_rfl)

noncomputable def S4393 : Sum := ⟨(.tup [(.so 5 0 1 4), (.agg [(.int .u8 76), (.str 16 137483774941304901841256615957136564586), (.int .i64 0), (.int .u8 0)]), (.bool true)]), 46, [q125]⟩
theorem S4393_ok : SumOk Tryz.prog 116 [(.str 21 86819084919626801046990092479340231442403959589160)] S4393 := SumOk.of_run (K := K_LG2a) (n := 5000) (keep := [5]) mixed K_LG2a_ok (by kernel_rfl) (by as_aux_lemma => kernel_rfl)

noncomputable def S3926 : Sum := ⟨(.tup [(.so 40 0 1 4), (.agg [(.int .u8 76), (.str 16 137483774941304901841256615957136564586), (.int .i64 0), (.int .u8 0)]), (.bool true)]), 81, [q146]⟩
theorem S3926_ok : SumOk Tryz.prog 116 [(.str 38 7563008949852303964789352941943798567979605024965410989119580465925847369046121658274434088)] S3926 := SumOk.of_run (K := K_LG2a) (n := 5000) (keep := [40]) mixed K_LG2a_ok (by kernel_rfl) (by as_aux_lemma => kernel_rfl)

noncomputable def tab_LG2a : List (FuncId × SRows) := (116, [([(.str 21 86819084919626801046990092479340231442403959593512)], S4708), ([(.str 21 86819084919626801046990092479340231442403959587624)], S4602), ([(.str 21 86819084919626801046990092479340231442403959589416)], S4497), ([(.str 21 86819084919626801046990092479340231442403959589160)], S4393), ([(.str 38 7563008949852303964789352941943798567979605024965410989119580465925847369046121658274434088)], S3926)]) :: (208, [([(.str 25 373153985705341413772959258306815421632630762655423140031052)], S4909)]) :: []
theorem tab_LG2a_ok : TabOk Tryz.prog tab_LG2a := (TabOk.cons (RowsOk.cons S4708_ok (RowsOk.cons S4602_ok (RowsOk.cons S4497_ok (RowsOk.cons S4393_ok (RowsOk.cons S3926_ok RowsOk.nil))))) (TabOk.cons (RowsOk.cons S4909_ok RowsOk.nil) TabOk.nil))
noncomputable def H_LG2a : Hand := (sumsHand tab_LG2a)
theorem H_LG2a_ok : HandOk Tryz.prog H_LG2a := (sumsHand_ok tab_LG2a_ok)
end Go.Proofs.YthgncmohimdbmaaGreatDoor.lg
