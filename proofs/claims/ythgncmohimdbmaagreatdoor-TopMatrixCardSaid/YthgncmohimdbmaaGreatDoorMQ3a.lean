/-
  Contracts of calls, by the kernel.
-/
import Derived.Test.YthgncmohimdbmaaGreatDoorXN3
import Derived.Test.YthgncmohimdbmaaGreatDoorProg
import Derived.KernelRfl
import Derived.Test.YthgncmohimdbmaaGreatDoorMQ0a
import Derived.Test.YthgncmohimdbmaaGreatDoorMQ1a
import Derived.Test.YthgncmohimdbmaaGreatDoorMQ2a
set_option linter.unusedSectionVars false
set_option linter.unusedVariables false
set_option maxRecDepth 1000000
set_option maxHeartbeats 0
namespace Go.Proofs.YthgncmohimdbmaaGreatDoor.mq
open Go.X Go.RowKit
variable [Tab]
noncomputable def K_MQ3a : Hand := ((H_MQ2a).or ((H_MQ1a).or H_MQ0a))
theorem K_MQ3a_ok : HandOk Tryz.prog K_MQ3a := (HandOk.or H_MQ2a_ok (HandOk.or H_MQ1a_ok H_MQ0a_ok))

noncomputable def S15936 : Sum := ⟨(.tup [(.agg [(.int .u8 91), (.str 0 0), (.int .i64 1), (.int .u8 73)]), (.agg [(.int .u8 76), (.str 16 154706541852025644484233205990057992554), (.int .i64 0), (.int .u8 0)]), (.bool true)]), 55, []⟩
theorem S15936_ok : SumOk Tryz.prog 374 [(.str 3 4807515), (.str 19 1325882814640121117987526085474017769452883035)] S15936 := SumOk.of_run (K := K_MQ3a) (n := 5000) (keep := []) mixed K_MQ3a_ok (by kernel_rfl) (by as_aux_lemma => kernel_rfl)

noncomputable def I13695 : In := ⟨68, [(.ptr 14065 0)], 14066, [q19, q20, (14064, (.cells 8 false [] (T.ofList 0 .leaf [(.int .i64 52), .nils, (.int .i64 0), (.str 0 0), (.str 0 0), .nils, .nils, .nils]))), q21], (.tup []), 15759, [q19, q7, q21, q10, q8, q11, q12, q13, q14, q15, q9]⟩
theorem I13695_ok : InOk Tryz.prog I13695 := InOk.of_run (K := K_MQ3a) (n := 5000) mixed K_MQ3a_ok (by kernel_rfl) (by as_aux_lemma => kernel_rfl)

noncomputable def S4708 : Sum := ⟨(.tup [(.so 5 0 1 4), (.agg [(.int .u8 76), (.str 16 137483774941304901841256615957136564586), (.int .i64 0), (.int .u8 0)]), (.bool true)]), 46, [q43]⟩
theorem S4708_ok : SumOk Tryz.prog 116 [(.str 21 86819084919626801046990092479340231442403959593512)] S4708 := SumOk.of_run (K := K_MQ3a) (n := 5000) (keep := [5]) mixed K_MQ3a_ok (by kernel_rfl) (by as_aux_lemma => kernel_rfl)

noncomputable def S4602 : Sum := ⟨(.tup [(.so 5 0 1 4), (.agg [(.int .u8 76), (.str 16 137483774941304901841256615957136564586), (.int .i64 0), (.int .u8 0)]), (.bool true)]), 46, [q44]⟩
theorem S4602_ok : SumOk Tryz.prog 116 [(.str 21 86819084919626801046990092479340231442403959587624)] S4602 := SumOk.of_run (K := K_MQ3a) (n := 5000) (keep := [5]) mixed K_MQ3a_ok (by kernel_rfl) (by as_aux_lemma => kernel_rfl)

noncomputable def S4497 : Sum := ⟨(.tup [(.so 5 0 1 4), (.agg [(.int .u8 76), (.str 16 137483774941304901841256615957136564586), (.int .i64 0), (.int .u8 0)]), (.bool true)]), 46, [q45]⟩
theorem S4497_ok : SumOk Tryz.prog 116 [(.str 21 86819084919626801046990092479340231442403959589416)] S4497 := SumOk.of_run (K := K_MQ3a) (n := 5000) (keep := [5]) mixed K_MQ3a_ok (by kernel_rfl) (by as_aux_lemma => kernel_rfl)

noncomputable def S4393 : Sum := ⟨(.tup [(.so 5 0 1 4), (.agg [(.int .u8 76), (.str 16 137483774941304901841256615957136564586), (.int .i64 0), (.int .u8 0)]), (.bool true)]), 46, [q46]⟩
theorem S4393_ok : SumOk Tryz.prog 116 [(.str 21 86819084919626801046990092479340231442403959589160)] S4393 := SumOk.of_run (K := K_MQ3a) (n := 5000) (keep := [5]) mixed K_MQ3a_ok (by kernel_rfl) (by as_aux_lemma => kernel_rfl)

noncomputable def S3926 : Sum := ⟨(.tup [(.so 40 0 1 4), (.agg [(.int .u8 76), (.str 16 137483774941304901841256615957136564586), (.int .i64 0), (.int .u8 0)]), (.bool true)]), 81, [q47]⟩
theorem S3926_ok : SumOk Tryz.prog 116 [(.str 38 7563008949852303964789352941943798567979605024965410989119580465925847369046121658274434088)] S3926 := SumOk.of_run (K := K_MQ3a) (n := 5000) (keep := [40]) mixed K_MQ3a_ok (by kernel_rfl) (by as_aux_lemma => kernel_rfl)

noncomputable def S3137 : Sum := ⟨(.tup [.nils, (.agg [(.int .u8 76), (.str 16 137483774941304901841256615957136564586), (.int .i64 0), (.int .u8 0)]), (.bool true)]), 41, []⟩
theorem S3137_ok : SumOk Tryz.prog 116 [(.str 20 339137050467292191589805048747422779071890467112)] S3137 := SumOk.of_run (K := K_MQ3a) (n := 5000) (keep := []) mixed K_MQ3a_ok (by kernel_rfl) (by as_aux_lemma => kernel_rfl)

noncomputable def tab_MQ3a : List (FuncId × SRows) := (116, [([(.str 21 86819084919626801046990092479340231442403959593512)], S4708), ([(.str 21 86819084919626801046990092479340231442403959587624)], S4602), ([(.str 21 86819084919626801046990092479340231442403959589416)], S4497), ([(.str 21 86819084919626801046990092479340231442403959589160)], S4393), ([(.str 38 7563008949852303964789352941943798567979605024965410989119580465925847369046121658274434088)], S3926), ([(.str 20 339137050467292191589805048747422779071890467112)], S3137)]) :: (374, [([(.str 3 4807515), (.str 19 1325882814640121117987526085474017769452883035)], S15936)]) :: []
theorem tab_MQ3a_ok : TabOk Tryz.prog tab_MQ3a := (TabOk.cons (RowsOk.cons S4708_ok (RowsOk.cons S4602_ok (RowsOk.cons S4497_ok (RowsOk.cons S4393_ok (RowsOk.cons S3926_ok (RowsOk.cons S3137_ok RowsOk.nil)))))) (TabOk.cons (RowsOk.cons S15936_ok RowsOk.nil) TabOk.nil))
noncomputable def H_MQ3a : Hand := ((Hand.at 68 (inHand I13695)).or (sumsHand tab_MQ3a))
theorem H_MQ3a_ok : HandOk Tryz.prog H_MQ3a := (HandOk.or (HandOk.at 68 (inHand_ok I13695_ok (by kernel_rfl))) (sumsHand_ok tab_MQ3a_ok))
end Go.Proofs.YthgncmohimdbmaaGreatDoor.mq
