/-
  Contracts of calls, by the kernel.
-/
import Derived.Test.YtfkfmjlppllfoaaGreatDoorXN3
import Derived.Test.YtfkfmjlppllfoaaGreatDoorProg
import Derived.KernelRfl
import Derived.Test.YtfkfmjlppllfoaaGreatDoorSQ0a
import Derived.Test.YtfkfmjlppllfoaaGreatDoorSQ1a
set_option linter.unusedSectionVars false
set_option linter.unusedVariables false
set_option maxRecDepth 1000000
set_option maxHeartbeats 0
namespace Go.Proofs.YtfkfmjlppllfoaaGreatDoor.sq
open Go.X Go.RowKit
variable [Tab]
noncomputable def K_SQ2a : Hand := ((H_SQ1a).or H_SQ0a)
theorem K_SQ2a_ok : HandOk Tryz.prog K_SQ2a := (HandOk.or H_SQ1a_ok H_SQ0a_ok)

noncomputable def I14814 : In := ⟨291, [(.ptr 7164 0), (.ptr 14065 0), (.int .i64 0)], 15671, [q1, q2, q0, q3, q4, q5, q6, q7, q8], (.tup [(.so 18357 0 39 3), (.bool true)]), 18407, [q1, q2, q0, q3, q4, q5, q6, q7, q8]⟩
theorem I14814_ok : InOk Tryz.prog I14814 := InOk.of_run (K := K_SQ2a) (n := 5000) mixed K_SQ2a_ok (by kernel_rfl) (by as_aux_lemma => kernel_rfl)

noncomputable def I14139 : In := ⟨202, [(.so 14370 0 133 1), (.sl 14067 0 11 11), (.int .i64 52), (.int .i64 1)], 14372, [q2, q9], (.tup [(.agg [(.int .i64 3), (.int .i64 5), (.so 14379 0 57 1), .nils, (.so 15654 0 4 4)]), (.bool true)]), 15655, [q2, q9, q0, q3, q4, q5, q6, q7]⟩
theorem I14139_ok : InOk Tryz.prog I14139 := InOk.of_run (K := K_SQ2a) (n := 5000) mixed K_SQ2a_ok (by kernel_rfl) (by as_aux_lemma => kernel_rfl)

noncomputable def S4909 : Sum := ⟨(.tup [(.agg [(.int .u8 76), (.str 23 10956966084090815260342509131105871416374185281426186602), (.int .i64 0), (.int .u8 0)]), (.int .i64 25)]), 52, []⟩
theorem S4909_ok : SumOk Tryz.prog 212 [(.str 25 373153985705341413772959258306815421632630762655423140031052)] S4909 := SumOk.of_run (K := K_SQ2a) (n := 5000) (keep := []) mixed K_SQ2a_ok (by kernel_rfl) (by as_aux_lemma => kernel_rfl)

noncomputable def S4708 : Sum := ⟨(.tup [(.so 5 0 1 4), (.agg [(.int .u8 76), (.str 16 137483774941304901841256615957136564586), (.int .i64 0), (.int .u8 0)]), (.bool true)]), 46, [q28]⟩
theorem S4708_ok : SumOk Tryz.prog 120 [(.str 21 86819084919626801046990092479340231442403959593512)] S4708 := SumOk.of_run (K := K_SQ2a) (n := 5000) (keep := [5]) mixed K_SQ2a_ok (by kernel_rfl) (by as_aux_lemma => kernel_rfl)

noncomputable def S4602 : Sum := ⟨(.tup [(.so 5 0 1 4), (.agg [(.int .u8 76), (.str 16 137483774941304901841256615957136564586), (.int .i64 0), (.int .u8 0)]), (.bool true)]), 46, [q29]⟩
theorem S4602_ok : SumOk Tryz.prog 120 [(.str 21 86819084919626801046990092479340231442403959587624)] S4602 := SumOk.of_run (K := K_SQ2a) (n := 5000) (keep := [5]) mixed K_SQ2a_ok (by kernel_rfl) (by as_aux_lemma => kernel_rfl)

noncomputable def S4497 : Sum := ⟨(.tup [(.so 5 0 1 4), (.agg [(.int .u8 76), (.str 16 137483774941304901841256615957136564586), (.int .i64 0), (.int .u8 0)]), (.bool true)]), 46, [q30]⟩
theorem S4497_ok : SumOk Tryz.prog 120 [(.str 21 86819084919626801046990092479340231442403959589416)] S4497 := SumOk.of_run (K := K_SQ2a) (n := 5000) (keep := [5]) mixed K_SQ2a_ok (by kernel_rfl) (by as_aux_lemma => kernel_rfl)

noncomputable def S4393 : Sum := ⟨(.tup [(.so 5 0 1 4), (.agg [(.int .u8 76), (.str 16 137483774941304901841256615957136564586), (.int .i64 0), (.int .u8 0)]), (.bool true)]), 46, [q10]⟩
theorem S4393_ok : SumOk Tryz.prog 120 [(.str 21 86819084919626801046990092479340231442403959589160)] S4393 := SumOk.of_run (K := K_SQ2a) (n := 5000) (keep := [5]) mixed K_SQ2a_ok (by kernel_rfl) (by as_aux_lemma => kernel_rfl)

noncomputable def S3926 : Sum := ⟨(.tup [(.so 40 0 1 4), (.agg [(.int .u8 76), (.str 16 137483774941304901841256615957136564586), (.int .i64 0), (.int .u8 0)]), (.bool true)]), 81, [q31]⟩
theorem S3926_ok : SumOk Tryz.prog 120 [(.str 38 7563008949852303964789352941943798567979605024965410989119580465925847369046121658274434088)] S3926 := SumOk.of_run (K := K_SQ2a) (n := 5000) (keep := [40]) mixed K_SQ2a_ok (by kernel_rfl) (by as_aux_lemma => kernel_rfl)

noncomputable def tab_SQ2a : List (FuncId × SRows) := (120, [([(.str 21 86819084919626801046990092479340231442403959593512)], S4708), ([(.str 21 86819084919626801046990092479340231442403959587624)], S4602), ([(.str 21 86819084919626801046990092479340231442403959589416)], S4497), ([(.str 21 86819084919626801046990092479340231442403959589160)], S4393), ([(.str 38 7563008949852303964789352941943798567979605024965410989119580465925847369046121658274434088)], S3926)]) :: (212, [([(.str 25 373153985705341413772959258306815421632630762655423140031052)], S4909)]) :: []
theorem tab_SQ2a_ok : TabOk Tryz.prog tab_SQ2a := (TabOk.cons (RowsOk.cons S4708_ok (RowsOk.cons S4602_ok (RowsOk.cons S4497_ok (RowsOk.cons S4393_ok (RowsOk.cons S3926_ok RowsOk.nil))))) (TabOk.cons (RowsOk.cons S4909_ok RowsOk.nil) TabOk.nil))
noncomputable def H_SQ2a : Hand := (((Hand.at 202 (inHand I14139)).or (Hand.at 291 (inHand I14814))).or (sumsHand tab_SQ2a))
theorem H_SQ2a_ok : HandOk Tryz.prog H_SQ2a := (HandOk.or (HandOk.or (HandOk.at 202 (inHand_ok I14139_ok (by kernel_rfl))) (HandOk.at 291 (inHand_ok I14814_ok (by kernel_rfl)))) (sumsHand_ok tab_SQ2a_ok))
end Go.Proofs.YtfkfmjlppllfoaaGreatDoor.sq
