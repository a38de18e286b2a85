/-
  Contracts of calls, by the kernel.
-/
import Derived.Test.YtedimikdpclpnaaGreatDoorXN3
import Derived.Test.YtedimikdpclpnaaGreatDoorProg
import Derived.KernelRfl
import Derived.Test.YtedimikdpclpnaaGreatDoorCO0a
import Derived.Test.YtedimikdpclpnaaGreatDoorCO1a
import Derived.Test.YtedimikdpclpnaaGreatDoorCO1b
set_option linter.unusedSectionVars false
set_option linter.unusedVariables false
set_option maxRecDepth 1000000
set_option maxHeartbeats 0
namespace Go.Proofs.YtedimikdpclpnaaGreatDoor.co
open Go.X Go.RowKit
variable [Tab]
noncomputable def K_CO2a : Hand := ((H_CO1b).or ((H_CO1a).or H_CO0a))
theorem K_CO2a_ok : HandOk Tryz.prog K_CO2a := (HandOk.or H_CO1b_ok (HandOk.or H_CO1a_ok H_CO0a_ok))

noncomputable def I14645 : In := ⟨174, [(.ptr 7123 0), (.ptr 14024 0), (.int .i64 0)], 15369, [q1, q0, q2, q3, q4, q5, q6, q7], (.tup [(.so 17505 0 29 3), (.bool true)]), 17555, [q1, q0, q2, q3, q4, q5, q6, q7]⟩
theorem I14645_ok : InOk Tryz.prog I14645 := InOk.of_run (K := K_CO2a) (n := 5000) mixed K_CO2a_ok (by kernel_rfl) (by as_aux_lemma => kernel_rfl)

noncomputable def I14132 : In := ⟨379, [(.so 14314 0 103 1), (.sl 14026 0 13 13), (.int .i64 52), (.int .i64 1)], 14316, [q8, q9], (.tup [(.agg [(.int .i64 5), (.int .i64 4), (.so 14323 0 43 1), .nils, (.so 15352 0 4 4)]), (.bool true)]), 15353, [q8, q9, q0, q2, q3, q4, q5, q6]⟩
theorem I14132_ok : InOk Tryz.prog I14132 := InOk.of_run (K := K_CO2a) (n := 5000) mixed K_CO2a_ok (by kernel_rfl) (by as_aux_lemma => kernel_rfl)

noncomputable def S4909 : Sum := ⟨(.tup [(.agg [(.int .u8 76), (.str 23 10956966084090815260342509131105871416374185281426186602), (.int .i64 0), (.int .u8 0)]), (.int .i64 25)]), 52, []⟩
theorem S4909_ok : SumOk Tryz.prog 114 [(.str 25 373153985705341413772959258306815421632630762655423140031052)] S4909 := SumOk.of_run (K := K_CO2a) (n := 5000) (keep := []) mixed K_CO2a_ok (by kernel_rfl) (by as_aux_lemma => kernel_rfl)

noncomputable def S4708 : Sum := ⟨(.tup [(.so 5 0 1 4), (.agg [(.int .u8 76), (.str 16 137483774941304901841256615957136564586), (.int .i64 0), (.int .u8 0)]), (.bool true)]), 46, [q28]⟩
theorem S4708_ok : SumOk Tryz.prog 78 [(.str 21 86819084919626801046990092479340231442403959593512)] S4708 := SumOk.of_run (K := K_CO2a) (n := 5000) (keep := [5]) mixed K_CO2a_ok (by kernel_rfl) (by as_aux_lemma => kernel_rfl)

noncomputable def S4602 : Sum := ⟨(.tup [(.so 5 0 1 4), (.agg [(.int .u8 76), (.str 16 137483774941304901841256615957136564586), (.int .i64 0), (.int .u8 0)]), (.bool true)]), 46, [q29]⟩
theorem S4602_ok : SumOk Tryz.prog 78 [(.str 21 86819084919626801046990092479340231442403959587624)] S4602 := SumOk.of_run (K := K_CO2a) (n := 5000) (keep := [5]) mixed K_CO2a_ok (by kernel_rfl) (by as_aux_lemma => kernel_rfl)

noncomputable def S4497 : Sum := ⟨(.tup [(.so 5 0 1 4), (.agg [(.int .u8 76), (.str 16 137483774941304901841256615957136564586), (.int .i64 0), (.int .u8 0)]), (.bool true)]), 46, [q30]⟩
theorem S4497_ok : SumOk Tryz.prog 78 [(.str 21 86819084919626801046990092479340231442403959589416)] S4497 := SumOk.of_run (K := K_CO2a) (n := 5000) (keep := [5]) mixed K_CO2a_ok (by kernel_rfl) (by as_aux_lemma => kernel_rfl)

noncomputable def S4393 : Sum := ⟨(.tup [(.so 5 0 1 4), (.agg [(.int .u8 76), (.str 16 137483774941304901841256615957136564586), (.int .i64 0), (.int .u8 0)]), (.bool true)]), 46, [q10]⟩
theorem S4393_ok : SumOk Tryz.prog 78 [(.str 21 86819084919626801046990092479340231442403959589160)] S4393 := SumOk.of_run (K := K_CO2a) (n := 5000) (keep := [5]) mixed K_CO2a_ok (by kernel_rfl) (by as_aux_lemma => kernel_rfl)

noncomputable def S3926 : Sum := ⟨(.tup [(.so 40 0 1 4), (.agg [(.int .u8 76), (.str 16 137483774941304901841256615957136564586), (.int .i64 0), (.int .u8 0)]), (.bool true)]), 81, [q31]⟩
theorem S3926_ok : SumOk Tryz.prog 78 [(.str 38 7563008949852303964789352941943798567979605024965410989119580465925847369046121658274434088)] S3926 := SumOk.of_run (K := K_CO2a) (n := 5000) (keep := [40]) mixed K_CO2a_ok (by kernel_rfl) (by as_aux_lemma => kernel_rfl)

noncomputable def tab_CO2a : List (FuncId × SRows) := (78, [([(.str 21 86819084919626801046990092479340231442403959593512)], S4708), ([(.str 21 86819084919626801046990092479340231442403959587624)], S4602), ([(.str 21 86819084919626801046990092479340231442403959589416)], S4497), ([(.str 21 86819084919626801046990092479340231442403959589160)], S4393), ([(.str 38 7563008949852303964789352941943798567979605024965410989119580465925847369046121658274434088)], S3926)]) :: (114, [([(.str 25 373153985705341413772959258306815421632630762655423140031052)], S4909)]) :: []
theorem tab_CO2a_ok : TabOk Tryz.prog tab_CO2a := (TabOk.cons (RowsOk.cons S4708_ok (RowsOk.cons S4602_ok (RowsOk.cons S4497_ok (RowsOk.cons S4393_ok (RowsOk.cons S3926_ok RowsOk.nil))))) (TabOk.cons (RowsOk.cons S4909_ok RowsOk.nil) TabOk.nil))
noncomputable def H_CO2a : Hand := (((Hand.at 379 (inHand I14132)).or (Hand.at 174 (inHand I14645))).or (sumsHand tab_CO2a))
theorem H_CO2a_ok : HandOk Tryz.prog H_CO2a := (HandOk.or (HandOk.or (HandOk.at 379 (inHand_ok I14132_ok (by kernel_rfl))) (HandOk.at 174 (inHand_ok I14645_ok (by kernel_rfl)))) (sumsHand_ok tab_CO2a_ok))
end Go.Proofs.YtedimikdpclpnaaGreatDoor.co
