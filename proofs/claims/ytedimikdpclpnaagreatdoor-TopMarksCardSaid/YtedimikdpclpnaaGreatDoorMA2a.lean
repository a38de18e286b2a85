/-
  Contracts of calls, by the kernel.
-/
import Derived.Test.YtedimikdpclpnaaGreatDoorXN3
import Derived.Test.YtedimikdpclpnaaGreatDoorProg
import Derived.KernelRfl
import Derived.Test.YtedimikdpclpnaaGreatDoorMA0a
import Derived.Test.YtedimikdpclpnaaGreatDoorMA1a
import Derived.Test.YtedimikdpclpnaaGreatDoorMA1b
set_option linter.unusedSectionVars false
set_option linter.unusedVariables false
set_option maxRecDepth 1000000
set_option maxHeartbeats 0
namespace Go.Proofs.YtedimikdpclpnaaGreatDoor.ma
open Go.X Go.RowKit
variable [Tab]
noncomputable def K_MA2a : Hand := ((H_MA1b).or ((H_MA1a).or H_MA0a))
theorem K_MA2a_ok : HandOk Tryz.prog K_MA2a := (HandOk.or H_MA1b_ok (HandOk.or H_MA1a_ok H_MA0a_ok))

noncomputable def I13733 : In := ⟨162, [(.ptr 14039 0)], 14040, [q9, q10, (14038, (.cells 8 false [] (T.ofList 0 .leaf [(.int .i64 52), .nils, (.int .i64 0), (.str 0 0), (.str 0 0), .nils, .nils, .nils]))), q11], (.tup []), 15162, [q9, (14037, (.cells 3 false [] (T.ofList 0 .leaf [(.so 14036 0 197 1), (.int .i64 197), (.bool false)]))), q0, q11, q1, q2, q3, q4, q5, q6]⟩
theorem I13733_ok : InOk Tryz.prog I13733 := InOk.of_run (K := K_MA2a) (n := 5000) mixed K_MA2a_ok (by kernel_rfl) (by as_aux_lemma => kernel_rfl)

noncomputable def S4909 : Sum := ⟨(.tup [(.agg [(.int .u8 76), (.str 23 10956966084090815260342509131105871416374185281426186602), (.int .i64 0), (.int .u8 0)]), (.int .i64 25)]), 52, []⟩
theorem S4909_ok : SumOk Tryz.prog 114 [(.str 25 373153985705341413772959258306815421632630762655423140031052)] S4909 := SumOk.of_run (K := K_MA2a) (n := 5000) (keep := []) mixed K_MA2a_ok (by kernel_rfl) (by as_aux_lemma => kernel_rfl)

noncomputable def S4708 : Sum := ⟨(.tup [(.so 5 0 1 4), (.agg [(.int .u8 76), (.str 16 137483774941304901841256615957136564586), (.int .i64 0), (.int .u8 0)]), (.bool true)]), 46, [q27]⟩
theorem S4708_ok : SumOk Tryz.prog 78 [(.str 21 86819084919626801046990092479340231442403959593512)] S4708 := SumOk.of_run (K := K_MA2a) (n := 5000) (keep := [5]) mixed K_MA2a_ok (by kernel_rfl) (by as_aux_lemma => kernel_rfl)

noncomputable def S4602 : Sum := ⟨(.tup [(.so 5 0 1 4), (.agg [(.int .u8 76), (.str 16 137483774941304901841256615957136564586), (.int .i64 0), (.int .u8 0)]), (.bool true)]), 46, [q28]⟩
theorem S4602_ok : SumOk Tryz.prog 78 [(.str 21 86819084919626801046990092479340231442403959587624)] S4602 := SumOk.of_run (K := K_MA2a) (n := 5000) (keep := [5]) mixed K_MA2a_ok (by kernel_rfl) (by as_aux_lemma => kernel_rfl)

noncomputable def S4497 : Sum := ⟨(.tup [(.so 5 0 1 4), (.agg [(.int .u8 76), (.str 16 137483774941304901841256615957136564586), (.int .i64 0), (.int .u8 0)]), (.bool true)]), 46, [q29]⟩
theorem S4497_ok : SumOk Tryz.prog 78 [(.str 21 86819084919626801046990092479340231442403959589416)] S4497 := SumOk.of_run (K := K_MA2a) (n := 5000) (keep := [5]) mixed K_MA2a_ok (by kernel_rfl) (by as_aux_lemma => kernel_rfl)

noncomputable def S4393 : Sum := ⟨(.tup [(.so 5 0 1 4), (.agg [(.int .u8 76), (.str 16 137483774941304901841256615957136564586), (.int .i64 0), (.int .u8 0)]), (.bool true)]), 46, [q8]⟩
theorem S4393_ok : SumOk Tryz.prog 78 [(.str 21 86819084919626801046990092479340231442403959589160)] S4393 := SumOk.of_run (K := K_MA2a) (n := 5000) (keep := [5]) mixed K_MA2a_ok (by kernel_rfl) (by as_aux_lemma => kernel_rfl)

noncomputable def S3926 : Sum := ⟨(.tup [(.so 40 0 1 4), (.agg [(.int .u8 76), (.str 16 137483774941304901841256615957136564586), (.int .i64 0), (.int .u8 0)]), (.bool true)]), 81, [q30]⟩
theorem S3926_ok : SumOk Tryz.prog 78 [(.str 38 7563008949852303964789352941943798567979605024965410989119580465925847369046121658274434088)] S3926 := SumOk.of_run (K := K_MA2a) (n := 5000) (keep := [40]) mixed K_MA2a_ok (by kernel_rfl) (by as_aux_lemma => kernel_rfl)

noncomputable def tab_MA2a : List (FuncId × SRows) := (78, [([(.str 21 86819084919626801046990092479340231442403959593512)], S4708), ([(.str 21 86819084919626801046990092479340231442403959587624)], S4602), ([(.str 21 86819084919626801046990092479340231442403959589416)], S4497), ([(.str 21 86819084919626801046990092479340231442403959589160)], S4393), ([(.str 38 7563008949852303964789352941943798567979605024965410989119580465925847369046121658274434088)], S3926)]) :: (114, [([(.str 25 373153985705341413772959258306815421632630762655423140031052)], S4909)]) :: []
theorem tab_MA2a_ok : TabOk Tryz.prog tab_MA2a := (TabOk.cons (RowsOk.cons S4708_ok (RowsOk.cons S4602_ok (RowsOk.cons S4497_ok (RowsOk.cons S4393_ok (RowsOk.cons S3926_ok RowsOk.nil))))) (TabOk.cons (RowsOk.cons S4909_ok RowsOk.nil) TabOk.nil))
noncomputable def H_MA2a : Hand := ((Hand.at 162 (inHand I13733)).or (sumsHand tab_MA2a))
theorem H_MA2a_ok : HandOk Tryz.prog H_MA2a := (HandOk.or (HandOk.at 162 (inHand_ok I13733_ok (by kernel_rfl))) (sumsHand_ok tab_MA2a_ok))
end Go.Proofs.YtedimikdpclpnaaGreatDoor.ma
