/-
  Contracts of calls, by the kernel.
-/
import Derived.Test.YtedimikdpclpnaaGreatDoorXN3
import Derived.Test.YtedimikdpclpnaaGreatDoorProg
import Derived.KernelRfl
import Derived.Test.YtedimikdpclpnaaGreatDoorFU0a
import Derived.Test.YtedimikdpclpnaaGreatDoorFU1a
import Derived.Test.YtedimikdpclpnaaGreatDoorFU1b
set_option linter.unusedSectionVars false
set_option linter.unusedVariables false
set_option maxRecDepth 1000000
set_option maxHeartbeats 0
namespace Go.Proofs.YtedimikdpclpnaaGreatDoor.fu
open Go.X Go.RowKit
variable [Tab]
noncomputable def K_FU2a : Hand := ((H_FU1b).or ((H_FU1a).or H_FU0a))
theorem K_FU2a_ok : HandOk Tryz.prog K_FU2a := (HandOk.or H_FU1b_ok (HandOk.or H_FU1a_ok H_FU0a_ok))

noncomputable def I13645 : In := ⟨162, [(.ptr 13842 0)], 13843, [q8, (13840, (.cells 3 false [] (T.ofList 0 .leaf [(.so 13839 0 138 1), (.int .i64 0), (.bool false)]))), (13841, (.cells 8 false [] (T.ofList 0 .leaf [(.int .i64 52), .nils, (.int .i64 0), (.str 0 0), (.str 0 0), .nils, .nils, .nils]))), q9], (.tup []), 14517, [q8, q0, q9, q1, q2, q3, q4]⟩
theorem I13645_ok : InOk Tryz.prog I13645 := InOk.of_run (K := K_FU2a) (n := 5000) mixed K_FU2a_ok (by kernel_rfl) (by as_aux_lemma => kernel_rfl)

noncomputable def S4909 : Sum := ⟨(.tup [(.agg [(.int .u8 76), (.str 23 10956966084090815260342509131105871416374185281426186602), (.int .i64 0), (.int .u8 0)]), (.int .i64 25)]), 52, []⟩
theorem S4909_ok : SumOk Tryz.prog 114 [(.str 25 373153985705341413772959258306815421632630762655423140031052)] S4909 := SumOk.of_run (K := K_FU2a) (n := 5000) (keep := []) mixed K_FU2a_ok (by kernel_rfl) (by as_aux_lemma => kernel_rfl)

noncomputable def S4708 : Sum := ⟨(.tup [(.so 5 0 1 4), (.agg [(.int .u8 76), (.str 16 137483774941304901841256615957136564586), (.int .i64 0), (.int .u8 0)]), (.bool true)]), 46, [q25]⟩
theorem S4708_ok : SumOk Tryz.prog 78 [(.str 21 86819084919626801046990092479340231442403959593512)] S4708 := SumOk.of_run (K := K_FU2a) (n := 5000) (keep := [5]) mixed K_FU2a_ok (by kernel_rfl) (by as_aux_lemma => kernel_rfl)

noncomputable def S4602 : Sum := ⟨(.tup [(.so 5 0 1 4), (.agg [(.int .u8 76), (.str 16 137483774941304901841256615957136564586), (.int .i64 0), (.int .u8 0)]), (.bool true)]), 46, [q26]⟩
theorem S4602_ok : SumOk Tryz.prog 78 [(.str 21 86819084919626801046990092479340231442403959587624)] S4602 := SumOk.of_run (K := K_FU2a) (n := 5000) (keep := [5]) mixed K_FU2a_ok (by kernel_rfl) (by as_aux_lemma => kernel_rfl)

noncomputable def S4497 : Sum := ⟨(.tup [(.so 5 0 1 4), (.agg [(.int .u8 76), (.str 16 137483774941304901841256615957136564586), (.int .i64 0), (.int .u8 0)]), (.bool true)]), 46, [q27]⟩
theorem S4497_ok : SumOk Tryz.prog 78 [(.str 21 86819084919626801046990092479340231442403959589416)] S4497 := SumOk.of_run (K := K_FU2a) (n := 5000) (keep := [5]) mixed K_FU2a_ok (by kernel_rfl) (by as_aux_lemma => kernel_rfl)

noncomputable def S4393 : Sum := ⟨(.tup [(.so 5 0 1 4), (.agg [(.int .u8 76), (.str 16 137483774941304901841256615957136564586), (.int .i64 0), (.int .u8 0)]), (.bool true)]), 46, [q7]⟩
theorem S4393_ok : SumOk Tryz.prog 78 [(.str 21 86819084919626801046990092479340231442403959589160)] S4393 := SumOk.of_run (K := K_FU2a) (n := 5000) (keep := [5]) mixed K_FU2a_ok (by kernel_rfl) (by as_aux_lemma => kernel_rfl)

noncomputable def S3926 : Sum := ⟨(.tup [(.so 40 0 1 4), (.agg [(.int .u8 76), (.str 16 137483774941304901841256615957136564586), (.int .i64 0), (.int .u8 0)]), (.bool true)]), 81, [q28]⟩
theorem S3926_ok : SumOk Tryz.prog 78 [(.str 38 7563008949852303964789352941943798567979605024965410989119580465925847369046121658274434088)] S3926 := SumOk.of_run (K := K_FU2a) (n := 5000) (keep := [40]) mixed K_FU2a_ok (by kernel_rfl) (by as_aux_lemma => kernel_rfl)

noncomputable def tab_FU2a : List (FuncId × SRows) := (78, [([(.str 21 86819084919626801046990092479340231442403959593512)], S4708), ([(.str 21 86819084919626801046990092479340231442403959587624)], S4602), ([(.str 21 86819084919626801046990092479340231442403959589416)], S4497), ([(.str 21 86819084919626801046990092479340231442403959589160)], S4393), ([(.str 38 7563008949852303964789352941943798567979605024965410989119580465925847369046121658274434088)], S3926)]) :: (114, [([(.str 25 373153985705341413772959258306815421632630762655423140031052)], S4909)]) :: []
theorem tab_FU2a_ok : TabOk Tryz.prog tab_FU2a := (TabOk.cons (RowsOk.cons S4708_ok (RowsOk.cons S4602_ok (RowsOk.cons S4497_ok (RowsOk.cons S4393_ok (RowsOk.cons S3926_ok RowsOk.nil))))) (TabOk.cons (RowsOk.cons S4909_ok RowsOk.nil) TabOk.nil))
noncomputable def H_FU2a : Hand := ((Hand.at 162 (inHand I13645)).or (sumsHand tab_FU2a))
theorem H_FU2a_ok : HandOk Tryz.prog H_FU2a := (HandOk.or (HandOk.at 162 (inHand_ok I13645_ok (by kernel_rfl))) (sumsHand_ok tab_FU2a_ok))
end Go.Proofs.YtedimikdpclpnaaGreatDoor.fu
