/-
  Contracts of calls, by the kernel.
-/
import Derived.Test.YtedimikdpclpnaaGreatDoorXN3
import Derived.Test.YtedimikdpclpnaaGreatDoorProg
import Derived.KernelRfl
import Derived.Test.YtedimikdpclpnaaGreatDoorSU0a
import Derived.Test.YtedimikdpclpnaaGreatDoorSU1f
set_option linter.unusedSectionVars false
set_option linter.unusedVariables false
set_option maxRecDepth 1000000
set_option maxHeartbeats 0
namespace Go.Proofs.YtedimikdpclpnaaGreatDoor.su
open Go.X Go.RowKit
variable [Tab]
noncomputable def K_SU2c : Hand := ((H_SU1f).or H_SU0a)
theorem K_SU2c_ok : HandOk Tryz.prog K_SU2c := (HandOk.or H_SU1f_ok H_SU0a_ok)

noncomputable def S4497 : Sum := ⟨(.tup [(.so 5 0 1 4), (.agg [(.int .u8 76), (.str 16 137483774941304901841256615957136564586), (.int .i64 0), (.int .u8 0)]), (.bool true)]), 46, [(5, (.cells 4 true [] (T.ofList 0 .leaf [(.int .u8 74), (.str 0 0), (.int .i64 0), (.int .u8 0)])))]⟩
theorem S4497_ok : SumOk Tryz.prog 78 [(.str 21 86819084919626801046990092479340231442403959589416)] S4497 := SumOk.of_run (K := K_SU2c) (n := 5000) (keep := [5]) mixed K_SU2c_ok (by kernel_rfl) (by as_aux_lemma => kernel_rfl)

noncomputable def S4393 : Sum := ⟨(.tup [(.so 5 0 1 4), (.agg [(.int .u8 76), (.str 16 137483774941304901841256615957136564586), (.int .i64 0), (.int .u8 0)]), (.bool true)]), 46, [(5, (.cells 4 true [] (T.ofList 0 .leaf [(.int .u8 73), (.str 0 0), (.int .i64 0), (.int .u8 0)])))]⟩
theorem S4393_ok : SumOk Tryz.prog 78 [(.str 21 86819084919626801046990092479340231442403959589160)] S4393 := SumOk.of_run (K := K_SU2c) (n := 5000) (keep := [5]) mixed K_SU2c_ok (by kernel_rfl) (by as_aux_lemma => kernel_rfl)

noncomputable def S3926 : Sum := ⟨(.tup [(.so 40 0 1 4), (.agg [(.int .u8 76), (.str 16 137483774941304901841256615957136564586), (.int .i64 0), (.int .u8 0)]), (.bool true)]), 81, [(40, (.cells 4 true [] (T.ofList 0 .leaf [(.int .u8 76), (.str 16 137483774941304901841256615957136564586), (.int .i64 0), (.int .u8 0)])))]⟩
theorem S3926_ok : SumOk Tryz.prog 78 [(.str 38 7563008949852303964789352941943798567979605024965410989119580465925847369046121658274434088)] S3926 := SumOk.of_run (K := K_SU2c) (n := 5000) (keep := [40]) mixed K_SU2c_ok (by kernel_rfl) (by as_aux_lemma => kernel_rfl)

noncomputable def tab_SU2c : List (FuncId × SRows) := (78, [([(.str 21 86819084919626801046990092479340231442403959589416)], S4497), ([(.str 21 86819084919626801046990092479340231442403959589160)], S4393), ([(.str 38 7563008949852303964789352941943798567979605024965410989119580465925847369046121658274434088)], S3926)]) :: []
theorem tab_SU2c_ok : TabOk Tryz.prog tab_SU2c := (TabOk.cons (RowsOk.cons S4497_ok (RowsOk.cons S4393_ok (RowsOk.cons S3926_ok RowsOk.nil))) TabOk.nil)
noncomputable def H_SU2c : Hand := (sumsHand tab_SU2c)
theorem H_SU2c_ok : HandOk Tryz.prog H_SU2c := (sumsHand_ok tab_SU2c_ok)
end Go.Proofs.YtedimikdpclpnaaGreatDoor.su
