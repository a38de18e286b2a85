/-
  Contracts of calls, by the kernel.
-/
import Derived.Test.YtkckdnjocncnhaaGreatDoorXN3
import Derived.Test.YtkckdnjocncnhaaGreatDoorProg
import Derived.KernelRfl
import Derived.Test.YtkckdnjocncnhaaGreatDoorEC0a
import Derived.Test.YtkckdnjocncnhaaGreatDoorEC0b
import Derived.Test.YtkckdnjocncnhaaGreatDoorEC0c
import Derived.Test.YtkckdnjocncnhaaGreatDoorEC1b
import Derived.Test.YtkckdnjocncnhaaGreatDoorEC1c
set_option linter.unusedSectionVars false
set_option linter.unusedVariables false
set_option maxRecDepth 1000000
set_option maxHeartbeats 0
namespace Go.Proofs.YtkckdnjocncnhaaGreatDoor.ec
open Go.X Go.RowKit
variable [Tab]
noncomputable def K_EC2d : Hand := ((H_EC1c).or ((H_EC1b).or ((H_EC0c).or H_EC0b)))
theorem K_EC2d_ok : HandOk Tryz.prog K_EC2d := (HandOk.or H_EC1c_ok (HandOk.or H_EC1b_ok (HandOk.or H_EC0c_ok H_EC0b_ok)))

noncomputable def S4909 : Sum := ⟨(.tup [(.agg [(.int .u8 76), (.str 23 10956966084090815260342509131105871416374185281426186602), (.int .i64 0), (.int .u8 0)]), (.int .i64 25)]), 52, []⟩
theorem S4909_ok : SumOk Tryz.prog 218 [(.str 25 373153985705341413772959258306815421632630762655423140031052)] S4909 := SumOk.of_run (K := K_EC2d) (n := 5000) (keep := []) mixed K_EC2d_ok (by kernel_rfl) (by as_aux_lemma => kernel_rfl)

noncomputable def S4708 : Sum := ⟨(.tup [(.so 5 0 1 4), (.agg [(.int .u8 76), (.str 16 137483774941304901841256615957136564586), (.int .i64 0), (.int .u8 0)]), (.bool true)]), 46, [(5, (.cells 4 true [] (T.ofList 0 .leaf [(.int .u8 90), (.str 0 0), (.int .i64 0), (.int .u8 0)])))]⟩
theorem S4708_ok : SumOk Tryz.prog 157 [(.str 21 86819084919626801046990092479340231442403959593512)] S4708 := SumOk.of_run (K := K_EC2d) (n := 5000) (keep := [5]) mixed K_EC2d_ok (by kernel_rfl) (by as_aux_lemma => kernel_rfl)

noncomputable def S4602 : Sum := ⟨(.tup [(.so 5 0 1 4), (.agg [(.int .u8 76), (.str 16 137483774941304901841256615957136564586), (.int .i64 0), (.int .u8 0)]), (.bool true)]), 46, [(5, (.cells 4 true [] (T.ofList 0 .leaf [(.int .u8 67), (.str 0 0), (.int .i64 0), (.int .u8 0)])))]⟩
theorem S4602_ok : SumOk Tryz.prog 157 [(.str 21 86819084919626801046990092479340231442403959587624)] S4602 := SumOk.of_run (K := K_EC2d) (n := 5000) (keep := [5]) mixed K_EC2d_ok (by kernel_rfl) (by as_aux_lemma => kernel_rfl)

noncomputable def S4497 : Sum := ⟨(.tup [(.so 5 0 1 4), (.agg [(.int .u8 76), (.str 16 137483774941304901841256615957136564586), (.int .i64 0), (.int .u8 0)]), (.bool true)]), 46, [(5, (.cells 4 true [] (T.ofList 0 .leaf [(.int .u8 74), (.str 0 0), (.int .i64 0), (.int .u8 0)])))]⟩
theorem S4497_ok : SumOk Tryz.prog 157 [(.str 21 86819084919626801046990092479340231442403959589416)] S4497 := SumOk.of_run (K := K_EC2d) (n := 5000) (keep := [5]) mixed K_EC2d_ok (by kernel_rfl) (by as_aux_lemma => kernel_rfl)

noncomputable def S4393 : Sum := ⟨(.tup [(.so 5 0 1 4), (.agg [(.int .u8 76), (.str 16 137483774941304901841256615957136564586), (.int .i64 0), (.int .u8 0)]), (.bool true)]), 46, [(5, (.cells 4 true [] (T.ofList 0 .leaf [(.int .u8 73), (.str 0 0), (.int .i64 0), (.int .u8 0)])))]⟩
theorem S4393_ok : SumOk Tryz.prog 157 [(.str 21 86819084919626801046990092479340231442403959589160)] S4393 := SumOk.of_run (K := K_EC2d) (n := 5000) (keep := [5]) mixed K_EC2d_ok (by kernel_rfl) (by as_aux_lemma => kernel_rfl)

noncomputable def S3926 : Sum := ⟨(.tup [(.so 40 0 1 4), (.agg [(.int .u8 76), (.str 16 137483774941304901841256615957136564586), (.int .i64 0), (.int .u8 0)]), (.bool true)]), 81, [(40, (.cells 4 true [] (T.ofList 0 .leaf [(.int .u8 76), (.str 16 137483774941304901841256615957136564586), (.int .i64 0), (.int .u8 0)])))]⟩
theorem S3926_ok : SumOk Tryz.prog 157 [(.str 38 7563008949852303964789352941943798567979605024965410989119580465925847369046121658274434088)] S3926 := SumOk.of_run (K := K_EC2d) (n := 5000) (keep := [40]) mixed K_EC2d_ok (by kernel_rfl) (by as_aux_lemma => kernel_rfl)

noncomputable def tab_EC2d : List (FuncId × SRows) := (157, [([(.str 21 86819084919626801046990092479340231442403959593512)], S4708), ([(.str 21 86819084919626801046990092479340231442403959587624)], S4602), ([(.str 21 86819084919626801046990092479340231442403959589416)], S4497), ([(.str 21 86819084919626801046990092479340231442403959589160)], S4393), ([(.str 38 7563008949852303964789352941943798567979605024965410989119580465925847369046121658274434088)], S3926)]) :: (218, [([(.str 25 373153985705341413772959258306815421632630762655423140031052)], S4909)]) :: []
theorem tab_EC2d_ok : TabOk Tryz.prog tab_EC2d := (TabOk.cons (RowsOk.cons S4708_ok (RowsOk.cons S4602_ok (RowsOk.cons S4497_ok (RowsOk.cons S4393_ok (RowsOk.cons S3926_ok RowsOk.nil))))) (TabOk.cons (RowsOk.cons S4909_ok RowsOk.nil) TabOk.nil))
noncomputable def H_EC2d : Hand := (sumsHand tab_EC2d)
theorem H_EC2d_ok : HandOk Tryz.prog H_EC2d := (sumsHand_ok tab_EC2d_ok)
end Go.Proofs.YtkckdnjocncnhaaGreatDoor.ec
