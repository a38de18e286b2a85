/-
  Contracts of calls, by the kernel.
-/
import Derived.Test.YtkkaifeiopjjdaaGreatDoorXN3
import Derived.Test.YtkkaifeiopjjdaaGreatDoorProg
import Derived.KernelRfl
import Derived.Test.YtkkaifeiopjjdaaGreatDoorBR0a
import Derived.Test.YtkkaifeiopjjdaaGreatDoorBR1a
import Derived.Test.YtkkaifeiopjjdaaGreatDoorBR2a
set_option linter.unusedSectionVars false
set_option linter.unusedVariables false
set_option maxRecDepth 1000000
set_option maxHeartbeats 0
namespace Go.Proofs.YtkkaifeiopjjdaaGreatDoor.br
open Go.X Go.RowKit
variable [Tab]
noncomputable def K_BR3a : Hand := ((H_BR2a).or H_BR1a)
theorem K_BR3a_ok : HandOk Tryz.prog K_BR3a := (HandOk.or H_BR2a_ok H_BR1a_ok)

noncomputable def S4704 : Sum := ⟨(.tup [(.so 5 0 1 4), (.agg [(.int .u8 76), (.str 16 137483774941304901841256615957136564586), (.int .i64 0), (.int .u8 0)]), (.bool true)]), 46, [q15]⟩
theorem S4704_ok : SumOk Tryz.prog 101 [(.str 21 86819084919626801046990092479340231442403959593512)] S4704 := SumOk.of_run (K := K_BR3a) (n := 5000) (keep := [5]) mixed K_BR3a_ok (by kernel_rfl) (by as_aux_lemma => kernel_rfl)

noncomputable def S4598 : Sum := ⟨(.tup [(.so 5 0 1 4), (.agg [(.int .u8 76), (.str 16 137483774941304901841256615957136564586), (.int .i64 0), (.int .u8 0)]), (.bool true)]), 46, [q16]⟩
theorem S4598_ok : SumOk Tryz.prog 101 [(.str 21 86819084919626801046990092479340231442403959587624)] S4598 := SumOk.of_run (K := K_BR3a) (n := 5000) (keep := [5]) mixed K_BR3a_ok (by kernel_rfl) (by as_aux_lemma => kernel_rfl)

noncomputable def S4493 : Sum := ⟨(.tup [(.so 5 0 1 4), (.agg [(.int .u8 76), (.str 16 137483774941304901841256615957136564586), (.int .i64 0), (.int .u8 0)]), (.bool true)]), 46, [q17]⟩
theorem S4493_ok : SumOk Tryz.prog 101 [(.str 21 86819084919626801046990092479340231442403959589416)] S4493 := SumOk.of_run (K := K_BR3a) (n := 5000) (keep := [5]) mixed K_BR3a_ok (by kernel_rfl) (by as_aux_lemma => kernel_rfl)

noncomputable def S4389 : Sum := ⟨(.tup [(.so 5 0 1 4), (.agg [(.int .u8 76), (.str 16 137483774941304901841256615957136564586), (.int .i64 0), (.int .u8 0)]), (.bool true)]), 46, [q18]⟩
theorem S4389_ok : SumOk Tryz.prog 101 [(.str 21 86819084919626801046990092479340231442403959589160)] S4389 := SumOk.of_run (K := K_BR3a) (n := 5000) (keep := [5]) mixed K_BR3a_ok (by kernel_rfl) (by as_aux_lemma => kernel_rfl)

noncomputable def S3922 : Sum := ⟨(.tup [(.so 40 0 1 4), (.agg [(.int .u8 76), (.str 16 137483774941304901841256615957136564586), (.int .i64 0), (.int .u8 0)]), (.bool true)]), 81, [q19]⟩
theorem S3922_ok : SumOk Tryz.prog 101 [(.str 38 7563008949852303964789352941943798567979605024965410989119580465925847369046121658274434088)] S3922 := SumOk.of_run (K := K_BR3a) (n := 5000) (keep := [40]) mixed K_BR3a_ok (by kernel_rfl) (by as_aux_lemma => kernel_rfl)

noncomputable def S3133 : Sum := ⟨(.tup [.nils, (.agg [(.int .u8 76), (.str 16 137483774941304901841256615957136564586), (.int .i64 0), (.int .u8 0)]), (.bool true)]), 41, []⟩
theorem S3133_ok : SumOk Tryz.prog 101 [(.str 20 339137050467292191589805048747422779071890467112)] S3133 := SumOk.of_run (K := K_BR3a) (n := 5000) (keep := []) mixed K_BR3a_ok (by kernel_rfl) (by as_aux_lemma => kernel_rfl)

noncomputable def tab_BR3a : List (FuncId × SRows) := (101, [([(.str 21 86819084919626801046990092479340231442403959593512)], S4704), ([(.str 21 86819084919626801046990092479340231442403959587624)], S4598), ([(.str 21 86819084919626801046990092479340231442403959589416)], S4493), ([(.str 21 86819084919626801046990092479340231442403959589160)], S4389), ([(.str 38 7563008949852303964789352941943798567979605024965410989119580465925847369046121658274434088)], S3922), ([(.str 20 339137050467292191589805048747422779071890467112)], S3133)]) :: []
theorem tab_BR3a_ok : TabOk Tryz.prog tab_BR3a := (TabOk.cons (RowsOk.cons S4704_ok (RowsOk.cons S4598_ok (RowsOk.cons S4493_ok (RowsOk.cons S4389_ok (RowsOk.cons S3922_ok (RowsOk.cons S3133_ok RowsOk.nil)))))) TabOk.nil)
noncomputable def H_BR3a : Hand := (sumsHand tab_BR3a)
theorem H_BR3a_ok : HandOk Tryz.prog H_BR3a := (sumsHand_ok tab_BR3a_ok)
end Go.Proofs.YtkkaifeiopjjdaaGreatDoor.br
