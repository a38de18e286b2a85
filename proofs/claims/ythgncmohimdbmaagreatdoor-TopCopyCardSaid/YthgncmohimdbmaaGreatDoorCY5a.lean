/-
  Contracts of calls, by the kernel.
-/
import Derived.Test.YthgncmohimdbmaaGreatDoorCYNN
import Derived.Test.YthgncmohimdbmaaGreatDoorXN3
import Derived.Test.YthgncmohimdbmaaGreatDoorProg
import Derived.KernelRfl
import Derived.Test.YthgncmohimdbmaaGreatDoorCY0a
import Derived.Test.YthgncmohimdbmaaGreatDoorCY0c
import Derived.Test.YthgncmohimdbmaaGreatDoorCY1e
import Derived.Test.YthgncmohimdbmaaGreatDoorCY4a
set_option linter.unusedSectionVars false
set_option linter.unusedVariables false
set_option maxRecDepth 1000000
set_option maxHeartbeats 0
namespace Go.Proofs.YthgncmohimdbmaaGreatDoor.cy
open Go.X Go.RowKit
variable [Tab]
noncomputable def K_CY5a : Hand := ((H_CY4a).or ((H_CY1e).or H_CY0c))
theorem K_CY5a_ok : HandOk Tryz.prog K_CY5a := (HandOk.or H_CY4a_ok (HandOk.or H_CY1e_ok H_CY0c_ok))

noncomputable def S2 : Sum := ⟨bT, 6868, []⟩
theorem S2_ok : SumOk Tryz.prog 34 [] S2 := SumOk.of_run (K := K_CY5a) (n := 5000) (keep := []) mixed K_CY5a_ok (by kernel_rfl) (by as_aux_lemma => kernel_rfl)

noncomputable def tab_CY5a : List (FuncId × SRows) := (34, [([], S2)]) :: []
theorem tab_CY5a_ok : TabOk Tryz.prog tab_CY5a := (TabOk.cons (RowsOk.cons S2_ok RowsOk.nil) TabOk.nil)
noncomputable def H_CY5a : Hand := (sumsHand tab_CY5a)
theorem H_CY5a_ok : HandOk Tryz.prog H_CY5a := (sumsHand_ok tab_CY5a_ok)
end Go.Proofs.YthgncmohimdbmaaGreatDoor.cy
