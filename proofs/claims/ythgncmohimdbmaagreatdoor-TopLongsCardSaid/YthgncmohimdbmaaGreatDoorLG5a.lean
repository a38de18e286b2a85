/-
  Contracts of calls, by the kernel.
-/
import Derived.Test.YthgncmohimdbmaaGreatDoorXN3
import Derived.Test.YthgncmohimdbmaaGreatDoorProg
import Derived.KernelRfl
import Derived.Test.YthgncmohimdbmaaGreatDoorLG0a
import Derived.Test.YthgncmohimdbmaaGreatDoorLG1b
import Derived.Test.YthgncmohimdbmaaGreatDoorLG4a
set_option linter.unusedSectionVars false
set_option linter.unusedVariables false
set_option maxRecDepth 1000000
set_option maxHeartbeats 0
namespace Go.Proofs.YthgncmohimdbmaaGreatDoor.lg
open Go.X Go.RowKit
variable [Tab]
noncomputable def K_LG5a : Hand := ((H_LG4a).or ((H_LG1b).or H_LG0a))
theorem K_LG5a_ok : HandOk Tryz.prog K_LG5a := (HandOk.or H_LG4a_ok (HandOk.or H_LG1b_ok H_LG0a_ok))

noncomputable def S2 : Sum := ⟨(.bool true), 6868, []⟩
theorem S2_ok : SumOk Tryz.prog 34 [] S2 := SumOk.of_run (K := K_LG5a) (n := 5000) (keep := []) mixed K_LG5a_ok (by kernel_rfl) (by as_aux_lemma => kernel_rfl)

noncomputable def tab_LG5a : List (FuncId × SRows) := (34, [([], S2)]) :: []
theorem tab_LG5a_ok : TabOk Tryz.prog tab_LG5a := (TabOk.cons (RowsOk.cons S2_ok RowsOk.nil) TabOk.nil)
noncomputable def H_LG5a : Hand := (sumsHand tab_LG5a)
theorem H_LG5a_ok : HandOk Tryz.prog H_LG5a := (sumsHand_ok tab_LG5a_ok)
end Go.Proofs.YthgncmohimdbmaaGreatDoor.lg
