/-
  Contracts of calls, by the kernel.
-/
import Derived.Test.YtnjpgmajapfjeaaGreatDoorXN3
import Derived.Test.YtnjpgmajapfjeaaGreatDoorProg
import Derived.KernelRfl
import Derived.Test.YtnjpgmajapfjeaaGreatDoorTA0a
import Derived.Test.YtnjpgmajapfjeaaGreatDoorTA2a
set_option linter.unusedSectionVars false
set_option linter.unusedVariables false
set_option maxRecDepth 1000000
set_option maxHeartbeats 0
namespace Go.Proofs.YtnjpgmajapfjeaaGreatDoor.ta
open Go.X Go.RowKit
variable [Tab]
noncomputable def K_TA3a : Hand := ((H_TA2a).or H_TA0a)
theorem K_TA3a_ok : HandOk Tryz.prog K_TA3a := (HandOk.or H_TA2a_ok H_TA0a_ok)

noncomputable def S1 : Sum := ⟨(.bool true), 3261, []⟩
theorem S1_ok : SumOk Tryz.prog 5 [] S1 := SumOk.of_run (K := K_TA3a) (n := 5000) (keep := []) mixed K_TA3a_ok (by kernel_rfl) (by as_aux_lemma => kernel_rfl)

noncomputable def tab_TA3a : List (FuncId × SRows) := (5, [([], S1)]) :: []
theorem tab_TA3a_ok : TabOk Tryz.prog tab_TA3a := (TabOk.cons (RowsOk.cons S1_ok RowsOk.nil) TabOk.nil)
noncomputable def H_TA3a : Hand := (sumsHand tab_TA3a)
theorem H_TA3a_ok : HandOk Tryz.prog H_TA3a := (sumsHand_ok tab_TA3a_ok)
end Go.Proofs.YtnjpgmajapfjeaaGreatDoor.ta
