/-
  Contracts of calls, by the kernel.
-/
import Derived.Test.YtaajjlnckckkkaaGreatDoorXN3
import Derived.Test.YtaajjlnckckkkaaGreatDoorProg
import Derived.KernelRfl
import Derived.Test.YtaajjlnckckkkaaGreatDoorTM0a
import Derived.Test.YtaajjlnckckkkaaGreatDoorTM1a
import Derived.Test.YtaajjlnckckkkaaGreatDoorTM2a
import Derived.Test.YtaajjlnckckkkaaGreatDoorTM6a
set_option linter.unusedSectionVars false
set_option linter.unusedVariables false
set_option maxRecDepth 1000000
set_option maxHeartbeats 0
namespace Go.Proofs.YtaajjlnckckkkaaGreatDoor.tm
open Go.X Go.RowKit
variable [Tab]
noncomputable def K_TM7a : Hand := ((H_TM6a).or ((H_TM2a).or H_TM1a))
theorem K_TM7a_ok : HandOk Tryz.prog K_TM7a := (HandOk.or H_TM6a_ok (HandOk.or H_TM2a_ok H_TM1a_ok))

noncomputable def S2 : Sum := ⟨(.bool true), 6868, []⟩
theorem S2_ok : SumOk Tryz.prog 43 [] S2 := SumOk.of_run (K := K_TM7a) (n := 5000) (keep := []) mixed K_TM7a_ok (by kernel_rfl) (by as_aux_lemma => kernel_rfl)

noncomputable def tab_TM7a : List (FuncId × SRows) := (43, [([], S2)]) :: []
theorem tab_TM7a_ok : TabOk Tryz.prog tab_TM7a := (TabOk.cons (RowsOk.cons S2_ok RowsOk.nil) TabOk.nil)
noncomputable def H_TM7a : Hand := (sumsHand tab_TM7a)
theorem H_TM7a_ok : HandOk Tryz.prog H_TM7a := (sumsHand_ok tab_TM7a_ok)
end Go.Proofs.YtaajjlnckckkkaaGreatDoor.tm
