/-
  Contracts of calls, by the kernel.
-/
import Derived.Test.YtbgkinjicnnkiaaGreatDoorXN3
import Derived.Test.YtbgkinjicnnkiaaGreatDoorProg
import Derived.KernelRfl
import Derived.Test.YtbgkinjicnnkiaaGreatDoorHQ0a
import Derived.Test.YtbgkinjicnnkiaaGreatDoorHQ4a
set_option linter.unusedSectionVars false
set_option linter.unusedVariables false
set_option maxRecDepth 1000000
set_option maxHeartbeats 0
namespace Go.Proofs.YtbgkinjicnnkiaaGreatDoor.hq
open Go.X Go.RowKit
variable [Tab]
noncomputable def K_HQ5a : Hand := H_HQ4a
theorem K_HQ5a_ok : HandOk Tryz.prog K_HQ5a := H_HQ4a_ok

noncomputable def I1 : In := ⟨6, [], 0, [], (.bool true), 6868, []⟩
theorem I1_ok : InOk Tryz.prog I1 := InOk.of_run (K := K_HQ5a) (n := 5000) mixed K_HQ5a_ok (by kernel_rfl) (by as_aux_lemma => kernel_rfl)
noncomputable def H_HQ5a : Hand := (Hand.at 6 (inHand I1))
theorem H_HQ5a_ok : HandOk Tryz.prog H_HQ5a := (HandOk.at 6 (inHand_ok I1_ok (by kernel_rfl)))
end Go.Proofs.YtbgkinjicnnkiaaGreatDoor.hq
