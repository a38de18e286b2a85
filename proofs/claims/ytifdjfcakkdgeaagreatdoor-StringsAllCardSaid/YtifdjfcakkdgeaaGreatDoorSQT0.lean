/-
  Contracts of calls, by the kernel.
-/
import Derived.Test.YtifdjfcakkdgeaaGreatDoorXN3
import Derived.Test.YtifdjfcakkdgeaaGreatDoorProg
import Derived.KernelRfl
import Derived.Test.YtifdjfcakkdgeaaGreatDoorSQ1a
import Derived.Test.YtifdjfcakkdgeaaGreatDoorSQ0a
set_option linter.unusedSectionVars false
set_option linter.unusedVariables false
set_option maxRecDepth 1000000
set_option maxHeartbeats 0
namespace Go.Proofs.YtifdjfcakkdgeaaGreatDoor.sq
open Go.X Go.RowKit
variable [Tab]
noncomputable def K_top0 : Hand := H_SQ1a
theorem K_top0_ok : HandOk Tryz.prog K_top0 := H_SQ1a_ok
end Go.Proofs.YtifdjfcakkdgeaaGreatDoor.sq
