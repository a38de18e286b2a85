/-
  Contracts of calls, by the kernel.
-/
import Derived.Test.YtbabfeloandpdaaGreatDoorXN4
import Derived.Test.YtbabfeloandpdaaGreatDoorProg
import Derived.KernelRfl
import Derived.Test.YtbabfeloandpdaaGreatDoorCG1a
import Derived.Test.YtbabfeloandpdaaGreatDoorCQ0a
set_option linter.unusedSectionVars false
set_option linter.unusedVariables false
set_option maxRecDepth 1000000
set_option maxHeartbeats 0
namespace Go.Proofs.YtbabfeloandpdaaGreatDoor.cg
open Go.X Go.RowKit
variable [Tab]
noncomputable def K_top0 : Hand := H_CG1a
theorem K_top0_ok : HandOk Tryz.prog K_top0 := H_CG1a_ok
end Go.Proofs.YtbabfeloandpdaaGreatDoor.cg
