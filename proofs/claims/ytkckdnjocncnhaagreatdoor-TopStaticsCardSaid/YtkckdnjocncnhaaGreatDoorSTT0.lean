/-
  Contracts of calls, by the kernel.
-/
import Derived.Test.YtkckdnjocncnhaaGreatDoorXN3
import Derived.Test.YtkckdnjocncnhaaGreatDoorProg
import Derived.KernelRfl
import Derived.Test.YtkckdnjocncnhaaGreatDoorST0a
import Derived.Test.YtkckdnjocncnhaaGreatDoorST1a
import Derived.Test.YtkckdnjocncnhaaGreatDoorST2a
import Derived.Test.YtkckdnjocncnhaaGreatDoorST4a
set_option linter.unusedSectionVars false
set_option linter.unusedVariables false
set_option maxRecDepth 1000000
set_option maxHeartbeats 0
namespace Go.Proofs.YtkckdnjocncnhaaGreatDoor.st
open Go.X Go.RowKit
variable [Tab]
noncomputable def K_top0 : Hand := ((H_ST4a).or ((H_ST2a).or ((H_ST1a).or H_ST0a)))
theorem K_top0_ok : HandOk Tryz.prog K_top0 := (HandOk.or H_ST4a_ok (HandOk.or H_ST2a_ok (HandOk.or H_ST1a_ok H_ST0a_ok)))
end Go.Proofs.YtkckdnjocncnhaaGreatDoor.st
