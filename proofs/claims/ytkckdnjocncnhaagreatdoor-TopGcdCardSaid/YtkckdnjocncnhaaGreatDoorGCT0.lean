/-
  Contracts of calls, by the kernel.
-/
import Derived.Test.YtkckdnjocncnhaaGreatDoorXN3
import Derived.Test.YtkckdnjocncnhaaGreatDoorProg
import Derived.KernelRfl
import Derived.Test.YtkckdnjocncnhaaGreatDoorGC0a
import Derived.Test.YtkckdnjocncnhaaGreatDoorGC1a
import Derived.Test.YtkckdnjocncnhaaGreatDoorGC2a
import Derived.Test.YtkckdnjocncnhaaGreatDoorGC4a
import Derived.Test.YtkckdnjocncnhaaGreatDoorGC5a
set_option linter.unusedSectionVars false
set_option linter.unusedVariables false
set_option maxRecDepth 1000000
set_option maxHeartbeats 0
namespace Go.Proofs.YtkckdnjocncnhaaGreatDoor.gc
open Go.X Go.RowKit
variable [Tab]
noncomputable def K_top0 : Hand := ((H_GC5a).or ((H_GC4a).or ((H_GC2a).or ((H_GC1a).or H_GC0a))))
theorem K_top0_ok : HandOk Tryz.prog K_top0 := (HandOk.or H_GC5a_ok (HandOk.or H_GC4a_ok (HandOk.or H_GC2a_ok (HandOk.or H_GC1a_ok H_GC0a_ok))))
end Go.Proofs.YtkckdnjocncnhaaGreatDoor.gc
