/-
  Contracts of calls, by the kernel.
-/
import Derived.Test.YtnjpgmajapfjeaaGreatDoorXN3
import Derived.Test.YtnjpgmajapfjeaaGreatDoorProg
import Derived.KernelRfl
import Derived.Test.YtnjpgmajapfjeaaGreatDoorTC0a
import Derived.Test.YtnjpgmajapfjeaaGreatDoorTC1a
import Derived.Test.YtnjpgmajapfjeaaGreatDoorTC2a
import Derived.Test.YtnjpgmajapfjeaaGreatDoorTC3a
import Derived.Test.YtnjpgmajapfjeaaGreatDoorTC3b
import Derived.Test.YtnjpgmajapfjeaaGreatDoorTC3c
import Derived.Test.YtnjpgmajapfjeaaGreatDoorTC3d
import Derived.Test.YtnjpgmajapfjeaaGreatDoorTC3e
set_option linter.unusedSectionVars false
set_option linter.unusedVariables false
set_option maxRecDepth 1000000
set_option maxHeartbeats 0
namespace Go.Proofs.YtnjpgmajapfjeaaGreatDoor.tc
open Go.X Go.RowKit
variable [Tab]
noncomputable def K_topR : Hand := ((H_TC3e).or ((H_TC3d).or ((H_TC3c).or ((H_TC3b).or ((H_TC3a).or ((H_TC2a).or ((H_TC1a).or H_TC0a)))))))
theorem K_topR_ok : HandOk Tryz.prog K_topR := (HandOk.or H_TC3e_ok (HandOk.or H_TC3d_ok (HandOk.or H_TC3c_ok (HandOk.or H_TC3b_ok (HandOk.or H_TC3a_ok (HandOk.or H_TC2a_ok (HandOk.or H_TC1a_ok H_TC0a_ok)))))))
end Go.Proofs.YtnjpgmajapfjeaaGreatDoor.tc
