/-
  Contracts of calls, by the kernel.
-/
import Derived.Test.YtnjpgmajapfjeaaGreatDoorXN3
import Derived.Test.YtnjpgmajapfjeaaGreatDoorProg
import Derived.KernelRfl
import Derived.Test.YtnjpgmajapfjeaaGreatDoorTC0a
import Derived.Test.YtnjpgmajapfjeaaGreatDoorTC1a
import Derived.Test.YtnjpgmajapfjeaaGreatDoorTC2a
import Derived.Test.YtnjpgmajapfjeaaGreatDoorTC3e
import Derived.Test.YtnjpgmajapfjeaaGreatDoorTC3f
import Derived.Test.YtnjpgmajapfjeaaGreatDoorTC3g
import Derived.Test.YtnjpgmajapfjeaaGreatDoorTC3h
import Derived.Test.YtnjpgmajapfjeaaGreatDoorTC3i
set_option linter.unusedSectionVars false
set_option linter.unusedVariables false
set_option maxRecDepth 1000000
set_option maxHeartbeats 0
namespace Go.Proofs.YtnjpgmajapfjeaaGreatDoor.tc
open Go.X Go.RowKit
variable [Tab]
noncomputable def K_topF : Hand := ((H_TC3i).or ((H_TC3h).or ((H_TC3g).or ((H_TC3f).or ((H_TC3e).or ((H_TC2a).or ((H_TC1a).or H_TC0a)))))))
theorem K_topF_ok : HandOk Tryz.prog K_topF := (HandOk.or H_TC3i_ok (HandOk.or H_TC3h_ok (HandOk.or H_TC3g_ok (HandOk.or H_TC3f_ok (HandOk.or H_TC3e_ok (HandOk.or H_TC2a_ok (HandOk.or H_TC1a_ok H_TC0a_ok)))))))
end Go.Proofs.YtnjpgmajapfjeaaGreatDoor.tc
