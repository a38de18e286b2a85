/-
  Contracts of calls, by the kernel.
-/
import Derived.Test.YtedimikdpclpnaaGreatDoorXN3
import Derived.Test.YtedimikdpclpnaaGreatDoorProg
import Derived.KernelRfl
import Derived.Test.YtedimikdpclpnaaGreatDoorFU0a
import Derived.Test.YtedimikdpclpnaaGreatDoorFU1a
import Derived.Test.YtedimikdpclpnaaGreatDoorFU1b
import Derived.Test.YtedimikdpclpnaaGreatDoorFU2a
import Derived.Test.YtedimikdpclpnaaGreatDoorFU4a
set_option linter.unusedSectionVars false
set_option linter.unusedVariables false
set_option maxRecDepth 1000000
set_option maxHeartbeats 0
namespace Go.Proofs.YtedimikdpclpnaaGreatDoor.fu
open Go.X Go.RowKit
variable [Tab]
noncomputable def K_top0 : Hand := ((H_FU4a).or ((H_FU2a).or ((H_FU1b).or ((H_FU1a).or H_FU0a))))
theorem K_top0_ok : HandOk Tryz.prog K_top0 := (HandOk.or H_FU4a_ok (HandOk.or H_FU2a_ok (HandOk.or H_FU1b_ok (HandOk.or H_FU1a_ok H_FU0a_ok))))
end Go.Proofs.YtedimikdpclpnaaGreatDoor.fu
