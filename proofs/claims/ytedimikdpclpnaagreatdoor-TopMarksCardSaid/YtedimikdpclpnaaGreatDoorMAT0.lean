/-
  Contracts of calls, by the kernel.
-/
import Derived.Test.YtedimikdpclpnaaGreatDoorXN3
import Derived.Test.YtedimikdpclpnaaGreatDoorProg
import Derived.KernelRfl
import Derived.Test.YtedimikdpclpnaaGreatDoorMA0a
import Derived.Test.YtedimikdpclpnaaGreatDoorMA1a
import Derived.Test.YtedimikdpclpnaaGreatDoorMA1c
import Derived.Test.YtedimikdpclpnaaGreatDoorMA2a
import Derived.Test.YtedimikdpclpnaaGreatDoorMA4a
set_option linter.unusedSectionVars false
set_option linter.unusedVariables false
set_option maxRecDepth 1000000
set_option maxHeartbeats 0
namespace Go.Proofs.YtedimikdpclpnaaGreatDoor.ma
open Go.X Go.RowKit
variable [Tab]
noncomputable def K_top0 : Hand := ((H_MA4a).or ((H_MA2a).or ((H_MA1c).or ((H_MA1a).or H_MA0a))))
theorem K_top0_ok : HandOk Tryz.prog K_top0 := (HandOk.or H_MA4a_ok (HandOk.or H_MA2a_ok (HandOk.or H_MA1c_ok (HandOk.or H_MA1a_ok H_MA0a_ok))))
end Go.Proofs.YtedimikdpclpnaaGreatDoor.ma
