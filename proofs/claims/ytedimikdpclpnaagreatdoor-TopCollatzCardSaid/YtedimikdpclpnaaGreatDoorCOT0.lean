/-
  Contracts of calls, by the kernel.
-/
import Derived.Test.YtedimikdpclpnaaGreatDoorXN3
import Derived.Test.YtedimikdpclpnaaGreatDoorProg
import Derived.KernelRfl
import Derived.Test.YtedimikdpclpnaaGreatDoorCO0a
import Derived.Test.YtedimikdpclpnaaGreatDoorCO1b
import Derived.Test.YtedimikdpclpnaaGreatDoorCO2a
import Derived.Test.YtedimikdpclpnaaGreatDoorCO3a
import Derived.Test.YtedimikdpclpnaaGreatDoorCO4a
set_option linter.unusedSectionVars false
set_option linter.unusedVariables false
set_option maxRecDepth 1000000
set_option maxHeartbeats 0
namespace Go.Proofs.YtedimikdpclpnaaGreatDoor.co
open Go.X Go.RowKit
variable [Tab]
noncomputable def K_top0 : Hand := ((H_CO4a).or ((H_CO3a).or ((H_CO2a).or ((H_CO1b).or H_CO0a))))
theorem K_top0_ok : HandOk Tryz.prog K_top0 := (HandOk.or H_CO4a_ok (HandOk.or H_CO3a_ok (HandOk.or H_CO2a_ok (HandOk.or H_CO1b_ok H_CO0a_ok))))
end Go.Proofs.YtedimikdpclpnaaGreatDoor.co
