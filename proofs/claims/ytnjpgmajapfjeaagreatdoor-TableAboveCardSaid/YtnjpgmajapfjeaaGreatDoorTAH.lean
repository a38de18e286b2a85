/-
  Contracts of calls, by the kernel.
-/
import Derived.Test.YtnjpgmajapfjeaaGreatDoorXN3
import Derived.Test.YtnjpgmajapfjeaaGreatDoorProg
import Derived.KernelRfl
import Derived.Test.YtnjpgmajapfjeaaGreatDoorTA0a
import Derived.Test.YtnjpgmajapfjeaaGreatDoorTA1a
import Derived.Test.YtnjpgmajapfjeaaGreatDoorTA1b
import Derived.Test.YtnjpgmajapfjeaaGreatDoorTA1c
import Derived.Test.YtnjpgmajapfjeaaGreatDoorTA1d
import Derived.Test.YtnjpgmajapfjeaaGreatDoorTA1e
import Derived.Test.YtnjpgmajapfjeaaGreatDoorTA1f
import Derived.Test.YtnjpgmajapfjeaaGreatDoorTA1g
import Derived.Test.YtnjpgmajapfjeaaGreatDoorTA1h
import Derived.Test.YtnjpgmajapfjeaaGreatDoorTA2a
import Derived.Test.YtnjpgmajapfjeaaGreatDoorTA3a
set_option linter.unusedSectionVars false
set_option linter.unusedVariables false
set_option maxRecDepth 1000000
set_option maxHeartbeats 0
namespace Go.Proofs.YtnjpgmajapfjeaaGreatDoor.ta
open Go.X Go.RowKit
variable [Tab]
noncomputable def K_top0 : Hand := ((H_TA3a).or ((H_TA2a).or ((H_TA1h).or ((H_TA1g).or ((H_TA1f).or ((H_TA1e).or ((H_TA1d).or ((H_TA1c).or ((H_TA1b).or ((H_TA1a).or H_TA0a))))))))))
theorem K_top0_ok : HandOk Tryz.prog K_top0 := (HandOk.or H_TA3a_ok (HandOk.or H_TA2a_ok (HandOk.or H_TA1h_ok (HandOk.or H_TA1g_ok (HandOk.or H_TA1f_ok (HandOk.or H_TA1e_ok (HandOk.or H_TA1d_ok (HandOk.or H_TA1c_ok (HandOk.or H_TA1b_ok (HandOk.or H_TA1a_ok H_TA0a_ok))))))))))
end Go.Proofs.YtnjpgmajapfjeaaGreatDoor.ta
