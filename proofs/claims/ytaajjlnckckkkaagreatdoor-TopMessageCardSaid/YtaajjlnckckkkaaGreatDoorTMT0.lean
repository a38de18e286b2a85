/-
  Contracts of calls, by the kernel.
-/
import Derived.Test.YtaajjlnckckkkaaGreatDoorXN3
import Derived.Test.YtaajjlnckckkkaaGreatDoorProg
import Derived.KernelRfl
import Derived.Test.YtaajjlnckckkkaaGreatDoorTM0a
import Derived.Test.YtaajjlnckckkkaaGreatDoorTM1a
import Derived.Test.YtaajjlnckckkkaaGreatDoorTM2a
import Derived.Test.YtaajjlnckckkkaaGreatDoorTM3a
import Derived.Test.YtaajjlnckckkkaaGreatDoorTM4a
import Derived.Test.YtaajjlnckckkkaaGreatDoorTM5a
import Derived.Test.YtaajjlnckckkkaaGreatDoorTM6a
import Derived.Test.YtaajjlnckckkkaaGreatDoorTM7a
set_option linter.unusedSectionVars false
set_option linter.unusedVariables false
set_option maxRecDepth 1000000
set_option maxHeartbeats 0
namespace Go.Proofs.YtaajjlnckckkkaaGreatDoor.tm
open Go.X Go.RowKit
variable [Tab]
noncomputable def K_top0 : Hand := ((H_TM7a).or ((H_TM6a).or ((H_TM5a).or ((H_TM4a).or ((H_TM3a).or ((H_TM2a).or ((H_TM1a).or H_TM0a)))))))
theorem K_top0_ok : HandOk Tryz.prog K_top0 := (HandOk.or H_TM7a_ok (HandOk.or H_TM6a_ok (HandOk.or H_TM5a_ok (HandOk.or H_TM4a_ok (HandOk.or H_TM3a_ok (HandOk.or H_TM2a_ok (HandOk.or H_TM1a_ok H_TM0a_ok)))))))
end Go.Proofs.YtaajjlnckckkkaaGreatDoor.tm
