/-
  Contracts of calls, by the kernel.
-/
import Derived.Test.YtbgkinjicnnkiaaGreatDoorXN3
import Derived.Test.YtbgkinjicnnkiaaGreatDoorProg
import Derived.KernelRfl
import Derived.Test.YtbgkinjicnnkiaaGreatDoorHQ0a
import Derived.Test.YtbgkinjicnnkiaaGreatDoorHQ1a
import Derived.Test.YtbgkinjicnnkiaaGreatDoorHQ2a
import Derived.Test.YtbgkinjicnnkiaaGreatDoorHQ3a
import Derived.Test.YtbgkinjicnnkiaaGreatDoorHQ4a
import Derived.Test.YtbgkinjicnnkiaaGreatDoorHQ5a
set_option linter.unusedSectionVars false
set_option linter.unusedVariables false
set_option maxRecDepth 1000000
set_option maxHeartbeats 0
namespace Go.Proofs.YtbgkinjicnnkiaaGreatDoor.hq
open Go.X Go.RowKit
variable [Tab]
noncomputable def K_top0 : Hand := ((H_HQ5a).or ((H_HQ4a).or ((H_HQ3a).or ((H_HQ2a).or ((H_HQ1a).or H_HQ0a)))))
theorem K_top0_ok : HandOk Tryz.prog K_top0 := (HandOk.or H_HQ5a_ok (HandOk.or H_HQ4a_ok (HandOk.or H_HQ3a_ok (HandOk.or H_HQ2a_ok (HandOk.or H_HQ1a_ok H_HQ0a_ok)))))
end Go.Proofs.YtbgkinjicnnkiaaGreatDoor.hq
