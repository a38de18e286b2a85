/-
  Contracts of calls, by the kernel.
-/
import Derived.Test.YtbgkinjicnnkiaaGreatDoorSNN
import Derived.Test.YtbgkinjicnnkiaaGreatDoorXN3
import Derived.Test.YtbgkinjicnnkiaaGreatDoorProg
import Derived.KernelRfl
import Derived.Test.YtbgkinjicnnkiaaGreatDoorSQ0a
import Derived.Test.YtbgkinjicnnkiaaGreatDoorSQ1a
import Derived.Test.YtbgkinjicnnkiaaGreatDoorSQ2a
import Derived.Test.YtbgkinjicnnkiaaGreatDoorSQ3a
import Derived.Test.YtbgkinjicnnkiaaGreatDoorSQ4a
import Derived.Test.YtbgkinjicnnkiaaGreatDoorSQ5a
set_option linter.unusedSectionVars false
set_option linter.unusedVariables false
set_option maxRecDepth 1000000
set_option maxHeartbeats 0
namespace Go.Proofs.YtbgkinjicnnkiaaGreatDoor.sq
open Go.X Go.RowKit
variable [Tab]
noncomputable def K_top0 : Hand := ((H_SQ5a).or ((H_SQ4a).or ((H_SQ3a).or ((H_SQ2a).or ((H_SQ1a).or H_SQ0a)))))
theorem K_top0_ok : HandOk Tryz.prog K_top0 := (HandOk.or H_SQ5a_ok (HandOk.or H_SQ4a_ok (HandOk.or H_SQ3a_ok (HandOk.or H_SQ2a_ok (HandOk.or H_SQ1a_ok H_SQ0a_ok)))))
end Go.Proofs.YtbgkinjicnnkiaaGreatDoor.sq
