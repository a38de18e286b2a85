/-
  Contracts of calls, by the kernel.
-/
import Derived.Test.YtkkaifeiopjjdaaGreatDoorXN3
import Derived.Test.YtkkaifeiopjjdaaGreatDoorProg
import Derived.KernelRfl
import Derived.Test.YtkkaifeiopjjdaaGreatDoorNQ0a
import Derived.Test.YtkkaifeiopjjdaaGreatDoorNQ1a
import Derived.Test.YtkkaifeiopjjdaaGreatDoorNQ4a
import Derived.Test.YtkkaifeiopjjdaaGreatDoorNQ5a
set_option linter.unusedSectionVars false
set_option linter.unusedVariables false
set_option maxRecDepth 1000000
set_option maxHeartbeats 0
namespace Go.Proofs.YtkkaifeiopjjdaaGreatDoor.nq
open Go.X Go.RowKit
variable [Tab]
noncomputable def K_top0 : Hand := ((H_NQ5a).or ((H_NQ4a).or ((H_NQ1a).or H_NQ0a)))
theorem K_top0_ok : HandOk Tryz.prog K_top0 := (HandOk.or H_NQ5a_ok (HandOk.or H_NQ4a_ok (HandOk.or H_NQ1a_ok H_NQ0a_ok)))
end Go.Proofs.YtkkaifeiopjjdaaGreatDoor.nq
