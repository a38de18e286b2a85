/-
  Contracts of calls, by the kernel.
-/
import Derived.Test.YtkkaifeiopjjdaaGreatDoorXN3
import Derived.Test.YtkkaifeiopjjdaaGreatDoorProg
import Derived.KernelRfl
import Derived.Test.YtkkaifeiopjjdaaGreatDoorNR2a
import Derived.Test.YtkkaifeiopjjdaaGreatDoorNR4a
import Derived.Test.YtkkaifeiopjjdaaGreatDoorNR5a
import Derived.Test.YtkkaifeiopjjdaaGreatDoorNR0a
import Derived.Test.YtkkaifeiopjjdaaGreatDoorNR1a
set_option linter.unusedSectionVars false
set_option linter.unusedVariables false
set_option maxRecDepth 1000000
set_option maxHeartbeats 0
namespace Go.Proofs.YtkkaifeiopjjdaaGreatDoor.nr
open Go.X Go.RowKit
variable [Tab]
noncomputable def K_top0 : Hand := ((H_NR5a).or ((H_NR4a).or H_NR2a))
theorem K_top0_ok : HandOk Tryz.prog K_top0 := (HandOk.or H_NR5a_ok (HandOk.or H_NR4a_ok H_NR2a_ok))
noncomputable def KN : Hand := (H_NR5a).or ((H_NR4a).or ((H_NR2a).or ((H_NR1a).or H_NR0a)))
theorem KN_ok : HandOk Tryz.prog KN := HandOk.or H_NR5a_ok (HandOk.or H_NR4a_ok (HandOk.or H_NR2a_ok (HandOk.or H_NR1a_ok H_NR0a_ok)))
end Go.Proofs.YtkkaifeiopjjdaaGreatDoor.nr
