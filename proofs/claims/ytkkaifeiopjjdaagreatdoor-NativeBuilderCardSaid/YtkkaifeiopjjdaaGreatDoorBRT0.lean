/-
  Contracts of calls, by the kernel.
-/
import Derived.Test.YtkkaifeiopjjdaaGreatDoorXN3
import Derived.Test.YtkkaifeiopjjdaaGreatDoorProg
import Derived.KernelRfl
import Derived.Test.YtkkaifeiopjjdaaGreatDoorBR1a
import Derived.Test.YtkkaifeiopjjdaaGreatDoorBR2a
import Derived.Test.YtkkaifeiopjjdaaGreatDoorBR4a
import Derived.Test.YtkkaifeiopjjdaaGreatDoorBR5a
import Derived.Test.YtkkaifeiopjjdaaGreatDoorBR0a
set_option linter.unusedSectionVars false
set_option linter.unusedVariables false
set_option maxRecDepth 1000000
set_option maxHeartbeats 0
namespace Go.Proofs.YtkkaifeiopjjdaaGreatDoor.br
open Go.X Go.RowKit
variable [Tab]
noncomputable def K_top0 : Hand := ((H_BR5a).or ((H_BR4a).or ((H_BR2a).or H_BR1a)))
theorem K_top0_ok : HandOk Tryz.prog K_top0 := (HandOk.or H_BR5a_ok (HandOk.or H_BR4a_ok (HandOk.or H_BR2a_ok H_BR1a_ok)))
noncomputable def KN : Hand := (H_BR5a).or ((H_BR4a).or ((H_BR2a).or ((H_BR1a).or H_BR0a)))
theorem KN_ok : HandOk Tryz.prog KN := HandOk.or H_BR5a_ok (HandOk.or H_BR4a_ok (HandOk.or H_BR2a_ok (HandOk.or H_BR1a_ok H_BR0a_ok)))
end Go.Proofs.YtkkaifeiopjjdaaGreatDoor.br
