/-
  Contracts of calls, by the kernel.
-/
import Derived.Test.YthgncmohimdbmaaGreatDoorXN3
import Derived.Test.YthgncmohimdbmaaGreatDoorProg
import Derived.KernelRfl
import Derived.Test.YthgncmohimdbmaaGreatDoorLG0a
import Derived.Test.YthgncmohimdbmaaGreatDoorLG1a
import Derived.Test.YthgncmohimdbmaaGreatDoorLG1b
import Derived.Test.YthgncmohimdbmaaGreatDoorLG4a
import Derived.Test.YthgncmohimdbmaaGreatDoorLG5a
set_option linter.unusedSectionVars false
set_option linter.unusedVariables false
set_option maxRecDepth 1000000
set_option maxHeartbeats 0
namespace Go.Proofs.YthgncmohimdbmaaGreatDoor.lg
open Go.X Go.RowKit
variable [Tab]
noncomputable def K_top0 : Hand := ((H_LG5a).or ((H_LG4a).or ((H_LG1b).or ((H_LG1a).or H_LG0a))))
theorem K_top0_ok : HandOk Tryz.prog K_top0 := (HandOk.or H_LG5a_ok (HandOk.or H_LG4a_ok (HandOk.or H_LG1b_ok (HandOk.or H_LG1a_ok H_LG0a_ok))))
end Go.Proofs.YthgncmohimdbmaaGreatDoor.lg
