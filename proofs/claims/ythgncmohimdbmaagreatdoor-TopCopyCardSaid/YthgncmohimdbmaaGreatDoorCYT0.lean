/-
  Contracts of calls, by the kernel.
-/
import Derived.Test.YthgncmohimdbmaaGreatDoorXN3
import Derived.Test.YthgncmohimdbmaaGreatDoorProg
import Derived.KernelRfl
import Derived.Test.YthgncmohimdbmaaGreatDoorCY0a
import Derived.Test.YthgncmohimdbmaaGreatDoorCY0b
import Derived.Test.YthgncmohimdbmaaGreatDoorCY0c
import Derived.Test.YthgncmohimdbmaaGreatDoorCY1a
import Derived.Test.YthgncmohimdbmaaGreatDoorCY1b
import Derived.Test.YthgncmohimdbmaaGreatDoorCY1c
import Derived.Test.YthgncmohimdbmaaGreatDoorCY1d
import Derived.Test.YthgncmohimdbmaaGreatDoorCY1e
import Derived.Test.YthgncmohimdbmaaGreatDoorCY2a
import Derived.Test.YthgncmohimdbmaaGreatDoorCY4a
import Derived.Test.YthgncmohimdbmaaGreatDoorCY5a
set_option linter.unusedSectionVars false
set_option linter.unusedVariables false
set_option maxRecDepth 1000000
set_option maxHeartbeats 0
namespace Go.Proofs.YthgncmohimdbmaaGreatDoor.cy
open Go.X Go.RowKit
variable [Tab]
noncomputable def K_top0 : Hand := ((H_CY5a).or ((H_CY4a).or ((H_CY2a).or ((H_CY1e).or ((H_CY1d).or ((H_CY1c).or ((H_CY1b).or ((H_CY1a).or ((H_CY0c).or ((H_CY0b).or H_CY0a))))))))))
theorem K_top0_ok : HandOk Tryz.prog K_top0 := (HandOk.or H_CY5a_ok (HandOk.or H_CY4a_ok (HandOk.or H_CY2a_ok (HandOk.or H_CY1e_ok (HandOk.or H_CY1d_ok (HandOk.or H_CY1c_ok (HandOk.or H_CY1b_ok (HandOk.or H_CY1a_ok (HandOk.or H_CY0c_ok (HandOk.or H_CY0b_ok H_CY0a_ok))))))))))
end Go.Proofs.YthgncmohimdbmaaGreatDoor.cy
