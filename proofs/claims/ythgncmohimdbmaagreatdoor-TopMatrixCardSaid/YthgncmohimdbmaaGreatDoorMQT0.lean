/-
  Contracts of calls, by the kernel.
-/
import Derived.Test.YthgncmohimdbmaaGreatDoorXN3
import Derived.Test.YthgncmohimdbmaaGreatDoorProg
import Derived.KernelRfl
import Derived.Test.YthgncmohimdbmaaGreatDoorMQ0a
import Derived.Test.YthgncmohimdbmaaGreatDoorMQ1a
import Derived.Test.YthgncmohimdbmaaGreatDoorMQ2a
import Derived.Test.YthgncmohimdbmaaGreatDoorMQ3a
import Derived.Test.YthgncmohimdbmaaGreatDoorMQ4a
set_option linter.unusedSectionVars false
set_option linter.unusedVariables false
set_option maxRecDepth 1000000
set_option maxHeartbeats 0
namespace Go.Proofs.YthgncmohimdbmaaGreatDoor.mq
open Go.X Go.RowKit
variable [Tab]
noncomputable def K_top0 : Hand := ((H_MQ4a).or ((H_MQ3a).or ((H_MQ2a).or ((H_MQ1a).or H_MQ0a))))
theorem K_top0_ok : HandOk Tryz.prog K_top0 := (HandOk.or H_MQ4a_ok (HandOk.or H_MQ3a_ok (HandOk.or H_MQ2a_ok (HandOk.or H_MQ1a_ok H_MQ0a_ok))))
end Go.Proofs.YthgncmohimdbmaaGreatDoor.mq
