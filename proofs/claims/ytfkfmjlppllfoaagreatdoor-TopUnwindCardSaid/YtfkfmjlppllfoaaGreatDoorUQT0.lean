/-
  Contracts of calls, by the kernel.
-/
import Derived.Test.YtfkfmjlppllfoaaGreatDoorUNN
import Derived.Test.YtfkfmjlppllfoaaGreatDoorXN3
import Derived.Test.YtfkfmjlppllfoaaGreatDoorProg
import Derived.KernelRfl
import Derived.Test.YtfkfmjlppllfoaaGreatDoorUQ0a
import Derived.Test.YtfkfmjlppllfoaaGreatDoorUQ1a
import Derived.Test.YtfkfmjlppllfoaaGreatDoorUQ2a
import Derived.Test.YtfkfmjlppllfoaaGreatDoorUQ4a
import Derived.Test.YtfkfmjlppllfoaaGreatDoorUQ5a
set_option linter.unusedSectionVars false
set_option linter.unusedVariables false
set_option maxRecDepth 1000000
set_option maxHeartbeats 0
namespace Go.Proofs.YtfkfmjlppllfoaaGreatDoor.uq
open Go.X Go.RowKit
variable [Tab]
noncomputable def K_top0 : Hand := ((H_UQ5a).or ((H_UQ4a).or ((H_UQ2a).or ((H_UQ1a).or H_UQ0a))))
theorem K_top0_ok : HandOk Tryz.prog K_top0 := (HandOk.or H_UQ5a_ok (HandOk.or H_UQ4a_ok (HandOk.or H_UQ2a_ok (HandOk.or H_UQ1a_ok H_UQ0a_ok))))
end Go.Proofs.YtfkfmjlppllfoaaGreatDoor.uq
