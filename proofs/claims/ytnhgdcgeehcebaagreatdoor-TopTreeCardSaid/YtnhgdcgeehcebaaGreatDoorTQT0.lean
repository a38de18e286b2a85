/-
  Contracts of calls, by the kernel.
-/
import Derived.Test.YtnhgdcgeehcebaaGreatDoorXN3
import Derived.Test.YtnhgdcgeehcebaaGreatDoorProg
import Derived.KernelRfl
import Derived.Test.YtnhgdcgeehcebaaGreatDoorTQ0a
import Derived.Test.YtnhgdcgeehcebaaGreatDoorTQ1a
import Derived.Test.YtnhgdcgeehcebaaGreatDoorTQ2a
import Derived.Test.YtnhgdcgeehcebaaGreatDoorTQ3a
import Derived.Test.YtnhgdcgeehcebaaGreatDoorTQ4a
import Derived.Test.YtnhgdcgeehcebaaGreatDoorTQ5a
set_option linter.unusedSectionVars false
set_option linter.unusedVariables false
set_option maxRecDepth 1000000
set_option maxHeartbeats 0
namespace Go.Proofs.YtnhgdcgeehcebaaGreatDoor.tq
open Go.X Go.RowKit
variable [Tab]
noncomputable def K_top0:Hand:=((H_TQ5a).or ((H_TQ4a).or ((H_TQ3a).or ((H_TQ2a).or ((H_TQ1a).or H_TQ0a)))))
theorem K_top0_ok:HandOk Tryz.prog K_top0:=(HandOk.or H_TQ5a_ok (HandOk.or H_TQ4a_ok (HandOk.or H_TQ3a_ok (HandOk.or H_TQ2a_ok (HandOk.or H_TQ1a_ok H_TQ0a_ok)))))
end Go.Proofs.YtnhgdcgeehcebaaGreatDoor.tq
