/-
  Contracts of calls, by the kernel.
-/
import Derived.Test.YtgejhjencodinaaGreatDoorXN3
import Derived.Test.YtgejhjencodinaaGreatDoorProg
import Derived.KernelRfl
import Derived.Test.YtgejhjencodinaaGreatDoorNT1a
import Derived.Test.YtgejhjencodinaaGreatDoorNT2a
import Derived.Test.YtgejhjencodinaaGreatDoorNT4a
import Derived.Test.YtgejhjencodinaaGreatDoorNT5a
import Derived.Test.YtgejhjencodinaaGreatDoorNT0a
set_option linter.unusedSectionVars false
set_option linter.unusedVariables false
set_option maxRecDepth 1000000
set_option maxHeartbeats 0
namespace Go.Proofs.YtgejhjencodinaaGreatDoor.nt
open Go.X Go.RowKit
variable [Tab]
noncomputable def K_top0 : Hand := ((H_NT5a).or ((H_NT4a).or ((H_NT2a).or H_NT1a)))
theorem K_top0_ok : HandOk Tryz.prog K_top0 := (HandOk.or H_NT5a_ok (HandOk.or H_NT4a_ok (HandOk.or H_NT2a_ok H_NT1a_ok)))
end Go.Proofs.YtgejhjencodinaaGreatDoor.nt
