/-
  Contracts of calls, by the kernel.
-/
import Derived.Test.YtkckdnjocncnhaaGreatDoorXN3
import Derived.Test.YtkckdnjocncnhaaGreatDoorProg
import Derived.KernelRfl
import Derived.Test.YtkckdnjocncnhaaGreatDoorSM0a
import Derived.Test.YtkckdnjocncnhaaGreatDoorSM1a
import Derived.Test.YtkckdnjocncnhaaGreatDoorSM1b
import Derived.Test.YtkckdnjocncnhaaGreatDoorSM2a
import Derived.Test.YtkckdnjocncnhaaGreatDoorSM4a
import Derived.Test.YtkckdnjocncnhaaGreatDoorSM5a
set_option linter.unusedSectionVars false
set_option linter.unusedVariables false
set_option maxRecDepth 1000000
set_option maxHeartbeats 0
namespace Go.Proofs.YtkckdnjocncnhaaGreatDoor.sm
open Go.X Go.RowKit
variable [Tab]
noncomputable def K_top1 : Hand := ((H_SM5a).or ((H_SM4a).or ((H_SM2a).or ((H_SM1b).or ((H_SM1a).or H_SM0a)))))
theorem K_top1_ok : HandOk Tryz.prog K_top1 := (HandOk.or H_SM5a_ok (HandOk.or H_SM4a_ok (HandOk.or H_SM2a_ok (HandOk.or H_SM1b_ok (HandOk.or H_SM1a_ok H_SM0a_ok)))))
end Go.Proofs.YtkckdnjocncnhaaGreatDoor.sm
