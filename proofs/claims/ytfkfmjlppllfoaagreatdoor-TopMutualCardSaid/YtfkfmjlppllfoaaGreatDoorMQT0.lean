/-
  Contracts of calls, by the kernel.
-/
import Derived.Test.YtfkfmjlppllfoaaGreatDoorMNN
import Derived.Test.YtfkfmjlppllfoaaGreatDoorXN3
import Derived.Test.YtfkfmjlppllfoaaGreatDoorProg
import Derived.KernelRfl
import Derived.Test.YtfkfmjlppllfoaaGreatDoorMQ0a
import Derived.Test.YtfkfmjlppllfoaaGreatDoorMQ1a
import Derived.Test.YtfkfmjlppllfoaaGreatDoorMQ2a
import Derived.Test.YtfkfmjlppllfoaaGreatDoorMQ4a
set_option linter.unusedSectionVars false
set_option linter.unusedVariables false
set_option maxRecDepth 1000000
set_option maxHeartbeats 0
namespace Go.Proofs.YtfkfmjlppllfoaaGreatDoor.mq
open Go.X Go.RowKit
variable [Tab]
noncomputable def K_top0 : Hand := ((H_MQ4a).or ((H_MQ2a).or ((H_MQ1a).or H_MQ0a)))
theorem K_top0_ok : HandOk Tryz.prog K_top0 := (HandOk.or H_MQ4a_ok (HandOk.or H_MQ2a_ok (HandOk.or H_MQ1a_ok H_MQ0a_ok)))
noncomputable def top0 : Sum := ⟨bT, 17680, []⟩
theorem top0_ok : SumOk Tryz.prog 5 [z1] top0 := SumOk.of_run (K := K_top0) (n := 5000) (keep := []) mixed K_top0_ok (by kernel_rfl) (by as_aux_lemma => kernel_rfl)
end Go.Proofs.YtfkfmjlppllfoaaGreatDoor.mq
