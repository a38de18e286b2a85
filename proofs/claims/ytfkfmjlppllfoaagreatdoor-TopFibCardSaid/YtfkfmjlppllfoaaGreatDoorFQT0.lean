/-
  Contracts of calls, by the kernel.
-/
import Derived.Test.YtfkfmjlppllfoaaGreatDoorXN3
import Derived.Test.YtfkfmjlppllfoaaGreatDoorProg
import Derived.KernelRfl
import Derived.Test.YtfkfmjlppllfoaaGreatDoorFQ0a
import Derived.Test.YtfkfmjlppllfoaaGreatDoorFQ1a
import Derived.Test.YtfkfmjlppllfoaaGreatDoorFQ2a
import Derived.Test.YtfkfmjlppllfoaaGreatDoorFQ4a
set_option linter.unusedSectionVars false
set_option linter.unusedVariables false
set_option maxRecDepth 1000000
set_option maxHeartbeats 0
namespace Go.Proofs.YtfkfmjlppllfoaaGreatDoor.fq
open Go.X Go.RowKit
variable [Tab]
noncomputable def K_top0 : Hand := ((H_FQ4a).or ((H_FQ2a).or ((H_FQ1a).or H_FQ0a)))
theorem K_top0_ok : HandOk Tryz.prog K_top0 := (HandOk.or H_FQ4a_ok (HandOk.or H_FQ2a_ok (HandOk.or H_FQ1a_ok H_FQ0a_ok)))
noncomputable def top0 : Sum := ⟨(.bool true), 16089, []⟩
theorem top0_ok : SumOk Tryz.prog 8 [(.int .i64 1)] top0 := SumOk.of_run (K := K_top0) (n := 5000) (keep := []) mixed K_top0_ok (by kernel_rfl) (by as_aux_lemma => kernel_rfl)
end Go.Proofs.YtfkfmjlppllfoaaGreatDoor.fq
