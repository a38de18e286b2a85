/-
  Contracts of calls, by the kernel.
-/
import Derived.Test.YtkckdnjocncnhaaGreatDoorXM3
import Derived.Test.YtkckdnjocncnhaaGreatDoorProg
import Derived.KernelRfl
import Derived.Test.YtkckdnjocncnhaaGreatDoorEA1b
import Derived.Test.YtkckdnjocncnhaaGreatDoorEA2d
import Derived.Test.YtkckdnjocncnhaaGreatDoorEA3b
import Derived.Test.YtkckdnjocncnhaaGreatDoorEA4a
import Derived.Test.YtkckdnjocncnhaaGreatDoorEA5a
import Derived.Test.YtkckdnjocncnhaaGreatDoorEA0a
set_option linter.unusedSectionVars false
set_option linter.unusedVariables false
set_option maxRecDepth 1000000
set_option maxHeartbeats 0
namespace Go.Proofs.YtkckdnjocncnhaaGreatDoor.ea
open Go.X Go.RowKit
variable [Tab]
noncomputable def K_top2 : Hand := ((H_EA5a).or ((H_EA4a).or ((H_EA3b).or ((H_EA2d).or H_EA1b))))
theorem K_top2_ok : HandOk Tryz.prog K_top2 := (HandOk.or H_EA5a_ok (HandOk.or H_EA4a_ok (HandOk.or H_EA3b_ok (HandOk.or H_EA2d_ok H_EA1b_ok))))
noncomputable def top2 : Sum := ⟨(.bool true), 16243, []⟩
theorem top2_ok : SumOk Tryz.prog 5 [(.bool false), (.bool true)] top2 := SumOk.of_run (K := K_top2) (n := 5000) (keep := []) mixed K_top2_ok (by kernel_rfl) (by as_aux_lemma => kernel_rfl)
end Go.Proofs.YtkckdnjocncnhaaGreatDoor.ea
