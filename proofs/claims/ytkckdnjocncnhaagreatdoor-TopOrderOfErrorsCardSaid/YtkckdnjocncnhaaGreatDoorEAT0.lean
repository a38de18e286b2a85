/-
  Contracts of calls, by the kernel.
-/
import Derived.Test.YtkckdnjocncnhaaGreatDoorXM3
import Derived.Test.YtkckdnjocncnhaaGreatDoorProg
import Derived.KernelRfl
import Derived.Test.YtkckdnjocncnhaaGreatDoorEA1f
import Derived.Test.YtkckdnjocncnhaaGreatDoorEA2c
import Derived.Test.YtkckdnjocncnhaaGreatDoorEA2d
import Derived.Test.YtkckdnjocncnhaaGreatDoorEA4a
import Derived.Test.YtkckdnjocncnhaaGreatDoorEA5a
import Derived.Test.YtkckdnjocncnhaaGreatDoorEA0a
set_option linter.unusedSectionVars false
set_option linter.unusedVariables false
set_option maxRecDepth 1000000
set_option maxHeartbeats 0
namespace Go.Proofs.YtkckdnjocncnhaaGreatDoor.ea
open Go.X Go.RowKit
variable [Tab]
noncomputable def K_top0 : Hand := ((H_EA5a).or ((H_EA4a).or ((H_EA2d).or ((H_EA2c).or H_EA1f))))
theorem K_top0_ok : HandOk Tryz.prog K_top0 := (HandOk.or H_EA5a_ok (HandOk.or H_EA4a_ok (HandOk.or H_EA2d_ok (HandOk.or H_EA2c_ok H_EA1f_ok))))
noncomputable def top0 : Sum := ⟨(.bool true), 15748, []⟩
theorem top0_ok : SumOk Tryz.prog 5 [(.bool true), (.bool true)] top0 := SumOk.of_run (K := K_top0) (n := 5000) (keep := []) mixed K_top0_ok (by kernel_rfl) (by as_aux_lemma => kernel_rfl)
end Go.Proofs.YtkckdnjocncnhaaGreatDoor.ea
