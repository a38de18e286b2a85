/-
  Contracts of calls, by the kernel.
-/
import Derived.Test.YtkckdnjocncnhaaGreatDoorXM3
import Derived.Test.YtkckdnjocncnhaaGreatDoorProg
import Derived.KernelRfl
import Derived.Test.YtkckdnjocncnhaaGreatDoorEA1d
import Derived.Test.YtkckdnjocncnhaaGreatDoorEA2b
import Derived.Test.YtkckdnjocncnhaaGreatDoorEA2d
import Derived.Test.YtkckdnjocncnhaaGreatDoorEA4a
import Derived.Test.YtkckdnjocncnhaaGreatDoorEA5a
import Derived.Test.YtkckdnjocncnhaaGreatDoorEA0a
set_option linter.unusedSectionVars false
set_option linter.unusedVariables false
set_option maxRecDepth 1000000
set_option maxHeartbeats 0
namespace Go.Proofs.YtkckdnjocncnhaaGreatDoor.ea
open Go.X Go.RowKit
variable [Tab]
noncomputable def K_top1 : Hand := ((H_EA5a).or ((H_EA4a).or ((H_EA2d).or ((H_EA2b).or H_EA1d))))
theorem K_top1_ok : HandOk Tryz.prog K_top1 := (HandOk.or H_EA5a_ok (HandOk.or H_EA4a_ok (HandOk.or H_EA2d_ok (HandOk.or H_EA2b_ok H_EA1d_ok))))
noncomputable def top1 : Sum := ⟨(.bool true), 15748, []⟩
theorem top1_ok : SumOk Tryz.prog 5 [(.bool true), (.bool false)] top1 := SumOk.of_run (K := K_top1) (n := 5000) (keep := []) mixed K_top1_ok (by kernel_rfl) (by as_aux_lemma => kernel_rfl)
end Go.Proofs.YtkckdnjocncnhaaGreatDoor.ea
