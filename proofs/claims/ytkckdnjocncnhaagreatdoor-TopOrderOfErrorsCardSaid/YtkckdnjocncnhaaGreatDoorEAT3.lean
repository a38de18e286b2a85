/-
  Contracts of calls, by the kernel.
-/
import Derived.Test.YtkckdnjocncnhaaGreatDoorXM3
import Derived.Test.YtkckdnjocncnhaaGreatDoorProg
import Derived.KernelRfl
import Derived.Test.YtkckdnjocncnhaaGreatDoorEA1a
import Derived.Test.YtkckdnjocncnhaaGreatDoorEA2d
import Derived.Test.YtkckdnjocncnhaaGreatDoorEA3a
import Derived.Test.YtkckdnjocncnhaaGreatDoorEA4a
import Derived.Test.YtkckdnjocncnhaaGreatDoorEA5a
import Derived.Test.YtkckdnjocncnhaaGreatDoorEA0a
set_option linter.unusedSectionVars false
set_option linter.unusedVariables false
set_option maxRecDepth 1000000
set_option maxHeartbeats 0
namespace Go.Proofs.YtkckdnjocncnhaaGreatDoor.ea
open Go.X Go.RowKit
variable [Tab]
noncomputable def K_top3 : Hand := ((H_EA5a).or ((H_EA4a).or ((H_EA3a).or ((H_EA2d).or H_EA1a))))
theorem K_top3_ok : HandOk Tryz.prog K_top3 := (HandOk.or H_EA5a_ok (HandOk.or H_EA4a_ok (HandOk.or H_EA3a_ok (HandOk.or H_EA2d_ok H_EA1a_ok))))
noncomputable def top3 : Sum := ⟨(.bool true), 16326, []⟩
theorem top3_ok : SumOk Tryz.prog 5 [(.bool false), (.bool false)] top3 := SumOk.of_run (K := K_top3) (n := 5000) (keep := []) mixed K_top3_ok (by kernel_rfl) (by as_aux_lemma => kernel_rfl)
end Go.Proofs.YtkckdnjocncnhaaGreatDoor.ea
