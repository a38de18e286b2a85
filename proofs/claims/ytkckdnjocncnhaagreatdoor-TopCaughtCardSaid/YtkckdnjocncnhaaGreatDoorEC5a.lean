/-
  Contracts of calls, by the kernel.
-/
import Derived.Test.YtkckdnjocncnhaaGreatDoorXN3
import Derived.Test.YtkckdnjocncnhaaGreatDoorProg
import Derived.KernelRfl
import Derived.Test.YtkckdnjocncnhaaGreatDoorEC0a
import Derived.Test.YtkckdnjocncnhaaGreatDoorEC0b
import Derived.Test.YtkckdnjocncnhaaGreatDoorEC2e
import Derived.Test.YtkckdnjocncnhaaGreatDoorEC4b
set_option linter.unusedSectionVars false
set_option linter.unusedVariables false
set_option maxRecDepth 1000000
set_option maxHeartbeats 0
namespace Go.Proofs.YtkckdnjocncnhaaGreatDoor.ec
open Go.X Go.RowKit
variable [Tab]
noncomputable def K_EC5a : Hand := ((H_EC4b).or ((H_EC2e).or H_EC0b))
theorem K_EC5a_ok : HandOk Tryz.prog K_EC5a := (HandOk.or H_EC4b_ok (HandOk.or H_EC2e_ok H_EC0b_ok))

noncomputable def S2 : Sum := ⟨(.bool true), 6868, []⟩
theorem S2_ok : SumOk Tryz.prog 35 [] S2 := SumOk.of_run (K := K_EC5a) (n := 5000) (keep := []) mixed K_EC5a_ok (by kernel_rfl) (by as_aux_lemma => kernel_rfl)

noncomputable def tab_EC5a : List (FuncId × SRows) := (35, [([], S2)]) :: []
theorem tab_EC5a_ok : TabOk Tryz.prog tab_EC5a := (TabOk.cons (RowsOk.cons S2_ok RowsOk.nil) TabOk.nil)
noncomputable def H_EC5a : Hand := (sumsHand tab_EC5a)
theorem H_EC5a_ok : HandOk Tryz.prog H_EC5a := (sumsHand_ok tab_EC5a_ok)
end Go.Proofs.YtkckdnjocncnhaaGreatDoor.ec
