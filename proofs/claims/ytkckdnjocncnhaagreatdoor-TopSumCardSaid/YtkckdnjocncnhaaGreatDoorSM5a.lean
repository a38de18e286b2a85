/-
  Contracts of calls, by the kernel.
-/
import Derived.Test.YtkckdnjocncnhaaGreatDoorXN3
import Derived.Test.YtkckdnjocncnhaaGreatDoorProg
import Derived.KernelRfl
import Derived.Test.YtkckdnjocncnhaaGreatDoorSM0a
import Derived.Test.YtkckdnjocncnhaaGreatDoorSM2a
import Derived.Test.YtkckdnjocncnhaaGreatDoorSM4a
set_option linter.unusedSectionVars false
set_option linter.unusedVariables false
set_option maxRecDepth 1000000
set_option maxHeartbeats 0
namespace Go.Proofs.YtkckdnjocncnhaaGreatDoor.sm
open Go.X Go.RowKit
variable [Tab]
noncomputable def K_SM5a : Hand := ((H_SM4a).or ((H_SM2a).or H_SM0a))
theorem K_SM5a_ok : HandOk Tryz.prog K_SM5a := (HandOk.or H_SM4a_ok (HandOk.or H_SM2a_ok H_SM0a_ok))

noncomputable def S2 : Sum := ⟨(.bool true), 6868, []⟩
theorem S2_ok : SumOk Tryz.prog 35 [] S2 := SumOk.of_run (K := K_SM5a) (n := 5000) (keep := []) mixed K_SM5a_ok (by kernel_rfl) (by as_aux_lemma => kernel_rfl)

noncomputable def tab_SM5a : List (FuncId × SRows) := (35, [([], S2)]) :: []
theorem tab_SM5a_ok : TabOk Tryz.prog tab_SM5a := (TabOk.cons (RowsOk.cons S2_ok RowsOk.nil) TabOk.nil)
noncomputable def H_SM5a : Hand := (sumsHand tab_SM5a)
theorem H_SM5a_ok : HandOk Tryz.prog H_SM5a := (sumsHand_ok tab_SM5a_ok)
end Go.Proofs.YtkckdnjocncnhaaGreatDoor.sm
