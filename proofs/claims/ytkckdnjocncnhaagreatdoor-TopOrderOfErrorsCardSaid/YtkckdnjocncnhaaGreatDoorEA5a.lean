/-
  Contracts of calls, by the kernel.
-/
import Derived.Test.YtkckdnjocncnhaaGreatDoorXM3
import Derived.Test.YtkckdnjocncnhaaGreatDoorProg
import Derived.KernelRfl
import Derived.Test.YtkckdnjocncnhaaGreatDoorEA0a
import Derived.Test.YtkckdnjocncnhaaGreatDoorEA2d
import Derived.Test.YtkckdnjocncnhaaGreatDoorEA4b
set_option linter.unusedSectionVars false
set_option linter.unusedVariables false
set_option maxRecDepth 1000000
set_option maxHeartbeats 0
namespace Go.Proofs.YtkckdnjocncnhaaGreatDoor.ea
open Go.X Go.RowKit
variable [Tab]
noncomputable def K_EA5a : Hand := ((H_EA4b).or ((H_EA2d).or H_EA0a))
theorem K_EA5a_ok : HandOk Tryz.prog K_EA5a := (HandOk.or H_EA4b_ok (HandOk.or H_EA2d_ok H_EA0a_ok))

noncomputable def S2 : Sum := ⟨(.bool true), 6868, []⟩
theorem S2_ok : SumOk Tryz.prog 35 [] S2 := SumOk.of_run (K := K_EA5a) (n := 5000) (keep := []) mixed K_EA5a_ok (by kernel_rfl) (by as_aux_lemma => kernel_rfl)

noncomputable def tab_EA5a : List (FuncId × SRows) := (35, [([], S2)]) :: []
theorem tab_EA5a_ok : TabOk Tryz.prog tab_EA5a := (TabOk.cons (RowsOk.cons S2_ok RowsOk.nil) TabOk.nil)
noncomputable def H_EA5a : Hand := (sumsHand tab_EA5a)
theorem H_EA5a_ok : HandOk Tryz.prog H_EA5a := (sumsHand_ok tab_EA5a_ok)
end Go.Proofs.YtkckdnjocncnhaaGreatDoor.ea
