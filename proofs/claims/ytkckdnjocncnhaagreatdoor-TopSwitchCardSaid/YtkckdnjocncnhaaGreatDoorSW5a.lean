/-
  Contracts of calls, by the kernel.
-/
import Derived.Test.YtkckdnjocncnhaaGreatDoorXN3
import Derived.Test.YtkckdnjocncnhaaGreatDoorProg
import Derived.KernelRfl
import Derived.Test.YtkckdnjocncnhaaGreatDoorSW0a
import Derived.Test.YtkckdnjocncnhaaGreatDoorSW2d
import Derived.Test.YtkckdnjocncnhaaGreatDoorSW4a
set_option linter.unusedSectionVars false
set_option linter.unusedVariables false
set_option maxRecDepth 1000000
set_option maxHeartbeats 0
namespace Go.Proofs.YtkckdnjocncnhaaGreatDoor.sw
open Go.X Go.RowKit
variable [Tab]
noncomputable def K_SW5a : Hand := ((H_SW4a).or ((H_SW2d).or H_SW0a))
theorem K_SW5a_ok : HandOk Tryz.prog K_SW5a := (HandOk.or H_SW4a_ok (HandOk.or H_SW2d_ok H_SW0a_ok))

noncomputable def S2 : Sum := ⟨(.bool true), 6868, []⟩
theorem S2_ok : SumOk Tryz.prog 35 [] S2 := SumOk.of_run (K := K_SW5a) (n := 5000) (keep := []) mixed K_SW5a_ok (by kernel_rfl) (by as_aux_lemma => kernel_rfl)

noncomputable def tab_SW5a : List (FuncId × SRows) := (35, [([], S2)]) :: []
theorem tab_SW5a_ok : TabOk Tryz.prog tab_SW5a := (TabOk.cons (RowsOk.cons S2_ok RowsOk.nil) TabOk.nil)
noncomputable def H_SW5a : Hand := (sumsHand tab_SW5a)
theorem H_SW5a_ok : HandOk Tryz.prog H_SW5a := (sumsHand_ok tab_SW5a_ok)
end Go.Proofs.YtkckdnjocncnhaaGreatDoor.sw
