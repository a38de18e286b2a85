/-
  Contracts of calls, by the kernel.
-/
import Derived.Test.YthgncmohimdbmaaGreatDoorCYNN
import Derived.Test.YthgncmohimdbmaaGreatDoorXN3
import Derived.Test.YthgncmohimdbmaaGreatDoorProg
import Derived.KernelRfl
import Derived.Test.YthgncmohimdbmaaGreatDoorCY0a
import Derived.Test.YthgncmohimdbmaaGreatDoorCY0c
import Derived.Test.YthgncmohimdbmaaGreatDoorCY2a
set_option linter.unusedSectionVars false
set_option linter.unusedVariables false
set_option maxRecDepth 1000000
set_option maxHeartbeats 0
namespace Go.Proofs.YthgncmohimdbmaaGreatDoor.cy
open Go.X Go.RowKit
variable [Tab]
noncomputable def K_CY3a : Hand := ((H_CY2a).or H_CY0c)
theorem K_CY3a_ok : HandOk Tryz.prog K_CY3a := (HandOk.or H_CY2a_ok H_CY0c_ok)

noncomputable def S5287 : Sum := ⟨(.tup [(.so 5 0 1 4), (.agg [(uN 76), tx3, z0, (uN 0)]), bT]), 61, [q713]⟩
theorem S5287_ok : SumOk Tryz.prog 116 [tx50] S5287 := SumOk.of_run (K := K_CY3a) (n := 5000) (keep := [5]) mixed K_CY3a_ok (by kernel_rfl) (by as_aux_lemma => kernel_rfl)

noncomputable def S5188 : Sum := ⟨(.tup [(.so 5 0 1 4), (.agg [(uN 76), tx3, z0, (uN 0)]), bT]), 61, [q714]⟩
theorem S5188_ok : SumOk Tryz.prog 116 [tx49] S5188 := SumOk.of_run (K := K_CY3a) (n := 5000) (keep := [5]) mixed K_CY3a_ok (by kernel_rfl) (by as_aux_lemma => kernel_rfl)

noncomputable def S5090 : Sum := ⟨(.tup [(.so 5 0 1 4), (.agg [(uN 76), tx3, z0, (uN 0)]), bT]), 61, [q715]⟩
theorem S5090_ok : SumOk Tryz.prog 116 [tx48] S5090 := SumOk.of_run (K := K_CY3a) (n := 5000) (keep := [5]) mixed K_CY3a_ok (by kernel_rfl) (by as_aux_lemma => kernel_rfl)

noncomputable def S4993 : Sum := ⟨(.tup [(.so 5 0 1 4), (.agg [(uN 76), tx3, z0, (uN 0)]), bT]), 61, [q716]⟩
theorem S4993_ok : SumOk Tryz.prog 116 [tx47] S4993 := SumOk.of_run (K := K_CY3a) (n := 5000) (keep := [5]) mixed K_CY3a_ok (by kernel_rfl) (by as_aux_lemma => kernel_rfl)

noncomputable def S4826 : Sum := ⟨(.tup [(.so 40 0 1 4), (.agg [(uN 76), tx3, z0, (uN 0)]), bT]), 96, [q717]⟩
theorem S4826_ok : SumOk Tryz.prog 116 [tx25] S4826 := SumOk.of_run (K := K_CY3a) (n := 5000) (keep := [40]) mixed K_CY3a_ok (by kernel_rfl) (by as_aux_lemma => kernel_rfl)

noncomputable def tab_CY3a : List (FuncId × SRows) := (116, [([tx50], S5287), ([tx49], S5188), ([tx48], S5090), ([tx47], S4993), ([tx25], S4826)]) :: []
theorem tab_CY3a_ok : TabOk Tryz.prog tab_CY3a := (TabOk.cons (RowsOk.cons S5287_ok (RowsOk.cons S5188_ok (RowsOk.cons S5090_ok (RowsOk.cons S4993_ok (RowsOk.cons S4826_ok RowsOk.nil))))) TabOk.nil)
noncomputable def H_CY3a : Hand := (sumsHand tab_CY3a)
theorem H_CY3a_ok : HandOk Tryz.prog H_CY3a := (sumsHand_ok tab_CY3a_ok)
end Go.Proofs.YthgncmohimdbmaaGreatDoor.cy
