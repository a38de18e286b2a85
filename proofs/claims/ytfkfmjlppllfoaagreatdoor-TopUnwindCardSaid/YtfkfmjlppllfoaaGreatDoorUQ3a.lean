/-
  Contracts of calls, by the kernel.
-/
import Derived.Test.YtfkfmjlppllfoaaGreatDoorUNN
import Derived.Test.YtfkfmjlppllfoaaGreatDoorXN3
import Derived.Test.YtfkfmjlppllfoaaGreatDoorProg
import Derived.KernelRfl
import Derived.Test.YtfkfmjlppllfoaaGreatDoorUQ0a
import Derived.Test.YtfkfmjlppllfoaaGreatDoorUQ2a
set_option linter.unusedSectionVars false
set_option linter.unusedVariables false
set_option maxRecDepth 1000000
set_option maxHeartbeats 0
namespace Go.Proofs.YtfkfmjlppllfoaaGreatDoor.uq
open Go.X Go.RowKit
variable [Tab]
noncomputable def K_UQ3a : Hand := ((H_UQ2a).or H_UQ0a)
theorem K_UQ3a_ok : HandOk Tryz.prog K_UQ3a := (HandOk.or H_UQ2a_ok H_UQ0a_ok)

noncomputable def S5287 : Sum := ⟨(.tup [(.so 5 0 1 4), (.agg [(uN 76), tx1, z0, (uN 0)]), bT]), 61, [q55]⟩
theorem S5287_ok : SumOk Tryz.prog 120 [tx50] S5287 := SumOk.of_run (K := K_UQ3a) (n := 5000) (keep := [5]) mixed K_UQ3a_ok (by kernel_rfl) (by as_aux_lemma => kernel_rfl)

noncomputable def S5188 : Sum := ⟨(.tup [(.so 5 0 1 4), (.agg [(uN 76), tx1, z0, (uN 0)]), bT]), 61, [q56]⟩
theorem S5188_ok : SumOk Tryz.prog 120 [tx49] S5188 := SumOk.of_run (K := K_UQ3a) (n := 5000) (keep := [5]) mixed K_UQ3a_ok (by kernel_rfl) (by as_aux_lemma => kernel_rfl)

noncomputable def S5090 : Sum := ⟨(.tup [(.so 5 0 1 4), (.agg [(uN 76), tx1, z0, (uN 0)]), bT]), 61, [q57]⟩
theorem S5090_ok : SumOk Tryz.prog 120 [tx48] S5090 := SumOk.of_run (K := K_UQ3a) (n := 5000) (keep := [5]) mixed K_UQ3a_ok (by kernel_rfl) (by as_aux_lemma => kernel_rfl)

noncomputable def S4993 : Sum := ⟨(.tup [(.so 5 0 1 4), (.agg [(uN 76), tx1, z0, (uN 0)]), bT]), 61, [q58]⟩
theorem S4993_ok : SumOk Tryz.prog 120 [tx47] S4993 := SumOk.of_run (K := K_UQ3a) (n := 5000) (keep := [5]) mixed K_UQ3a_ok (by kernel_rfl) (by as_aux_lemma => kernel_rfl)

noncomputable def S4826 : Sum := ⟨(.tup [(.so 40 0 1 4), (.agg [(uN 76), tx1, z0, (uN 0)]), bT]), 96, [q59]⟩
theorem S4826_ok : SumOk Tryz.prog 120 [tx38] S4826 := SumOk.of_run (K := K_UQ3a) (n := 5000) (keep := [40]) mixed K_UQ3a_ok (by kernel_rfl) (by as_aux_lemma => kernel_rfl)

noncomputable def tab_UQ3a : List (FuncId × SRows) := (120, [([tx50], S5287), ([tx49], S5188), ([tx48], S5090), ([tx47], S4993), ([tx38], S4826)]) :: []
theorem tab_UQ3a_ok : TabOk Tryz.prog tab_UQ3a := (TabOk.cons (RowsOk.cons S5287_ok (RowsOk.cons S5188_ok (RowsOk.cons S5090_ok (RowsOk.cons S4993_ok (RowsOk.cons S4826_ok RowsOk.nil))))) TabOk.nil)
noncomputable def H_UQ3a : Hand := (sumsHand tab_UQ3a)
theorem H_UQ3a_ok : HandOk Tryz.prog H_UQ3a := (sumsHand_ok tab_UQ3a_ok)
end Go.Proofs.YtfkfmjlppllfoaaGreatDoor.uq
