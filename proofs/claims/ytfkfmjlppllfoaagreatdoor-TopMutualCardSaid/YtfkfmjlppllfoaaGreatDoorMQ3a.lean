/-
  Contracts of calls, by the kernel.
-/
import Derived.Test.YtfkfmjlppllfoaaGreatDoorMNN
import Derived.Test.YtfkfmjlppllfoaaGreatDoorXN3
import Derived.Test.YtfkfmjlppllfoaaGreatDoorProg
import Derived.KernelRfl
import Derived.Test.YtfkfmjlppllfoaaGreatDoorMQ0a
import Derived.Test.YtfkfmjlppllfoaaGreatDoorMQ2a
set_option linter.unusedSectionVars false
set_option linter.unusedVariables false
set_option maxRecDepth 1000000
set_option maxHeartbeats 0
namespace Go.Proofs.YtfkfmjlppllfoaaGreatDoor.mq
open Go.X Go.RowKit
variable [Tab]
noncomputable def K_MQ3a : Hand := ((H_MQ2a).or H_MQ0a)
theorem K_MQ3a_ok : HandOk Tryz.prog K_MQ3a := (HandOk.or H_MQ2a_ok H_MQ0a_ok)

noncomputable def S5287 : Sum := ⟨(.tup [(.so 5 0 1 4), (.agg [(uN 76), tx1, z0, (uN 0)]), bT]), 61, [q133]⟩
theorem S5287_ok : SumOk Tryz.prog 120 [tx54] S5287 := SumOk.of_run (K := K_MQ3a) (n := 5000) (keep := [5]) mixed K_MQ3a_ok (by kernel_rfl) (by as_aux_lemma => kernel_rfl)

noncomputable def S5188 : Sum := ⟨(.tup [(.so 5 0 1 4), (.agg [(uN 76), tx1, z0, (uN 0)]), bT]), 61, [q134]⟩
theorem S5188_ok : SumOk Tryz.prog 120 [tx53] S5188 := SumOk.of_run (K := K_MQ3a) (n := 5000) (keep := [5]) mixed K_MQ3a_ok (by kernel_rfl) (by as_aux_lemma => kernel_rfl)

noncomputable def S5090 : Sum := ⟨(.tup [(.so 5 0 1 4), (.agg [(uN 76), tx1, z0, (uN 0)]), bT]), 61, [q135]⟩
theorem S5090_ok : SumOk Tryz.prog 120 [tx52] S5090 := SumOk.of_run (K := K_MQ3a) (n := 5000) (keep := [5]) mixed K_MQ3a_ok (by kernel_rfl) (by as_aux_lemma => kernel_rfl)

noncomputable def S4993 : Sum := ⟨(.tup [(.so 5 0 1 4), (.agg [(uN 76), tx1, z0, (uN 0)]), bT]), 61, [q117]⟩
theorem S4993_ok : SumOk Tryz.prog 120 [tx51] S4993 := SumOk.of_run (K := K_MQ3a) (n := 5000) (keep := [5]) mixed K_MQ3a_ok (by kernel_rfl) (by as_aux_lemma => kernel_rfl)

noncomputable def S4826 : Sum := ⟨(.tup [(.so 40 0 1 4), (.agg [(uN 76), tx1, z0, (uN 0)]), bT]), 96, [q136]⟩
theorem S4826_ok : SumOk Tryz.prog 120 [tx41] S4826 := SumOk.of_run (K := K_MQ3a) (n := 5000) (keep := [40]) mixed K_MQ3a_ok (by kernel_rfl) (by as_aux_lemma => kernel_rfl)

noncomputable def tab_MQ3a : List (FuncId × SRows) := (120, [([tx54], S5287), ([tx53], S5188), ([tx52], S5090), ([tx51], S4993), ([tx41], S4826)]) :: []
theorem tab_MQ3a_ok : TabOk Tryz.prog tab_MQ3a := (TabOk.cons (RowsOk.cons S5287_ok (RowsOk.cons S5188_ok (RowsOk.cons S5090_ok (RowsOk.cons S4993_ok (RowsOk.cons S4826_ok RowsOk.nil))))) TabOk.nil)
noncomputable def H_MQ3a : Hand := (sumsHand tab_MQ3a)
theorem H_MQ3a_ok : HandOk Tryz.prog H_MQ3a := (sumsHand_ok tab_MQ3a_ok)
end Go.Proofs.YtfkfmjlppllfoaaGreatDoor.mq
