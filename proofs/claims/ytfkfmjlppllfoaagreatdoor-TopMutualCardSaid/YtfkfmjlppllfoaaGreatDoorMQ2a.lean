/-
  Contracts of calls, by the kernel.
-/
import Derived.Test.YtfkfmjlppllfoaaGreatDoorMNN
import Derived.Test.YtfkfmjlppllfoaaGreatDoorXN3
import Derived.Test.YtfkfmjlppllfoaaGreatDoorProg
import Derived.KernelRfl
import Derived.Test.YtfkfmjlppllfoaaGreatDoorMQ0a
import Derived.Test.YtfkfmjlppllfoaaGreatDoorMQ1a
set_option linter.unusedSectionVars false
set_option linter.unusedVariables false
set_option maxRecDepth 1000000
set_option maxHeartbeats 0
namespace Go.Proofs.YtfkfmjlppllfoaaGreatDoor.mq
open Go.X Go.RowKit
variable [Tab]
noncomputable def K_MQ2a : Hand := ((H_MQ1a).or H_MQ0a)
theorem K_MQ2a_ok : HandOk Tryz.prog K_MQ2a := (HandOk.or H_MQ1a_ok H_MQ0a_ok)

noncomputable def I13737 : In := ⟨72, [(pN 14063)], 14064, [q118, (14061, (.cells 3 false [] (T.ofList 0 .leaf [(.so 14060 0 218 1), z0, bF]))), (14062, (.cells 8 false [] (T.ofList 0 .leaf [(iN 52), .nils, z0, tx6, tx6, .nils, .nils, .nils]))), q119], (.tup []), 15201, [q118, q5, q119, q43, q18, q115, q19, q6, q116, q7, q8]⟩
theorem I13737_ok : InOk Tryz.prog I13737 := InOk.of_run (K := K_MQ2a) (n := 5000) mixed K_MQ2a_ok (by kernel_rfl) (by as_aux_lemma => kernel_rfl)

noncomputable def S4909 : Sum := ⟨(.tup [(.agg [(uN 76), tx1, z0, (uN 0)]), (iN 25)]), 52, []⟩
theorem S4909_ok : SumOk Tryz.prog 212 [tx71] S4909 := SumOk.of_run (K := K_MQ2a) (n := 5000) (keep := []) mixed K_MQ2a_ok (by kernel_rfl) (by as_aux_lemma => kernel_rfl)

noncomputable def S4708 : Sum := ⟨(.tup [(.so 5 0 1 4), (.agg [(uN 76), tx7, z0, (uN 0)]), bT]), 46, [q133]⟩
theorem S4708_ok : SumOk Tryz.prog 120 [tx61] S4708 := SumOk.of_run (K := K_MQ2a) (n := 5000) (keep := [5]) mixed K_MQ2a_ok (by kernel_rfl) (by as_aux_lemma => kernel_rfl)

noncomputable def S4602 : Sum := ⟨(.tup [(.so 5 0 1 4), (.agg [(uN 76), tx7, z0, (uN 0)]), bT]), 46, [q134]⟩
theorem S4602_ok : SumOk Tryz.prog 120 [tx60] S4602 := SumOk.of_run (K := K_MQ2a) (n := 5000) (keep := [5]) mixed K_MQ2a_ok (by kernel_rfl) (by as_aux_lemma => kernel_rfl)

noncomputable def S4497 : Sum := ⟨(.tup [(.so 5 0 1 4), (.agg [(uN 76), tx7, z0, (uN 0)]), bT]), 46, [q135]⟩
theorem S4497_ok : SumOk Tryz.prog 120 [tx59] S4497 := SumOk.of_run (K := K_MQ2a) (n := 5000) (keep := [5]) mixed K_MQ2a_ok (by kernel_rfl) (by as_aux_lemma => kernel_rfl)

noncomputable def S4393 : Sum := ⟨(.tup [(.so 5 0 1 4), (.agg [(uN 76), tx7, z0, (uN 0)]), bT]), 46, [q117]⟩
theorem S4393_ok : SumOk Tryz.prog 120 [tx58] S4393 := SumOk.of_run (K := K_MQ2a) (n := 5000) (keep := [5]) mixed K_MQ2a_ok (by kernel_rfl) (by as_aux_lemma => kernel_rfl)

noncomputable def S3926 : Sum := ⟨(.tup [(.so 40 0 1 4), (.agg [(uN 76), tx7, z0, (uN 0)]), bT]), 81, [q136]⟩
theorem S3926_ok : SumOk Tryz.prog 120 [tx45] S3926 := SumOk.of_run (K := K_MQ2a) (n := 5000) (keep := [40]) mixed K_MQ2a_ok (by kernel_rfl) (by as_aux_lemma => kernel_rfl)

noncomputable def tab_MQ2a : List (FuncId × SRows) := (120, [([tx61], S4708), ([tx60], S4602), ([tx59], S4497), ([tx58], S4393), ([tx45], S3926)]) :: (212, [([tx71], S4909)]) :: []
theorem tab_MQ2a_ok : TabOk Tryz.prog tab_MQ2a := (TabOk.cons (RowsOk.cons S4708_ok (RowsOk.cons S4602_ok (RowsOk.cons S4497_ok (RowsOk.cons S4393_ok (RowsOk.cons S3926_ok RowsOk.nil))))) (TabOk.cons (RowsOk.cons S4909_ok RowsOk.nil) TabOk.nil))
noncomputable def H_MQ2a : Hand := ((Hand.at 72 (inHand I13737)).or (sumsHand tab_MQ2a))
theorem H_MQ2a_ok : HandOk Tryz.prog H_MQ2a := (HandOk.or (HandOk.at 72 (inHand_ok I13737_ok (by kernel_rfl))) (sumsHand_ok tab_MQ2a_ok))
end Go.Proofs.YtfkfmjlppllfoaaGreatDoor.mq
