/-
  Contracts of calls, by the kernel.
-/
import Derived.Test.YtaabcpibfignfaaGreatDoorSONN
import Derived.Test.YtaabcpibfignfaaGreatDoorXN3
import Derived.Test.YtaabcpibfignfaaGreatDoorProg
import Derived.KernelRfl
import Derived.Test.YtaabcpibfignfaaGreatDoorTQ0a
import Derived.Test.YtaabcpibfignfaaGreatDoorTQ1a
set_option linter.unusedSectionVars false
set_option linter.unusedVariables false
set_option maxRecDepth 1000000
set_option maxHeartbeats 0
namespace Go.Proofs.YtaabcpibfignfaaGreatDoor.tq
open Go.X Go.RowKit
variable [Tab]
noncomputable def K_TQ2a : Hand := ((H_TQ1a).or H_TQ0a)
theorem K_TQ2a_ok : HandOk Tryz.prog K_TQ2a := (HandOk.or H_TQ1a_ok H_TQ0a_ok)

noncomputable def I15489 : In := ⟨297, [(pN 7334), (pN 14235), z0], 17260, [q133, q134, q145, q146, q147, q148, q149, q150, q151, q152, q153, q154, q2], (.tup [(.so 23151 0 81 3), bT]), 23201, [q133, q134, q145, q146, q147, q148, q149, q150, q151, q152, q153, q154, q2]⟩
theorem I15489_ok : InOk Tryz.prog I15489 := InOk.of_run (K := K_TQ2a) (n := 5000) mixed K_TQ2a_ok (by kernel_rfl) (by as_aux_lemma => kernel_rfl)

noncomputable def I14195 : In := ⟨294, [(pN 14556)], 14559, [(14555, (.map [] 0)), q157, q145], bT, 16959, [q157, q145]⟩
theorem I14195_ok : InOk Tryz.prog I14195 := InOk.of_run (K := K_TQ2a) (n := 5000) mixed K_TQ2a_ok (by kernel_rfl) (by as_aux_lemma => kernel_rfl)

noncomputable def S4909 : Sum := ⟨(.tup [(.agg [(uN 76), tx3, z0, (uN 0)]), (iN 25)]), 52, []⟩
theorem S4909_ok : SumOk Tryz.prog 205 [tx66] S4909 := SumOk.of_run (K := K_TQ2a) (n := 5000) (keep := []) mixed K_TQ2a_ok (by kernel_rfl) (by as_aux_lemma => kernel_rfl)

noncomputable def S4708 : Sum := ⟨(.tup [(.so 5 0 1 4), (.agg [(uN 76), tx6, z0, (uN 0)]), bT]), 46, [q180]⟩
theorem S4708_ok : SumOk Tryz.prog 144 [tx56] S4708 := SumOk.of_run (K := K_TQ2a) (n := 5000) (keep := [5]) mixed K_TQ2a_ok (by kernel_rfl) (by as_aux_lemma => kernel_rfl)

noncomputable def S4602 : Sum := ⟨(.tup [(.so 5 0 1 4), (.agg [(uN 76), tx6, z0, (uN 0)]), bT]), 46, [q181]⟩
theorem S4602_ok : SumOk Tryz.prog 144 [tx55] S4602 := SumOk.of_run (K := K_TQ2a) (n := 5000) (keep := [5]) mixed K_TQ2a_ok (by kernel_rfl) (by as_aux_lemma => kernel_rfl)

noncomputable def S4497 : Sum := ⟨(.tup [(.so 5 0 1 4), (.agg [(uN 76), tx6, z0, (uN 0)]), bT]), 46, [q182]⟩
theorem S4497_ok : SumOk Tryz.prog 144 [tx54] S4497 := SumOk.of_run (K := K_TQ2a) (n := 5000) (keep := [5]) mixed K_TQ2a_ok (by kernel_rfl) (by as_aux_lemma => kernel_rfl)

noncomputable def S4393 : Sum := ⟨(.tup [(.so 5 0 1 4), (.agg [(uN 76), tx6, z0, (uN 0)]), bT]), 46, [q183]⟩
theorem S4393_ok : SumOk Tryz.prog 144 [tx53] S4393 := SumOk.of_run (K := K_TQ2a) (n := 5000) (keep := [5]) mixed K_TQ2a_ok (by kernel_rfl) (by as_aux_lemma => kernel_rfl)

noncomputable def S3926 : Sum := ⟨(.tup [(.so 40 0 1 4), (.agg [(uN 76), tx6, z0, (uN 0)]), bT]), 81, [q184]⟩
theorem S3926_ok : SumOk Tryz.prog 144 [tx37] S3926 := SumOk.of_run (K := K_TQ2a) (n := 5000) (keep := [40]) mixed K_TQ2a_ok (by kernel_rfl) (by as_aux_lemma => kernel_rfl)

noncomputable def tab_TQ2a : List (FuncId × SRows) := (144, [([tx56], S4708), ([tx55], S4602), ([tx54], S4497), ([tx53], S4393), ([tx37], S3926)]) :: (205, [([tx66], S4909)]) :: []
theorem tab_TQ2a_ok : TabOk Tryz.prog tab_TQ2a := (TabOk.cons (RowsOk.cons S4708_ok (RowsOk.cons S4602_ok (RowsOk.cons S4497_ok (RowsOk.cons S4393_ok (RowsOk.cons S3926_ok RowsOk.nil))))) (TabOk.cons (RowsOk.cons S4909_ok RowsOk.nil) TabOk.nil))
noncomputable def H_TQ2a : Hand := (((Hand.at 294 (inHand I14195)).or (Hand.at 297 (inHand I15489))).or (sumsHand tab_TQ2a))
theorem H_TQ2a_ok : HandOk Tryz.prog H_TQ2a := (HandOk.or (HandOk.or (HandOk.at 294 (inHand_ok I14195_ok (by kernel_rfl))) (HandOk.at 297 (inHand_ok I15489_ok (by kernel_rfl)))) (sumsHand_ok tab_TQ2a_ok))
end Go.Proofs.YtaabcpibfignfaaGreatDoor.tq
