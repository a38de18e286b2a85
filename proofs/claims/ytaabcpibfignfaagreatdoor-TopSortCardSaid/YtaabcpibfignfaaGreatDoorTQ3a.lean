/-
  Contracts of calls, by the kernel.
-/
import Derived.Test.YtaabcpibfignfaaGreatDoorSONN
import Derived.Test.YtaabcpibfignfaaGreatDoorXN3
import Derived.Test.YtaabcpibfignfaaGreatDoorProg
import Derived.KernelRfl
import Derived.Test.YtaabcpibfignfaaGreatDoorTQ0a
import Derived.Test.YtaabcpibfignfaaGreatDoorTQ2a
set_option linter.unusedSectionVars false
set_option linter.unusedVariables false
set_option maxRecDepth 1000000
set_option maxHeartbeats 0
namespace Go.Proofs.YtaabcpibfignfaaGreatDoor.tq
open Go.X Go.RowKit
variable [Tab]
noncomputable def K_TQ3a : Hand := ((H_TQ2a).or H_TQ0a)
theorem K_TQ3a_ok : HandOk Tryz.prog K_TQ3a := (HandOk.or H_TQ2a_ok H_TQ0a_ok)

noncomputable def I13720 : In := ⟨70, [(pN 14236)], 14237, [q158, (14234, (.cells 3 false [] (T.ofList 0 .leaf [(.so 14233 0 358 1), z0, bF]))), (14235, (.cells 8 false [] (T.ofList 0 .leaf [(iN 52), .nils, z0, tx0, tx0, .nils, .nils, .nils]))), q159], (.tup []), 17209, [q158, q133, q159, q134, q145, q146, q147, q148, q149, q150, q151, q152, q153, q154, q2]⟩
theorem I13720_ok : InOk Tryz.prog I13720 := InOk.of_run (K := K_TQ3a) (n := 5000) mixed K_TQ3a_ok (by kernel_rfl) (by as_aux_lemma => kernel_rfl)

noncomputable def S5287 : Sum := ⟨(.tup [(.so 5 0 1 4), (.agg [(uN 76), tx3, z0, (uN 0)]), bT]), 61, [q180]⟩
theorem S5287_ok : SumOk Tryz.prog 144 [tx50] S5287 := SumOk.of_run (K := K_TQ3a) (n := 5000) (keep := [5]) mixed K_TQ3a_ok (by kernel_rfl) (by as_aux_lemma => kernel_rfl)

noncomputable def S5188 : Sum := ⟨(.tup [(.so 5 0 1 4), (.agg [(uN 76), tx3, z0, (uN 0)]), bT]), 61, [q181]⟩
theorem S5188_ok : SumOk Tryz.prog 144 [tx49] S5188 := SumOk.of_run (K := K_TQ3a) (n := 5000) (keep := [5]) mixed K_TQ3a_ok (by kernel_rfl) (by as_aux_lemma => kernel_rfl)

noncomputable def S5090 : Sum := ⟨(.tup [(.so 5 0 1 4), (.agg [(uN 76), tx3, z0, (uN 0)]), bT]), 61, [q182]⟩
theorem S5090_ok : SumOk Tryz.prog 144 [tx48] S5090 := SumOk.of_run (K := K_TQ3a) (n := 5000) (keep := [5]) mixed K_TQ3a_ok (by kernel_rfl) (by as_aux_lemma => kernel_rfl)

noncomputable def S4993 : Sum := ⟨(.tup [(.so 5 0 1 4), (.agg [(uN 76), tx3, z0, (uN 0)]), bT]), 61, [q183]⟩
theorem S4993_ok : SumOk Tryz.prog 144 [tx47] S4993 := SumOk.of_run (K := K_TQ3a) (n := 5000) (keep := [5]) mixed K_TQ3a_ok (by kernel_rfl) (by as_aux_lemma => kernel_rfl)

noncomputable def S4826 : Sum := ⟨(.tup [(.so 40 0 1 4), (.agg [(uN 76), tx3, z0, (uN 0)]), bT]), 96, [q184]⟩
theorem S4826_ok : SumOk Tryz.prog 144 [tx25] S4826 := SumOk.of_run (K := K_TQ3a) (n := 5000) (keep := [40]) mixed K_TQ3a_ok (by kernel_rfl) (by as_aux_lemma => kernel_rfl)

noncomputable def tab_TQ3a : List (FuncId × SRows) := (144, [([tx50], S5287), ([tx49], S5188), ([tx48], S5090), ([tx47], S4993), ([tx25], S4826)]) :: []
theorem tab_TQ3a_ok : TabOk Tryz.prog tab_TQ3a := (TabOk.cons (RowsOk.cons S5287_ok (RowsOk.cons S5188_ok (RowsOk.cons S5090_ok (RowsOk.cons S4993_ok (RowsOk.cons S4826_ok RowsOk.nil))))) TabOk.nil)
noncomputable def H_TQ3a : Hand := ((Hand.at 70 (inHand I13720)).or (sumsHand tab_TQ3a))
theorem H_TQ3a_ok : HandOk Tryz.prog H_TQ3a := (HandOk.or (HandOk.at 70 (inHand_ok I13720_ok (by kernel_rfl))) (sumsHand_ok tab_TQ3a_ok))
end Go.Proofs.YtaabcpibfignfaaGreatDoor.tq
