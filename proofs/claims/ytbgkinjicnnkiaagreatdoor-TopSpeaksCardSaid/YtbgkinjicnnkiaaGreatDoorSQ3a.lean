/-
  Contracts of calls, by the kernel.
-/
import Derived.Test.YtbgkinjicnnkiaaGreatDoorSNN
import Derived.Test.YtbgkinjicnnkiaaGreatDoorXN3
import Derived.Test.YtbgkinjicnnkiaaGreatDoorProg
import Derived.KernelRfl
import Derived.Test.YtbgkinjicnnkiaaGreatDoorSQ0a
import Derived.Test.YtbgkinjicnnkiaaGreatDoorSQ2a
set_option linter.unusedSectionVars false
set_option linter.unusedVariables false
set_option maxRecDepth 1000000
set_option maxHeartbeats 0
namespace Go.Proofs.YtbgkinjicnnkiaaGreatDoor.sq
open Go.X Go.RowKit
variable [Tab]
noncomputable def K_SQ3a : Hand := ((H_SQ2a).or H_SQ0a)
theorem K_SQ3a_ok : HandOk Tryz.prog K_SQ3a := (HandOk.or H_SQ2a_ok H_SQ0a_ok)

noncomputable def I15868 : In := ⟨86, [(pN 16431)], 16432, [q327, q328, (16430, (.cells 8 false [] (T.ofList 0 .leaf [(iN 52), .nils, z0, tx4, tx4, .nils, .nils, .nils]))), q329], (.tup []), 17786, [q327, q5, q329, q39, q6, q7]⟩
theorem I15868_ok : InOk Tryz.prog I15868 := InOk.of_run (K := K_SQ3a) (n := 5000) mixed K_SQ3a_ok (by kernel_rfl) (by as_aux_lemma => kernel_rfl)

noncomputable def S5287 : Sum := ⟨(.tup [(.so 5 0 1 4), (.agg [(uN 76), tx2, z0, (uN 0)]), bT]), 61, [q411]⟩
theorem S5287_ok : SumOk Tryz.prog 160 [tx55] S5287 := SumOk.of_run (K := K_SQ3a) (n := 5000) (keep := [5]) mixed K_SQ3a_ok (by kernel_rfl) (by as_aux_lemma => kernel_rfl)

noncomputable def S5188 : Sum := ⟨(.tup [(.so 5 0 1 4), (.agg [(uN 76), tx2, z0, (uN 0)]), bT]), 61, [q412]⟩
theorem S5188_ok : SumOk Tryz.prog 160 [tx54] S5188 := SumOk.of_run (K := K_SQ3a) (n := 5000) (keep := [5]) mixed K_SQ3a_ok (by kernel_rfl) (by as_aux_lemma => kernel_rfl)

noncomputable def S5090 : Sum := ⟨(.tup [(.so 5 0 1 4), (.agg [(uN 76), tx2, z0, (uN 0)]), bT]), 61, [q413]⟩
theorem S5090_ok : SumOk Tryz.prog 160 [tx53] S5090 := SumOk.of_run (K := K_SQ3a) (n := 5000) (keep := [5]) mixed K_SQ3a_ok (by kernel_rfl) (by as_aux_lemma => kernel_rfl)

noncomputable def S4993 : Sum := ⟨(.tup [(.so 5 0 1 4), (.agg [(uN 76), tx2, z0, (uN 0)]), bT]), 61, [q326]⟩
theorem S4993_ok : SumOk Tryz.prog 160 [tx52] S4993 := SumOk.of_run (K := K_SQ3a) (n := 5000) (keep := [5]) mixed K_SQ3a_ok (by kernel_rfl) (by as_aux_lemma => kernel_rfl)

noncomputable def S4826 : Sum := ⟨(.tup [(.so 40 0 1 4), (.agg [(uN 76), tx2, z0, (uN 0)]), bT]), 96, [q414]⟩
theorem S4826_ok : SumOk Tryz.prog 160 [tx45] S4826 := SumOk.of_run (K := K_SQ3a) (n := 5000) (keep := [40]) mixed K_SQ3a_ok (by kernel_rfl) (by as_aux_lemma => kernel_rfl)

noncomputable def tab_SQ3a : List (FuncId × SRows) := (160, [([tx55], S5287), ([tx54], S5188), ([tx53], S5090), ([tx52], S4993), ([tx45], S4826)]) :: []
theorem tab_SQ3a_ok : TabOk Tryz.prog tab_SQ3a := (TabOk.cons (RowsOk.cons S5287_ok (RowsOk.cons S5188_ok (RowsOk.cons S5090_ok (RowsOk.cons S4993_ok (RowsOk.cons S4826_ok RowsOk.nil))))) TabOk.nil)
noncomputable def H_SQ3a : Hand := ((Hand.at 86 (inHand I15868)).or (sumsHand tab_SQ3a))
theorem H_SQ3a_ok : HandOk Tryz.prog H_SQ3a := (HandOk.or (HandOk.at 86 (inHand_ok I15868_ok (by kernel_rfl))) (sumsHand_ok tab_SQ3a_ok))
end Go.Proofs.YtbgkinjicnnkiaaGreatDoor.sq
