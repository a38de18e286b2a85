/-
  Contracts of calls, by the kernel.
-/
import Derived.Test.YthgncmohimdbmaaGreatDoorCYNN
import Derived.Test.YthgncmohimdbmaaGreatDoorXN3
import Derived.Test.YthgncmohimdbmaaGreatDoorProg
import Derived.KernelRfl
import Derived.Test.YthgncmohimdbmaaGreatDoorCY0a
import Derived.Test.YthgncmohimdbmaaGreatDoorCY0b
import Derived.Test.YthgncmohimdbmaaGreatDoorCY0c
import Derived.Test.YthgncmohimdbmaaGreatDoorCY1e
set_option linter.unusedSectionVars false
set_option linter.unusedVariables false
set_option maxRecDepth 1000000
set_option maxHeartbeats 0
namespace Go.Proofs.YthgncmohimdbmaaGreatDoor.cy
open Go.X Go.RowKit
variable [Tab]
noncomputable def K_CY2a : Hand := ((H_CY1e).or ((H_CY0c).or H_CY0b))
theorem K_CY2a_ok : HandOk Tryz.prog K_CY2a := (HandOk.or H_CY1e_ok (HandOk.or H_CY0c_ok H_CY0b_ok))

noncomputable def I16329 : In := ⟨368, [(pN 16270), (.agg [(iN 38), (iN 3), (iN 184), bF, (iN 8), z0, .nils, .nils])], 18170, [q22, q23, (16270, (.cells 12 false [] (T.ofList 0 .leaf [(pN 7221), (pN 14128), (pN 16258), (uN 73), tx1, z0, (uN 0), (iN 38), (.so 18149 0 3 3), (.so 18152 0 5 3), (.map 16269), bF]))), q656, q657], (.tup []), 18342, [q22, q23, (16270, (.cells 12 false [] (T.ofList 0 .leaf [(pN 7221), (pN 14128), (pN 16258), (uN 73), tx1, z0, (uN 0), (iN 38), (.so 18339 0 3 3), (.sl 18341 0 0 0), (.map 16269), bF]))), q656, q657, q654, q655]⟩
theorem I16329_ok : InOk Tryz.prog I16329 := InOk.of_run (K := K_CY2a) (n := 5000) mixed K_CY2a_ok (by kernel_rfl) (by as_aux_lemma => kernel_rfl)

noncomputable def S14010 : Sum := ⟨(iN 5), 107, []⟩
theorem S14010_ok : SumOk Tryz.prog 194 [tx13] S14010 := SumOk.of_run (K := K_CY2a) (n := 5000) (keep := []) mixed K_CY2a_ok (by kernel_rfl) (by as_aux_lemma => kernel_rfl)

noncomputable def S4909 : Sum := ⟨(.tup [(.agg [(uN 76), tx3, z0, (uN 0)]), (iN 25)]), 52, []⟩
theorem S4909_ok : SumOk Tryz.prog 208 [tx72] S4909 := SumOk.of_run (K := K_CY2a) (n := 5000) (keep := []) mixed K_CY2a_ok (by kernel_rfl) (by as_aux_lemma => kernel_rfl)

noncomputable def S4708 : Sum := ⟨(.tup [(.so 5 0 1 4), (.agg [(uN 76), tx6, z0, (uN 0)]), bT]), 46, [q713]⟩
theorem S4708_ok : SumOk Tryz.prog 116 [tx56] S4708 := SumOk.of_run (K := K_CY2a) (n := 5000) (keep := [5]) mixed K_CY2a_ok (by kernel_rfl) (by as_aux_lemma => kernel_rfl)

noncomputable def S4602 : Sum := ⟨(.tup [(.so 5 0 1 4), (.agg [(uN 76), tx6, z0, (uN 0)]), bT]), 46, [q714]⟩
theorem S4602_ok : SumOk Tryz.prog 116 [tx55] S4602 := SumOk.of_run (K := K_CY2a) (n := 5000) (keep := [5]) mixed K_CY2a_ok (by kernel_rfl) (by as_aux_lemma => kernel_rfl)

noncomputable def S4497 : Sum := ⟨(.tup [(.so 5 0 1 4), (.agg [(uN 76), tx6, z0, (uN 0)]), bT]), 46, [q715]⟩
theorem S4497_ok : SumOk Tryz.prog 116 [tx54] S4497 := SumOk.of_run (K := K_CY2a) (n := 5000) (keep := [5]) mixed K_CY2a_ok (by kernel_rfl) (by as_aux_lemma => kernel_rfl)

noncomputable def S4393 : Sum := ⟨(.tup [(.so 5 0 1 4), (.agg [(uN 76), tx6, z0, (uN 0)]), bT]), 46, [q716]⟩
theorem S4393_ok : SumOk Tryz.prog 116 [tx53] S4393 := SumOk.of_run (K := K_CY2a) (n := 5000) (keep := [5]) mixed K_CY2a_ok (by kernel_rfl) (by as_aux_lemma => kernel_rfl)

noncomputable def S3926 : Sum := ⟨(.tup [(.so 40 0 1 4), (.agg [(uN 76), tx6, z0, (uN 0)]), bT]), 81, [q717]⟩
theorem S3926_ok : SumOk Tryz.prog 116 [tx31] S3926 := SumOk.of_run (K := K_CY2a) (n := 5000) (keep := [40]) mixed K_CY2a_ok (by kernel_rfl) (by as_aux_lemma => kernel_rfl)

noncomputable def tab_CY2a : List (FuncId × SRows) := (116, [([tx56], S4708), ([tx55], S4602), ([tx54], S4497), ([tx53], S4393), ([tx31], S3926)]) :: (208, [([tx72], S4909)]) :: (194, [([tx13], S14010)]) :: []
theorem tab_CY2a_ok : TabOk Tryz.prog tab_CY2a := (TabOk.cons (RowsOk.cons S4708_ok (RowsOk.cons S4602_ok (RowsOk.cons S4497_ok (RowsOk.cons S4393_ok (RowsOk.cons S3926_ok RowsOk.nil))))) (TabOk.cons (RowsOk.cons S4909_ok RowsOk.nil) (TabOk.cons (RowsOk.cons S14010_ok RowsOk.nil) TabOk.nil)))
noncomputable def H_CY2a : Hand := ((Hand.at 368 (inHand I16329)).or (sumsHand tab_CY2a))
theorem H_CY2a_ok : HandOk Tryz.prog H_CY2a := (HandOk.or (HandOk.at 368 (inHand_ok I16329_ok (by kernel_rfl))) (sumsHand_ok tab_CY2a_ok))
end Go.Proofs.YthgncmohimdbmaaGreatDoor.cy
