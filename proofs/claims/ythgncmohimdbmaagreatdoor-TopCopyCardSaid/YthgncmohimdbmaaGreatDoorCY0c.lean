/-
  Contracts of calls, by the kernel.
-/
import Derived.Test.YthgncmohimdbmaaGreatDoorCYNN
import Derived.Test.YthgncmohimdbmaaGreatDoorXN3
import Derived.Test.YthgncmohimdbmaaGreatDoorProg
import Derived.KernelRfl
import Derived.Test.YthgncmohimdbmaaGreatDoorCY0a
set_option linter.unusedSectionVars false
set_option linter.unusedVariables false
set_option maxRecDepth 1000000
set_option maxHeartbeats 0
namespace Go.Proofs.YthgncmohimdbmaaGreatDoor.cy
open Go.X Go.RowKit
variable [Tab]
noncomputable def K_CY0c : Hand := Hand.none
theorem K_CY0c_ok : HandOk Tryz.prog K_CY0c := HandOk.none

noncomputable def I6703 : In := ⟨141, [(pN 3256), (.fn (.func 142) [] [(pN 6843)])], 6851, [q707, (6725, (.cells 1 true [] (T.ofList 0 .leaf [(uN 76)]))), (6821, (.cells 1 true [] (T.ofList 0 .leaf [(uN 76)]))), q708, q709, q710, q711, (6843, (.cells 1 false [] (T.ofList 0 .leaf [(.map 6842)])))], (.map 6851), 6859, [(3256, (.cells 5 false [] (T.ofList 0 .leaf [(pN 3), (.so 6824 0 8 1), (.so 6858 0 3 1), (.so 6823 0 3 3), (.map 3255)]))), (6725, (.cells 1 true [] (T.ofList 0 .leaf [(uN 76)]))), (6821, (.cells 1 true [] (T.ofList 0 .leaf [(uN 76)]))), q708, q709, q710, q711, (6843, (.cells 1 false [] (T.ofList 0 .leaf [(.map 6842)]))), (6851, (.map [(z1, z1, 0), ((iN 3), (iN 3), 1), ((iN 6), (iN 6), 2)] 3))]⟩
theorem I6703_ok : InOk Tryz.prog I6703 := InOk.of_run (K := K_CY0c) (n := 5000) mixed K_CY0c_ok (by kernel_rfl) (by as_aux_lemma => kernel_rfl)

noncomputable def S5693 : Sum := ⟨(.tup [(.so 5 0 1 4), (.agg [(uN 86), tx1, z0, (uN 0)]), bT]), 6, [q713]⟩
theorem S5693_ok : SumOk Tryz.prog 116 [tx63] S5693 := SumOk.of_run (K := K_CY0c) (n := 5000) (keep := [5]) mixed K_CY0c_ok (by kernel_rfl) (by as_aux_lemma => kernel_rfl)

noncomputable def S5664 : Sum := ⟨(.tup [(.so 5 0 1 4), (.agg [(uN 86), tx1, z0, (uN 0)]), bT]), 6, [q714]⟩
theorem S5664_ok : SumOk Tryz.prog 116 [tx64] S5664 := SumOk.of_run (K := K_CY0c) (n := 5000) (keep := [5]) mixed K_CY0c_ok (by kernel_rfl) (by as_aux_lemma => kernel_rfl)

noncomputable def S5636 : Sum := ⟨(.tup [(.so 5 0 1 4), (.agg [(uN 86), tx1, z0, (uN 0)]), bT]), 6, [q715]⟩
theorem S5636_ok : SumOk Tryz.prog 116 [tx65] S5636 := SumOk.of_run (K := K_CY0c) (n := 5000) (keep := [5]) mixed K_CY0c_ok (by kernel_rfl) (by as_aux_lemma => kernel_rfl)

noncomputable def S5609 : Sum := ⟨(.tup [(.so 5 0 1 4), (.agg [(uN 86), tx1, z0, (uN 0)]), bT]), 6, [q716]⟩
theorem S5609_ok : SumOk Tryz.prog 116 [tx66] S5609 := SumOk.of_run (K := K_CY0c) (n := 5000) (keep := [5]) mixed K_CY0c_ok (by kernel_rfl) (by as_aux_lemma => kernel_rfl)

noncomputable def S3898 : Sum := ⟨(.tup [(.so 5 0 1 4), (.agg [(uN 67), tx1, z0, (uN 0)]), bT]), 11, [q716]⟩
theorem S3898_ok : SumOk Tryz.prog 116 [tx77] S3898 := SumOk.of_run (K := K_CY0c) (n := 5000) (keep := [5]) mixed K_CY0c_ok (by kernel_rfl) (by as_aux_lemma => kernel_rfl)

noncomputable def S3876 : Sum := ⟨(.tup [.nils, (.agg [(uN 73), tx1, z0, (uN 0)]), bT]), 6, []⟩
theorem S3876_ok : SumOk Tryz.prog 116 [tx67] S3876 := SumOk.of_run (K := K_CY0c) (n := 5000) (keep := []) mixed K_CY0c_ok (by kernel_rfl) (by as_aux_lemma => kernel_rfl)

noncomputable def S3679 : Sum := ⟨(iN 22), 33, []⟩
theorem S3679_ok : SumOk Tryz.prog 253 [tx21, tx58, tx13] S3679 := SumOk.of_run (K := K_CY0c) (n := 5000) (keep := []) mixed K_CY0c_ok (by kernel_rfl) (by as_aux_lemma => kernel_rfl)

noncomputable def S3198 : Sum := ⟨(iN (-1)), 1, []⟩
theorem S3198_ok : SumOk Tryz.prog 356 [tx75, tx70] S3198 := SumOk.of_run (K := K_CY0c) (n := 5000) (keep := []) mixed K_CY0c_ok (by kernel_rfl) (by as_aux_lemma => kernel_rfl)

noncomputable def S3196 : Sum := ⟨(.tup [(.so 12 0 6 1), bT]), 13, [(12, (.cells 6 true [] (T.ofList 0 .leaf [(.int .u16 83), (.int .u16 116), (.int .u16 114), (.int .u16 105), (.int .u16 110), (.int .u16 103)])))]⟩
theorem S3196_ok : SumOk Tryz.prog 255 [tx75] S3196 := SumOk.of_run (K := K_CY0c) (n := 5000) (keep := [12]) mixed K_CY0c_ok (by kernel_rfl) (by as_aux_lemma => kernel_rfl)

noncomputable def S3153 : Sum := ⟨(.sl 0 0 3 3), 1, [(0, (.cells 3 false [tx1] (T.ofList 0 .leaf [tx84, tx85, tx75])))]⟩
theorem S3153_ok : SumOk Tryz.prog 406 [tx6, tx89, z0, (iN (-1))] S3153 := SumOk.of_run (K := K_CY0c) (n := 5000) (keep := [0]) mixed K_CY0c_ok (by kernel_rfl) (by as_aux_lemma => kernel_rfl)

noncomputable def S3129 : Sum := ⟨(iN 3), 9, []⟩
theorem S3129_ok : SumOk Tryz.prog 253 [tx5, tx59, tx15] S3129 := SumOk.of_run (K := K_CY0c) (n := 5000) (keep := []) mixed K_CY0c_ok (by kernel_rfl) (by as_aux_lemma => kernel_rfl)

noncomputable def S3102 : Sum := ⟨(iN (-1)), 1, []⟩
theorem S3102_ok : SumOk Tryz.prog 356 [tx76, tx70] S3102 := SumOk.of_run (K := K_CY0c) (n := 5000) (keep := []) mixed K_CY0c_ok (by kernel_rfl) (by as_aux_lemma => kernel_rfl)

noncomputable def S3100 : Sum := ⟨(.tup [(.so 12 0 6 1), bT]), 13, [(12, (.cells 6 true [] (T.ofList 0 .leaf [(.int .u16 79), (.int .u16 98), (.int .u16 106), (.int .u16 101), (.int .u16 99), (.int .u16 116)])))]⟩
theorem S3100_ok : SumOk Tryz.prog 255 [tx76] S3100 := SumOk.of_run (K := K_CY0c) (n := 5000) (keep := [12]) mixed K_CY0c_ok (by kernel_rfl) (by as_aux_lemma => kernel_rfl)

noncomputable def S3082 : Sum := ⟨bT, 10, []⟩
theorem S3082_ok : SumOk Tryz.prog 188 [tx85] S3082 := SumOk.of_run (K := K_CY0c) (n := 5000) (keep := []) mixed K_CY0c_ok (by kernel_rfl) (by as_aux_lemma => kernel_rfl)

noncomputable def S3065 : Sum := ⟨bT, 10, []⟩
theorem S3065_ok : SumOk Tryz.prog 188 [tx84] S3065 := SumOk.of_run (K := K_CY0c) (n := 5000) (keep := []) mixed K_CY0c_ok (by kernel_rfl) (by as_aux_lemma => kernel_rfl)

noncomputable def S3057 : Sum := ⟨(.sl 0 0 3 3), 1, [(0, (.cells 3 false [tx1] (T.ofList 0 .leaf [tx84, tx85, tx76])))]⟩
theorem S3057_ok : SumOk Tryz.prog 406 [tx5, tx89, z0, (iN (-1))] S3057 := SumOk.of_run (K := K_CY0c) (n := 5000) (keep := [0]) mixed K_CY0c_ok (by kernel_rfl) (by as_aux_lemma => kernel_rfl)

noncomputable def S3035 : Sum := ⟨z2, 8, []⟩
theorem S3035_ok : SumOk Tryz.prog 253 [tx5, tx68, tx38] S3035 := SumOk.of_run (K := K_CY0c) (n := 5000) (keep := []) mixed K_CY0c_ok (by kernel_rfl) (by as_aux_lemma => kernel_rfl)

noncomputable def S2638 : Sum := ⟨(.tup [tx5, (.so 14 0 8 3), bT]), 15, [(14, (.cells 24 true [] (T.ofList 0 .leaf [tx9, tx28, bF, tx46, tx25, bF, tx46, tx47, bF, tx46, tx48, bF, tx46, tx49, bF, tx46, tx50, bF, tx71, tx67, bF, tx59, tx15, bF])))]⟩
theorem S2638_ok : SumOk Tryz.prog 92 [tx3] S2638 := SumOk.of_run (K := K_CY0c) (n := 5000) (keep := [14]) mixed K_CY0c_ok (by kernel_rfl) (by as_aux_lemma => kernel_rfl)

noncomputable def S2629 : Sum := ⟨(.tup [tx5, (.so 10 0 10 3), bT]), 11, [(10, (.cells 30 true [] (T.ofList 0 .leaf [tx71, tx67, bF, tx81, tx77, bF, tx82, tx31, bF, tx68, tx38, bF, tx83, tx15, bF, tx59, tx15, bF, tx52, tx53, bT, tx52, tx54, bT, tx52, tx55, bT, tx52, tx56, bT])))]⟩
theorem S2629_ok : SumOk Tryz.prog 92 [tx6] S2629 := SumOk.of_run (K := K_CY0c) (n := 5000) (keep := [10]) mixed K_CY0c_ok (by kernel_rfl) (by as_aux_lemma => kernel_rfl)

noncomputable def S461 : Sum := ⟨(.so 28 0 13 3), 29, [(28, (.cells 39 true [] (T.ofList 0 .leaf [tx45, tx4, bF, tx45, tx66, bF, tx45, tx65, bF, tx45, tx64, bF, tx45, tx63, bF, tx45, tx30, bF, tx22, tx4, bF, tx22, tx66, bF, tx22, tx65, bF, tx22, tx64, bF, tx22, tx63, bF, tx22, tx30, bF, tx22, tx28, bF])))]⟩
theorem S461_ok : SumOk Tryz.prog 147 [tx2] S461 := SumOk.of_run (K := K_CY0c) (n := 5000) (keep := [28]) mixed K_CY0c_ok (by kernel_rfl) (by as_aux_lemma => kernel_rfl)

noncomputable def I92 : In := ⟨145, [(.so 163 0 33 1), z0, (iN 33), (iN 6)], 164, [(163, (.cells 33 true [] (T.ofList 0 .leaf [tx5, tx6, tx3, tx21, tx2, tx10, tx29, tx18, tx8, tx12, tx43, tx24, tx33, tx32, tx7, tx11, tx51, tx44, tx42, tx40, tx35, tx41, tx26, tx14, tx16, tx36, tx34, tx17, tx27, tx39, tx37, tx23, tx20])))], (.tup []), 168, [(163, (.cells 33 true [] (T.ofList 0 .leaf [tx2, tx35, tx36, tx17, tx37, tx39, tx32, tx43, tx18, tx29, tx26, tx40, tx23, tx7, tx12, tx41, tx11, tx27, tx33, tx44, tx42, tx34, tx5, tx16, tx8, tx14, tx6, tx3, tx20, tx21, tx10, tx24, tx51])))]⟩
theorem I92_ok : InOk Tryz.prog I92 := InOk.of_run (K := K_CY0c) (n := 5000) mixed K_CY0c_ok (by kernel_rfl) (by as_aux_lemma => kernel_rfl)

noncomputable def S8 : Sum := ⟨(.so 75 0 28 2), 76, [(75, (.cells 56 true [] (T.ofList 0 .leaf [tx10, tx5, tx29, tx10, tx18, tx10, tx8, tx29, tx12, tx8, tx43, tx11, tx24, tx11, tx33, tx11, tx32, tx11, tx7, tx11, tx11, tx18, tx51, tx11, tx44, tx7, tx42, tx7, tx40, tx7, tx35, tx7, tx41, tx7, tx26, tx11, tx14, tx18, tx16, tx18, tx36, tx8, tx34, tx8, tx17, tx12, tx27, tx8, tx39, tx8, tx37, tx8, tx23, tx8, tx20, tx12])))]⟩
theorem S8_ok : SumOk Tryz.prog 90 [] S8 := SumOk.of_run (K := K_CY0c) (n := 5000) (keep := [75]) mixed K_CY0c_ok (by kernel_rfl) (by as_aux_lemma => kernel_rfl)

noncomputable def tab_CY0c : List (FuncId × SRows) := (90, [([], S8)]) :: (147, [([tx2], S461)]) :: (92, [([tx3], S2638), ([tx6], S2629)]) :: (188, [([tx85], S3082), ([tx84], S3065)]) :: (406, [([tx6, tx89, z0, (iN (-1))], S3153), ([tx5, tx89, z0, (iN (-1))], S3057)]) :: (255, [([tx75], S3196), ([tx76], S3100)]) :: (356, [([tx75, tx70], S3198), ([tx76, tx70], S3102)]) :: (253, [([tx21, tx58, tx13], S3679), ([tx5, tx59, tx15], S3129), ([tx5, tx68, tx38], S3035)]) :: (116, [([tx63], S5693), ([tx64], S5664), ([tx65], S5636), ([tx66], S5609), ([tx77], S3898), ([tx67], S3876)]) :: []
theorem tab_CY0c_ok : TabOk Tryz.prog tab_CY0c := (TabOk.cons (RowsOk.cons S8_ok RowsOk.nil) (TabOk.cons (RowsOk.cons S461_ok RowsOk.nil) (TabOk.cons (RowsOk.cons S2638_ok (RowsOk.cons S2629_ok RowsOk.nil)) (TabOk.cons (RowsOk.cons S3082_ok (RowsOk.cons S3065_ok RowsOk.nil)) (TabOk.cons (RowsOk.cons S3153_ok (RowsOk.cons S3057_ok RowsOk.nil)) (TabOk.cons (RowsOk.cons S3196_ok (RowsOk.cons S3100_ok RowsOk.nil)) (TabOk.cons (RowsOk.cons S3198_ok (RowsOk.cons S3102_ok RowsOk.nil)) (TabOk.cons (RowsOk.cons S3679_ok (RowsOk.cons S3129_ok (RowsOk.cons S3035_ok RowsOk.nil))) (TabOk.cons (RowsOk.cons S5693_ok (RowsOk.cons S5664_ok (RowsOk.cons S5636_ok (RowsOk.cons S5609_ok (RowsOk.cons S3898_ok (RowsOk.cons S3876_ok RowsOk.nil)))))) TabOk.nil)))))))))
noncomputable def H_CY0c : Hand := (((Hand.at 145 (inHand I92)).or (Hand.at 141 (inHand I6703))).or (sumsHand tab_CY0c))
theorem H_CY0c_ok : HandOk Tryz.prog H_CY0c := (HandOk.or (HandOk.or (HandOk.at 145 (inHand_ok I92_ok (by kernel_rfl))) (HandOk.at 141 (inHand_ok I6703_ok (by kernel_rfl)))) (sumsHand_ok tab_CY0c_ok))
end Go.Proofs.YthgncmohimdbmaaGreatDoor.cy
