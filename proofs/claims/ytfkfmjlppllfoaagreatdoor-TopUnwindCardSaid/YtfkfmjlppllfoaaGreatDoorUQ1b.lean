/-
  Contracts of calls, by the kernel.
-/
import Derived.Test.YtfkfmjlppllfoaaGreatDoorUNN
import Derived.Test.YtfkfmjlppllfoaaGreatDoorXN3
import Derived.Test.YtfkfmjlppllfoaaGreatDoorProg
import Derived.KernelRfl
import Derived.Test.YtfkfmjlppllfoaaGreatDoorUQ0a
set_option linter.unusedSectionVars false
set_option linter.unusedVariables false
set_option maxRecDepth 1000000
set_option maxHeartbeats 0
namespace Go.Proofs.YtfkfmjlppllfoaaGreatDoor.uq
open Go.X Go.RowKit
variable [Tab]
noncomputable def K_UQ1b : Hand := H_UQ0a
theorem K_UQ1b_ok : HandOk Tryz.prog K_UQ1b := H_UQ0a_ok

noncomputable def S4584 : Sum := ⟨(iN 12), 26, []⟩
theorem S4584_ok : SumOk Tryz.prog 257 [tx4, tx53, tx56] S4584 := SumOk.of_run (K := K_UQ1b) (n := 5000) (keep := []) mixed K_UQ1b_ok (by kernel_rfl) (by as_aux_lemma => kernel_rfl)

noncomputable def S4480 : Sum := ⟨(iN 11), 25, []⟩
theorem S4480_ok : SumOk Tryz.prog 257 [tx4, tx53, tx55] S4480 := SumOk.of_run (K := K_UQ1b) (n := 5000) (keep := []) mixed K_UQ1b_ok (by kernel_rfl) (by as_aux_lemma => kernel_rfl)

noncomputable def S4377 : Sum := ⟨(iN 10), 24, []⟩
theorem S4377_ok : SumOk Tryz.prog 257 [tx4, tx53, tx54] S4377 := SumOk.of_run (K := K_UQ1b) (n := 5000) (keep := []) mixed K_UQ1b_ok (by kernel_rfl) (by as_aux_lemma => kernel_rfl)

noncomputable def S4280 : Sum := ⟨(iN 9), 23, []⟩
theorem S4280_ok : SumOk Tryz.prog 257 [tx4, tx58, tx17] S4280 := SumOk.of_run (K := K_UQ1b) (n := 5000) (keep := []) mixed K_UQ1b_ok (by kernel_rfl) (by as_aux_lemma => kernel_rfl)

noncomputable def S4184 : Sum := ⟨(iN 8), 22, []⟩
theorem S4184_ok : SumOk Tryz.prog 257 [tx4, tx79, tx17] S4184 := SumOk.of_run (K := K_UQ1b) (n := 5000) (keep := []) mixed K_UQ1b_ok (by kernel_rfl) (by as_aux_lemma => kernel_rfl)

noncomputable def S4084 : Sum := ⟨(iN 7), 21, []⟩
theorem S4084_ok : SumOk Tryz.prog 257 [tx4, tx66, tx43] S4084 := SumOk.of_run (K := K_UQ1b) (n := 5000) (keep := []) mixed K_UQ1b_ok (by kernel_rfl) (by as_aux_lemma => kernel_rfl)

noncomputable def S3914 : Sum := ⟨(iN 6), 20, []⟩
theorem S3914_ok : SumOk Tryz.prog 257 [tx4, tx78, tx41] S3914 := SumOk.of_run (K := K_UQ1b) (n := 5000) (keep := []) mixed K_UQ1b_ok (by kernel_rfl) (by as_aux_lemma => kernel_rfl)

noncomputable def S3887 : Sum := ⟨(iN 5), 19, []⟩
theorem S3887_ok : SumOk Tryz.prog 257 [tx4, tx77, tx74] S3887 := SumOk.of_run (K := K_UQ1b) (n := 5000) (keep := []) mixed K_UQ1b_ok (by kernel_rfl) (by as_aux_lemma => kernel_rfl)

noncomputable def S3691 : Sum := ⟨(.tup [(.so 95 0 5 4), (.agg [(uN 86), tx11, z0, (uN 0)]), bT]), 96, [(95, (.cells 20 true [] (T.ofList 0 .leaf [(uN 76), tx3, z0, (uN 0), (uN 73), tx11, z0, (uN 0), (uN 76), tx3, z0, (uN 0), (uN 73), tx11, z0, (uN 0), (uN 73), tx11, z0, (uN 0)])))]⟩
theorem S3691_ok : SumOk Tryz.prog 120 [tx42] S3691 := SumOk.of_run (K := K_UQ1b) (n := 5000) (keep := [95]) mixed K_UQ1b_ok (by kernel_rfl) (by as_aux_lemma => kernel_rfl)

noncomputable def S3500 : Sum := ⟨(iN 38), 144, []⟩
theorem S3500_ok : SumOk Tryz.prog 257 [tx6, tx76, tx17] S3500 := SumOk.of_run (K := K_UQ1b) (n := 5000) (keep := []) mixed K_UQ1b_ok (by kernel_rfl) (by as_aux_lemma => kernel_rfl)

noncomputable def S3417 : Sum := ⟨(.tup [(.so 40 0 1 4), (.agg [(uN 86), tx11, z0, (uN 0)]), bT]), 41, [q59]⟩
theorem S3417_ok : SumOk Tryz.prog 120 [tx5] S3417 := SumOk.of_run (K := K_UQ1b) (n := 5000) (keep := [40]) mixed K_UQ1b_ok (by kernel_rfl) (by as_aux_lemma => kernel_rfl)

noncomputable def S3321 : Sum := ⟨(iN 37), 143, []⟩
theorem S3321_ok : SumOk Tryz.prog 257 [tx6, tx8, tx5] S3321 := SumOk.of_run (K := K_UQ1b) (n := 5000) (keep := []) mixed K_UQ1b_ok (by kernel_rfl) (by as_aux_lemma => kernel_rfl)

noncomputable def S3219 : Sum := ⟨(iN 36), 142, []⟩
theorem S3219_ok : SumOk Tryz.prog 257 [tx6, tx8, tx32] S3219 := SumOk.of_run (K := K_UQ1b) (n := 5000) (keep := []) mixed K_UQ1b_ok (by kernel_rfl) (by as_aux_lemma => kernel_rfl)

noncomputable def S3144 : Sum := ⟨(.tup [(.agg [(uN 76), tx4, z0, (uN 0)]), (iN 18)]), 37, []⟩
theorem S3144_ok : SumOk Tryz.prog 212 [tx52] S3144 := SumOk.of_run (K := K_UQ1b) (n := 5000) (keep := []) mixed K_UQ1b_ok (by kernel_rfl) (by as_aux_lemma => kernel_rfl)

noncomputable def S3042 : Sum := ⟨(.tup [(.so 40 0 1 4), (.agg [(uN 90), tx11, z0, (uN 0)]), bT]), 46, [q54]⟩
theorem S3042_ok : SumOk Tryz.prog 120 [tx43] S3042 := SumOk.of_run (K := K_UQ1b) (n := 5000) (keep := [40]) mixed K_UQ1b_ok (by kernel_rfl) (by as_aux_lemma => kernel_rfl)

noncomputable def S2449 : Sum := ⟨(.tup [tx14, (.sl 81 0 2 2), bT]), 82, [(81, (.cells 6 false [] (T.ofList 0 .leaf [tx8, tx32, bF, tx8, tx5, bF])))]⟩
theorem S2449_ok : SumOk Tryz.prog 96 [tx2] S2449 := SumOk.of_run (K := K_UQ1b) (n := 5000) (keep := [81]) mixed K_UQ1b_ok (by kernel_rfl) (by as_aux_lemma => kernel_rfl)

noncomputable def tab_UQ1b : List (FuncId × SRows) := (96, [([tx2], S2449)]) :: (212, [([tx52], S3144)]) :: (120, [([tx42], S3691), ([tx5], S3417), ([tx43], S3042)]) :: (257, [([tx4, tx53, tx56], S4584), ([tx4, tx53, tx55], S4480), ([tx4, tx53, tx54], S4377), ([tx4, tx58, tx17], S4280), ([tx4, tx79, tx17], S4184), ([tx4, tx66, tx43], S4084), ([tx4, tx78, tx41], S3914), ([tx4, tx77, tx74], S3887), ([tx6, tx76, tx17], S3500), ([tx6, tx8, tx5], S3321), ([tx6, tx8, tx32], S3219)]) :: []
theorem tab_UQ1b_ok : TabOk Tryz.prog tab_UQ1b := (TabOk.cons (RowsOk.cons S2449_ok RowsOk.nil) (TabOk.cons (RowsOk.cons S3144_ok RowsOk.nil) (TabOk.cons (RowsOk.cons S3691_ok (RowsOk.cons S3417_ok (RowsOk.cons S3042_ok RowsOk.nil))) (TabOk.cons (RowsOk.cons S4584_ok (RowsOk.cons S4480_ok (RowsOk.cons S4377_ok (RowsOk.cons S4280_ok (RowsOk.cons S4184_ok (RowsOk.cons S4084_ok (RowsOk.cons S3914_ok (RowsOk.cons S3887_ok (RowsOk.cons S3500_ok (RowsOk.cons S3321_ok (RowsOk.cons S3219_ok RowsOk.nil))))))))))) TabOk.nil))))
noncomputable def H_UQ1b : Hand := (sumsHand tab_UQ1b)
theorem H_UQ1b_ok : HandOk Tryz.prog H_UQ1b := (sumsHand_ok tab_UQ1b_ok)
end Go.Proofs.YtfkfmjlppllfoaaGreatDoor.uq
