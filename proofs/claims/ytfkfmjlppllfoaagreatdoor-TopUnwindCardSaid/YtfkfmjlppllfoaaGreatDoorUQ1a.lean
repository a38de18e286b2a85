/-
  Contracts of calls, by the kernel.
-/
import Derived.Test.YtfkfmjlppllfoaaGreatDoorUNN
import Derived.Test.YtfkfmjlppllfoaaGreatDoorXN3
import Derived.Test.YtfkfmjlppllfoaaGreatDoorProg
import Derived.KernelRfl
import Derived.Test.YtfkfmjlppllfoaaGreatDoorUQ0a
set_option linter.unusedSectionVars false
set_option linter.unusedVariables false
set_option maxRecDepth 1000000
set_option maxHeartbeats 0
namespace Go.Proofs.YtfkfmjlppllfoaaGreatDoor.uq
open Go.X Go.RowKit
variable [Tab]
noncomputable def K_UQ1a : Hand := H_UQ0a
theorem K_UQ1a_ok : HandOk Tryz.prog K_UQ1a := H_UQ0a_ok

noncomputable def I15023 : In := ⟨291, [(pN 7243), (pN 14138), z0], 15593, [(7241, (.map [(tx51, (pN 14138), 0)] 1)), q0, q1, q2, q3, q4, q5, q6, q7, q8, q9, q10, q11, q12, q13, q14, q15], (.tup [(.so 17641 0 22 3), bT]), 17765, [(7241, (.map [(tx51, (pN 14138), 0)] 1)), q0, q1, q2, q3, q4, q5, q6, q7, q8, q9, q10, q11, q12, q13, q14, q15]⟩
theorem I15023_ok : InOk Tryz.prog I15023 := InOk.of_run (K := K_UQ1a) (n := 5000) mixed K_UQ1a_ok (by kernel_rfl) (by as_aux_lemma => kernel_rfl)

noncomputable def I14541 : In := ⟨287, [(pN 14707)], 14710, [q7, (14706, (.map [] 0)), q16, q8], bT, 15512, [q7, (14706, (.map [(z0, z1, 0), (z1, z1, 1), ((iN 4), z1, 2), ((iN 7), z1, 3), ((iN 8), z1, 4), ((iN 11), z1, 5), ((iN 12), z1, 6), ((iN 13), z1, 7), ((iN 14), z1, 8), ((iN 15), z1, 9), ((iN 16), z1, 10), ((iN 19), z1, 11), ((iN 20), z1, 12), ((iN 21), z1, 13), ((iN 22), z1, 14), ((iN 23), z1, 15), ((iN 26), z1, 16), ((iN 27), z1, 17), ((iN 28), z1, 18), ((iN 31), z1, 19), ((iN 32), z1, 20), ((iN 35), z1, 21)] 22)), q16, q8]⟩
theorem I14541_ok : InOk Tryz.prog I14541 := InOk.of_run (K := K_UQ1a) (n := 5000) mixed K_UQ1a_ok (by kernel_rfl) (by as_aux_lemma => kernel_rfl)

noncomputable def I13775 : In := ⟨107, [(pN 14137)], 14140, [q17, (14137, (.cells 3 false [] (T.ofList 0 .leaf [(.so 14136 0 256 1), z0, bF])))], (.tup [(.sl 14140 0 17 17), bT]), 14626, [q17, (14137, (.cells 3 false [] (T.ofList 0 .leaf [(.so 14136 0 256 1), (iN 134), bF]))), q7]⟩
theorem I13775_ok : InOk Tryz.prog I13775 := InOk.of_run (K := K_UQ1a) (n := 5000) mixed K_UQ1a_ok (by kernel_rfl) (by as_aux_lemma => kernel_rfl)

noncomputable def S6149 : Sum := ⟨(iN 35), 74, []⟩
theorem S6149_ok : SumOk Tryz.prog 257 [tx0, tx37, tx32] S6149 := SumOk.of_run (K := K_UQ1a) (n := 5000) (keep := []) mixed K_UQ1a_ok (by kernel_rfl) (by as_aux_lemma => kernel_rfl)

noncomputable def S6042 : Sum := ⟨(iN 34), 73, []⟩
theorem S6042_ok : SumOk Tryz.prog 257 [tx0, tx37, tx40] S6042 := SumOk.of_run (K := K_UQ1a) (n := 5000) (keep := []) mixed K_UQ1a_ok (by kernel_rfl) (by as_aux_lemma => kernel_rfl)

noncomputable def S6007 : Sum := ⟨(iN 33), 72, []⟩
theorem S6007_ok : SumOk Tryz.prog 257 [tx0, tx37, tx61] S6007 := SumOk.of_run (K := K_UQ1a) (n := 5000) (keep := []) mixed K_UQ1a_ok (by kernel_rfl) (by as_aux_lemma => kernel_rfl)

noncomputable def S5973 : Sum := ⟨(iN 32), 71, []⟩
theorem S5973_ok : SumOk Tryz.prog 257 [tx0, tx37, tx62] S5973 := SumOk.of_run (K := K_UQ1a) (n := 5000) (keep := []) mixed K_UQ1a_ok (by kernel_rfl) (by as_aux_lemma => kernel_rfl)

noncomputable def S5940 : Sum := ⟨(iN 31), 70, []⟩
theorem S5940_ok : SumOk Tryz.prog 257 [tx0, tx37, tx63] S5940 := SumOk.of_run (K := K_UQ1a) (n := 5000) (keep := []) mixed K_UQ1a_ok (by kernel_rfl) (by as_aux_lemma => kernel_rfl)

noncomputable def S5908 : Sum := ⟨(iN 30), 69, []⟩
theorem S5908_ok : SumOk Tryz.prog 257 [tx0, tx37, tx64] S5908 := SumOk.of_run (K := K_UQ1a) (n := 5000) (keep := []) mixed K_UQ1a_ok (by kernel_rfl) (by as_aux_lemma => kernel_rfl)

noncomputable def S5806 : Sum := ⟨(iN 29), 68, []⟩
theorem S5806_ok : SumOk Tryz.prog 257 [tx0, tx37, tx5] S5806 := SumOk.of_run (K := K_UQ1a) (n := 5000) (keep := []) mixed K_UQ1a_ok (by kernel_rfl) (by as_aux_lemma => kernel_rfl)

noncomputable def S5723 : Sum := ⟨(.tup [(.so 40 0 1 4), (.agg [(uN 86), tx11, z0, (uN 0)]), bT]), 41, [q54]⟩
theorem S5723_ok : SumOk Tryz.prog 120 [tx40] S5723 := SumOk.of_run (K := K_UQ1a) (n := 5000) (keep := [40]) mixed K_UQ1a_ok (by kernel_rfl) (by as_aux_lemma => kernel_rfl)

noncomputable def S5705 : Sum := ⟨(iN 28), 67, []⟩
theorem S5705_ok : SumOk Tryz.prog 257 [tx0, tx45, tx40] S5705 := SumOk.of_run (K := K_UQ1a) (n := 5000) (keep := []) mixed K_UQ1a_ok (by kernel_rfl) (by as_aux_lemma => kernel_rfl)

noncomputable def S5676 : Sum := ⟨(iN 27), 66, []⟩
theorem S5676_ok : SumOk Tryz.prog 257 [tx0, tx45, tx61] S5676 := SumOk.of_run (K := K_UQ1a) (n := 5000) (keep := []) mixed K_UQ1a_ok (by kernel_rfl) (by as_aux_lemma => kernel_rfl)

noncomputable def S5648 : Sum := ⟨(iN 26), 65, []⟩
theorem S5648_ok : SumOk Tryz.prog 257 [tx0, tx45, tx62] S5648 := SumOk.of_run (K := K_UQ1a) (n := 5000) (keep := []) mixed K_UQ1a_ok (by kernel_rfl) (by as_aux_lemma => kernel_rfl)

noncomputable def S5621 : Sum := ⟨(iN 25), 64, []⟩
theorem S5621_ok : SumOk Tryz.prog 257 [tx0, tx45, tx63] S5621 := SumOk.of_run (K := K_UQ1a) (n := 5000) (keep := []) mixed K_UQ1a_ok (by kernel_rfl) (by as_aux_lemma => kernel_rfl)

noncomputable def S5595 : Sum := ⟨(iN 24), 63, []⟩
theorem S5595_ok : SumOk Tryz.prog 257 [tx0, tx45, tx64] S5595 := SumOk.of_run (K := K_UQ1a) (n := 5000) (keep := []) mixed K_UQ1a_ok (by kernel_rfl) (by as_aux_lemma => kernel_rfl)

noncomputable def S5499 : Sum := ⟨(iN 23), 62, []⟩
theorem S5499_ok : SumOk Tryz.prog 257 [tx0, tx45, tx5] S5499 := SumOk.of_run (K := K_UQ1a) (n := 5000) (keep := []) mixed K_UQ1a_ok (by kernel_rfl) (by as_aux_lemma => kernel_rfl)

noncomputable def S5398 : Sum := ⟨(iN 21), 39, []⟩
theorem S5398_ok : SumOk Tryz.prog 257 [tx1, tx58, tx17] S5398 := SumOk.of_run (K := K_UQ1a) (n := 5000) (keep := []) mixed K_UQ1a_ok (by kernel_rfl) (by as_aux_lemma => kernel_rfl)

noncomputable def S5370 : Sum := ⟨(iN 20), 38, []⟩
theorem S5370_ok : SumOk Tryz.prog 257 [tx1, tx69, tx71] S5370 := SumOk.of_run (K := K_UQ1a) (n := 5000) (keep := []) mixed K_UQ1a_ok (by kernel_rfl) (by as_aux_lemma => kernel_rfl)

noncomputable def S5271 : Sum := ⟨(iN 19), 37, []⟩
theorem S5271_ok : SumOk Tryz.prog 257 [tx1, tx46, tx50] S5271 := SumOk.of_run (K := K_UQ1a) (n := 5000) (keep := []) mixed K_UQ1a_ok (by kernel_rfl) (by as_aux_lemma => kernel_rfl)

noncomputable def S5173 : Sum := ⟨(iN 18), 36, []⟩
theorem S5173_ok : SumOk Tryz.prog 257 [tx1, tx46, tx49] S5173 := SumOk.of_run (K := K_UQ1a) (n := 5000) (keep := []) mixed K_UQ1a_ok (by kernel_rfl) (by as_aux_lemma => kernel_rfl)

noncomputable def S5076 : Sum := ⟨(iN 17), 35, []⟩
theorem S5076_ok : SumOk Tryz.prog 257 [tx1, tx46, tx48] S5076 := SumOk.of_run (K := K_UQ1a) (n := 5000) (keep := []) mixed K_UQ1a_ok (by kernel_rfl) (by as_aux_lemma => kernel_rfl)

noncomputable def S4980 : Sum := ⟨(iN 16), 34, []⟩
theorem S4980_ok : SumOk Tryz.prog 257 [tx1, tx46, tx47] S4980 := SumOk.of_run (K := K_UQ1a) (n := 5000) (keep := []) mixed K_UQ1a_ok (by kernel_rfl) (by as_aux_lemma => kernel_rfl)

noncomputable def S4916 : Sum := ⟨bT, 50, []⟩
theorem S4916_ok : SumOk Tryz.prog 278 [tx1] S4916 := SumOk.of_run (K := K_UQ1a) (n := 5000) (keep := []) mixed K_UQ1a_ok (by kernel_rfl) (by as_aux_lemma => kernel_rfl)

noncomputable def S4814 : Sum := ⟨(iN 15), 33, []⟩
theorem S4814_ok : SumOk Tryz.prog 257 [tx1, tx46, tx38] S4814 := SumOk.of_run (K := K_UQ1a) (n := 5000) (keep := []) mixed K_UQ1a_ok (by kernel_rfl) (by as_aux_lemma => kernel_rfl)

noncomputable def S4796 : Sum := ⟨(iN 14), 32, []⟩
theorem S4796_ok : SumOk Tryz.prog 257 [tx1, tx8, tx32] S4796 := SumOk.of_run (K := K_UQ1a) (n := 5000) (keep := []) mixed K_UQ1a_ok (by kernel_rfl) (by as_aux_lemma => kernel_rfl)

noncomputable def S4689 : Sum := ⟨(iN 13), 27, []⟩
theorem S4689_ok : SumOk Tryz.prog 257 [tx4, tx53, tx57] S4689 := SumOk.of_run (K := K_UQ1a) (n := 5000) (keep := []) mixed K_UQ1a_ok (by kernel_rfl) (by as_aux_lemma => kernel_rfl)

noncomputable def tab_UQ1a : List (FuncId × SRows) := (278, [([tx1], S4916)]) :: (120, [([tx40], S5723)]) :: (257, [([tx0, tx37, tx32], S6149), ([tx0, tx37, tx40], S6042), ([tx0, tx37, tx61], S6007), ([tx0, tx37, tx62], S5973), ([tx0, tx37, tx63], S5940), ([tx0, tx37, tx64], S5908), ([tx0, tx37, tx5], S5806), ([tx0, tx45, tx40], S5705), ([tx0, tx45, tx61], S5676), ([tx0, tx45, tx62], S5648), ([tx0, tx45, tx63], S5621), ([tx0, tx45, tx64], S5595), ([tx0, tx45, tx5], S5499), ([tx1, tx58, tx17], S5398), ([tx1, tx69, tx71], S5370), ([tx1, tx46, tx50], S5271), ([tx1, tx46, tx49], S5173), ([tx1, tx46, tx48], S5076), ([tx1, tx46, tx47], S4980), ([tx1, tx46, tx38], S4814), ([tx1, tx8, tx32], S4796), ([tx4, tx53, tx57], S4689)]) :: []
theorem tab_UQ1a_ok : TabOk Tryz.prog tab_UQ1a := (TabOk.cons (RowsOk.cons S4916_ok RowsOk.nil) (TabOk.cons (RowsOk.cons S5723_ok RowsOk.nil) (TabOk.cons (RowsOk.cons S6149_ok (RowsOk.cons S6042_ok (RowsOk.cons S6007_ok (RowsOk.cons S5973_ok (RowsOk.cons S5940_ok (RowsOk.cons S5908_ok (RowsOk.cons S5806_ok (RowsOk.cons S5705_ok (RowsOk.cons S5676_ok (RowsOk.cons S5648_ok (RowsOk.cons S5621_ok (RowsOk.cons S5595_ok (RowsOk.cons S5499_ok (RowsOk.cons S5398_ok (RowsOk.cons S5370_ok (RowsOk.cons S5271_ok (RowsOk.cons S5173_ok (RowsOk.cons S5076_ok (RowsOk.cons S4980_ok (RowsOk.cons S4814_ok (RowsOk.cons S4796_ok (RowsOk.cons S4689_ok RowsOk.nil)))))))))))))))))))))) TabOk.nil)))
noncomputable def H_UQ1a : Hand := (((Hand.at 107 (inHand I13775)).or ((Hand.at 287 (inHand I14541)).or (Hand.at 291 (inHand I15023)))).or (sumsHand tab_UQ1a))
theorem H_UQ1a_ok : HandOk Tryz.prog H_UQ1a := (HandOk.or (HandOk.or (HandOk.at 107 (inHand_ok I13775_ok (by kernel_rfl))) (HandOk.or (HandOk.at 287 (inHand_ok I14541_ok (by kernel_rfl))) (HandOk.at 291 (inHand_ok I15023_ok (by kernel_rfl))))) (sumsHand_ok tab_UQ1a_ok))
end Go.Proofs.YtfkfmjlppllfoaaGreatDoor.uq
