/-
  Contracts of calls, by the kernel.
-/
import Derived.Test.YtkckdnjocncnhaaGreatDoorXN3
import Derived.Test.YtkckdnjocncnhaaGreatDoorProg
import Derived.KernelRfl
import Derived.Test.YtkckdnjocncnhaaGreatDoorSM0a
set_option linter.unusedSectionVars false
set_option linter.unusedVariables false
set_option maxRecDepth 1000000
set_option maxHeartbeats 0
namespace Go.Proofs.YtkckdnjocncnhaaGreatDoor.sm
open Go.X Go.RowKit
variable [Tab]
noncomputable def K_SM1b : Hand := H_SM0a
theorem K_SM1b_ok : HandOk Tryz.prog K_SM1b := H_SM0a_ok

noncomputable def I13644 : In := ⟨83, [(.ptr 13842 0)], 13843, [(13839, (.cells 138 true [] (T.ofList 0 .leaf [(.int .u8 0), (.int .u8 9), (.int .u8 1), (.int .u8 0), (.int .u8 3), (.int .u8 115), (.int .u8 117), (.int .u8 109), (.int .u8 1), (.int .u8 0), (.int .u8 4), (.int .u8 40), (.int .u8 73), (.int .u8 41), (.int .u8 73), (.int .u8 1), (.int .u8 0), (.int .u8 13), (.int .u8 83), (.int .u8 116), (.int .u8 97), (.int .u8 99), (.int .u8 107), (.int .u8 77), (.int .u8 97), (.int .u8 112), (.int .u8 84), (.int .u8 97), (.int .u8 98), (.int .u8 108), (.int .u8 101), (.int .u8 1), (.int .u8 0), (.int .u8 4), (.int .u8 67), (.int .u8 111), (.int .u8 100), (.int .u8 101), (.int .u8 1), (.int .u8 0), (.int .u8 1), (.int .u8 77), (.int .u8 7), (.int .u8 0), (.int .u8 5), (.int .u8 1), (.int .u8 0), (.int .u8 16), (.int .u8 106), (.int .u8 97), (.int .u8 118), (.int .u8 97), (.int .u8 47), (.int .u8 108), (.int .u8 97), (.int .u8 110), (.int .u8 103), (.int .u8 47), (.int .u8 79), (.int .u8 98), (.int .u8 106), (.int .u8 101), (.int .u8 99), (.int .u8 116), (.int .u8 7), (.int .u8 0), (.int .u8 7), (.int .u8 0), (.int .u8 33), (.int .u8 0), (.int .u8 6), (.int .u8 0), (.int .u8 8), (.int .u8 0), (.int .u8 0), (.int .u8 0), (.int .u8 0), (.int .u8 0), (.int .u8 1), (.int .u8 0), (.int .u8 9), (.int .u8 0), (.int .u8 1), (.int .u8 0), (.int .u8 2), (.int .u8 0), (.int .u8 1), (.int .u8 0), (.int .u8 4), (.int .u8 0), (.int .u8 0), (.int .u8 0), (.int .u8 43), (.int .u8 0), (.int .u8 2), (.int .u8 0), (.int .u8 2), (.int .u8 0), (.int .u8 0), (.int .u8 0), (.int .u8 18), (.int .u8 3), (.int .u8 60), (.int .u8 26), (.int .u8 158), (.int .u8 0), (.int .u8 13), (.int .u8 27), (.int .u8 26), (.int .u8 96), (.int .u8 60), (.int .u8 132), (.int .u8 0), (.int .u8 255), (.int .u8 167), (.int .u8 255), (.int .u8 245), (.int .u8 27), (.int .u8 172), (.int .u8 0), (.int .u8 0), (.int .u8 0), (.int .u8 1), (.int .u8 0), (.int .u8 3), (.int .u8 0), (.int .u8 0), (.int .u8 0), (.int .u8 7), (.int .u8 0), (.int .u8 2), (.int .u8 252), (.int .u8 0), (.int .u8 2), (.int .u8 1), (.int .u8 13), (.int .u8 0), (.int .u8 0)]))), (13840, (.cells 3 false [] (T.ofList 0 .leaf [(.so 13839 0 138 1), (.int .i64 0), (.bool false)]))), (13841, (.cells 8 false [] (T.ofList 0 .leaf [(.int .i64 52), .nils, (.int .i64 0), (.str 0 0), (.str 0 0), .nils, .nils, .nils]))), (13842, (.cells 3 false [] (T.ofList 0 .leaf [(.ptr 13840 0), (.ptr 13841 0), (.bool false)])))], (.tup []), 14517, [(13841, (.cells 8 false [] (T.ofList 0 .leaf [(.int .i64 52), (.sl 13843 0 9 9), (.int .i64 33), (.str 1 77), (.str 16 154706541852025644484233205990057992554), .nils, .nils, (.so 14516 0 1 9)]))), (13842, (.cells 3 false [] (T.ofList 0 .leaf [(.ptr 13840 0), (.ptr 13841 0), (.bool false)]))), (14126, (.cells 18 true [] (T.ofList 0 .leaf [(.int .u8 3), (.int .u8 60), (.int .u8 26), (.int .u8 158), (.int .u8 0), (.int .u8 13), (.int .u8 27), (.int .u8 26), (.int .u8 96), (.int .u8 60), (.int .u8 132), (.int .u8 0), (.int .u8 255), (.int .u8 167), (.int .u8 255), (.int .u8 245), (.int .u8 27), (.int .u8 172)]))), (14503, (.cells 3 true [] (T.ofList 0 .leaf [(.int .i64 1), (.str 0 0), (.int .i64 0)]))), (14511, (.cells 8 true [] (T.ofList 0 .leaf [(.int .i64 252), (.int .i64 2), (.so 14503 0 1 3), .nils, (.int .i64 13), (.int .i64 13), .nils, .nils]))), (14516, (.cells 9 true [] (T.ofList 0 .leaf [(.int .i64 9), (.str 3 7173491), (.str 4 1227442472), (.bool true), (.int .i64 2), (.int .i64 2), (.so 14126 0 18 1), .nils, (.so 14511 0 2 4)])))]⟩
theorem I13644_ok : InOk Tryz.prog I13644 := InOk.of_run (K := K_SM1b) (n := 5000) mixed K_SM1b_ok (by kernel_rfl) (by as_aux_lemma => kernel_rfl)

noncomputable def S6149 : Sum := ⟨(.int .i64 35), 74, []⟩
theorem S6149_ok : SumOk Tryz.prog 195 [(.str 19 2439265639030268300842157990401791553877467498), (.str 7 31081494762582640), (.str 3 5646632)] S6149 := SumOk.of_run (K := K_SM1b) (n := 5000) (keep := []) mixed K_SM1b_ok (by kernel_rfl) (by as_aux_lemma => kernel_rfl)

noncomputable def S6042 : Sum := ⟨(.int .i64 34), 73, []⟩
theorem S6042_ok : SumOk Tryz.prog 195 [(.str 19 2439265639030268300842157990401791553877467498), (.str 7 31081494762582640), (.str 21 125924535314876068507128442038675530910546422025256)] S6042 := SumOk.of_run (K := K_SM1b) (n := 5000) (keep := []) mixed K_SM1b_ok (by kernel_rfl) (by as_aux_lemma => kernel_rfl)

noncomputable def S6007 : Sum := ⟨(.int .i64 33), 72, []⟩
theorem S6007_ok : SumOk Tryz.prog 195 [(.str 19 2439265639030268300842157990401791553877467498), (.str 7 31081494762582640), (.str 4 1445550632)] S6007 := SumOk.of_run (K := K_SM1b) (n := 5000) (keep := []) mixed K_SM1b_ok (by kernel_rfl) (by as_aux_lemma => kernel_rfl)

noncomputable def S5973 : Sum := ⟨(.int .i64 32), 71, []⟩
theorem S5973_ok : SumOk Tryz.prog 195 [(.str 19 2439265639030268300842157990401791553877467498), (.str 7 31081494762582640), (.str 4 1445544744)] S5973 := SumOk.of_run (K := K_SM1b) (n := 5000) (keep := []) mixed K_SM1b_ok (by kernel_rfl) (by as_aux_lemma => kernel_rfl)

noncomputable def S5940 : Sum := ⟨(.int .i64 31), 70, []⟩
theorem S5940_ok : SumOk Tryz.prog 195 [(.str 19 2439265639030268300842157990401791553877467498), (.str 7 31081494762582640), (.str 4 1445546536)] S5940 := SumOk.of_run (K := K_SM1b) (n := 5000) (keep := []) mixed K_SM1b_ok (by kernel_rfl) (by as_aux_lemma => kernel_rfl)

noncomputable def S5908 : Sum := ⟨(.int .i64 30), 69, []⟩
theorem S5908_ok : SumOk Tryz.prog 195 [(.str 19 2439265639030268300842157990401791553877467498), (.str 7 31081494762582640), (.str 4 1445546280)] S5908 := SumOk.of_run (K := K_SM1b) (n := 5000) (keep := []) mixed K_SM1b_ok (by kernel_rfl) (by as_aux_lemma => kernel_rfl)

noncomputable def S5806 : Sum := ⟨(.int .i64 29), 68, []⟩
theorem S5806_ok : SumOk Tryz.prog 195 [(.str 19 2439265639030268300842157990401791553877467498), (.str 7 31081494762582640), (.str 21 125924534186164816246133852188561726513007718714408)] S5806 := SumOk.of_run (K := K_SM1b) (n := 5000) (keep := []) mixed K_SM1b_ok (by kernel_rfl) (by as_aux_lemma => kernel_rfl)

noncomputable def S5723 : Sum := ⟨(.tup [(.so 40 0 1 4), (.agg [(.int .u8 86), (.str 0 0), (.int .i64 0), (.int .u8 0)]), (.bool true)]), 41, [(40, (.cells 4 true [] (T.ofList 0 .leaf [(.int .u8 76), (.str 16 154706541852025644484233205990057992554), (.int .i64 0), (.int .u8 0)])))]⟩
theorem S5723_ok : SumOk Tryz.prog 157 [(.str 21 125924535314876068507128442038675530910546422025256)] S5723 := SumOk.of_run (K := K_SM1b) (n := 5000) (keep := [40]) mixed K_SM1b_ok (by kernel_rfl) (by as_aux_lemma => kernel_rfl)

noncomputable def S5705 : Sum := ⟨(.int .i64 28), 67, []⟩
theorem S5705_ok : SumOk Tryz.prog 195 [(.str 19 2439265639030268300842157990401791553877467498), (.str 5 500068610672), (.str 21 125924535314876068507128442038675530910546422025256)] S5705 := SumOk.of_run (K := K_SM1b) (n := 5000) (keep := []) mixed K_SM1b_ok (by kernel_rfl) (by as_aux_lemma => kernel_rfl)

noncomputable def S5676 : Sum := ⟨(.int .i64 27), 66, []⟩
theorem S5676_ok : SumOk Tryz.prog 195 [(.str 19 2439265639030268300842157990401791553877467498), (.str 5 500068610672), (.str 4 1445550632)] S5676 := SumOk.of_run (K := K_SM1b) (n := 5000) (keep := []) mixed K_SM1b_ok (by kernel_rfl) (by as_aux_lemma => kernel_rfl)

noncomputable def S5648 : Sum := ⟨(.int .i64 26), 65, []⟩
theorem S5648_ok : SumOk Tryz.prog 195 [(.str 19 2439265639030268300842157990401791553877467498), (.str 5 500068610672), (.str 4 1445544744)] S5648 := SumOk.of_run (K := K_SM1b) (n := 5000) (keep := []) mixed K_SM1b_ok (by kernel_rfl) (by as_aux_lemma => kernel_rfl)

noncomputable def S5621 : Sum := ⟨(.int .i64 25), 64, []⟩
theorem S5621_ok : SumOk Tryz.prog 195 [(.str 19 2439265639030268300842157990401791553877467498), (.str 5 500068610672), (.str 4 1445546536)] S5621 := SumOk.of_run (K := K_SM1b) (n := 5000) (keep := []) mixed K_SM1b_ok (by kernel_rfl) (by as_aux_lemma => kernel_rfl)

noncomputable def S5595 : Sum := ⟨(.int .i64 24), 63, []⟩
theorem S5595_ok : SumOk Tryz.prog 195 [(.str 19 2439265639030268300842157990401791553877467498), (.str 5 500068610672), (.str 4 1445546280)] S5595 := SumOk.of_run (K := K_SM1b) (n := 5000) (keep := []) mixed K_SM1b_ok (by kernel_rfl) (by as_aux_lemma => kernel_rfl)

noncomputable def S5499 : Sum := ⟨(.int .i64 23), 62, []⟩
theorem S5499_ok : SumOk Tryz.prog 195 [(.str 19 2439265639030268300842157990401791553877467498), (.str 5 500068610672), (.str 21 125924534186164816246133852188561726513007718714408)] S5499 := SumOk.of_run (K := K_SM1b) (n := 5000) (keep := []) mixed K_SM1b_ok (by kernel_rfl) (by as_aux_lemma => kernel_rfl)

noncomputable def S5398 : Sum := ⟨(.int .i64 21), 39, []⟩
theorem S5398_ok : SumOk Tryz.prog 195 [(.str 23 10956966084090815260342509131105871416374185281426186602), (.str 8 7453010373643562868), (.str 20 339137050467292191589805048747422779071890467112)] S5398 := SumOk.of_run (K := K_SM1b) (n := 5000) (keep := []) mixed K_SM1b_ok (by kernel_rfl) (by as_aux_lemma => kernel_rfl)

noncomputable def tab_SM1b : List (FuncId × SRows) := (157, [([(.str 21 125924535314876068507128442038675530910546422025256)], S5723)]) :: (195, [([(.str 19 2439265639030268300842157990401791553877467498), (.str 7 31081494762582640), (.str 3 5646632)], S6149), ([(.str 19 2439265639030268300842157990401791553877467498), (.str 7 31081494762582640), (.str 21 125924535314876068507128442038675530910546422025256)], S6042), ([(.str 19 2439265639030268300842157990401791553877467498), (.str 7 31081494762582640), (.str 4 1445550632)], S6007), ([(.str 19 2439265639030268300842157990401791553877467498), (.str 7 31081494762582640), (.str 4 1445544744)], S5973), ([(.str 19 2439265639030268300842157990401791553877467498), (.str 7 31081494762582640), (.str 4 1445546536)], S5940), ([(.str 19 2439265639030268300842157990401791553877467498), (.str 7 31081494762582640), (.str 4 1445546280)], S5908), ([(.str 19 2439265639030268300842157990401791553877467498), (.str 7 31081494762582640), (.str 21 125924534186164816246133852188561726513007718714408)], S5806), ([(.str 19 2439265639030268300842157990401791553877467498), (.str 5 500068610672), (.str 21 125924535314876068507128442038675530910546422025256)], S5705), ([(.str 19 2439265639030268300842157990401791553877467498), (.str 5 500068610672), (.str 4 1445550632)], S5676), ([(.str 19 2439265639030268300842157990401791553877467498), (.str 5 500068610672), (.str 4 1445544744)], S5648), ([(.str 19 2439265639030268300842157990401791553877467498), (.str 5 500068610672), (.str 4 1445546536)], S5621), ([(.str 19 2439265639030268300842157990401791553877467498), (.str 5 500068610672), (.str 4 1445546280)], S5595), ([(.str 19 2439265639030268300842157990401791553877467498), (.str 5 500068610672), (.str 21 125924534186164816246133852188561726513007718714408)], S5499), ([(.str 23 10956966084090815260342509131105871416374185281426186602), (.str 8 7453010373643562868), (.str 20 339137050467292191589805048747422779071890467112)], S5398)]) :: []
theorem tab_SM1b_ok : TabOk Tryz.prog tab_SM1b := (TabOk.cons (RowsOk.cons S5723_ok RowsOk.nil) (TabOk.cons (RowsOk.cons S6149_ok (RowsOk.cons S6042_ok (RowsOk.cons S6007_ok (RowsOk.cons S5973_ok (RowsOk.cons S5940_ok (RowsOk.cons S5908_ok (RowsOk.cons S5806_ok (RowsOk.cons S5705_ok (RowsOk.cons S5676_ok (RowsOk.cons S5648_ok (RowsOk.cons S5621_ok (RowsOk.cons S5595_ok (RowsOk.cons S5499_ok (RowsOk.cons S5398_ok RowsOk.nil)))))))))))))) TabOk.nil))
noncomputable def H_SM1b : Hand := ((inHand I13644).or (sumsHand tab_SM1b))
theorem H_SM1b_ok : HandOk Tryz.prog H_SM1b := (HandOk.or (inHand_ok I13644_ok (by kernel_rfl)) (sumsHand_ok tab_SM1b_ok))
end Go.Proofs.YtkckdnjocncnhaaGreatDoor.sm
