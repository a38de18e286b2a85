/-
  Contracts of calls, by the kernel.
-/
import Derived.Test.YtkckdnjocncnhaaGreatDoorXN3
import Derived.Test.YtkckdnjocncnhaaGreatDoorProg
import Derived.KernelRfl
import Derived.Test.YtkckdnjocncnhaaGreatDoorST0a
set_option linter.unusedSectionVars false
set_option linter.unusedVariables false
set_option maxRecDepth 1000000
set_option maxHeartbeats 0
namespace Go.Proofs.YtkckdnjocncnhaaGreatDoor.st
open Go.X Go.RowKit
variable [Tab]
noncomputable def K_ST1a : Hand := H_ST0a
theorem K_ST1a_ok : HandOk Tryz.prog K_ST1a := H_ST0a_ok

noncomputable def I13693 : In := ⟨83, [(.ptr 13934 0)], 13935, [(13931, (.cells 127 true [] (T.ofList 0 .leaf [(.int .u8 0), (.int .u8 12), (.int .u8 1), (.int .u8 0), (.int .u8 1), (.int .u8 115), (.int .u8 1), (.int .u8 0), (.int .u8 1), (.int .u8 73), (.int .u8 1), (.int .u8 0), (.int .u8 1), (.int .u8 77), (.int .u8 7), (.int .u8 0), (.int .u8 3), (.int .u8 12), (.int .u8 0), (.int .u8 1), (.int .u8 0), (.int .u8 2), (.int .u8 9), (.int .u8 0), (.int .u8 4), (.int .u8 0), (.int .u8 5), (.int .u8 1), (.int .u8 0), (.int .u8 3), (.int .u8 97), (.int .u8 100), (.int .u8 100), (.int .u8 1), (.int .u8 0), (.int .u8 4), (.int .u8 40), (.int .u8 73), (.int .u8 41), (.int .u8 73), (.int .u8 1), (.int .u8 0), (.int .u8 4), (.int .u8 67), (.int .u8 111), (.int .u8 100), (.int .u8 101), (.int .u8 1), (.int .u8 0), (.int .u8 16), (.int .u8 106), (.int .u8 97), (.int .u8 118), (.int .u8 97), (.int .u8 47), (.int .u8 108), (.int .u8 97), (.int .u8 110), (.int .u8 103), (.int .u8 47), (.int .u8 79), (.int .u8 98), (.int .u8 106), (.int .u8 101), (.int .u8 99), (.int .u8 116), (.int .u8 7), (.int .u8 0), (.int .u8 10), (.int .u8 0), (.int .u8 33), (.int .u8 0), (.int .u8 4), (.int .u8 0), (.int .u8 11), (.int .u8 0), (.int .u8 0), (.int .u8 0), (.int .u8 1), (.int .u8 0), (.int .u8 9), (.int .u8 0), (.int .u8 1), (.int .u8 0), (.int .u8 2), (.int .u8 0), (.int .u8 0), (.int .u8 0), (.int .u8 1), (.int .u8 0), (.int .u8 9), (.int .u8 0), (.int .u8 7), (.int .u8 0), (.int .u8 8), (.int .u8 0), (.int .u8 1), (.int .u8 0), (.int .u8 9), (.int .u8 0), (.int .u8 0), (.int .u8 0), (.int .u8 22), (.int .u8 0), (.int .u8 2), (.int .u8 0), (.int .u8 1), (.int .u8 0), (.int .u8 0), (.int .u8 0), (.int .u8 10), (.int .u8 178), (.int .u8 0), (.int .u8 6), (.int .u8 26), (.int .u8 96), (.int .u8 89), (.int .u8 179), (.int .u8 0), (.int .u8 6), (.int .u8 172), (.int .u8 0), (.int .u8 0), (.int .u8 0), (.int .u8 0), (.int .u8 0), (.int .u8 0)]))), (13932, (.cells 3 false [] (T.ofList 0 .leaf [(.so 13931 0 127 1), (.int .i64 0), (.bool false)]))), (13933, (.cells 8 false [] (T.ofList 0 .leaf [(.int .i64 52), .nils, (.int .i64 0), (.str 0 0), (.str 0 0), .nils, .nils, .nils]))), (13934, (.cells 3 false [] (T.ofList 0 .leaf [(.ptr 13932 0), (.ptr 13933 0), (.bool false)])))], (.tup []), 14478, [(13933, (.cells 8 false [] (T.ofList 0 .leaf [(.int .i64 52), (.sl 13935 0 12 12), (.int .i64 33), (.str 1 77), (.str 16 154706541852025644484233205990057992554), .nils, (.so 14210 0 1 4), (.so 14477 0 1 9)]))), (13934, (.cells 3 false [] (T.ofList 0 .leaf [(.ptr 13932 0), (.ptr 13933 0), (.bool false)]))), (13935, (.cells 60 false [(.int .i64 0), (.str 0 0), (.int .i64 0), (.int .i64 0), (.int .i64 0)] (ofPairs [(5, (.int .i64 1)), (6, (.str 1 115)), (7, (.int .i64 0)), (8, (.int .i64 0)), (9, (.int .i64 0)), (10, (.int .i64 1)), (11, (.str 1 73)), (12, (.int .i64 0)), (13, (.int .i64 0)), (14, (.int .i64 0)), (15, (.int .i64 1)), (16, (.str 1 77)), (17, (.int .i64 0)), (18, (.int .i64 0)), (19, (.int .i64 0)), (20, (.int .i64 7)), (21, (.str 0 0)), (22, (.int .i64 0)), (23, (.int .i64 3)), (24, (.int .i64 0)), (25, (.int .i64 12)), (26, (.str 0 0)), (27, (.int .i64 0)), (28, (.int .i64 1)), (29, (.int .i64 2)), (30, (.int .i64 9)), (31, (.str 0 0)), (32, (.int .i64 0)), (33, (.int .i64 4)), (34, (.int .i64 5)), (35, (.int .i64 1)), (36, (.str 3 6579297)), (37, (.int .i64 0)), (38, (.int .i64 0)), (39, (.int .i64 0)), (40, (.int .i64 1)), (41, (.str 4 1227442472)), (42, (.int .i64 0)), (43, (.int .i64 0)), (44, (.int .i64 0)), (45, (.int .i64 1)), (46, (.str 4 1701080899)), (47, (.int .i64 0)), (48, (.int .i64 0)), (49, (.int .i64 0)), (50, (.int .i64 1)), (51, (.str 16 154706541852025644484233205990057992554)), (52, (.int .i64 0)), (53, (.int .i64 0)), (54, (.int .i64 0)), (55, (.int .i64 7)), (56, (.str 0 0)), (57, (.int .i64 0)), (58, (.int .i64 10)), (59, (.int .i64 0))]))), (14210, (.cells 4 true [] (T.ofList 0 .leaf [(.int .i64 9), (.str 1 115), (.str 1 73), (.int .i64 0)]))), (14249, (.cells 10 true [] (T.ofList 0 .leaf [(.int .u8 178), (.int .u8 0), (.int .u8 6), (.int .u8 26), (.int .u8 96), (.int .u8 89), (.int .u8 179), (.int .u8 0), (.int .u8 6), (.int .u8 172)]))), (14477, (.cells 9 true [] (T.ofList 0 .leaf [(.int .i64 9), (.str 3 6579297), (.str 4 1227442472), (.bool true), (.int .i64 2), (.int .i64 1), (.so 14249 0 10 1), .nils, .nils])))]⟩
theorem I13693_ok : InOk Tryz.prog I13693 := InOk.of_run (K := K_ST1a) (n := 5000) mixed K_ST1a_ok (by kernel_rfl) (by as_aux_lemma => kernel_rfl)

noncomputable def S6149 : Sum := ⟨(.int .i64 35), 74, []⟩
theorem S6149_ok : SumOk Tryz.prog 195 [(.str 19 2439265639030268300842157990401791553877467498), (.str 7 31081494762582640), (.str 3 5646632)] S6149 := SumOk.of_run (K := K_ST1a) (n := 5000) (keep := []) mixed K_ST1a_ok (by kernel_rfl) (by as_aux_lemma => kernel_rfl)

noncomputable def S6042 : Sum := ⟨(.int .i64 34), 73, []⟩
theorem S6042_ok : SumOk Tryz.prog 195 [(.str 19 2439265639030268300842157990401791553877467498), (.str 7 31081494762582640), (.str 21 125924535314876068507128442038675530910546422025256)] S6042 := SumOk.of_run (K := K_ST1a) (n := 5000) (keep := []) mixed K_ST1a_ok (by kernel_rfl) (by as_aux_lemma => kernel_rfl)

noncomputable def S6007 : Sum := ⟨(.int .i64 33), 72, []⟩
theorem S6007_ok : SumOk Tryz.prog 195 [(.str 19 2439265639030268300842157990401791553877467498), (.str 7 31081494762582640), (.str 4 1445550632)] S6007 := SumOk.of_run (K := K_ST1a) (n := 5000) (keep := []) mixed K_ST1a_ok (by kernel_rfl) (by as_aux_lemma => kernel_rfl)

noncomputable def S5973 : Sum := ⟨(.int .i64 32), 71, []⟩
theorem S5973_ok : SumOk Tryz.prog 195 [(.str 19 2439265639030268300842157990401791553877467498), (.str 7 31081494762582640), (.str 4 1445544744)] S5973 := SumOk.of_run (K := K_ST1a) (n := 5000) (keep := []) mixed K_ST1a_ok (by kernel_rfl) (by as_aux_lemma => kernel_rfl)

noncomputable def S5940 : Sum := ⟨(.int .i64 31), 70, []⟩
theorem S5940_ok : SumOk Tryz.prog 195 [(.str 19 2439265639030268300842157990401791553877467498), (.str 7 31081494762582640), (.str 4 1445546536)] S5940 := SumOk.of_run (K := K_ST1a) (n := 5000) (keep := []) mixed K_ST1a_ok (by kernel_rfl) (by as_aux_lemma => kernel_rfl)

noncomputable def S5908 : Sum := ⟨(.int .i64 30), 69, []⟩
theorem S5908_ok : SumOk Tryz.prog 195 [(.str 19 2439265639030268300842157990401791553877467498), (.str 7 31081494762582640), (.str 4 1445546280)] S5908 := SumOk.of_run (K := K_ST1a) (n := 5000) (keep := []) mixed K_ST1a_ok (by kernel_rfl) (by as_aux_lemma => kernel_rfl)

noncomputable def S5806 : Sum := ⟨(.int .i64 29), 68, []⟩
theorem S5806_ok : SumOk Tryz.prog 195 [(.str 19 2439265639030268300842157990401791553877467498), (.str 7 31081494762582640), (.str 21 125924534186164816246133852188561726513007718714408)] S5806 := SumOk.of_run (K := K_ST1a) (n := 5000) (keep := []) mixed K_ST1a_ok (by kernel_rfl) (by as_aux_lemma => kernel_rfl)

noncomputable def S5723 : Sum := ⟨(.tup [(.so 40 0 1 4), (.agg [(.int .u8 86), (.str 0 0), (.int .i64 0), (.int .u8 0)]), (.bool true)]), 41, [(40, (.cells 4 true [] (T.ofList 0 .leaf [(.int .u8 76), (.str 16 154706541852025644484233205990057992554), (.int .i64 0), (.int .u8 0)])))]⟩
theorem S5723_ok : SumOk Tryz.prog 157 [(.str 21 125924535314876068507128442038675530910546422025256)] S5723 := SumOk.of_run (K := K_ST1a) (n := 5000) (keep := [40]) mixed K_ST1a_ok (by kernel_rfl) (by as_aux_lemma => kernel_rfl)

noncomputable def S5705 : Sum := ⟨(.int .i64 28), 67, []⟩
theorem S5705_ok : SumOk Tryz.prog 195 [(.str 19 2439265639030268300842157990401791553877467498), (.str 5 500068610672), (.str 21 125924535314876068507128442038675530910546422025256)] S5705 := SumOk.of_run (K := K_ST1a) (n := 5000) (keep := []) mixed K_ST1a_ok (by kernel_rfl) (by as_aux_lemma => kernel_rfl)

noncomputable def S5676 : Sum := ⟨(.int .i64 27), 66, []⟩
theorem S5676_ok : SumOk Tryz.prog 195 [(.str 19 2439265639030268300842157990401791553877467498), (.str 5 500068610672), (.str 4 1445550632)] S5676 := SumOk.of_run (K := K_ST1a) (n := 5000) (keep := []) mixed K_ST1a_ok (by kernel_rfl) (by as_aux_lemma => kernel_rfl)

noncomputable def S5648 : Sum := ⟨(.int .i64 26), 65, []⟩
theorem S5648_ok : SumOk Tryz.prog 195 [(.str 19 2439265639030268300842157990401791553877467498), (.str 5 500068610672), (.str 4 1445544744)] S5648 := SumOk.of_run (K := K_ST1a) (n := 5000) (keep := []) mixed K_ST1a_ok (by kernel_rfl) (by as_aux_lemma => kernel_rfl)

noncomputable def S5621 : Sum := ⟨(.int .i64 25), 64, []⟩
theorem S5621_ok : SumOk Tryz.prog 195 [(.str 19 2439265639030268300842157990401791553877467498), (.str 5 500068610672), (.str 4 1445546536)] S5621 := SumOk.of_run (K := K_ST1a) (n := 5000) (keep := []) mixed K_ST1a_ok (by kernel_rfl) (by as_aux_lemma => kernel_rfl)

noncomputable def S5595 : Sum := ⟨(.int .i64 24), 63, []⟩
theorem S5595_ok : SumOk Tryz.prog 195 [(.str 19 2439265639030268300842157990401791553877467498), (.str 5 500068610672), (.str 4 1445546280)] S5595 := SumOk.of_run (K := K_ST1a) (n := 5000) (keep := []) mixed K_ST1a_ok (by kernel_rfl) (by as_aux_lemma => kernel_rfl)

noncomputable def S5499 : Sum := ⟨(.int .i64 23), 62, []⟩
theorem S5499_ok : SumOk Tryz.prog 195 [(.str 19 2439265639030268300842157990401791553877467498), (.str 5 500068610672), (.str 21 125924534186164816246133852188561726513007718714408)] S5499 := SumOk.of_run (K := K_ST1a) (n := 5000) (keep := []) mixed K_ST1a_ok (by kernel_rfl) (by as_aux_lemma => kernel_rfl)

noncomputable def S5398 : Sum := ⟨(.int .i64 21), 39, []⟩
theorem S5398_ok : SumOk Tryz.prog 195 [(.str 23 10956966084090815260342509131105871416374185281426186602), (.str 8 7453010373643562868), (.str 20 339137050467292191589805048747422779071890467112)] S5398 := SumOk.of_run (K := K_ST1a) (n := 5000) (keep := []) mixed K_ST1a_ok (by kernel_rfl) (by as_aux_lemma => kernel_rfl)

noncomputable def tab_ST1a : List (FuncId × SRows) := (157, [([(.str 21 125924535314876068507128442038675530910546422025256)], S5723)]) :: (195, [([(.str 19 2439265639030268300842157990401791553877467498), (.str 7 31081494762582640), (.str 3 5646632)], S6149), ([(.str 19 2439265639030268300842157990401791553877467498), (.str 7 31081494762582640), (.str 21 125924535314876068507128442038675530910546422025256)], S6042), ([(.str 19 2439265639030268300842157990401791553877467498), (.str 7 31081494762582640), (.str 4 1445550632)], S6007), ([(.str 19 2439265639030268300842157990401791553877467498), (.str 7 31081494762582640), (.str 4 1445544744)], S5973), ([(.str 19 2439265639030268300842157990401791553877467498), (.str 7 31081494762582640), (.str 4 1445546536)], S5940), ([(.str 19 2439265639030268300842157990401791553877467498), (.str 7 31081494762582640), (.str 4 1445546280)], S5908), ([(.str 19 2439265639030268300842157990401791553877467498), (.str 7 31081494762582640), (.str 21 125924534186164816246133852188561726513007718714408)], S5806), ([(.str 19 2439265639030268300842157990401791553877467498), (.str 5 500068610672), (.str 21 125924535314876068507128442038675530910546422025256)], S5705), ([(.str 19 2439265639030268300842157990401791553877467498), (.str 5 500068610672), (.str 4 1445550632)], S5676), ([(.str 19 2439265639030268300842157990401791553877467498), (.str 5 500068610672), (.str 4 1445544744)], S5648), ([(.str 19 2439265639030268300842157990401791553877467498), (.str 5 500068610672), (.str 4 1445546536)], S5621), ([(.str 19 2439265639030268300842157990401791553877467498), (.str 5 500068610672), (.str 4 1445546280)], S5595), ([(.str 19 2439265639030268300842157990401791553877467498), (.str 5 500068610672), (.str 21 125924534186164816246133852188561726513007718714408)], S5499), ([(.str 23 10956966084090815260342509131105871416374185281426186602), (.str 8 7453010373643562868), (.str 20 339137050467292191589805048747422779071890467112)], S5398)]) :: []
theorem tab_ST1a_ok : TabOk Tryz.prog tab_ST1a := (TabOk.cons (RowsOk.cons S5723_ok RowsOk.nil) (TabOk.cons (RowsOk.cons S6149_ok (RowsOk.cons S6042_ok (RowsOk.cons S6007_ok (RowsOk.cons S5973_ok (RowsOk.cons S5940_ok (RowsOk.cons S5908_ok (RowsOk.cons S5806_ok (RowsOk.cons S5705_ok (RowsOk.cons S5676_ok (RowsOk.cons S5648_ok (RowsOk.cons S5621_ok (RowsOk.cons S5595_ok (RowsOk.cons S5499_ok (RowsOk.cons S5398_ok RowsOk.nil)))))))))))))) TabOk.nil))
noncomputable def H_ST1a : Hand := ((inHand I13693).or (sumsHand tab_ST1a))
theorem H_ST1a_ok : HandOk Tryz.prog H_ST1a := (HandOk.or (inHand_ok I13693_ok (by kernel_rfl)) (sumsHand_ok tab_ST1a_ok))
end Go.Proofs.YtkckdnjocncnhaaGreatDoor.st
