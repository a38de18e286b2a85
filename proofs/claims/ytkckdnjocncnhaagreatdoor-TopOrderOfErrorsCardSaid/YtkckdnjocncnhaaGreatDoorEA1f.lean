/-
  Contracts of calls, by the kernel.
-/
import Derived.Test.YtkckdnjocncnhaaGreatDoorXM3
import Derived.Test.YtkckdnjocncnhaaGreatDoorProg
import Derived.KernelRfl
import Derived.Test.YtkckdnjocncnhaaGreatDoorEA0a
set_option linter.unusedSectionVars false
set_option linter.unusedVariables false
set_option maxRecDepth 1000000
set_option maxHeartbeats 0
namespace Go.Proofs.YtkckdnjocncnhaaGreatDoor.ea
open Go.X Go.RowKit
variable [Tab]
noncomputable def K_EA1f : Hand := H_EA0a
theorem K_EA1f_ok : HandOk Tryz.prog K_EA1f := H_EA0a_ok

noncomputable def I13678 : In := ⟨83, [(.ptr 13932 0)], 13933, [(13929, (.cells 148 true [] (T.ofList 0 .leaf [(.int .u8 0), (.int .u8 14), (.int .u8 1), (.int .u8 0), (.int .u8 16), (.int .u8 106), (.int .u8 97), (.int .u8 118), (.int .u8 97), (.int .u8 47), (.int .u8 108), (.int .u8 97), (.int .u8 110), (.int .u8 103), (.int .u8 47), (.int .u8 83), (.int .u8 116), (.int .u8 114), (.int .u8 105), (.int .u8 110), (.int .u8 103), (.int .u8 7), (.int .u8 0), (.int .u8 1), (.int .u8 1), (.int .u8 0), (.int .u8 16), (.int .u8 106), (.int .u8 97), (.int .u8 118), (.int .u8 97), (.int .u8 47), (.int .u8 108), (.int .u8 97), (.int .u8 110), (.int .u8 103), (.int .u8 47), (.int .u8 79), (.int .u8 98), (.int .u8 106), (.int .u8 101), (.int .u8 99), (.int .u8 116), (.int .u8 7), (.int .u8 0), (.int .u8 3), (.int .u8 1), (.int .u8 0), (.int .u8 6), (.int .u8 60), (.int .u8 105), (.int .u8 110), (.int .u8 105), (.int .u8 116), (.int .u8 62), (.int .u8 1), (.int .u8 0), (.int .u8 3), (.int .u8 40), (.int .u8 41), (.int .u8 86), (.int .u8 12), (.int .u8 0), (.int .u8 5), (.int .u8 0), (.int .u8 6), (.int .u8 10), (.int .u8 0), (.int .u8 4), (.int .u8 0), (.int .u8 7), (.int .u8 1), (.int .u8 0), (.int .u8 2), (.int .u8 103), (.int .u8 111), (.int .u8 1), (.int .u8 0), (.int .u8 3), (.int .u8 40), (.int .u8 41), (.int .u8 73), (.int .u8 1), (.int .u8 0), (.int .u8 4), (.int .u8 67), (.int .u8 111), (.int .u8 100), (.int .u8 101), (.int .u8 1), (.int .u8 0), (.int .u8 1), (.int .u8 77), (.int .u8 7), (.int .u8 0), (.int .u8 12), (.int .u8 0), (.int .u8 33), (.int .u8 0), (.int .u8 13), (.int .u8 0), (.int .u8 4), (.int .u8 0), (.int .u8 0), (.int .u8 0), (.int .u8 0), (.int .u8 0), (.int .u8 1), (.int .u8 0), (.int .u8 9), (.int .u8 0), (.int .u8 9), (.int .u8 0), (.int .u8 10), (.int .u8 0), (.int .u8 1), (.int .u8 0), (.int .u8 11), (.int .u8 0), (.int .u8 0), (.int .u8 0), (.int .u8 24), (.int .u8 0), (.int .u8 5), (.int .u8 0), (.int .u8 0), (.int .u8 0), (.int .u8 0), (.int .u8 0), (.int .u8 12), (.int .u8 1), (.int .u8 8), (.int .u8 187), (.int .u8 0), (.int .u8 4), (.int .u8 89), (.int .u8 183), (.int .u8 0), (.int .u8 8), (.int .u8 83), (.int .u8 3), (.int .u8 172), (.int .u8 0), (.int .u8 0), (.int .u8 0), (.int .u8 0), (.int .u8 0), (.int .u8 0)]))), (13930, (.cells 3 false [] (T.ofList 0 .leaf [(.so 13929 0 148 1), (.int .i64 0), (.bool false)]))), (13931, (.cells 8 false [] (T.ofList 0 .leaf [(.int .i64 52), .nils, (.int .i64 0), (.str 0 0), (.str 0 0), .nils, .nils, .nils]))), (13932, (.cells 3 false [] (T.ofList 0 .leaf [(.ptr 13930 0), (.ptr 13931 0), (.bool false)])))], (.tup []), 14632, [(13931, (.cells 8 false [] (T.ofList 0 .leaf [(.int .i64 52), (.sl 13933 0 14 14), (.int .i64 33), (.str 1 77), (.str 16 154706541852025644484233205990057992554), .nils, .nils, (.so 14631 0 1 9)]))), (13932, (.cells 3 false [] (T.ofList 0 .leaf [(.ptr 13930 0), (.ptr 13931 0), (.bool false)]))), (13933, (.cells 70 false [(.int .i64 0), (.str 0 0), (.int .i64 0), (.int .i64 0), (.int .i64 0)] (ofPairs [(5, (.int .i64 1)), (6, (.str 16 137483774941304901841256615957136564586)), (7, (.int .i64 0)), (8, (.int .i64 0)), (9, (.int .i64 0)), (10, (.int .i64 7)), (11, (.str 0 0)), (12, (.int .i64 0)), (13, (.int .i64 1)), (14, (.int .i64 0)), (15, (.int .i64 1)), (16, (.str 16 154706541852025644484233205990057992554)), (17, (.int .i64 0)), (18, (.int .i64 0)), (19, (.int .i64 0)), (20, (.int .i64 7)), (21, (.str 0 0)), (22, (.int .i64 0)), (23, (.int .i64 3)), (24, (.int .i64 0)), (25, (.int .i64 1)), (26, (.str 6 68669705972028)), (27, (.int .i64 0)), (28, (.int .i64 0)), (29, (.int .i64 0)), (30, (.int .i64 1)), (31, (.str 3 5646632)), (32, (.int .i64 0)), (33, (.int .i64 0)), (34, (.int .i64 0)), (35, (.int .i64 12)), (36, (.str 0 0)), (37, (.int .i64 0)), (38, (.int .i64 5)), (39, (.int .i64 6)), (40, (.int .i64 10)), (41, (.str 0 0)), (42, (.int .i64 0)), (43, (.int .i64 4)), (44, (.int .i64 7)), (45, (.int .i64 1)), (46, (.str 2 28519)), (47, (.int .i64 0)), (48, (.int .i64 0)), (49, (.int .i64 0)), (50, (.int .i64 1)), (51, (.str 3 4794664)), (52, (.int .i64 0)), (53, (.int .i64 0)), (54, (.int .i64 0)), (55, (.int .i64 1)), (56, (.str 4 1701080899)), (57, (.int .i64 0)), (58, (.int .i64 0)), (59, (.int .i64 0)), (60, (.int .i64 1)), (61, (.str 1 77)), (62, (.int .i64 0)), (63, (.int .i64 0)), (64, (.int .i64 0)), (65, (.int .i64 7)), (66, (.str 0 0)), (67, (.int .i64 0)), (68, (.int .i64 12)), (69, (.int .i64 0))]))), (14334, (.cells 12 true [] (T.ofList 0 .leaf [(.int .u8 1), (.int .u8 8), (.int .u8 187), (.int .u8 0), (.int .u8 4), (.int .u8 89), (.int .u8 183), (.int .u8 0), (.int .u8 8), (.int .u8 83), (.int .u8 3), (.int .u8 172)]))), (14631, (.cells 9 true [] (T.ofList 0 .leaf [(.int .i64 9), (.str 2 28519), (.str 3 4794664), (.bool true), (.int .i64 5), (.int .i64 0), (.so 14334 0 12 1), .nils, .nils])))]⟩
theorem I13678_ok : InOk Tryz.prog I13678 := InOk.of_run (K := K_EA1f) (n := 5000) mixed K_EA1f_ok (by kernel_rfl) (by as_aux_lemma => kernel_rfl)

noncomputable def S6149 : Sum := ⟨(.int .i64 35), 74, []⟩
theorem S6149_ok : SumOk Tryz.prog 195 [(.str 19 2439265639030268300842157990401791553877467498), (.str 7 31081494762582640), (.str 3 5646632)] S6149 := SumOk.of_run (K := K_EA1f) (n := 5000) (keep := []) mixed K_EA1f_ok (by kernel_rfl) (by as_aux_lemma => kernel_rfl)

noncomputable def S6042 : Sum := ⟨(.int .i64 34), 73, []⟩
theorem S6042_ok : SumOk Tryz.prog 195 [(.str 19 2439265639030268300842157990401791553877467498), (.str 7 31081494762582640), (.str 21 125924535314876068507128442038675530910546422025256)] S6042 := SumOk.of_run (K := K_EA1f) (n := 5000) (keep := []) mixed K_EA1f_ok (by kernel_rfl) (by as_aux_lemma => kernel_rfl)

noncomputable def S6007 : Sum := ⟨(.int .i64 33), 72, []⟩
theorem S6007_ok : SumOk Tryz.prog 195 [(.str 19 2439265639030268300842157990401791553877467498), (.str 7 31081494762582640), (.str 4 1445550632)] S6007 := SumOk.of_run (K := K_EA1f) (n := 5000) (keep := []) mixed K_EA1f_ok (by kernel_rfl) (by as_aux_lemma => kernel_rfl)

noncomputable def S5973 : Sum := ⟨(.int .i64 32), 71, []⟩
theorem S5973_ok : SumOk Tryz.prog 195 [(.str 19 2439265639030268300842157990401791553877467498), (.str 7 31081494762582640), (.str 4 1445544744)] S5973 := SumOk.of_run (K := K_EA1f) (n := 5000) (keep := []) mixed K_EA1f_ok (by kernel_rfl) (by as_aux_lemma => kernel_rfl)

noncomputable def S5940 : Sum := ⟨(.int .i64 31), 70, []⟩
theorem S5940_ok : SumOk Tryz.prog 195 [(.str 19 2439265639030268300842157990401791553877467498), (.str 7 31081494762582640), (.str 4 1445546536)] S5940 := SumOk.of_run (K := K_EA1f) (n := 5000) (keep := []) mixed K_EA1f_ok (by kernel_rfl) (by as_aux_lemma => kernel_rfl)

noncomputable def S5908 : Sum := ⟨(.int .i64 30), 69, []⟩
theorem S5908_ok : SumOk Tryz.prog 195 [(.str 19 2439265639030268300842157990401791553877467498), (.str 7 31081494762582640), (.str 4 1445546280)] S5908 := SumOk.of_run (K := K_EA1f) (n := 5000) (keep := []) mixed K_EA1f_ok (by kernel_rfl) (by as_aux_lemma => kernel_rfl)

noncomputable def S5806 : Sum := ⟨(.int .i64 29), 68, []⟩
theorem S5806_ok : SumOk Tryz.prog 195 [(.str 19 2439265639030268300842157990401791553877467498), (.str 7 31081494762582640), (.str 21 125924534186164816246133852188561726513007718714408)] S5806 := SumOk.of_run (K := K_EA1f) (n := 5000) (keep := []) mixed K_EA1f_ok (by kernel_rfl) (by as_aux_lemma => kernel_rfl)

noncomputable def S5723 : Sum := ⟨(.tup [(.so 40 0 1 4), (.agg [(.int .u8 86), (.str 0 0), (.int .i64 0), (.int .u8 0)]), (.bool true)]), 41, [(40, (.cells 4 true [] (T.ofList 0 .leaf [(.int .u8 76), (.str 16 154706541852025644484233205990057992554), (.int .i64 0), (.int .u8 0)])))]⟩
theorem S5723_ok : SumOk Tryz.prog 157 [(.str 21 125924535314876068507128442038675530910546422025256)] S5723 := SumOk.of_run (K := K_EA1f) (n := 5000) (keep := [40]) mixed K_EA1f_ok (by kernel_rfl) (by as_aux_lemma => kernel_rfl)

noncomputable def S5705 : Sum := ⟨(.int .i64 28), 67, []⟩
theorem S5705_ok : SumOk Tryz.prog 195 [(.str 19 2439265639030268300842157990401791553877467498), (.str 5 500068610672), (.str 21 125924535314876068507128442038675530910546422025256)] S5705 := SumOk.of_run (K := K_EA1f) (n := 5000) (keep := []) mixed K_EA1f_ok (by kernel_rfl) (by as_aux_lemma => kernel_rfl)

noncomputable def S5676 : Sum := ⟨(.int .i64 27), 66, []⟩
theorem S5676_ok : SumOk Tryz.prog 195 [(.str 19 2439265639030268300842157990401791553877467498), (.str 5 500068610672), (.str 4 1445550632)] S5676 := SumOk.of_run (K := K_EA1f) (n := 5000) (keep := []) mixed K_EA1f_ok (by kernel_rfl) (by as_aux_lemma => kernel_rfl)

noncomputable def S5648 : Sum := ⟨(.int .i64 26), 65, []⟩
theorem S5648_ok : SumOk Tryz.prog 195 [(.str 19 2439265639030268300842157990401791553877467498), (.str 5 500068610672), (.str 4 1445544744)] S5648 := SumOk.of_run (K := K_EA1f) (n := 5000) (keep := []) mixed K_EA1f_ok (by kernel_rfl) (by as_aux_lemma => kernel_rfl)

noncomputable def S5621 : Sum := ⟨(.int .i64 25), 64, []⟩
theorem S5621_ok : SumOk Tryz.prog 195 [(.str 19 2439265639030268300842157990401791553877467498), (.str 5 500068610672), (.str 4 1445546536)] S5621 := SumOk.of_run (K := K_EA1f) (n := 5000) (keep := []) mixed K_EA1f_ok (by kernel_rfl) (by as_aux_lemma => kernel_rfl)

noncomputable def S5595 : Sum := ⟨(.int .i64 24), 63, []⟩
theorem S5595_ok : SumOk Tryz.prog 195 [(.str 19 2439265639030268300842157990401791553877467498), (.str 5 500068610672), (.str 4 1445546280)] S5595 := SumOk.of_run (K := K_EA1f) (n := 5000) (keep := []) mixed K_EA1f_ok (by kernel_rfl) (by as_aux_lemma => kernel_rfl)

noncomputable def tab_EA1f : List (FuncId × SRows) := (157, [([(.str 21 125924535314876068507128442038675530910546422025256)], S5723)]) :: (195, [([(.str 19 2439265639030268300842157990401791553877467498), (.str 7 31081494762582640), (.str 3 5646632)], S6149), ([(.str 19 2439265639030268300842157990401791553877467498), (.str 7 31081494762582640), (.str 21 125924535314876068507128442038675530910546422025256)], S6042), ([(.str 19 2439265639030268300842157990401791553877467498), (.str 7 31081494762582640), (.str 4 1445550632)], S6007), ([(.str 19 2439265639030268300842157990401791553877467498), (.str 7 31081494762582640), (.str 4 1445544744)], S5973), ([(.str 19 2439265639030268300842157990401791553877467498), (.str 7 31081494762582640), (.str 4 1445546536)], S5940), ([(.str 19 2439265639030268300842157990401791553877467498), (.str 7 31081494762582640), (.str 4 1445546280)], S5908), ([(.str 19 2439265639030268300842157990401791553877467498), (.str 7 31081494762582640), (.str 21 125924534186164816246133852188561726513007718714408)], S5806), ([(.str 19 2439265639030268300842157990401791553877467498), (.str 5 500068610672), (.str 21 125924535314876068507128442038675530910546422025256)], S5705), ([(.str 19 2439265639030268300842157990401791553877467498), (.str 5 500068610672), (.str 4 1445550632)], S5676), ([(.str 19 2439265639030268300842157990401791553877467498), (.str 5 500068610672), (.str 4 1445544744)], S5648), ([(.str 19 2439265639030268300842157990401791553877467498), (.str 5 500068610672), (.str 4 1445546536)], S5621), ([(.str 19 2439265639030268300842157990401791553877467498), (.str 5 500068610672), (.str 4 1445546280)], S5595)]) :: []
theorem tab_EA1f_ok : TabOk Tryz.prog tab_EA1f := (TabOk.cons (RowsOk.cons S5723_ok RowsOk.nil) (TabOk.cons (RowsOk.cons S6149_ok (RowsOk.cons S6042_ok (RowsOk.cons S6007_ok (RowsOk.cons S5973_ok (RowsOk.cons S5940_ok (RowsOk.cons S5908_ok (RowsOk.cons S5806_ok (RowsOk.cons S5705_ok (RowsOk.cons S5676_ok (RowsOk.cons S5648_ok (RowsOk.cons S5621_ok (RowsOk.cons S5595_ok RowsOk.nil)))))))))))) TabOk.nil))
noncomputable def H_EA1f : Hand := ((inHand I13678).or (sumsHand tab_EA1f))
theorem H_EA1f_ok : HandOk Tryz.prog H_EA1f := (HandOk.or (inHand_ok I13678_ok (by kernel_rfl)) (sumsHand_ok tab_EA1f_ok))
end Go.Proofs.YtkckdnjocncnhaaGreatDoor.ea
