/-
  Contracts of calls, by the kernel.
-/
import Derived.Test.YthgncmohimdbmaaGreatDoorXN3
import Derived.Test.YthgncmohimdbmaaGreatDoorProg
import Derived.KernelRfl
import Derived.Test.YthgncmohimdbmaaGreatDoorLG0a
set_option linter.unusedSectionVars false
set_option linter.unusedVariables false
set_option maxRecDepth 1000000
set_option maxHeartbeats 0
namespace Go.Proofs.YthgncmohimdbmaaGreatDoor.lg
open Go.X Go.RowKit
variable [Tab]
noncomputable def K_LG1a : Hand := H_LG0a
theorem K_LG1a_ok : HandOk Tryz.prog K_LG1a := H_LG0a_ok

noncomputable def I29976 : In := ⟨52, [(.ptr 13585 0)], 15607, [q0, q1, q2, q3, q4, q5, q6, q7, q8, (15199, (.cells 2 false [] (T.ofList 0 .leaf [(.int .i64 2), .nils]))), q9, q10, (15210, (.cells 1 true [] (T.ofList 0 .leaf [(.ptr 15208 0)]))), q11, q12], (.bool false), 15661, [q0, q2, (13585, (.cells 32 false [] (T.ofList 0 .leaf [(.ptr 6982 0), (.ptr 10240 0), (.ptr 10235 0), (.ptr 10237 0), (.ptr 10241 0), (.ptr 13581 0), .nils, (.map 13582), (.map 13583), .nils, (.int .i64 1), (.int .i64 3), (.int .i64 6), (.int .i64 0), .nilp, (.bool false), (.int .i64 20), (.int .i64 10), (.int .i64 0), (.int .i64 1), (.int .i64 0), (.int .i64 1), (.int .u8 74), (.oi 49), (.str 0 0), (.str 0 0), (.bool false), (.int .i64 10), .nils, (.int .i64 0), (.int .i64 1), (.map 13584)]))), q5, q6, q7, q8, (15199, (.cells 2 false [] (T.ofList 0 .leaf [(.int .i64 2), .nils]))), (15210, (.cells 1 true [] (T.ofList 0 .leaf [(.ptr 15208 0)]))), q11, q12]⟩
theorem I29976_ok : InOk Tryz.prog I29976 := InOk.of_run (K := K_LG1a) (n := 5000) mixed K_LG1a_ok (by kernel_rfl) (by as_aux_lemma => kernel_rfl)

noncomputable def I29840 : In := ⟨52, [(.ptr 13585 0)], 15426, [q1, q30, q31, q5, q32, q6, q7, q33, q34, (15210, (.cells 1 true [] (T.ofList 0 .leaf [(.ptr 15208 0)]))), q29, q12], (.bool true), 15462, [q24, q25, q26, q5, q32, q6, q7, q27, q28, (15210, (.cells 1 true [] (T.ofList 0 .leaf [(.ptr 15208 0)]))), q29, q12]⟩
theorem I29840_ok : InOk Tryz.prog I29840 := InOk.of_run (K := K_LG1a) (n := 5000) mixed K_LG1a_ok (by kernel_rfl) (by as_aux_lemma => kernel_rfl)

noncomputable def I29769 : In := ⟨52, [(.ptr 13585 0)], 15343, [q1, q40, q41, q5, q32, q6, q7, q42, q43, (15210, (.cells 1 true [] (T.ofList 0 .leaf [(.ptr 15208 0)]))), q39, q12], (.bool true), 15379, [q24, q35, q36, q5, q32, q6, q7, q37, q38, (15210, (.cells 1 true [] (T.ofList 0 .leaf [(.ptr 15208 0)]))), q39, q12]⟩
theorem I29769_ok : InOk Tryz.prog I29769 := InOk.of_run (K := K_LG1a) (n := 5000) mixed K_LG1a_ok (by kernel_rfl) (by as_aux_lemma => kernel_rfl)

noncomputable def I29698 : In := ⟨52, [(.ptr 13585 0)], 15252, [q49, q50, q51, q5, q32, q6, q7, q52, q53, (15210, (.cells 1 true [] (T.ofList 0 .leaf [(.ptr 15208 0)]))), q54, q55], (.bool true), 15292, [q24, q44, q45, q5, q32, q6, q7, q46, q47, (15210, (.cells 1 true [] (T.ofList 0 .leaf [(.ptr 15208 0)]))), q48, q12]⟩
theorem I29698_ok : InOk Tryz.prog I29698 := InOk.of_run (K := K_LG1a) (n := 5000) mixed K_LG1a_ok (by kernel_rfl) (by as_aux_lemma => kernel_rfl)

noncomputable def I29668 : In := ⟨52, [(.ptr 13585 0)], 15212, [(13581, (.cells 4 false [] (T.ofList 0 .leaf [(.so 15206 0 1 1), (.so 15207 0 1 1), (.so 15205 0 1 7), (.int .i64 9)]))), (13584, (.map [] 0)), (13585, (.cells 32 false [] (T.ofList 0 .leaf [(.ptr 6982 0), (.ptr 10240 0), (.ptr 10235 0), (.ptr 10237 0), (.ptr 10241 0), (.ptr 13581 0), (.so 15210 0 1 1), (.map 13582), (.map 13583), .nils, (.int .i64 1), (.int .i64 3), (.int .i64 6), (.int .i64 0), .nilp, (.bool true), (.int .i64 20), (.int .i64 0), (.int .i64 0), (.int .i64 0), (.int .i64 0), (.int .i64 0), (.int .u8 0), (.int .i64 0), (.str 0 0), (.str 0 0), (.bool false), (.int .i64 0), .nils, (.int .i64 0), (.int .i64 0), (.map 13584)]))), q5, q32, q6, q7, (15205, (.cells 7 true [] (T.ofList 0 .leaf [(.int .i64 0), (.int .i64 0), (.int .i64 0), (.int .i64 0), (.int .i64 1), (.int .i64 4), (.int .i64 0)]))), (15206, (.cells 1 true [] (T.ofList 0 .leaf [(.oi 42)]))), (15207, (.cells 1 true [] (T.ofList 0 .leaf [(.bool false)]))), (15208, (.cells 6 false [] (T.ofList 0 .leaf [(.int .i64 0), (.int .i64 0), (.ptr 13881 0), (.int .i64 0), (.int .i64 0), .nilp]))), (15210, (.cells 1 true [] (T.ofList 0 .leaf [(.ptr 15208 0)])))], (.bool true), 15252, [q49, q50, q51, q5, q32, q6, q7, q52, q53, (15210, (.cells 1 true [] (T.ofList 0 .leaf [(.ptr 15208 0)]))), q54, q55]⟩
theorem I29668_ok : InOk Tryz.prog I29668 := InOk.of_run (K := K_LG1a) (n := 5000) mixed K_LG1a_ok (by kernel_rfl) (by as_aux_lemma => kernel_rfl)

noncomputable def I29285 : In := ⟨287, [(.ptr 6982 0), (.ptr 13881 0), (.int .i64 0)], 14480, [q5, q6, q7], (.tup [(.so 15128 0 10 3), (.bool true)]), 15178, [q5, q6, q7]⟩
theorem I29285_ok : InOk Tryz.prog I29285 := InOk.of_run (K := K_LG1a) (n := 5000) mixed K_LG1a_ok (by kernel_rfl) (by as_aux_lemma => kernel_rfl)

noncomputable def I14968 : In := ⟨52, [(.ptr 13591 0)], 15623, [q67, q68, q69, q70, q71, q72, q73, q74, q75, (15215, (.cells 2 false [] (T.ofList 0 .leaf [(.int .i64 2), .nils]))), q76, q77, (15226, (.cells 1 true [] (T.ofList 0 .leaf [(.ptr 15224 0)]))), q78, q79], (.bool false), 15677, [q67, q69, (13591, (.cells 32 false [] (T.ofList 0 .leaf [(.ptr 6988 0), (.ptr 10246 0), (.ptr 10241 0), (.ptr 10243 0), (.ptr 10247 0), (.ptr 13587 0), .nils, (.map 13588), (.map 13589), .nils, (.int .i64 1), (.int .i64 3), (.int .i64 6), (.int .i64 0), .nilp, (.bool false), (.int .i64 20), (.int .i64 10), (.int .i64 0), (.int .i64 1), (.int .i64 0), (.int .i64 1), (.int .u8 74), (.oi 89), (.str 0 0), (.str 0 0), (.bool false), (.int .i64 10), .nils, (.int .i64 0), (.int .i64 1), (.map 13590)]))), q72, q73, q74, q75, (15215, (.cells 2 false [] (T.ofList 0 .leaf [(.int .i64 2), .nils]))), (15226, (.cells 1 true [] (T.ofList 0 .leaf [(.ptr 15224 0)]))), q78, q79]⟩
theorem I14968_ok : InOk Tryz.prog I14968 := InOk.of_run (K := K_LG1a) (n := 5000) mixed K_LG1a_ok (by kernel_rfl) (by as_aux_lemma => kernel_rfl)

noncomputable def I14832 : In := ⟨52, [(.ptr 13591 0)], 15442, [q68, q97, q98, q72, q99, q73, q74, q100, q101, (15226, (.cells 1 true [] (T.ofList 0 .leaf [(.ptr 15224 0)]))), q102, q79], (.bool true), 15478, [q91, q92, q93, q72, q99, q73, q74, q94, q95, (15226, (.cells 1 true [] (T.ofList 0 .leaf [(.ptr 15224 0)]))), q96, q79]⟩
theorem I14832_ok : InOk Tryz.prog I14832 := InOk.of_run (K := K_LG1a) (n := 5000) mixed K_LG1a_ok (by kernel_rfl) (by as_aux_lemma => kernel_rfl)

noncomputable def I14761 : In := ⟨52, [(.ptr 13591 0)], 15359, [q68, q108, q109, q72, q99, q73, q74, q110, q111, (15226, (.cells 1 true [] (T.ofList 0 .leaf [(.ptr 15224 0)]))), q112, q79], (.bool true), 15395, [q91, q103, q104, q72, q99, q73, q74, q105, q106, (15226, (.cells 1 true [] (T.ofList 0 .leaf [(.ptr 15224 0)]))), q107, q79]⟩
theorem I14761_ok : InOk Tryz.prog I14761 := InOk.of_run (K := K_LG1a) (n := 5000) mixed K_LG1a_ok (by kernel_rfl) (by as_aux_lemma => kernel_rfl)

noncomputable def I14690 : In := ⟨52, [(.ptr 13591 0)], 15268, [q118, q119, q120, q72, q99, q73, q74, q121, q122, (15226, (.cells 1 true [] (T.ofList 0 .leaf [(.ptr 15224 0)]))), q123, q124], (.bool true), 15308, [q91, q113, q114, q72, q99, q73, q74, q115, q116, (15226, (.cells 1 true [] (T.ofList 0 .leaf [(.ptr 15224 0)]))), q117, q79]⟩
theorem I14690_ok : InOk Tryz.prog I14690 := InOk.of_run (K := K_LG1a) (n := 5000) mixed K_LG1a_ok (by kernel_rfl) (by as_aux_lemma => kernel_rfl)

noncomputable def I14660 : In := ⟨52, [(.ptr 13591 0)], 15228, [(13587, (.cells 4 false [] (T.ofList 0 .leaf [(.so 15222 0 1 1), (.so 15223 0 1 1), (.so 15221 0 1 7), (.int .i64 9)]))), (13590, (.map [] 0)), (13591, (.cells 32 false [] (T.ofList 0 .leaf [(.ptr 6988 0), (.ptr 10246 0), (.ptr 10241 0), (.ptr 10243 0), (.ptr 10247 0), (.ptr 13587 0), (.so 15226 0 1 1), (.map 13588), (.map 13589), .nils, (.int .i64 1), (.int .i64 3), (.int .i64 6), (.int .i64 0), .nilp, (.bool true), (.int .i64 20), (.int .i64 0), (.int .i64 0), (.int .i64 0), (.int .i64 0), (.int .i64 0), (.int .u8 0), (.int .i64 0), (.str 0 0), (.str 0 0), (.bool false), (.int .i64 0), .nils, (.int .i64 0), (.int .i64 0), (.map 13590)]))), q72, q99, q73, q74, (15221, (.cells 7 true [] (T.ofList 0 .leaf [(.int .i64 0), (.int .i64 0), (.int .i64 0), (.int .i64 0), (.int .i64 1), (.int .i64 4), (.int .i64 0)]))), (15222, (.cells 1 true [] (T.ofList 0 .leaf [(.oi 82)]))), (15223, (.cells 1 true [] (T.ofList 0 .leaf [(.bool false)]))), (15224, (.cells 6 false [] (T.ofList 0 .leaf [(.int .i64 0), (.int .i64 0), (.ptr 13888 0), (.int .i64 0), (.int .i64 0), .nilp]))), (15226, (.cells 1 true [] (T.ofList 0 .leaf [(.ptr 15224 0)])))], (.bool true), 15268, [q118, q119, q120, q72, q99, q73, q74, q121, q122, (15226, (.cells 1 true [] (T.ofList 0 .leaf [(.ptr 15224 0)]))), q123, q124]⟩
theorem I14660_ok : InOk Tryz.prog I14660 := InOk.of_run (K := K_LG1a) (n := 5000) mixed K_LG1a_ok (by kernel_rfl) (by as_aux_lemma => kernel_rfl)

noncomputable def I14277 : In := ⟨287, [(.ptr 6988 0), (.ptr 13888 0), (.int .i64 0)], 14496, [q72, q73, q74], (.tup [(.so 15144 0 10 3), (.bool true)]), 15194, [q72, q73, q74]⟩
theorem I14277_ok : InOk Tryz.prog I14277 := InOk.of_run (K := K_LG1a) (n := 5000) mixed K_LG1a_ok (by kernel_rfl) (by as_aux_lemma => kernel_rfl)

noncomputable def S6149 : Sum := ⟨(.int .i64 35), 74, []⟩
theorem S6149_ok : SumOk Tryz.prog 253 [(.str 19 2439265639030268300842157990401791553877467498), (.str 7 31081494762582640), (.str 3 5646632)] S6149 := SumOk.of_run (K := K_LG1a) (n := 5000) (keep := []) mixed K_LG1a_ok (by kernel_rfl) (by as_aux_lemma => kernel_rfl)

noncomputable def S6042 : Sum := ⟨(.int .i64 34), 73, []⟩
theorem S6042_ok : SumOk Tryz.prog 253 [(.str 19 2439265639030268300842157990401791553877467498), (.str 7 31081494762582640), (.str 21 125924535314876068507128442038675530910546422025256)] S6042 := SumOk.of_run (K := K_LG1a) (n := 5000) (keep := []) mixed K_LG1a_ok (by kernel_rfl) (by as_aux_lemma => kernel_rfl)

noncomputable def S6007 : Sum := ⟨(.int .i64 33), 72, []⟩
theorem S6007_ok : SumOk Tryz.prog 253 [(.str 19 2439265639030268300842157990401791553877467498), (.str 7 31081494762582640), (.str 4 1445550632)] S6007 := SumOk.of_run (K := K_LG1a) (n := 5000) (keep := []) mixed K_LG1a_ok (by kernel_rfl) (by as_aux_lemma => kernel_rfl)

noncomputable def S5973 : Sum := ⟨(.int .i64 32), 71, []⟩
theorem S5973_ok : SumOk Tryz.prog 253 [(.str 19 2439265639030268300842157990401791553877467498), (.str 7 31081494762582640), (.str 4 1445544744)] S5973 := SumOk.of_run (K := K_LG1a) (n := 5000) (keep := []) mixed K_LG1a_ok (by kernel_rfl) (by as_aux_lemma => kernel_rfl)

noncomputable def S5940 : Sum := ⟨(.int .i64 31), 70, []⟩
theorem S5940_ok : SumOk Tryz.prog 253 [(.str 19 2439265639030268300842157990401791553877467498), (.str 7 31081494762582640), (.str 4 1445546536)] S5940 := SumOk.of_run (K := K_LG1a) (n := 5000) (keep := []) mixed K_LG1a_ok (by kernel_rfl) (by as_aux_lemma => kernel_rfl)

noncomputable def S5908 : Sum := ⟨(.int .i64 30), 69, []⟩
theorem S5908_ok : SumOk Tryz.prog 253 [(.str 19 2439265639030268300842157990401791553877467498), (.str 7 31081494762582640), (.str 4 1445546280)] S5908 := SumOk.of_run (K := K_LG1a) (n := 5000) (keep := []) mixed K_LG1a_ok (by kernel_rfl) (by as_aux_lemma => kernel_rfl)

noncomputable def S5806 : Sum := ⟨(.int .i64 29), 68, []⟩
theorem S5806_ok : SumOk Tryz.prog 253 [(.str 19 2439265639030268300842157990401791553877467498), (.str 7 31081494762582640), (.str 21 125924534186164816246133852188561726513007718714408)] S5806 := SumOk.of_run (K := K_LG1a) (n := 5000) (keep := []) mixed K_LG1a_ok (by kernel_rfl) (by as_aux_lemma => kernel_rfl)

noncomputable def S5723 : Sum := ⟨(.tup [(.so 40 0 1 4), (.agg [(.int .u8 86), (.str 0 0), (.int .i64 0), (.int .u8 0)]), (.bool true)]), 41, [q142]⟩
theorem S5723_ok : SumOk Tryz.prog 116 [(.str 21 125924535314876068507128442038675530910546422025256)] S5723 := SumOk.of_run (K := K_LG1a) (n := 5000) (keep := [40]) mixed K_LG1a_ok (by kernel_rfl) (by as_aux_lemma => kernel_rfl)

noncomputable def S5705 : Sum := ⟨(.int .i64 28), 67, []⟩
theorem S5705_ok : SumOk Tryz.prog 253 [(.str 19 2439265639030268300842157990401791553877467498), (.str 5 500068610672), (.str 21 125924535314876068507128442038675530910546422025256)] S5705 := SumOk.of_run (K := K_LG1a) (n := 5000) (keep := []) mixed K_LG1a_ok (by kernel_rfl) (by as_aux_lemma => kernel_rfl)

noncomputable def S5676 : Sum := ⟨(.int .i64 27), 66, []⟩
theorem S5676_ok : SumOk Tryz.prog 253 [(.str 19 2439265639030268300842157990401791553877467498), (.str 5 500068610672), (.str 4 1445550632)] S5676 := SumOk.of_run (K := K_LG1a) (n := 5000) (keep := []) mixed K_LG1a_ok (by kernel_rfl) (by as_aux_lemma => kernel_rfl)

noncomputable def S5648 : Sum := ⟨(.int .i64 26), 65, []⟩
theorem S5648_ok : SumOk Tryz.prog 253 [(.str 19 2439265639030268300842157990401791553877467498), (.str 5 500068610672), (.str 4 1445544744)] S5648 := SumOk.of_run (K := K_LG1a) (n := 5000) (keep := []) mixed K_LG1a_ok (by kernel_rfl) (by as_aux_lemma => kernel_rfl)

noncomputable def S5621 : Sum := ⟨(.int .i64 25), 64, []⟩
theorem S5621_ok : SumOk Tryz.prog 253 [(.str 19 2439265639030268300842157990401791553877467498), (.str 5 500068610672), (.str 4 1445546536)] S5621 := SumOk.of_run (K := K_LG1a) (n := 5000) (keep := []) mixed K_LG1a_ok (by kernel_rfl) (by as_aux_lemma => kernel_rfl)

noncomputable def S5595 : Sum := ⟨(.int .i64 24), 63, []⟩
theorem S5595_ok : SumOk Tryz.prog 253 [(.str 19 2439265639030268300842157990401791553877467498), (.str 5 500068610672), (.str 4 1445546280)] S5595 := SumOk.of_run (K := K_LG1a) (n := 5000) (keep := []) mixed K_LG1a_ok (by kernel_rfl) (by as_aux_lemma => kernel_rfl)

noncomputable def S5499 : Sum := ⟨(.int .i64 23), 62, []⟩
theorem S5499_ok : SumOk Tryz.prog 253 [(.str 19 2439265639030268300842157990401791553877467498), (.str 5 500068610672), (.str 21 125924534186164816246133852188561726513007718714408)] S5499 := SumOk.of_run (K := K_LG1a) (n := 5000) (keep := []) mixed K_LG1a_ok (by kernel_rfl) (by as_aux_lemma => kernel_rfl)

noncomputable def S5398 : Sum := ⟨(.int .i64 21), 39, []⟩
theorem S5398_ok : SumOk Tryz.prog 253 [(.str 23 10956966084090815260342509131105871416374185281426186602), (.str 8 7453010373643562868), (.str 20 339137050467292191589805048747422779071890467112)] S5398 := SumOk.of_run (K := K_LG1a) (n := 5000) (keep := []) mixed K_LG1a_ok (by kernel_rfl) (by as_aux_lemma => kernel_rfl)

noncomputable def S5370 : Sum := ⟨(.int .i64 20), 38, []⟩
theorem S5370_ok : SumOk Tryz.prog 253 [(.str 23 10956966084090815260342509131105871416374185281426186602), (.str 6 114849160783212), (.str 3 4794664)] S5370 := SumOk.of_run (K := K_LG1a) (n := 5000) (keep := []) mixed K_LG1a_ok (by kernel_rfl) (by as_aux_lemma => kernel_rfl)

noncomputable def S5271 : Sum := ⟨(.int .i64 19), 37, []⟩
theorem S5271_ok : SumOk Tryz.prog 253 [(.str 23 10956966084090815260342509131105871416374185281426186602), (.str 6 110425311047777), (.str 28 6260485019439425252614312435813236600861718953314767591699208821288)] S5271 := SumOk.of_run (K := K_LG1a) (n := 5000) (keep := []) mixed K_LG1a_ok (by kernel_rfl) (by as_aux_lemma => kernel_rfl)

noncomputable def S5173 : Sum := ⟨(.int .i64 18), 36, []⟩
theorem S5173_ok : SumOk Tryz.prog 253 [(.str 23 10956966084090815260342509131105871416374185281426186602), (.str 6 110425311047777), (.str 28 6260485019439425252614312435813236600861718953314767591699208815400)] S5173 := SumOk.of_run (K := K_LG1a) (n := 5000) (keep := []) mixed K_LG1a_ok (by kernel_rfl) (by as_aux_lemma => kernel_rfl)

noncomputable def S5076 : Sum := ⟨(.int .i64 17), 35, []⟩
theorem S5076_ok : SumOk Tryz.prog 253 [(.str 23 10956966084090815260342509131105871416374185281426186602), (.str 6 110425311047777), (.str 28 6260485019439425252614312435813236600861718953314767591699208817192)] S5076 := SumOk.of_run (K := K_LG1a) (n := 5000) (keep := []) mixed K_LG1a_ok (by kernel_rfl) (by as_aux_lemma => kernel_rfl)

noncomputable def S4980 : Sum := ⟨(.int .i64 16), 34, []⟩
theorem S4980_ok : SumOk Tryz.prog 253 [(.str 23 10956966084090815260342509131105871416374185281426186602), (.str 6 110425311047777), (.str 28 6260485019439425252614312435813236600861718953314767591699208816936)] S4980 := SumOk.of_run (K := K_LG1a) (n := 5000) (keep := []) mixed K_LG1a_ok (by kernel_rfl) (by as_aux_lemma => kernel_rfl)

noncomputable def S4916 : Sum := ⟨(.bool true), 50, []⟩
theorem S4916_ok : SumOk Tryz.prog 274 [(.str 23 10956966084090815260342509131105871416374185281426186602)] S4916 := SumOk.of_run (K := K_LG1a) (n := 5000) (keep := []) mixed K_LG1a_ok (by kernel_rfl) (by as_aux_lemma => kernel_rfl)

noncomputable def S4814 : Sum := ⟨(.int .i64 15), 33, []⟩
theorem S4814_ok : SumOk Tryz.prog 253 [(.str 23 10956966084090815260342509131105871416374185281426186602), (.str 6 110425311047777), (.str 45 545365161084908818682307871509240926086432362262523517738950247884810123871997999633158636370693479484509224)] S4814 := SumOk.of_run (K := K_LG1a) (n := 5000) (keep := []) mixed K_LG1a_ok (by kernel_rfl) (by as_aux_lemma => kernel_rfl)

noncomputable def S4796 : Sum := ⟨(.int .i64 14), 32, []⟩
theorem S4796_ok : SumOk Tryz.prog 253 [(.str 23 10956966084090815260342509131105871416374185281426186602), (.str 6 68669705972028), (.str 3 5646632)] S4796 := SumOk.of_run (K := K_LG1a) (n := 5000) (keep := []) mixed K_LG1a_ok (by kernel_rfl) (by as_aux_lemma => kernel_rfl)

noncomputable def S4689 : Sum := ⟨(.int .i64 13), 27, []⟩
theorem S4689_ok : SumOk Tryz.prog 253 [(.str 16 137483774941304901841256615957136564586), (.str 7 28797744804815222), (.str 21 86819084919626801046990092479340231442403959593512)] S4689 := SumOk.of_run (K := K_LG1a) (n := 5000) (keep := []) mixed K_LG1a_ok (by kernel_rfl) (by as_aux_lemma => kernel_rfl)

noncomputable def S4584 : Sum := ⟨(.int .i64 12), 26, []⟩
theorem S4584_ok : SumOk Tryz.prog 253 [(.str 16 137483774941304901841256615957136564586), (.str 7 28797744804815222), (.str 21 86819084919626801046990092479340231442403959587624)] S4584 := SumOk.of_run (K := K_LG1a) (n := 5000) (keep := []) mixed K_LG1a_ok (by kernel_rfl) (by as_aux_lemma => kernel_rfl)

noncomputable def S4480 : Sum := ⟨(.int .i64 11), 25, []⟩
theorem S4480_ok : SumOk Tryz.prog 253 [(.str 16 137483774941304901841256615957136564586), (.str 7 28797744804815222), (.str 21 86819084919626801046990092479340231442403959589416)] S4480 := SumOk.of_run (K := K_LG1a) (n := 5000) (keep := []) mixed K_LG1a_ok (by kernel_rfl) (by as_aux_lemma => kernel_rfl)

noncomputable def S4377 : Sum := ⟨(.int .i64 10), 24, []⟩
theorem S4377_ok : SumOk Tryz.prog 253 [(.str 16 137483774941304901841256615957136564586), (.str 7 28797744804815222), (.str 21 86819084919626801046990092479340231442403959589160)] S4377 := SumOk.of_run (K := K_LG1a) (n := 5000) (keep := []) mixed K_LG1a_ok (by kernel_rfl) (by as_aux_lemma => kernel_rfl)

noncomputable def S4280 : Sum := ⟨(.int .i64 9), 23, []⟩
theorem S4280_ok : SumOk Tryz.prog 253 [(.str 16 137483774941304901841256615957136564586), (.str 8 7453010373643562868), (.str 20 339137050467292191589805048747422779071890467112)] S4280 := SumOk.of_run (K := K_LG1a) (n := 5000) (keep := []) mixed K_LG1a_ok (by kernel_rfl) (by as_aux_lemma => kernel_rfl)

noncomputable def S4184 : Sum := ⟨(.int .i64 8), 22, []⟩
theorem S4184_ok : SumOk Tryz.prog 253 [(.str 16 137483774941304901841256615957136564586), (.str 6 121437607456361), (.str 20 339137050467292191589805048747422779071890467112)] S4184 := SumOk.of_run (K := K_LG1a) (n := 5000) (keep := []) mixed K_LG1a_ok (by kernel_rfl) (by as_aux_lemma => kernel_rfl)

noncomputable def S4084 : Sum := ⟨(.int .i64 7), 21, []⟩
theorem S4084_ok : SumOk Tryz.prog 253 [(.str 16 137483774941304901841256615957136564586), (.str 6 126909328748901), (.str 21 131770541864199680179943181369540662989170152197160)] S4084 := SumOk.of_run (K := K_LG1a) (n := 5000) (keep := []) mixed K_LG1a_ok (by kernel_rfl) (by as_aux_lemma => kernel_rfl)

noncomputable def S3914 : Sum := ⟨(.int .i64 6), 20, []⟩
theorem S3914_ok : SumOk Tryz.prog 253 [(.str 16 137483774941304901841256615957136564586), (.str 6 127961628831587), (.str 38 7563008949852303964789352941943798567979605024965410989119580465925847369046121658274434088)] S3914 := SumOk.of_run (K := K_LG1a) (n := 5000) (keep := []) mixed K_LG1a_ok (by kernel_rfl) (by as_aux_lemma => kernel_rfl)

noncomputable def S3887 : Sum := ⟨(.int .i64 5), 19, []⟩
theorem S3887_ok : SumOk Tryz.prog 253 [(.str 16 137483774941304901841256615957136564586), (.str 6 127824440682595), (.str 4 1126779176)] S3887 := SumOk.of_run (K := K_LG1a) (n := 5000) (keep := []) mixed K_LG1a_ok (by kernel_rfl) (by as_aux_lemma => kernel_rfl)

noncomputable def S3691 : Sum := ⟨(.tup [(.so 95 0 5 4), (.agg [(.int .u8 86), (.str 0 0), (.int .i64 0), (.int .u8 0)]), (.bool true)]), 96, [(95, (.cells 20 true [] (T.ofList 0 .leaf [(.int .u8 76), (.str 16 154706541852025644484233205990057992554), (.int .i64 0), (.int .u8 0), (.int .u8 73), (.str 0 0), (.int .i64 0), (.int .u8 0), (.int .u8 76), (.str 16 154706541852025644484233205990057992554), (.int .i64 0), (.int .u8 0), (.int .u8 73), (.str 0 0), (.int .i64 0), (.int .u8 0), (.int .u8 73), (.str 0 0), (.int .i64 0), (.int .u8 0)])))]⟩
theorem S3691_ok : SumOk Tryz.prog 116 [(.str 42 47114077528188198620056812491409661436452214172948092389280225155504520564545130501860034283798416424)] S3691 := SumOk.of_run (K := K_LG1a) (n := 5000) (keep := [95]) mixed K_LG1a_ok (by kernel_rfl) (by as_aux_lemma => kernel_rfl)

noncomputable def S3500 : Sum := ⟨(.int .i64 38), 144, []⟩
theorem S3500_ok : SumOk Tryz.prog 253 [(.str 19 2261816869159440624969593107871851903301607786), (.str 10 478866051492549179499879), (.str 20 339137050467292191589805048747422779071890467112)] S3500 := SumOk.of_run (K := K_LG1a) (n := 5000) (keep := []) mixed K_LG1a_ok (by kernel_rfl) (by as_aux_lemma => kernel_rfl)

noncomputable def S3417 : Sum := ⟨(.tup [(.so 40 0 1 4), (.agg [(.int .u8 86), (.str 0 0), (.int .i64 0), (.int .u8 0)]), (.bool true)]), 41, [q146]⟩
theorem S3417_ok : SumOk Tryz.prog 116 [(.str 21 125924534186164816246133852188561726513007718714408)] S3417 := SumOk.of_run (K := K_LG1a) (n := 5000) (keep := [40]) mixed K_LG1a_ok (by kernel_rfl) (by as_aux_lemma => kernel_rfl)

noncomputable def S3321 : Sum := ⟨(.int .i64 37), 143, []⟩
theorem S3321_ok : SumOk Tryz.prog 253 [(.str 19 2261816869159440624969593107871851903301607786), (.str 6 68669705972028), (.str 21 125924534186164816246133852188561726513007718714408)] S3321 := SumOk.of_run (K := K_LG1a) (n := 5000) (keep := []) mixed K_LG1a_ok (by kernel_rfl) (by as_aux_lemma => kernel_rfl)

noncomputable def S3219 : Sum := ⟨(.int .i64 36), 142, []⟩
theorem S3219_ok : SumOk Tryz.prog 253 [(.str 19 2261816869159440624969593107871851903301607786), (.str 6 68669705972028), (.str 3 5646632)] S3219 := SumOk.of_run (K := K_LG1a) (n := 5000) (keep := []) mixed K_LG1a_ok (by kernel_rfl) (by as_aux_lemma => kernel_rfl)

noncomputable def S3144 : Sum := ⟨(.tup [(.agg [(.int .u8 76), (.str 16 137483774941304901841256615957136564586), (.int .i64 0), (.int .u8 0)]), (.int .i64 18)]), 37, []⟩
theorem S3144_ok : SumOk Tryz.prog 208 [(.str 18 5174820716358828607022171764334454026365516)] S3144 := SumOk.of_run (K := K_LG1a) (n := 5000) (keep := []) mixed K_LG1a_ok (by kernel_rfl) (by as_aux_lemma => kernel_rfl)

noncomputable def S3042 : Sum := ⟨(.tup [(.so 40 0 1 4), (.agg [(.int .u8 90), (.str 0 0), (.int .i64 0), (.int .u8 0)]), (.bool true)]), 46, [q142]⟩
theorem S3042_ok : SumOk Tryz.prog 116 [(.str 21 131770541864199680179943181369540662989170152197160)] S3042 := SumOk.of_run (K := K_LG1a) (n := 5000) (keep := [40]) mixed K_LG1a_ok (by kernel_rfl) (by as_aux_lemma => kernel_rfl)

noncomputable def tab_LG1a : List (FuncId × SRows) := (208, [([(.str 18 5174820716358828607022171764334454026365516)], S3144)]) :: (274, [([(.str 23 10956966084090815260342509131105871416374185281426186602)], S4916)]) :: (116, [([(.str 21 125924535314876068507128442038675530910546422025256)], S5723), ([(.str 42 47114077528188198620056812491409661436452214172948092389280225155504520564545130501860034283798416424)], S3691), ([(.str 21 125924534186164816246133852188561726513007718714408)], S3417), ([(.str 21 131770541864199680179943181369540662989170152197160)], S3042)]) :: (253, [([(.str 19 2439265639030268300842157990401791553877467498), (.str 7 31081494762582640), (.str 3 5646632)], S6149), ([(.str 19 2439265639030268300842157990401791553877467498), (.str 7 31081494762582640), (.str 21 125924535314876068507128442038675530910546422025256)], S6042), ([(.str 19 2439265639030268300842157990401791553877467498), (.str 7 31081494762582640), (.str 4 1445550632)], S6007), ([(.str 19 2439265639030268300842157990401791553877467498), (.str 7 31081494762582640), (.str 4 1445544744)], S5973), ([(.str 19 2439265639030268300842157990401791553877467498), (.str 7 31081494762582640), (.str 4 1445546536)], S5940), ([(.str 19 2439265639030268300842157990401791553877467498), (.str 7 31081494762582640), (.str 4 1445546280)], S5908), ([(.str 19 2439265639030268300842157990401791553877467498), (.str 7 31081494762582640), (.str 21 125924534186164816246133852188561726513007718714408)], S5806), ([(.str 19 2439265639030268300842157990401791553877467498), (.str 5 500068610672), (.str 21 125924535314876068507128442038675530910546422025256)], S5705), ([(.str 19 2439265639030268300842157990401791553877467498), (.str 5 500068610672), (.str 4 1445550632)], S5676), ([(.str 19 2439265639030268300842157990401791553877467498), (.str 5 500068610672), (.str 4 1445544744)], S5648), ([(.str 19 2439265639030268300842157990401791553877467498), (.str 5 500068610672), (.str 4 1445546536)], S5621), ([(.str 19 2439265639030268300842157990401791553877467498), (.str 5 500068610672), (.str 4 1445546280)], S5595), ([(.str 19 2439265639030268300842157990401791553877467498), (.str 5 500068610672), (.str 21 125924534186164816246133852188561726513007718714408)], S5499), ([(.str 23 10956966084090815260342509131105871416374185281426186602), (.str 8 7453010373643562868), (.str 20 339137050467292191589805048747422779071890467112)], S5398), ([(.str 23 10956966084090815260342509131105871416374185281426186602), (.str 6 114849160783212), (.str 3 4794664)], S5370), ([(.str 23 10956966084090815260342509131105871416374185281426186602), (.str 6 110425311047777), (.str 28 6260485019439425252614312435813236600861718953314767591699208821288)], S5271), ([(.str 23 10956966084090815260342509131105871416374185281426186602), (.str 6 110425311047777), (.str 28 6260485019439425252614312435813236600861718953314767591699208815400)], S5173), ([(.str 23 10956966084090815260342509131105871416374185281426186602), (.str 6 110425311047777), (.str 28 6260485019439425252614312435813236600861718953314767591699208817192)], S5076), ([(.str 23 10956966084090815260342509131105871416374185281426186602), (.str 6 110425311047777), (.str 28 6260485019439425252614312435813236600861718953314767591699208816936)], S4980), ([(.str 23 10956966084090815260342509131105871416374185281426186602), (.str 6 110425311047777), (.str 45 545365161084908818682307871509240926086432362262523517738950247884810123871997999633158636370693479484509224)], S4814), ([(.str 23 10956966084090815260342509131105871416374185281426186602), (.str 6 68669705972028), (.str 3 5646632)], S4796), ([(.str 16 137483774941304901841256615957136564586), (.str 7 28797744804815222), (.str 21 86819084919626801046990092479340231442403959593512)], S4689), ([(.str 16 137483774941304901841256615957136564586), (.str 7 28797744804815222), (.str 21 86819084919626801046990092479340231442403959587624)], S4584), ([(.str 16 137483774941304901841256615957136564586), (.str 7 28797744804815222), (.str 21 86819084919626801046990092479340231442403959589416)], S4480), ([(.str 16 137483774941304901841256615957136564586), (.str 7 28797744804815222), (.str 21 86819084919626801046990092479340231442403959589160)], S4377), ([(.str 16 137483774941304901841256615957136564586), (.str 8 7453010373643562868), (.str 20 339137050467292191589805048747422779071890467112)], S4280), ([(.str 16 137483774941304901841256615957136564586), (.str 6 121437607456361), (.str 20 339137050467292191589805048747422779071890467112)], S4184), ([(.str 16 137483774941304901841256615957136564586), (.str 6 126909328748901), (.str 21 131770541864199680179943181369540662989170152197160)], S4084), ([(.str 16 137483774941304901841256615957136564586), (.str 6 127961628831587), (.str 38 7563008949852303964789352941943798567979605024965410989119580465925847369046121658274434088)], S3914), ([(.str 16 137483774941304901841256615957136564586), (.str 6 127824440682595), (.str 4 1126779176)], S3887), ([(.str 19 2261816869159440624969593107871851903301607786), (.str 10 478866051492549179499879), (.str 20 339137050467292191589805048747422779071890467112)], S3500), ([(.str 19 2261816869159440624969593107871851903301607786), (.str 6 68669705972028), (.str 21 125924534186164816246133852188561726513007718714408)], S3321), ([(.str 19 2261816869159440624969593107871851903301607786), (.str 6 68669705972028), (.str 3 5646632)], S3219)]) :: []
theorem tab_LG1a_ok : TabOk Tryz.prog tab_LG1a := (TabOk.cons (RowsOk.cons S3144_ok RowsOk.nil) (TabOk.cons (RowsOk.cons S4916_ok RowsOk.nil) (TabOk.cons (RowsOk.cons S5723_ok (RowsOk.cons S3691_ok (RowsOk.cons S3417_ok (RowsOk.cons S3042_ok RowsOk.nil)))) (TabOk.cons (RowsOk.cons S6149_ok (RowsOk.cons S6042_ok (RowsOk.cons S6007_ok (RowsOk.cons S5973_ok (RowsOk.cons S5940_ok (RowsOk.cons S5908_ok (RowsOk.cons S5806_ok (RowsOk.cons S5705_ok (RowsOk.cons S5676_ok (RowsOk.cons S5648_ok (RowsOk.cons S5621_ok (RowsOk.cons S5595_ok (RowsOk.cons S5499_ok (RowsOk.cons S5398_ok (RowsOk.cons S5370_ok (RowsOk.cons S5271_ok (RowsOk.cons S5173_ok (RowsOk.cons S5076_ok (RowsOk.cons S4980_ok (RowsOk.cons S4814_ok (RowsOk.cons S4796_ok (RowsOk.cons S4689_ok (RowsOk.cons S4584_ok (RowsOk.cons S4480_ok (RowsOk.cons S4377_ok (RowsOk.cons S4280_ok (RowsOk.cons S4184_ok (RowsOk.cons S4084_ok (RowsOk.cons S3914_ok (RowsOk.cons S3887_ok (RowsOk.cons S3500_ok (RowsOk.cons S3321_ok (RowsOk.cons S3219_ok RowsOk.nil))))))))))))))))))))))))))))))))) TabOk.nil))))
noncomputable def H_LG1a : Hand := (((Hand.at 287 ((inHand I14277).or (inHand I29285))).or (Hand.at 52 (Hand.sp 15359 (Hand.sp 15252 ((inHand I14660).or (inHand I29668)) (Hand.sp 15268 (inHand I29698) ((inHand I29769).or (inHand I14690)))) (Hand.sp 15442 ((inHand I29840).or (inHand I14761)) (Hand.sp 15607 (inHand I14832) ((inHand I14968).or (inHand I29976))))))).or (sumsHand tab_LG1a))
theorem H_LG1a_ok : HandOk Tryz.prog H_LG1a := (HandOk.or (HandOk.or (HandOk.at 287 (HandOk.or (inHand_ok I14277_ok (by kernel_rfl)) (inHand_ok I29285_ok (by kernel_rfl)))) (HandOk.at 52 (HandOk.sp 15359 (HandOk.sp 15252 (HandOk.or (inHand_ok I14660_ok (by kernel_rfl)) (inHand_ok I29668_ok (by kernel_rfl))) (HandOk.sp 15268 (inHand_ok I29698_ok (by kernel_rfl)) (HandOk.or (inHand_ok I29769_ok (by kernel_rfl)) (inHand_ok I14690_ok (by kernel_rfl))))) (HandOk.sp 15442 (HandOk.or (inHand_ok I29840_ok (by kernel_rfl)) (inHand_ok I14761_ok (by kernel_rfl))) (HandOk.sp 15607 (inHand_ok I14832_ok (by kernel_rfl)) (HandOk.or (inHand_ok I14968_ok (by kernel_rfl)) (inHand_ok I29976_ok (by kernel_rfl)))))))) (sumsHand_ok tab_LG1a_ok))
end Go.Proofs.YthgncmohimdbmaaGreatDoor.lg
