/-
  Contracts of calls, by the kernel.
-/
import Derived.Test.YtbgkinjicnnkiaaGreatDoorSNN
import Derived.Test.YtbgkinjicnnkiaaGreatDoorXN3
import Derived.Test.YtbgkinjicnnkiaaGreatDoorProg
import Derived.KernelRfl
import Derived.Test.YtbgkinjicnnkiaaGreatDoorSQ0a
import Derived.Test.YtbgkinjicnnkiaaGreatDoorSQ1a
set_option linter.unusedSectionVars false
set_option linter.unusedVariables false
set_option maxRecDepth 1000000
set_option maxHeartbeats 0
namespace Go.Proofs.YtbgkinjicnnkiaaGreatDoor.sq
open Go.X Go.RowKit
variable [Tab]
noncomputable def K_SQ2a : Hand := ((H_SQ1a).or H_SQ0a)
theorem K_SQ2a_ok : HandOk Tryz.prog K_SQ2a := (HandOk.or H_SQ1a_ok H_SQ0a_ok)

noncomputable def I25892 : In := ⟨66, [(pN 14321)], 26921, [q23, q24, q25, q26, q27, q28, q29, q30, (13691, (.cells 1 false [] (T.ofList 0 .leaf [bT]))), q31, q32, q33, q34, q35, q36, q37, q38, q5, q39, q6, q7, q40, q41, q20, q21, q42, q14, q43, q44, q45, q46], bT, 27145, [q23, q24, q25, q26, q27, q28, q0, q30, (13691, (.cells 1 false [] (T.ofList 0 .leaf [bT]))), q31, q16, q17, q18, q35, q36, q37, q38, q5, q39, q6, q7, q19, q20, q21, q22, q14, q43, q44, q45, q15]⟩
theorem I25892_ok : InOk Tryz.prog I25892 := InOk.of_run (K := K_SQ2a) (n := 5000) mixed K_SQ2a_ok (by kernel_rfl) (by as_aux_lemma => kernel_rfl)

noncomputable def I25637 : In := ⟨66, [(pN 14321)], 26652, [q23, q24, q25, q26, q27, q28, q55, q30, (13691, (.cells 1 false [] (T.ofList 0 .leaf [bT]))), q31, q56, q57, q58, q35, q51, q36, q37, q38, q59, q60, q53, q21, q61, q14, q43, q44, q45, q62], bT, 26876, [q23, q24, q25, q26, q27, q28, q29, q30, (13691, (.cells 1 false [] (T.ofList 0 .leaf [bT]))), q31, q48, q49, q50, q35, q51, q36, q37, q38, q52, q53, q21, q54, q14, q43, q44, q45, q46]⟩
theorem I25637_ok : InOk Tryz.prog I25637 := InOk.of_run (K := K_SQ2a) (n := 5000) mixed K_SQ2a_ok (by kernel_rfl) (by as_aux_lemma => kernel_rfl)

noncomputable def I25382 : In := ⟨66, [(pN 14321)], 26383, [q23, q24, q25, q26, q27, q28, q69, q30, (13691, (.cells 1 false [] (T.ofList 0 .leaf [bT]))), q31, q70, q71, q72, q35, q51, q36, q37, q38, q73, q74, q67, q21, q75, q14, q43, q44, q45, q76], bT, 26607, [q23, q24, q25, q26, q27, q28, q55, q30, (13691, (.cells 1 false [] (T.ofList 0 .leaf [bT]))), q31, q63, q64, q65, q35, q51, q36, q37, q38, q66, q67, q21, q68, q14, q43, q44, q45, q62]⟩
theorem I25382_ok : InOk Tryz.prog I25382 := InOk.of_run (K := K_SQ2a) (n := 5000) mixed K_SQ2a_ok (by kernel_rfl) (by as_aux_lemma => kernel_rfl)

noncomputable def I25127 : In := ⟨66, [(pN 14321)], 26114, [q23, q24, q25, q26, q27, q28, q83, q30, (13691, (.cells 1 false [] (T.ofList 0 .leaf [bT]))), q31, q84, q85, q86, q35, q51, q36, q37, q38, q87, q88, q81, q21, q89, q14, q43, q44, q45, q90], bT, 26338, [q23, q24, q25, q26, q27, q28, q69, q30, (13691, (.cells 1 false [] (T.ofList 0 .leaf [bT]))), q31, q77, q78, q79, q35, q51, q36, q37, q38, q80, q81, q21, q82, q14, q43, q44, q45, q76]⟩
theorem I25127_ok : InOk Tryz.prog I25127 := InOk.of_run (K := K_SQ2a) (n := 5000) mixed K_SQ2a_ok (by kernel_rfl) (by as_aux_lemma => kernel_rfl)

noncomputable def I24872 : In := ⟨66, [(pN 14321)], 25845, [q23, q24, q25, q26, q27, q28, q97, q30, (13691, (.cells 1 false [] (T.ofList 0 .leaf [bT]))), q31, q98, q99, q100, q35, q51, q36, q37, q38, q101, q102, q95, q21, q103, q14, q43, q44, q45, q104], bT, 26069, [q23, q24, q25, q26, q27, q28, q83, q30, (13691, (.cells 1 false [] (T.ofList 0 .leaf [bT]))), q31, q91, q92, q93, q35, q51, q36, q37, q38, q94, q95, q21, q96, q14, q43, q44, q45, q90]⟩
theorem I24872_ok : InOk Tryz.prog I24872 := InOk.of_run (K := K_SQ2a) (n := 5000) mixed K_SQ2a_ok (by kernel_rfl) (by as_aux_lemma => kernel_rfl)

noncomputable def I24617 : In := ⟨66, [(pN 14321)], 25576, [q23, q24, q25, q26, q27, q28, q111, q30, (13691, (.cells 1 false [] (T.ofList 0 .leaf [bT]))), q31, q112, q113, q114, q35, q51, q36, q37, q38, q115, q109, q21, q116, q117, q14, q43, q44, q45], bT, 25800, [q23, q24, q25, q26, q27, q28, q97, q30, (13691, (.cells 1 false [] (T.ofList 0 .leaf [bT]))), q31, q105, q106, q107, q35, q51, q36, q37, q38, q108, q109, q21, q110, q14, q43, q44, q45, q104]⟩
theorem I24617_ok : InOk Tryz.prog I24617 := InOk.of_run (K := K_SQ2a) (n := 5000) mixed K_SQ2a_ok (by kernel_rfl) (by as_aux_lemma => kernel_rfl)

noncomputable def I23945 : In := ⟨66, [(pN 14321)], 25031, [q23, q24, q25, q26, q135, q118, q136, q120, q137, q138, q139, q140, q35, q51, q36, q37, q38, q123, q124, q125, q141, q142, q143, q144, q21], bT, 25378, [q23, q24, q25, q26, q135, q118, q136, q120, q122, q138, q128, q129, q35, q51, q36, q37, q38, q123, q124, q125, q115, q132, q21, q133, q134, q14]⟩
theorem I23945_ok : InOk Tryz.prog I23945 := InOk.of_run (K := K_SQ2a) (n := 5000) mixed K_SQ2a_ok (by kernel_rfl) (by as_aux_lemma => kernel_rfl)

noncomputable def I23066 : In := ⟨66, [(pN 14321)], 24166, [q23, q24, q25, q26, q135, q118, q136, q120, q168, q138, q169, q170, q35, q51, q36, q37, q38, q123, q124, q125, q171, q172, q173, q174, q165], bT, 24513, [q23, q24, q25, q26, q135, q118, q136, q120, q161, q138, q162, q163, q35, q51, q36, q37, q38, q123, q124, q125, q101, q164, q165, q166, q167, q143]⟩
theorem I23066_ok : InOk Tryz.prog I23066 := InOk.of_run (K := K_SQ2a) (n := 5000) mixed K_SQ2a_ok (by kernel_rfl) (by as_aux_lemma => kernel_rfl)

noncomputable def I22187 : In := ⟨66, [(pN 14321)], 23301, [q23, q24, q25, q26, q135, q118, q136, q120, q196, q138, q197, q198, q35, q51, q36, q37, q38, q123, q124, q125, q199, q200, q201, q202, q193], bT, 23648, [q23, q24, q25, q26, q135, q118, q136, q120, q189, q138, q190, q191, q35, q51, q36, q37, q38, q123, q124, q125, q87, q192, q193, q194, q195, q173]⟩
theorem I22187_ok : InOk Tryz.prog I22187 := InOk.of_run (K := K_SQ2a) (n := 5000) mixed K_SQ2a_ok (by kernel_rfl) (by as_aux_lemma => kernel_rfl)

noncomputable def I21308 : In := ⟨66, [(pN 14321)], 22436, [q23, q24, q25, q26, q135, q118, q136, q120, q224, q138, q225, q226, q35, q51, q36, q37, q38, q123, q124, q125, q227, q221, q228, q229, q230], bT, 22783, [q23, q24, q25, q26, q135, q118, q136, q120, q217, q138, q218, q219, q35, q51, q36, q37, q38, q123, q124, q125, q220, q221, q73, q222, q223, q201]⟩
theorem I21308_ok : InOk Tryz.prog I21308 := InOk.of_run (K := K_SQ2a) (n := 5000) mixed K_SQ2a_ok (by kernel_rfl) (by as_aux_lemma => kernel_rfl)

noncomputable def I20429 : In := ⟨66, [(pN 14321)], 21573, [q23, q24, q25, q26, q135, q118, q136, q120, q249, q138, q250, q251, q35, q51, q36, q37, q38, q123, q124, q125, q252, q253, q254, q221, q255], bT, 21920, [q23, q24, q25, q26, q135, q118, q136, q120, q237, q138, q245, q246, q35, q51, q36, q37, q38, q123, q124, q125, q220, q221, q59, q247, q248, q230]⟩
theorem I20429_ok : InOk Tryz.prog I20429 := InOk.of_run (K := K_SQ2a) (n := 5000) mixed K_SQ2a_ok (by kernel_rfl) (by as_aux_lemma => kernel_rfl)

noncomputable def I19550 : In := ⟨66, [(pN 14321)], 20712, [q23, q24, q25, q26, q135, q118, q136, q120, q274, q138, q275, q276, q35, q36, q37, q38, q5, q39, q6, q7, q277, q123, q124, q125, q278, q279, q280, q221], bT, 21057, [q23, q24, q25, q26, q135, q118, q136, q120, q262, q138, q270, q271, q35, q36, q37, q38, q5, q39, q6, q7, q40, q123, q124, q125, q272, q253, q220, q221, q273]⟩
theorem I19550_ok : InOk Tryz.prog I19550 := InOk.of_run (K := K_SQ2a) (n := 5000) mixed K_SQ2a_ok (by kernel_rfl) (by as_aux_lemma => kernel_rfl)

noncomputable def I18238 : In := ⟨313, [(pN 7718), (pN 14616), z1], 19039, [q35, q51, q36, q325, q37, q38], (.tup [(.so 20064 0 11 3), bT]), 20116, [q35, q51, q36, q325, q37, q38]⟩
theorem I18238_ok : InOk Tryz.prog I18238 := InOk.of_run (K := K_SQ2a) (n := 5000) mixed K_SQ2a_ok (by kernel_rfl) (by as_aux_lemma => kernel_rfl)

noncomputable def I17414 : In := ⟨313, [(pN 7718), (pN 16430), z0], 17797, [q5, q39, q6, q7], (.tup [(.so 18628 0 9 3), bT]), 18678, [q5, q39, q6, q7]⟩
theorem I17414_ok : InOk Tryz.prog I17414 := InOk.of_run (K := K_SQ2a) (n := 5000) mixed K_SQ2a_ok (by kernel_rfl) (by as_aux_lemma => kernel_rfl)

noncomputable def I15869 : In := ⟨147, [(pN 16429)], 16432, [q327, q328], (.tup [(.sl 16432 0 30 30), bT]), 17343, [q327, (16429, (.cells 3 false [] (T.ofList 0 .leaf [(.so 16428 0 290 1), (iN 231), bF]))), q39]⟩
theorem I15869_ok : InOk Tryz.prog I15869 := InOk.of_run (K := K_SQ2a) (n := 5000) mixed K_SQ2a_ok (by kernel_rfl) (by as_aux_lemma => kernel_rfl)

noncomputable def S15420 : Sum := ⟨z0, 42, []⟩
theorem S15420_ok : SumOk Tryz.prog 234 [tx10] S15420 := SumOk.of_run (K := K_SQ2a) (n := 5000) (keep := []) mixed K_SQ2a_ok (by kernel_rfl) (by as_aux_lemma => kernel_rfl)

noncomputable def I13959 : In := ⟨147, [(pN 14615)], 14618, [q330, (14615, (.cells 3 false [] (T.ofList 0 .leaf [(.so 14614 0 392 1), z0, bF])))], (.tup [(.sl 14618 0 31 31), bT]), 15598, [q330, (14615, (.cells 3 false [] (T.ofList 0 .leaf [(.so 14614 0 392 1), (iN 270), bF]))), q51]⟩
theorem I13959_ok : InOk Tryz.prog I13959 := InOk.of_run (K := K_SQ2a) (n := 5000) mixed K_SQ2a_ok (by kernel_rfl) (by as_aux_lemma => kernel_rfl)

noncomputable def S4909 : Sum := ⟨(.tup [(.agg [(uN 76), tx2, z0, (uN 0)]), (iN 25)]), 52, []⟩
theorem S4909_ok : SumOk Tryz.prog 221 [tx82] S4909 := SumOk.of_run (K := K_SQ2a) (n := 5000) (keep := []) mixed K_SQ2a_ok (by kernel_rfl) (by as_aux_lemma => kernel_rfl)

noncomputable def S4708 : Sum := ⟨(.tup [(.so 5 0 1 4), (.agg [(uN 76), tx5, z0, (uN 0)]), bT]), 46, [q411]⟩
theorem S4708_ok : SumOk Tryz.prog 160 [tx60] S4708 := SumOk.of_run (K := K_SQ2a) (n := 5000) (keep := [5]) mixed K_SQ2a_ok (by kernel_rfl) (by as_aux_lemma => kernel_rfl)

noncomputable def S4602 : Sum := ⟨(.tup [(.so 5 0 1 4), (.agg [(uN 76), tx5, z0, (uN 0)]), bT]), 46, [q412]⟩
theorem S4602_ok : SumOk Tryz.prog 160 [tx59] S4602 := SumOk.of_run (K := K_SQ2a) (n := 5000) (keep := [5]) mixed K_SQ2a_ok (by kernel_rfl) (by as_aux_lemma => kernel_rfl)

noncomputable def S4497 : Sum := ⟨(.tup [(.so 5 0 1 4), (.agg [(uN 76), tx5, z0, (uN 0)]), bT]), 46, [q413]⟩
theorem S4497_ok : SumOk Tryz.prog 160 [tx58] S4497 := SumOk.of_run (K := K_SQ2a) (n := 5000) (keep := [5]) mixed K_SQ2a_ok (by kernel_rfl) (by as_aux_lemma => kernel_rfl)

noncomputable def S4393 : Sum := ⟨(.tup [(.so 5 0 1 4), (.agg [(uN 76), tx5, z0, (uN 0)]), bT]), 46, [q326]⟩
theorem S4393_ok : SumOk Tryz.prog 160 [tx57] S4393 := SumOk.of_run (K := K_SQ2a) (n := 5000) (keep := [5]) mixed K_SQ2a_ok (by kernel_rfl) (by as_aux_lemma => kernel_rfl)

noncomputable def S3926 : Sum := ⟨(.tup [(.so 40 0 1 4), (.agg [(uN 76), tx5, z0, (uN 0)]), bT]), 81, [q414]⟩
theorem S3926_ok : SumOk Tryz.prog 160 [tx48] S3926 := SumOk.of_run (K := K_SQ2a) (n := 5000) (keep := [40]) mixed K_SQ2a_ok (by kernel_rfl) (by as_aux_lemma => kernel_rfl)

noncomputable def tab_SQ2a : List (FuncId × SRows) := (160, [([tx60], S4708), ([tx59], S4602), ([tx58], S4497), ([tx57], S4393), ([tx48], S3926)]) :: (221, [([tx82], S4909)]) :: (234, [([tx10], S15420)]) :: []
theorem tab_SQ2a_ok : TabOk Tryz.prog tab_SQ2a := (TabOk.cons (RowsOk.cons S4708_ok (RowsOk.cons S4602_ok (RowsOk.cons S4497_ok (RowsOk.cons S4393_ok (RowsOk.cons S3926_ok RowsOk.nil))))) (TabOk.cons (RowsOk.cons S4909_ok RowsOk.nil) (TabOk.cons (RowsOk.cons S15420_ok RowsOk.nil) TabOk.nil)))
noncomputable def H_SQ2a : Hand := (((Hand.at 147 ((inHand I13959).or (inHand I15869))).or ((Hand.at 313 ((inHand I17414).or (inHand I18238))).or (Hand.at 66 (Hand.sp 25576 (Hand.sp 23301 (Hand.sp 21573 (inHand I19550) ((inHand I21308).or (inHand I20429))) (Hand.sp 24166 (inHand I22187) ((inHand I23945).or (inHand I23066)))) (Hand.sp 26383 (Hand.sp 25845 (inHand I24617) ((inHand I25127).or (inHand I24872))) (Hand.sp 26652 (inHand I25382) ((inHand I25892).or (inHand I25637)))))))).or (sumsHand tab_SQ2a))
theorem H_SQ2a_ok : HandOk Tryz.prog H_SQ2a := (HandOk.or (HandOk.or (HandOk.at 147 (HandOk.or (inHand_ok I13959_ok (by kernel_rfl)) (inHand_ok I15869_ok (by kernel_rfl)))) (HandOk.or (HandOk.at 313 (HandOk.or (inHand_ok I17414_ok (by kernel_rfl)) (inHand_ok I18238_ok (by kernel_rfl)))) (HandOk.at 66 (HandOk.sp 25576 (HandOk.sp 23301 (HandOk.sp 21573 (inHand_ok I19550_ok (by kernel_rfl)) (HandOk.or (inHand_ok I21308_ok (by kernel_rfl)) (inHand_ok I20429_ok (by kernel_rfl)))) (HandOk.sp 24166 (inHand_ok I22187_ok (by kernel_rfl)) (HandOk.or (inHand_ok I23945_ok (by kernel_rfl)) (inHand_ok I23066_ok (by kernel_rfl))))) (HandOk.sp 26383 (HandOk.sp 25845 (inHand_ok I24617_ok (by kernel_rfl)) (HandOk.or (inHand_ok I25127_ok (by kernel_rfl)) (inHand_ok I24872_ok (by kernel_rfl)))) (HandOk.sp 26652 (inHand_ok I25382_ok (by kernel_rfl)) (HandOk.or (inHand_ok I25892_ok (by kernel_rfl)) (inHand_ok I25637_ok (by kernel_rfl))))))))) (sumsHand_ok tab_SQ2a_ok))
end Go.Proofs.YtbgkinjicnnkiaaGreatDoor.sq
