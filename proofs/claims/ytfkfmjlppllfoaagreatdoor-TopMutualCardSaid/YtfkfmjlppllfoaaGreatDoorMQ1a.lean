/-
  Contracts of calls, by the kernel.
-/
import Derived.Test.YtfkfmjlppllfoaaGreatDoorMNN
import Derived.Test.YtfkfmjlppllfoaaGreatDoorXN3
import Derived.Test.YtfkfmjlppllfoaaGreatDoorProg
import Derived.KernelRfl
import Derived.Test.YtfkfmjlppllfoaaGreatDoorMQ0a
set_option linter.unusedSectionVars false
set_option linter.unusedVariables false
set_option maxRecDepth 1000000
set_option maxHeartbeats 0
namespace Go.Proofs.YtfkfmjlppllfoaaGreatDoor.mq
open Go.X Go.RowKit
variable [Tab]
noncomputable def K_MQ1a : Hand := H_MQ0a
theorem K_MQ1a_ok : HandOk Tryz.prog K_MQ1a := H_MQ0a_ok

noncomputable def I16456 : In := ⟨56, [(pN 13773)], 17623, [q0, q1, q2, q3, q4, q5, q6, q7, q8, q9, (16583, (.cells 2 false [] (T.ofList 0 .leaf [z2, .nils]))), q10, q11, q12, q13, q14], bF, 17677, [q0, q2, (13773, (.cells 32 false [] (T.ofList 0 .leaf [(pN 7170), (pN 10428), (pN 10423), (pN 10425), (pN 10429), (pN 13769), .nils, (.map 13770), (.map 13771), .nils, z1, (iN 3), (iN 6), z0, .nilp, bF, (iN 5000), (iN 11), z0, z1, z0, z1, (uN 73), z1, tx6, tx6, bF, (iN 11), .nils, z0, z1, (.map 13772)]))), q5, q6, q7, q8, q9, (16583, (.cells 2 false [] (T.ofList 0 .leaf [z2, .nils]))), q10, q11, q14]⟩
theorem I16456_ok : InOk Tryz.prog I16456 := InOk.of_run (K := K_MQ1a) (n := 5000) mixed K_MQ1a_ok (by kernel_rfl) (by as_aux_lemma => kernel_rfl)

noncomputable def I16404 : In := ⟨56, [(pN 13773)], 17545, [q15, q16, q17, q5, q18, q19, q6, q8, q20, q11, q21, q22, q23, q14], bT, 17623, [q1, q3, q4, q5, q18, q19, q6, q8, q10, q11, q12, q13, q14]⟩
theorem I16404_ok : InOk Tryz.prog I16404 := InOk.of_run (K := K_MQ1a) (n := 5000) mixed K_MQ1a_ok (by kernel_rfl) (by as_aux_lemma => kernel_rfl)

noncomputable def I16384 : In := ⟨56, [(pN 13773)], 17513, [q24, q25, q26, q5, q18, q19, q8, q27, q11, q28, q29, q14], bT, 17545, [q15, q16, q17, q5, q18, q19, q8, q20, q11, q21, q23, q14]⟩
theorem I16384_ok : InOk Tryz.prog I16384 := InOk.of_run (K := K_MQ1a) (n := 5000) mixed K_MQ1a_ok (by kernel_rfl) (by as_aux_lemma => kernel_rfl)

noncomputable def I16352 : In := ⟨56, [(pN 13773)], 17451, [q15, q30, q31, q5, q18, q19, q8, q27, q11, q32, q33, q14], bT, 17513, [q24, q25, q26, q5, q18, q19, q8, q27, q11, q28, q29, q14]⟩
theorem I16352_ok : InOk Tryz.prog I16352 := InOk.of_run (K := K_MQ1a) (n := 5000) mixed K_MQ1a_ok (by kernel_rfl) (by as_aux_lemma => kernel_rfl)

noncomputable def I16231 : In := ⟨56, [(pN 13773)], 17335, [(7168, (.map [(tx17, (pN 14062), 0)] 1)), q38, q39, q40, q1, q2, (13771, (.map [(tx17, z0, 0)] 1)), q41, q42, q5, q43, q18, q19, q6, q7, q8, q9, q20, q11, q44, q45, (17161, (.cells 1 true [] (T.ofList 0 .leaf [(pN 17159)])))], bT, 17424, [(7168, (.map [(tx17, (pN 14062), 0)] 1)), q38, q39, q40, q24, q2, (13771, (.map [(tx17, z0, 0)] 1)), q34, q35, q5, q43, q18, q19, q6, q7, q8, q9, q20, q11, q36, q22, q37, q14]⟩
theorem I16231_ok : InOk Tryz.prog I16231 := InOk.of_run (K := K_MQ1a) (n := 5000) mixed K_MQ1a_ok (by kernel_rfl) (by as_aux_lemma => kernel_rfl)

noncomputable def I16199 : In := ⟨56, [(pN 13773)], 17288, [q46, q47, q48, q5, q6, q7, q8, q10, q11, q49, q50, (17161, (.cells 1 true [] (T.ofList 0 .leaf [(pN 17159)])))], bT, 17335, [q1, q41, q42, q5, q6, q7, q8, q20, q11, q44, q45, (17161, (.cells 1 true [] (T.ofList 0 .leaf [(pN 17159)])))]⟩
theorem I16199_ok : InOk Tryz.prog I16199 := InOk.of_run (K := K_MQ1a) (n := 5000) mixed K_MQ1a_ok (by kernel_rfl) (by as_aux_lemma => kernel_rfl)

noncomputable def I16179 : In := ⟨56, [(pN 13773)], 17256, [q1, q51, q52, q5, q6, q7, q8, q53, q11, q54, q55, (17161, (.cells 1 true [] (T.ofList 0 .leaf [(pN 17159)])))], bT, 17288, [q46, q47, q48, q5, q6, q7, q8, q10, q11, q49, q50, (17161, (.cells 1 true [] (T.ofList 0 .leaf [(pN 17159)])))]⟩
theorem I16179_ok : InOk Tryz.prog I16179 := InOk.of_run (K := K_MQ1a) (n := 5000) mixed K_MQ1a_ok (by kernel_rfl) (by as_aux_lemma => kernel_rfl)

noncomputable def I16131 : In := ⟨56, [(pN 13773)], 17190, [q1, q61, q62, q5, q6, q7, q8, q53, q11, q63, q64, (17161, (.cells 1 true [] (T.ofList 0 .leaf [(pN 17159)])))], bT, 17229, [q56, q57, q58, q5, q6, q7, q8, q53, q11, q59, q60, (17161, (.cells 1 true [] (T.ofList 0 .leaf [(pN 17159)])))]⟩
theorem I16131_ok : InOk Tryz.prog I16131 := InOk.of_run (K := K_MQ1a) (n := 5000) mixed K_MQ1a_ok (by kernel_rfl) (by as_aux_lemma => kernel_rfl)

noncomputable def I16006 : In := ⟨56, [(pN 13773)], 17063, [q0, q1, q2, q66, q67, q5, q18, q19, q8, q9, (16583, (.cells 2 false [] (T.ofList 0 .leaf [z2, .nils]))), q68, q27, q11, q69, q70], bF, 17117, [q0, (13769, (.cells 4 false [] (T.ofList 0 .leaf [(.so 16717 0 0 1), (.so 16718 0 0 1), (.so 16859 0 0 7), z0]))), q2, q65, (13773, (.cells 32 false [] (T.ofList 0 .leaf [(pN 7170), (pN 10428), (pN 10423), (pN 10425), (pN 10429), (pN 13769), .nils, (.map 13770), (.map 13771), .nils, z1, (iN 3), (iN 6), z0, .nilp, bF, (iN 5000), (iN 11), z0, z1, z0, z1, (uN 73), z0, tx6, tx6, bF, (iN 11), .nils, z0, z1, (.map 13772)]))), q5, q18, q19, q8, q9, (16583, (.cells 2 false [] (T.ofList 0 .leaf [z2, .nils]))), q27, q11, (16859, (.cells 14 true [] (T.ofList 0 .leaf [z0, z0, (iN 12), z0, z1, z2, z0, z0, z1, (iN 5), z1, z1, z2, z0]))), q70]⟩
theorem I16006_ok : InOk Tryz.prog I16006 := InOk.of_run (K := K_MQ1a) (n := 5000) mixed K_MQ1a_ok (by kernel_rfl) (by as_aux_lemma => kernel_rfl)

noncomputable def I15954 : In := ⟨56, [(pN 13773)], 16985, [q15, q71, q72, q5, q18, q6, q7, q8, q73, q27, q11, q74, q75, q70], bT, 17063, [q1, q66, q67, q5, q18, q6, q7, q8, q68, q27, q11, q69, q70]⟩
theorem I15954_ok : InOk Tryz.prog I15954 := InOk.of_run (K := K_MQ1a) (n := 5000) mixed K_MQ1a_ok (by kernel_rfl) (by as_aux_lemma => kernel_rfl)

noncomputable def I15934 : In := ⟨56, [(pN 13773)], 16953, [q24, q76, q77, q5, q6, q7, q8, q27, q11, q78, q79, q70], bT, 16985, [q15, q71, q72, q5, q6, q7, q8, q27, q11, q74, q75, q70]⟩
theorem I15934_ok : InOk Tryz.prog I15934 := InOk.of_run (K := K_MQ1a) (n := 5000) mixed K_MQ1a_ok (by kernel_rfl) (by as_aux_lemma => kernel_rfl)

noncomputable def I15902 : In := ⟨56, [(pN 13773)], 16891, [q15, q80, q81, q5, q6, q7, q8, q27, q11, q82, q83, q70], bT, 16953, [q24, q76, q77, q5, q6, q7, q8, q27, q11, q78, q79, q70]⟩
theorem I15902_ok : InOk Tryz.prog I15902 := InOk.of_run (K := K_MQ1a) (n := 5000) mixed K_MQ1a_ok (by kernel_rfl) (by as_aux_lemma => kernel_rfl)

noncomputable def I15780 : In := ⟨56, [(pN 13773)], 16773, [(7168, (.map [(tx17, (pN 14062), 0)] 1)), q38, q39, q40, q88, q2, (13771, (.map [(tx17, z0, 0)] 1)), q89, q90, q5, q43, q18, q19, q6, q7, q8, q9, q91, q92, (16595, (.cells 1 true [] (T.ofList 0 .leaf [(pN 16593)]))), q20, q11], bT, 16864, [(7168, (.map [(tx17, (pN 14062), 0)] 1)), q38, q39, q40, q24, q2, (13771, (.map [(tx17, z0, 0)] 1)), q84, q85, q5, q43, q18, q19, q6, q7, q8, q9, q73, q20, q11, q86, q87, q70]⟩
theorem I15780_ok : InOk Tryz.prog I15780 := InOk.of_run (K := K_MQ1a) (n := 5000) mixed K_MQ1a_ok (by kernel_rfl) (by as_aux_lemma => kernel_rfl)

noncomputable def I15748 : In := ⟨56, [(pN 13773)], 16726, [q93, q94, q95, q5, q18, q19, q8, q96, q97, (16595, (.cells 1 true [] (T.ofList 0 .leaf [(pN 16593)]))), q10, q11], bT, 16773, [q88, q89, q90, q5, q18, q19, q8, q91, q92, (16595, (.cells 1 true [] (T.ofList 0 .leaf [(pN 16593)]))), q20, q11]⟩
theorem I15748_ok : InOk Tryz.prog I15748 := InOk.of_run (K := K_MQ1a) (n := 5000) mixed K_MQ1a_ok (by kernel_rfl) (by as_aux_lemma => kernel_rfl)

noncomputable def I15728 : In := ⟨56, [(pN 13773)], 16692, [q98, q99, q100, q5, q18, q19, q8, q101, q102, (16595, (.cells 1 true [] (T.ofList 0 .leaf [(pN 16593)]))), q103, q104], bT, 16726, [q93, q94, q95, q5, q18, q19, q8, q96, q97, (16595, (.cells 1 true [] (T.ofList 0 .leaf [(pN 16593)]))), q10, q11]⟩
theorem I15728_ok : InOk Tryz.prog I15728 := InOk.of_run (K := K_MQ1a) (n := 5000) mixed K_MQ1a_ok (by kernel_rfl) (by as_aux_lemma => kernel_rfl)

noncomputable def I15680 : In := ⟨56, [(pN 13773)], 16626, [q98, q110, q111, q5, q18, q19, q8, q112, q113, (16595, (.cells 1 true [] (T.ofList 0 .leaf [(pN 16593)]))), q103, q104], bT, 16665, [q105, q106, q107, q5, q18, q19, q8, q108, q109, (16595, (.cells 1 true [] (T.ofList 0 .leaf [(pN 16593)]))), q103, q104]⟩
theorem I15680_ok : InOk Tryz.prog I15680 := InOk.of_run (K := K_MQ1a) (n := 5000) mixed K_MQ1a_ok (by kernel_rfl) (by as_aux_lemma => kernel_rfl)

noncomputable def I14918 : In := ⟨119, [(pN 10428), (pN 14062)], 15210, [(7168, (.map [(tx17, (pN 14062), 0)] 1)), q38, q39, q40, (10427, (.map [(tx17, z1, 0)] 1)), q114, q5, q43, q18, q115, q19, q6, q116, q7, q8], z0, 16562, [(7168, (.map [(tx17, (pN 14062), 0)] 1)), q38, q39, q40, (10427, (.map [(tx17, z1, 0)] 1)), q114, q5, q43, q18, q115, q19, q6, q116, q7, q8]⟩
theorem I14918_ok : InOk Tryz.prog I14918 := InOk.of_run (K := K_MQ1a) (n := 5000) mixed K_MQ1a_ok (by kernel_rfl) (by as_aux_lemma => kernel_rfl)

noncomputable def S13981 : Sum := ⟨bT, 9, []⟩
theorem S13981_ok : SumOk Tryz.prog 199 [tx57] S13981 := SumOk.of_run (K := K_MQ1a) (n := 5000) (keep := []) mixed K_MQ1a_ok (by kernel_rfl) (by as_aux_lemma => kernel_rfl)

noncomputable def S6149 : Sum := ⟨(iN 35), 74, []⟩
theorem S6149_ok : SumOk Tryz.prog 257 [tx3, tx40, tx42] S6149 := SumOk.of_run (K := K_MQ1a) (n := 5000) (keep := []) mixed K_MQ1a_ok (by kernel_rfl) (by as_aux_lemma => kernel_rfl)

noncomputable def S6042 : Sum := ⟨(iN 34), 73, []⟩
theorem S6042_ok : SumOk Tryz.prog 257 [tx3, tx40, tx43] S6042 := SumOk.of_run (K := K_MQ1a) (n := 5000) (keep := []) mixed K_MQ1a_ok (by kernel_rfl) (by as_aux_lemma => kernel_rfl)

noncomputable def S6007 : Sum := ⟨(iN 33), 72, []⟩
theorem S6007_ok : SumOk Tryz.prog 257 [tx3, tx40, tx65] S6007 := SumOk.of_run (K := K_MQ1a) (n := 5000) (keep := []) mixed K_MQ1a_ok (by kernel_rfl) (by as_aux_lemma => kernel_rfl)

noncomputable def S5973 : Sum := ⟨(iN 32), 71, []⟩
theorem S5973_ok : SumOk Tryz.prog 257 [tx3, tx40, tx66] S5973 := SumOk.of_run (K := K_MQ1a) (n := 5000) (keep := []) mixed K_MQ1a_ok (by kernel_rfl) (by as_aux_lemma => kernel_rfl)

noncomputable def S5940 : Sum := ⟨(iN 31), 70, []⟩
theorem S5940_ok : SumOk Tryz.prog 257 [tx3, tx40, tx67] S5940 := SumOk.of_run (K := K_MQ1a) (n := 5000) (keep := []) mixed K_MQ1a_ok (by kernel_rfl) (by as_aux_lemma => kernel_rfl)

noncomputable def S5908 : Sum := ⟨(iN 30), 69, []⟩
theorem S5908_ok : SumOk Tryz.prog 257 [tx3, tx40, tx68] S5908 := SumOk.of_run (K := K_MQ1a) (n := 5000) (keep := []) mixed K_MQ1a_ok (by kernel_rfl) (by as_aux_lemma => kernel_rfl)

noncomputable def S5806 : Sum := ⟨(iN 29), 68, []⟩
theorem S5806_ok : SumOk Tryz.prog 257 [tx3, tx40, tx4] S5806 := SumOk.of_run (K := K_MQ1a) (n := 5000) (keep := []) mixed K_MQ1a_ok (by kernel_rfl) (by as_aux_lemma => kernel_rfl)

noncomputable def S5723 : Sum := ⟨(.tup [(.so 40 0 1 4), (.agg [(uN 86), tx6, z0, (uN 0)]), bT]), 41, [q132]⟩
theorem S5723_ok : SumOk Tryz.prog 120 [tx43] S5723 := SumOk.of_run (K := K_MQ1a) (n := 5000) (keep := [40]) mixed K_MQ1a_ok (by kernel_rfl) (by as_aux_lemma => kernel_rfl)

noncomputable def S5705 : Sum := ⟨(iN 28), 67, []⟩
theorem S5705_ok : SumOk Tryz.prog 257 [tx3, tx48, tx43] S5705 := SumOk.of_run (K := K_MQ1a) (n := 5000) (keep := []) mixed K_MQ1a_ok (by kernel_rfl) (by as_aux_lemma => kernel_rfl)

noncomputable def S5676 : Sum := ⟨(iN 27), 66, []⟩
theorem S5676_ok : SumOk Tryz.prog 257 [tx3, tx48, tx65] S5676 := SumOk.of_run (K := K_MQ1a) (n := 5000) (keep := []) mixed K_MQ1a_ok (by kernel_rfl) (by as_aux_lemma => kernel_rfl)

noncomputable def S5648 : Sum := ⟨(iN 26), 65, []⟩
theorem S5648_ok : SumOk Tryz.prog 257 [tx3, tx48, tx66] S5648 := SumOk.of_run (K := K_MQ1a) (n := 5000) (keep := []) mixed K_MQ1a_ok (by kernel_rfl) (by as_aux_lemma => kernel_rfl)

noncomputable def S5621 : Sum := ⟨(iN 25), 64, []⟩
theorem S5621_ok : SumOk Tryz.prog 257 [tx3, tx48, tx67] S5621 := SumOk.of_run (K := K_MQ1a) (n := 5000) (keep := []) mixed K_MQ1a_ok (by kernel_rfl) (by as_aux_lemma => kernel_rfl)

noncomputable def S5595 : Sum := ⟨(iN 24), 63, []⟩
theorem S5595_ok : SumOk Tryz.prog 257 [tx3, tx48, tx68] S5595 := SumOk.of_run (K := K_MQ1a) (n := 5000) (keep := []) mixed K_MQ1a_ok (by kernel_rfl) (by as_aux_lemma => kernel_rfl)

noncomputable def S5499 : Sum := ⟨(iN 23), 62, []⟩
theorem S5499_ok : SumOk Tryz.prog 257 [tx3, tx48, tx4] S5499 := SumOk.of_run (K := K_MQ1a) (n := 5000) (keep := []) mixed K_MQ1a_ok (by kernel_rfl) (by as_aux_lemma => kernel_rfl)

noncomputable def S5398 : Sum := ⟨(iN 21), 39, []⟩
theorem S5398_ok : SumOk Tryz.prog 257 [tx1, tx62, tx35] S5398 := SumOk.of_run (K := K_MQ1a) (n := 5000) (keep := []) mixed K_MQ1a_ok (by kernel_rfl) (by as_aux_lemma => kernel_rfl)

noncomputable def S5370 : Sum := ⟨(iN 20), 38, []⟩
theorem S5370_ok : SumOk Tryz.prog 257 [tx1, tx70, tx72] S5370 := SumOk.of_run (K := K_MQ1a) (n := 5000) (keep := []) mixed K_MQ1a_ok (by kernel_rfl) (by as_aux_lemma => kernel_rfl)

noncomputable def S5271 : Sum := ⟨(iN 19), 37, []⟩
theorem S5271_ok : SumOk Tryz.prog 257 [tx1, tx49, tx54] S5271 := SumOk.of_run (K := K_MQ1a) (n := 5000) (keep := []) mixed K_MQ1a_ok (by kernel_rfl) (by as_aux_lemma => kernel_rfl)

noncomputable def S5173 : Sum := ⟨(iN 18), 36, []⟩
theorem S5173_ok : SumOk Tryz.prog 257 [tx1, tx49, tx53] S5173 := SumOk.of_run (K := K_MQ1a) (n := 5000) (keep := []) mixed K_MQ1a_ok (by kernel_rfl) (by as_aux_lemma => kernel_rfl)

noncomputable def S5076 : Sum := ⟨(iN 17), 35, []⟩
theorem S5076_ok : SumOk Tryz.prog 257 [tx1, tx49, tx52] S5076 := SumOk.of_run (K := K_MQ1a) (n := 5000) (keep := []) mixed K_MQ1a_ok (by kernel_rfl) (by as_aux_lemma => kernel_rfl)

noncomputable def S4980 : Sum := ⟨(iN 16), 34, []⟩
theorem S4980_ok : SumOk Tryz.prog 257 [tx1, tx49, tx51] S4980 := SumOk.of_run (K := K_MQ1a) (n := 5000) (keep := []) mixed K_MQ1a_ok (by kernel_rfl) (by as_aux_lemma => kernel_rfl)

noncomputable def S4916 : Sum := ⟨bT, 50, []⟩
theorem S4916_ok : SumOk Tryz.prog 278 [tx1] S4916 := SumOk.of_run (K := K_MQ1a) (n := 5000) (keep := []) mixed K_MQ1a_ok (by kernel_rfl) (by as_aux_lemma => kernel_rfl)

noncomputable def S4814 : Sum := ⟨(iN 15), 33, []⟩
theorem S4814_ok : SumOk Tryz.prog 257 [tx1, tx49, tx41] S4814 := SumOk.of_run (K := K_MQ1a) (n := 5000) (keep := []) mixed K_MQ1a_ok (by kernel_rfl) (by as_aux_lemma => kernel_rfl)

noncomputable def S4796 : Sum := ⟨(iN 14), 32, []⟩
theorem S4796_ok : SumOk Tryz.prog 257 [tx1, tx18, tx42] S4796 := SumOk.of_run (K := K_MQ1a) (n := 5000) (keep := []) mixed K_MQ1a_ok (by kernel_rfl) (by as_aux_lemma => kernel_rfl)

noncomputable def S4689 : Sum := ⟨(iN 13), 27, []⟩
theorem S4689_ok : SumOk Tryz.prog 257 [tx7, tx55, tx61] S4689 := SumOk.of_run (K := K_MQ1a) (n := 5000) (keep := []) mixed K_MQ1a_ok (by kernel_rfl) (by as_aux_lemma => kernel_rfl)

noncomputable def S4584 : Sum := ⟨(iN 12), 26, []⟩
theorem S4584_ok : SumOk Tryz.prog 257 [tx7, tx55, tx60] S4584 := SumOk.of_run (K := K_MQ1a) (n := 5000) (keep := []) mixed K_MQ1a_ok (by kernel_rfl) (by as_aux_lemma => kernel_rfl)

noncomputable def S4480 : Sum := ⟨(iN 11), 25, []⟩
theorem S4480_ok : SumOk Tryz.prog 257 [tx7, tx55, tx59] S4480 := SumOk.of_run (K := K_MQ1a) (n := 5000) (keep := []) mixed K_MQ1a_ok (by kernel_rfl) (by as_aux_lemma => kernel_rfl)

noncomputable def S4377 : Sum := ⟨(iN 10), 24, []⟩
theorem S4377_ok : SumOk Tryz.prog 257 [tx7, tx55, tx58] S4377 := SumOk.of_run (K := K_MQ1a) (n := 5000) (keep := []) mixed K_MQ1a_ok (by kernel_rfl) (by as_aux_lemma => kernel_rfl)

noncomputable def S4280 : Sum := ⟨(iN 9), 23, []⟩
theorem S4280_ok : SumOk Tryz.prog 257 [tx7, tx62, tx35] S4280 := SumOk.of_run (K := K_MQ1a) (n := 5000) (keep := []) mixed K_MQ1a_ok (by kernel_rfl) (by as_aux_lemma => kernel_rfl)

noncomputable def S4184 : Sum := ⟨(iN 8), 22, []⟩
theorem S4184_ok : SumOk Tryz.prog 257 [tx7, tx80, tx35] S4184 := SumOk.of_run (K := K_MQ1a) (n := 5000) (keep := []) mixed K_MQ1a_ok (by kernel_rfl) (by as_aux_lemma => kernel_rfl)

noncomputable def S4084 : Sum := ⟨(iN 7), 21, []⟩
theorem S4084_ok : SumOk Tryz.prog 257 [tx7, tx69, tx47] S4084 := SumOk.of_run (K := K_MQ1a) (n := 5000) (keep := []) mixed K_MQ1a_ok (by kernel_rfl) (by as_aux_lemma => kernel_rfl)

noncomputable def S3914 : Sum := ⟨(iN 6), 20, []⟩
theorem S3914_ok : SumOk Tryz.prog 257 [tx7, tx79, tx45] S3914 := SumOk.of_run (K := K_MQ1a) (n := 5000) (keep := []) mixed K_MQ1a_ok (by kernel_rfl) (by as_aux_lemma => kernel_rfl)

noncomputable def S3887 : Sum := ⟨(iN 5), 19, []⟩
theorem S3887_ok : SumOk Tryz.prog 257 [tx7, tx78, tx75] S3887 := SumOk.of_run (K := K_MQ1a) (n := 5000) (keep := []) mixed K_MQ1a_ok (by kernel_rfl) (by as_aux_lemma => kernel_rfl)

noncomputable def S3691 : Sum := ⟨(.tup [(.so 95 0 5 4), (.agg [(uN 86), tx6, z0, (uN 0)]), bT]), 96, [(95, (.cells 20 true [] (T.ofList 0 .leaf [(uN 76), tx0, z0, (uN 0), (uN 73), tx6, z0, (uN 0), (uN 76), tx0, z0, (uN 0), (uN 73), tx6, z0, (uN 0), (uN 73), tx6, z0, (uN 0)])))]⟩
theorem S3691_ok : SumOk Tryz.prog 120 [tx46] S3691 := SumOk.of_run (K := K_MQ1a) (n := 5000) (keep := [95]) mixed K_MQ1a_ok (by kernel_rfl) (by as_aux_lemma => kernel_rfl)

noncomputable def S3500 : Sum := ⟨(iN 38), 144, []⟩
theorem S3500_ok : SumOk Tryz.prog 257 [tx12, tx77, tx35] S3500 := SumOk.of_run (K := K_MQ1a) (n := 5000) (keep := []) mixed K_MQ1a_ok (by kernel_rfl) (by as_aux_lemma => kernel_rfl)

noncomputable def S3417 : Sum := ⟨(.tup [(.so 40 0 1 4), (.agg [(uN 86), tx6, z0, (uN 0)]), bT]), 41, [q136]⟩
theorem S3417_ok : SumOk Tryz.prog 120 [tx4] S3417 := SumOk.of_run (K := K_MQ1a) (n := 5000) (keep := [40]) mixed K_MQ1a_ok (by kernel_rfl) (by as_aux_lemma => kernel_rfl)

noncomputable def S3321 : Sum := ⟨(iN 37), 143, []⟩
theorem S3321_ok : SumOk Tryz.prog 257 [tx12, tx18, tx4] S3321 := SumOk.of_run (K := K_MQ1a) (n := 5000) (keep := []) mixed K_MQ1a_ok (by kernel_rfl) (by as_aux_lemma => kernel_rfl)

noncomputable def S3219 : Sum := ⟨(iN 36), 142, []⟩
theorem S3219_ok : SumOk Tryz.prog 257 [tx12, tx18, tx42] S3219 := SumOk.of_run (K := K_MQ1a) (n := 5000) (keep := []) mixed K_MQ1a_ok (by kernel_rfl) (by as_aux_lemma => kernel_rfl)

noncomputable def S3144 : Sum := ⟨(.tup [(.agg [(uN 76), tx7, z0, (uN 0)]), (iN 18)]), 37, []⟩
theorem S3144_ok : SumOk Tryz.prog 212 [tx63] S3144 := SumOk.of_run (K := K_MQ1a) (n := 5000) (keep := []) mixed K_MQ1a_ok (by kernel_rfl) (by as_aux_lemma => kernel_rfl)

noncomputable def S3042 : Sum := ⟨(.tup [(.so 40 0 1 4), (.agg [(uN 90), tx6, z0, (uN 0)]), bT]), 46, [q132]⟩
theorem S3042_ok : SumOk Tryz.prog 120 [tx47] S3042 := SumOk.of_run (K := K_MQ1a) (n := 5000) (keep := [40]) mixed K_MQ1a_ok (by kernel_rfl) (by as_aux_lemma => kernel_rfl)

noncomputable def S5 : Sum := ⟨(pN 2), 3254, [(0, (.map [] 0)), (1, (.map [(tx3, (pN 198), 0), (tx25, (pN 346), 1), (tx26, (pN 455), 2), (tx11, (pN 566), 3), (tx27, (pN 680), 4), (tx28, (pN 793), 5), (tx21, (pN 890), 6), (tx33, (pN 984), 7), (tx24, (pN 1075), 8), (tx36, (pN 1165), 9), (tx15, (pN 1271), 10), (tx29, (pN 1374), 11), (tx13, (pN 1489), 12), (tx2, (pN 1587), 13), (tx9, (pN 1680), 14), (tx30, (pN 1785), 15), (tx8, (pN 1884), 16), (tx16, (pN 1996), 17), (tx22, (pN 2092), 18), (tx34, (pN 2193), 19), (tx31, (pN 2295), 20), (tx23, (pN 2405), 21), (tx0, (pN 2416), 22), (tx20, (pN 2527), 23), (tx5, (pN 2619), 24), (tx19, (pN 2726), 25), (tx7, (pN 2747), 26), (tx1, (pN 2804), 27), (tx10, (pN 2944), 28), (tx39, (pN 2956), 29), (tx12, (pN 3044), 30), (tx14, (pN 3144), 31), (tx37, (pN 3244), 32)] 33)), (2, (.cells 3 false [] (T.ofList 0 .leaf [(.map 0), (.map 1), .nils]))), (198, (.cells 8 false [] (T.ofList 0 .leaf [(iN 52), .nils, (iN 49), tx3, tx0, .nils, .nils, (.so 251 0 13 9)]))), (251, (.cells 117 true [] (T.ofList 0 .leaf [z1, tx48, tx4, bF, z0, z0, .nils, .nils, .nils, z1, tx48, tx68, bF, z0, z0, .nils, .nils, .nils, z1, tx48, tx67, bF, z0, z0, .nils, .nils, .nils, z1, tx48, tx66, bF, z0, z0, .nils, .nils, .nils, z1, tx48, tx65, bF, z0, z0, .nils, .nils, .nils, z1, tx48, tx43, bF, z0, z0, .nils, .nils, .nils, z1, tx40, tx4, bF, z0, z0, .nils, .nils, .nils, z1, tx40, tx68, bF, z0, z0, .nils, .nils, .nils, z1, tx40, tx67, bF, z0, z0, .nils, .nils, .nils, z1, tx40, tx66, bF, z0, z0, .nils, .nils, .nils, z1, tx40, tx65, bF, z0, z0, .nils, .nils, .nils, z1, tx40, tx43, bF, z0, z0, .nils, .nils, .nils, z1, tx40, tx42, bF, z0, z0, .nils, .nils, .nils]))), (346, (.cells 8 false [] (T.ofList 0 .leaf [(iN 52), .nils, (iN 33), tx25, tx2, .nils, .nils, (.so 355 0 2 9)]))), (355, (.cells 18 true [] (T.ofList 0 .leaf [z1, tx18, tx42, bF, z0, z0, .nils, .nils, .nils, z1, tx18, tx4, bF, z0, z0, .nils, .nils, .nils]))), (455, (.cells 8 false [] (T.ofList 0 .leaf [(iN 52), .nils, (iN 33), tx26, tx5, .nils, .nils, (.so 464 0 2 9)]))), (464, (.cells 18 true [] (T.ofList 0 .leaf [z1, tx18, tx42, bF, z0, z0, .nils, .nils, .nils, z1, tx18, tx4, bF, z0, z0, .nils, .nils, .nils]))), (566, (.cells 8 false [] (T.ofList 0 .leaf [(iN 52), .nils, (iN 33), tx11, tx9, .nils, .nils, (.so 575 0 2 9)]))), (575, (.cells 18 true [] (T.ofList 0 .leaf [z1, tx18, tx42, bF, z0, z0, .nils, .nils, .nils, z1, tx18, tx4, bF, z0, z0, .nils, .nils, .nils]))), (680, (.cells 8 false [] (T.ofList 0 .leaf [(iN 52), .nils, (iN 33), tx27, tx5, .nils, .nils, (.so 689 0 2 9)]))), (689, (.cells 18 true [] (T.ofList 0 .leaf [z1, tx18, tx42, bF, z0, z0, .nils, .nils, .nils, z1, tx18, tx4, bF, z0, z0, .nils, .nils, .nils]))), (793, (.cells 8 false [] (T.ofList 0 .leaf [(iN 52), .nils, (iN 33), tx28, tx5, .nils, .nils, (.so 802 0 2 9)]))), (802, (.cells 18 true [] (T.ofList 0 .leaf [z1, tx18, tx42, bF, z0, z0, .nils, .nils, .nils, z1, tx18, tx4, bF, z0, z0, .nils, .nils, .nils]))), (890, (.cells 8 false [] (T.ofList 0 .leaf [(iN 52), .nils, (iN 33), tx21, tx8, .nils, .nils, (.so 899 0 2 9)]))), (899, (.cells 18 true [] (T.ofList 0 .leaf [z1, tx18, tx42, bF, z0, z0, .nils, .nils, .nils, z1, tx18, tx4, bF, z0, z0, .nils, .nils, .nils]))), (984, (.cells 8 false [] (T.ofList 0 .leaf [(iN 52), .nils, (iN 33), tx33, tx8, .nils, .nils, (.so 993 0 2 9)]))), (993, (.cells 18 true [] (T.ofList 0 .leaf [z1, tx18, tx42, bF, z0, z0, .nils, .nils, .nils, z1, tx18, tx4, bF, z0, z0, .nils, .nils, .nils]))), (1075, (.cells 8 false [] (T.ofList 0 .leaf [(iN 52), .nils, (iN 33), tx24, tx12, .nils, .nils, (.so 1084 0 2 9)]))), (1084, (.cells 18 true [] (T.ofList 0 .leaf [z1, tx18, tx42, bF, z0, z0, .nils, .nils, .nils, z1, tx18, tx4, bF, z0, z0, .nils, .nils, .nils]))), (1165, (.cells 8 false [] (T.ofList 0 .leaf [(iN 52), .nils, (iN 33), tx36, tx12, .nils, .nils, (.so 1174 0 2 9)]))), (1174, (.cells 18 true [] (T.ofList 0 .leaf [z1, tx18, tx42, bF, z0, z0, .nils, .nils, .nils, z1, tx18, tx4, bF, z0, z0, .nils, .nils, .nils]))), (1271, (.cells 8 false [] (T.ofList 0 .leaf [(iN 52), .nils, (iN 33), tx15, tx8, .nils, .nils, (.so 1280 0 2 9)]))), (1280, (.cells 18 true [] (T.ofList 0 .leaf [z1, tx18, tx42, bF, z0, z0, .nils, .nils, .nils, z1, tx18, tx4, bF, z0, z0, .nils, .nils, .nils]))), (1374, (.cells 8 false [] (T.ofList 0 .leaf [(iN 52), .nils, (iN 33), tx29, tx2, .nils, .nils, (.so 1383 0 2 9)]))), (1383, (.cells 18 true [] (T.ofList 0 .leaf [z1, tx18, tx42, bF, z0, z0, .nils, .nils, .nils, z1, tx18, tx4, bF, z0, z0, .nils, .nils, .nils]))), (1489, (.cells 8 false [] (T.ofList 0 .leaf [(iN 52), .nils, (iN 33), tx13, tx5, .nils, .nils, (.so 1498 0 2 9)]))), (1498, (.cells 18 true [] (T.ofList 0 .leaf [z1, tx18, tx42, bF, z0, z0, .nils, .nils, .nils, z1, tx18, tx4, bF, z0, z0, .nils, .nils, .nils]))), (1587, (.cells 8 false [] (T.ofList 0 .leaf [(iN 52), .nils, (iN 33), tx2, tx8, .nils, .nils, (.so 1596 0 2 9)]))), (1596, (.cells 18 true [] (T.ofList 0 .leaf [z1, tx18, tx42, bF, z0, z0, .nils, .nils, .nils, z1, tx18, tx4, bF, z0, z0, .nils, .nils, .nils]))), (1680, (.cells 8 false [] (T.ofList 0 .leaf [(iN 52), .nils, (iN 33), tx9, tx5, .nils, .nils, (.so 1689 0 2 9)]))), (1689, (.cells 18 true [] (T.ofList 0 .leaf [z1, tx18, tx42, bF, z0, z0, .nils, .nils, .nils, z1, tx18, tx4, bF, z0, z0, .nils, .nils, .nils]))), (1785, (.cells 8 false [] (T.ofList 0 .leaf [(iN 52), .nils, (iN 33), tx30, tx2, .nils, .nils, (.so 1794 0 2 9)]))), (1794, (.cells 18 true [] (T.ofList 0 .leaf [z1, tx18, tx42, bF, z0, z0, .nils, .nils, .nils, z1, tx18, tx4, bF, z0, z0, .nils, .nils, .nils]))), (1884, (.cells 8 false [] (T.ofList 0 .leaf [(iN 52), .nils, (iN 33), tx8, tx24, .nils, .nils, (.so 1893 0 2 9)]))), (1893, (.cells 18 true [] (T.ofList 0 .leaf [z1, tx18, tx42, bF, z0, z0, .nils, .nils, .nils, z1, tx18, tx4, bF, z0, z0, .nils, .nils, .nils]))), (1996, (.cells 8 false [] (T.ofList 0 .leaf [(iN 52), .nils, (iN 33), tx16, tx5, .nils, .nils, (.so 2005 0 2 9)]))), (2005, (.cells 18 true [] (T.ofList 0 .leaf [z1, tx18, tx42, bF, z0, z0, .nils, .nils, .nils, z1, tx18, tx4, bF, z0, z0, .nils, .nils, .nils]))), (2092, (.cells 8 false [] (T.ofList 0 .leaf [(iN 52), .nils, (iN 33), tx22, tx8, .nils, .nils, (.so 2101 0 2 9)]))), (2101, (.cells 18 true [] (T.ofList 0 .leaf [z1, tx18, tx42, bF, z0, z0, .nils, .nils, .nils, z1, tx18, tx4, bF, z0, z0, .nils, .nils, .nils]))), (2193, (.cells 8 false [] (T.ofList 0 .leaf [(iN 52), .nils, (iN 33), tx34, tx2, .nils, .nils, (.so 2202 0 2 9)]))), (2202, (.cells 18 true [] (T.ofList 0 .leaf [z1, tx18, tx42, bF, z0, z0, .nils, .nils, .nils, z1, tx18, tx4, bF, z0, z0, .nils, .nils, .nils]))), (2295, (.cells 8 false [] (T.ofList 0 .leaf [(iN 52), .nils, (iN 33), tx31, tx2, .nils, .nils, (.so 2304 0 2 9)]))), (2304, (.cells 18 true [] (T.ofList 0 .leaf [z1, tx18, tx42, bF, z0, z0, .nils, .nils, .nils, z1, tx18, tx4, bF, z0, z0, .nils, .nils, .nils]))), (2405, (.cells 8 false [] (T.ofList 0 .leaf [(iN 52), .nils, (iN 33), tx23, tx5, .nils, .nils, (.so 2414 0 2 9)]))), (2414, (.cells 18 true [] (T.ofList 0 .leaf [z1, tx18, tx42, bF, z0, z0, .nils, .nils, .nils, z1, tx18, tx4, bF, z0, z0, .nils, .nils, .nils]))), (2416, (.cells 8 false [] (T.ofList 0 .leaf [(iN 52), .nils, (iN 33), tx0, tx6, .nils, .nils, (.so 2428 0 3 9)]))), (2428, (.cells 27 true [] (T.ofList 0 .leaf [z1, tx18, tx42, bF, z0, z0, .nils, .nils, .nils, z1, tx69, tx47, bF, z0, z0, .nils, .nils, .nils, z1, tx62, tx35, bF, z0, z0, .nils, .nils, .nils]))), (2527, (.cells 8 false [] (T.ofList 0 .leaf [(iN 52), .nils, (iN 33), tx20, tx24, .nils, .nils, (.so 2536 0 2 9)]))), (2536, (.cells 18 true [] (T.ofList 0 .leaf [z1, tx18, tx42, bF, z0, z0, .nils, .nils, .nils, z1, tx18, tx4, bF, z0, z0, .nils, .nils, .nils]))), (2619, (.cells 8 false [] (T.ofList 0 .leaf [(iN 52), .nils, (iN 33), tx5, tx36, .nils, .nils, (.so 2628 0 2 9)]))), (2628, (.cells 18 true [] (T.ofList 0 .leaf [z1, tx18, tx42, bF, z0, z0, .nils, .nils, .nils, z1, tx18, tx4, bF, z0, z0, .nils, .nils, .nils]))), (2726, (.cells 8 false [] (T.ofList 0 .leaf [(iN 52), .nils, (iN 33), tx19, tx24, .nils, .nils, (.so 2735 0 2 9)]))), (2735, (.cells 18 true [] (T.ofList 0 .leaf [z1, tx18, tx42, bF, z0, z0, .nils, .nils, .nils, z1, tx18, tx4, bF, z0, z0, .nils, .nils, .nils]))), (2747, (.cells 8 false [] (T.ofList 0 .leaf [(iN 52), .nils, (iN 49), tx7, tx0, .nils, .nils, (.so 2788 0 10 9)]))), (2788, (.cells 90 true [] (T.ofList 0 .leaf [z1, tx70, tx72, bF, z0, z0, .nils, .nils, .nils, z1, tx78, tx75, bF, z0, z0, .nils, .nils, .nils, z1, tx79, tx45, bF, z0, z0, .nils, .nils, .nils, z1, tx69, tx47, bF, z0, z0, .nils, .nils, .nils, z1, tx80, tx35, bF, z0, z0, .nils, .nils, .nils, z1, tx62, tx35, bF, z0, z0, .nils, .nils, .nils, (iN 9), tx55, tx58, bF, z0, z0, .nils, .nils, .nils, (iN 9), tx55, tx59, bF, z0, z0, .nils, .nils, .nils, (iN 9), tx55, tx60, bF, z0, z0, .nils, .nils, .nils, (iN 9), tx55, tx61, bF, z0, z0, .nils, .nils, .nils]))), (2804, (.cells 8 false [] (T.ofList 0 .leaf [(iN 52), .nils, (iN 49), tx1, tx0, .nils, .nils, (.so 2837 0 8 9)]))), (2837, (.cells 72 true [] (T.ofList 0 .leaf [z1, tx18, tx42, bF, z0, z0, .nils, .nils, .nils, z1, tx49, tx41, bF, z0, z0, .nils, .nils, .nils, z1, tx49, tx51, bF, z0, z0, .nils, .nils, .nils, z1, tx49, tx52, bF, z0, z0, .nils, .nils, .nils, z1, tx49, tx53, bF, z0, z0, .nils, .nils, .nils, z1, tx49, tx54, bF, z0, z0, .nils, .nils, .nils, z1, tx70, tx72, bF, z0, z0, .nils, .nils, .nils, z1, tx62, tx35, bF, z0, z0, .nils, .nils, .nils]))), (2944, (.cells 8 false [] (T.ofList 0 .leaf [(iN 52), .nils, (iN 33), tx10, tx9, .nils, .nils, (.so 2953 0 2 9)]))), (2953, (.cells 18 true [] (T.ofList 0 .leaf [z1, tx18, tx42, bF, z0, z0, .nils, .nils, .nils, z1, tx18, tx4, bF, z0, z0, .nils, .nils, .nils]))), (2956, (.cells 8 false [] (T.ofList 0 .leaf [(iN 52), .nils, (iN 49), tx39, tx0, .nils, (.sl 2962 0 1 1), (.so 2961 0 1 9)]))), (2961, (.cells 9 true [] (T.ofList 0 .leaf [(iN 9), tx81, tx46, bF, z0, z0, .nils, .nils, .nils]))), (2962, (.cells 4 false [] (T.ofList 0 .leaf [(iN 25), (.str 3 7632239), (.str 21 86853048606115020859032997575803556797492651715148), z0]))), (3044, (.cells 8 false [] (T.ofList 0 .leaf [(iN 52), .nils, (iN 33), tx12, tx0, .nils, (.sl 3058 0 1 1), (.so 3057 0 3 9)]))), (3057, (.cells 27 true [] (T.ofList 0 .leaf [z1, tx18, tx42, bF, z0, z0, .nils, .nils, .nils, z1, tx18, tx4, bF, z0, z0, .nils, .nils, .nils, z1, tx77, tx35, bF, z0, z0, .nils, .nils, .nils]))), (3058, (.cells 4 false [] (T.ofList 0 .leaf [z2, tx82, tx63, z0]))), (3144, (.cells 8 false [] (T.ofList 0 .leaf [(iN 52), .nils, (iN 33), tx14, tx8, .nils, .nils, (.so 3153 0 2 9)]))), (3153, (.cells 18 true [] (T.ofList 0 .leaf [z1, tx18, tx42, bF, z0, z0, .nils, .nils, .nils, z1, tx18, tx4, bF, z0, z0, .nils, .nils, .nils]))), (3244, (.cells 8 false [] (T.ofList 0 .leaf [(iN 52), .nils, (iN 33), tx37, tx8, .nils, .nils, (.so 3253 0 2 9)]))), (3253, (.cells 18 true [] (T.ofList 0 .leaf [z1, tx18, tx42, bF, z0, z0, .nils, .nils, .nils, z1, tx18, tx4, bF, z0, z0, .nils, .nils, .nils])))]⟩
theorem S5_ok : SumOk Tryz.prog 51 [] S5 := SumOk.of_run (K := K_MQ1a) (n := 5000) (keep := [0, 1, 2, 198, 251, 346, 355, 455, 464, 566, 575, 680, 689, 793, 802, 890, 899, 984, 993, 1075, 1084, 1165, 1174, 1271, 1280, 1374, 1383, 1489, 1498, 1587, 1596, 1680, 1689, 1785, 1794, 1884, 1893, 1996, 2005, 2092, 2101, 2193, 2202, 2295, 2304, 2405, 2414, 2416, 2428, 2527, 2536, 2619, 2628, 2726, 2735, 2747, 2788, 2804, 2837, 2944, 2953, 2956, 2961, 2962, 3044, 3057, 3058, 3144, 3153, 3244, 3253]) mixed K_MQ1a_ok (by kernel_rfl) (by as_aux_lemma => kernel_rfl)

noncomputable def tab_MQ1a : List (FuncId × SRows) := (51, [([], S5)]) :: (212, [([tx63], S3144)]) :: (278, [([tx1], S4916)]) :: (120, [([tx43], S5723), ([tx46], S3691), ([tx4], S3417), ([tx47], S3042)]) :: (257, [([tx3, tx40, tx42], S6149), ([tx3, tx40, tx43], S6042), ([tx3, tx40, tx65], S6007), ([tx3, tx40, tx66], S5973), ([tx3, tx40, tx67], S5940), ([tx3, tx40, tx68], S5908), ([tx3, tx40, tx4], S5806), ([tx3, tx48, tx43], S5705), ([tx3, tx48, tx65], S5676), ([tx3, tx48, tx66], S5648), ([tx3, tx48, tx67], S5621), ([tx3, tx48, tx68], S5595), ([tx3, tx48, tx4], S5499), ([tx1, tx62, tx35], S5398), ([tx1, tx70, tx72], S5370), ([tx1, tx49, tx54], S5271), ([tx1, tx49, tx53], S5173), ([tx1, tx49, tx52], S5076), ([tx1, tx49, tx51], S4980), ([tx1, tx49, tx41], S4814), ([tx1, tx18, tx42], S4796), ([tx7, tx55, tx61], S4689), ([tx7, tx55, tx60], S4584), ([tx7, tx55, tx59], S4480), ([tx7, tx55, tx58], S4377), ([tx7, tx62, tx35], S4280), ([tx7, tx80, tx35], S4184), ([tx7, tx69, tx47], S4084), ([tx7, tx79, tx45], S3914), ([tx7, tx78, tx75], S3887), ([tx12, tx77, tx35], S3500), ([tx12, tx18, tx4], S3321), ([tx12, tx18, tx42], S3219)]) :: (199, [([tx57], S13981)]) :: []
theorem tab_MQ1a_ok : TabOk Tryz.prog tab_MQ1a := (TabOk.cons (RowsOk.cons S5_ok RowsOk.nil) (TabOk.cons (RowsOk.cons S3144_ok RowsOk.nil) (TabOk.cons (RowsOk.cons S4916_ok RowsOk.nil) (TabOk.cons (RowsOk.cons S5723_ok (RowsOk.cons S3691_ok (RowsOk.cons S3417_ok (RowsOk.cons S3042_ok RowsOk.nil)))) (TabOk.cons (RowsOk.cons S6149_ok (RowsOk.cons S6042_ok (RowsOk.cons S6007_ok (RowsOk.cons S5973_ok (RowsOk.cons S5940_ok (RowsOk.cons S5908_ok (RowsOk.cons S5806_ok (RowsOk.cons S5705_ok (RowsOk.cons S5676_ok (RowsOk.cons S5648_ok (RowsOk.cons S5621_ok (RowsOk.cons S5595_ok (RowsOk.cons S5499_ok (RowsOk.cons S5398_ok (RowsOk.cons S5370_ok (RowsOk.cons S5271_ok (RowsOk.cons S5173_ok (RowsOk.cons S5076_ok (RowsOk.cons S4980_ok (RowsOk.cons S4814_ok (RowsOk.cons S4796_ok (RowsOk.cons S4689_ok (RowsOk.cons S4584_ok (RowsOk.cons S4480_ok (RowsOk.cons S4377_ok (RowsOk.cons S4280_ok (RowsOk.cons S4184_ok (RowsOk.cons S4084_ok (RowsOk.cons S3914_ok (RowsOk.cons S3887_ok (RowsOk.cons S3500_ok (RowsOk.cons S3321_ok (RowsOk.cons S3219_ok RowsOk.nil))))))))))))))))))))))))))))))))) (TabOk.cons (RowsOk.cons S13981_ok RowsOk.nil) TabOk.nil))))))
noncomputable def H_MQ1a : Hand := (((Hand.at 119 (inHand I14918)).or (Hand.at 56 (Hand.sp 17190 (Hand.sp 16891 (Hand.sp 16726 ((inHand I15728).or (inHand I15680)) ((inHand I15780).or (inHand I15748))) (Hand.sp 16985 ((inHand I15934).or (inHand I15902)) ((inHand I16006).or (inHand I15954)))) (Hand.sp 17451 (Hand.sp 17288 ((inHand I16179).or (inHand I16131)) ((inHand I16231).or (inHand I16199))) (Hand.sp 17545 ((inHand I16384).or (inHand I16352)) ((inHand I16456).or (inHand I16404))))))).or (sumsHand tab_MQ1a))
theorem H_MQ1a_ok : HandOk Tryz.prog H_MQ1a := (HandOk.or (HandOk.or (HandOk.at 119 (inHand_ok I14918_ok (by kernel_rfl))) (HandOk.at 56 (HandOk.sp 17190 (HandOk.sp 16891 (HandOk.sp 16726 (HandOk.or (inHand_ok I15728_ok (by kernel_rfl)) (inHand_ok I15680_ok (by kernel_rfl))) (HandOk.or (inHand_ok I15780_ok (by kernel_rfl)) (inHand_ok I15748_ok (by kernel_rfl)))) (HandOk.sp 16985 (HandOk.or (inHand_ok I15934_ok (by kernel_rfl)) (inHand_ok I15902_ok (by kernel_rfl))) (HandOk.or (inHand_ok I16006_ok (by kernel_rfl)) (inHand_ok I15954_ok (by kernel_rfl))))) (HandOk.sp 17451 (HandOk.sp 17288 (HandOk.or (inHand_ok I16179_ok (by kernel_rfl)) (inHand_ok I16131_ok (by kernel_rfl))) (HandOk.or (inHand_ok I16231_ok (by kernel_rfl)) (inHand_ok I16199_ok (by kernel_rfl)))) (HandOk.sp 17545 (HandOk.or (inHand_ok I16384_ok (by kernel_rfl)) (inHand_ok I16352_ok (by kernel_rfl))) (HandOk.or (inHand_ok I16456_ok (by kernel_rfl)) (inHand_ok I16404_ok (by kernel_rfl)))))))) (sumsHand_ok tab_MQ1a_ok))
end Go.Proofs.YtfkfmjlppllfoaaGreatDoor.mq
