/-
  Contracts of calls, by the kernel.
-/
import Derived.Test.YthgncmohimdbmaaGreatDoorCYNN
import Derived.Test.YthgncmohimdbmaaGreatDoorXN3
import Derived.Test.YthgncmohimdbmaaGreatDoorProg
import Derived.KernelRfl
import Derived.Test.YthgncmohimdbmaaGreatDoorCY0a
import Derived.Test.YthgncmohimdbmaaGreatDoorCY0b
import Derived.Test.YthgncmohimdbmaaGreatDoorCY0c
set_option linter.unusedSectionVars false
set_option linter.unusedVariables false
set_option maxRecDepth 1000000
set_option maxHeartbeats 0
namespace Go.Proofs.YthgncmohimdbmaaGreatDoor.cy
open Go.X Go.RowKit
variable [Tab]
noncomputable def K_CY1a : Hand := ((H_CY0c).or H_CY0b)
theorem K_CY1a_ok : HandOk Tryz.prog K_CY1a := (HandOk.or H_CY0c_ok H_CY0b_ok)

noncomputable def I25714 : In := ⟨52, [(pN 13824)], 29763, [q1, q66, q67, (13823, (.map [(tx0, (iN 262), 0)] 1)), q68, q22, q24, q25, q26, q27, (19196, (.cells 2 false [] (T.ofList 0 .leaf [z2, .nils]))), q69, q70, (19207, (.cells 1 true [] (T.ofList 0 .leaf [(pN 19205)]))), q71, q72, (24111, (.cells 2 false [] (T.ofList 0 .leaf [z2, .nils])))], bF, 29812, [q1, q67, (13824, (.cells 32 false [] (T.ofList 0 .leaf [(pN 7221), (pN 10479), (pN 10474), (pN 10476), (pN 10480), (pN 13820), .nils, (.map 13821), (.map 13822), .nils, z1, (iN 3), (iN 6), z0, .nilp, bF, (iN 2000), (iN 263), z0, z1, z0, z1, (uN 73), (oN 189), tx1, tx1, bF, (iN 263), .nils, z0, z1, (.map 13823)]))), q22, q24, q25, q26, q27, (19196, (.cells 2 false [] (T.ofList 0 .leaf [z2, .nils]))), (19207, (.cells 1 true [] (T.ofList 0 .leaf [(pN 19205)]))), q71, q72, (24111, (.cells 2 false [] (T.ofList 0 .leaf [z2, .nils])))]⟩
theorem I25714_ok : InOk Tryz.prog I25714 := InOk.of_run (K := K_CY1a) (n := 5000) mixed K_CY1a_ok (by kernel_rfl) (by as_aux_lemma => kernel_rfl)

noncomputable def I25660 : In := ⟨52, [(pN 13824)], 29697, [q78, (13823, (.map [(tx0, (iN 260), 0)] 1)), q79, q22, q24, q25, q26, q80, q81, (19207, (.cells 1 true [] (T.ofList 0 .leaf [(pN 19205)]))), q77, q72], bT, 29736, [q73, (13823, (.map [(tx0, (iN 261), 0)] 1)), q74, q22, q24, q25, q26, q75, q76, (19207, (.cells 1 true [] (T.ofList 0 .leaf [(pN 19205)]))), q77, q72]⟩
theorem I25660_ok : InOk Tryz.prog I25660 := InOk.of_run (K := K_CY1a) (n := 5000) mixed K_CY1a_ok (by kernel_rfl) (by as_aux_lemma => kernel_rfl)

noncomputable def I25638 : In := ⟨52, [(pN 13824)], 29663, [q66, (13823, (.map [(tx0, (iN 259), 0)] 1)), q82, q22, q24, q25, q26, q83, q84, (19207, (.cells 1 true [] (T.ofList 0 .leaf [(pN 19205)]))), q85, q72], bT, 29697, [q78, (13823, (.map [(tx0, (iN 260), 0)] 1)), q79, q22, q24, q25, q26, q80, q81, (19207, (.cells 1 true [] (T.ofList 0 .leaf [(pN 19205)]))), q77, q72]⟩
theorem I25638_ok : InOk Tryz.prog I25638 := InOk.of_run (K := K_CY1a) (n := 5000) mixed K_CY1a_ok (by kernel_rfl) (by as_aux_lemma => kernel_rfl)

noncomputable def I25598 : In := ⟨52, [(pN 13824)], 29597, [q73, (13823, (.map [(tx0, (iN 257), 0)] 1)), q90, q22, q24, q25, q26, q91, q92, (19207, (.cells 1 true [] (T.ofList 0 .leaf [(pN 19205)])))], bT, 29636, [q73, (13823, (.map [(tx0, (iN 258), 0)] 1)), q86, q22, q24, q25, q26, q87, q88, (19207, (.cells 1 true [] (T.ofList 0 .leaf [(pN 19205)])))]⟩
theorem I25598_ok : InOk Tryz.prog I25598 := InOk.of_run (K := K_CY1a) (n := 5000) mixed K_CY1a_ok (by kernel_rfl) (by as_aux_lemma => kernel_rfl)

noncomputable def I25567 : In := ⟨52, [(pN 13824)], 29542, [q73, (13823, (.map [(tx0, (iN 256), 0)] 1)), q93, q22, q24, q25, q26, q94, q95, (19207, (.cells 1 true [] (T.ofList 0 .leaf [(pN 19205)]))), q96, q72], bT, 29597, [q73, (13823, (.map [(tx0, (iN 257), 0)] 1)), q90, q22, q24, q25, q26, q91, q92, (19207, (.cells 1 true [] (T.ofList 0 .leaf [(pN 19205)]))), q89, q72]⟩
theorem I25567_ok : InOk Tryz.prog I25567 := InOk.of_run (K := K_CY1a) (n := 5000) mixed K_CY1a_ok (by kernel_rfl) (by as_aux_lemma => kernel_rfl)

noncomputable def I25541 : In := ⟨52, [(pN 13824)], 29511, [q66, (13823, (.map [(tx0, (iN 255), 0)] 1)), q97, q22, q24, q25, q26, q98, q99, (19207, (.cells 1 true [] (T.ofList 0 .leaf [(pN 19205)]))), q100, q72], bT, 29542, [q73, (13823, (.map [(tx0, (iN 256), 0)] 1)), q93, q22, q24, q25, q26, q94, q95, (19207, (.cells 1 true [] (T.ofList 0 .leaf [(pN 19205)]))), q96, q72]⟩
theorem I25541_ok : InOk Tryz.prog I25541 := InOk.of_run (K := K_CY1a) (n := 5000) mixed K_CY1a_ok (by kernel_rfl) (by as_aux_lemma => kernel_rfl)

noncomputable def I25400 : In := ⟨52, [(pN 13824)], 29365, [q66, (13823, (.map [(tx0, (iN 251), 0)] 1)), q116, q22, q24, q25, q26, q117, q118, (19207, (.cells 1 true [] (T.ofList 0 .leaf [(pN 19205)]))), q119, q72], bT, 29402, [q78, (13823, (.map [(tx0, (iN 252), 0)] 1)), q112, q22, q24, q25, q26, q113, q114, (19207, (.cells 1 true [] (T.ofList 0 .leaf [(pN 19205)]))), q115, q111]⟩
theorem I25400_ok : InOk Tryz.prog I25400 := InOk.of_run (K := K_CY1a) (n := 5000) mixed K_CY1a_ok (by kernel_rfl) (by as_aux_lemma => kernel_rfl)

noncomputable def I25346 : In := ⟨52, [(pN 13824)], 29282, [q66, (13823, (.map [(tx0, (iN 249), 0)] 1)), q124, q22, q24, q25, q26, q125, q126, (19207, (.cells 1 true [] (T.ofList 0 .leaf [(pN 19205)]))), q127, q72], bT, 29316, [q78, (13823, (.map [(tx0, (iN 250), 0)] 1)), q120, q22, q24, q25, q26, q121, q122, (19207, (.cells 1 true [] (T.ofList 0 .leaf [(pN 19205)]))), q123, q72]⟩
theorem I25346_ok : InOk Tryz.prog I25346 := InOk.of_run (K := K_CY1a) (n := 5000) mixed K_CY1a_ok (by kernel_rfl) (by as_aux_lemma => kernel_rfl)

noncomputable def I25285 : In := ⟨52, [(pN 13824)], 29193, [q78, (13823, (.map [(tx0, (iN 247), 0)] 1)), q131, q22, q24, q25, q26, q80, q81, (19207, (.cells 1 true [] (T.ofList 0 .leaf [(pN 19205)]))), q130, q72], bT, 29255, [q73, (13823, (.map [(tx0, (iN 248), 0)] 1)), q128, q22, q24, q25, q26, q75, q129, (19207, (.cells 1 true [] (T.ofList 0 .leaf [(pN 19205)]))), q130, q72]⟩
theorem I25285_ok : InOk Tryz.prog I25285 := InOk.of_run (K := K_CY1a) (n := 5000) mixed K_CY1a_ok (by kernel_rfl) (by as_aux_lemma => kernel_rfl)

noncomputable def I25263 : In := ⟨52, [(pN 13824)], 29159, [q66, (13823, (.map [(tx0, (iN 246), 0)] 1)), q132, q22, q24, q25, q26, q83, q84, (19207, (.cells 1 true [] (T.ofList 0 .leaf [(pN 19205)]))), q133, q72], bT, 29193, [q78, (13823, (.map [(tx0, (iN 247), 0)] 1)), q131, q22, q24, q25, q26, q80, q81, (19207, (.cells 1 true [] (T.ofList 0 .leaf [(pN 19205)]))), q130, q72]⟩
theorem I25263_ok : InOk Tryz.prog I25263 := InOk.of_run (K := K_CY1a) (n := 5000) mixed K_CY1a_ok (by kernel_rfl) (by as_aux_lemma => kernel_rfl)

noncomputable def I25223 : In := ⟨52, [(pN 13824)], 29093, [q73, (13823, (.map [(tx0, (iN 244), 0)] 1)), q136, q22, q24, q25, q26, q91, q92, (19207, (.cells 1 true [] (T.ofList 0 .leaf [(pN 19205)])))], bT, 29132, [q73, (13823, (.map [(tx0, (iN 245), 0)] 1)), q134, q22, q24, q25, q26, q87, q88, (19207, (.cells 1 true [] (T.ofList 0 .leaf [(pN 19205)])))]⟩
theorem I25223_ok : InOk Tryz.prog I25223 := InOk.of_run (K := K_CY1a) (n := 5000) mixed K_CY1a_ok (by kernel_rfl) (by as_aux_lemma => kernel_rfl)

noncomputable def I25192 : In := ⟨52, [(pN 13824)], 29038, [q73, (13823, (.map [(tx0, (iN 243), 0)] 1)), q137, q22, q24, q25, q26, q94, q95, (19207, (.cells 1 true [] (T.ofList 0 .leaf [(pN 19205)]))), q138, q72], bT, 29093, [q73, (13823, (.map [(tx0, (iN 244), 0)] 1)), q136, q22, q24, q25, q26, q91, q92, (19207, (.cells 1 true [] (T.ofList 0 .leaf [(pN 19205)]))), q135, q72]⟩
theorem I25192_ok : InOk Tryz.prog I25192 := InOk.of_run (K := K_CY1a) (n := 5000) mixed K_CY1a_ok (by kernel_rfl) (by as_aux_lemma => kernel_rfl)

noncomputable def I25166 : In := ⟨52, [(pN 13824)], 29007, [q66, (13823, (.map [(tx0, (iN 242), 0)] 1)), q139, q22, q24, q25, q26, q98, q99, (19207, (.cells 1 true [] (T.ofList 0 .leaf [(pN 19205)]))), q140, q72], bT, 29038, [q73, (13823, (.map [(tx0, (iN 243), 0)] 1)), q137, q22, q24, q25, q26, q94, q95, (19207, (.cells 1 true [] (T.ofList 0 .leaf [(pN 19205)]))), q138, q72]⟩
theorem I25166_ok : InOk Tryz.prog I25166 := InOk.of_run (K := K_CY1a) (n := 5000) mixed K_CY1a_ok (by kernel_rfl) (by as_aux_lemma => kernel_rfl)

noncomputable def I25025 : In := ⟨52, [(pN 13824)], 28861, [q66, (13823, (.map [(tx0, (iN 238), 0)] 1)), q147, q22, q24, q25, q26, q117, q118, (19207, (.cells 1 true [] (T.ofList 0 .leaf [(pN 19205)]))), q148, q72], bT, 28898, [q78, (13823, (.map [(tx0, (iN 239), 0)] 1)), q145, q22, q24, q25, q26, q113, q114, (19207, (.cells 1 true [] (T.ofList 0 .leaf [(pN 19205)]))), q146, q111]⟩
theorem I25025_ok : InOk Tryz.prog I25025 := InOk.of_run (K := K_CY1a) (n := 5000) mixed K_CY1a_ok (by kernel_rfl) (by as_aux_lemma => kernel_rfl)

noncomputable def I24971 : In := ⟨52, [(pN 13824)], 28778, [q66, (13823, (.map [(tx0, (iN 236), 0)] 1)), q151, q22, q24, q25, q26, q125, q126, (19207, (.cells 1 true [] (T.ofList 0 .leaf [(pN 19205)]))), q152, q72], bT, 28812, [q78, (13823, (.map [(tx0, (iN 237), 0)] 1)), q149, q22, q24, q25, q26, q121, q122, (19207, (.cells 1 true [] (T.ofList 0 .leaf [(pN 19205)]))), q150, q72]⟩
theorem I24971_ok : InOk Tryz.prog I24971 := InOk.of_run (K := K_CY1a) (n := 5000) mixed K_CY1a_ok (by kernel_rfl) (by as_aux_lemma => kernel_rfl)

noncomputable def I24910 : In := ⟨52, [(pN 13824)], 28689, [q78, (13823, (.map [(tx0, (iN 234), 0)] 1)), q155, q22, q24, q25, q26, q80, q81, (19207, (.cells 1 true [] (T.ofList 0 .leaf [(pN 19205)]))), q154, q72], bT, 28751, [q73, (13823, (.map [(tx0, (iN 235), 0)] 1)), q153, q22, q24, q25, q26, q75, q129, (19207, (.cells 1 true [] (T.ofList 0 .leaf [(pN 19205)]))), q154, q72]⟩
theorem I24910_ok : InOk Tryz.prog I24910 := InOk.of_run (K := K_CY1a) (n := 5000) mixed K_CY1a_ok (by kernel_rfl) (by as_aux_lemma => kernel_rfl)

noncomputable def I24888 : In := ⟨52, [(pN 13824)], 28655, [q66, (13823, (.map [(tx0, (iN 233), 0)] 1)), q156, q22, q24, q25, q26, q83, q84, (19207, (.cells 1 true [] (T.ofList 0 .leaf [(pN 19205)]))), q157, q72], bT, 28689, [q78, (13823, (.map [(tx0, (iN 234), 0)] 1)), q155, q22, q24, q25, q26, q80, q81, (19207, (.cells 1 true [] (T.ofList 0 .leaf [(pN 19205)]))), q154, q72]⟩
theorem I24888_ok : InOk Tryz.prog I24888 := InOk.of_run (K := K_CY1a) (n := 5000) mixed K_CY1a_ok (by kernel_rfl) (by as_aux_lemma => kernel_rfl)

noncomputable def I24848 : In := ⟨52, [(pN 13824)], 28589, [q73, (13823, (.map [(tx0, (iN 231), 0)] 1)), q160, q22, q24, q25, q26, q91, q92, (19207, (.cells 1 true [] (T.ofList 0 .leaf [(pN 19205)])))], bT, 28628, [q73, (13823, (.map [(tx0, (iN 232), 0)] 1)), q158, q22, q24, q25, q26, q87, q88, (19207, (.cells 1 true [] (T.ofList 0 .leaf [(pN 19205)])))]⟩
theorem I24848_ok : InOk Tryz.prog I24848 := InOk.of_run (K := K_CY1a) (n := 5000) mixed K_CY1a_ok (by kernel_rfl) (by as_aux_lemma => kernel_rfl)

noncomputable def I24817 : In := ⟨52, [(pN 13824)], 28534, [q73, (13823, (.map [(tx0, (iN 230), 0)] 1)), q161, q22, q24, q25, q26, q94, q95, (19207, (.cells 1 true [] (T.ofList 0 .leaf [(pN 19205)]))), q162, q72], bT, 28589, [q73, (13823, (.map [(tx0, (iN 231), 0)] 1)), q160, q22, q24, q25, q26, q91, q92, (19207, (.cells 1 true [] (T.ofList 0 .leaf [(pN 19205)]))), q159, q72]⟩
theorem I24817_ok : InOk Tryz.prog I24817 := InOk.of_run (K := K_CY1a) (n := 5000) mixed K_CY1a_ok (by kernel_rfl) (by as_aux_lemma => kernel_rfl)

noncomputable def I24791 : In := ⟨52, [(pN 13824)], 28503, [q66, (13823, (.map [(tx0, (iN 229), 0)] 1)), q163, q22, q24, q25, q26, q98, q99, (19207, (.cells 1 true [] (T.ofList 0 .leaf [(pN 19205)]))), q164, q72], bT, 28534, [q73, (13823, (.map [(tx0, (iN 230), 0)] 1)), q161, q22, q24, q25, q26, q94, q95, (19207, (.cells 1 true [] (T.ofList 0 .leaf [(pN 19205)]))), q162, q72]⟩
theorem I24791_ok : InOk Tryz.prog I24791 := InOk.of_run (K := K_CY1a) (n := 5000) mixed K_CY1a_ok (by kernel_rfl) (by as_aux_lemma => kernel_rfl)

noncomputable def I24650 : In := ⟨52, [(pN 13824)], 28357, [q66, (13823, (.map [(tx0, (iN 225), 0)] 1)), q171, q22, q24, q25, q26, q117, q118, (19207, (.cells 1 true [] (T.ofList 0 .leaf [(pN 19205)]))), q172, q72], bT, 28394, [q78, (13823, (.map [(tx0, (iN 226), 0)] 1)), q169, q22, q24, q25, q26, q113, q114, (19207, (.cells 1 true [] (T.ofList 0 .leaf [(pN 19205)]))), q170, q111]⟩
theorem I24650_ok : InOk Tryz.prog I24650 := InOk.of_run (K := K_CY1a) (n := 5000) mixed K_CY1a_ok (by kernel_rfl) (by as_aux_lemma => kernel_rfl)

noncomputable def I24596 : In := ⟨52, [(pN 13824)], 28274, [q66, (13823, (.map [(tx0, (iN 223), 0)] 1)), q175, q22, q24, q25, q26, q125, q126, (19207, (.cells 1 true [] (T.ofList 0 .leaf [(pN 19205)]))), q176, q72], bT, 28308, [q78, (13823, (.map [(tx0, (iN 224), 0)] 1)), q173, q22, q24, q25, q26, q121, q122, (19207, (.cells 1 true [] (T.ofList 0 .leaf [(pN 19205)]))), q174, q72]⟩
theorem I24596_ok : InOk Tryz.prog I24596 := InOk.of_run (K := K_CY1a) (n := 5000) mixed K_CY1a_ok (by kernel_rfl) (by as_aux_lemma => kernel_rfl)

noncomputable def I24535 : In := ⟨52, [(pN 13824)], 28185, [q78, (13823, (.map [(tx0, (iN 221), 0)] 1)), q179, q22, q24, q25, q26, q80, q81, (19207, (.cells 1 true [] (T.ofList 0 .leaf [(pN 19205)]))), q178, q72], bT, 28247, [q73, (13823, (.map [(tx0, (iN 222), 0)] 1)), q177, q22, q24, q25, q26, q75, q129, (19207, (.cells 1 true [] (T.ofList 0 .leaf [(pN 19205)]))), q178, q72]⟩
theorem I24535_ok : InOk Tryz.prog I24535 := InOk.of_run (K := K_CY1a) (n := 5000) mixed K_CY1a_ok (by kernel_rfl) (by as_aux_lemma => kernel_rfl)

noncomputable def I24513 : In := ⟨52, [(pN 13824)], 28151, [q66, (13823, (.map [(tx0, (iN 220), 0)] 1)), q180, q22, q24, q25, q26, q83, q84, (19207, (.cells 1 true [] (T.ofList 0 .leaf [(pN 19205)]))), q181, q72], bT, 28185, [q78, (13823, (.map [(tx0, (iN 221), 0)] 1)), q179, q22, q24, q25, q26, q80, q81, (19207, (.cells 1 true [] (T.ofList 0 .leaf [(pN 19205)]))), q178, q72]⟩
theorem I24513_ok : InOk Tryz.prog I24513 := InOk.of_run (K := K_CY1a) (n := 5000) mixed K_CY1a_ok (by kernel_rfl) (by as_aux_lemma => kernel_rfl)

noncomputable def I24473 : In := ⟨52, [(pN 13824)], 28085, [q73, (13823, (.map [(tx0, (iN 218), 0)] 1)), q184, q22, q24, q25, q26, q91, q92, (19207, (.cells 1 true [] (T.ofList 0 .leaf [(pN 19205)])))], bT, 28124, [q73, (13823, (.map [(tx0, (iN 219), 0)] 1)), q182, q22, q24, q25, q26, q87, q88, (19207, (.cells 1 true [] (T.ofList 0 .leaf [(pN 19205)])))]⟩
theorem I24473_ok : InOk Tryz.prog I24473 := InOk.of_run (K := K_CY1a) (n := 5000) mixed K_CY1a_ok (by kernel_rfl) (by as_aux_lemma => kernel_rfl)

noncomputable def I24442 : In := ⟨52, [(pN 13824)], 28030, [q73, (13823, (.map [(tx0, (iN 217), 0)] 1)), q185, q22, q24, q25, q26, q94, q95, (19207, (.cells 1 true [] (T.ofList 0 .leaf [(pN 19205)]))), q186, q72], bT, 28085, [q73, (13823, (.map [(tx0, (iN 218), 0)] 1)), q184, q22, q24, q25, q26, q91, q92, (19207, (.cells 1 true [] (T.ofList 0 .leaf [(pN 19205)]))), q183, q72]⟩
theorem I24442_ok : InOk Tryz.prog I24442 := InOk.of_run (K := K_CY1a) (n := 5000) mixed K_CY1a_ok (by kernel_rfl) (by as_aux_lemma => kernel_rfl)

noncomputable def I24416 : In := ⟨52, [(pN 13824)], 27999, [q66, (13823, (.map [(tx0, (iN 216), 0)] 1)), q187, q22, q24, q25, q26, q98, q99, (19207, (.cells 1 true [] (T.ofList 0 .leaf [(pN 19205)]))), q188, q72], bT, 28030, [q73, (13823, (.map [(tx0, (iN 217), 0)] 1)), q185, q22, q24, q25, q26, q94, q95, (19207, (.cells 1 true [] (T.ofList 0 .leaf [(pN 19205)]))), q186, q72]⟩
theorem I24416_ok : InOk Tryz.prog I24416 := InOk.of_run (K := K_CY1a) (n := 5000) mixed K_CY1a_ok (by kernel_rfl) (by as_aux_lemma => kernel_rfl)

noncomputable def I24275 : In := ⟨52, [(pN 13824)], 27853, [q66, (13823, (.map [(tx0, (iN 212), 0)] 1)), q195, q22, q24, q25, q26, q117, q118, (19207, (.cells 1 true [] (T.ofList 0 .leaf [(pN 19205)]))), q196, q72], bT, 27890, [q78, (13823, (.map [(tx0, (iN 213), 0)] 1)), q193, q22, q24, q25, q26, q113, q114, (19207, (.cells 1 true [] (T.ofList 0 .leaf [(pN 19205)]))), q194, q111]⟩
theorem I24275_ok : InOk Tryz.prog I24275 := InOk.of_run (K := K_CY1a) (n := 5000) mixed K_CY1a_ok (by kernel_rfl) (by as_aux_lemma => kernel_rfl)

noncomputable def I24221 : In := ⟨52, [(pN 13824)], 27770, [q66, (13823, (.map [(tx0, (iN 210), 0)] 1)), q199, q22, q24, q25, q26, q125, q126, (19207, (.cells 1 true [] (T.ofList 0 .leaf [(pN 19205)]))), q200, q72], bT, 27804, [q78, (13823, (.map [(tx0, (iN 211), 0)] 1)), q197, q22, q24, q25, q26, q121, q122, (19207, (.cells 1 true [] (T.ofList 0 .leaf [(pN 19205)]))), q198, q72]⟩
theorem I24221_ok : InOk Tryz.prog I24221 := InOk.of_run (K := K_CY1a) (n := 5000) mixed K_CY1a_ok (by kernel_rfl) (by as_aux_lemma => kernel_rfl)

noncomputable def I24160 : In := ⟨52, [(pN 13824)], 27681, [q78, (13823, (.map [(tx0, (iN 208), 0)] 1)), q203, q22, q24, q25, q26, q80, q81, (19207, (.cells 1 true [] (T.ofList 0 .leaf [(pN 19205)]))), q202, q72], bT, 27743, [q73, (13823, (.map [(tx0, (iN 209), 0)] 1)), q201, q22, q24, q25, q26, q75, q129, (19207, (.cells 1 true [] (T.ofList 0 .leaf [(pN 19205)]))), q202, q72]⟩
theorem I24160_ok : InOk Tryz.prog I24160 := InOk.of_run (K := K_CY1a) (n := 5000) mixed K_CY1a_ok (by kernel_rfl) (by as_aux_lemma => kernel_rfl)

noncomputable def I24138 : In := ⟨52, [(pN 13824)], 27647, [q66, (13823, (.map [(tx0, (iN 207), 0)] 1)), q204, q22, q24, q25, q26, q83, q84, (19207, (.cells 1 true [] (T.ofList 0 .leaf [(pN 19205)]))), q205, q72], bT, 27681, [q78, (13823, (.map [(tx0, (iN 208), 0)] 1)), q203, q22, q24, q25, q26, q80, q81, (19207, (.cells 1 true [] (T.ofList 0 .leaf [(pN 19205)]))), q202, q72]⟩
theorem I24138_ok : InOk Tryz.prog I24138 := InOk.of_run (K := K_CY1a) (n := 5000) mixed K_CY1a_ok (by kernel_rfl) (by as_aux_lemma => kernel_rfl)

noncomputable def I24098 : In := ⟨52, [(pN 13824)], 27581, [q73, (13823, (.map [(tx0, (iN 205), 0)] 1)), q208, q22, q24, q25, q26, q91, q92, (19207, (.cells 1 true [] (T.ofList 0 .leaf [(pN 19205)])))], bT, 27620, [q73, (13823, (.map [(tx0, (iN 206), 0)] 1)), q206, q22, q24, q25, q26, q87, q88, (19207, (.cells 1 true [] (T.ofList 0 .leaf [(pN 19205)])))]⟩
theorem I24098_ok : InOk Tryz.prog I24098 := InOk.of_run (K := K_CY1a) (n := 5000) mixed K_CY1a_ok (by kernel_rfl) (by as_aux_lemma => kernel_rfl)

noncomputable def I24067 : In := ⟨52, [(pN 13824)], 27526, [q73, (13823, (.map [(tx0, (iN 204), 0)] 1)), q209, q22, q24, q25, q26, q94, q95, (19207, (.cells 1 true [] (T.ofList 0 .leaf [(pN 19205)]))), q210, q72], bT, 27581, [q73, (13823, (.map [(tx0, (iN 205), 0)] 1)), q208, q22, q24, q25, q26, q91, q92, (19207, (.cells 1 true [] (T.ofList 0 .leaf [(pN 19205)]))), q207, q72]⟩
theorem I24067_ok : InOk Tryz.prog I24067 := InOk.of_run (K := K_CY1a) (n := 5000) mixed K_CY1a_ok (by kernel_rfl) (by as_aux_lemma => kernel_rfl)

noncomputable def I24041 : In := ⟨52, [(pN 13824)], 27495, [q66, (13823, (.map [(tx0, (iN 203), 0)] 1)), q211, q22, q24, q25, q26, q98, q99, (19207, (.cells 1 true [] (T.ofList 0 .leaf [(pN 19205)]))), q212, q72], bT, 27526, [q73, (13823, (.map [(tx0, (iN 204), 0)] 1)), q209, q22, q24, q25, q26, q94, q95, (19207, (.cells 1 true [] (T.ofList 0 .leaf [(pN 19205)]))), q210, q72]⟩
theorem I24041_ok : InOk Tryz.prog I24041 := InOk.of_run (K := K_CY1a) (n := 5000) mixed K_CY1a_ok (by kernel_rfl) (by as_aux_lemma => kernel_rfl)

noncomputable def I23900 : In := ⟨52, [(pN 13824)], 27349, [q66, (13823, (.map [(tx0, (iN 199), 0)] 1)), q219, q22, q24, q25, q26, q117, q118, (19207, (.cells 1 true [] (T.ofList 0 .leaf [(pN 19205)]))), q220, q72], bT, 27386, [q78, (13823, (.map [(tx0, (iN 200), 0)] 1)), q217, q22, q24, q25, q26, q113, q114, (19207, (.cells 1 true [] (T.ofList 0 .leaf [(pN 19205)]))), q218, q111]⟩
theorem I23900_ok : InOk Tryz.prog I23900 := InOk.of_run (K := K_CY1a) (n := 5000) mixed K_CY1a_ok (by kernel_rfl) (by as_aux_lemma => kernel_rfl)

noncomputable def I23846 : In := ⟨52, [(pN 13824)], 27266, [q66, (13823, (.map [(tx0, (iN 197), 0)] 1)), q223, q22, q24, q25, q26, q125, q126, (19207, (.cells 1 true [] (T.ofList 0 .leaf [(pN 19205)]))), q224, q72], bT, 27300, [q78, (13823, (.map [(tx0, (iN 198), 0)] 1)), q221, q22, q24, q25, q26, q121, q122, (19207, (.cells 1 true [] (T.ofList 0 .leaf [(pN 19205)]))), q222, q72]⟩
theorem I23846_ok : InOk Tryz.prog I23846 := InOk.of_run (K := K_CY1a) (n := 5000) mixed K_CY1a_ok (by kernel_rfl) (by as_aux_lemma => kernel_rfl)

noncomputable def I23785 : In := ⟨52, [(pN 13824)], 27177, [q78, (13823, (.map [(tx0, (iN 195), 0)] 1)), q227, q22, q24, q25, q26, q80, q81, (19207, (.cells 1 true [] (T.ofList 0 .leaf [(pN 19205)]))), q226, q72], bT, 27239, [q73, (13823, (.map [(tx0, (iN 196), 0)] 1)), q225, q22, q24, q25, q26, q75, q129, (19207, (.cells 1 true [] (T.ofList 0 .leaf [(pN 19205)]))), q226, q72]⟩
theorem I23785_ok : InOk Tryz.prog I23785 := InOk.of_run (K := K_CY1a) (n := 5000) mixed K_CY1a_ok (by kernel_rfl) (by as_aux_lemma => kernel_rfl)

noncomputable def I23763 : In := ⟨52, [(pN 13824)], 27143, [q66, (13823, (.map [(tx0, (iN 194), 0)] 1)), q228, q22, q24, q25, q26, q83, q84, (19207, (.cells 1 true [] (T.ofList 0 .leaf [(pN 19205)]))), q229, q72], bT, 27177, [q78, (13823, (.map [(tx0, (iN 195), 0)] 1)), q227, q22, q24, q25, q26, q80, q81, (19207, (.cells 1 true [] (T.ofList 0 .leaf [(pN 19205)]))), q226, q72]⟩
theorem I23763_ok : InOk Tryz.prog I23763 := InOk.of_run (K := K_CY1a) (n := 5000) mixed K_CY1a_ok (by kernel_rfl) (by as_aux_lemma => kernel_rfl)

noncomputable def I23723 : In := ⟨52, [(pN 13824)], 27077, [q73, (13823, (.map [(tx0, (iN 192), 0)] 1)), q232, q22, q24, q25, q26, q91, q92, (19207, (.cells 1 true [] (T.ofList 0 .leaf [(pN 19205)])))], bT, 27116, [q73, (13823, (.map [(tx0, (iN 193), 0)] 1)), q230, q22, q24, q25, q26, q87, q88, (19207, (.cells 1 true [] (T.ofList 0 .leaf [(pN 19205)])))]⟩
theorem I23723_ok : InOk Tryz.prog I23723 := InOk.of_run (K := K_CY1a) (n := 5000) mixed K_CY1a_ok (by kernel_rfl) (by as_aux_lemma => kernel_rfl)

noncomputable def I23692 : In := ⟨52, [(pN 13824)], 27022, [q73, (13823, (.map [(tx0, (iN 191), 0)] 1)), q233, q22, q24, q25, q26, q94, q95, (19207, (.cells 1 true [] (T.ofList 0 .leaf [(pN 19205)]))), q234, q72], bT, 27077, [q73, (13823, (.map [(tx0, (iN 192), 0)] 1)), q232, q22, q24, q25, q26, q91, q92, (19207, (.cells 1 true [] (T.ofList 0 .leaf [(pN 19205)]))), q231, q72]⟩
theorem I23692_ok : InOk Tryz.prog I23692 := InOk.of_run (K := K_CY1a) (n := 5000) mixed K_CY1a_ok (by kernel_rfl) (by as_aux_lemma => kernel_rfl)

noncomputable def I23666 : In := ⟨52, [(pN 13824)], 26991, [q66, (13823, (.map [(tx0, (iN 190), 0)] 1)), q235, q22, q24, q25, q26, q98, q99, (19207, (.cells 1 true [] (T.ofList 0 .leaf [(pN 19205)]))), q236, q72], bT, 27022, [q73, (13823, (.map [(tx0, (iN 191), 0)] 1)), q233, q22, q24, q25, q26, q94, q95, (19207, (.cells 1 true [] (T.ofList 0 .leaf [(pN 19205)]))), q234, q72]⟩
theorem I23666_ok : InOk Tryz.prog I23666 := InOk.of_run (K := K_CY1a) (n := 5000) mixed K_CY1a_ok (by kernel_rfl) (by as_aux_lemma => kernel_rfl)

noncomputable def I23525 : In := ⟨52, [(pN 13824)], 26845, [q66, (13823, (.map [(tx0, (iN 186), 0)] 1)), q243, q22, q24, q25, q26, q117, q118, (19207, (.cells 1 true [] (T.ofList 0 .leaf [(pN 19205)]))), q244, q72], bT, 26882, [q78, (13823, (.map [(tx0, (iN 187), 0)] 1)), q241, q22, q24, q25, q26, q113, q114, (19207, (.cells 1 true [] (T.ofList 0 .leaf [(pN 19205)]))), q242, q111]⟩
theorem I23525_ok : InOk Tryz.prog I23525 := InOk.of_run (K := K_CY1a) (n := 5000) mixed K_CY1a_ok (by kernel_rfl) (by as_aux_lemma => kernel_rfl)

noncomputable def I23471 : In := ⟨52, [(pN 13824)], 26762, [q66, (13823, (.map [(tx0, (iN 184), 0)] 1)), q247, q22, q24, q25, q26, q125, q126, (19207, (.cells 1 true [] (T.ofList 0 .leaf [(pN 19205)]))), q248, q72], bT, 26796, [q78, (13823, (.map [(tx0, (iN 185), 0)] 1)), q245, q22, q24, q25, q26, q121, q122, (19207, (.cells 1 true [] (T.ofList 0 .leaf [(pN 19205)]))), q246, q72]⟩
theorem I23471_ok : InOk Tryz.prog I23471 := InOk.of_run (K := K_CY1a) (n := 5000) mixed K_CY1a_ok (by kernel_rfl) (by as_aux_lemma => kernel_rfl)
noncomputable def H_CY1a : Hand := (Hand.at 52 (Hand.sp 28274 (Hand.sp 27526 (Hand.sp 27143 (Hand.sp 26991 ((inHand I23525).or (inHand I23471)) (Hand.sp 27022 (inHand I23666) ((inHand I23723).or (inHand I23692)))) (Hand.sp 27266 ((inHand I23785).or (inHand I23763)) (Hand.sp 27349 (inHand I23846) ((inHand I24041).or (inHand I23900))))) (Hand.sp 27853 (Hand.sp 27647 ((inHand I24098).or (inHand I24067)) (Hand.sp 27681 (inHand I24138) ((inHand I24221).or (inHand I24160)))) (Hand.sp 28085 (Hand.sp 27999 (inHand I24275) ((inHand I24442).or (inHand I24416))) (Hand.sp 28151 (inHand I24473) ((inHand I24535).or (inHand I24513)))))) (Hand.sp 29093 (Hand.sp 28655 (Hand.sp 28503 ((inHand I24650).or (inHand I24596)) (Hand.sp 28534 (inHand I24791) ((inHand I24848).or (inHand I24817)))) (Hand.sp 28861 (Hand.sp 28689 (inHand I24888) ((inHand I24971).or (inHand I24910))) (Hand.sp 29007 (inHand I25025) ((inHand I25192).or (inHand I25166))))) (Hand.sp 29511 (Hand.sp 29193 ((inHand I25263).or (inHand I25223)) (Hand.sp 29282 (inHand I25285) ((inHand I25400).or (inHand I25346)))) (Hand.sp 29663 (Hand.sp 29542 (inHand I25541) ((inHand I25598).or (inHand I25567))) (Hand.sp 29697 (inHand I25638) ((inHand I25714).or (inHand I25660))))))))
theorem H_CY1a_ok : HandOk Tryz.prog H_CY1a := (HandOk.at 52 (HandOk.sp 28274 (HandOk.sp 27526 (HandOk.sp 27143 (HandOk.sp 26991 (HandOk.or (inHand_ok I23525_ok (by kernel_rfl)) (inHand_ok I23471_ok (by kernel_rfl))) (HandOk.sp 27022 (inHand_ok I23666_ok (by kernel_rfl)) (HandOk.or (inHand_ok I23723_ok (by kernel_rfl)) (inHand_ok I23692_ok (by kernel_rfl))))) (HandOk.sp 27266 (HandOk.or (inHand_ok I23785_ok (by kernel_rfl)) (inHand_ok I23763_ok (by kernel_rfl))) (HandOk.sp 27349 (inHand_ok I23846_ok (by kernel_rfl)) (HandOk.or (inHand_ok I24041_ok (by kernel_rfl)) (inHand_ok I23900_ok (by kernel_rfl)))))) (HandOk.sp 27853 (HandOk.sp 27647 (HandOk.or (inHand_ok I24098_ok (by kernel_rfl)) (inHand_ok I24067_ok (by kernel_rfl))) (HandOk.sp 27681 (inHand_ok I24138_ok (by kernel_rfl)) (HandOk.or (inHand_ok I24221_ok (by kernel_rfl)) (inHand_ok I24160_ok (by kernel_rfl))))) (HandOk.sp 28085 (HandOk.sp 27999 (inHand_ok I24275_ok (by kernel_rfl)) (HandOk.or (inHand_ok I24442_ok (by kernel_rfl)) (inHand_ok I24416_ok (by kernel_rfl)))) (HandOk.sp 28151 (inHand_ok I24473_ok (by kernel_rfl)) (HandOk.or (inHand_ok I24535_ok (by kernel_rfl)) (inHand_ok I24513_ok (by kernel_rfl))))))) (HandOk.sp 29093 (HandOk.sp 28655 (HandOk.sp 28503 (HandOk.or (inHand_ok I24650_ok (by kernel_rfl)) (inHand_ok I24596_ok (by kernel_rfl))) (HandOk.sp 28534 (inHand_ok I24791_ok (by kernel_rfl)) (HandOk.or (inHand_ok I24848_ok (by kernel_rfl)) (inHand_ok I24817_ok (by kernel_rfl))))) (HandOk.sp 28861 (HandOk.sp 28689 (inHand_ok I24888_ok (by kernel_rfl)) (HandOk.or (inHand_ok I24971_ok (by kernel_rfl)) (inHand_ok I24910_ok (by kernel_rfl)))) (HandOk.sp 29007 (inHand_ok I25025_ok (by kernel_rfl)) (HandOk.or (inHand_ok I25192_ok (by kernel_rfl)) (inHand_ok I25166_ok (by kernel_rfl)))))) (HandOk.sp 29511 (HandOk.sp 29193 (HandOk.or (inHand_ok I25263_ok (by kernel_rfl)) (inHand_ok I25223_ok (by kernel_rfl))) (HandOk.sp 29282 (inHand_ok I25285_ok (by kernel_rfl)) (HandOk.or (inHand_ok I25400_ok (by kernel_rfl)) (inHand_ok I25346_ok (by kernel_rfl))))) (HandOk.sp 29663 (HandOk.sp 29542 (inHand_ok I25541_ok (by kernel_rfl)) (HandOk.or (inHand_ok I25598_ok (by kernel_rfl)) (inHand_ok I25567_ok (by kernel_rfl)))) (HandOk.sp 29697 (inHand_ok I25638_ok (by kernel_rfl)) (HandOk.or (inHand_ok I25714_ok (by kernel_rfl)) (inHand_ok I25660_ok (by kernel_rfl)))))))))
end Go.Proofs.YthgncmohimdbmaaGreatDoor.cy
