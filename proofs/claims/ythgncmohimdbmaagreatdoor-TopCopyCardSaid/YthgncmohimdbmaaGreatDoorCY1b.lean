/-
  Contracts of calls, by the kernel.
-/
import Derived.Test.YthgncmohimdbmaaGreatDoorCYNN
import Derived.Test.YthgncmohimdbmaaGreatDoorXN3
import Derived.Test.YthgncmohimdbmaaGreatDoorProg
import Derived.KernelRfl
import Derived.Test.YthgncmohimdbmaaGreatDoorCY0a
import Derived.Test.YthgncmohimdbmaaGreatDoorCY0b
set_option linter.unusedSectionVars false
set_option linter.unusedVariables false
set_option maxRecDepth 1000000
set_option maxHeartbeats 0
namespace Go.Proofs.YthgncmohimdbmaaGreatDoor.cy
open Go.X Go.RowKit
variable [Tab]
noncomputable def K_CY1b : Hand := H_CY0b
theorem K_CY1b_ok : HandOk Tryz.prog K_CY1b := H_CY0b_ok

noncomputable def I23410 : In := ⟨52, [(pN 13824)], 26673, [q78, (13823, (.map [(tx0, (iN 182), 0)] 1)), q251, q22, q24, q25, q26, q80, q81, (19207, (.cells 1 true [] (T.ofList 0 .leaf [(pN 19205)]))), q250, q72], bT, 26735, [q73, (13823, (.map [(tx0, (iN 183), 0)] 1)), q249, q22, q24, q25, q26, q75, q129, (19207, (.cells 1 true [] (T.ofList 0 .leaf [(pN 19205)]))), q250, q72]⟩
theorem I23410_ok : InOk Tryz.prog I23410 := InOk.of_run (K := K_CY1b) (n := 5000) mixed K_CY1b_ok (by kernel_rfl) (by as_aux_lemma => kernel_rfl)

noncomputable def I23388 : In := ⟨52, [(pN 13824)], 26639, [q66, (13823, (.map [(tx0, (iN 181), 0)] 1)), q252, q22, q24, q25, q26, q83, q84, (19207, (.cells 1 true [] (T.ofList 0 .leaf [(pN 19205)]))), q253, q72], bT, 26673, [q78, (13823, (.map [(tx0, (iN 182), 0)] 1)), q251, q22, q24, q25, q26, q80, q81, (19207, (.cells 1 true [] (T.ofList 0 .leaf [(pN 19205)]))), q250, q72]⟩
theorem I23388_ok : InOk Tryz.prog I23388 := InOk.of_run (K := K_CY1b) (n := 5000) mixed K_CY1b_ok (by kernel_rfl) (by as_aux_lemma => kernel_rfl)

noncomputable def I23348 : In := ⟨52, [(pN 13824)], 26573, [q73, (13823, (.map [(tx0, (iN 179), 0)] 1)), q256, q22, q24, q25, q26, q91, q92, (19207, (.cells 1 true [] (T.ofList 0 .leaf [(pN 19205)])))], bT, 26612, [q73, (13823, (.map [(tx0, (iN 180), 0)] 1)), q254, q22, q24, q25, q26, q87, q88, (19207, (.cells 1 true [] (T.ofList 0 .leaf [(pN 19205)])))]⟩
theorem I23348_ok : InOk Tryz.prog I23348 := InOk.of_run (K := K_CY1b) (n := 5000) mixed K_CY1b_ok (by kernel_rfl) (by as_aux_lemma => kernel_rfl)

noncomputable def I23317 : In := ⟨52, [(pN 13824)], 26518, [q73, (13823, (.map [(tx0, (iN 178), 0)] 1)), q257, q22, q24, q25, q26, q94, q95, (19207, (.cells 1 true [] (T.ofList 0 .leaf [(pN 19205)]))), q258, q72], bT, 26573, [q73, (13823, (.map [(tx0, (iN 179), 0)] 1)), q256, q22, q24, q25, q26, q91, q92, (19207, (.cells 1 true [] (T.ofList 0 .leaf [(pN 19205)]))), q255, q72]⟩
theorem I23317_ok : InOk Tryz.prog I23317 := InOk.of_run (K := K_CY1b) (n := 5000) mixed K_CY1b_ok (by kernel_rfl) (by as_aux_lemma => kernel_rfl)

noncomputable def I23291 : In := ⟨52, [(pN 13824)], 26487, [q66, (13823, (.map [(tx0, (iN 177), 0)] 1)), q259, q22, q24, q25, q26, q98, q99, (19207, (.cells 1 true [] (T.ofList 0 .leaf [(pN 19205)]))), q260, q72], bT, 26518, [q73, (13823, (.map [(tx0, (iN 178), 0)] 1)), q257, q22, q24, q25, q26, q94, q95, (19207, (.cells 1 true [] (T.ofList 0 .leaf [(pN 19205)]))), q258, q72]⟩
theorem I23291_ok : InOk Tryz.prog I23291 := InOk.of_run (K := K_CY1b) (n := 5000) mixed K_CY1b_ok (by kernel_rfl) (by as_aux_lemma => kernel_rfl)

noncomputable def I23150 : In := ⟨52, [(pN 13824)], 26341, [q66, (13823, (.map [(tx0, (iN 173), 0)] 1)), q267, q22, q24, q25, q26, q117, q118, (19207, (.cells 1 true [] (T.ofList 0 .leaf [(pN 19205)]))), q268, q72], bT, 26378, [q78, (13823, (.map [(tx0, (iN 174), 0)] 1)), q265, q22, q24, q25, q26, q113, q114, (19207, (.cells 1 true [] (T.ofList 0 .leaf [(pN 19205)]))), q266, q111]⟩
theorem I23150_ok : InOk Tryz.prog I23150 := InOk.of_run (K := K_CY1b) (n := 5000) mixed K_CY1b_ok (by kernel_rfl) (by as_aux_lemma => kernel_rfl)

noncomputable def I23096 : In := ⟨52, [(pN 13824)], 26258, [q66, (13823, (.map [(tx0, (iN 171), 0)] 1)), q271, q22, q24, q25, q26, q125, q126, (19207, (.cells 1 true [] (T.ofList 0 .leaf [(pN 19205)]))), q272, q72], bT, 26292, [q78, (13823, (.map [(tx0, (iN 172), 0)] 1)), q269, q22, q24, q25, q26, q121, q122, (19207, (.cells 1 true [] (T.ofList 0 .leaf [(pN 19205)]))), q270, q72]⟩
theorem I23096_ok : InOk Tryz.prog I23096 := InOk.of_run (K := K_CY1b) (n := 5000) mixed K_CY1b_ok (by kernel_rfl) (by as_aux_lemma => kernel_rfl)

noncomputable def I23035 : In := ⟨52, [(pN 13824)], 26169, [q78, (13823, (.map [(tx0, (iN 169), 0)] 1)), q275, q22, q24, q25, q26, q80, q81, (19207, (.cells 1 true [] (T.ofList 0 .leaf [(pN 19205)]))), q274, q72], bT, 26231, [q73, (13823, (.map [(tx0, (iN 170), 0)] 1)), q273, q22, q24, q25, q26, q75, q129, (19207, (.cells 1 true [] (T.ofList 0 .leaf [(pN 19205)]))), q274, q72]⟩
theorem I23035_ok : InOk Tryz.prog I23035 := InOk.of_run (K := K_CY1b) (n := 5000) mixed K_CY1b_ok (by kernel_rfl) (by as_aux_lemma => kernel_rfl)

noncomputable def I23013 : In := ⟨52, [(pN 13824)], 26135, [q66, (13823, (.map [(tx0, (iN 168), 0)] 1)), q276, q22, q24, q25, q26, q83, q84, (19207, (.cells 1 true [] (T.ofList 0 .leaf [(pN 19205)]))), q277, q72], bT, 26169, [q78, (13823, (.map [(tx0, (iN 169), 0)] 1)), q275, q22, q24, q25, q26, q80, q81, (19207, (.cells 1 true [] (T.ofList 0 .leaf [(pN 19205)]))), q274, q72]⟩
theorem I23013_ok : InOk Tryz.prog I23013 := InOk.of_run (K := K_CY1b) (n := 5000) mixed K_CY1b_ok (by kernel_rfl) (by as_aux_lemma => kernel_rfl)

noncomputable def I22973 : In := ⟨52, [(pN 13824)], 26069, [q73, (13823, (.map [(tx0, (iN 166), 0)] 1)), q280, q22, q24, q25, q26, q91, q92, (19207, (.cells 1 true [] (T.ofList 0 .leaf [(pN 19205)])))], bT, 26108, [q73, (13823, (.map [(tx0, (iN 167), 0)] 1)), q278, q22, q24, q25, q26, q87, q88, (19207, (.cells 1 true [] (T.ofList 0 .leaf [(pN 19205)])))]⟩
theorem I22973_ok : InOk Tryz.prog I22973 := InOk.of_run (K := K_CY1b) (n := 5000) mixed K_CY1b_ok (by kernel_rfl) (by as_aux_lemma => kernel_rfl)

noncomputable def I22942 : In := ⟨52, [(pN 13824)], 26014, [q73, (13823, (.map [(tx0, (iN 165), 0)] 1)), q281, q22, q24, q25, q26, q94, q95, (19207, (.cells 1 true [] (T.ofList 0 .leaf [(pN 19205)]))), q282, q72], bT, 26069, [q73, (13823, (.map [(tx0, (iN 166), 0)] 1)), q280, q22, q24, q25, q26, q91, q92, (19207, (.cells 1 true [] (T.ofList 0 .leaf [(pN 19205)]))), q279, q72]⟩
theorem I22942_ok : InOk Tryz.prog I22942 := InOk.of_run (K := K_CY1b) (n := 5000) mixed K_CY1b_ok (by kernel_rfl) (by as_aux_lemma => kernel_rfl)

noncomputable def I22916 : In := ⟨52, [(pN 13824)], 25983, [q66, (13823, (.map [(tx0, (iN 164), 0)] 1)), q283, q22, q24, q25, q26, q98, q99, (19207, (.cells 1 true [] (T.ofList 0 .leaf [(pN 19205)]))), q284, q72], bT, 26014, [q73, (13823, (.map [(tx0, (iN 165), 0)] 1)), q281, q22, q24, q25, q26, q94, q95, (19207, (.cells 1 true [] (T.ofList 0 .leaf [(pN 19205)]))), q282, q72]⟩
theorem I22916_ok : InOk Tryz.prog I22916 := InOk.of_run (K := K_CY1b) (n := 5000) mixed K_CY1b_ok (by kernel_rfl) (by as_aux_lemma => kernel_rfl)

noncomputable def I22775 : In := ⟨52, [(pN 13824)], 25837, [q66, (13823, (.map [(tx0, (iN 160), 0)] 1)), q291, q22, q24, q25, q26, q117, q118, (19207, (.cells 1 true [] (T.ofList 0 .leaf [(pN 19205)]))), q292, q72], bT, 25874, [q78, (13823, (.map [(tx0, (iN 161), 0)] 1)), q289, q22, q24, q25, q26, q113, q114, (19207, (.cells 1 true [] (T.ofList 0 .leaf [(pN 19205)]))), q290, q111]⟩
theorem I22775_ok : InOk Tryz.prog I22775 := InOk.of_run (K := K_CY1b) (n := 5000) mixed K_CY1b_ok (by kernel_rfl) (by as_aux_lemma => kernel_rfl)

noncomputable def I22721 : In := ⟨52, [(pN 13824)], 25754, [q66, (13823, (.map [(tx0, (iN 158), 0)] 1)), q295, q22, q24, q25, q26, q125, q126, (19207, (.cells 1 true [] (T.ofList 0 .leaf [(pN 19205)]))), q296, q72], bT, 25788, [q78, (13823, (.map [(tx0, (iN 159), 0)] 1)), q293, q22, q24, q25, q26, q121, q122, (19207, (.cells 1 true [] (T.ofList 0 .leaf [(pN 19205)]))), q294, q72]⟩
theorem I22721_ok : InOk Tryz.prog I22721 := InOk.of_run (K := K_CY1b) (n := 5000) mixed K_CY1b_ok (by kernel_rfl) (by as_aux_lemma => kernel_rfl)

noncomputable def I22660 : In := ⟨52, [(pN 13824)], 25665, [q78, (13823, (.map [(tx0, (iN 156), 0)] 1)), q299, q22, q24, q25, q26, q80, q81, (19207, (.cells 1 true [] (T.ofList 0 .leaf [(pN 19205)]))), q298, q72], bT, 25727, [q73, (13823, (.map [(tx0, (iN 157), 0)] 1)), q297, q22, q24, q25, q26, q75, q129, (19207, (.cells 1 true [] (T.ofList 0 .leaf [(pN 19205)]))), q298, q72]⟩
theorem I22660_ok : InOk Tryz.prog I22660 := InOk.of_run (K := K_CY1b) (n := 5000) mixed K_CY1b_ok (by kernel_rfl) (by as_aux_lemma => kernel_rfl)

noncomputable def I22638 : In := ⟨52, [(pN 13824)], 25631, [q66, (13823, (.map [(tx0, (iN 155), 0)] 1)), q300, q22, q24, q25, q26, q83, q84, (19207, (.cells 1 true [] (T.ofList 0 .leaf [(pN 19205)]))), q301, q72], bT, 25665, [q78, (13823, (.map [(tx0, (iN 156), 0)] 1)), q299, q22, q24, q25, q26, q80, q81, (19207, (.cells 1 true [] (T.ofList 0 .leaf [(pN 19205)]))), q298, q72]⟩
theorem I22638_ok : InOk Tryz.prog I22638 := InOk.of_run (K := K_CY1b) (n := 5000) mixed K_CY1b_ok (by kernel_rfl) (by as_aux_lemma => kernel_rfl)

noncomputable def I22598 : In := ⟨52, [(pN 13824)], 25565, [q73, (13823, (.map [(tx0, (iN 153), 0)] 1)), q304, q22, q24, q25, q26, q91, q92, (19207, (.cells 1 true [] (T.ofList 0 .leaf [(pN 19205)])))], bT, 25604, [q73, (13823, (.map [(tx0, (iN 154), 0)] 1)), q302, q22, q24, q25, q26, q87, q88, (19207, (.cells 1 true [] (T.ofList 0 .leaf [(pN 19205)])))]⟩
theorem I22598_ok : InOk Tryz.prog I22598 := InOk.of_run (K := K_CY1b) (n := 5000) mixed K_CY1b_ok (by kernel_rfl) (by as_aux_lemma => kernel_rfl)

noncomputable def I22567 : In := ⟨52, [(pN 13824)], 25510, [q73, (13823, (.map [(tx0, (iN 152), 0)] 1)), q305, q22, q24, q25, q26, q94, q95, (19207, (.cells 1 true [] (T.ofList 0 .leaf [(pN 19205)]))), q306, q72], bT, 25565, [q73, (13823, (.map [(tx0, (iN 153), 0)] 1)), q304, q22, q24, q25, q26, q91, q92, (19207, (.cells 1 true [] (T.ofList 0 .leaf [(pN 19205)]))), q303, q72]⟩
theorem I22567_ok : InOk Tryz.prog I22567 := InOk.of_run (K := K_CY1b) (n := 5000) mixed K_CY1b_ok (by kernel_rfl) (by as_aux_lemma => kernel_rfl)

noncomputable def I22541 : In := ⟨52, [(pN 13824)], 25479, [q66, (13823, (.map [(tx0, (iN 151), 0)] 1)), q307, q22, q24, q25, q26, q98, q99, (19207, (.cells 1 true [] (T.ofList 0 .leaf [(pN 19205)]))), q308, q72], bT, 25510, [q73, (13823, (.map [(tx0, (iN 152), 0)] 1)), q305, q22, q24, q25, q26, q94, q95, (19207, (.cells 1 true [] (T.ofList 0 .leaf [(pN 19205)]))), q306, q72]⟩
theorem I22541_ok : InOk Tryz.prog I22541 := InOk.of_run (K := K_CY1b) (n := 5000) mixed K_CY1b_ok (by kernel_rfl) (by as_aux_lemma => kernel_rfl)

noncomputable def I22400 : In := ⟨52, [(pN 13824)], 25333, [q66, (13823, (.map [(tx0, (iN 147), 0)] 1)), q315, q22, q24, q25, q26, q117, q118, (19207, (.cells 1 true [] (T.ofList 0 .leaf [(pN 19205)]))), q316, q72], bT, 25370, [q78, (13823, (.map [(tx0, (iN 148), 0)] 1)), q313, q22, q24, q25, q26, q113, q114, (19207, (.cells 1 true [] (T.ofList 0 .leaf [(pN 19205)]))), q314, q111]⟩
theorem I22400_ok : InOk Tryz.prog I22400 := InOk.of_run (K := K_CY1b) (n := 5000) mixed K_CY1b_ok (by kernel_rfl) (by as_aux_lemma => kernel_rfl)

noncomputable def I22346 : In := ⟨52, [(pN 13824)], 25250, [q66, (13823, (.map [(tx0, (iN 145), 0)] 1)), q319, q22, q24, q25, q26, q125, q126, (19207, (.cells 1 true [] (T.ofList 0 .leaf [(pN 19205)]))), q320, q72], bT, 25284, [q78, (13823, (.map [(tx0, (iN 146), 0)] 1)), q317, q22, q24, q25, q26, q121, q122, (19207, (.cells 1 true [] (T.ofList 0 .leaf [(pN 19205)]))), q318, q72]⟩
theorem I22346_ok : InOk Tryz.prog I22346 := InOk.of_run (K := K_CY1b) (n := 5000) mixed K_CY1b_ok (by kernel_rfl) (by as_aux_lemma => kernel_rfl)

noncomputable def I22285 : In := ⟨52, [(pN 13824)], 25161, [q78, (13823, (.map [(tx0, (iN 143), 0)] 1)), q323, q22, q24, q25, q26, q80, q81, (19207, (.cells 1 true [] (T.ofList 0 .leaf [(pN 19205)]))), q322, q72], bT, 25223, [q73, (13823, (.map [(tx0, (iN 144), 0)] 1)), q321, q22, q24, q25, q26, q75, q129, (19207, (.cells 1 true [] (T.ofList 0 .leaf [(pN 19205)]))), q322, q72]⟩
theorem I22285_ok : InOk Tryz.prog I22285 := InOk.of_run (K := K_CY1b) (n := 5000) mixed K_CY1b_ok (by kernel_rfl) (by as_aux_lemma => kernel_rfl)

noncomputable def I22263 : In := ⟨52, [(pN 13824)], 25127, [q66, (13823, (.map [(tx0, (iN 142), 0)] 1)), q324, q22, q24, q25, q26, q83, q84, (19207, (.cells 1 true [] (T.ofList 0 .leaf [(pN 19205)]))), q325, q72], bT, 25161, [q78, (13823, (.map [(tx0, (iN 143), 0)] 1)), q323, q22, q24, q25, q26, q80, q81, (19207, (.cells 1 true [] (T.ofList 0 .leaf [(pN 19205)]))), q322, q72]⟩
theorem I22263_ok : InOk Tryz.prog I22263 := InOk.of_run (K := K_CY1b) (n := 5000) mixed K_CY1b_ok (by kernel_rfl) (by as_aux_lemma => kernel_rfl)

noncomputable def I22223 : In := ⟨52, [(pN 13824)], 25061, [q73, (13823, (.map [(tx0, (iN 140), 0)] 1)), q328, q22, q24, q25, q26, q91, q92, (19207, (.cells 1 true [] (T.ofList 0 .leaf [(pN 19205)])))], bT, 25100, [q73, (13823, (.map [(tx0, (iN 141), 0)] 1)), q326, q22, q24, q25, q26, q87, q88, (19207, (.cells 1 true [] (T.ofList 0 .leaf [(pN 19205)])))]⟩
theorem I22223_ok : InOk Tryz.prog I22223 := InOk.of_run (K := K_CY1b) (n := 5000) mixed K_CY1b_ok (by kernel_rfl) (by as_aux_lemma => kernel_rfl)

noncomputable def I22192 : In := ⟨52, [(pN 13824)], 25006, [q73, (13823, (.map [(tx0, (iN 139), 0)] 1)), q329, q22, q24, q25, q26, q94, q95, (19207, (.cells 1 true [] (T.ofList 0 .leaf [(pN 19205)]))), q330, q72], bT, 25061, [q73, (13823, (.map [(tx0, (iN 140), 0)] 1)), q328, q22, q24, q25, q26, q91, q92, (19207, (.cells 1 true [] (T.ofList 0 .leaf [(pN 19205)]))), q327, q72]⟩
theorem I22192_ok : InOk Tryz.prog I22192 := InOk.of_run (K := K_CY1b) (n := 5000) mixed K_CY1b_ok (by kernel_rfl) (by as_aux_lemma => kernel_rfl)

noncomputable def I22166 : In := ⟨52, [(pN 13824)], 24975, [q66, (13823, (.map [(tx0, (iN 138), 0)] 1)), q331, q22, q24, q25, q26, q98, q99, (19207, (.cells 1 true [] (T.ofList 0 .leaf [(pN 19205)]))), q332, q72], bT, 25006, [q73, (13823, (.map [(tx0, (iN 139), 0)] 1)), q329, q22, q24, q25, q26, q94, q95, (19207, (.cells 1 true [] (T.ofList 0 .leaf [(pN 19205)]))), q330, q72]⟩
theorem I22166_ok : InOk Tryz.prog I22166 := InOk.of_run (K := K_CY1b) (n := 5000) mixed K_CY1b_ok (by kernel_rfl) (by as_aux_lemma => kernel_rfl)

noncomputable def I22025 : In := ⟨52, [(pN 13824)], 24829, [q66, (13823, (.map [(tx0, (iN 134), 0)] 1)), q340, q22, q24, q25, q26, q117, q118, (19207, (.cells 1 true [] (T.ofList 0 .leaf [(pN 19205)]))), q341, q342], bT, 24866, [q78, (13823, (.map [(tx0, (iN 135), 0)] 1)), q337, q22, q24, q25, q26, q113, q114, (19207, (.cells 1 true [] (T.ofList 0 .leaf [(pN 19205)]))), q338, q339]⟩
theorem I22025_ok : InOk Tryz.prog I22025 := InOk.of_run (K := K_CY1b) (n := 5000) mixed K_CY1b_ok (by kernel_rfl) (by as_aux_lemma => kernel_rfl)

noncomputable def I21993 : In := ⟨52, [(pN 13824)], 24780, [q78, (13823, (.map [(tx0, (iN 133), 0)] 1)), q343, q22, q24, q25, q26, q121, q122, (19207, (.cells 1 true [] (T.ofList 0 .leaf [(pN 19205)]))), q341, q342], bT, 24829, [q66, (13823, (.map [(tx0, (iN 134), 0)] 1)), q340, q22, q24, q25, q26, q117, q118, (19207, (.cells 1 true [] (T.ofList 0 .leaf [(pN 19205)]))), q341, q342]⟩
theorem I21993_ok : InOk Tryz.prog I21993 := InOk.of_run (K := K_CY1b) (n := 5000) mixed K_CY1b_ok (by kernel_rfl) (by as_aux_lemma => kernel_rfl)

noncomputable def I21971 : In := ⟨52, [(pN 13824)], 24746, [q66, (13823, (.map [(tx0, (iN 132), 0)] 1)), q344, q22, q24, q25, q26, q125, q126, (19207, (.cells 1 true [] (T.ofList 0 .leaf [(pN 19205)]))), q345, q342], bT, 24780, [q78, (13823, (.map [(tx0, (iN 133), 0)] 1)), q343, q22, q24, q25, q26, q121, q122, (19207, (.cells 1 true [] (T.ofList 0 .leaf [(pN 19205)]))), q341, q342]⟩
theorem I21971_ok : InOk Tryz.prog I21971 := InOk.of_run (K := K_CY1b) (n := 5000) mixed K_CY1b_ok (by kernel_rfl) (by as_aux_lemma => kernel_rfl)

noncomputable def I21910 : In := ⟨52, [(pN 13824)], 24657, [q78, (13823, (.map [(tx0, (iN 130), 0)] 1)), q347, q22, q24, q25, q26, q80, q81, (19207, (.cells 1 true [] (T.ofList 0 .leaf [(pN 19205)]))), q345, q342], bT, 24719, [q73, (13823, (.map [(tx0, (iN 131), 0)] 1)), q346, q22, q24, q25, q26, q75, q129, (19207, (.cells 1 true [] (T.ofList 0 .leaf [(pN 19205)]))), q345, q342]⟩
theorem I21910_ok : InOk Tryz.prog I21910 := InOk.of_run (K := K_CY1b) (n := 5000) mixed K_CY1b_ok (by kernel_rfl) (by as_aux_lemma => kernel_rfl)

noncomputable def I21888 : In := ⟨52, [(pN 13824)], 24623, [q66, (13823, (.map [(tx0, (iN 129), 0)] 1)), q348, q22, q24, q25, q26, q83, q84, (19207, (.cells 1 true [] (T.ofList 0 .leaf [(pN 19205)]))), q349, q342], bT, 24657, [q78, (13823, (.map [(tx0, (iN 130), 0)] 1)), q347, q22, q24, q25, q26, q80, q81, (19207, (.cells 1 true [] (T.ofList 0 .leaf [(pN 19205)]))), q345, q342]⟩
theorem I21888_ok : InOk Tryz.prog I21888 := InOk.of_run (K := K_CY1b) (n := 5000) mixed K_CY1b_ok (by kernel_rfl) (by as_aux_lemma => kernel_rfl)

noncomputable def I21839 : In := ⟨52, [(pN 13824)], 24565, [q66, (13823, (.map [(tx0, (iN 127), 0)] 1)), q352, q22, q24, q25, q26, q353, q354, (19207, (.cells 1 true [] (T.ofList 0 .leaf [(pN 19205)]))), q355, q342], bT, 24596, [q73, (13823, (.map [(tx0, (iN 128), 0)] 1)), q350, q22, q24, q25, q26, q351, q88, (19207, (.cells 1 true [] (T.ofList 0 .leaf [(pN 19205)]))), q349, q342]⟩
theorem I21839_ok : InOk Tryz.prog I21839 := InOk.of_run (K := K_CY1b) (n := 5000) mixed K_CY1b_ok (by kernel_rfl) (by as_aux_lemma => kernel_rfl)

noncomputable def I21819 : In := ⟨52, [(pN 13824)], 24533, [q73, (13823, (.map [(tx0, (iN 126), 0)] 1)), q356, q22, q24, q25, q26, q357, q358, (19207, (.cells 1 true [] (T.ofList 0 .leaf [(pN 19205)]))), q30, q31], bT, 24565, [q66, (13823, (.map [(tx0, (iN 127), 0)] 1)), q352, q22, q24, q25, q26, q353, q354, (19207, (.cells 1 true [] (T.ofList 0 .leaf [(pN 19205)]))), q355, q342]⟩
theorem I21819_ok : InOk Tryz.prog I21819 := InOk.of_run (K := K_CY1b) (n := 5000) mixed K_CY1b_ok (by kernel_rfl) (by as_aux_lemma => kernel_rfl)

noncomputable def I20552 : In := ⟨52, [(pN 13824)], 23939, [q50, (13823, (.map [(tx0, (iN 122), 0)] 1)), q51, q22, q24, q25, q26, q52, q53, (19207, (.cells 1 true [] (T.ofList 0 .leaf [(pN 19205)]))), q54, q49], bT, 23976, [q39, (13823, (.map [(tx0, (iN 123), 0)] 1)), q40, q22, q24, q25, q26, q41, q42, (19207, (.cells 1 true [] (T.ofList 0 .leaf [(pN 19205)]))), q43, q38]⟩
theorem I20552_ok : InOk Tryz.prog I20552 := InOk.of_run (K := K_CY1b) (n := 5000) mixed K_CY1b_ok (by kernel_rfl) (by as_aux_lemma => kernel_rfl)

noncomputable def I20507 : In := ⟨52, [(pN 13824)], 23868, [q359, (13823, (.map [(tx0, (iN 120), 0)] 1)), q360, q22, q24, q25, q26, q361, q362, (19207, (.cells 1 true [] (T.ofList 0 .leaf [(pN 19205)]))), q363, q364], bT, 23905, [q44, (13823, (.map [(tx0, (iN 121), 0)] 1)), q45, q22, q24, q25, q26, q46, q47, (19207, (.cells 1 true [] (T.ofList 0 .leaf [(pN 19205)]))), q48, q49]⟩
theorem I20507_ok : InOk Tryz.prog I20507 := InOk.of_run (K := K_CY1b) (n := 5000) mixed K_CY1b_ok (by kernel_rfl) (by as_aux_lemma => kernel_rfl)

noncomputable def I20476 : In := ⟨52, [(pN 13824)], 23829, [q50, (13823, (.map [(tx0, (iN 119), 0)] 1)), q365, q22, q24, q25, q26, q366, q367, (19207, (.cells 1 true [] (T.ofList 0 .leaf [(pN 19205)]))), q363, q364], bT, 23868, [q359, (13823, (.map [(tx0, (iN 120), 0)] 1)), q360, q22, q24, q25, q26, q361, q362, (19207, (.cells 1 true [] (T.ofList 0 .leaf [(pN 19205)]))), q363, q364]⟩
theorem I20476_ok : InOk Tryz.prog I20476 := InOk.of_run (K := K_CY1b) (n := 5000) mixed K_CY1b_ok (by kernel_rfl) (by as_aux_lemma => kernel_rfl)

noncomputable def I20454 : In := ⟨52, [(pN 13824)], 23795, [q44, (13823, (.map [(tx0, (iN 118), 0)] 1)), q368, q22, q24, q25, q26, q369, q370, (19207, (.cells 1 true [] (T.ofList 0 .leaf [(pN 19205)]))), q371, q364], bT, 23829, [q50, (13823, (.map [(tx0, (iN 119), 0)] 1)), q365, q22, q24, q25, q26, q366, q367, (19207, (.cells 1 true [] (T.ofList 0 .leaf [(pN 19205)]))), q363, q364]⟩
theorem I20454_ok : InOk Tryz.prog I20454 := InOk.of_run (K := K_CY1b) (n := 5000) mixed K_CY1b_ok (by kernel_rfl) (by as_aux_lemma => kernel_rfl)

noncomputable def I20414 : In := ⟨52, [(pN 13824)], 23729, [q359, (13823, (.map [(tx0, (iN 116), 0)] 1)), q376, q22, q24, q25, q26, q377, q378, (19207, (.cells 1 true [] (T.ofList 0 .leaf [(pN 19205)])))], bT, 23768, [q359, (13823, (.map [(tx0, (iN 117), 0)] 1)), q372, q22, q24, q25, q26, q373, q374, (19207, (.cells 1 true [] (T.ofList 0 .leaf [(pN 19205)])))]⟩
theorem I20414_ok : InOk Tryz.prog I20414 := InOk.of_run (K := K_CY1b) (n := 5000) mixed K_CY1b_ok (by kernel_rfl) (by as_aux_lemma => kernel_rfl)

noncomputable def I20383 : In := ⟨52, [(pN 13824)], 23674, [q359, (13823, (.map [(tx0, (iN 115), 0)] 1)), q379, q22, q24, q25, q26, q380, q381, (19207, (.cells 1 true [] (T.ofList 0 .leaf [(pN 19205)]))), q382, q49], bT, 23729, [q359, (13823, (.map [(tx0, (iN 116), 0)] 1)), q376, q22, q24, q25, q26, q377, q378, (19207, (.cells 1 true [] (T.ofList 0 .leaf [(pN 19205)]))), q375, q49]⟩
theorem I20383_ok : InOk Tryz.prog I20383 := InOk.of_run (K := K_CY1b) (n := 5000) mixed K_CY1b_ok (by kernel_rfl) (by as_aux_lemma => kernel_rfl)

noncomputable def I20317 : In := ⟨52, [(pN 13824)], 23633, [q0, q39, (13823, (.map [(tx0, (iN 114), 0)] 1)), q383, q22, q24, q25, q26, q384, q385, (19207, (.cells 1 true [] (T.ofList 0 .leaf [(pN 19205)]))), q2, q386, q4, q382, q49], bT, 23674, [q0, q359, (13823, (.map [(tx0, (iN 115), 0)] 1)), q379, q22, q24, q25, q26, q380, q381, (19207, (.cells 1 true [] (T.ofList 0 .leaf [(pN 19205)]))), q2, q3, q4, q382, q49]⟩
theorem I20317_ok : InOk Tryz.prog I20317 := InOk.of_run (K := K_CY1b) (n := 5000) mixed K_CY1b_ok (by kernel_rfl) (by as_aux_lemma => kernel_rfl)

noncomputable def I20285 : In := ⟨52, [(pN 13824)], 23584, [q33, (13823, (.map [(tx0, (iN 113), 0)] 1)), q387, q22, q24, q25, q26, q388, q389, (19207, (.cells 1 true [] (T.ofList 0 .leaf [(pN 19205)]))), q390, q49], bT, 23633, [q39, (13823, (.map [(tx0, (iN 114), 0)] 1)), q383, q22, q24, q25, q26, q384, q385, (19207, (.cells 1 true [] (T.ofList 0 .leaf [(pN 19205)]))), q382, q49]⟩
theorem I20285_ok : InOk Tryz.prog I20285 := InOk.of_run (K := K_CY1b) (n := 5000) mixed K_CY1b_ok (by kernel_rfl) (by as_aux_lemma => kernel_rfl)

noncomputable def I20193 : In := ⟨52, [(pN 13824)], 23466, [q359, (13823, (.map [(tx0, (iN 109), 0)] 1)), q403, q22, q24, q25, q26, q361, q404, (19207, (.cells 1 true [] (T.ofList 0 .leaf [(pN 19205)]))), q402, q364], bT, 23503, [q44, (13823, (.map [(tx0, (iN 110), 0)] 1)), q399, q22, q24, q25, q26, q400, q401, (19207, (.cells 1 true [] (T.ofList 0 .leaf [(pN 19205)]))), q402, q49]⟩
theorem I20193_ok : InOk Tryz.prog I20193 := InOk.of_run (K := K_CY1b) (n := 5000) mixed K_CY1b_ok (by kernel_rfl) (by as_aux_lemma => kernel_rfl)
noncomputable def H_CY1b : Hand := (Hand.at 52 (Hand.sp 25250 (Hand.sp 24565 (Hand.sp 23795 (Hand.sp 23633 ((inHand I20285).or (inHand I20193)) (Hand.sp 23674 (inHand I20317) ((inHand I20414).or (inHand I20383)))) (Hand.sp 23868 ((inHand I20476).or (inHand I20454)) (Hand.sp 23939 (inHand I20507) ((inHand I21819).or (inHand I20552))))) (Hand.sp 24829 (Hand.sp 24657 ((inHand I21888).or (inHand I21839)) (Hand.sp 24746 (inHand I21910) ((inHand I21993).or (inHand I21971)))) (Hand.sp 25061 (Hand.sp 24975 (inHand I22025) ((inHand I22192).or (inHand I22166))) (Hand.sp 25127 (inHand I22223) ((inHand I22285).or (inHand I22263)))))) (Hand.sp 26014 (Hand.sp 25631 (Hand.sp 25479 ((inHand I22400).or (inHand I22346)) (Hand.sp 25510 (inHand I22541) ((inHand I22598).or (inHand I22567)))) (Hand.sp 25754 ((inHand I22660).or (inHand I22638)) (Hand.sp 25837 (inHand I22721) ((inHand I22916).or (inHand I22775))))) (Hand.sp 26341 (Hand.sp 26135 ((inHand I22973).or (inHand I22942)) (Hand.sp 26169 (inHand I23013) ((inHand I23096).or (inHand I23035)))) (Hand.sp 26573 (Hand.sp 26487 (inHand I23150) ((inHand I23317).or (inHand I23291))) (Hand.sp 26639 (inHand I23348) ((inHand I23410).or (inHand I23388))))))))
theorem H_CY1b_ok : HandOk Tryz.prog H_CY1b := (HandOk.at 52 (HandOk.sp 25250 (HandOk.sp 24565 (HandOk.sp 23795 (HandOk.sp 23633 (HandOk.or (inHand_ok I20285_ok (by kernel_rfl)) (inHand_ok I20193_ok (by kernel_rfl))) (HandOk.sp 23674 (inHand_ok I20317_ok (by kernel_rfl)) (HandOk.or (inHand_ok I20414_ok (by kernel_rfl)) (inHand_ok I20383_ok (by kernel_rfl))))) (HandOk.sp 23868 (HandOk.or (inHand_ok I20476_ok (by kernel_rfl)) (inHand_ok I20454_ok (by kernel_rfl))) (HandOk.sp 23939 (inHand_ok I20507_ok (by kernel_rfl)) (HandOk.or (inHand_ok I21819_ok (by kernel_rfl)) (inHand_ok I20552_ok (by kernel_rfl)))))) (HandOk.sp 24829 (HandOk.sp 24657 (HandOk.or (inHand_ok I21888_ok (by kernel_rfl)) (inHand_ok I21839_ok (by kernel_rfl))) (HandOk.sp 24746 (inHand_ok I21910_ok (by kernel_rfl)) (HandOk.or (inHand_ok I21993_ok (by kernel_rfl)) (inHand_ok I21971_ok (by kernel_rfl))))) (HandOk.sp 25061 (HandOk.sp 24975 (inHand_ok I22025_ok (by kernel_rfl)) (HandOk.or (inHand_ok I22192_ok (by kernel_rfl)) (inHand_ok I22166_ok (by kernel_rfl)))) (HandOk.sp 25127 (inHand_ok I22223_ok (by kernel_rfl)) (HandOk.or (inHand_ok I22285_ok (by kernel_rfl)) (inHand_ok I22263_ok (by kernel_rfl))))))) (HandOk.sp 26014 (HandOk.sp 25631 (HandOk.sp 25479 (HandOk.or (inHand_ok I22400_ok (by kernel_rfl)) (inHand_ok I22346_ok (by kernel_rfl))) (HandOk.sp 25510 (inHand_ok I22541_ok (by kernel_rfl)) (HandOk.or (inHand_ok I22598_ok (by kernel_rfl)) (inHand_ok I22567_ok (by kernel_rfl))))) (HandOk.sp 25754 (HandOk.or (inHand_ok I22660_ok (by kernel_rfl)) (inHand_ok I22638_ok (by kernel_rfl))) (HandOk.sp 25837 (inHand_ok I22721_ok (by kernel_rfl)) (HandOk.or (inHand_ok I22916_ok (by kernel_rfl)) (inHand_ok I22775_ok (by kernel_rfl)))))) (HandOk.sp 26341 (HandOk.sp 26135 (HandOk.or (inHand_ok I22973_ok (by kernel_rfl)) (inHand_ok I22942_ok (by kernel_rfl))) (HandOk.sp 26169 (inHand_ok I23013_ok (by kernel_rfl)) (HandOk.or (inHand_ok I23096_ok (by kernel_rfl)) (inHand_ok I23035_ok (by kernel_rfl))))) (HandOk.sp 26573 (HandOk.sp 26487 (inHand_ok I23150_ok (by kernel_rfl)) (HandOk.or (inHand_ok I23317_ok (by kernel_rfl)) (inHand_ok I23291_ok (by kernel_rfl)))) (HandOk.sp 26639 (inHand_ok I23348_ok (by kernel_rfl)) (HandOk.or (inHand_ok I23410_ok (by kernel_rfl)) (inHand_ok I23388_ok (by kernel_rfl)))))))))
end Go.Proofs.YthgncmohimdbmaaGreatDoor.cy
