/-
  Contracts of calls, by the kernel.
-/
import Derived.Test.YthgncmohimdbmaaGreatDoorCYNN
import Derived.Test.YthgncmohimdbmaaGreatDoorXN3
import Derived.Test.YthgncmohimdbmaaGreatDoorProg
import Derived.KernelRfl
import Derived.Test.YthgncmohimdbmaaGreatDoorCY0a
import Derived.Test.YthgncmohimdbmaaGreatDoorCY0b
set_option linter.unusedSectionVars false
set_option linter.unusedVariables false
set_option maxRecDepth 1000000
set_option maxHeartbeats 0
namespace Go.Proofs.YthgncmohimdbmaaGreatDoor.cy
open Go.X Go.RowKit
variable [Tab]
noncomputable def K_CY1d : Hand := H_CY0b
theorem K_CY1d_ok : HandOk Tryz.prog K_CY1d := H_CY0b_ok

noncomputable def I18550 : In := ⟨52, [(pN 13824)], 21279, [q50, (13823, (.map [(tx0, (iN 53), 0)] 1)), q504, q22, q24, q25, q26, q366, q367, (19207, (.cells 1 true [] (T.ofList 0 .leaf [(pN 19205)]))), q503, q364], bT, 21341, [q359, (13823, (.map [(tx0, (iN 54), 0)] 1)), q502, q22, q24, q25, q26, q361, q404, (19207, (.cells 1 true [] (T.ofList 0 .leaf [(pN 19205)]))), q503, q364]⟩
theorem I18550_ok : InOk Tryz.prog I18550 := InOk.of_run (K := K_CY1d) (n := 5000) mixed K_CY1d_ok (by kernel_rfl) (by as_aux_lemma => kernel_rfl)

noncomputable def I18528 : In := ⟨52, [(pN 13824)], 21245, [q44, (13823, (.map [(tx0, (iN 52), 0)] 1)), q505, q22, q24, q25, q26, q369, q370, (19207, (.cells 1 true [] (T.ofList 0 .leaf [(pN 19205)]))), q506, q364], bT, 21279, [q50, (13823, (.map [(tx0, (iN 53), 0)] 1)), q504, q22, q24, q25, q26, q366, q367, (19207, (.cells 1 true [] (T.ofList 0 .leaf [(pN 19205)]))), q503, q364]⟩
theorem I18528_ok : InOk Tryz.prog I18528 := InOk.of_run (K := K_CY1d) (n := 5000) mixed K_CY1d_ok (by kernel_rfl) (by as_aux_lemma => kernel_rfl)

noncomputable def I18488 : In := ⟨52, [(pN 13824)], 21179, [q359, (13823, (.map [(tx0, (iN 50), 0)] 1)), q509, q22, q24, q25, q26, q377, q378, (19207, (.cells 1 true [] (T.ofList 0 .leaf [(pN 19205)])))], bT, 21218, [q359, (13823, (.map [(tx0, (iN 51), 0)] 1)), q507, q22, q24, q25, q26, q373, q374, (19207, (.cells 1 true [] (T.ofList 0 .leaf [(pN 19205)])))]⟩
theorem I18488_ok : InOk Tryz.prog I18488 := InOk.of_run (K := K_CY1d) (n := 5000) mixed K_CY1d_ok (by kernel_rfl) (by as_aux_lemma => kernel_rfl)

noncomputable def I18457 : In := ⟨52, [(pN 13824)], 21124, [q359, (13823, (.map [(tx0, (iN 49), 0)] 1)), q510, q22, q24, q25, q26, q380, q381, (19207, (.cells 1 true [] (T.ofList 0 .leaf [(pN 19205)]))), q511, q49], bT, 21179, [q359, (13823, (.map [(tx0, (iN 50), 0)] 1)), q509, q22, q24, q25, q26, q377, q378, (19207, (.cells 1 true [] (T.ofList 0 .leaf [(pN 19205)]))), q508, q49]⟩
theorem I18457_ok : InOk Tryz.prog I18457 := InOk.of_run (K := K_CY1d) (n := 5000) mixed K_CY1d_ok (by kernel_rfl) (by as_aux_lemma => kernel_rfl)

noncomputable def I18391 : In := ⟨52, [(pN 13824)], 21083, [q0, q39, (13823, (.map [(tx0, (iN 48), 0)] 1)), q512, q22, q24, q25, q26, q384, q385, (19207, (.cells 1 true [] (T.ofList 0 .leaf [(pN 19205)]))), q2, q513, q4, q511, q49], bT, 21124, [q0, q359, (13823, (.map [(tx0, (iN 49), 0)] 1)), q510, q22, q24, q25, q26, q380, q381, (19207, (.cells 1 true [] (T.ofList 0 .leaf [(pN 19205)]))), q2, q493, q4, q511, q49]⟩
theorem I18391_ok : InOk Tryz.prog I18391 := InOk.of_run (K := K_CY1d) (n := 5000) mixed K_CY1d_ok (by kernel_rfl) (by as_aux_lemma => kernel_rfl)

noncomputable def I18359 : In := ⟨52, [(pN 13824)], 21034, [q33, (13823, (.map [(tx0, (iN 47), 0)] 1)), q514, q22, q24, q25, q26, q388, q389, (19207, (.cells 1 true [] (T.ofList 0 .leaf [(pN 19205)]))), q515, q49], bT, 21083, [q39, (13823, (.map [(tx0, (iN 48), 0)] 1)), q512, q22, q24, q25, q26, q384, q385, (19207, (.cells 1 true [] (T.ofList 0 .leaf [(pN 19205)]))), q511, q49]⟩
theorem I18359_ok : InOk Tryz.prog I18359 := InOk.of_run (K := K_CY1d) (n := 5000) mixed K_CY1d_ok (by kernel_rfl) (by as_aux_lemma => kernel_rfl)

noncomputable def I18267 : In := ⟨52, [(pN 13824)], 20916, [q359, (13823, (.map [(tx0, (iN 43), 0)] 1)), q522, q22, q24, q25, q26, q361, q404, (19207, (.cells 1 true [] (T.ofList 0 .leaf [(pN 19205)]))), q523, q364], bT, 20953, [q44, (13823, (.map [(tx0, (iN 44), 0)] 1)), q520, q22, q24, q25, q26, q400, q401, (19207, (.cells 1 true [] (T.ofList 0 .leaf [(pN 19205)]))), q521, q49]⟩
theorem I18267_ok : InOk Tryz.prog I18267 := InOk.of_run (K := K_CY1d) (n := 5000) mixed K_CY1d_ok (by kernel_rfl) (by as_aux_lemma => kernel_rfl)

noncomputable def I18229 : In := ⟨52, [(pN 13824)], 20854, [q50, (13823, (.map [(tx0, (iN 42), 0)] 1)), q524, q22, q24, q25, q26, q366, q367, (19207, (.cells 1 true [] (T.ofList 0 .leaf [(pN 19205)]))), q523, q364], bT, 20916, [q359, (13823, (.map [(tx0, (iN 43), 0)] 1)), q522, q22, q24, q25, q26, q361, q404, (19207, (.cells 1 true [] (T.ofList 0 .leaf [(pN 19205)]))), q523, q364]⟩
theorem I18229_ok : InOk Tryz.prog I18229 := InOk.of_run (K := K_CY1d) (n := 5000) mixed K_CY1d_ok (by kernel_rfl) (by as_aux_lemma => kernel_rfl)

noncomputable def I18207 : In := ⟨52, [(pN 13824)], 20820, [q44, (13823, (.map [(tx0, (iN 41), 0)] 1)), q525, q22, q24, q25, q26, q369, q370, (19207, (.cells 1 true [] (T.ofList 0 .leaf [(pN 19205)]))), q526, q364], bT, 20854, [q50, (13823, (.map [(tx0, (iN 42), 0)] 1)), q524, q22, q24, q25, q26, q366, q367, (19207, (.cells 1 true [] (T.ofList 0 .leaf [(pN 19205)]))), q523, q364]⟩
theorem I18207_ok : InOk Tryz.prog I18207 := InOk.of_run (K := K_CY1d) (n := 5000) mixed K_CY1d_ok (by kernel_rfl) (by as_aux_lemma => kernel_rfl)

noncomputable def I18167 : In := ⟨52, [(pN 13824)], 20754, [q359, (13823, (.map [(tx0, (iN 39), 0)] 1)), q529, q22, q24, q25, q26, q377, q378, (19207, (.cells 1 true [] (T.ofList 0 .leaf [(pN 19205)])))], bT, 20793, [q359, (13823, (.map [(tx0, (iN 40), 0)] 1)), q527, q22, q24, q25, q26, q373, q374, (19207, (.cells 1 true [] (T.ofList 0 .leaf [(pN 19205)])))]⟩
theorem I18167_ok : InOk Tryz.prog I18167 := InOk.of_run (K := K_CY1d) (n := 5000) mixed K_CY1d_ok (by kernel_rfl) (by as_aux_lemma => kernel_rfl)

noncomputable def I18136 : In := ⟨52, [(pN 13824)], 20699, [q359, (13823, (.map [(tx0, (iN 38), 0)] 1)), q530, q22, q24, q25, q26, q380, q381, (19207, (.cells 1 true [] (T.ofList 0 .leaf [(pN 19205)]))), q531, q49], bT, 20754, [q359, (13823, (.map [(tx0, (iN 39), 0)] 1)), q529, q22, q24, q25, q26, q377, q378, (19207, (.cells 1 true [] (T.ofList 0 .leaf [(pN 19205)]))), q528, q49]⟩
theorem I18136_ok : InOk Tryz.prog I18136 := InOk.of_run (K := K_CY1d) (n := 5000) mixed K_CY1d_ok (by kernel_rfl) (by as_aux_lemma => kernel_rfl)

noncomputable def I18070 : In := ⟨52, [(pN 13824)], 20658, [q0, q39, (13823, (.map [(tx0, (iN 37), 0)] 1)), q532, q22, q24, q25, q26, q384, q385, (19207, (.cells 1 true [] (T.ofList 0 .leaf [(pN 19205)]))), q2, q533, q4, q531, q49], bT, 20699, [q0, q359, (13823, (.map [(tx0, (iN 38), 0)] 1)), q530, q22, q24, q25, q26, q380, q381, (19207, (.cells 1 true [] (T.ofList 0 .leaf [(pN 19205)]))), q2, q513, q4, q531, q49]⟩
theorem I18070_ok : InOk Tryz.prog I18070 := InOk.of_run (K := K_CY1d) (n := 5000) mixed K_CY1d_ok (by kernel_rfl) (by as_aux_lemma => kernel_rfl)

noncomputable def I18038 : In := ⟨52, [(pN 13824)], 20609, [q33, (13823, (.map [(tx0, (iN 36), 0)] 1)), q534, q22, q24, q25, q26, q388, q389, (19207, (.cells 1 true [] (T.ofList 0 .leaf [(pN 19205)]))), q535, q49], bT, 20658, [q39, (13823, (.map [(tx0, (iN 37), 0)] 1)), q532, q22, q24, q25, q26, q384, q385, (19207, (.cells 1 true [] (T.ofList 0 .leaf [(pN 19205)]))), q531, q49]⟩
theorem I18038_ok : InOk Tryz.prog I18038 := InOk.of_run (K := K_CY1d) (n := 5000) mixed K_CY1d_ok (by kernel_rfl) (by as_aux_lemma => kernel_rfl)

noncomputable def I17946 : In := ⟨52, [(pN 13824)], 20491, [q359, (13823, (.map [(tx0, (iN 32), 0)] 1)), q542, q22, q24, q25, q26, q361, q404, (19207, (.cells 1 true [] (T.ofList 0 .leaf [(pN 19205)]))), q543, q364], bT, 20528, [q44, (13823, (.map [(tx0, (iN 33), 0)] 1)), q540, q22, q24, q25, q26, q400, q401, (19207, (.cells 1 true [] (T.ofList 0 .leaf [(pN 19205)]))), q541, q49]⟩
theorem I17946_ok : InOk Tryz.prog I17946 := InOk.of_run (K := K_CY1d) (n := 5000) mixed K_CY1d_ok (by kernel_rfl) (by as_aux_lemma => kernel_rfl)

noncomputable def I17908 : In := ⟨52, [(pN 13824)], 20429, [q50, (13823, (.map [(tx0, (iN 31), 0)] 1)), q544, q22, q24, q25, q26, q366, q367, (19207, (.cells 1 true [] (T.ofList 0 .leaf [(pN 19205)]))), q543, q364], bT, 20491, [q359, (13823, (.map [(tx0, (iN 32), 0)] 1)), q542, q22, q24, q25, q26, q361, q404, (19207, (.cells 1 true [] (T.ofList 0 .leaf [(pN 19205)]))), q543, q364]⟩
theorem I17908_ok : InOk Tryz.prog I17908 := InOk.of_run (K := K_CY1d) (n := 5000) mixed K_CY1d_ok (by kernel_rfl) (by as_aux_lemma => kernel_rfl)

noncomputable def I17886 : In := ⟨52, [(pN 13824)], 20395, [q44, (13823, (.map [(tx0, (iN 30), 0)] 1)), q545, q22, q24, q25, q26, q369, q370, (19207, (.cells 1 true [] (T.ofList 0 .leaf [(pN 19205)]))), q546, q364], bT, 20429, [q50, (13823, (.map [(tx0, (iN 31), 0)] 1)), q544, q22, q24, q25, q26, q366, q367, (19207, (.cells 1 true [] (T.ofList 0 .leaf [(pN 19205)]))), q543, q364]⟩
theorem I17886_ok : InOk Tryz.prog I17886 := InOk.of_run (K := K_CY1d) (n := 5000) mixed K_CY1d_ok (by kernel_rfl) (by as_aux_lemma => kernel_rfl)

noncomputable def I17846 : In := ⟨52, [(pN 13824)], 20329, [q359, (13823, (.map [(tx0, (iN 28), 0)] 1)), q549, q22, q24, q25, q26, q377, q378, (19207, (.cells 1 true [] (T.ofList 0 .leaf [(pN 19205)])))], bT, 20368, [q359, (13823, (.map [(tx0, (iN 29), 0)] 1)), q547, q22, q24, q25, q26, q373, q374, (19207, (.cells 1 true [] (T.ofList 0 .leaf [(pN 19205)])))]⟩
theorem I17846_ok : InOk Tryz.prog I17846 := InOk.of_run (K := K_CY1d) (n := 5000) mixed K_CY1d_ok (by kernel_rfl) (by as_aux_lemma => kernel_rfl)

noncomputable def I17815 : In := ⟨52, [(pN 13824)], 20274, [q359, (13823, (.map [(tx0, (iN 27), 0)] 1)), q550, q22, q24, q25, q26, q380, q381, (19207, (.cells 1 true [] (T.ofList 0 .leaf [(pN 19205)]))), q551, q49], bT, 20329, [q359, (13823, (.map [(tx0, (iN 28), 0)] 1)), q549, q22, q24, q25, q26, q377, q378, (19207, (.cells 1 true [] (T.ofList 0 .leaf [(pN 19205)]))), q548, q49]⟩
theorem I17815_ok : InOk Tryz.prog I17815 := InOk.of_run (K := K_CY1d) (n := 5000) mixed K_CY1d_ok (by kernel_rfl) (by as_aux_lemma => kernel_rfl)

noncomputable def I17749 : In := ⟨52, [(pN 13824)], 20233, [q0, q39, (13823, (.map [(tx0, (iN 26), 0)] 1)), q552, q22, q24, q25, q26, q384, q385, (19207, (.cells 1 true [] (T.ofList 0 .leaf [(pN 19205)]))), q2, q553, q4, q551, q49], bT, 20274, [q0, q359, (13823, (.map [(tx0, (iN 27), 0)] 1)), q550, q22, q24, q25, q26, q380, q381, (19207, (.cells 1 true [] (T.ofList 0 .leaf [(pN 19205)]))), q2, q533, q4, q551, q49]⟩
theorem I17749_ok : InOk Tryz.prog I17749 := InOk.of_run (K := K_CY1d) (n := 5000) mixed K_CY1d_ok (by kernel_rfl) (by as_aux_lemma => kernel_rfl)

noncomputable def I17717 : In := ⟨52, [(pN 13824)], 20184, [q33, (13823, (.map [(tx0, (iN 25), 0)] 1)), q554, q22, q24, q25, q26, q388, q389, (19207, (.cells 1 true [] (T.ofList 0 .leaf [(pN 19205)]))), q551, q49], bT, 20233, [q39, (13823, (.map [(tx0, (iN 26), 0)] 1)), q552, q22, q24, q25, q26, q384, q385, (19207, (.cells 1 true [] (T.ofList 0 .leaf [(pN 19205)]))), q551, q49]⟩
theorem I17717_ok : InOk Tryz.prog I17717 := InOk.of_run (K := K_CY1d) (n := 5000) mixed K_CY1d_ok (by kernel_rfl) (by as_aux_lemma => kernel_rfl)

noncomputable def I17625 : In := ⟨52, [(pN 13824)], 20066, [q359, (13823, (.map [(tx0, (iN 21), 0)] 1)), q561, q22, q24, q25, q26, q361, q404, (19207, (.cells 1 true [] (T.ofList 0 .leaf [(pN 19205)]))), q562, q364], bT, 20103, [q44, (13823, (.map [(tx0, (iN 22), 0)] 1)), q559, q22, q24, q25, q26, q400, q401, (19207, (.cells 1 true [] (T.ofList 0 .leaf [(pN 19205)]))), q560, q49]⟩
theorem I17625_ok : InOk Tryz.prog I17625 := InOk.of_run (K := K_CY1d) (n := 5000) mixed K_CY1d_ok (by kernel_rfl) (by as_aux_lemma => kernel_rfl)

noncomputable def I17587 : In := ⟨52, [(pN 13824)], 20004, [q50, (13823, (.map [(tx0, (iN 20), 0)] 1)), q563, q22, q24, q25, q26, q366, q367, (19207, (.cells 1 true [] (T.ofList 0 .leaf [(pN 19205)]))), q562, q364], bT, 20066, [q359, (13823, (.map [(tx0, (iN 21), 0)] 1)), q561, q22, q24, q25, q26, q361, q404, (19207, (.cells 1 true [] (T.ofList 0 .leaf [(pN 19205)]))), q562, q364]⟩
theorem I17587_ok : InOk Tryz.prog I17587 := InOk.of_run (K := K_CY1d) (n := 5000) mixed K_CY1d_ok (by kernel_rfl) (by as_aux_lemma => kernel_rfl)

noncomputable def I17565 : In := ⟨52, [(pN 13824)], 19970, [q44, (13823, (.map [(tx0, (iN 19), 0)] 1)), q564, q22, q24, q25, q26, q369, q370, (19207, (.cells 1 true [] (T.ofList 0 .leaf [(pN 19205)]))), q565, q364], bT, 20004, [q50, (13823, (.map [(tx0, (iN 20), 0)] 1)), q563, q22, q24, q25, q26, q366, q367, (19207, (.cells 1 true [] (T.ofList 0 .leaf [(pN 19205)]))), q562, q364]⟩
theorem I17565_ok : InOk Tryz.prog I17565 := InOk.of_run (K := K_CY1d) (n := 5000) mixed K_CY1d_ok (by kernel_rfl) (by as_aux_lemma => kernel_rfl)

noncomputable def I17525 : In := ⟨52, [(pN 13824)], 19904, [q359, (13823, (.map [(tx0, (iN 17), 0)] 1)), q568, q22, q24, q25, q26, q377, q378, (19207, (.cells 1 true [] (T.ofList 0 .leaf [(pN 19205)])))], bT, 19943, [q359, (13823, (.map [(tx0, (iN 18), 0)] 1)), q566, q22, q24, q25, q26, q373, q374, (19207, (.cells 1 true [] (T.ofList 0 .leaf [(pN 19205)])))]⟩
theorem I17525_ok : InOk Tryz.prog I17525 := InOk.of_run (K := K_CY1d) (n := 5000) mixed K_CY1d_ok (by kernel_rfl) (by as_aux_lemma => kernel_rfl)

noncomputable def I17494 : In := ⟨52, [(pN 13824)], 19849, [q359, (13823, (.map [(tx0, (iN 16), 0)] 1)), q569, q22, q24, q25, q26, q380, q381, (19207, (.cells 1 true [] (T.ofList 0 .leaf [(pN 19205)]))), q570, q49], bT, 19904, [q359, (13823, (.map [(tx0, (iN 17), 0)] 1)), q568, q22, q24, q25, q26, q377, q378, (19207, (.cells 1 true [] (T.ofList 0 .leaf [(pN 19205)]))), q567, q49]⟩
theorem I17494_ok : InOk Tryz.prog I17494 := InOk.of_run (K := K_CY1d) (n := 5000) mixed K_CY1d_ok (by kernel_rfl) (by as_aux_lemma => kernel_rfl)

noncomputable def I17428 : In := ⟨52, [(pN 13824)], 19808, [q0, q39, (13823, (.map [(tx0, (iN 15), 0)] 1)), q571, q22, q24, q25, q26, q384, q385, (19207, (.cells 1 true [] (T.ofList 0 .leaf [(pN 19205)]))), q2, q553, q4, q570, q49], bT, 19849, [q0, q359, (13823, (.map [(tx0, (iN 16), 0)] 1)), q569, q22, q24, q25, q26, q380, q381, (19207, (.cells 1 true [] (T.ofList 0 .leaf [(pN 19205)]))), q2, q553, q4, q570, q49]⟩
theorem I17428_ok : InOk Tryz.prog I17428 := InOk.of_run (K := K_CY1d) (n := 5000) mixed K_CY1d_ok (by kernel_rfl) (by as_aux_lemma => kernel_rfl)

noncomputable def I17396 : In := ⟨52, [(pN 13824)], 19759, [q33, (13823, (.map [(tx0, (iN 14), 0)] 1)), q572, q22, q24, q25, q26, q388, q389, (19207, (.cells 1 true [] (T.ofList 0 .leaf [(pN 19205)]))), q570, q49], bT, 19808, [q39, (13823, (.map [(tx0, (iN 15), 0)] 1)), q571, q22, q24, q25, q26, q384, q385, (19207, (.cells 1 true [] (T.ofList 0 .leaf [(pN 19205)]))), q570, q49]⟩
theorem I17396_ok : InOk Tryz.prog I17396 := InOk.of_run (K := K_CY1d) (n := 5000) mixed K_CY1d_ok (by kernel_rfl) (by as_aux_lemma => kernel_rfl)

noncomputable def I17304 : In := ⟨52, [(pN 13824)], 19637, [q584, (13823, (.map [(tx0, (iN 10), 0)] 1)), q585, q22, q24, q25, q26, q361, q404, (19207, (.cells 1 true [] (T.ofList 0 .leaf [(pN 19205)]))), q586, q587], bT, 19674, [q581, (13823, (.map [(tx0, (iN 11), 0)] 1)), q582, q22, q24, q25, q26, q400, q401, (19207, (.cells 1 true [] (T.ofList 0 .leaf [(pN 19205)]))), q583, q580]⟩
theorem I17304_ok : InOk Tryz.prog I17304 := InOk.of_run (K := K_CY1d) (n := 5000) mixed K_CY1d_ok (by kernel_rfl) (by as_aux_lemma => kernel_rfl)

noncomputable def I17266 : In := ⟨52, [(pN 13824)], 19575, [q577, (13823, (.map [(tx0, (iN 9), 0)] 1)), q588, q22, q24, q25, q26, q366, q367, (19207, (.cells 1 true [] (T.ofList 0 .leaf [(pN 19205)]))), q586, q587], bT, 19637, [q584, (13823, (.map [(tx0, (iN 10), 0)] 1)), q585, q22, q24, q25, q26, q361, q404, (19207, (.cells 1 true [] (T.ofList 0 .leaf [(pN 19205)]))), q586, q587]⟩
theorem I17266_ok : InOk Tryz.prog I17266 := InOk.of_run (K := K_CY1d) (n := 5000) mixed K_CY1d_ok (by kernel_rfl) (by as_aux_lemma => kernel_rfl)

noncomputable def I17244 : In := ⟨52, [(pN 13824)], 19539, [q589, (13823, (.map [(tx0, (iN 8), 0)] 1)), q590, q22, q24, q25, q26, q369, q370, (19207, (.cells 1 true [] (T.ofList 0 .leaf [(pN 19205)]))), q591, q592], bT, 19575, [q577, (13823, (.map [(tx0, (iN 9), 0)] 1)), q588, q22, q24, q25, q26, q366, q367, (19207, (.cells 1 true [] (T.ofList 0 .leaf [(pN 19205)]))), q586, q587]⟩
theorem I17244_ok : InOk Tryz.prog I17244 := InOk.of_run (K := K_CY1d) (n := 5000) mixed K_CY1d_ok (by kernel_rfl) (by as_aux_lemma => kernel_rfl)

noncomputable def I17195 : In := ⟨52, [(pN 13824)], 19471, [q589, (13823, (.map [(tx0, (iN 6), 0)] 1)), q598, q22, q24, q25, q26, q599, q600, (19207, (.cells 1 true [] (T.ofList 0 .leaf [(pN 19205)]))), q601, q602], bT, 19512, [q593, (13823, (.map [(tx0, (iN 7), 0)] 1)), q594, q22, q24, q25, q26, q595, q374, (19207, (.cells 1 true [] (T.ofList 0 .leaf [(pN 19205)]))), q596, q597]⟩
theorem I17195_ok : InOk Tryz.prog I17195 := InOk.of_run (K := K_CY1d) (n := 5000) mixed K_CY1d_ok (by kernel_rfl) (by as_aux_lemma => kernel_rfl)

noncomputable def I17136 : In := ⟨52, [(pN 13824)], 19371, [(7219, (.map [(tx69, (pN 14128), 0)] 1)), q6, q7, q603, q604, q589, (13823, (.map [(tx0, (iN 5), 0)] 1)), q605, q606, q607, q608, q22, q23, q24, q25, q26, q609, q610, (19207, (.cells 1 true [] (T.ofList 0 .leaf [(pN 19205)]))), q611, q612], bT, 19471, [(7219, (.map [(tx69, (pN 14128), 0)] 1)), q6, q7, q17, q0, q589, (13823, (.map [(tx0, (iN 6), 0)] 1)), q598, q22, q23, q24, q25, q26, q599, q600, (19207, (.cells 1 true [] (T.ofList 0 .leaf [(pN 19205)]))), q601, q602, q2, q553, q4]⟩
theorem I17136_ok : InOk Tryz.prog I17136 := InOk.of_run (K := K_CY1d) (n := 5000) mixed K_CY1d_ok (by kernel_rfl) (by as_aux_lemma => kernel_rfl)

noncomputable def I17114 : In := ⟨52, [(pN 13824)], 19337, [q593, (13823, (.map [(tx0, (iN 4), 0)] 1)), q613, q22, q24, q25, q26, q614, q615, (19207, (.cells 1 true [] (T.ofList 0 .leaf [(pN 19205)]))), q616, q612], bT, 19371, [q589, (13823, (.map [(tx0, (iN 5), 0)] 1)), q605, q22, q24, q25, q26, q609, q610, (19207, (.cells 1 true [] (T.ofList 0 .leaf [(pN 19205)]))), q611, q612]⟩
theorem I17114_ok : InOk Tryz.prog I17114 := InOk.of_run (K := K_CY1d) (n := 5000) mixed K_CY1d_ok (by kernel_rfl) (by as_aux_lemma => kernel_rfl)

noncomputable def I17088 : In := ⟨52, [(pN 13824)], 19306, [q589, (13823, (.map [(tx0, (iN 3), 0)] 1)), q617, q22, q24, q25, q26, q618, q619, (19207, (.cells 1 true [] (T.ofList 0 .leaf [(pN 19205)]))), q616, q612], bT, 19337, [q593, (13823, (.map [(tx0, (iN 4), 0)] 1)), q613, q22, q24, q25, q26, q614, q615, (19207, (.cells 1 true [] (T.ofList 0 .leaf [(pN 19205)]))), q616, q612]⟩
theorem I17088_ok : InOk Tryz.prog I17088 := InOk.of_run (K := K_CY1d) (n := 5000) mixed K_CY1d_ok (by kernel_rfl) (by as_aux_lemma => kernel_rfl)

noncomputable def I17068 : In := ⟨52, [(pN 13824)], 19274, [q593, (13823, (.map [(tx0, z2, 0)] 1)), q620, q22, q24, q25, q26, q621, q622, (19207, (.cells 1 true [] (T.ofList 0 .leaf [(pN 19205)]))), q616, q612], bT, 19306, [q589, (13823, (.map [(tx0, (iN 3), 0)] 1)), q617, q22, q24, q25, q26, q618, q619, (19207, (.cells 1 true [] (T.ofList 0 .leaf [(pN 19205)]))), q616, q612]⟩
theorem I17068_ok : InOk Tryz.prog I17068 := InOk.of_run (K := K_CY1d) (n := 5000) mixed K_CY1d_ok (by kernel_rfl) (by as_aux_lemma => kernel_rfl)

noncomputable def I17042 : In := ⟨52, [(pN 13824)], 19243, [q589, (13823, (.map [(tx0, z1, 0)] 1)), q623, q22, q24, q25, q26, q624, q625, (19207, (.cells 1 true [] (T.ofList 0 .leaf [(pN 19205)]))), q616, q612], bT, 19274, [q593, (13823, (.map [(tx0, z2, 0)] 1)), q620, q22, q24, q25, q26, q621, q622, (19207, (.cells 1 true [] (T.ofList 0 .leaf [(pN 19205)]))), q616, q612]⟩
theorem I17042_ok : InOk Tryz.prog I17042 := InOk.of_run (K := K_CY1d) (n := 5000) mixed K_CY1d_ok (by kernel_rfl) (by as_aux_lemma => kernel_rfl)

noncomputable def I17022 : In := ⟨52, [(pN 13824)], 19209, [(13820, (.cells 4 false [] (T.ofList 0 .leaf [(.so 19203 0 3 1), (.so 19204 0 3 1), (.so 19202 0 1 7), (iN 12)]))), (13823, (.map [] 0)), (13824, (.cells 32 false [] (T.ofList 0 .leaf [(pN 7221), (pN 10479), (pN 10474), (pN 10476), (pN 10480), (pN 13820), (.so 19207 0 1 1), (.map 13821), (.map 13822), .nils, z1, (iN 3), (iN 6), z0, .nilp, bT, (iN 2000), z0, z0, z0, z0, z0, (uN 0), z0, tx1, tx1, bF, z0, .nils, z0, z0, (.map 13823)]))), q22, q24, q25, q26, (19202, (.cells 7 true [] (T.ofList 0 .leaf [z0, z0, z0, z0, (iN 3), (iN 5), z0]))), (19203, (.cells 3 true [] (T.ofList 0 .leaf [z0, z0, z0]))), (19204, (.cells 3 true [] (T.ofList 0 .leaf [bF, bF, bF]))), (19205, (.cells 6 false [] (T.ofList 0 .leaf [z0, z0, (pN 14128), z0, z0, .nilp]))), (19207, (.cells 1 true [] (T.ofList 0 .leaf [(pN 19205)])))], bT, 19243, [q589, (13823, (.map [(tx0, z1, 0)] 1)), q623, q22, q24, q25, q26, q624, q625, (19207, (.cells 1 true [] (T.ofList 0 .leaf [(pN 19205)]))), q616, q612]⟩
theorem I17022_ok : InOk Tryz.prog I17022 := InOk.of_run (K := K_CY1d) (n := 5000) mixed K_CY1d_ok (by kernel_rfl) (by as_aux_lemma => kernel_rfl)
noncomputable def H_CY1d : Hand := (Hand.at 52 (Hand.sp 20233 (Hand.sp 19637 (Hand.sp 19337 (Hand.sp 19274 ((inHand I17042).or (inHand I17022)) ((inHand I17088).or (inHand I17068))) (Hand.sp 19471 ((inHand I17136).or (inHand I17114)) (Hand.sp 19539 (inHand I17195) ((inHand I17266).or (inHand I17244))))) (Hand.sp 19904 (Hand.sp 19808 ((inHand I17396).or (inHand I17304)) ((inHand I17494).or (inHand I17428))) (Hand.sp 20004 ((inHand I17565).or (inHand I17525)) (Hand.sp 20066 (inHand I17587) ((inHand I17717).or (inHand I17625)))))) (Hand.sp 20754 (Hand.sp 20429 (Hand.sp 20329 ((inHand I17815).or (inHand I17749)) ((inHand I17886).or (inHand I17846))) (Hand.sp 20609 ((inHand I17946).or (inHand I17908)) (Hand.sp 20658 (inHand I18038) ((inHand I18136).or (inHand I18070))))) (Hand.sp 21083 (Hand.sp 20854 ((inHand I18207).or (inHand I18167)) (Hand.sp 20916 (inHand I18229) ((inHand I18359).or (inHand I18267)))) (Hand.sp 21179 ((inHand I18457).or (inHand I18391)) (Hand.sp 21245 (inHand I18488) ((inHand I18550).or (inHand I18528))))))))
theorem H_CY1d_ok : HandOk Tryz.prog H_CY1d := (HandOk.at 52 (HandOk.sp 20233 (HandOk.sp 19637 (HandOk.sp 19337 (HandOk.sp 19274 (HandOk.or (inHand_ok I17042_ok (by kernel_rfl)) (inHand_ok I17022_ok (by kernel_rfl))) (HandOk.or (inHand_ok I17088_ok (by kernel_rfl)) (inHand_ok I17068_ok (by kernel_rfl)))) (HandOk.sp 19471 (HandOk.or (inHand_ok I17136_ok (by kernel_rfl)) (inHand_ok I17114_ok (by kernel_rfl))) (HandOk.sp 19539 (inHand_ok I17195_ok (by kernel_rfl)) (HandOk.or (inHand_ok I17266_ok (by kernel_rfl)) (inHand_ok I17244_ok (by kernel_rfl)))))) (HandOk.sp 19904 (HandOk.sp 19808 (HandOk.or (inHand_ok I17396_ok (by kernel_rfl)) (inHand_ok I17304_ok (by kernel_rfl))) (HandOk.or (inHand_ok I17494_ok (by kernel_rfl)) (inHand_ok I17428_ok (by kernel_rfl)))) (HandOk.sp 20004 (HandOk.or (inHand_ok I17565_ok (by kernel_rfl)) (inHand_ok I17525_ok (by kernel_rfl))) (HandOk.sp 20066 (inHand_ok I17587_ok (by kernel_rfl)) (HandOk.or (inHand_ok I17717_ok (by kernel_rfl)) (inHand_ok I17625_ok (by kernel_rfl))))))) (HandOk.sp 20754 (HandOk.sp 20429 (HandOk.sp 20329 (HandOk.or (inHand_ok I17815_ok (by kernel_rfl)) (inHand_ok I17749_ok (by kernel_rfl))) (HandOk.or (inHand_ok I17886_ok (by kernel_rfl)) (inHand_ok I17846_ok (by kernel_rfl)))) (HandOk.sp 20609 (HandOk.or (inHand_ok I17946_ok (by kernel_rfl)) (inHand_ok I17908_ok (by kernel_rfl))) (HandOk.sp 20658 (inHand_ok I18038_ok (by kernel_rfl)) (HandOk.or (inHand_ok I18136_ok (by kernel_rfl)) (inHand_ok I18070_ok (by kernel_rfl)))))) (HandOk.sp 21083 (HandOk.sp 20854 (HandOk.or (inHand_ok I18207_ok (by kernel_rfl)) (inHand_ok I18167_ok (by kernel_rfl))) (HandOk.sp 20916 (inHand_ok I18229_ok (by kernel_rfl)) (HandOk.or (inHand_ok I18359_ok (by kernel_rfl)) (inHand_ok I18267_ok (by kernel_rfl))))) (HandOk.sp 21179 (HandOk.or (inHand_ok I18457_ok (by kernel_rfl)) (inHand_ok I18391_ok (by kernel_rfl))) (HandOk.sp 21245 (inHand_ok I18488_ok (by kernel_rfl)) (HandOk.or (inHand_ok I18550_ok (by kernel_rfl)) (inHand_ok I18528_ok (by kernel_rfl)))))))))
end Go.Proofs.YthgncmohimdbmaaGreatDoor.cy
