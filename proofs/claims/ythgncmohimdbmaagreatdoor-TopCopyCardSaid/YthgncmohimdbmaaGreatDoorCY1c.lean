/-
  Contracts of calls, by the kernel.
-/
import Derived.Test.YthgncmohimdbmaaGreatDoorCYNN
import Derived.Test.YthgncmohimdbmaaGreatDoorXN3
import Derived.Test.YthgncmohimdbmaaGreatDoorProg
import Derived.KernelRfl
import Derived.Test.YthgncmohimdbmaaGreatDoorCY0a
import Derived.Test.YthgncmohimdbmaaGreatDoorCY0b
set_option linter.unusedSectionVars false
set_option linter.unusedVariables false
set_option maxRecDepth 1000000
set_option maxHeartbeats 0
namespace Go.Proofs.YthgncmohimdbmaaGreatDoor.cy
open Go.X Go.RowKit
variable [Tab]
noncomputable def K_CY1c : Hand := H_CY0b
theorem K_CY1c_ok : HandOk Tryz.prog K_CY1c := H_CY0b_ok

noncomputable def I20155 : In := ⟨52, [(pN 13824)], 23404, [q50, (13823, (.map [(tx0, (iN 108), 0)] 1)), q405, q22, q24, q25, q26, q366, q367, (19207, (.cells 1 true [] (T.ofList 0 .leaf [(pN 19205)]))), q402, q364], bT, 23466, [q359, (13823, (.map [(tx0, (iN 109), 0)] 1)), q403, q22, q24, q25, q26, q361, q404, (19207, (.cells 1 true [] (T.ofList 0 .leaf [(pN 19205)]))), q402, q364]⟩
theorem I20155_ok : InOk Tryz.prog I20155 := InOk.of_run (K := K_CY1c) (n := 5000) mixed K_CY1c_ok (by kernel_rfl) (by as_aux_lemma => kernel_rfl)

noncomputable def I20133 : In := ⟨52, [(pN 13824)], 23370, [q44, (13823, (.map [(tx0, (iN 107), 0)] 1)), q406, q22, q24, q25, q26, q369, q370, (19207, (.cells 1 true [] (T.ofList 0 .leaf [(pN 19205)]))), q407, q364], bT, 23404, [q50, (13823, (.map [(tx0, (iN 108), 0)] 1)), q405, q22, q24, q25, q26, q366, q367, (19207, (.cells 1 true [] (T.ofList 0 .leaf [(pN 19205)]))), q402, q364]⟩
theorem I20133_ok : InOk Tryz.prog I20133 := InOk.of_run (K := K_CY1c) (n := 5000) mixed K_CY1c_ok (by kernel_rfl) (by as_aux_lemma => kernel_rfl)

noncomputable def I20093 : In := ⟨52, [(pN 13824)], 23304, [q359, (13823, (.map [(tx0, (iN 105), 0)] 1)), q409, q22, q24, q25, q26, q377, q378, (19207, (.cells 1 true [] (T.ofList 0 .leaf [(pN 19205)])))], bT, 23343, [q359, (13823, (.map [(tx0, (iN 106), 0)] 1)), q408, q22, q24, q25, q26, q373, q374, (19207, (.cells 1 true [] (T.ofList 0 .leaf [(pN 19205)])))]⟩
theorem I20093_ok : InOk Tryz.prog I20093 := InOk.of_run (K := K_CY1c) (n := 5000) mixed K_CY1c_ok (by kernel_rfl) (by as_aux_lemma => kernel_rfl)

noncomputable def I20062 : In := ⟨52, [(pN 13824)], 23249, [q359, (13823, (.map [(tx0, (iN 104), 0)] 1)), q410, q22, q24, q25, q26, q380, q381, (19207, (.cells 1 true [] (T.ofList 0 .leaf [(pN 19205)]))), q411, q49], bT, 23304, [q359, (13823, (.map [(tx0, (iN 105), 0)] 1)), q409, q22, q24, q25, q26, q377, q378, (19207, (.cells 1 true [] (T.ofList 0 .leaf [(pN 19205)]))), q407, q49]⟩
theorem I20062_ok : InOk Tryz.prog I20062 := InOk.of_run (K := K_CY1c) (n := 5000) mixed K_CY1c_ok (by kernel_rfl) (by as_aux_lemma => kernel_rfl)

noncomputable def I19996 : In := ⟨52, [(pN 13824)], 23208, [q0, q39, (13823, (.map [(tx0, (iN 103), 0)] 1)), q412, q22, q24, q25, q26, q384, q385, (19207, (.cells 1 true [] (T.ofList 0 .leaf [(pN 19205)]))), q2, q413, q4, q411, q49], bT, 23249, [q0, q359, (13823, (.map [(tx0, (iN 104), 0)] 1)), q410, q22, q24, q25, q26, q380, q381, (19207, (.cells 1 true [] (T.ofList 0 .leaf [(pN 19205)]))), q2, q386, q4, q411, q49]⟩
theorem I19996_ok : InOk Tryz.prog I19996 := InOk.of_run (K := K_CY1c) (n := 5000) mixed K_CY1c_ok (by kernel_rfl) (by as_aux_lemma => kernel_rfl)

noncomputable def I19964 : In := ⟨52, [(pN 13824)], 23159, [q33, (13823, (.map [(tx0, (iN 102), 0)] 1)), q414, q22, q24, q25, q26, q388, q389, (19207, (.cells 1 true [] (T.ofList 0 .leaf [(pN 19205)]))), q415, q49], bT, 23208, [q39, (13823, (.map [(tx0, (iN 103), 0)] 1)), q412, q22, q24, q25, q26, q384, q385, (19207, (.cells 1 true [] (T.ofList 0 .leaf [(pN 19205)]))), q411, q49]⟩
theorem I19964_ok : InOk Tryz.prog I19964 := InOk.of_run (K := K_CY1c) (n := 5000) mixed K_CY1c_ok (by kernel_rfl) (by as_aux_lemma => kernel_rfl)

noncomputable def I19872 : In := ⟨52, [(pN 13824)], 23041, [q359, (13823, (.map [(tx0, (iN 98), 0)] 1)), q422, q22, q24, q25, q26, q361, q404, (19207, (.cells 1 true [] (T.ofList 0 .leaf [(pN 19205)]))), q423, q364], bT, 23078, [q44, (13823, (.map [(tx0, (iN 99), 0)] 1)), q420, q22, q24, q25, q26, q400, q401, (19207, (.cells 1 true [] (T.ofList 0 .leaf [(pN 19205)]))), q421, q49]⟩
theorem I19872_ok : InOk Tryz.prog I19872 := InOk.of_run (K := K_CY1c) (n := 5000) mixed K_CY1c_ok (by kernel_rfl) (by as_aux_lemma => kernel_rfl)

noncomputable def I19834 : In := ⟨52, [(pN 13824)], 22979, [q50, (13823, (.map [(tx0, (iN 97), 0)] 1)), q424, q22, q24, q25, q26, q366, q367, (19207, (.cells 1 true [] (T.ofList 0 .leaf [(pN 19205)]))), q423, q364], bT, 23041, [q359, (13823, (.map [(tx0, (iN 98), 0)] 1)), q422, q22, q24, q25, q26, q361, q404, (19207, (.cells 1 true [] (T.ofList 0 .leaf [(pN 19205)]))), q423, q364]⟩
theorem I19834_ok : InOk Tryz.prog I19834 := InOk.of_run (K := K_CY1c) (n := 5000) mixed K_CY1c_ok (by kernel_rfl) (by as_aux_lemma => kernel_rfl)

noncomputable def I19812 : In := ⟨52, [(pN 13824)], 22945, [q44, (13823, (.map [(tx0, (iN 96), 0)] 1)), q425, q22, q24, q25, q26, q369, q370, (19207, (.cells 1 true [] (T.ofList 0 .leaf [(pN 19205)]))), q426, q364], bT, 22979, [q50, (13823, (.map [(tx0, (iN 97), 0)] 1)), q424, q22, q24, q25, q26, q366, q367, (19207, (.cells 1 true [] (T.ofList 0 .leaf [(pN 19205)]))), q423, q364]⟩
theorem I19812_ok : InOk Tryz.prog I19812 := InOk.of_run (K := K_CY1c) (n := 5000) mixed K_CY1c_ok (by kernel_rfl) (by as_aux_lemma => kernel_rfl)

noncomputable def I19772 : In := ⟨52, [(pN 13824)], 22879, [q359, (13823, (.map [(tx0, (iN 94), 0)] 1)), q429, q22, q24, q25, q26, q377, q378, (19207, (.cells 1 true [] (T.ofList 0 .leaf [(pN 19205)])))], bT, 22918, [q359, (13823, (.map [(tx0, (iN 95), 0)] 1)), q427, q22, q24, q25, q26, q373, q374, (19207, (.cells 1 true [] (T.ofList 0 .leaf [(pN 19205)])))]⟩
theorem I19772_ok : InOk Tryz.prog I19772 := InOk.of_run (K := K_CY1c) (n := 5000) mixed K_CY1c_ok (by kernel_rfl) (by as_aux_lemma => kernel_rfl)

noncomputable def I19741 : In := ⟨52, [(pN 13824)], 22824, [q359, (13823, (.map [(tx0, (iN 93), 0)] 1)), q430, q22, q24, q25, q26, q380, q381, (19207, (.cells 1 true [] (T.ofList 0 .leaf [(pN 19205)]))), q431, q49], bT, 22879, [q359, (13823, (.map [(tx0, (iN 94), 0)] 1)), q429, q22, q24, q25, q26, q377, q378, (19207, (.cells 1 true [] (T.ofList 0 .leaf [(pN 19205)]))), q428, q49]⟩
theorem I19741_ok : InOk Tryz.prog I19741 := InOk.of_run (K := K_CY1c) (n := 5000) mixed K_CY1c_ok (by kernel_rfl) (by as_aux_lemma => kernel_rfl)

noncomputable def I19675 : In := ⟨52, [(pN 13824)], 22783, [q0, q39, (13823, (.map [(tx0, (iN 92), 0)] 1)), q432, q22, q24, q25, q26, q384, q385, (19207, (.cells 1 true [] (T.ofList 0 .leaf [(pN 19205)]))), q2, q433, q4, q431, q49], bT, 22824, [q0, q359, (13823, (.map [(tx0, (iN 93), 0)] 1)), q430, q22, q24, q25, q26, q380, q381, (19207, (.cells 1 true [] (T.ofList 0 .leaf [(pN 19205)]))), q2, q413, q4, q431, q49]⟩
theorem I19675_ok : InOk Tryz.prog I19675 := InOk.of_run (K := K_CY1c) (n := 5000) mixed K_CY1c_ok (by kernel_rfl) (by as_aux_lemma => kernel_rfl)

noncomputable def I19643 : In := ⟨52, [(pN 13824)], 22734, [q33, (13823, (.map [(tx0, (iN 91), 0)] 1)), q434, q22, q24, q25, q26, q388, q389, (19207, (.cells 1 true [] (T.ofList 0 .leaf [(pN 19205)]))), q435, q49], bT, 22783, [q39, (13823, (.map [(tx0, (iN 92), 0)] 1)), q432, q22, q24, q25, q26, q384, q385, (19207, (.cells 1 true [] (T.ofList 0 .leaf [(pN 19205)]))), q431, q49]⟩
theorem I19643_ok : InOk Tryz.prog I19643 := InOk.of_run (K := K_CY1c) (n := 5000) mixed K_CY1c_ok (by kernel_rfl) (by as_aux_lemma => kernel_rfl)

noncomputable def I19551 : In := ⟨52, [(pN 13824)], 22616, [q359, (13823, (.map [(tx0, (iN 87), 0)] 1)), q442, q22, q24, q25, q26, q361, q404, (19207, (.cells 1 true [] (T.ofList 0 .leaf [(pN 19205)]))), q443, q364], bT, 22653, [q44, (13823, (.map [(tx0, (iN 88), 0)] 1)), q440, q22, q24, q25, q26, q400, q401, (19207, (.cells 1 true [] (T.ofList 0 .leaf [(pN 19205)]))), q441, q49]⟩
theorem I19551_ok : InOk Tryz.prog I19551 := InOk.of_run (K := K_CY1c) (n := 5000) mixed K_CY1c_ok (by kernel_rfl) (by as_aux_lemma => kernel_rfl)

noncomputable def I19513 : In := ⟨52, [(pN 13824)], 22554, [q50, (13823, (.map [(tx0, (iN 86), 0)] 1)), q444, q22, q24, q25, q26, q366, q367, (19207, (.cells 1 true [] (T.ofList 0 .leaf [(pN 19205)]))), q443, q364], bT, 22616, [q359, (13823, (.map [(tx0, (iN 87), 0)] 1)), q442, q22, q24, q25, q26, q361, q404, (19207, (.cells 1 true [] (T.ofList 0 .leaf [(pN 19205)]))), q443, q364]⟩
theorem I19513_ok : InOk Tryz.prog I19513 := InOk.of_run (K := K_CY1c) (n := 5000) mixed K_CY1c_ok (by kernel_rfl) (by as_aux_lemma => kernel_rfl)

noncomputable def I19491 : In := ⟨52, [(pN 13824)], 22520, [q44, (13823, (.map [(tx0, (iN 85), 0)] 1)), q445, q22, q24, q25, q26, q369, q370, (19207, (.cells 1 true [] (T.ofList 0 .leaf [(pN 19205)]))), q446, q364], bT, 22554, [q50, (13823, (.map [(tx0, (iN 86), 0)] 1)), q444, q22, q24, q25, q26, q366, q367, (19207, (.cells 1 true [] (T.ofList 0 .leaf [(pN 19205)]))), q443, q364]⟩
theorem I19491_ok : InOk Tryz.prog I19491 := InOk.of_run (K := K_CY1c) (n := 5000) mixed K_CY1c_ok (by kernel_rfl) (by as_aux_lemma => kernel_rfl)

noncomputable def I19451 : In := ⟨52, [(pN 13824)], 22454, [q359, (13823, (.map [(tx0, (iN 83), 0)] 1)), q449, q22, q24, q25, q26, q377, q378, (19207, (.cells 1 true [] (T.ofList 0 .leaf [(pN 19205)])))], bT, 22493, [q359, (13823, (.map [(tx0, (iN 84), 0)] 1)), q447, q22, q24, q25, q26, q373, q374, (19207, (.cells 1 true [] (T.ofList 0 .leaf [(pN 19205)])))]⟩
theorem I19451_ok : InOk Tryz.prog I19451 := InOk.of_run (K := K_CY1c) (n := 5000) mixed K_CY1c_ok (by kernel_rfl) (by as_aux_lemma => kernel_rfl)

noncomputable def I19420 : In := ⟨52, [(pN 13824)], 22399, [q359, (13823, (.map [(tx0, (iN 82), 0)] 1)), q450, q22, q24, q25, q26, q380, q381, (19207, (.cells 1 true [] (T.ofList 0 .leaf [(pN 19205)]))), q451, q49], bT, 22454, [q359, (13823, (.map [(tx0, (iN 83), 0)] 1)), q449, q22, q24, q25, q26, q377, q378, (19207, (.cells 1 true [] (T.ofList 0 .leaf [(pN 19205)]))), q448, q49]⟩
theorem I19420_ok : InOk Tryz.prog I19420 := InOk.of_run (K := K_CY1c) (n := 5000) mixed K_CY1c_ok (by kernel_rfl) (by as_aux_lemma => kernel_rfl)

noncomputable def I19354 : In := ⟨52, [(pN 13824)], 22358, [q0, q39, (13823, (.map [(tx0, (iN 81), 0)] 1)), q452, q22, q24, q25, q26, q384, q385, (19207, (.cells 1 true [] (T.ofList 0 .leaf [(pN 19205)]))), q2, q453, q4, q451, q49], bT, 22399, [q0, q359, (13823, (.map [(tx0, (iN 82), 0)] 1)), q450, q22, q24, q25, q26, q380, q381, (19207, (.cells 1 true [] (T.ofList 0 .leaf [(pN 19205)]))), q2, q433, q4, q451, q49]⟩
theorem I19354_ok : InOk Tryz.prog I19354 := InOk.of_run (K := K_CY1c) (n := 5000) mixed K_CY1c_ok (by kernel_rfl) (by as_aux_lemma => kernel_rfl)

noncomputable def I19322 : In := ⟨52, [(pN 13824)], 22309, [q33, (13823, (.map [(tx0, (iN 80), 0)] 1)), q454, q22, q24, q25, q26, q388, q389, (19207, (.cells 1 true [] (T.ofList 0 .leaf [(pN 19205)]))), q455, q49], bT, 22358, [q39, (13823, (.map [(tx0, (iN 81), 0)] 1)), q452, q22, q24, q25, q26, q384, q385, (19207, (.cells 1 true [] (T.ofList 0 .leaf [(pN 19205)]))), q451, q49]⟩
theorem I19322_ok : InOk Tryz.prog I19322 := InOk.of_run (K := K_CY1c) (n := 5000) mixed K_CY1c_ok (by kernel_rfl) (by as_aux_lemma => kernel_rfl)

noncomputable def I19230 : In := ⟨52, [(pN 13824)], 22191, [q359, (13823, (.map [(tx0, (iN 76), 0)] 1)), q462, q22, q24, q25, q26, q361, q404, (19207, (.cells 1 true [] (T.ofList 0 .leaf [(pN 19205)]))), q463, q364], bT, 22228, [q44, (13823, (.map [(tx0, (iN 77), 0)] 1)), q460, q22, q24, q25, q26, q400, q401, (19207, (.cells 1 true [] (T.ofList 0 .leaf [(pN 19205)]))), q461, q49]⟩
theorem I19230_ok : InOk Tryz.prog I19230 := InOk.of_run (K := K_CY1c) (n := 5000) mixed K_CY1c_ok (by kernel_rfl) (by as_aux_lemma => kernel_rfl)

noncomputable def I19192 : In := ⟨52, [(pN 13824)], 22129, [q50, (13823, (.map [(tx0, (iN 75), 0)] 1)), q464, q22, q24, q25, q26, q366, q367, (19207, (.cells 1 true [] (T.ofList 0 .leaf [(pN 19205)]))), q463, q364], bT, 22191, [q359, (13823, (.map [(tx0, (iN 76), 0)] 1)), q462, q22, q24, q25, q26, q361, q404, (19207, (.cells 1 true [] (T.ofList 0 .leaf [(pN 19205)]))), q463, q364]⟩
theorem I19192_ok : InOk Tryz.prog I19192 := InOk.of_run (K := K_CY1c) (n := 5000) mixed K_CY1c_ok (by kernel_rfl) (by as_aux_lemma => kernel_rfl)

noncomputable def I19170 : In := ⟨52, [(pN 13824)], 22095, [q44, (13823, (.map [(tx0, (iN 74), 0)] 1)), q465, q22, q24, q25, q26, q369, q370, (19207, (.cells 1 true [] (T.ofList 0 .leaf [(pN 19205)]))), q466, q364], bT, 22129, [q50, (13823, (.map [(tx0, (iN 75), 0)] 1)), q464, q22, q24, q25, q26, q366, q367, (19207, (.cells 1 true [] (T.ofList 0 .leaf [(pN 19205)]))), q463, q364]⟩
theorem I19170_ok : InOk Tryz.prog I19170 := InOk.of_run (K := K_CY1c) (n := 5000) mixed K_CY1c_ok (by kernel_rfl) (by as_aux_lemma => kernel_rfl)

noncomputable def I19130 : In := ⟨52, [(pN 13824)], 22029, [q359, (13823, (.map [(tx0, (iN 72), 0)] 1)), q469, q22, q24, q25, q26, q377, q378, (19207, (.cells 1 true [] (T.ofList 0 .leaf [(pN 19205)])))], bT, 22068, [q359, (13823, (.map [(tx0, (iN 73), 0)] 1)), q467, q22, q24, q25, q26, q373, q374, (19207, (.cells 1 true [] (T.ofList 0 .leaf [(pN 19205)])))]⟩
theorem I19130_ok : InOk Tryz.prog I19130 := InOk.of_run (K := K_CY1c) (n := 5000) mixed K_CY1c_ok (by kernel_rfl) (by as_aux_lemma => kernel_rfl)

noncomputable def I19099 : In := ⟨52, [(pN 13824)], 21974, [q359, (13823, (.map [(tx0, (iN 71), 0)] 1)), q470, q22, q24, q25, q26, q380, q381, (19207, (.cells 1 true [] (T.ofList 0 .leaf [(pN 19205)]))), q471, q49], bT, 22029, [q359, (13823, (.map [(tx0, (iN 72), 0)] 1)), q469, q22, q24, q25, q26, q377, q378, (19207, (.cells 1 true [] (T.ofList 0 .leaf [(pN 19205)]))), q468, q49]⟩
theorem I19099_ok : InOk Tryz.prog I19099 := InOk.of_run (K := K_CY1c) (n := 5000) mixed K_CY1c_ok (by kernel_rfl) (by as_aux_lemma => kernel_rfl)

noncomputable def I19033 : In := ⟨52, [(pN 13824)], 21933, [q0, q39, (13823, (.map [(tx0, (iN 70), 0)] 1)), q472, q22, q24, q25, q26, q384, q385, (19207, (.cells 1 true [] (T.ofList 0 .leaf [(pN 19205)]))), q2, q473, q4, q471, q49], bT, 21974, [q0, q359, (13823, (.map [(tx0, (iN 71), 0)] 1)), q470, q22, q24, q25, q26, q380, q381, (19207, (.cells 1 true [] (T.ofList 0 .leaf [(pN 19205)]))), q2, q453, q4, q471, q49]⟩
theorem I19033_ok : InOk Tryz.prog I19033 := InOk.of_run (K := K_CY1c) (n := 5000) mixed K_CY1c_ok (by kernel_rfl) (by as_aux_lemma => kernel_rfl)

noncomputable def I19001 : In := ⟨52, [(pN 13824)], 21884, [q33, (13823, (.map [(tx0, (iN 69), 0)] 1)), q474, q22, q24, q25, q26, q388, q389, (19207, (.cells 1 true [] (T.ofList 0 .leaf [(pN 19205)]))), q475, q49], bT, 21933, [q39, (13823, (.map [(tx0, (iN 70), 0)] 1)), q472, q22, q24, q25, q26, q384, q385, (19207, (.cells 1 true [] (T.ofList 0 .leaf [(pN 19205)]))), q471, q49]⟩
theorem I19001_ok : InOk Tryz.prog I19001 := InOk.of_run (K := K_CY1c) (n := 5000) mixed K_CY1c_ok (by kernel_rfl) (by as_aux_lemma => kernel_rfl)

noncomputable def I18909 : In := ⟨52, [(pN 13824)], 21766, [q359, (13823, (.map [(tx0, (iN 65), 0)] 1)), q482, q22, q24, q25, q26, q361, q404, (19207, (.cells 1 true [] (T.ofList 0 .leaf [(pN 19205)]))), q483, q364], bT, 21803, [q44, (13823, (.map [(tx0, (iN 66), 0)] 1)), q480, q22, q24, q25, q26, q400, q401, (19207, (.cells 1 true [] (T.ofList 0 .leaf [(pN 19205)]))), q481, q49]⟩
theorem I18909_ok : InOk Tryz.prog I18909 := InOk.of_run (K := K_CY1c) (n := 5000) mixed K_CY1c_ok (by kernel_rfl) (by as_aux_lemma => kernel_rfl)

noncomputable def I18871 : In := ⟨52, [(pN 13824)], 21704, [q50, (13823, (.map [(tx0, (iN 64), 0)] 1)), q484, q22, q24, q25, q26, q366, q367, (19207, (.cells 1 true [] (T.ofList 0 .leaf [(pN 19205)]))), q483, q364], bT, 21766, [q359, (13823, (.map [(tx0, (iN 65), 0)] 1)), q482, q22, q24, q25, q26, q361, q404, (19207, (.cells 1 true [] (T.ofList 0 .leaf [(pN 19205)]))), q483, q364]⟩
theorem I18871_ok : InOk Tryz.prog I18871 := InOk.of_run (K := K_CY1c) (n := 5000) mixed K_CY1c_ok (by kernel_rfl) (by as_aux_lemma => kernel_rfl)

noncomputable def I18849 : In := ⟨52, [(pN 13824)], 21670, [q44, (13823, (.map [(tx0, (iN 63), 0)] 1)), q485, q22, q24, q25, q26, q369, q370, (19207, (.cells 1 true [] (T.ofList 0 .leaf [(pN 19205)]))), q486, q364], bT, 21704, [q50, (13823, (.map [(tx0, (iN 64), 0)] 1)), q484, q22, q24, q25, q26, q366, q367, (19207, (.cells 1 true [] (T.ofList 0 .leaf [(pN 19205)]))), q483, q364]⟩
theorem I18849_ok : InOk Tryz.prog I18849 := InOk.of_run (K := K_CY1c) (n := 5000) mixed K_CY1c_ok (by kernel_rfl) (by as_aux_lemma => kernel_rfl)

noncomputable def I18809 : In := ⟨52, [(pN 13824)], 21604, [q359, (13823, (.map [(tx0, (iN 61), 0)] 1)), q489, q22, q24, q25, q26, q377, q378, (19207, (.cells 1 true [] (T.ofList 0 .leaf [(pN 19205)])))], bT, 21643, [q359, (13823, (.map [(tx0, (iN 62), 0)] 1)), q487, q22, q24, q25, q26, q373, q374, (19207, (.cells 1 true [] (T.ofList 0 .leaf [(pN 19205)])))]⟩
theorem I18809_ok : InOk Tryz.prog I18809 := InOk.of_run (K := K_CY1c) (n := 5000) mixed K_CY1c_ok (by kernel_rfl) (by as_aux_lemma => kernel_rfl)

noncomputable def I18778 : In := ⟨52, [(pN 13824)], 21549, [q359, (13823, (.map [(tx0, (iN 60), 0)] 1)), q490, q22, q24, q25, q26, q380, q381, (19207, (.cells 1 true [] (T.ofList 0 .leaf [(pN 19205)]))), q491, q49], bT, 21604, [q359, (13823, (.map [(tx0, (iN 61), 0)] 1)), q489, q22, q24, q25, q26, q377, q378, (19207, (.cells 1 true [] (T.ofList 0 .leaf [(pN 19205)]))), q488, q49]⟩
theorem I18778_ok : InOk Tryz.prog I18778 := InOk.of_run (K := K_CY1c) (n := 5000) mixed K_CY1c_ok (by kernel_rfl) (by as_aux_lemma => kernel_rfl)

noncomputable def I18712 : In := ⟨52, [(pN 13824)], 21508, [q0, q39, (13823, (.map [(tx0, (iN 59), 0)] 1)), q492, q22, q24, q25, q26, q384, q385, (19207, (.cells 1 true [] (T.ofList 0 .leaf [(pN 19205)]))), q2, q493, q4, q491, q49], bT, 21549, [q0, q359, (13823, (.map [(tx0, (iN 60), 0)] 1)), q490, q22, q24, q25, q26, q380, q381, (19207, (.cells 1 true [] (T.ofList 0 .leaf [(pN 19205)]))), q2, q473, q4, q491, q49]⟩
theorem I18712_ok : InOk Tryz.prog I18712 := InOk.of_run (K := K_CY1c) (n := 5000) mixed K_CY1c_ok (by kernel_rfl) (by as_aux_lemma => kernel_rfl)

noncomputable def I18680 : In := ⟨52, [(pN 13824)], 21459, [q33, (13823, (.map [(tx0, (iN 58), 0)] 1)), q494, q22, q24, q25, q26, q388, q389, (19207, (.cells 1 true [] (T.ofList 0 .leaf [(pN 19205)]))), q495, q49], bT, 21508, [q39, (13823, (.map [(tx0, (iN 59), 0)] 1)), q492, q22, q24, q25, q26, q384, q385, (19207, (.cells 1 true [] (T.ofList 0 .leaf [(pN 19205)]))), q491, q49]⟩
theorem I18680_ok : InOk Tryz.prog I18680 := InOk.of_run (K := K_CY1c) (n := 5000) mixed K_CY1c_ok (by kernel_rfl) (by as_aux_lemma => kernel_rfl)

noncomputable def I18588 : In := ⟨52, [(pN 13824)], 21341, [q359, (13823, (.map [(tx0, (iN 54), 0)] 1)), q502, q22, q24, q25, q26, q361, q404, (19207, (.cells 1 true [] (T.ofList 0 .leaf [(pN 19205)]))), q503, q364], bT, 21378, [q44, (13823, (.map [(tx0, (iN 55), 0)] 1)), q500, q22, q24, q25, q26, q400, q401, (19207, (.cells 1 true [] (T.ofList 0 .leaf [(pN 19205)]))), q501, q49]⟩
theorem I18588_ok : InOk Tryz.prog I18588 := InOk.of_run (K := K_CY1c) (n := 5000) mixed K_CY1c_ok (by kernel_rfl) (by as_aux_lemma => kernel_rfl)
noncomputable def H_CY1c : Hand := (Hand.at 52 (Hand.sp 22399 (Hand.sp 21884 (Hand.sp 21604 (Hand.sp 21508 ((inHand I18680).or (inHand I18588)) ((inHand I18778).or (inHand I18712))) (Hand.sp 21704 ((inHand I18849).or (inHand I18809)) ((inHand I18909).or (inHand I18871)))) (Hand.sp 22095 (Hand.sp 21974 ((inHand I19033).or (inHand I19001)) ((inHand I19130).or (inHand I19099))) (Hand.sp 22191 ((inHand I19192).or (inHand I19170)) (Hand.sp 22309 (inHand I19230) ((inHand I19354).or (inHand I19322)))))) (Hand.sp 22945 (Hand.sp 22616 (Hand.sp 22520 ((inHand I19451).or (inHand I19420)) ((inHand I19513).or (inHand I19491))) (Hand.sp 22783 ((inHand I19643).or (inHand I19551)) (Hand.sp 22824 (inHand I19675) ((inHand I19772).or (inHand I19741))))) (Hand.sp 23208 (Hand.sp 23041 ((inHand I19834).or (inHand I19812)) ((inHand I19964).or (inHand I19872))) (Hand.sp 23304 ((inHand I20062).or (inHand I19996)) (Hand.sp 23370 (inHand I20093) ((inHand I20155).or (inHand I20133))))))))
theorem H_CY1c_ok : HandOk Tryz.prog H_CY1c := (HandOk.at 52 (HandOk.sp 22399 (HandOk.sp 21884 (HandOk.sp 21604 (HandOk.sp 21508 (HandOk.or (inHand_ok I18680_ok (by kernel_rfl)) (inHand_ok I18588_ok (by kernel_rfl))) (HandOk.or (inHand_ok I18778_ok (by kernel_rfl)) (inHand_ok I18712_ok (by kernel_rfl)))) (HandOk.sp 21704 (HandOk.or (inHand_ok I18849_ok (by kernel_rfl)) (inHand_ok I18809_ok (by kernel_rfl))) (HandOk.or (inHand_ok I18909_ok (by kernel_rfl)) (inHand_ok I18871_ok (by kernel_rfl))))) (HandOk.sp 22095 (HandOk.sp 21974 (HandOk.or (inHand_ok I19033_ok (by kernel_rfl)) (inHand_ok I19001_ok (by kernel_rfl))) (HandOk.or (inHand_ok I19130_ok (by kernel_rfl)) (inHand_ok I19099_ok (by kernel_rfl)))) (HandOk.sp 22191 (HandOk.or (inHand_ok I19192_ok (by kernel_rfl)) (inHand_ok I19170_ok (by kernel_rfl))) (HandOk.sp 22309 (inHand_ok I19230_ok (by kernel_rfl)) (HandOk.or (inHand_ok I19354_ok (by kernel_rfl)) (inHand_ok I19322_ok (by kernel_rfl))))))) (HandOk.sp 22945 (HandOk.sp 22616 (HandOk.sp 22520 (HandOk.or (inHand_ok I19451_ok (by kernel_rfl)) (inHand_ok I19420_ok (by kernel_rfl))) (HandOk.or (inHand_ok I19513_ok (by kernel_rfl)) (inHand_ok I19491_ok (by kernel_rfl)))) (HandOk.sp 22783 (HandOk.or (inHand_ok I19643_ok (by kernel_rfl)) (inHand_ok I19551_ok (by kernel_rfl))) (HandOk.sp 22824 (inHand_ok I19675_ok (by kernel_rfl)) (HandOk.or (inHand_ok I19772_ok (by kernel_rfl)) (inHand_ok I19741_ok (by kernel_rfl)))))) (HandOk.sp 23208 (HandOk.sp 23041 (HandOk.or (inHand_ok I19834_ok (by kernel_rfl)) (inHand_ok I19812_ok (by kernel_rfl))) (HandOk.or (inHand_ok I19964_ok (by kernel_rfl)) (inHand_ok I19872_ok (by kernel_rfl)))) (HandOk.sp 23304 (HandOk.or (inHand_ok I20062_ok (by kernel_rfl)) (inHand_ok I19996_ok (by kernel_rfl))) (HandOk.sp 23370 (inHand_ok I20093_ok (by kernel_rfl)) (HandOk.or (inHand_ok I20155_ok (by kernel_rfl)) (inHand_ok I20133_ok (by kernel_rfl)))))))))
end Go.Proofs.YthgncmohimdbmaaGreatDoor.cy
