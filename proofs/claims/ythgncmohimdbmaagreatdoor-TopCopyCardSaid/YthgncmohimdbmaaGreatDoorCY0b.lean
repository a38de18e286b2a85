/-
  Contracts of calls, by the kernel.
-/
import Derived.Test.YthgncmohimdbmaaGreatDoorCYNN
import Derived.Test.YthgncmohimdbmaaGreatDoorXN3
import Derived.Test.YthgncmohimdbmaaGreatDoorProg
import Derived.KernelRfl
import Derived.Test.YthgncmohimdbmaaGreatDoorCY0a
set_option linter.unusedSectionVars false
set_option linter.unusedVariables false
set_option maxRecDepth 1000000
set_option maxHeartbeats 0
namespace Go.Proofs.YthgncmohimdbmaaGreatDoor.cy
open Go.X Go.RowKit
variable [Tab]
noncomputable def K_CY0b : Hand := Hand.none
theorem K_CY0b_ok : HandOk Tryz.prog K_CY0b := HandOk.none

noncomputable def I18657 : In := ⟨52, [(pN 13824)], 21432, [q39, (13823, (.map [(tx0, (iN 57), 0)] 1)), q496, q22, q24, q25, q26, q392, q393, (19207, (.cells 1 true [] (T.ofList 0 .leaf [(pN 19205)]))), q497, q49], bT, 21459, [q33, (13823, (.map [(tx0, (iN 58), 0)] 1)), q494, q22, q24, q25, q26, q388, q389, (19207, (.cells 1 true [] (T.ofList 0 .leaf [(pN 19205)]))), q495, q49]⟩
theorem I18657_ok : InOk Tryz.prog I18657 := InOk.of_run (K := K_CY0b) (n := 5000) mixed K_CY0b_ok (by kernel_rfl) (by as_aux_lemma => kernel_rfl)

noncomputable def I18634 : In := ⟨52, [(pN 13824)], 21405, [q50, (13823, (.map [(tx0, (iN 56), 0)] 1)), q498, q22, q24, q25, q26, q396, q397, (19207, (.cells 1 true [] (T.ofList 0 .leaf [(pN 19205)]))), q499, q49], bT, 21432, [q39, (13823, (.map [(tx0, (iN 57), 0)] 1)), q496, q22, q24, q25, q26, q392, q393, (19207, (.cells 1 true [] (T.ofList 0 .leaf [(pN 19205)]))), q497, q49]⟩
theorem I18634_ok : InOk Tryz.prog I18634 := InOk.of_run (K := K_CY0b) (n := 5000) mixed K_CY0b_ok (by kernel_rfl) (by as_aux_lemma => kernel_rfl)

noncomputable def I18611 : In := ⟨52, [(pN 13824)], 21378, [q44, (13823, (.map [(tx0, (iN 55), 0)] 1)), q500, q22, q24, q25, q26, q400, q401, (19207, (.cells 1 true [] (T.ofList 0 .leaf [(pN 19205)]))), q501, q49], bT, 21405, [q50, (13823, (.map [(tx0, (iN 56), 0)] 1)), q498, q22, q24, q25, q26, q396, q397, (19207, (.cells 1 true [] (T.ofList 0 .leaf [(pN 19205)]))), q499, q49]⟩
theorem I18611_ok : InOk Tryz.prog I18611 := InOk.of_run (K := K_CY0b) (n := 5000) mixed K_CY0b_ok (by kernel_rfl) (by as_aux_lemma => kernel_rfl)

noncomputable def I18505 : In := ⟨52, [(pN 13824)], 21218, [q359, (13823, (.map [(tx0, (iN 51), 0)] 1)), q507, q22, q24, q25, q26, q373, q374, (19207, (.cells 1 true [] (T.ofList 0 .leaf [(pN 19205)]))), q508, q49], bT, 21245, [q44, (13823, (.map [(tx0, (iN 52), 0)] 1)), q505, q22, q24, q25, q26, q369, q370, (19207, (.cells 1 true [] (T.ofList 0 .leaf [(pN 19205)]))), q506, q364]⟩
theorem I18505_ok : InOk Tryz.prog I18505 := InOk.of_run (K := K_CY0b) (n := 5000) mixed K_CY0b_ok (by kernel_rfl) (by as_aux_lemma => kernel_rfl)

noncomputable def I18336 : In := ⟨52, [(pN 13824)], 21007, [q39, (13823, (.map [(tx0, (iN 46), 0)] 1)), q516, q22, q24, q25, q26, q392, q393, (19207, (.cells 1 true [] (T.ofList 0 .leaf [(pN 19205)]))), q517, q49], bT, 21034, [q33, (13823, (.map [(tx0, (iN 47), 0)] 1)), q514, q22, q24, q25, q26, q388, q389, (19207, (.cells 1 true [] (T.ofList 0 .leaf [(pN 19205)]))), q515, q49]⟩
theorem I18336_ok : InOk Tryz.prog I18336 := InOk.of_run (K := K_CY0b) (n := 5000) mixed K_CY0b_ok (by kernel_rfl) (by as_aux_lemma => kernel_rfl)

noncomputable def I18313 : In := ⟨52, [(pN 13824)], 20980, [q50, (13823, (.map [(tx0, (iN 45), 0)] 1)), q518, q22, q24, q25, q26, q396, q397, (19207, (.cells 1 true [] (T.ofList 0 .leaf [(pN 19205)]))), q519, q49], bT, 21007, [q39, (13823, (.map [(tx0, (iN 46), 0)] 1)), q516, q22, q24, q25, q26, q392, q393, (19207, (.cells 1 true [] (T.ofList 0 .leaf [(pN 19205)]))), q517, q49]⟩
theorem I18313_ok : InOk Tryz.prog I18313 := InOk.of_run (K := K_CY0b) (n := 5000) mixed K_CY0b_ok (by kernel_rfl) (by as_aux_lemma => kernel_rfl)

noncomputable def I18290 : In := ⟨52, [(pN 13824)], 20953, [q44, (13823, (.map [(tx0, (iN 44), 0)] 1)), q520, q22, q24, q25, q26, q400, q401, (19207, (.cells 1 true [] (T.ofList 0 .leaf [(pN 19205)]))), q521, q49], bT, 20980, [q50, (13823, (.map [(tx0, (iN 45), 0)] 1)), q518, q22, q24, q25, q26, q396, q397, (19207, (.cells 1 true [] (T.ofList 0 .leaf [(pN 19205)]))), q519, q49]⟩
theorem I18290_ok : InOk Tryz.prog I18290 := InOk.of_run (K := K_CY0b) (n := 5000) mixed K_CY0b_ok (by kernel_rfl) (by as_aux_lemma => kernel_rfl)

noncomputable def I18184 : In := ⟨52, [(pN 13824)], 20793, [q359, (13823, (.map [(tx0, (iN 40), 0)] 1)), q527, q22, q24, q25, q26, q373, q374, (19207, (.cells 1 true [] (T.ofList 0 .leaf [(pN 19205)]))), q528, q49], bT, 20820, [q44, (13823, (.map [(tx0, (iN 41), 0)] 1)), q525, q22, q24, q25, q26, q369, q370, (19207, (.cells 1 true [] (T.ofList 0 .leaf [(pN 19205)]))), q526, q364]⟩
theorem I18184_ok : InOk Tryz.prog I18184 := InOk.of_run (K := K_CY0b) (n := 5000) mixed K_CY0b_ok (by kernel_rfl) (by as_aux_lemma => kernel_rfl)

noncomputable def I18015 : In := ⟨52, [(pN 13824)], 20582, [q39, (13823, (.map [(tx0, (iN 35), 0)] 1)), q536, q22, q24, q25, q26, q392, q393, (19207, (.cells 1 true [] (T.ofList 0 .leaf [(pN 19205)]))), q537, q49], bT, 20609, [q33, (13823, (.map [(tx0, (iN 36), 0)] 1)), q534, q22, q24, q25, q26, q388, q389, (19207, (.cells 1 true [] (T.ofList 0 .leaf [(pN 19205)]))), q535, q49]⟩
theorem I18015_ok : InOk Tryz.prog I18015 := InOk.of_run (K := K_CY0b) (n := 5000) mixed K_CY0b_ok (by kernel_rfl) (by as_aux_lemma => kernel_rfl)

noncomputable def I17992 : In := ⟨52, [(pN 13824)], 20555, [q50, (13823, (.map [(tx0, (iN 34), 0)] 1)), q538, q22, q24, q25, q26, q396, q397, (19207, (.cells 1 true [] (T.ofList 0 .leaf [(pN 19205)]))), q539, q49], bT, 20582, [q39, (13823, (.map [(tx0, (iN 35), 0)] 1)), q536, q22, q24, q25, q26, q392, q393, (19207, (.cells 1 true [] (T.ofList 0 .leaf [(pN 19205)]))), q537, q49]⟩
theorem I17992_ok : InOk Tryz.prog I17992 := InOk.of_run (K := K_CY0b) (n := 5000) mixed K_CY0b_ok (by kernel_rfl) (by as_aux_lemma => kernel_rfl)

noncomputable def I17969 : In := ⟨52, [(pN 13824)], 20528, [q44, (13823, (.map [(tx0, (iN 33), 0)] 1)), q540, q22, q24, q25, q26, q400, q401, (19207, (.cells 1 true [] (T.ofList 0 .leaf [(pN 19205)]))), q541, q49], bT, 20555, [q50, (13823, (.map [(tx0, (iN 34), 0)] 1)), q538, q22, q24, q25, q26, q396, q397, (19207, (.cells 1 true [] (T.ofList 0 .leaf [(pN 19205)]))), q539, q49]⟩
theorem I17969_ok : InOk Tryz.prog I17969 := InOk.of_run (K := K_CY0b) (n := 5000) mixed K_CY0b_ok (by kernel_rfl) (by as_aux_lemma => kernel_rfl)

noncomputable def I17863 : In := ⟨52, [(pN 13824)], 20368, [q359, (13823, (.map [(tx0, (iN 29), 0)] 1)), q547, q22, q24, q25, q26, q373, q374, (19207, (.cells 1 true [] (T.ofList 0 .leaf [(pN 19205)]))), q548, q49], bT, 20395, [q44, (13823, (.map [(tx0, (iN 30), 0)] 1)), q545, q22, q24, q25, q26, q369, q370, (19207, (.cells 1 true [] (T.ofList 0 .leaf [(pN 19205)]))), q546, q364]⟩
theorem I17863_ok : InOk Tryz.prog I17863 := InOk.of_run (K := K_CY0b) (n := 5000) mixed K_CY0b_ok (by kernel_rfl) (by as_aux_lemma => kernel_rfl)

noncomputable def I17694 : In := ⟨52, [(pN 13824)], 20157, [q39, (13823, (.map [(tx0, (iN 24), 0)] 1)), q555, q22, q24, q25, q26, q392, q393, (19207, (.cells 1 true [] (T.ofList 0 .leaf [(pN 19205)]))), q556, q49], bT, 20184, [q33, (13823, (.map [(tx0, (iN 25), 0)] 1)), q554, q22, q24, q25, q26, q388, q389, (19207, (.cells 1 true [] (T.ofList 0 .leaf [(pN 19205)]))), q551, q49]⟩
theorem I17694_ok : InOk Tryz.prog I17694 := InOk.of_run (K := K_CY0b) (n := 5000) mixed K_CY0b_ok (by kernel_rfl) (by as_aux_lemma => kernel_rfl)

noncomputable def I17671 : In := ⟨52, [(pN 13824)], 20130, [q50, (13823, (.map [(tx0, (iN 23), 0)] 1)), q557, q22, q24, q25, q26, q396, q397, (19207, (.cells 1 true [] (T.ofList 0 .leaf [(pN 19205)]))), q558, q49], bT, 20157, [q39, (13823, (.map [(tx0, (iN 24), 0)] 1)), q555, q22, q24, q25, q26, q392, q393, (19207, (.cells 1 true [] (T.ofList 0 .leaf [(pN 19205)]))), q556, q49]⟩
theorem I17671_ok : InOk Tryz.prog I17671 := InOk.of_run (K := K_CY0b) (n := 5000) mixed K_CY0b_ok (by kernel_rfl) (by as_aux_lemma => kernel_rfl)

noncomputable def I17648 : In := ⟨52, [(pN 13824)], 20103, [q44, (13823, (.map [(tx0, (iN 22), 0)] 1)), q559, q22, q24, q25, q26, q400, q401, (19207, (.cells 1 true [] (T.ofList 0 .leaf [(pN 19205)]))), q560, q49], bT, 20130, [q50, (13823, (.map [(tx0, (iN 23), 0)] 1)), q557, q22, q24, q25, q26, q396, q397, (19207, (.cells 1 true [] (T.ofList 0 .leaf [(pN 19205)]))), q558, q49]⟩
theorem I17648_ok : InOk Tryz.prog I17648 := InOk.of_run (K := K_CY0b) (n := 5000) mixed K_CY0b_ok (by kernel_rfl) (by as_aux_lemma => kernel_rfl)

noncomputable def I17542 : In := ⟨52, [(pN 13824)], 19943, [q359, (13823, (.map [(tx0, (iN 18), 0)] 1)), q566, q22, q24, q25, q26, q373, q374, (19207, (.cells 1 true [] (T.ofList 0 .leaf [(pN 19205)]))), q567, q49], bT, 19970, [q44, (13823, (.map [(tx0, (iN 19), 0)] 1)), q564, q22, q24, q25, q26, q369, q370, (19207, (.cells 1 true [] (T.ofList 0 .leaf [(pN 19205)]))), q565, q364]⟩
theorem I17542_ok : InOk Tryz.prog I17542 := InOk.of_run (K := K_CY0b) (n := 5000) mixed K_CY0b_ok (by kernel_rfl) (by as_aux_lemma => kernel_rfl)

noncomputable def I17373 : In := ⟨52, [(pN 13824)], 19730, [q573, (13823, (.map [(tx0, (iN 13), 0)] 1)), q574, q22, q24, q25, q26, q392, q393, (19207, (.cells 1 true [] (T.ofList 0 .leaf [(pN 19205)]))), q575, q576], bT, 19759, [q33, (13823, (.map [(tx0, (iN 14), 0)] 1)), q572, q22, q24, q25, q26, q388, q389, (19207, (.cells 1 true [] (T.ofList 0 .leaf [(pN 19205)]))), q570, q49]⟩
theorem I17373_ok : InOk Tryz.prog I17373 := InOk.of_run (K := K_CY0b) (n := 5000) mixed K_CY0b_ok (by kernel_rfl) (by as_aux_lemma => kernel_rfl)

noncomputable def I17350 : In := ⟨52, [(pN 13824)], 19701, [q577, (13823, (.map [(tx0, (iN 12), 0)] 1)), q578, q22, q24, q25, q26, q396, q397, (19207, (.cells 1 true [] (T.ofList 0 .leaf [(pN 19205)]))), q579, q580], bT, 19730, [q573, (13823, (.map [(tx0, (iN 13), 0)] 1)), q574, q22, q24, q25, q26, q392, q393, (19207, (.cells 1 true [] (T.ofList 0 .leaf [(pN 19205)]))), q575, q576]⟩
theorem I17350_ok : InOk Tryz.prog I17350 := InOk.of_run (K := K_CY0b) (n := 5000) mixed K_CY0b_ok (by kernel_rfl) (by as_aux_lemma => kernel_rfl)

noncomputable def I17327 : In := ⟨52, [(pN 13824)], 19674, [q581, (13823, (.map [(tx0, (iN 11), 0)] 1)), q582, q22, q24, q25, q26, q400, q401, (19207, (.cells 1 true [] (T.ofList 0 .leaf [(pN 19205)]))), q583, q580], bT, 19701, [q577, (13823, (.map [(tx0, (iN 12), 0)] 1)), q578, q22, q24, q25, q26, q396, q397, (19207, (.cells 1 true [] (T.ofList 0 .leaf [(pN 19205)]))), q579, q580]⟩
theorem I17327_ok : InOk Tryz.prog I17327 := InOk.of_run (K := K_CY0b) (n := 5000) mixed K_CY0b_ok (by kernel_rfl) (by as_aux_lemma => kernel_rfl)

noncomputable def I17221 : In := ⟨52, [(pN 13824)], 19512, [q593, (13823, (.map [(tx0, (iN 7), 0)] 1)), q594, q22, q24, q25, q26, q595, q374, (19207, (.cells 1 true [] (T.ofList 0 .leaf [(pN 19205)]))), q596, q597], bT, 19539, [q589, (13823, (.map [(tx0, (iN 8), 0)] 1)), q590, q22, q24, q25, q26, q369, q370, (19207, (.cells 1 true [] (T.ofList 0 .leaf [(pN 19205)]))), q591, q592]⟩
theorem I17221_ok : InOk Tryz.prog I17221 := InOk.of_run (K := K_CY0b) (n := 5000) mixed K_CY0b_ok (by kernel_rfl) (by as_aux_lemma => kernel_rfl)

noncomputable def I16946 : In := ⟨368, [(pN 16270), (.agg [(iN 64), z1, (iN 27), bF, z1, z0, .nils, .nils])], 19102, [q26, (16270, (.cells 12 false [] (T.ofList 0 .leaf [(pN 7221), (pN 14128), (pN 16258), (uN 73), tx1, z0, (uN 0), (iN 64), (.so 16984 0 3 3), .nils, (.map 16269), bF]))), q628], (.tup []), 19120, [q26, (16270, (.cells 12 false [] (T.ofList 0 .leaf [(pN 7221), (pN 14128), (pN 16258), (uN 73), tx1, z0, (uN 0), (iN 64), (.so 19117 0 3 3), (.so 19118 0 1 3), (.map 16269), bF]))), q628, q626, q627]⟩
theorem I16946_ok : InOk Tryz.prog I16946 := InOk.of_run (K := K_CY0b) (n := 5000) mixed K_CY0b_ok (by kernel_rfl) (by as_aux_lemma => kernel_rfl)

noncomputable def I16877 : In := ⟨368, [(pN 16270), (.agg [(iN 57), z1, (iN 60), bF, z1, z0, .nils, .nils])], 18961, [(16270, (.cells 12 false [] (T.ofList 0 .leaf [(pN 7221), (pN 14128), (pN 16258), (uN 73), tx1, z0, (uN 0), (iN 57), (.so 18939 0 3 3), (.so 18941 0 1 3), (.map 16269), bF]))), q631, q632], (.tup []), 18992, [(16270, (.cells 12 false [] (T.ofList 0 .leaf [(pN 7221), (pN 14128), (pN 16258), (uN 73), tx1, z0, (uN 0), (iN 57), (.so 18990 0 3 3), (.sl 18991 0 0 0), (.map 16269), bF]))), q631, q632, q630, (18991, (.cells 0 false [] .leaf))]⟩
theorem I16877_ok : InOk Tryz.prog I16877 := InOk.of_run (K := K_CY0b) (n := 5000) mixed K_CY0b_ok (by kernel_rfl) (by as_aux_lemma => kernel_rfl)

noncomputable def I16790 : In := ⟨368, [(pN 16270), (.agg [(iN 54), z1, (iN 26), bF, z0, z0, .nils, .nils])], 18794, [q26, (16270, (.cells 12 false [] (T.ofList 0 .leaf [(pN 7221), (pN 14128), (pN 16258), (uN 73), tx1, z0, (uN 0), (iN 54), (.so 18774 0 3 3), (.so 18777 0 2 3), (.map 16269), bF]))), q637, q638], (.tup []), 18816, [q26, (16270, (.cells 12 false [] (T.ofList 0 .leaf [(pN 7221), (pN 14128), (pN 16258), (uN 73), tx1, z0, (uN 0), (iN 54), (.so 18809 0 3 3), (.so 18812 0 3 3), (.map 16269), bF]))), q637, q638, q635, q636]⟩
theorem I16790_ok : InOk Tryz.prog I16790 := InOk.of_run (K := K_CY0b) (n := 5000) mixed K_CY0b_ok (by kernel_rfl) (by as_aux_lemma => kernel_rfl)

noncomputable def I16702 : In := ⟨368, [(pN 16270), (.agg [(iN 49), z1, (iN 27), bF, z1, z0, .nils, .nils])], 18616, [q26, (16270, (.cells 12 false [] (T.ofList 0 .leaf [(pN 7221), (pN 14128), (pN 16258), (uN 73), tx1, z0, (uN 0), (iN 49), (.so 18568 0 3 3), (.sl 18570 0 0 0), (.map 16269), bF]))), q645, q646], (.tup []), 18635, [q26, (16270, (.cells 12 false [] (T.ofList 0 .leaf [(pN 7221), (pN 14128), (pN 16258), (uN 73), tx1, z0, (uN 0), (iN 49), (.so 18631 0 3 3), (.so 18633 0 1 3), (.map 16269), bF]))), q645, q646, q643, q644]⟩
theorem I16702_ok : InOk Tryz.prog I16702 := InOk.of_run (K := K_CY0b) (n := 5000) mixed K_CY0b_ok (by kernel_rfl) (by as_aux_lemma => kernel_rfl)

noncomputable def I16621 : In := ⟨368, [(pN 16270), (.agg [(iN 43), z1, (iN 26), bF, z0, z0, .nils, .nils])], 18469, [q26, (16270, (.cells 12 false [] (T.ofList 0 .leaf [(pN 7221), (pN 14128), (pN 16258), (uN 73), tx1, z0, (uN 0), (iN 43), (.so 16962 0 3 3), .nils, (.map 16269), bF]))), q651], (.tup []), 18487, [q26, (16270, (.cells 12 false [] (T.ofList 0 .leaf [(pN 7221), (pN 14128), (pN 16258), (uN 73), tx1, z0, (uN 0), (iN 43), (.so 18484 0 3 3), (.so 18485 0 1 3), (.map 16269), bF]))), q651, q649, q650]⟩
theorem I16621_ok : InOk Tryz.prog I16621 := InOk.of_run (K := K_CY0b) (n := 5000) mixed K_CY0b_ok (by kernel_rfl) (by as_aux_lemma => kernel_rfl)

noncomputable def I16576 : In := ⟨368, [(pN 16270), (.agg [(iN 42), z1, (iN 59), bF, z0, z0, .nils, .nils])], 18408, [(16270, (.cells 12 false [] (T.ofList 0 .leaf [(pN 7221), (pN 14128), (pN 16258), (uN 73), tx1, z0, (uN 0), (iN 42), (.so 18393 0 3 3), (.so 18395 0 1 3), (.map 16269), bF]))), q652, q653], (.tup []), 18439, [(16270, (.cells 12 false [] (T.ofList 0 .leaf [(pN 7221), (pN 14128), (pN 16258), (uN 73), tx1, z0, (uN 0), (iN 42), (.so 18437 0 3 3), (.sl 18438 0 0 0), (.map 16269), bF]))), q652, q653, (18437, (.cells 9 true [] (T.ofList 0 .leaf [z1, tx1, z0, z1, tx1, z0, (iN 7), tx19, z0]))), (18438, (.cells 0 false [] .leaf))]⟩
theorem I16576_ok : InOk Tryz.prog I16576 := InOk.of_run (K := K_CY0b) (n := 5000) mixed K_CY0b_ok (by kernel_rfl) (by as_aux_lemma => kernel_rfl)

noncomputable def I16099 : In := ⟨368, [(pN 16270), (.agg [(iN 18), z1, (iN 26), bF, z0, z0, .nils, .nils])], 17688, [q26, (16270, (.cells 12 false [] (T.ofList 0 .leaf [(pN 7221), (pN 14128), (pN 16258), (uN 73), tx1, z0, (uN 0), (iN 18), (.so 17668 0 3 3), (.so 17671 0 3 3), (.map 16269), bF]))), q673, q674], (.tup []), 17711, [q26, (16270, (.cells 12 false [] (T.ofList 0 .leaf [(pN 7221), (pN 14128), (pN 16258), (uN 73), tx1, z0, (uN 0), (iN 18), (.so 17703 0 3 3), (.so 17706 0 4 3), (.map 16269), bF]))), q673, q674, q671, q672]⟩
theorem I16099_ok : InOk Tryz.prog I16099 := InOk.of_run (K := K_CY0b) (n := 5000) mixed K_CY0b_ok (by kernel_rfl) (by as_aux_lemma => kernel_rfl)

noncomputable def I16079 : In := ⟨368, [(pN 16270), (.agg [(iN 17), z1, (iN 26), bF, z0, z0, .nils, .nils])], 17653, [q26, (16270, (.cells 12 false [] (T.ofList 0 .leaf [(pN 7221), (pN 14128), (pN 16258), (uN 73), tx1, z0, (uN 0), (iN 17), (.so 17634 0 3 3), (.so 17637 0 2 3), (.map 16269), bF]))), q675, q676], (.tup []), 17675, [q26, (16270, (.cells 12 false [] (T.ofList 0 .leaf [(pN 7221), (pN 14128), (pN 16258), (uN 73), tx1, z0, (uN 0), (iN 17), (.so 17668 0 3 3), (.so 17671 0 3 3), (.map 16269), bF]))), q675, q676, q673, q674]⟩
theorem I16079_ok : InOk Tryz.prog I16079 := InOk.of_run (K := K_CY0b) (n := 5000) mixed K_CY0b_ok (by kernel_rfl) (by as_aux_lemma => kernel_rfl)

noncomputable def I16059 : In := ⟨368, [(pN 16270), (.agg [(iN 16), z1, (iN 26), bF, z0, z0, .nils, .nils])], 17619, [q26, (16270, (.cells 12 false [] (T.ofList 0 .leaf [(pN 7221), (pN 14128), (pN 16258), (uN 73), tx1, z0, (uN 0), (iN 16), (.so 17601 0 3 3), (.so 17603 0 1 3), (.map 16269), bF]))), q677, q678], (.tup []), 17640, [q26, (16270, (.cells 12 false [] (T.ofList 0 .leaf [(pN 7221), (pN 14128), (pN 16258), (uN 73), tx1, z0, (uN 0), (iN 16), (.so 17634 0 3 3), (.so 17637 0 2 3), (.map 16269), bF]))), q677, q678, q675, q676]⟩
theorem I16059_ok : InOk Tryz.prog I16059 := InOk.of_run (K := K_CY0b) (n := 5000) mixed K_CY0b_ok (by kernel_rfl) (by as_aux_lemma => kernel_rfl)

noncomputable def I15957 : In := ⟨368, [(pN 16270), (.agg [(iN 9), z1, (iN 26), bF, z0, z0, .nils, .nils])], 17430, [q26, (16270, (.cells 12 false [] (T.ofList 0 .leaf [(pN 7221), (pN 14128), (pN 16258), (uN 73), tx1, z0, (uN 0), (iN 9), (.so 16918 0 3 3), .nils, (.map 16269), bF]))), q685], (.tup []), 17448, [q26, (16270, (.cells 12 false [] (T.ofList 0 .leaf [(pN 7221), (pN 14128), (pN 16258), (uN 73), tx1, z0, (uN 0), (iN 9), (.so 17445 0 3 3), (.so 17446 0 1 3), (.map 16269), bF]))), q685, q683, q684]⟩
theorem I15957_ok : InOk Tryz.prog I15957 := InOk.of_run (K := K_CY0b) (n := 5000) mixed K_CY0b_ok (by kernel_rfl) (by as_aux_lemma => kernel_rfl)

noncomputable def I15840 : In := ⟨368, [(pN 16270), (.agg [(iN 3), z1, (iN 60), bF, z1, z0, .nils, .nils])], 17212, [(16270, (.cells 12 false [] (T.ofList 0 .leaf [(pN 7221), (pN 14128), (pN 16258), (uN 73), tx1, z0, (uN 0), (iN 3), (.so 17197 0 3 3), (.so 17199 0 1 3), (.map 16269), bF]))), q691, q692], (.tup []), 17243, [(16270, (.cells 12 false [] (T.ofList 0 .leaf [(pN 7221), (pN 14128), (pN 16258), (uN 73), tx1, z0, (uN 0), (iN 3), (.so 17241 0 3 3), (.sl 17242 0 0 0), (.map 16269), bF]))), q691, q692, q690, (17242, (.cells 0 false [] .leaf))]⟩
theorem I15840_ok : InOk Tryz.prog I15840 := InOk.of_run (K := K_CY0b) (n := 5000) mixed K_CY0b_ok (by kernel_rfl) (by as_aux_lemma => kernel_rfl)

noncomputable def I15795 : In := ⟨368, [(pN 16270), (.agg [z1, z1, (iN 59), bF, z0, z0, .nils, .nils])], 17128, [(16270, (.cells 12 false [] (T.ofList 0 .leaf [(pN 7221), (pN 14128), (pN 16258), (uN 73), tx1, z0, (uN 0), z1, (.so 17114 0 3 3), (.so 17115 0 1 3), (.map 16269), bF]))), q694, q695], (.tup []), 17159, [(16270, (.cells 12 false [] (T.ofList 0 .leaf [(pN 7221), (pN 14128), (pN 16258), (uN 73), tx1, z0, (uN 0), z1, (.so 17157 0 3 3), (.sl 17158 0 0 0), (.map 16269), bF]))), q694, q695, q693, (17158, (.cells 0 false [] .leaf))]⟩
theorem I15795_ok : InOk Tryz.prog I15795 := InOk.of_run (K := K_CY0b) (n := 5000) mixed K_CY0b_ok (by kernel_rfl) (by as_aux_lemma => kernel_rfl)

noncomputable def S15170 : Sum := ⟨(.tup [(uN 0), bF]), 13, []⟩
theorem S15170_ok : SumOk Tryz.prog 225 [(iN 172)] S15170 := SumOk.of_run (K := K_CY0b) (n := 5000) (keep := []) mixed K_CY0b_ok (by kernel_rfl) (by as_aux_lemma => kernel_rfl)

noncomputable def S15145 : Sum := ⟨(.tup [(uN 0), bF]), 13, []⟩
theorem S15145_ok : SumOk Tryz.prog 225 [(iN 96)] S15145 := SumOk.of_run (K := K_CY0b) (n := 5000) (keep := []) mixed K_CY0b_ok (by kernel_rfl) (by as_aux_lemma => kernel_rfl)

noncomputable def S15140 : Sum := ⟨(.tup [(uN 0), bF]), 13, []⟩
theorem S15140_ok : SumOk Tryz.prog 225 [(iN 46)] S15140 := SumOk.of_run (K := K_CY0b) (n := 5000) (keep := []) mixed K_CY0b_ok (by kernel_rfl) (by as_aux_lemma => kernel_rfl)

noncomputable def S15071 : Sum := ⟨(.tup [(uN 0), bF]), 13, []⟩
theorem S15071_ok : SumOk Tryz.prog 225 [(iN 184)] S15071 := SumOk.of_run (K := K_CY0b) (n := 5000) (keep := []) mixed K_CY0b_ok (by kernel_rfl) (by as_aux_lemma => kernel_rfl)

noncomputable def S15051 : Sum := ⟨(.tup [(uN 0), bF]), 13, []⟩
theorem S15051_ok : SumOk Tryz.prog 225 [(iN 17)] S15051 := SumOk.of_run (K := K_CY0b) (n := 5000) (keep := []) mixed K_CY0b_ok (by kernel_rfl) (by as_aux_lemma => kernel_rfl)

noncomputable def S15041 : Sum := ⟨(.tup [(uN 0), bF]), 13, []⟩
theorem S15041_ok : SumOk Tryz.prog 225 [(iN 167)] S15041 := SumOk.of_run (K := K_CY0b) (n := 5000) (keep := []) mixed K_CY0b_ok (by kernel_rfl) (by as_aux_lemma => kernel_rfl)

noncomputable def S15036 : Sum := ⟨(.tup [(uN 0), bF]), 13, []⟩
theorem S15036_ok : SumOk Tryz.prog 225 [(iN 132)] S15036 := SumOk.of_run (K := K_CY0b) (n := 5000) (keep := []) mixed K_CY0b_ok (by kernel_rfl) (by as_aux_lemma => kernel_rfl)

noncomputable def S15031 : Sum := ⟨(.tup [(uN 0), bF]), 13, []⟩
theorem S15031_ok : SumOk Tryz.prog 225 [(iN 79)] S15031 := SumOk.of_run (K := K_CY0b) (n := 5000) (keep := []) mixed K_CY0b_ok (by kernel_rfl) (by as_aux_lemma => kernel_rfl)

noncomputable def S15026 : Sum := ⟨(.tup [(uN 0), bF]), 13, []⟩
theorem S15026_ok : SumOk Tryz.prog 225 [(iN 104)] S15026 := SumOk.of_run (K := K_CY0b) (n := 5000) (keep := []) mixed K_CY0b_ok (by kernel_rfl) (by as_aux_lemma => kernel_rfl)

noncomputable def S15006 : Sum := ⟨(.tup [(uN 65), bF]), 13, []⟩
theorem S15006_ok : SumOk Tryz.prog 225 [(iN 44)] S15006 := SumOk.of_run (K := K_CY0b) (n := 5000) (keep := []) mixed K_CY0b_ok (by kernel_rfl) (by as_aux_lemma => kernel_rfl)

noncomputable def S15001 : Sum := ⟨(.tup [(uN 0), bF]), 13, []⟩
theorem S15001_ok : SumOk Tryz.prog 225 [(iN 162)] S15001 := SumOk.of_run (K := K_CY0b) (n := 5000) (keep := []) mixed K_CY0b_ok (by kernel_rfl) (by as_aux_lemma => kernel_rfl)

noncomputable def S14986 : Sum := ⟨(.tup [(uN 65), bT]), 13, []⟩
theorem S14986_ok : SumOk Tryz.prog 225 [(iN 77)] S14986 := SumOk.of_run (K := K_CY0b) (n := 5000) (keep := []) mixed K_CY0b_ok (by kernel_rfl) (by as_aux_lemma => kernel_rfl)

noncomputable def S14981 : Sum := ⟨(.tup [(uN 0), bF]), 13, []⟩
theorem S14981_ok : SumOk Tryz.prog 225 [(iN 188)] S14981 := SumOk.of_run (K := K_CY0b) (n := 5000) (keep := []) mixed K_CY0b_ok (by kernel_rfl) (by as_aux_lemma => kernel_rfl)

noncomputable def S14976 : Sum := ⟨(.tup [(uN 0), bF]), 13, []⟩
theorem S14976_ok : SumOk Tryz.prog 225 [(iN 16)] S14976 := SumOk.of_run (K := K_CY0b) (n := 5000) (keep := []) mixed K_CY0b_ok (by kernel_rfl) (by as_aux_lemma => kernel_rfl)

noncomputable def S14956 : Sum := ⟨(.tup [(uN 0), bF]), 13, []⟩
theorem S14956_ok : SumOk Tryz.prog 225 [(iN 3)] S14956 := SumOk.of_run (K := K_CY0b) (n := 5000) (keep := []) mixed K_CY0b_ok (by kernel_rfl) (by as_aux_lemma => kernel_rfl)

noncomputable def S14948 : Sum := ⟨bT, 19, []⟩
theorem S14948_ok : SumOk Tryz.prog 223 [(iN 172)] S14948 := SumOk.of_run (K := K_CY0b) (n := 5000) (keep := []) mixed K_CY0b_ok (by kernel_rfl) (by as_aux_lemma => kernel_rfl)

noncomputable def S14919 : Sum := ⟨bT, 9, []⟩
theorem S14919_ok : SumOk Tryz.prog 223 [(iN 96)] S14919 := SumOk.of_run (K := K_CY0b) (n := 5000) (keep := []) mixed K_CY0b_ok (by kernel_rfl) (by as_aux_lemma => kernel_rfl)

noncomputable def S14859 : Sum := ⟨bT, 20, []⟩
theorem S14859_ok : SumOk Tryz.prog 223 [(iN 184)] S14859 := SumOk.of_run (K := K_CY0b) (n := 5000) (keep := []) mixed K_CY0b_ok (by kernel_rfl) (by as_aux_lemma => kernel_rfl)

noncomputable def S14829 : Sum := ⟨bT, 18, []⟩
theorem S14829_ok : SumOk Tryz.prog 223 [(iN 167)] S14829 := SumOk.of_run (K := K_CY0b) (n := 5000) (keep := []) mixed K_CY0b_ok (by kernel_rfl) (by as_aux_lemma => kernel_rfl)

noncomputable def S14821 : Sum := ⟨bT, 15, []⟩
theorem S14821_ok : SumOk Tryz.prog 223 [(iN 132)] S14821 := SumOk.of_run (K := K_CY0b) (n := 5000) (keep := []) mixed K_CY0b_ok (by kernel_rfl) (by as_aux_lemma => kernel_rfl)

noncomputable def S14815 : Sum := ⟨bT, 8, []⟩
theorem S14815_ok : SumOk Tryz.prog 223 [(iN 79)] S14815 := SumOk.of_run (K := K_CY0b) (n := 5000) (keep := []) mixed K_CY0b_ok (by kernel_rfl) (by as_aux_lemma => kernel_rfl)

noncomputable def S14809 : Sum := ⟨bT, 11, []⟩
theorem S14809_ok : SumOk Tryz.prog 223 [(iN 104)] S14809 := SumOk.of_run (K := K_CY0b) (n := 5000) (keep := []) mixed K_CY0b_ok (by kernel_rfl) (by as_aux_lemma => kernel_rfl)

noncomputable def S14786 : Sum := ⟨bT, 18, []⟩
theorem S14786_ok : SumOk Tryz.prog 223 [(iN 162)] S14786 := SumOk.of_run (K := K_CY0b) (n := 5000) (keep := []) mixed K_CY0b_ok (by kernel_rfl) (by as_aux_lemma => kernel_rfl)

noncomputable def S14773 : Sum := ⟨bT, 8, []⟩
theorem S14773_ok : SumOk Tryz.prog 223 [(iN 77)] S14773 := SumOk.of_run (K := K_CY0b) (n := 5000) (keep := []) mixed K_CY0b_ok (by kernel_rfl) (by as_aux_lemma => kernel_rfl)

noncomputable def S14767 : Sum := ⟨bT, 21, []⟩
theorem S14767_ok : SumOk Tryz.prog 223 [(iN 188)] S14767 := SumOk.of_run (K := K_CY0b) (n := 5000) (keep := []) mixed K_CY0b_ok (by kernel_rfl) (by as_aux_lemma => kernel_rfl)

noncomputable def S14758 : Sum := ⟨bT, 7, []⟩
theorem S14758_ok : SumOk Tryz.prog 223 [(iN 60)] S14758 := SumOk.of_run (K := K_CY0b) (n := 5000) (keep := []) mixed K_CY0b_ok (by kernel_rfl) (by as_aux_lemma => kernel_rfl)

noncomputable def S14750 : Sum := ⟨bT, 7, []⟩
theorem S14750_ok : SumOk Tryz.prog 223 [(iN 59)] S14750 := SumOk.of_run (K := K_CY0b) (n := 5000) (keep := []) mixed K_CY0b_ok (by kernel_rfl) (by as_aux_lemma => kernel_rfl)

noncomputable def S14675 : Sum := ⟨bT, 6, []⟩
theorem S14675_ok : SumOk Tryz.prog 188 [tx87] S14675 := SumOk.of_run (K := K_CY0b) (n := 5000) (keep := []) mixed K_CY0b_ok (by kernel_rfl) (by as_aux_lemma => kernel_rfl)

noncomputable def S14441 : Sum := ⟨(.tup [(.so 32 0 16 1), bT]), 33, [(32, (.cells 16 true [] (T.ofList 0 .leaf [(.int .u16 106), (.int .u16 97), (.int .u16 118), (.int .u16 97), (.int .u16 47), (.int .u16 108), (.int .u16 97), (.int .u16 110), (.int .u16 103), (.int .u16 47), (.int .u16 79), (.int .u16 98), (.int .u16 106), (.int .u16 101), (.int .u16 99), (.int .u16 116)])))]⟩
theorem S14441_ok : SumOk Tryz.prog 255 [tx5] S14441 := SumOk.of_run (K := K_CY0b) (n := 5000) (keep := [32]) mixed K_CY0b_ok (by kernel_rfl) (by as_aux_lemma => kernel_rfl)

noncomputable def S14428 : Sum := ⟨bT, 5, []⟩
theorem S14428_ok : SumOk Tryz.prog 274 [tx69] S14428 := SumOk.of_run (K := K_CY0b) (n := 5000) (keep := []) mixed K_CY0b_ok (by kernel_rfl) (by as_aux_lemma => kernel_rfl)

noncomputable def S14415 : Sum := ⟨(.tup [(.so 26 0 13 1), bT]), 27, [(26, (.cells 13 true [] (T.ofList 0 .leaf [(.int .u16 83), (.int .u16 116), (.int .u16 97), (.int .u16 99), (.int .u16 107), (.int .u16 77), (.int .u16 97), (.int .u16 112), (.int .u16 84), (.int .u16 97), (.int .u16 98), (.int .u16 108), (.int .u16 101)])))]⟩
theorem S14415_ok : SumOk Tryz.prog 255 [tx73] S14415 := SumOk.of_run (K := K_CY0b) (n := 5000) (keep := [26]) mixed K_CY0b_ok (by kernel_rfl) (by as_aux_lemma => kernel_rfl)

noncomputable def S14398 : Sum := ⟨(iN (-1)), 2, []⟩
theorem S14398_ok : SumOk Tryz.prog 356 [tx58, (.str 2 15932)] S14398 := SumOk.of_run (K := K_CY0b) (n := 5000) (keep := []) mixed K_CY0b_ok (by kernel_rfl) (by as_aux_lemma => kernel_rfl)

noncomputable def S13998 : Sum := ⟨(iN (-1)), 2, []⟩
theorem S13998_ok : SumOk Tryz.prog 356 [tx58, tx70] S13998 := SumOk.of_run (K := K_CY0b) (n := 5000) (keep := []) mixed K_CY0b_ok (by kernel_rfl) (by as_aux_lemma => kernel_rfl)

noncomputable def S13985 : Sum := ⟨(.tup [(.so 84 0 42 1), bT]), 85, [(84, (.cells 42 true [] (T.ofList 0 .leaf [(.int .u16 40), (.int .u16 76), (.int .u16 106), (.int .u16 97), (.int .u16 118), (.int .u16 97), (.int .u16 47), (.int .u16 108), (.int .u16 97), (.int .u16 110), (.int .u16 103), (.int .u16 47), (.int .u16 79), (.int .u16 98), (.int .u16 106), (.int .u16 101), (.int .u16 99), (.int .u16 116), (.int .u16 59), (.int .u16 73), (.int .u16 76), (.int .u16 106), (.int .u16 97), (.int .u16 118), (.int .u16 97), (.int .u16 47), (.int .u16 108), (.int .u16 97), (.int .u16 110), (.int .u16 103), (.int .u16 47), (.int .u16 79), (.int .u16 98), (.int .u16 106), (.int .u16 101), (.int .u16 99), (.int .u16 116), (.int .u16 59), (.int .u16 73), (.int .u16 73), (.int .u16 41), (.int .u16 86)])))]⟩
theorem S13985_ok : SumOk Tryz.prog 255 [tx13] S13985 := SumOk.of_run (K := K_CY0b) (n := 5000) (keep := [84]) mixed K_CY0b_ok (by kernel_rfl) (by as_aux_lemma => kernel_rfl)

noncomputable def S13983 : Sum := ⟨(.tup [(.so 18 0 9 1), bT]), 19, [(18, (.cells 9 true [] (T.ofList 0 .leaf [(.int .u16 97), (.int .u16 114), (.int .u16 114), (.int .u16 97), (.int .u16 121), (.int .u16 99), (.int .u16 111), (.int .u16 112), (.int .u16 121)])))]⟩
theorem S13983_ok : SumOk Tryz.prog 255 [tx58] S13983 := SumOk.of_run (K := K_CY0b) (n := 5000) (keep := [18]) mixed K_CY0b_ok (by kernel_rfl) (by as_aux_lemma => kernel_rfl)

noncomputable def S13962 : Sum := ⟨(iN (-1)), 1, []⟩
theorem S13962_ok : SumOk Tryz.prog 356 [tx74, tx70] S13962 := SumOk.of_run (K := K_CY0b) (n := 5000) (keep := []) mixed K_CY0b_ok (by kernel_rfl) (by as_aux_lemma => kernel_rfl)

noncomputable def S13960 : Sum := ⟨(.tup [(.so 12 0 6 1), bT]), 13, [(12, (.cells 6 true [] (T.ofList 0 .leaf [(.int .u16 83), (.int .u16 121), (.int .u16 115), (.int .u16 116), (.int .u16 101), (.int .u16 109)])))]⟩
theorem S13960_ok : SumOk Tryz.prog 255 [tx74] S13960 := SumOk.of_run (K := K_CY0b) (n := 5000) (keep := [12]) mixed K_CY0b_ok (by kernel_rfl) (by as_aux_lemma => kernel_rfl)

noncomputable def S13917 : Sum := ⟨(.sl 0 0 3 3), 1, [(0, (.cells 3 false [tx1] (T.ofList 0 .leaf [tx84, tx85, tx74])))]⟩
theorem S13917_ok : SumOk Tryz.prog 406 [tx21, tx89, z0, (iN (-1))] S13917 := SumOk.of_run (K := K_CY0b) (n := 5000) (keep := [0]) mixed K_CY0b_ok (by kernel_rfl) (by as_aux_lemma => kernel_rfl)

noncomputable def S13906 : Sum := ⟨(.tup [(.so 32 0 16 1), bT]), 33, [(32, (.cells 16 true [] (T.ofList 0 .leaf [(.int .u16 106), (.int .u16 97), (.int .u16 118), (.int .u16 97), (.int .u16 47), (.int .u16 108), (.int .u16 97), (.int .u16 110), (.int .u16 103), (.int .u16 47), (.int .u16 83), (.int .u16 121), (.int .u16 115), (.int .u16 116), (.int .u16 101), (.int .u16 109)])))]⟩
theorem S13906_ok : SumOk Tryz.prog 255 [tx21] S13906 := SumOk.of_run (K := K_CY0b) (n := 5000) (keep := [32]) mixed K_CY0b_ok (by kernel_rfl) (by as_aux_lemma => kernel_rfl)

noncomputable def S13897 : Sum := ⟨bF, 6, []⟩
theorem S13897_ok : SumOk Tryz.prog 188 [tx19] S13897 := SumOk.of_run (K := K_CY0b) (n := 5000) (keep := []) mixed K_CY0b_ok (by kernel_rfl) (by as_aux_lemma => kernel_rfl)

noncomputable def I7100 : In := ⟨18, [(pN 6870), (iN 9), tx87, tx67, (iN 5)], 7112, [(6868, (.cells 13 false [] (T.ofList 0 .leaf [(.so 7039 0 8 1), (.so 7041 0 8 1), (.so 7043 0 8 1), (iN 9), tx69, tx5, (iN 33), (iN 52), .nils, .nils, z0, .nils, z0]))), q702, q703, q704, q705, (7039, (.cells 8 true [] (T.ofList 0 .leaf [(.str 3 4807541), (.str 3 4807523), tx78, tx79, tx88, tx62, tx60, tx57]))), (7041, (.cells 8 true [] (T.ofList 0 .leaf [(.so 6880 0 5 1), (.so 6889 0 3 1), (.so 6985 0 19 1), (.so 6994 0 3 1), (.so 7004 0 12 1), (.so 7014 0 45 1), (.so 7025 0 5 1), (.so 7037 0 5 1)]))), (7043, (.cells 8 true [] (T.ofList 0 .leaf [z1, z2, (iN 3), (iN 4), (iN 5), (iN 6), (iN 7), (iN 8)]))), q706, (7111, (.cells 66 true [] (T.ofList 0 .leaf [(uN 3), (uN 59), (uN 3), (uN 60), (uN 16), (uN 10), (uN 188), (uN 10), (uN 77), (uN 26), (uN 16), (uN 10), (uN 162), (uN 0), (uN 0), (uN 44), (uN 26), (uN 26), (uN 26), (uN 104), (uN 79), (uN 132), (uN 0), (uN 1), (uN 167), (uN 0), (uN 0), (uN 44), (uN 17), (oN 10), (oN 11), (uN 44), (uN 17), (oN 13), (oN 14), (uN 17), (oN 16), (oN 17), (uN 184), (uN 0), (uN 8), (uN 3), (uN 59), (uN 26), (uN 16), (uN 10), (uN 162), (uN 0), (uN 0), (uN 27), (uN 16), (uN 7), (uN 104), (uN 44), (uN 26), (uN 46), (uN 96), (uN 60), (uN 132), (uN 0), (uN 1), (uN 167), (uN 0), (uN 0), (uN 27), (uN 172)])))], (.tup []), 7218, [(6868, (.cells 13 false [] (T.ofList 0 .leaf [(.so 7207 0 12 1), (.so 7209 0 12 1), (.so 7211 0 12 1), (iN 13), tx69, tx5, (iN 33), (iN 52), .nils, .nils, z0, (.so 7217 0 148 1), z1]))), q702, q703, q704, q705, q706, (7154, (.cells 5 true [] (T.ofList 0 .leaf [(uN 1), (uN 0), (uN 2), (uN 103), (uN 111)]))), (7166, (.cells 6 true [] (T.ofList 0 .leaf [(uN 1), (uN 0), (uN 3), (uN 40), (uN 41), (uN 73)]))), (7188, (.cells 16 true [] (T.ofList 0 .leaf [(uN 1), (uN 0), (uN 13), (uN 83), (uN 116), (uN 97), (uN 99), (uN 107), (uN 77), (uN 97), (uN 112), (uN 84), (uN 97), (uN 98), (uN 108), (uN 101)]))), (7205, (.cells 7 true [] (T.ofList 0 .leaf [(uN 1), (uN 0), (uN 4), (uN 67), (uN 111), (uN 100), (uN 101)]))), (7207, (.cells 12 true [] (T.ofList 0 .leaf [(.str 3 4807541), (.str 3 4807523), tx78, tx79, tx88, tx62, tx60, tx57, (.str 3 7300981), (.str 4 1227434101), (.str 14 2057110458715878086990115235976053), (.str 5 435476710261)]))), (7209, (.cells 12 true [] (T.ofList 0 .leaf [(.so 6880 0 5 1), (.so 6889 0 3 1), (.so 6985 0 19 1), (.so 6994 0 3 1), (.so 7004 0 12 1), (.so 7014 0 45 1), (.so 7025 0 5 1), (.so 7037 0 5 1), (.so 7154 0 5 1), (.so 7166 0 6 1), (.so 7188 0 16 1), (.so 7205 0 7 1)]))), (7211, (.cells 12 true [] (T.ofList 0 .leaf [z1, z2, (iN 3), (iN 4), (iN 5), (iN 6), (iN 7), (iN 8), (iN 9), (iN 10), (iN 11), (iN 12)]))), (7217, (.cells 148 true [] (T.ofList 0 .leaf [(uN 0), (uN 9), (uN 0), (uN 9), (uN 0), (uN 10), (uN 0), (uN 1), (uN 0), (uN 12), (uN 0), (uN 0), (uN 0), (uN 134), (uN 0), (uN 5), (uN 0), (uN 3), (uN 0), (uN 0), (uN 0), (uN 66), (uN 3), (uN 59), (uN 3), (uN 60), (uN 16), (uN 10), (uN 188), (uN 10), (uN 77), (uN 26), (uN 16), (uN 10), (uN 162), (uN 0), (uN 15), (uN 44), (uN 26), (uN 26), (uN 26), (uN 104), (uN 79), (uN 132), (uN 0), (uN 1), (uN 167), (uN 255), (uN 241), (uN 44), (uN 17), (oN 10), (oN 11), (uN 44), (uN 17), (oN 13), (oN 14), (uN 17), (oN 16), (oN 17), (uN 184), (uN 0), (uN 8), (uN 3), (uN 59), (uN 26), (uN 16), (uN 10), (uN 162), (uN 0), (uN 18), (uN 27), (uN 16), (uN 7), (uN 104), (uN 44), (uN 26), (uN 46), (uN 96), (uN 60), (uN 132), (uN 0), (uN 1), (uN 167), (uN 255), (uN 238), (uN 27), (uN 172), (uN 0), (uN 0), (uN 0), (uN 1), (uN 0), (uN 11), (uN 0), (uN 0), (uN 0), (uN 50), (uN 0), (uN 4), (uN 255), (uN 0), (uN 9), (uN 0), (uN 3), (uN 1), (uN 1), (uN 7), (uN 0), (uN 2), (uN 0), (uN 0), (uN 255), (uN 0), (uN 17), (uN 0), (uN 3), (uN 1), (uN 1), (uN 7), (uN 0), (uN 2), (uN 0), (uN 0), (uN 255), (uN 0), (uN 15), (uN 0), (uN 3), (uN 1), (uN 1), (uN 7), (uN 0), (uN 2), (uN 0), (uN 0), (uN 255), (uN 0), (uN 20), (uN 0), (uN 3), (uN 1), (uN 1), (uN 7), (uN 0), (uN 2), (uN 0), (uN 0)])))]⟩
theorem I7100_ok : InOk Tryz.prog I7100 := InOk.of_run (K := K_CY0b) (n := 5000) mixed K_CY0b_ok (by kernel_rfl) (by as_aux_lemma => kernel_rfl)

noncomputable def tab_CY0b : List (FuncId × SRows) := (406, [([tx21, tx89, z0, (iN (-1))], S13917)]) :: (356, [([tx58, (.str 2 15932)], S14398), ([tx58, tx70], S13998), ([tx74, tx70], S13962)]) :: (274, [([tx69], S14428)]) :: (255, [([tx5], S14441), ([tx73], S14415), ([tx13], S13985), ([tx58], S13983), ([tx74], S13960), ([tx21], S13906)]) :: (188, [([tx87], S14675), ([tx19], S13897)]) :: (223, [([(iN 172)], S14948), ([(iN 96)], S14919), ([(iN 184)], S14859), ([(iN 167)], S14829), ([(iN 132)], S14821), ([(iN 79)], S14815), ([(iN 104)], S14809), ([(iN 162)], S14786), ([(iN 77)], S14773), ([(iN 188)], S14767), ([(iN 60)], S14758), ([(iN 59)], S14750)]) :: (225, [([(iN 172)], S15170), ([(iN 96)], S15145), ([(iN 46)], S15140), ([(iN 184)], S15071), ([(iN 17)], S15051), ([(iN 167)], S15041), ([(iN 132)], S15036), ([(iN 79)], S15031), ([(iN 104)], S15026), ([(iN 44)], S15006), ([(iN 162)], S15001), ([(iN 77)], S14986), ([(iN 188)], S14981), ([(iN 16)], S14976), ([(iN 3)], S14956)]) :: []
theorem tab_CY0b_ok : TabOk Tryz.prog tab_CY0b := (TabOk.cons (RowsOk.cons S13917_ok RowsOk.nil) (TabOk.cons (RowsOk.cons S14398_ok (RowsOk.cons S13998_ok (RowsOk.cons S13962_ok RowsOk.nil))) (TabOk.cons (RowsOk.cons S14428_ok RowsOk.nil) (TabOk.cons (RowsOk.cons S14441_ok (RowsOk.cons S14415_ok (RowsOk.cons S13985_ok (RowsOk.cons S13983_ok (RowsOk.cons S13960_ok (RowsOk.cons S13906_ok RowsOk.nil)))))) (TabOk.cons (RowsOk.cons S14675_ok (RowsOk.cons S13897_ok RowsOk.nil)) (TabOk.cons (RowsOk.cons S14948_ok (RowsOk.cons S14919_ok (RowsOk.cons S14859_ok (RowsOk.cons S14829_ok (RowsOk.cons S14821_ok (RowsOk.cons S14815_ok (RowsOk.cons S14809_ok (RowsOk.cons S14786_ok (RowsOk.cons S14773_ok (RowsOk.cons S14767_ok (RowsOk.cons S14758_ok (RowsOk.cons S14750_ok RowsOk.nil)))))))))))) (TabOk.cons (RowsOk.cons S15170_ok (RowsOk.cons S15145_ok (RowsOk.cons S15140_ok (RowsOk.cons S15071_ok (RowsOk.cons S15051_ok (RowsOk.cons S15041_ok (RowsOk.cons S15036_ok (RowsOk.cons S15031_ok (RowsOk.cons S15026_ok (RowsOk.cons S15006_ok (RowsOk.cons S15001_ok (RowsOk.cons S14986_ok (RowsOk.cons S14981_ok (RowsOk.cons S14976_ok (RowsOk.cons S14956_ok RowsOk.nil))))))))))))))) TabOk.nil)))))))
noncomputable def H_CY0b : Hand := (((Hand.at 18 (inHand I7100)).or ((Hand.at 368 (Hand.sp 18408 (Hand.sp 17619 (Hand.sp 17212 (inHand I15795) ((inHand I15957).or (inHand I15840))) (Hand.sp 17653 (inHand I16059) ((inHand I16099).or (inHand I16079)))) (Hand.sp 18794 (Hand.sp 18469 (inHand I16576) ((inHand I16702).or (inHand I16621))) (Hand.sp 18961 (inHand I16790) ((inHand I16946).or (inHand I16877)))))).or (Hand.at 52 (Hand.sp 20555 (Hand.sp 20103 (Hand.sp 19701 ((inHand I17327).or (inHand I17221)) (Hand.sp 19730 (inHand I17350) ((inHand I17542).or (inHand I17373)))) (Hand.sp 20157 ((inHand I17671).or (inHand I17648)) (Hand.sp 20368 (inHand I17694) ((inHand I17969).or (inHand I17863))))) (Hand.sp 21007 (Hand.sp 20793 ((inHand I18015).or (inHand I17992)) (Hand.sp 20953 (inHand I18184) ((inHand I18313).or (inHand I18290)))) (Hand.sp 21378 ((inHand I18505).or (inHand I18336)) (Hand.sp 21405 (inHand I18611) ((inHand I18657).or (inHand I18634))))))))).or (sumsHand tab_CY0b))
theorem H_CY0b_ok : HandOk Tryz.prog H_CY0b := (HandOk.or (HandOk.or (HandOk.at 18 (inHand_ok I7100_ok (by kernel_rfl))) (HandOk.or (HandOk.at 368 (HandOk.sp 18408 (HandOk.sp 17619 (HandOk.sp 17212 (inHand_ok I15795_ok (by kernel_rfl)) (HandOk.or (inHand_ok I15957_ok (by kernel_rfl)) (inHand_ok I15840_ok (by kernel_rfl)))) (HandOk.sp 17653 (inHand_ok I16059_ok (by kernel_rfl)) (HandOk.or (inHand_ok I16099_ok (by kernel_rfl)) (inHand_ok I16079_ok (by kernel_rfl))))) (HandOk.sp 18794 (HandOk.sp 18469 (inHand_ok I16576_ok (by kernel_rfl)) (HandOk.or (inHand_ok I16702_ok (by kernel_rfl)) (inHand_ok I16621_ok (by kernel_rfl)))) (HandOk.sp 18961 (inHand_ok I16790_ok (by kernel_rfl)) (HandOk.or (inHand_ok I16946_ok (by kernel_rfl)) (inHand_ok I16877_ok (by kernel_rfl))))))) (HandOk.at 52 (HandOk.sp 20555 (HandOk.sp 20103 (HandOk.sp 19701 (HandOk.or (inHand_ok I17327_ok (by kernel_rfl)) (inHand_ok I17221_ok (by kernel_rfl))) (HandOk.sp 19730 (inHand_ok I17350_ok (by kernel_rfl)) (HandOk.or (inHand_ok I17542_ok (by kernel_rfl)) (inHand_ok I17373_ok (by kernel_rfl))))) (HandOk.sp 20157 (HandOk.or (inHand_ok I17671_ok (by kernel_rfl)) (inHand_ok I17648_ok (by kernel_rfl))) (HandOk.sp 20368 (inHand_ok I17694_ok (by kernel_rfl)) (HandOk.or (inHand_ok I17969_ok (by kernel_rfl)) (inHand_ok I17863_ok (by kernel_rfl)))))) (HandOk.sp 21007 (HandOk.sp 20793 (HandOk.or (inHand_ok I18015_ok (by kernel_rfl)) (inHand_ok I17992_ok (by kernel_rfl))) (HandOk.sp 20953 (inHand_ok I18184_ok (by kernel_rfl)) (HandOk.or (inHand_ok I18313_ok (by kernel_rfl)) (inHand_ok I18290_ok (by kernel_rfl))))) (HandOk.sp 21378 (HandOk.or (inHand_ok I18505_ok (by kernel_rfl)) (inHand_ok I18336_ok (by kernel_rfl))) (HandOk.sp 21405 (inHand_ok I18611_ok (by kernel_rfl)) (HandOk.or (inHand_ok I18657_ok (by kernel_rfl)) (inHand_ok I18634_ok (by kernel_rfl)))))))))) (sumsHand_ok tab_CY0b_ok))
end Go.Proofs.YthgncmohimdbmaaGreatDoor.cy
