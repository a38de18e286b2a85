/-
  Contracts of calls, by the kernel.
-/
import Derived.Test.YthgncmohimdbmaaGreatDoorCYNN
import Derived.Test.YthgncmohimdbmaaGreatDoorXN3
import Derived.Test.YthgncmohimdbmaaGreatDoorProg
import Derived.KernelRfl
import Derived.Test.YthgncmohimdbmaaGreatDoorCY0a
import Derived.Test.YthgncmohimdbmaaGreatDoorCY0b
import Derived.Test.YthgncmohimdbmaaGreatDoorCY0c
set_option linter.unusedSectionVars false
set_option linter.unusedVariables false
set_option maxRecDepth 1000000
set_option maxHeartbeats 0
namespace Go.Proofs.YthgncmohimdbmaaGreatDoor.cy
open Go.X Go.RowKit
variable [Tab]
noncomputable def K_CY1e : Hand := ((H_CY0c).or H_CY0b)
theorem K_CY1e_ok : HandOk Tryz.prog K_CY1e := (HandOk.or H_CY0c_ok H_CY0b_ok)

noncomputable def I16966 : In := ⟨368, [(pN 16270), (.agg [(iN 65), z1, (iN 172), bF, z0, z0, .nils, .nils])], 19133, [(16270, (.cells 12 false [] (T.ofList 0 .leaf [(pN 7221), (pN 14128), (pN 16258), (uN 73), tx1, z0, (uN 0), (iN 65), (.so 19117 0 3 3), (.so 19118 0 1 3), (.map 16269), bF]))), q626, q627], (.tup []), 19162, [(16270, (.cells 12 false [] (T.ofList 0 .leaf [(pN 7221), (pN 14128), (pN 16258), (uN 73), tx1, z0, (uN 0), (iN 65), (.so 19159 0 3 3), (.sl 19161 0 0 0), (.map 16269), bF]))), q626, q627]⟩
theorem I16966_ok : InOk Tryz.prog I16966 := InOk.of_run (K := K_CY1e) (n := 5000) mixed K_CY1e_ok (by kernel_rfl) (by as_aux_lemma => kernel_rfl)

noncomputable def I16914 : In := ⟨368, [(pN 16270), (.agg [(iN 61), (iN 3), (iN 167), bF, (iN 43), z0, .nils, .nils])], 19044, [], (.tup []), 19058, []⟩
theorem I16914_ok : InOk Tryz.prog I16914 := InOk.of_run (K := K_CY1e) (n := 5000) mixed K_CY1e_ok (by kernel_rfl) (by as_aux_lemma => kernel_rfl)

noncomputable def I16903 : In := ⟨368, [(pN 16270), (.agg [(iN 58), (iN 3), (iN 132), bF, z0, z1, .nils, .nils])], 19007, [q629, q630], (.tup []), 19021, [q629, q630]⟩
theorem I16903_ok : InOk Tryz.prog I16903 := InOk.of_run (K := K_CY1e) (n := 5000) mixed K_CY1e_ok (by kernel_rfl) (by as_aux_lemma => kernel_rfl)

noncomputable def I16849 : In := ⟨368, [(pN 16270), (.agg [(iN 56), z1, (iN 96), bF, z0, z0, .nils, .nils])], 18902, [q26, (16270, (.cells 12 false [] (T.ofList 0 .leaf [(pN 7221), (pN 14128), (pN 16258), (uN 73), tx1, z0, (uN 0), (iN 56), (.so 18882 0 3 3), (.so 18885 0 2 3), (.map 16269), bF]))), q633, q634], (.tup []), 18943, [q26, (16270, (.cells 12 false [] (T.ofList 0 .leaf [(pN 7221), (pN 14128), (pN 16258), (uN 73), tx1, z0, (uN 0), (iN 56), (.so 18939 0 3 3), (.so 18941 0 1 3), (.map 16269), bF]))), q633, q634, q631, q632]⟩
theorem I16849_ok : InOk Tryz.prog I16849 := InOk.of_run (K := K_CY1e) (n := 5000) mixed K_CY1e_ok (by kernel_rfl) (by as_aux_lemma => kernel_rfl)

noncomputable def I16810 : In := ⟨368, [(pN 16270), (.agg [(iN 55), z1, (iN 46), bF, z0, z0, .nils, .nils])], 18829, [q26, (16270, (.cells 12 false [] (T.ofList 0 .leaf [(pN 7221), (pN 14128), (pN 16258), (uN 73), tx1, z0, (uN 0), (iN 55), (.so 18809 0 3 3), (.so 18812 0 3 3), (.map 16269), bF]))), q635, q636], (.tup []), 18888, [q26, (16270, (.cells 12 false [] (T.ofList 0 .leaf [(pN 7221), (pN 14128), (pN 16258), (uN 73), tx1, z0, (uN 0), (iN 55), (.so 18882 0 3 3), (.so 18885 0 2 3), (.map 16269), bF]))), q635, q636, q633, q634]⟩
theorem I16810_ok : InOk Tryz.prog I16810 := InOk.of_run (K := K_CY1e) (n := 5000) mixed K_CY1e_ok (by kernel_rfl) (by as_aux_lemma => kernel_rfl)

noncomputable def I16769 : In := ⟨368, [(pN 16270), (.agg [(iN 53), z1, (iN 44), bF, z2, z0, .nils, .nils])], 18750, [q26, (16270, (.cells 12 false [] (T.ofList 0 .leaf [(pN 7221), (pN 14128), (pN 16258), (uN 73), tx1, z0, (uN 0), (iN 53), (.so 18726 0 3 3), (.so 18728 0 1 3), (.map 16269), bF]))), q639, q640], (.tup []), 18780, [q26, (16270, (.cells 12 false [] (T.ofList 0 .leaf [(pN 7221), (pN 14128), (pN 16258), (uN 73), tx1, z0, (uN 0), (iN 53), (.so 18774 0 3 3), (.so 18777 0 2 3), (.map 16269), bF]))), q639, q640, q637, q638]⟩
theorem I16769_ok : InOk Tryz.prog I16769 := InOk.of_run (K := K_CY1e) (n := 5000) mixed K_CY1e_ok (by kernel_rfl) (by as_aux_lemma => kernel_rfl)

noncomputable def I16741 : In := ⟨368, [(pN 16270), (.agg [(iN 52), z1, (iN 104), bF, z0, z0, .nils, .nils])], 18689, [q26, (16270, (.cells 12 false [] (T.ofList 0 .leaf [(pN 7221), (pN 14128), (pN 16258), (uN 73), tx1, z0, (uN 0), (iN 52), (.so 18671 0 3 3), (.so 18674 0 2 3), (.map 16269), bF]))), q641, q642], (.tup []), 18730, [q26, (16270, (.cells 12 false [] (T.ofList 0 .leaf [(pN 7221), (pN 14128), (pN 16258), (uN 73), tx1, z0, (uN 0), (iN 52), (.so 18726 0 3 3), (.so 18728 0 1 3), (.map 16269), bF]))), q641, q642, q639, q640]⟩
theorem I16741_ok : InOk Tryz.prog I16741 := InOk.of_run (K := K_CY1e) (n := 5000) mixed K_CY1e_ok (by kernel_rfl) (by as_aux_lemma => kernel_rfl)

noncomputable def I16722 : In := ⟨368, [(pN 16270), (.agg [(iN 50), z2, (iN 16), bF, (iN 7), z0, .nils, .nils])], 18648, [q26, (16270, (.cells 12 false [] (T.ofList 0 .leaf [(pN 7221), (pN 14128), (pN 16258), (uN 73), tx1, z0, (uN 0), (iN 50), (.so 18631 0 3 3), (.so 18633 0 1 3), (.map 16269), bF]))), q643, q644], (.tup []), 18677, [q26, (16270, (.cells 12 false [] (T.ofList 0 .leaf [(pN 7221), (pN 14128), (pN 16258), (uN 73), tx1, z0, (uN 0), (iN 50), (.so 18671 0 3 3), (.so 18674 0 2 3), (.map 16269), bF]))), q643, q644, q641, q642]⟩
theorem I16722_ok : InOk Tryz.prog I16722 := InOk.of_run (K := K_CY1e) (n := 5000) mixed K_CY1e_ok (by kernel_rfl) (by as_aux_lemma => kernel_rfl)

noncomputable def I16660 : In := ⟨368, [(pN 16270), (.agg [(iN 46), (iN 3), (iN 162), bF, (iN 64), z0, .nils, .nils])], 18541, [(16270, (.cells 12 false [] (T.ofList 0 .leaf [(pN 7221), (pN 14128), (pN 16258), (uN 73), tx1, z0, (uN 0), (iN 46), (.so 18523 0 3 3), (.so 18526 0 2 3), (.map 16269), bF]))), q647, q648], (.tup []), 18571, [(16270, (.cells 12 false [] (T.ofList 0 .leaf [(pN 7221), (pN 14128), (pN 16258), (uN 73), tx1, z0, (uN 0), (iN 46), (.so 18568 0 3 3), (.sl 18570 0 0 0), (.map 16269), bF]))), q647, q648, q645, q646]⟩
theorem I16660_ok : InOk Tryz.prog I16660 := InOk.of_run (K := K_CY1e) (n := 5000) mixed K_CY1e_ok (by kernel_rfl) (by as_aux_lemma => kernel_rfl)

noncomputable def I16641 : In := ⟨368, [(pN 16270), (.agg [(iN 44), z2, (iN 16), bF, (iN 10), z0, .nils, .nils])], 18500, [q26, (16270, (.cells 12 false [] (T.ofList 0 .leaf [(pN 7221), (pN 14128), (pN 16258), (uN 73), tx1, z0, (uN 0), (iN 44), (.so 18484 0 3 3), (.so 18485 0 1 3), (.map 16269), bF]))), q649, q650], (.tup []), 18529, [q26, (16270, (.cells 12 false [] (T.ofList 0 .leaf [(pN 7221), (pN 14128), (pN 16258), (uN 73), tx1, z0, (uN 0), (iN 44), (.so 18523 0 3 3), (.so 18526 0 2 3), (.map 16269), bF]))), q649, q650, q647, q648]⟩
theorem I16641_ok : InOk Tryz.prog I16641 := InOk.of_run (K := K_CY1e) (n := 5000) mixed K_CY1e_ok (by kernel_rfl) (by as_aux_lemma => kernel_rfl)

noncomputable def I16557 : In := ⟨368, [(pN 16270), (.agg [(iN 41), z1, (iN 3), bF, z0, z0, .nils, .nils])], 18370, [q26, (16270, (.cells 12 false [] (T.ofList 0 .leaf [(pN 7221), (pN 14128), (pN 16258), (uN 73), tx1, z0, (uN 0), (iN 41), (.so 18339 0 3 3), (.sl 18341 0 0 0), (.map 16269), bF]))), q654, q655], (.tup []), 18397, [q26, (16270, (.cells 12 false [] (T.ofList 0 .leaf [(pN 7221), (pN 14128), (pN 16258), (uN 73), tx1, z0, (uN 0), (iN 41), (.so 18393 0 3 3), (.so 18395 0 1 3), (.map 16269), bF]))), q654, q655, q652, q653]⟩
theorem I16557_ok : InOk Tryz.prog I16557 := InOk.of_run (K := K_CY1e) (n := 5000) mixed K_CY1e_ok (by kernel_rfl) (by as_aux_lemma => kernel_rfl)

noncomputable def I16310 : In := ⟨368, [(pN 16270), (.agg [(iN 35), (iN 3), (iN 17), bF, (oN 32), z0, .nils, .nils])], 18126, [q26, (16270, (.cells 12 false [] (T.ofList 0 .leaf [(pN 7221), (pN 14128), (pN 16258), (uN 73), tx1, z0, (uN 0), (iN 35), (.so 18106 0 3 3), (.so 18109 0 4 3), (.map 16269), bF]))), q658, q659], (.tup []), 18158, [q26, (16270, (.cells 12 false [] (T.ofList 0 .leaf [(pN 7221), (pN 14128), (pN 16258), (uN 73), tx1, z0, (uN 0), (iN 35), (.so 18149 0 3 3), (.so 18152 0 5 3), (.map 16269), bF]))), q658, q659, q656, q657]⟩
theorem I16310_ok : InOk Tryz.prog I16310 := InOk.of_run (K := K_CY1e) (n := 5000) mixed K_CY1e_ok (by kernel_rfl) (by as_aux_lemma => kernel_rfl)

noncomputable def I16291 : In := ⟨368, [(pN 16270), (.agg [(iN 32), (iN 3), (iN 17), bF, (oN 27), z0, .nils, .nils])], 18083, [q26, (16270, (.cells 12 false [] (T.ofList 0 .leaf [(pN 7221), (pN 14128), (pN 16258), (uN 73), tx1, z0, (uN 0), (iN 32), (.so 18062 0 3 3), (.so 18065 0 3 3), (.map 16269), bF]))), q660, q661], (.tup []), 18114, [q26, (16270, (.cells 12 false [] (T.ofList 0 .leaf [(pN 7221), (pN 14128), (pN 16258), (uN 73), tx1, z0, (uN 0), (iN 32), (.so 18106 0 3 3), (.so 18109 0 4 3), (.map 16269), bF]))), q660, q661, q658, q659]⟩
theorem I16291_ok : InOk Tryz.prog I16291 := InOk.of_run (K := K_CY1e) (n := 5000) mixed K_CY1e_ok (by kernel_rfl) (by as_aux_lemma => kernel_rfl)

noncomputable def I16270 : In := ⟨368, [(pN 16270), (.agg [(iN 31), z1, (iN 44), bF, z2, z0, .nils, .nils])], 18038, [q26, (16270, (.cells 12 false [] (T.ofList 0 .leaf [(pN 7221), (pN 14128), (pN 16258), (uN 73), tx1, z0, (uN 0), (iN 31), (.so 18020 0 3 3), (.so 18023 0 2 3), (.map 16269), bF]))), q662, q663], (.tup []), 18069, [q26, (16270, (.cells 12 false [] (T.ofList 0 .leaf [(pN 7221), (pN 14128), (pN 16258), (uN 73), tx1, z0, (uN 0), (iN 31), (.so 18062 0 3 3), (.so 18065 0 3 3), (.map 16269), bF]))), q662, q663, q660, q661]⟩
theorem I16270_ok : InOk Tryz.prog I16270 := InOk.of_run (K := K_CY1e) (n := 5000) mixed K_CY1e_ok (by kernel_rfl) (by as_aux_lemma => kernel_rfl)

noncomputable def I16251 : In := ⟨368, [(pN 16270), (.agg [(iN 28), (iN 3), (iN 17), bF, (oN 22), z0, .nils, .nils])], 17997, [q26, (16270, (.cells 12 false [] (T.ofList 0 .leaf [(pN 7221), (pN 14128), (pN 16258), (uN 73), tx1, z0, (uN 0), (iN 28), (.so 17980 0 3 3), (.so 17981 0 1 3), (.map 16269), bF]))), q664, q665], (.tup []), 18026, [q26, (16270, (.cells 12 false [] (T.ofList 0 .leaf [(pN 7221), (pN 14128), (pN 16258), (uN 73), tx1, z0, (uN 0), (iN 28), (.so 18020 0 3 3), (.so 18023 0 2 3), (.map 16269), bF]))), q664, q665, q662, q663]⟩
theorem I16251_ok : InOk Tryz.prog I16251 := InOk.of_run (K := K_CY1e) (n := 5000) mixed K_CY1e_ok (by kernel_rfl) (by as_aux_lemma => kernel_rfl)

noncomputable def I16230 : In := ⟨368, [(pN 16270), (.agg [(iN 27), z1, (iN 44), bF, z2, z0, .nils, .nils])], 17956, [q26, (16270, (.cells 12 false [] (T.ofList 0 .leaf [(pN 7221), (pN 14128), (pN 16258), (uN 73), tx1, z0, (uN 0), (iN 27), (.so 16940 0 3 3), .nils, (.map 16269), bF]))), q666], (.tup []), 17983, [q26, (16270, (.cells 12 false [] (T.ofList 0 .leaf [(pN 7221), (pN 14128), (pN 16258), (uN 73), tx1, z0, (uN 0), (iN 27), (.so 17980 0 3 3), (.so 17981 0 1 3), (.map 16269), bF]))), q666, q664, q665]⟩
theorem I16230_ok : InOk Tryz.prog I16230 := InOk.of_run (K := K_CY1e) (n := 5000) mixed K_CY1e_ok (by kernel_rfl) (by as_aux_lemma => kernel_rfl)

noncomputable def I16198 : In := ⟨368, [(pN 16270), (.agg [(iN 24), (iN 3), (iN 167), bF, (iN 9), z0, .nils, .nils])], 17898, [], (.tup []), 17912, []⟩
theorem I16198_ok : InOk Tryz.prog I16198 := InOk.of_run (K := K_CY1e) (n := 5000) mixed K_CY1e_ok (by kernel_rfl) (by as_aux_lemma => kernel_rfl)

noncomputable def I16187 : In := ⟨368, [(pN 16270), (.agg [(iN 21), (iN 3), (iN 132), bF, z0, z1, .nils, .nils])], 17861, [q667, q668], (.tup []), 17875, [q667, q668]⟩
theorem I16187_ok : InOk Tryz.prog I16187 := InOk.of_run (K := K_CY1e) (n := 5000) mixed K_CY1e_ok (by kernel_rfl) (by as_aux_lemma => kernel_rfl)

noncomputable def I16147 : In := ⟨368, [(pN 16270), (.agg [(iN 20), z1, (iN 79), bF, z0, z0, .nils, .nils])], 17788, [(16270, (.cells 12 false [] (T.ofList 0 .leaf [(pN 7221), (pN 14128), (pN 16258), (uN 73), tx1, z0, (uN 0), (iN 20), (.so 17761 0 3 3), (.so 17764 0 3 3), (.map 16269), bF]))), q669, q670], (.tup []), 17845, [(16270, (.cells 12 false [] (T.ofList 0 .leaf [(pN 7221), (pN 14128), (pN 16258), (uN 73), tx1, z0, (uN 0), (iN 20), (.so 17842 0 3 3), (.sl 17844 0 0 0), (.map 16269), bF]))), q669, q670, q668, (17844, (.cells 3 true [] (T.ofList 0 .leaf [(iN 7), tx19, z0])))]⟩
theorem I16147_ok : InOk Tryz.prog I16147 := InOk.of_run (K := K_CY1e) (n := 5000) mixed K_CY1e_ok (by kernel_rfl) (by as_aux_lemma => kernel_rfl)

noncomputable def I16119 : In := ⟨368, [(pN 16270), (.agg [(iN 19), z1, (iN 104), bF, z0, z0, .nils, .nils])], 17724, [q26, (16270, (.cells 12 false [] (T.ofList 0 .leaf [(pN 7221), (pN 14128), (pN 16258), (uN 73), tx1, z0, (uN 0), (iN 19), (.so 17703 0 3 3), (.so 17706 0 4 3), (.map 16269), bF]))), q671, q672], (.tup []), 17768, [q26, (16270, (.cells 12 false [] (T.ofList 0 .leaf [(pN 7221), (pN 14128), (pN 16258), (uN 73), tx1, z0, (uN 0), (iN 19), (.so 17761 0 3 3), (.so 17764 0 3 3), (.map 16269), bF]))), q671, q672, q669, q670]⟩
theorem I16119_ok : InOk Tryz.prog I16119 := InOk.of_run (K := K_CY1e) (n := 5000) mixed K_CY1e_ok (by kernel_rfl) (by as_aux_lemma => kernel_rfl)

noncomputable def I16038 : In := ⟨368, [(pN 16270), (.agg [(iN 15), z1, (iN 44), bF, z2, z0, .nils, .nils])], 17577, [q26, (16270, (.cells 12 false [] (T.ofList 0 .leaf [(pN 7221), (pN 14128), (pN 16258), (uN 73), tx1, z0, (uN 0), (iN 15), (.so 17529 0 3 3), (.sl 17531 0 0 0), (.map 16269), bF]))), q679, q680], (.tup []), 17605, [q26, (16270, (.cells 12 false [] (T.ofList 0 .leaf [(pN 7221), (pN 14128), (pN 16258), (uN 73), tx1, z0, (uN 0), (iN 15), (.so 17601 0 3 3), (.so 17603 0 1 3), (.map 16269), bF]))), q679, q680, q677, q678]⟩
theorem I16038_ok : InOk Tryz.prog I16038 := InOk.of_run (K := K_CY1e) (n := 5000) mixed K_CY1e_ok (by kernel_rfl) (by as_aux_lemma => kernel_rfl)

noncomputable def I15996 : In := ⟨368, [(pN 16270), (.agg [(iN 12), (iN 3), (iN 162), bF, (iN 27), z0, .nils, .nils])], 17502, [(16270, (.cells 12 false [] (T.ofList 0 .leaf [(pN 7221), (pN 14128), (pN 16258), (uN 73), tx1, z0, (uN 0), (iN 12), (.so 17484 0 3 3), (.so 17487 0 2 3), (.map 16269), bF]))), q681, q682], (.tup []), 17532, [(16270, (.cells 12 false [] (T.ofList 0 .leaf [(pN 7221), (pN 14128), (pN 16258), (uN 73), tx1, z0, (uN 0), (iN 12), (.so 17529 0 3 3), (.sl 17531 0 0 0), (.map 16269), bF]))), q681, q682, q679, q680]⟩
theorem I15996_ok : InOk Tryz.prog I15996 := InOk.of_run (K := K_CY1e) (n := 5000) mixed K_CY1e_ok (by kernel_rfl) (by as_aux_lemma => kernel_rfl)

noncomputable def I15977 : In := ⟨368, [(pN 16270), (.agg [(iN 10), z2, (iN 16), bF, (iN 10), z0, .nils, .nils])], 17461, [q26, (16270, (.cells 12 false [] (T.ofList 0 .leaf [(pN 7221), (pN 14128), (pN 16258), (uN 73), tx1, z0, (uN 0), (iN 10), (.so 17445 0 3 3), (.so 17446 0 1 3), (.map 16269), bF]))), q683, q684], (.tup []), 17490, [q26, (16270, (.cells 12 false [] (T.ofList 0 .leaf [(pN 7221), (pN 14128), (pN 16258), (uN 73), tx1, z0, (uN 0), (iN 10), (.so 17484 0 3 3), (.so 17487 0 2 3), (.map 16269), bF]))), q683, q684, q681, q682]⟩
theorem I15977_ok : InOk Tryz.prog I15977 := InOk.of_run (K := K_CY1e) (n := 5000) mixed K_CY1e_ok (by kernel_rfl) (by as_aux_lemma => kernel_rfl)

noncomputable def I15916 : In := ⟨368, [(pN 16270), (.agg [(iN 8), z1, (iN 77), bF, z2, z0, .nils, .nils])], 17368, [(16270, (.cells 12 false [] (T.ofList 0 .leaf [(pN 7221), (pN 14128), (pN 16258), (uN 73), tx1, z0, (uN 0), (iN 8), (.so 17334 0 3 3), (.so 17336 0 1 3), (.map 16269), bF]))), q686, q687], (.tup []), 17399, [(16270, (.cells 12 false [] (T.ofList 0 .leaf [(pN 7221), (pN 14128), (pN 16258), (uN 73), tx1, z0, (uN 0), (iN 8), (.so 17397 0 3 3), (.sl 17398 0 0 0), (.map 16269), bF]))), q686, q687, (17397, (.cells 9 true [] (T.ofList 0 .leaf [z1, tx1, z0, z1, tx1, z0, (iN 7), tx19, z0]))), (17398, (.cells 0 false [] .leaf))]⟩
theorem I15916_ok : InOk Tryz.prog I15916 := InOk.of_run (K := K_CY1e) (n := 5000) mixed K_CY1e_ok (by kernel_rfl) (by as_aux_lemma => kernel_rfl)

noncomputable def I15885 : In := ⟨368, [(pN 16270), (.agg [(iN 6), z2, (iN 188), bF, (iN 10), z0, .nils, .nils])], 17297, [q22, q23, q26, (16270, (.cells 12 false [] (T.ofList 0 .leaf [(pN 7221), (pN 14128), (pN 16258), (uN 73), tx1, z0, (uN 0), (iN 6), (.so 17281 0 3 3), (.so 17283 0 1 3), (.map 16269), bF]))), q688, q689], (.tup []), 17338, [q22, q23, q26, (16270, (.cells 12 false [] (T.ofList 0 .leaf [(pN 7221), (pN 14128), (pN 16258), (uN 73), tx1, z0, (uN 0), (iN 6), (.so 17334 0 3 3), (.so 17336 0 1 3), (.map 16269), bF]))), q688, q689, q686, q687]⟩
theorem I15885_ok : InOk Tryz.prog I15885 := InOk.of_run (K := K_CY1e) (n := 5000) mixed K_CY1e_ok (by kernel_rfl) (by as_aux_lemma => kernel_rfl)

noncomputable def I15866 : In := ⟨368, [(pN 16270), (.agg [(iN 4), z2, (iN 16), bF, (iN 10), z0, .nils, .nils])], 17258, [q26, (16270, (.cells 12 false [] (T.ofList 0 .leaf [(pN 7221), (pN 14128), (pN 16258), (uN 73), tx1, z0, (uN 0), (iN 4), (.so 17241 0 3 3), (.sl 17242 0 0 0), (.map 16269), bF]))), q690, (17242, (.cells 0 false [] .leaf))], (.tup []), 17285, [q26, (16270, (.cells 12 false [] (T.ofList 0 .leaf [(pN 7221), (pN 14128), (pN 16258), (uN 73), tx1, z0, (uN 0), (iN 4), (.so 17281 0 3 3), (.so 17283 0 1 3), (.map 16269), bF]))), q690, (17242, (.cells 0 false [] .leaf)), q688, q689]⟩
theorem I15866_ok : InOk Tryz.prog I15866 := InOk.of_run (K := K_CY1e) (n := 5000) mixed K_CY1e_ok (by kernel_rfl) (by as_aux_lemma => kernel_rfl)

noncomputable def I15821 : In := ⟨368, [(pN 16270), (.agg [z2, z1, (iN 3), bF, z0, z0, .nils, .nils])], 17174, [q26, (16270, (.cells 12 false [] (T.ofList 0 .leaf [(pN 7221), (pN 14128), (pN 16258), (uN 73), tx1, z0, (uN 0), z2, (.so 17157 0 3 3), (.sl 17158 0 0 0), (.map 16269), bF]))), q693, (17158, (.cells 0 false [] .leaf))], (.tup []), 17201, [q26, (16270, (.cells 12 false [] (T.ofList 0 .leaf [(pN 7221), (pN 14128), (pN 16258), (uN 73), tx1, z0, (uN 0), z2, (.so 17197 0 3 3), (.so 17199 0 1 3), (.map 16269), bF]))), q693, (17158, (.cells 0 false [] .leaf)), q691, q692]⟩
theorem I15821_ok : InOk Tryz.prog I15821 := InOk.of_run (K := K_CY1e) (n := 5000) mixed K_CY1e_ok (by kernel_rfl) (by as_aux_lemma => kernel_rfl)

noncomputable def I15776 : In := ⟨368, [(pN 16270), (.agg [z0, z1, (iN 3), bF, z0, z0, .nils, .nils])], 17091, [q26, (16270, (.cells 12 false [] (T.ofList 0 .leaf [(pN 7221), (pN 14128), (pN 16258), (uN 73), tx1, z0, (uN 0), z0, (.so 16889 0 3 3), .nils, (.map 16269), bF]))), q696], (.tup []), 17117, [q26, (16270, (.cells 12 false [] (T.ofList 0 .leaf [(pN 7221), (pN 14128), (pN 16258), (uN 73), tx1, z0, (uN 0), z0, (.so 17114 0 3 3), (.so 17115 0 1 3), (.map 16269), bF]))), q696, q694, q695]⟩
theorem I15776_ok : InOk Tryz.prog I15776 := InOk.of_run (K := K_CY1e) (n := 5000) mixed K_CY1e_ok (by kernel_rfl) (by as_aux_lemma => kernel_rfl)

noncomputable def S6149 : Sum := ⟨(iN 35), 74, []⟩
theorem S6149_ok : SumOk Tryz.prog 253 [tx2, tx22, tx28] S6149 := SumOk.of_run (K := K_CY1e) (n := 5000) (keep := []) mixed K_CY1e_ok (by kernel_rfl) (by as_aux_lemma => kernel_rfl)

noncomputable def S6042 : Sum := ⟨(iN 34), 73, []⟩
theorem S6042_ok : SumOk Tryz.prog 253 [tx2, tx22, tx30] S6042 := SumOk.of_run (K := K_CY1e) (n := 5000) (keep := []) mixed K_CY1e_ok (by kernel_rfl) (by as_aux_lemma => kernel_rfl)

noncomputable def S6007 : Sum := ⟨(iN 33), 72, []⟩
theorem S6007_ok : SumOk Tryz.prog 253 [tx2, tx22, tx63] S6007 := SumOk.of_run (K := K_CY1e) (n := 5000) (keep := []) mixed K_CY1e_ok (by kernel_rfl) (by as_aux_lemma => kernel_rfl)

noncomputable def S5973 : Sum := ⟨(iN 32), 71, []⟩
theorem S5973_ok : SumOk Tryz.prog 253 [tx2, tx22, tx64] S5973 := SumOk.of_run (K := K_CY1e) (n := 5000) (keep := []) mixed K_CY1e_ok (by kernel_rfl) (by as_aux_lemma => kernel_rfl)

noncomputable def S5940 : Sum := ⟨(iN 31), 70, []⟩
theorem S5940_ok : SumOk Tryz.prog 253 [tx2, tx22, tx65] S5940 := SumOk.of_run (K := K_CY1e) (n := 5000) (keep := []) mixed K_CY1e_ok (by kernel_rfl) (by as_aux_lemma => kernel_rfl)

noncomputable def S5908 : Sum := ⟨(iN 30), 69, []⟩
theorem S5908_ok : SumOk Tryz.prog 253 [tx2, tx22, tx66] S5908 := SumOk.of_run (K := K_CY1e) (n := 5000) (keep := []) mixed K_CY1e_ok (by kernel_rfl) (by as_aux_lemma => kernel_rfl)

noncomputable def S5806 : Sum := ⟨(iN 29), 68, []⟩
theorem S5806_ok : SumOk Tryz.prog 253 [tx2, tx22, tx4] S5806 := SumOk.of_run (K := K_CY1e) (n := 5000) (keep := []) mixed K_CY1e_ok (by kernel_rfl) (by as_aux_lemma => kernel_rfl)

noncomputable def S5723 : Sum := ⟨(.tup [(.so 40 0 1 4), (.agg [(uN 86), tx1, z0, (uN 0)]), bT]), 41, [q712]⟩
theorem S5723_ok : SumOk Tryz.prog 116 [tx30] S5723 := SumOk.of_run (K := K_CY1e) (n := 5000) (keep := [40]) mixed K_CY1e_ok (by kernel_rfl) (by as_aux_lemma => kernel_rfl)

noncomputable def S5705 : Sum := ⟨(iN 28), 67, []⟩
theorem S5705_ok : SumOk Tryz.prog 253 [tx2, tx45, tx30] S5705 := SumOk.of_run (K := K_CY1e) (n := 5000) (keep := []) mixed K_CY1e_ok (by kernel_rfl) (by as_aux_lemma => kernel_rfl)

noncomputable def S5676 : Sum := ⟨(iN 27), 66, []⟩
theorem S5676_ok : SumOk Tryz.prog 253 [tx2, tx45, tx63] S5676 := SumOk.of_run (K := K_CY1e) (n := 5000) (keep := []) mixed K_CY1e_ok (by kernel_rfl) (by as_aux_lemma => kernel_rfl)

noncomputable def S5648 : Sum := ⟨(iN 26), 65, []⟩
theorem S5648_ok : SumOk Tryz.prog 253 [tx2, tx45, tx64] S5648 := SumOk.of_run (K := K_CY1e) (n := 5000) (keep := []) mixed K_CY1e_ok (by kernel_rfl) (by as_aux_lemma => kernel_rfl)

noncomputable def S5621 : Sum := ⟨(iN 25), 64, []⟩
theorem S5621_ok : SumOk Tryz.prog 253 [tx2, tx45, tx65] S5621 := SumOk.of_run (K := K_CY1e) (n := 5000) (keep := []) mixed K_CY1e_ok (by kernel_rfl) (by as_aux_lemma => kernel_rfl)

noncomputable def S5595 : Sum := ⟨(iN 24), 63, []⟩
theorem S5595_ok : SumOk Tryz.prog 253 [tx2, tx45, tx66] S5595 := SumOk.of_run (K := K_CY1e) (n := 5000) (keep := []) mixed K_CY1e_ok (by kernel_rfl) (by as_aux_lemma => kernel_rfl)

noncomputable def S5499 : Sum := ⟨(iN 23), 62, []⟩
theorem S5499_ok : SumOk Tryz.prog 253 [tx2, tx45, tx4] S5499 := SumOk.of_run (K := K_CY1e) (n := 5000) (keep := []) mixed K_CY1e_ok (by kernel_rfl) (by as_aux_lemma => kernel_rfl)

noncomputable def S5398 : Sum := ⟨(iN 21), 39, []⟩
theorem S5398_ok : SumOk Tryz.prog 253 [tx3, tx59, tx15] S5398 := SumOk.of_run (K := K_CY1e) (n := 5000) (keep := []) mixed K_CY1e_ok (by kernel_rfl) (by as_aux_lemma => kernel_rfl)

noncomputable def S5370 : Sum := ⟨(iN 20), 38, []⟩
theorem S5370_ok : SumOk Tryz.prog 253 [tx3, tx71, tx67] S5370 := SumOk.of_run (K := K_CY1e) (n := 5000) (keep := []) mixed K_CY1e_ok (by kernel_rfl) (by as_aux_lemma => kernel_rfl)

noncomputable def S5271 : Sum := ⟨(iN 19), 37, []⟩
theorem S5271_ok : SumOk Tryz.prog 253 [tx3, tx46, tx50] S5271 := SumOk.of_run (K := K_CY1e) (n := 5000) (keep := []) mixed K_CY1e_ok (by kernel_rfl) (by as_aux_lemma => kernel_rfl)

noncomputable def S5173 : Sum := ⟨(iN 18), 36, []⟩
theorem S5173_ok : SumOk Tryz.prog 253 [tx3, tx46, tx49] S5173 := SumOk.of_run (K := K_CY1e) (n := 5000) (keep := []) mixed K_CY1e_ok (by kernel_rfl) (by as_aux_lemma => kernel_rfl)

noncomputable def S5076 : Sum := ⟨(iN 17), 35, []⟩
theorem S5076_ok : SumOk Tryz.prog 253 [tx3, tx46, tx48] S5076 := SumOk.of_run (K := K_CY1e) (n := 5000) (keep := []) mixed K_CY1e_ok (by kernel_rfl) (by as_aux_lemma => kernel_rfl)

noncomputable def S4980 : Sum := ⟨(iN 16), 34, []⟩
theorem S4980_ok : SumOk Tryz.prog 253 [tx3, tx46, tx47] S4980 := SumOk.of_run (K := K_CY1e) (n := 5000) (keep := []) mixed K_CY1e_ok (by kernel_rfl) (by as_aux_lemma => kernel_rfl)

noncomputable def S4916 : Sum := ⟨bT, 50, []⟩
theorem S4916_ok : SumOk Tryz.prog 274 [tx3] S4916 := SumOk.of_run (K := K_CY1e) (n := 5000) (keep := []) mixed K_CY1e_ok (by kernel_rfl) (by as_aux_lemma => kernel_rfl)

noncomputable def S4814 : Sum := ⟨(iN 15), 33, []⟩
theorem S4814_ok : SumOk Tryz.prog 253 [tx3, tx46, tx25] S4814 := SumOk.of_run (K := K_CY1e) (n := 5000) (keep := []) mixed K_CY1e_ok (by kernel_rfl) (by as_aux_lemma => kernel_rfl)

noncomputable def S4796 : Sum := ⟨(iN 14), 32, []⟩
theorem S4796_ok : SumOk Tryz.prog 253 [tx3, tx9, tx28] S4796 := SumOk.of_run (K := K_CY1e) (n := 5000) (keep := []) mixed K_CY1e_ok (by kernel_rfl) (by as_aux_lemma => kernel_rfl)

noncomputable def S4689 : Sum := ⟨(iN 13), 27, []⟩
theorem S4689_ok : SumOk Tryz.prog 253 [tx6, tx52, tx56] S4689 := SumOk.of_run (K := K_CY1e) (n := 5000) (keep := []) mixed K_CY1e_ok (by kernel_rfl) (by as_aux_lemma => kernel_rfl)

noncomputable def S4584 : Sum := ⟨(iN 12), 26, []⟩
theorem S4584_ok : SumOk Tryz.prog 253 [tx6, tx52, tx55] S4584 := SumOk.of_run (K := K_CY1e) (n := 5000) (keep := []) mixed K_CY1e_ok (by kernel_rfl) (by as_aux_lemma => kernel_rfl)

noncomputable def S4480 : Sum := ⟨(iN 11), 25, []⟩
theorem S4480_ok : SumOk Tryz.prog 253 [tx6, tx52, tx54] S4480 := SumOk.of_run (K := K_CY1e) (n := 5000) (keep := []) mixed K_CY1e_ok (by kernel_rfl) (by as_aux_lemma => kernel_rfl)

noncomputable def S4377 : Sum := ⟨(iN 10), 24, []⟩
theorem S4377_ok : SumOk Tryz.prog 253 [tx6, tx52, tx53] S4377 := SumOk.of_run (K := K_CY1e) (n := 5000) (keep := []) mixed K_CY1e_ok (by kernel_rfl) (by as_aux_lemma => kernel_rfl)

noncomputable def S4280 : Sum := ⟨(iN 9), 23, []⟩
theorem S4280_ok : SumOk Tryz.prog 253 [tx6, tx59, tx15] S4280 := SumOk.of_run (K := K_CY1e) (n := 5000) (keep := []) mixed K_CY1e_ok (by kernel_rfl) (by as_aux_lemma => kernel_rfl)

noncomputable def S4184 : Sum := ⟨(iN 8), 22, []⟩
theorem S4184_ok : SumOk Tryz.prog 253 [tx6, tx83, tx15] S4184 := SumOk.of_run (K := K_CY1e) (n := 5000) (keep := []) mixed K_CY1e_ok (by kernel_rfl) (by as_aux_lemma => kernel_rfl)

noncomputable def S4084 : Sum := ⟨(iN 7), 21, []⟩
theorem S4084_ok : SumOk Tryz.prog 253 [tx6, tx68, tx38] S4084 := SumOk.of_run (K := K_CY1e) (n := 5000) (keep := []) mixed K_CY1e_ok (by kernel_rfl) (by as_aux_lemma => kernel_rfl)

noncomputable def S3914 : Sum := ⟨(iN 6), 20, []⟩
theorem S3914_ok : SumOk Tryz.prog 253 [tx6, tx82, tx31] S3914 := SumOk.of_run (K := K_CY1e) (n := 5000) (keep := []) mixed K_CY1e_ok (by kernel_rfl) (by as_aux_lemma => kernel_rfl)

noncomputable def S3887 : Sum := ⟨(iN 5), 19, []⟩
theorem S3887_ok : SumOk Tryz.prog 253 [tx6, tx81, tx77] S3887 := SumOk.of_run (K := K_CY1e) (n := 5000) (keep := []) mixed K_CY1e_ok (by kernel_rfl) (by as_aux_lemma => kernel_rfl)

noncomputable def S3691 : Sum := ⟨(.tup [(.so 95 0 5 4), (.agg [(uN 86), tx1, z0, (uN 0)]), bT]), 96, [(95, (.cells 20 true [] (T.ofList 0 .leaf [(uN 76), tx5, z0, (uN 0), (uN 73), tx1, z0, (uN 0), (uN 76), tx5, z0, (uN 0), (uN 73), tx1, z0, (uN 0), (uN 73), tx1, z0, (uN 0)])))]⟩
theorem S3691_ok : SumOk Tryz.prog 116 [tx13] S3691 := SumOk.of_run (K := K_CY1e) (n := 5000) (keep := [95]) mixed K_CY1e_ok (by kernel_rfl) (by as_aux_lemma => kernel_rfl)

noncomputable def S3500 : Sum := ⟨(iN 38), 144, []⟩
theorem S3500_ok : SumOk Tryz.prog 253 [tx10, tx80, tx15] S3500 := SumOk.of_run (K := K_CY1e) (n := 5000) (keep := []) mixed K_CY1e_ok (by kernel_rfl) (by as_aux_lemma => kernel_rfl)

noncomputable def S3417 : Sum := ⟨(.tup [(.so 40 0 1 4), (.agg [(uN 86), tx1, z0, (uN 0)]), bT]), 41, [q717]⟩
theorem S3417_ok : SumOk Tryz.prog 116 [tx4] S3417 := SumOk.of_run (K := K_CY1e) (n := 5000) (keep := [40]) mixed K_CY1e_ok (by kernel_rfl) (by as_aux_lemma => kernel_rfl)

noncomputable def S3321 : Sum := ⟨(iN 37), 143, []⟩
theorem S3321_ok : SumOk Tryz.prog 253 [tx10, tx9, tx4] S3321 := SumOk.of_run (K := K_CY1e) (n := 5000) (keep := []) mixed K_CY1e_ok (by kernel_rfl) (by as_aux_lemma => kernel_rfl)

noncomputable def S3219 : Sum := ⟨(iN 36), 142, []⟩
theorem S3219_ok : SumOk Tryz.prog 253 [tx10, tx9, tx28] S3219 := SumOk.of_run (K := K_CY1e) (n := 5000) (keep := []) mixed K_CY1e_ok (by kernel_rfl) (by as_aux_lemma => kernel_rfl)

noncomputable def S3144 : Sum := ⟨(.tup [(.agg [(uN 76), tx6, z0, (uN 0)]), (iN 18)]), 37, []⟩
theorem S3144_ok : SumOk Tryz.prog 208 [tx61] S3144 := SumOk.of_run (K := K_CY1e) (n := 5000) (keep := []) mixed K_CY1e_ok (by kernel_rfl) (by as_aux_lemma => kernel_rfl)

noncomputable def S3042 : Sum := ⟨(.tup [(.so 40 0 1 4), (.agg [(uN 90), tx1, z0, (uN 0)]), bT]), 46, [q712]⟩
theorem S3042_ok : SumOk Tryz.prog 116 [tx38] S3042 := SumOk.of_run (K := K_CY1e) (n := 5000) (keep := [40]) mixed K_CY1e_ok (by kernel_rfl) (by as_aux_lemma => kernel_rfl)

noncomputable def S5 : Sum := ⟨(pN 2), 3254, [(0, (.map [] 0)), (1, (.map [(tx2, (pN 198), 0), (tx35, (pN 346), 1), (tx36, (pN 455), 2), (tx17, (pN 566), 3), (tx37, (pN 680), 4), (tx39, (pN 793), 5), (tx32, (pN 890), 6), (tx43, (pN 984), 7), (tx18, (pN 1075), 8), (tx29, (pN 1165), 9), (tx26, (pN 1271), 10), (tx40, (pN 1374), 11), (tx23, (pN 1489), 12), (tx7, (pN 1587), 13), (tx12, (pN 1680), 14), (tx41, (pN 1785), 15), (tx11, (pN 1884), 16), (tx27, (pN 1996), 17), (tx33, (pN 2092), 18), (tx44, (pN 2193), 19), (tx42, (pN 2295), 20), (tx34, (pN 2405), 21), (tx5, (pN 2416), 22), (tx16, (pN 2527), 23), (tx8, (pN 2619), 24), (tx14, (pN 2726), 25), (tx6, (pN 2747), 26), (tx3, (pN 2804), 27), (tx20, (pN 2944), 28), (tx21, (pN 2956), 29), (tx10, (pN 3044), 30), (tx24, (pN 3144), 31), (tx51, (pN 3244), 32)] 33)), (2, (.cells 3 false [] (T.ofList 0 .leaf [(.map 0), (.map 1), .nils]))), (198, (.cells 8 false [] (T.ofList 0 .leaf [(iN 52), .nils, (iN 49), tx2, tx5, .nils, .nils, (.so 251 0 13 9)]))), (251, (.cells 117 true [] (T.ofList 0 .leaf [z1, tx45, tx4, bF, z0, z0, .nils, .nils, .nils, z1, tx45, tx66, bF, z0, z0, .nils, .nils, .nils, z1, tx45, tx65, bF, z0, z0, .nils, .nils, .nils, z1, tx45, tx64, bF, z0, z0, .nils, .nils, .nils, z1, tx45, tx63, bF, z0, z0, .nils, .nils, .nils, z1, tx45, tx30, bF, z0, z0, .nils, .nils, .nils, z1, tx22, tx4, bF, z0, z0, .nils, .nils, .nils, z1, tx22, tx66, bF, z0, z0, .nils, .nils, .nils, z1, tx22, tx65, bF, z0, z0, .nils, .nils, .nils, z1, tx22, tx64, bF, z0, z0, .nils, .nils, .nils, z1, tx22, tx63, bF, z0, z0, .nils, .nils, .nils, z1, tx22, tx30, bF, z0, z0, .nils, .nils, .nils, z1, tx22, tx28, bF, z0, z0, .nils, .nils, .nils]))), (346, (.cells 8 false [] (T.ofList 0 .leaf [(iN 52), .nils, (iN 33), tx35, tx7, .nils, .nils, (.so 355 0 2 9)]))), (355, (.cells 18 true [] (T.ofList 0 .leaf [z1, tx9, tx28, bF, z0, z0, .nils, .nils, .nils, z1, tx9, tx4, bF, z0, z0, .nils, .nils, .nils]))), (455, (.cells 8 false [] (T.ofList 0 .leaf [(iN 52), .nils, (iN 33), tx36, tx8, .nils, .nils, (.so 464 0 2 9)]))), (464, (.cells 18 true [] (T.ofList 0 .leaf [z1, tx9, tx28, bF, z0, z0, .nils, .nils, .nils, z1, tx9, tx4, bF, z0, z0, .nils, .nils, .nils]))), (566, (.cells 8 false [] (T.ofList 0 .leaf [(iN 52), .nils, (iN 33), tx17, tx12, .nils, .nils, (.so 575 0 2 9)]))), (575, (.cells 18 true [] (T.ofList 0 .leaf [z1, tx9, tx28, bF, z0, z0, .nils, .nils, .nils, z1, tx9, tx4, bF, z0, z0, .nils, .nils, .nils]))), (680, (.cells 8 false [] (T.ofList 0 .leaf [(iN 52), .nils, (iN 33), tx37, tx8, .nils, .nils, (.so 689 0 2 9)]))), (689, (.cells 18 true [] (T.ofList 0 .leaf [z1, tx9, tx28, bF, z0, z0, .nils, .nils, .nils, z1, tx9, tx4, bF, z0, z0, .nils, .nils, .nils]))), (793, (.cells 8 false [] (T.ofList 0 .leaf [(iN 52), .nils, (iN 33), tx39, tx8, .nils, .nils, (.so 802 0 2 9)]))), (802, (.cells 18 true [] (T.ofList 0 .leaf [z1, tx9, tx28, bF, z0, z0, .nils, .nils, .nils, z1, tx9, tx4, bF, z0, z0, .nils, .nils, .nils]))), (890, (.cells 8 false [] (T.ofList 0 .leaf [(iN 52), .nils, (iN 33), tx32, tx11, .nils, .nils, (.so 899 0 2 9)]))), (899, (.cells 18 true [] (T.ofList 0 .leaf [z1, tx9, tx28, bF, z0, z0, .nils, .nils, .nils, z1, tx9, tx4, bF, z0, z0, .nils, .nils, .nils]))), (984, (.cells 8 false [] (T.ofList 0 .leaf [(iN 52), .nils, (iN 33), tx43, tx11, .nils, .nils, (.so 993 0 2 9)]))), (993, (.cells 18 true [] (T.ofList 0 .leaf [z1, tx9, tx28, bF, z0, z0, .nils, .nils, .nils, z1, tx9, tx4, bF, z0, z0, .nils, .nils, .nils]))), (1075, (.cells 8 false [] (T.ofList 0 .leaf [(iN 52), .nils, (iN 33), tx18, tx10, .nils, .nils, (.so 1084 0 2 9)]))), (1084, (.cells 18 true [] (T.ofList 0 .leaf [z1, tx9, tx28, bF, z0, z0, .nils, .nils, .nils, z1, tx9, tx4, bF, z0, z0, .nils, .nils, .nils]))), (1165, (.cells 8 false [] (T.ofList 0 .leaf [(iN 52), .nils, (iN 33), tx29, tx10, .nils, .nils, (.so 1174 0 2 9)]))), (1174, (.cells 18 true [] (T.ofList 0 .leaf [z1, tx9, tx28, bF, z0, z0, .nils, .nils, .nils, z1, tx9, tx4, bF, z0, z0, .nils, .nils, .nils]))), (1271, (.cells 8 false [] (T.ofList 0 .leaf [(iN 52), .nils, (iN 33), tx26, tx11, .nils, .nils, (.so 1280 0 2 9)]))), (1280, (.cells 18 true [] (T.ofList 0 .leaf [z1, tx9, tx28, bF, z0, z0, .nils, .nils, .nils, z1, tx9, tx4, bF, z0, z0, .nils, .nils, .nils]))), (1374, (.cells 8 false [] (T.ofList 0 .leaf [(iN 52), .nils, (iN 33), tx40, tx7, .nils, .nils, (.so 1383 0 2 9)]))), (1383, (.cells 18 true [] (T.ofList 0 .leaf [z1, tx9, tx28, bF, z0, z0, .nils, .nils, .nils, z1, tx9, tx4, bF, z0, z0, .nils, .nils, .nils]))), (1489, (.cells 8 false [] (T.ofList 0 .leaf [(iN 52), .nils, (iN 33), tx23, tx8, .nils, .nils, (.so 1498 0 2 9)]))), (1498, (.cells 18 true [] (T.ofList 0 .leaf [z1, tx9, tx28, bF, z0, z0, .nils, .nils, .nils, z1, tx9, tx4, bF, z0, z0, .nils, .nils, .nils]))), (1587, (.cells 8 false [] (T.ofList 0 .leaf [(iN 52), .nils, (iN 33), tx7, tx11, .nils, .nils, (.so 1596 0 2 9)]))), (1596, (.cells 18 true [] (T.ofList 0 .leaf [z1, tx9, tx28, bF, z0, z0, .nils, .nils, .nils, z1, tx9, tx4, bF, z0, z0, .nils, .nils, .nils]))), (1680, (.cells 8 false [] (T.ofList 0 .leaf [(iN 52), .nils, (iN 33), tx12, tx8, .nils, .nils, (.so 1689 0 2 9)]))), (1689, (.cells 18 true [] (T.ofList 0 .leaf [z1, tx9, tx28, bF, z0, z0, .nils, .nils, .nils, z1, tx9, tx4, bF, z0, z0, .nils, .nils, .nils]))), (1785, (.cells 8 false [] (T.ofList 0 .leaf [(iN 52), .nils, (iN 33), tx41, tx7, .nils, .nils, (.so 1794 0 2 9)]))), (1794, (.cells 18 true [] (T.ofList 0 .leaf [z1, tx9, tx28, bF, z0, z0, .nils, .nils, .nils, z1, tx9, tx4, bF, z0, z0, .nils, .nils, .nils]))), (1884, (.cells 8 false [] (T.ofList 0 .leaf [(iN 52), .nils, (iN 33), tx11, tx18, .nils, .nils, (.so 1893 0 2 9)]))), (1893, (.cells 18 true [] (T.ofList 0 .leaf [z1, tx9, tx28, bF, z0, z0, .nils, .nils, .nils, z1, tx9, tx4, bF, z0, z0, .nils, .nils, .nils]))), (1996, (.cells 8 false [] (T.ofList 0 .leaf [(iN 52), .nils, (iN 33), tx27, tx8, .nils, .nils, (.so 2005 0 2 9)]))), (2005, (.cells 18 true [] (T.ofList 0 .leaf [z1, tx9, tx28, bF, z0, z0, .nils, .nils, .nils, z1, tx9, tx4, bF, z0, z0, .nils, .nils, .nils]))), (2092, (.cells 8 false [] (T.ofList 0 .leaf [(iN 52), .nils, (iN 33), tx33, tx11, .nils, .nils, (.so 2101 0 2 9)]))), (2101, (.cells 18 true [] (T.ofList 0 .leaf [z1, tx9, tx28, bF, z0, z0, .nils, .nils, .nils, z1, tx9, tx4, bF, z0, z0, .nils, .nils, .nils]))), (2193, (.cells 8 false [] (T.ofList 0 .leaf [(iN 52), .nils, (iN 33), tx44, tx7, .nils, .nils, (.so 2202 0 2 9)]))), (2202, (.cells 18 true [] (T.ofList 0 .leaf [z1, tx9, tx28, bF, z0, z0, .nils, .nils, .nils, z1, tx9, tx4, bF, z0, z0, .nils, .nils, .nils]))), (2295, (.cells 8 false [] (T.ofList 0 .leaf [(iN 52), .nils, (iN 33), tx42, tx7, .nils, .nils, (.so 2304 0 2 9)]))), (2304, (.cells 18 true [] (T.ofList 0 .leaf [z1, tx9, tx28, bF, z0, z0, .nils, .nils, .nils, z1, tx9, tx4, bF, z0, z0, .nils, .nils, .nils]))), (2405, (.cells 8 false [] (T.ofList 0 .leaf [(iN 52), .nils, (iN 33), tx34, tx8, .nils, .nils, (.so 2414 0 2 9)]))), (2414, (.cells 18 true [] (T.ofList 0 .leaf [z1, tx9, tx28, bF, z0, z0, .nils, .nils, .nils, z1, tx9, tx4, bF, z0, z0, .nils, .nils, .nils]))), (2416, (.cells 8 false [] (T.ofList 0 .leaf [(iN 52), .nils, (iN 33), tx5, tx1, .nils, .nils, (.so 2428 0 3 9)]))), (2428, (.cells 27 true [] (T.ofList 0 .leaf [z1, tx9, tx28, bF, z0, z0, .nils, .nils, .nils, z1, tx68, tx38, bF, z0, z0, .nils, .nils, .nils, z1, tx59, tx15, bF, z0, z0, .nils, .nils, .nils]))), (2527, (.cells 8 false [] (T.ofList 0 .leaf [(iN 52), .nils, (iN 33), tx16, tx18, .nils, .nils, (.so 2536 0 2 9)]))), (2536, (.cells 18 true [] (T.ofList 0 .leaf [z1, tx9, tx28, bF, z0, z0, .nils, .nils, .nils, z1, tx9, tx4, bF, z0, z0, .nils, .nils, .nils]))), (2619, (.cells 8 false [] (T.ofList 0 .leaf [(iN 52), .nils, (iN 33), tx8, tx29, .nils, .nils, (.so 2628 0 2 9)]))), (2628, (.cells 18 true [] (T.ofList 0 .leaf [z1, tx9, tx28, bF, z0, z0, .nils, .nils, .nils, z1, tx9, tx4, bF, z0, z0, .nils, .nils, .nils]))), (2726, (.cells 8 false [] (T.ofList 0 .leaf [(iN 52), .nils, (iN 33), tx14, tx18, .nils, .nils, (.so 2735 0 2 9)]))), (2735, (.cells 18 true [] (T.ofList 0 .leaf [z1, tx9, tx28, bF, z0, z0, .nils, .nils, .nils, z1, tx9, tx4, bF, z0, z0, .nils, .nils, .nils]))), (2747, (.cells 8 false [] (T.ofList 0 .leaf [(iN 52), .nils, (iN 49), tx6, tx5, .nils, .nils, (.so 2788 0 10 9)]))), (2788, (.cells 90 true [] (T.ofList 0 .leaf [z1, tx71, tx67, bF, z0, z0, .nils, .nils, .nils, z1, tx81, tx77, bF, z0, z0, .nils, .nils, .nils, z1, tx82, tx31, bF, z0, z0, .nils, .nils, .nils, z1, tx68, tx38, bF, z0, z0, .nils, .nils, .nils, z1, tx83, tx15, bF, z0, z0, .nils, .nils, .nils, z1, tx59, tx15, bF, z0, z0, .nils, .nils, .nils, (iN 9), tx52, tx53, bF, z0, z0, .nils, .nils, .nils, (iN 9), tx52, tx54, bF, z0, z0, .nils, .nils, .nils, (iN 9), tx52, tx55, bF, z0, z0, .nils, .nils, .nils, (iN 9), tx52, tx56, bF, z0, z0, .nils, .nils, .nils]))), (2804, (.cells 8 false [] (T.ofList 0 .leaf [(iN 52), .nils, (iN 49), tx3, tx5, .nils, .nils, (.so 2837 0 8 9)]))), (2837, (.cells 72 true [] (T.ofList 0 .leaf [z1, tx9, tx28, bF, z0, z0, .nils, .nils, .nils, z1, tx46, tx25, bF, z0, z0, .nils, .nils, .nils, z1, tx46, tx47, bF, z0, z0, .nils, .nils, .nils, z1, tx46, tx48, bF, z0, z0, .nils, .nils, .nils, z1, tx46, tx49, bF, z0, z0, .nils, .nils, .nils, z1, tx46, tx50, bF, z0, z0, .nils, .nils, .nils, z1, tx71, tx67, bF, z0, z0, .nils, .nils, .nils, z1, tx59, tx15, bF, z0, z0, .nils, .nils, .nils]))), (2944, (.cells 8 false [] (T.ofList 0 .leaf [(iN 52), .nils, (iN 33), tx20, tx12, .nils, .nils, (.so 2953 0 2 9)]))), (2953, (.cells 18 true [] (T.ofList 0 .leaf [z1, tx9, tx28, bF, z0, z0, .nils, .nils, .nils, z1, tx9, tx4, bF, z0, z0, .nils, .nils, .nils]))), (2956, (.cells 8 false [] (T.ofList 0 .leaf [(iN 52), .nils, (iN 49), tx21, tx5, .nils, (.sl 2962 0 1 1), (.so 2961 0 1 9)]))), (2961, (.cells 9 true [] (T.ofList 0 .leaf [(iN 9), tx58, tx13, bF, z0, z0, .nils, .nils, .nils]))), (2962, (.cells 4 false [] (T.ofList 0 .leaf [(iN 25), (.str 3 7632239), (.str 21 86853048606115020859032997575803556797492651715148), z0]))), (3044, (.cells 8 false [] (T.ofList 0 .leaf [(iN 52), .nils, (iN 33), tx10, tx5, .nils, (.sl 3058 0 1 1), (.so 3057 0 3 9)]))), (3057, (.cells 27 true [] (T.ofList 0 .leaf [z1, tx9, tx28, bF, z0, z0, .nils, .nils, .nils, z1, tx9, tx4, bF, z0, z0, .nils, .nils, .nils, z1, tx80, tx15, bF, z0, z0, .nils, .nils, .nils]))), (3058, (.cells 4 false [] (T.ofList 0 .leaf [z2, tx86, tx61, z0]))), (3144, (.cells 8 false [] (T.ofList 0 .leaf [(iN 52), .nils, (iN 33), tx24, tx11, .nils, .nils, (.so 3153 0 2 9)]))), (3153, (.cells 18 true [] (T.ofList 0 .leaf [z1, tx9, tx28, bF, z0, z0, .nils, .nils, .nils, z1, tx9, tx4, bF, z0, z0, .nils, .nils, .nils]))), (3244, (.cells 8 false [] (T.ofList 0 .leaf [(iN 52), .nils, (iN 33), tx51, tx11, .nils, .nils, (.so 3253 0 2 9)]))), (3253, (.cells 18 true [] (T.ofList 0 .leaf [z1, tx9, tx28, bF, z0, z0, .nils, .nils, .nils, z1, tx9, tx4, bF, z0, z0, .nils, .nils, .nils])))]⟩
theorem S5_ok : SumOk Tryz.prog 47 [] S5 := SumOk.of_run (K := K_CY1e) (n := 5000) (keep := [0, 1, 2, 198, 251, 346, 355, 455, 464, 566, 575, 680, 689, 793, 802, 890, 899, 984, 993, 1075, 1084, 1165, 1174, 1271, 1280, 1374, 1383, 1489, 1498, 1587, 1596, 1680, 1689, 1785, 1794, 1884, 1893, 1996, 2005, 2092, 2101, 2193, 2202, 2295, 2304, 2405, 2414, 2416, 2428, 2527, 2536, 2619, 2628, 2726, 2735, 2747, 2788, 2804, 2837, 2944, 2953, 2956, 2961, 2962, 3044, 3057, 3058, 3144, 3153, 3244, 3253]) mixed K_CY1e_ok (by kernel_rfl) (by as_aux_lemma => kernel_rfl)

noncomputable def tab_CY1e : List (FuncId × SRows) := (47, [([], S5)]) :: (208, [([tx61], S3144)]) :: (274, [([tx3], S4916)]) :: (116, [([tx30], S5723), ([tx13], S3691), ([tx4], S3417), ([tx38], S3042)]) :: (253, [([tx2, tx22, tx28], S6149), ([tx2, tx22, tx30], S6042), ([tx2, tx22, tx63], S6007), ([tx2, tx22, tx64], S5973), ([tx2, tx22, tx65], S5940), ([tx2, tx22, tx66], S5908), ([tx2, tx22, tx4], S5806), ([tx2, tx45, tx30], S5705), ([tx2, tx45, tx63], S5676), ([tx2, tx45, tx64], S5648), ([tx2, tx45, tx65], S5621), ([tx2, tx45, tx66], S5595), ([tx2, tx45, tx4], S5499), ([tx3, tx59, tx15], S5398), ([tx3, tx71, tx67], S5370), ([tx3, tx46, tx50], S5271), ([tx3, tx46, tx49], S5173), ([tx3, tx46, tx48], S5076), ([tx3, tx46, tx47], S4980), ([tx3, tx46, tx25], S4814), ([tx3, tx9, tx28], S4796), ([tx6, tx52, tx56], S4689), ([tx6, tx52, tx55], S4584), ([tx6, tx52, tx54], S4480), ([tx6, tx52, tx53], S4377), ([tx6, tx59, tx15], S4280), ([tx6, tx83, tx15], S4184), ([tx6, tx68, tx38], S4084), ([tx6, tx82, tx31], S3914), ([tx6, tx81, tx77], S3887), ([tx10, tx80, tx15], S3500), ([tx10, tx9, tx4], S3321), ([tx10, tx9, tx28], S3219)]) :: []
theorem tab_CY1e_ok : TabOk Tryz.prog tab_CY1e := (TabOk.cons (RowsOk.cons S5_ok RowsOk.nil) (TabOk.cons (RowsOk.cons S3144_ok RowsOk.nil) (TabOk.cons (RowsOk.cons S4916_ok RowsOk.nil) (TabOk.cons (RowsOk.cons S5723_ok (RowsOk.cons S3691_ok (RowsOk.cons S3417_ok (RowsOk.cons S3042_ok RowsOk.nil)))) (TabOk.cons (RowsOk.cons S6149_ok (RowsOk.cons S6042_ok (RowsOk.cons S6007_ok (RowsOk.cons S5973_ok (RowsOk.cons S5940_ok (RowsOk.cons S5908_ok (RowsOk.cons S5806_ok (RowsOk.cons S5705_ok (RowsOk.cons S5676_ok (RowsOk.cons S5648_ok (RowsOk.cons S5621_ok (RowsOk.cons S5595_ok (RowsOk.cons S5499_ok (RowsOk.cons S5398_ok (RowsOk.cons S5370_ok (RowsOk.cons S5271_ok (RowsOk.cons S5173_ok (RowsOk.cons S5076_ok (RowsOk.cons S4980_ok (RowsOk.cons S4814_ok (RowsOk.cons S4796_ok (RowsOk.cons S4689_ok (RowsOk.cons S4584_ok (RowsOk.cons S4480_ok (RowsOk.cons S4377_ok (RowsOk.cons S4280_ok (RowsOk.cons S4184_ok (RowsOk.cons S4084_ok (RowsOk.cons S3914_ok (RowsOk.cons S3887_ok (RowsOk.cons S3500_ok (RowsOk.cons S3321_ok (RowsOk.cons S3219_ok RowsOk.nil))))))))))))))))))))))))))))))))) TabOk.nil)))))
noncomputable def H_CY1e : Hand := ((Hand.at 368 (Hand.sp 18038 (Hand.sp 17577 (Hand.sp 17297 (Hand.sp 17174 (inHand I15776) ((inHand I15866).or (inHand I15821))) (Hand.sp 17461 ((inHand I15916).or (inHand I15885)) ((inHand I15996).or (inHand I15977)))) (Hand.sp 17861 (Hand.sp 17724 (inHand I16038) ((inHand I16147).or (inHand I16119))) (Hand.sp 17956 ((inHand I16198).or (inHand I16187)) ((inHand I16251).or (inHand I16230))))) (Hand.sp 18689 (Hand.sp 18370 (Hand.sp 18083 (inHand I16270) ((inHand I16310).or (inHand I16291))) (Hand.sp 18541 ((inHand I16641).or (inHand I16557)) ((inHand I16722).or (inHand I16660)))) (Hand.sp 18902 (Hand.sp 18750 (inHand I16741) ((inHand I16810).or (inHand I16769))) (Hand.sp 19044 ((inHand I16903).or (inHand I16849)) ((inHand I16966).or (inHand I16914))))))).or (sumsHand tab_CY1e))
theorem H_CY1e_ok : HandOk Tryz.prog H_CY1e := (HandOk.or (HandOk.at 368 (HandOk.sp 18038 (HandOk.sp 17577 (HandOk.sp 17297 (HandOk.sp 17174 (inHand_ok I15776_ok (by kernel_rfl)) (HandOk.or (inHand_ok I15866_ok (by kernel_rfl)) (inHand_ok I15821_ok (by kernel_rfl)))) (HandOk.sp 17461 (HandOk.or (inHand_ok I15916_ok (by kernel_rfl)) (inHand_ok I15885_ok (by kernel_rfl))) (HandOk.or (inHand_ok I15996_ok (by kernel_rfl)) (inHand_ok I15977_ok (by kernel_rfl))))) (HandOk.sp 17861 (HandOk.sp 17724 (inHand_ok I16038_ok (by kernel_rfl)) (HandOk.or (inHand_ok I16147_ok (by kernel_rfl)) (inHand_ok I16119_ok (by kernel_rfl)))) (HandOk.sp 17956 (HandOk.or (inHand_ok I16198_ok (by kernel_rfl)) (inHand_ok I16187_ok (by kernel_rfl))) (HandOk.or (inHand_ok I16251_ok (by kernel_rfl)) (inHand_ok I16230_ok (by kernel_rfl)))))) (HandOk.sp 18689 (HandOk.sp 18370 (HandOk.sp 18083 (inHand_ok I16270_ok (by kernel_rfl)) (HandOk.or (inHand_ok I16310_ok (by kernel_rfl)) (inHand_ok I16291_ok (by kernel_rfl)))) (HandOk.sp 18541 (HandOk.or (inHand_ok I16641_ok (by kernel_rfl)) (inHand_ok I16557_ok (by kernel_rfl))) (HandOk.or (inHand_ok I16722_ok (by kernel_rfl)) (inHand_ok I16660_ok (by kernel_rfl))))) (HandOk.sp 18902 (HandOk.sp 18750 (inHand_ok I16741_ok (by kernel_rfl)) (HandOk.or (inHand_ok I16810_ok (by kernel_rfl)) (inHand_ok I16769_ok (by kernel_rfl)))) (HandOk.sp 19044 (HandOk.or (inHand_ok I16903_ok (by kernel_rfl)) (inHand_ok I16849_ok (by kernel_rfl))) (HandOk.or (inHand_ok I16966_ok (by kernel_rfl)) (inHand_ok I16914_ok (by kernel_rfl)))))))) (sumsHand_ok tab_CY1e_ok))
end Go.Proofs.YthgncmohimdbmaaGreatDoor.cy
