/-
  Contracts of calls, by the kernel.
-/
import Derived.Test.YtedimikdpclpnaaGreatDoorXN3
import Derived.Test.YtedimikdpclpnaaGreatDoorProg
import Derived.KernelRfl
import Derived.Test.YtedimikdpclpnaaGreatDoorNA0a
import Derived.Test.YtedimikdpclpnaaGreatDoorNA0b
import Derived.Test.YtedimikdpclpnaaGreatDoorNA0e
import Derived.Test.YtedimikdpclpnaaGreatDoorNA0f
set_option linter.unusedSectionVars false
set_option linter.unusedVariables false
set_option maxRecDepth 1000000
set_option maxHeartbeats 0
namespace Go.Proofs.YtedimikdpclpnaaGreatDoor.na
open Go.X Go.RowKit
variable [Tab]
noncomputable def K_NA1h : Hand := ((H_NA0f).or ((H_NA0e).or H_NA0b))
theorem K_NA1h_ok : HandOk Tryz.prog K_NA1h := (HandOk.or H_NA0f_ok (HandOk.or H_NA0e_ok H_NA0b_ok))

noncomputable def I15764 : In := ⟨50, [(.ptr 6982 0)], 16389, [q576, q580, q581, q582, q583, q584, q585, q586, q587, q588, q589, q590, q591, q592, q593, q594, q595, q596, q597, q598, q599, q600, q601, q602, q603, q604, q605, q606, q607, q608, q609, q610, q611, q612, q613, q614, q615, q616, q617, q618, q619, q620, q621, q622, q623, q624, q625, q626, q627, q628, q629, q630, q631, q632, q577, q578, q579, q633], (.so 16501 0 729 1), 16502, [q567, q580, q581, q582, q583, q584, q585, q586, q587, q588, q589, q590, q591, q592, q593, q594, q595, q596, q597, q598, q599, q600, q601, q602, q603, q604, q605, q606, q607, q608, q609, q610, q611, q612, q613, q614, q615, q616, q617, q618, q619, q620, q621, q622, q623, q624, q625, q626, q627, q628, q629, q630, q631, q632, q633, (16501, (.cells 729 true [] (T.ofList 0 .leaf [(.int .u8 202), (.int .u8 254), (.int .u8 186), (.int .u8 190), zB, zB, zB, (.int .u8 52), zB, (.int .u8 58), zM, zB, zM, (.int .u8 65), (.int .u8 7), zB, zM, zM, zB, zAE, zFS, (.int .u8 66), zM, zB, zM, (.int .u8 66), zAP, zB, zDS, zB, zDB, zAN, zB, zAE, zB, (.int .u8 5), zM, zB, zFA, (.int .u8 60), (.int .u8 105), zFW, (.int .u8 105), (.int .u8 116), (.int .u8 62), zM, zB, zDS, (.int .u8 40), (.int .u8 41), (.int .u8 86), zAP, zB, (.int .u8 7), zB, zEB, zCJ, zB, zAE, zB, zAN, zM, zB, zDB, zDW, (.int .u8 98), zGB, (.int .u8 66), zM, zB, zDB, (.int .u8 40), zBY, (.int .u8 41), zBY, zM, zB, zDB, zFH, zDW, (.int .u8 100), (.int .u8 101), zM, zB, zAE, zFT, (.int .u8 66), zAP, zB, (.int .u8 14), zB, zDB, zAN, zB, zAE, zB, (.int .u8 15), zM, zB, zDB, zDW, (.int .u8 119), zFW, (.int .u8 66), zM, zB, zAE, zFS, (.int .u8 83), zM, zB, zM, (.int .u8 83), zAP, zB, zDM, zB, (.int .u8 19), zAN, zB, zAE, zB, zEQ, zM, zB, zDB, zDW, (.int .u8 98), zGB, (.int .u8 83), zM, zB, zAE, zFT, (.int .u8 83), zAP, zB, (.int .u8 23), zB, (.int .u8 19), zAN, zB, zAE, zB, (.int .u8 24), zM, zB, zDB, zDW, (.int .u8 119), zFW, (.int .u8 83), zM, zB, zAE, zFS, zFH, zM, zB, zM, zFH, zAP, zB, (.int .u8 27), zB, (.int .u8 28), zAN, zB, zAE, zB, (.int .u8 29), zM, zB, zDB, zDW, (.int .u8 98), zGB, zFH, zM, zB, zAE, zFT, zFH, zAP, zB, (.int .u8 32), zB, (.int .u8 28), zAN, zB, zAE, zB, (.int .u8 33), zM, zB, zDB, zDW, (.int .u8 119), zFW, zFH, zM, zB, zAE, zFS, (.int .u8 90), zM, zB, zM, (.int .u8 90), zAP, zB, (.int .u8 36), zB, (.int .u8 37), zAN, zB, zAE, zB, (.int .u8 38), zM, zB, zDB, zDW, (.int .u8 98), zGB, (.int .u8 90), zM, zB, zAE, zFT, (.int .u8 90), zAP, zB, (.int .u8 41), zB, (.int .u8 37), zAN, zB, zAE, zB, (.int .u8 42), zM, zB, zDB, zDW, (.int .u8 119), zFW, (.int .u8 90), zM, zB, zAE, zFS, zBY, zM, zB, zM, zBY, zAP, zB, (.int .u8 45), zB, (.int .u8 46), zAN, zB, zAE, zB, (.int .u8 47), zM, zB, zDB, zDW, (.int .u8 98), zGB, zBY, zM, zB, zAE, zFT, zBY, zAP, zB, (.int .u8 50), zB, (.int .u8 46), zAN, zB, zAE, zB, (.int .u8 51), zM, zB, zDB, zDW, (.int .u8 119), zFW, zBY, zM, zB, zM, (.int .u8 77), (.int .u8 7), zB, (.int .u8 54), zM, zB, zEV, zGB, (.int .u8 97), (.int .u8 118), (.int .u8 97), (.int .u8 47), (.int .u8 108), (.int .u8 97), zFW, (.int .u8 103), (.int .u8 47), (.int .u8 79), (.int .u8 98), zGB, (.int .u8 101), (.int .u8 99), (.int .u8 116), (.int .u8 7), zB, (.int .u8 56), zB, (.int .u8 33), zB, (.int .u8 55), zB, (.int .u8 57), zB, zB, zB, zB, zB, zCJ, zB, zAN, zB, (.int .u8 11), zB, zAP, zB, zM, zB, zCA, zB, zB, zB, zCT, zB, zDS, zB, zAE, zB, zB, zB, zDM, zDH, zB, zAE, zDQ, zCR, zB, zCJ, zBQ, zAX, zBB, zDI, zB, zFA, zAX, zDJ, zB, zFA, zBC, zB, zB, zB, zB, zB, zAN, zB, (.int .u8 17), zB, zAP, zB, zM, zB, zCA, zB, zB, zB, zEQ, zB, zM, zB, zM, zB, zB, zB, zEB, zBB, zDF, zB, zEV, zDG, zB, zEV, zBC, zB, zB, zB, zB, zB, zAN, zB, (.int .u8 22), zB, zAP, zB, zM, zB, zCA, zB, zB, zB, zCT, zB, zDS, zB, zAE, zB, zB, zB, zDM, zDH, zB, zAE, zDQ, zCR, zB, zCJ, zBQ, zAX, zBB, zDI, zB, (.int .u8 21), zAX, zDJ, zB, (.int .u8 21), zBC, zB, zB, zB, zB, zB, zAN, zB, zBB, zB, zAP, zB, zM, zB, zCA, zB, zB, zB, zEQ, zB, zM, zB, zM, zB, zB, zB, zEB, zBB, zDF, zB, (.int .u8 25), zDG, zB, (.int .u8 25), zBC, zB, zB, zB, zB, zB, zAN, zB, (.int .u8 31), zB, zAP, zB, zM, zB, zCA, zB, zB, zB, zCT, zB, zDS, zB, zAE, zB, zB, zB, zDM, zDH, zB, zAE, zDQ, zCR, zB, zCJ, zBQ, zAX, zBB, zDI, zB, zCT, zAX, zDJ, zB, zCT, zBC, zB, zB, zB, zB, zB, zAN, zB, (.int .u8 35), zB, zAP, zB, zM, zB, zCA, zB, zB, zB, zEQ, zB, zM, zB, zM, zB, zB, zB, zEB, zBB, zDF, zB, (.int .u8 34), zDG, zB, (.int .u8 34), zBC, zB, zB, zB, zB, zB, zAN, zB, (.int .u8 40), zB, zAP, zB, zM, zB, zCA, zB, zB, zB, zCT, zB, zDS, zB, zAE, zB, zB, zB, zDM, zDH, zB, zAE, zDQ, zCR, zB, zCJ, zBQ, zAX, zBB, zDI, zB, (.int .u8 39), zAX, zDJ, zB, (.int .u8 39), zBC, zB, zB, zB, zB, zB, zAN, zB, (.int .u8 44), zB, zAP, zB, zM, zB, zCA, zB, zB, zB, zEQ, zB, zM, zB, zM, zB, zB, zB, zEB, zBB, zDF, zB, zAX, zDG, zB, zAX, zBC, zB, zB, zB, zB, zB, zAN, zB, (.int .u8 49), zB, zAP, zB, zM, zB, zCA, zB, zB, zB, zCT, zB, zDS, zB, zAE, zB, zB, zB, zDM, zDH, zB, zAE, zDQ, zCR, zB, zCJ, zBQ, zAX, zBB, zDI, zB, (.int .u8 48), zAX, zDJ, zB, (.int .u8 48), zBC, zB, zB, zB, zB, zB, zAN, zB, (.int .u8 53), zB, zAP, zB, zM, zB, zCA, zB, zB, zB, zEQ, zB, zM, zB, zM, zB, zB, zB, zEB, zBB, zDF, zB, (.int .u8 52), zDG, zB, (.int .u8 52), zBC, zB, zB, zB, zB, zB, zB])))]⟩
theorem I15764_ok : InOk Tryz.prog I15764 := InOk.of_run (K := K_NA1h) (n := 5000) mixed K_NA1h_ok (by kernel_rfl) (by as_aux_lemma => kernel_rfl)

noncomputable def I15689 : In := ⟨293, [(.so 16259 0 5 1)], 16260, [q89], (.tup [(.so 16325 0 3 8), zI]), 16326, [q89, (16325, (.cells 24 true [] (T.ofList 0 .leaf [zA, zC, (.int .i64 42), zE, zA, zA, .nils, .nils, zC, zD, zED, zE, zN, zA, .nils, .nils, zF, zC, (.int .i64 177), zE, zA, zA, .nils, .nils])))]⟩
theorem I15689_ok : InOk Tryz.prog I15689 := InOk.of_run (K := K_NA1h) (n := 5000) mixed K_NA1h_ok (by kernel_rfl) (by as_aux_lemma => kernel_rfl)

noncomputable def I14918 : In := ⟨277, [(.ptr 15564 0)], 15965, [q635, q638, (15563, (.cells 8 false [] (T.ofList 0 .leaf [zAG, (.sl 15565 0 25 25), zA, zH, zH, .nils, .nils, .nils]))), q637, q103], (.tup []), 16005, [q635, (15562, (.cells 3 false [] (T.ofList 0 .leaf [(.so 15561 0 258 1), (.int .i64 141), zE]))), (15563, (.cells 8 false [] (T.ofList 0 .leaf [zAG, (.sl 15565 0 25 25), zAJ, zDA, zG, .nils, .nils, .nils]))), q637, q103]⟩
theorem I14918_ok : InOk Tryz.prog I14918 := InOk.of_run (K := K_NA1h) (n := 5000) mixed K_NA1h_ok (by kernel_rfl) (by as_aux_lemma => kernel_rfl)

noncomputable def I14452 : In := ⟨275, [(.ptr 15562 0)], 15565, [q635, q639], (.tup [(.sl 15565 0 25 25), zI]), 15965, [q635, q638, q103]⟩
theorem I14452_ok : InOk Tryz.prog I14452 := InOk.of_run (K := K_NA1h) (n := 5000) mixed K_NA1h_ok (by kernel_rfl) (by as_aux_lemma => kernel_rfl)

noncomputable def I6558 : In := ⟨167, [(.ptr 3256 0), (.so 6838 0 4 1)], 6841, [q796, (6725, (.cells 1 true [] (T.ofList 0 .leaf [zBQ]))), (6821, (.cells 1 true [] (T.ofList 0 .leaf [zBQ]))), q797, q798, q799, q803], (.tup [(.map 6851), zAH]), 6859, [q801, (6725, (.cells 1 true [] (T.ofList 0 .leaf [zBQ]))), (6821, (.cells 1 true [] (T.ofList 0 .leaf [zBQ]))), q797, q798, q799, q803, q802]⟩
theorem I6558_ok : InOk Tryz.prog I6558 := InOk.of_run (K := K_NA1h) (n := 5000) mixed K_NA1h_ok (by kernel_rfl) (by as_aux_lemma => kernel_rfl)

noncomputable def S6149 : Sum := ⟨(.int .i64 35), 74, []⟩
theorem S6149_ok : SumOk Tryz.prog 352 [zL, zCG, zBS] S6149 := SumOk.of_run (K := K_NA1h) (n := 5000) (keep := []) mixed K_NA1h_ok (by kernel_rfl) (by as_aux_lemma => kernel_rfl)

noncomputable def S6042 : Sum := ⟨zFJ, 73, []⟩
theorem S6042_ok : SumOk Tryz.prog 352 [zL, zCG, zCV] S6042 := SumOk.of_run (K := K_NA1h) (n := 5000) (keep := []) mixed K_NA1h_ok (by kernel_rfl) (by as_aux_lemma => kernel_rfl)

noncomputable def S6007 : Sum := ⟨zAJ, 72, []⟩
theorem S6007_ok : SumOk Tryz.prog 352 [zL, zCG, (.str 4 1445550632)] S6007 := SumOk.of_run (K := K_NA1h) (n := 5000) (keep := []) mixed K_NA1h_ok (by kernel_rfl) (by as_aux_lemma => kernel_rfl)

noncomputable def S5973 : Sum := ⟨(.int .i64 32), 71, []⟩
theorem S5973_ok : SumOk Tryz.prog 352 [zL, zCG, (.str 4 1445544744)] S5973 := SumOk.of_run (K := K_NA1h) (n := 5000) (keep := []) mixed K_NA1h_ok (by kernel_rfl) (by as_aux_lemma => kernel_rfl)

noncomputable def S5940 : Sum := ⟨(.int .i64 31), 70, []⟩
theorem S5940_ok : SumOk Tryz.prog 352 [zL, zCG, (.str 4 1445546536)] S5940 := SumOk.of_run (K := K_NA1h) (n := 5000) (keep := []) mixed K_NA1h_ok (by kernel_rfl) (by as_aux_lemma => kernel_rfl)

noncomputable def S5908 : Sum := ⟨zS, 69, []⟩
theorem S5908_ok : SumOk Tryz.prog 352 [zL, zCG, (.str 4 1445546280)] S5908 := SumOk.of_run (K := K_NA1h) (n := 5000) (keep := []) mixed K_NA1h_ok (by kernel_rfl) (by as_aux_lemma => kernel_rfl)

noncomputable def S5806 : Sum := ⟨zFU, 68, []⟩
theorem S5806_ok : SumOk Tryz.prog 352 [zL, zCG, zW] S5806 := SumOk.of_run (K := K_NA1h) (n := 5000) (keep := []) mixed K_NA1h_ok (by kernel_rfl) (by as_aux_lemma => kernel_rfl)

noncomputable def S5723 : Sum := ⟨(.tup [(.so 40 0 1 4), (.agg [(.int .u8 86), zH, zA, zB]), zI]), 41, [q818]⟩
theorem S5723_ok : SumOk Tryz.prog 78 [zCV] S5723 := SumOk.of_run (K := K_NA1h) (n := 5000) (keep := [40]) mixed K_NA1h_ok (by kernel_rfl) (by as_aux_lemma => kernel_rfl)

noncomputable def tab_NA1h : List (FuncId × SRows) := (78, [([zCV], S5723)]) :: (352, [([zL, zCG, zBS], S6149), ([zL, zCG, zCV], S6042), ([zL, zCG, (.str 4 1445550632)], S6007), ([zL, zCG, (.str 4 1445544744)], S5973), ([zL, zCG, (.str 4 1445546536)], S5940), ([zL, zCG, (.str 4 1445546280)], S5908), ([zL, zCG, zW], S5806)]) :: []
theorem tab_NA1h_ok : TabOk Tryz.prog tab_NA1h := (TabOk.cons (RowsOk.cons S5723_ok RowsOk.nil) (TabOk.cons (RowsOk.cons S6149_ok (RowsOk.cons S6042_ok (RowsOk.cons S6007_ok (RowsOk.cons S5973_ok (RowsOk.cons S5940_ok (RowsOk.cons S5908_ok (RowsOk.cons S5806_ok RowsOk.nil))))))) TabOk.nil))
noncomputable def H_NA1h : Hand := (((Hand.at 167 (inHand I6558)).or ((Hand.at 275 (inHand I14452)).or ((Hand.at 277 (inHand I14918)).or ((Hand.at 293 (inHand I15689)).or (Hand.at 50 (inHand I15764)))))).or (sumsHand tab_NA1h))
theorem H_NA1h_ok : HandOk Tryz.prog H_NA1h := (HandOk.or (HandOk.or (HandOk.at 167 (inHand_ok I6558_ok (by kernel_rfl))) (HandOk.or (HandOk.at 275 (inHand_ok I14452_ok (by kernel_rfl))) (HandOk.or (HandOk.at 277 (inHand_ok I14918_ok (by kernel_rfl))) (HandOk.or (HandOk.at 293 (inHand_ok I15689_ok (by kernel_rfl))) (HandOk.at 50 (inHand_ok I15764_ok (by kernel_rfl))))))) (sumsHand_ok tab_NA1h_ok))
end Go.Proofs.YtedimikdpclpnaaGreatDoor.na
