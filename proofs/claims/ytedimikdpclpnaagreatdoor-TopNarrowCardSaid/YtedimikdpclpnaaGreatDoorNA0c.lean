/-
  Contracts of calls, by the kernel.
-/
import Derived.Test.YtedimikdpclpnaaGreatDoorXN3
import Derived.Test.YtedimikdpclpnaaGreatDoorProg
import Derived.KernelRfl
import Derived.Test.YtedimikdpclpnaaGreatDoorNA0a
set_option linter.unusedSectionVars false
set_option linter.unusedVariables false
set_option maxRecDepth 1000000
set_option maxHeartbeats 0
namespace Go.Proofs.YtedimikdpclpnaaGreatDoor.na
open Go.X Go.RowKit
variable [Tab]
noncomputable def K_NA0c : Hand := Hand.none
theorem K_NA0c_ok : HandOk Tryz.prog K_NA0c := HandOk.none

noncomputable def I7828 : In := ⟨47, [(.ptr 6982 0), (.str 7 20611760439312697), (.so 8572 0 5 1), zC], 8573, [q688, q689, q690, q691], zAG, 8579, [q684, q685, q686, q687]⟩
theorem I7828_ok : InOk Tryz.prog I7828 := InOk.of_run (K := K_NA0c) (n := 5000) mixed K_NA0c_ok (by kernel_rfl) (by as_aux_lemma => kernel_rfl)

noncomputable def I7825 : In := ⟨47, [(.ptr 6982 0), (.str 5 314510504814), (.so 8560 0 5 1), zC], 8561, [q692, q693, q694, q695], (.int .i64 51), 8567, [q688, q689, q690, q691]⟩
theorem I7825_ok : InOk Tryz.prog I7825 := InOk.of_run (K := K_NA0c) (n := 5000) mixed K_NA0c_ok (by kernel_rfl) (by as_aux_lemma => kernel_rfl)

noncomputable def I7820 : In := ⟨51, [(.ptr 6982 0), (.str 1 73)], 8552, [q692, q693, q695], (.int .i64 46), 8556, [q692, q693, q695]⟩
theorem I7820_ok : InOk Tryz.prog I7820 := InOk.of_run (K := K_NA0c) (n := 5000) mixed K_NA0c_ok (by kernel_rfl) (by as_aux_lemma => kernel_rfl)

noncomputable def I7819 : In := ⟨47, [(.ptr 6982 0), (.str 3 4813685), (.so 8545 0 5 1), zC], 8546, [(6982, (.cells 13 false [] (T.ofList 0 .leaf [(.so 8497 0 49 1), (.so 8499 0 49 1), (.so 8501 0 49 1), (.int .i64 50), zCN, zG, zAJ, zAG, .nils, .nils, zA, (.so 8531 0 356 1), zT]))), q696, q697, q698], (.int .i64 50), 8552, [q692, q693, q694, q695]⟩
theorem I7819_ok : InOk Tryz.prog I7819 := InOk.of_run (K := K_NA0c) (n := 5000) mixed K_NA0c_ok (by kernel_rfl) (by as_aux_lemma => kernel_rfl)

noncomputable def I7794 : In := ⟨47, [(.ptr 6982 0), (.str 5 315317448565), (.so 8495 0 7 1), zC], 8496, [q699, q700, q701, q702], (.int .i64 49), 8502, [(6982, (.cells 13 false [] (T.ofList 0 .leaf [(.so 8497 0 49 1), (.so 8499 0 49 1), (.so 8501 0 49 1), (.int .i64 50), zCN, zG, zAJ, zAG, .nils, .nils, zA, (.so 8330 0 312 1), zAH]))), q696, q697, q698]⟩
theorem I7794_ok : InOk Tryz.prog I7794 := InOk.of_run (K := K_NA0c) (n := 5000) mixed K_NA0c_ok (by kernel_rfl) (by as_aux_lemma => kernel_rfl)

noncomputable def I7763 : In := ⟨29, [(.ptr 6982 0), zJ, zDA, zAB, zBS], 8446, [q699, q700, q702], zJ, 8472, [q699, q700, q702]⟩
theorem I7763_ok : InOk Tryz.prog I7763 := InOk.of_run (K := K_NA0c) (n := 5000) mixed K_NA0c_ok (by kernel_rfl) (by as_aux_lemma => kernel_rfl)

noncomputable def I7753 : In := ⟨47, [(.ptr 6982 0), (.str 7 20611760523198777), (.so 8424 0 5 1), zC], 8425, [q703, q704, q705, q706], (.int .i64 48), 8431, [q699, q700, q701, q702]⟩
theorem I7753_ok : InOk Tryz.prog I7753 := InOk.of_run (K := K_NA0c) (n := 5000) mixed K_NA0c_ok (by kernel_rfl) (by as_aux_lemma => kernel_rfl)

noncomputable def I7750 : In := ⟨47, [(.ptr 6982 0), (.str 5 314510506094), (.so 8412 0 5 1), zC], 8413, [q707, q708, q709, q710], (.int .i64 47), 8419, [q703, q704, q705, q706]⟩
theorem I7750_ok : InOk Tryz.prog I7750 := InOk.of_run (K := K_NA0c) (n := 5000) mixed K_NA0c_ok (by kernel_rfl) (by as_aux_lemma => kernel_rfl)

noncomputable def I7747 : In := ⟨47, [(.ptr 6982 0), (.str 2 18805), (.so 8401 0 4 1), zC], 8402, [q711, q712, q713, q714], (.int .i64 46), 8408, [q707, q708, q709, q710]⟩
theorem I7747_ok : InOk Tryz.prog I7747 := InOk.of_run (K := K_NA0c) (n := 5000) mixed K_NA0c_ok (by kernel_rfl) (by as_aux_lemma => kernel_rfl)

noncomputable def I7742 : In := ⟨51, [(.ptr 6982 0), (.str 2 18808)], 8388, [(6982, (.cells 13 false [] (T.ofList 0 .leaf [(.so 8296 0 44 1), (.so 8298 0 44 1), (.so 8300 0 44 1), (.int .i64 45), zCN, zG, zAJ, zAG, .nils, .nils, zA, (.so 8330 0 312 1), zAH]))), q715, q716, q717], (.int .i64 45), 8398, [q711, q624, q712, q713, q714]⟩
theorem I7742_ok : InOk Tryz.prog I7742 := InOk.of_run (K := K_NA0c) (n := 5000) mixed K_NA0c_ok (by kernel_rfl) (by as_aux_lemma => kernel_rfl)

noncomputable def I7725 : In := ⟨28, [(.ptr 6868 0), zT, (.str 2 18803), (.str 1 73)], 8359, [q718, q719, q720, q721, q722], (.tup []), 8381, [q640, q681, q641, q642, q643, q682]⟩
theorem I7725_ok : InOk Tryz.prog I7725 := InOk.of_run (K := K_NA0c) (n := 5000) mixed K_NA0c_ok (by kernel_rfl) (by as_aux_lemma => kernel_rfl)

noncomputable def I7715 : In := ⟨28, [(.ptr 6868 0), zC, (.str 2 18808), (.str 1 73)], 8331, [(6868, (.cells 13 false [] (T.ofList 0 .leaf [(.so 8041 0 19 1), (.so 8043 0 19 1), (.so 8045 0 19 1), zER, zDA, zG, zAJ, zAG, .nils, (.so 8055 0 64 1), zAH, (.so 6980 0 31 1), zC]))), (8041, (.cells 19 true [] (T.ofList 0 .leaf [zFQ, zGE, zBW, zCP, zAV, zFE, zCM, zDO, zEF, zDY, zEM, zFC, zEW, zFF, zFX, zFR, zGC, (.str 2 23157), (.str 3 5927797)]))), (8043, (.cells 19 true [] (T.ofList 0 .leaf [(.so 6873 0 19 1), (.so 6882 0 3 1), (.so 6892 0 9 1), (.so 6902 0 6 1), (.so 6913 0 5 1), (.so 6925 0 5 1), (.so 6968 0 7 1), (.so 6988 0 5 1), (.so 7000 0 4 1), (.so 7016 0 5 1), (.so 7361 0 5 1), (.so 7373 0 4 1), (.so 7389 0 5 1), (.so 7686 0 5 1), (.so 7698 0 4 1), (.so 7714 0 5 1), (.so 8011 0 5 1), (.so 8023 0 4 1), (.so 8039 0 5 1)]))), (8045, (.cells 19 true [] (T.ofList 0 .leaf [zC, zK, zD, zF, zBG, zN, zAL, zAH, zT, zJ, zDL, zBJ, zAZ, zBT, zCH, zBZ, zBX, zEE, zEO]))), (8055, (.cells 64 true [] (T.ofList 0 .leaf [zB, zM, zB, zEB, zB, zAN, zB, zB, zB, zAN, zB, zCJ, zB, zAN, zB, zB, zB, zM, zB, (.int .u8 11), zB, zAP, zB, zB, zB, zAN, zB, zCA, zB, zAP, zB, zB, zB, zM, zB, (.int .u8 14), zB, (.int .u8 15), zB, zB, zB, zAN, zB, zEV, zB, (.int .u8 15), zB, zB, zB, zM, zB, (.int .u8 17), zB, zDM, zB, zB, zB, zAN, zB, (.int .u8 19), zB, zDM, zB, zB])))], (.tup []), 8359, [q718, q679, q680, q719, q720, q721, q722]⟩
theorem I7715_ok : InOk Tryz.prog I7715 := InOk.of_run (K := K_NA0c) (n := 5000) mixed K_NA0c_ok (by kernel_rfl) (by as_aux_lemma => kernel_rfl)

noncomputable def I7698 : In := ⟨51, [(.ptr 6982 0), (.str 4 1517188975)], 8291, [q723, q724, q725, q726], (.int .i64 44), 8301, [(6982, (.cells 13 false [] (T.ofList 0 .leaf [(.so 8296 0 44 1), (.so 8298 0 44 1), (.so 8300 0 44 1), (.int .i64 45), zCN, zG, zAJ, zAG, .nils, .nils, zA, (.so 8206 0 278 1), zAL]))), q623, q715, q716, q717]⟩
theorem I7698_ok : InOk Tryz.prog I7698 := InOk.of_run (K := K_NA0c) (n := 5000) mixed K_NA0c_ok (by kernel_rfl) (by as_aux_lemma => kernel_rfl)

noncomputable def I7674 : In := ⟨29, [(.ptr 6982 0), zT, zDA, (.str 2 23155), (.str 1 90)], 8257, [q723, q724, q726], zCZ, 8283, [q723, q724, q726]⟩
theorem I7674_ok : InOk Tryz.prog I7674 := InOk.of_run (K := K_NA0c) (n := 5000) mixed K_NA0c_ok (by kernel_rfl) (by as_aux_lemma => kernel_rfl)

noncomputable def I7652 : In := ⟨29, [(.ptr 6982 0), zT, zDA, (.str 2 23155), (.str 1 90)], 8210, [q727, q728, q729, q730], zCZ, 8254, [q723, q620, q621, q622, q724, q725, q726]⟩
theorem I7652_ok : InOk Tryz.prog I7652 := InOk.of_run (K := K_NA0c) (n := 5000) mixed K_NA0c_ok (by kernel_rfl) (by as_aux_lemma => kernel_rfl)

noncomputable def I7632 : In := ⟨25, [(.ptr 6982 0), zT, (.str 4 1516921455), zCC, zD, zK, (.so 8165 0 18 1), .nils, .nils], 8166, [q731, q732, q733, q734, q735, q736], (.tup []), 8207, [q727, q736, q619, q728, q729, q730, (8206, (.cells 278 true [] (T.ofList 0 .leaf [zB, zAN, zB, (.int .u8 11), zB, zAP, zB, zM, zB, zCA, zB, zB, zB, zCT, zB, zDS, zB, zAE, zB, zB, zB, zDM, zDH, zB, zAE, zDQ, zCR, zB, zCJ, zBQ, zAX, zBB, zDI, zB, zFA, zAX, zDJ, zB, zFA, zBC, zB, zB, zB, zB, zB, zAN, zB, (.int .u8 17), zB, zAP, zB, zM, zB, zCA, zB, zB, zB, zEQ, zB, zM, zB, zM, zB, zB, zB, zEB, zBB, zDF, zB, zEV, zDG, zB, zEV, zBC, zB, zB, zB, zB, zB, zAN, zB, (.int .u8 22), zB, zAP, zB, zM, zB, zCA, zB, zB, zB, zCT, zB, zDS, zB, zAE, zB, zB, zB, zDM, zDH, zB, zAE, zDQ, zCR, zB, zCJ, zBQ, zAX, zBB, zDI, zB, (.int .u8 21), zAX, zDJ, zB, (.int .u8 21), zBC, zB, zB, zB, zB, zB, zAN, zB, zBB, zB, zAP, zB, zM, zB, zCA, zB, zB, zB, zEQ, zB, zM, zB, zM, zB, zB, zB, zEB, zBB, zDF, zB, (.int .u8 25), zDG, zB, (.int .u8 25), zBC, zB, zB, zB, zB, zB, zAN, zB, (.int .u8 31), zB, zAP, zB, zM, zB, zCA, zB, zB, zB, zCT, zB, zDS, zB, zAE, zB, zB, zB, zDM, zDH, zB, zAE, zDQ, zCR, zB, zCJ, zBQ, zAX, zBB, zDI, zB, zCT, zAX, zDJ, zB, zCT, zBC, zB, zB, zB, zB, zB, zAN, zB, (.int .u8 35), zB, zAP, zB, zM, zB, zCA, zB, zB, zB, zEQ, zB, zM, zB, zM, zB, zB, zB, zEB, zBB, zDF, zB, (.int .u8 34), zDG, zB, (.int .u8 34), zBC, zB, zB, zB, zB, zB, zAN, zB, (.int .u8 40), zB, zAP, zB, zM, zB, zCA, zB, zB, zB, zCT, zB, zDS, zB, zAE, zB, zB, zB, zDM, zDH, zB, zAE, zDQ, zCR, zB, zCJ, zBQ, zAX, zBB, zDI, zB, (.int .u8 39), zAX, zDJ, zB, (.int .u8 39), zBC, zB, zB, zB, zB])))]⟩
theorem I7632_ok : InOk Tryz.prog I7632 := InOk.of_run (K := K_NA0c) (n := 5000) mixed K_NA0c_ok (by kernel_rfl) (by as_aux_lemma => kernel_rfl)

noncomputable def I7605 : In := ⟨29, [(.ptr 6982 0), zJ, zDA, zAB, zBS], 8121, [q731, q733, q735], zJ, 8147, [q731, q733, q735]⟩
theorem I7605_ok : InOk Tryz.prog I7605 := InOk.of_run (K := K_NA0c) (n := 5000) mixed K_NA0c_ok (by kernel_rfl) (by as_aux_lemma => kernel_rfl)
noncomputable def H_NA0c : Hand := ((Hand.at 25 (inHand I7632)).or ((Hand.at 28 ((inHand I7715).or (inHand I7725))).or ((Hand.at 29 (Hand.sp 8257 ((inHand I7652).or (inHand I7605)) ((inHand I7763).or (inHand I7674)))).or ((Hand.at 51 (Hand.sp 8388 (inHand I7698) ((inHand I7820).or (inHand I7742)))).or (Hand.at 47 (Hand.sp 8496 (Hand.sp 8413 (inHand I7747) ((inHand I7753).or (inHand I7750))) (Hand.sp 8561 ((inHand I7819).or (inHand I7794)) ((inHand I7828).or (inHand I7825)))))))))
theorem H_NA0c_ok : HandOk Tryz.prog H_NA0c := (HandOk.or (HandOk.at 25 (inHand_ok I7632_ok (by kernel_rfl))) (HandOk.or (HandOk.at 28 (HandOk.or (inHand_ok I7715_ok (by kernel_rfl)) (inHand_ok I7725_ok (by kernel_rfl)))) (HandOk.or (HandOk.at 29 (HandOk.sp 8257 (HandOk.or (inHand_ok I7652_ok (by kernel_rfl)) (inHand_ok I7605_ok (by kernel_rfl))) (HandOk.or (inHand_ok I7763_ok (by kernel_rfl)) (inHand_ok I7674_ok (by kernel_rfl))))) (HandOk.or (HandOk.at 51 (HandOk.sp 8388 (inHand_ok I7698_ok (by kernel_rfl)) (HandOk.or (inHand_ok I7820_ok (by kernel_rfl)) (inHand_ok I7742_ok (by kernel_rfl))))) (HandOk.at 47 (HandOk.sp 8496 (HandOk.sp 8413 (inHand_ok I7747_ok (by kernel_rfl)) (HandOk.or (inHand_ok I7753_ok (by kernel_rfl)) (inHand_ok I7750_ok (by kernel_rfl)))) (HandOk.sp 8561 (HandOk.or (inHand_ok I7819_ok (by kernel_rfl)) (inHand_ok I7794_ok (by kernel_rfl))) (HandOk.or (inHand_ok I7828_ok (by kernel_rfl)) (inHand_ok I7825_ok (by kernel_rfl))))))))))
end Go.Proofs.YtedimikdpclpnaaGreatDoor.na
