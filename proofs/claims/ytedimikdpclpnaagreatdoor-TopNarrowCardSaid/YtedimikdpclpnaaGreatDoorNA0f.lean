/-
  Contracts of calls, by the kernel.
-/
import Derived.Test.YtedimikdpclpnaaGreatDoorXN3
import Derived.Test.YtedimikdpclpnaaGreatDoorProg
import Derived.KernelRfl
import Derived.Test.YtedimikdpclpnaaGreatDoorNA0a
set_option linter.unusedSectionVars false
set_option linter.unusedVariables false
set_option maxRecDepth 1000000
set_option maxHeartbeats 0
namespace Go.Proofs.YtedimikdpclpnaaGreatDoor.na
open Go.X Go.RowKit
variable [Tab]
noncomputable def K_NA0f : Hand := Hand.none
theorem K_NA0f_ok : HandOk Tryz.prog K_NA0f := HandOk.none

noncomputable def S3100 : Sum := ⟨(.tup [(.so 12 0 6 1), zI]), 13, [(12, (.cells 6 true [] (T.ofList 0 .leaf [(.int .u16 79), (.int .u16 98), (.int .u16 106), (.int .u16 101), (.int .u16 99), (.int .u16 116)])))]⟩
theorem S3100_ok : SumOk Tryz.prog 181 [(.str 6 127970252055119)] S3100 := SumOk.of_run (K := K_NA0f) (n := 5000) (keep := [12]) mixed K_NA0f_ok (by kernel_rfl) (by as_aux_lemma => kernel_rfl)

noncomputable def S3082 : Sum := ⟨zI, 10, []⟩
theorem S3082_ok : SumOk Tryz.prog 306 [(.str 4 1735287148)] S3082 := SumOk.of_run (K := K_NA0f) (n := 5000) (keep := []) mixed K_NA0f_ok (by kernel_rfl) (by as_aux_lemma => kernel_rfl)

noncomputable def S3065 : Sum := ⟨zI, 10, []⟩
theorem S3065_ok : SumOk Tryz.prog 306 [(.str 4 1635148138)] S3065 := SumOk.of_run (K := K_NA0f) (n := 5000) (keep := []) mixed K_NA0f_ok (by kernel_rfl) (by as_aux_lemma => kernel_rfl)

noncomputable def S3057 : Sum := ⟨(.sl 0 0 3 3), 1, [(0, (.cells 3 false [zH] (T.ofList 0 .leaf [(.str 4 1635148138), (.str 4 1735287148), (.str 6 127970252055119)])))]⟩
theorem S3057_ok : SumOk Tryz.prog 402 [zG, (.str 1 47), zA, (.int .i64 (-1))] S3057 := SumOk.of_run (K := K_NA0f) (n := 5000) (keep := [0]) mixed K_NA0f_ok (by kernel_rfl) (by as_aux_lemma => kernel_rfl)

noncomputable def S3035 : Sum := ⟨zK, 8, []⟩
theorem S3035_ok : SumOk Tryz.prog 352 [zG, (.str 6 126909328748901), zCU] S3035 := SumOk.of_run (K := K_NA0f) (n := 5000) (keep := []) mixed K_NA0f_ok (by kernel_rfl) (by as_aux_lemma => kernel_rfl)

noncomputable def S2638 : Sum := ⟨(.tup [zG, (.so 14 0 8 3), zI]), 15, [(14, (.cells 24 true [] (T.ofList 0 .leaf [zAB, zBS, zE, zDZ, zCI, zE, zDZ, zEI, zE, zDZ, zEJ, zE, zDZ, zEK, zE, zDZ, zEL, zE, (.str 6 114849160783212), (.str 3 4794664), zE, zFV, zBE, zE])))]⟩
theorem S2638_ok : SumOk Tryz.prog 149 [zR] S2638 := SumOk.of_run (K := K_NA0f) (n := 5000) (keep := [14]) mixed K_NA0f_ok (by kernel_rfl) (by as_aux_lemma => kernel_rfl)

noncomputable def S2629 : Sum := ⟨(.tup [zG, (.so 10 0 10 3), zI]), 11, [(10, (.cells 30 true [] (T.ofList 0 .leaf [(.str 6 114849160783212), (.str 3 4794664), zE, (.str 6 127824440682595), (.str 4 1126779176), zE, (.str 6 127961628831587), zCX, zE, (.str 6 126909328748901), zCU, zE, (.str 6 121437607456361), zBE, zE, zFV, zBE, zE, zEY, zFL, zI, zEY, zFM, zI, zEY, zFN, zI, zEY, zFO, zI])))]⟩
theorem S2629_ok : SumOk Tryz.prog 149 [zX] S2629 := SumOk.of_run (K := K_NA0f) (n := 5000) (keep := [10]) mixed K_NA0f_ok (by kernel_rfl) (by as_aux_lemma => kernel_rfl)

noncomputable def S461 : Sum := ⟨(.so 28 0 13 3), 29, [(28, (.cells 39 true [] (T.ofList 0 .leaf [zDU, zW, zE, zDU, (.str 4 1445546280), zE, zDU, (.str 4 1445546536), zE, zDU, (.str 4 1445544744), zE, zDU, (.str 4 1445550632), zE, zDU, zCV, zE, zCG, zW, zE, zCG, (.str 4 1445546280), zE, zCG, (.str 4 1445546536), zE, zCG, (.str 4 1445544744), zE, zCG, (.str 4 1445550632), zE, zCG, zCV, zE, zCG, zBS, zE])))]⟩
theorem S461_ok : SumOk Tryz.prog 243 [zL] S461 := SumOk.of_run (K := K_NA0f) (n := 5000) (keep := [28]) mixed K_NA0f_ok (by kernel_rfl) (by as_aux_lemma => kernel_rfl)

noncomputable def I388 : In := ⟨341, [(.so 163 0 33 1), zD, zJ], 168, [(163, (.cells 33 true [] (T.ofList 0 .leaf [zL, zBK, zBL, zBU, zBM, zBF, zCB, zBD, zBN, zAR, zAW, zAM, zBO, zAY, zY, zAI, zBP, zAT, zBH, zBV, zBR, zBI, zG, zAK, zAD, zZ, zX, zR, zAQ, zCO, zAC, zAU, zCF])))], (.tup []), 168, [(163, (.cells 33 true [] (T.ofList 0 .leaf [zL, zBK, zBL, zAR, zBM, zBN, zBF, zBU, zBD, zCB, zAW, zAM, zBO, zAY, zY, zAI, zBP, zAT, zBH, zBV, zBR, zBI, zG, zAK, zAD, zZ, zX, zR, zAQ, zCO, zAC, zAU, zCF])))]⟩
theorem I388_ok : InOk Tryz.prog I388 := InOk.of_run (K := K_NA0f) (n := 5000) mixed K_NA0f_ok (by kernel_rfl) (by as_aux_lemma => kernel_rfl)

noncomputable def I234 : In := ⟨349, [(.so 163 0 33 1), zA, zFB, zBJ], 166, [q824], (.tup [zEE, zE]), 166, [(163, (.cells 33 true [] (T.ofList 0 .leaf [zBO, zAT, zBM, zBN, zL, zAY, zCB, zBD, zBL, zAM, zBU, zAR, zAW, zBF, zY, zAI, zBP, zBK, zBH, zBR, zBV, zBI, zAK, zG, zAD, zZ, zX, zR, zAQ, zCO, zAC, zAU, zCF])))]⟩
theorem I234_ok : InOk Tryz.prog I234 := InOk.of_run (K := K_NA0f) (n := 5000) mixed K_NA0f_ok (by kernel_rfl) (by as_aux_lemma => kernel_rfl)

noncomputable def I170 : In := ⟨341, [(.so 163 0 33 1), zEA, zAJ], 165, [q825], (.tup []), 165, [q824]⟩
theorem I170_ok : InOk Tryz.prog I170 := InOk.of_run (K := K_NA0f) (n := 5000) mixed K_NA0f_ok (by kernel_rfl) (by as_aux_lemma => kernel_rfl)

noncomputable def I104 : In := ⟨349, [(.so 163 0 33 1), zA, zAJ, zAH], 165, [q826], (.tup [zFB, zE]), 165, [q825]⟩
theorem I104_ok : InOk Tryz.prog I104 := InOk.of_run (K := K_NA0f) (n := 5000) mixed K_NA0f_ok (by kernel_rfl) (by as_aux_lemma => kernel_rfl)

noncomputable def S8 : Sum := ⟨(.so 75 0 28 2), 76, [(75, (.cells 56 true [] (T.ofList 0 .leaf [zAC, zG, zCB, zAC, zBD, zAC, zAD, zCB, zAM, zAD, zBU, zAI, zAU, zAI, zBH, zAI, zBF, zAI, zY, zAI, zAI, zBD, zCF, zAI, zBV, zY, zBR, zY, zBO, zY, zBK, zY, zBP, zY, zAW, zAI, zZ, zBD, zAK, zBD, zBL, zAD, zBI, zAD, zAR, zAM, zAY, zAD, zBN, zAD, zBM, zAD, zAT, zAD, zAQ, zAM])))]⟩
theorem S8_ok : SumOk Tryz.prog 147 [] S8 := SumOk.of_run (K := K_NA0f) (n := 5000) (keep := [75]) mixed K_NA0f_ok (by kernel_rfl) (by as_aux_lemma => kernel_rfl)

noncomputable def tab_NA0f : List (FuncId × SRows) := (147, [([], S8)]) :: (243, [([zL], S461)]) :: (149, [([zR], S2638), ([zX], S2629)]) :: (352, [([zG, (.str 6 126909328748901), zCU], S3035)]) :: (402, [([zG, (.str 1 47), zA, (.int .i64 (-1))], S3057)]) :: (306, [([(.str 4 1735287148)], S3082), ([(.str 4 1635148138)], S3065)]) :: (181, [([(.str 6 127970252055119)], S3100)]) :: []
theorem tab_NA0f_ok : TabOk Tryz.prog tab_NA0f := (TabOk.cons (RowsOk.cons S8_ok RowsOk.nil) (TabOk.cons (RowsOk.cons S461_ok RowsOk.nil) (TabOk.cons (RowsOk.cons S2638_ok (RowsOk.cons S2629_ok RowsOk.nil)) (TabOk.cons (RowsOk.cons S3035_ok RowsOk.nil) (TabOk.cons (RowsOk.cons S3057_ok RowsOk.nil) (TabOk.cons (RowsOk.cons S3082_ok (RowsOk.cons S3065_ok RowsOk.nil)) (TabOk.cons (RowsOk.cons S3100_ok RowsOk.nil) TabOk.nil)))))))
noncomputable def H_NA0f : Hand := (((Hand.at 349 ((inHand I104).or (inHand I234))).or (Hand.at 341 ((inHand I170).or (inHand I388)))).or (sumsHand tab_NA0f))
theorem H_NA0f_ok : HandOk Tryz.prog H_NA0f := (HandOk.or (HandOk.or (HandOk.at 349 (HandOk.or (inHand_ok I104_ok (by kernel_rfl)) (inHand_ok I234_ok (by kernel_rfl)))) (HandOk.at 341 (HandOk.or (inHand_ok I170_ok (by kernel_rfl)) (inHand_ok I388_ok (by kernel_rfl))))) (sumsHand_ok tab_NA0f_ok))
end Go.Proofs.YtedimikdpclpnaaGreatDoor.na
