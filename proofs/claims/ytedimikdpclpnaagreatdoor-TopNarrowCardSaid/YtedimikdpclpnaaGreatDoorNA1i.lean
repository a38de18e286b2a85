/-
  Contracts of calls, by the kernel.
-/
import Derived.Test.YtedimikdpclpnaaGreatDoorXN3
import Derived.Test.YtedimikdpclpnaaGreatDoorProg
import Derived.KernelRfl
import Derived.Test.YtedimikdpclpnaaGreatDoorNA0a
import Derived.Test.YtedimikdpclpnaaGreatDoorNA0e
import Derived.Test.YtedimikdpclpnaaGreatDoorNA0f
set_option linter.unusedSectionVars false
set_option linter.unusedVariables false
set_option maxRecDepth 1000000
set_option maxHeartbeats 0
namespace Go.Proofs.YtedimikdpclpnaaGreatDoor.na
open Go.X Go.RowKit
variable [Tab]
noncomputable def K_NA1i : Hand := ((H_NA0f).or H_NA0e)
theorem K_NA1i_ok : HandOk Tryz.prog K_NA1i := (HandOk.or H_NA0f_ok H_NA0e_ok)

noncomputable def S5705 : Sum := ⟨zGA, 67, []⟩
theorem S5705_ok : SumOk Tryz.prog 352 [zL, zDU, zCV] S5705 := SumOk.of_run (K := K_NA1i) (n := 5000) (keep := []) mixed K_NA1i_ok (by kernel_rfl) (by as_aux_lemma => kernel_rfl)

noncomputable def S5676 : Sum := ⟨zFZ, 66, []⟩
theorem S5676_ok : SumOk Tryz.prog 352 [zL, zDU, (.str 4 1445550632)] S5676 := SumOk.of_run (K := K_NA1i) (n := 5000) (keep := []) mixed K_NA1i_ok (by kernel_rfl) (by as_aux_lemma => kernel_rfl)

noncomputable def S5648 : Sum := ⟨zCY, 65, []⟩
theorem S5648_ok : SumOk Tryz.prog 352 [zL, zDU, (.str 4 1445544744)] S5648 := SumOk.of_run (K := K_NA1i) (n := 5000) (keep := []) mixed K_NA1i_ok (by kernel_rfl) (by as_aux_lemma => kernel_rfl)

noncomputable def S5621 : Sum := ⟨zEA, 64, []⟩
theorem S5621_ok : SumOk Tryz.prog 352 [zL, zDU, (.str 4 1445546536)] S5621 := SumOk.of_run (K := K_NA1i) (n := 5000) (keep := []) mixed K_NA1i_ok (by kernel_rfl) (by as_aux_lemma => kernel_rfl)

noncomputable def S5595 : Sum := ⟨zFB, 63, []⟩
theorem S5595_ok : SumOk Tryz.prog 352 [zL, zDU, (.str 4 1445546280)] S5595 := SumOk.of_run (K := K_NA1i) (n := 5000) (keep := []) mixed K_NA1i_ok (by kernel_rfl) (by as_aux_lemma => kernel_rfl)

noncomputable def S5499 : Sum := ⟨zCL, 62, []⟩
theorem S5499_ok : SumOk Tryz.prog 352 [zL, zDU, zW] S5499 := SumOk.of_run (K := K_NA1i) (n := 5000) (keep := []) mixed K_NA1i_ok (by kernel_rfl) (by as_aux_lemma => kernel_rfl)

noncomputable def S5398 : Sum := ⟨zEH, 39, []⟩
theorem S5398_ok : SumOk Tryz.prog 352 [zR, zFV, zBE] S5398 := SumOk.of_run (K := K_NA1i) (n := 5000) (keep := []) mixed K_NA1i_ok (by kernel_rfl) (by as_aux_lemma => kernel_rfl)

noncomputable def S5370 : Sum := ⟨zER, 38, []⟩
theorem S5370_ok : SumOk Tryz.prog 352 [zR, (.str 6 114849160783212), (.str 3 4794664)] S5370 := SumOk.of_run (K := K_NA1i) (n := 5000) (keep := []) mixed K_NA1i_ok (by kernel_rfl) (by as_aux_lemma => kernel_rfl)

noncomputable def S5271 : Sum := ⟨zEO, 37, []⟩
theorem S5271_ok : SumOk Tryz.prog 352 [zR, zDZ, zEL] S5271 := SumOk.of_run (K := K_NA1i) (n := 5000) (keep := []) mixed K_NA1i_ok (by kernel_rfl) (by as_aux_lemma => kernel_rfl)

noncomputable def S5173 : Sum := ⟨zEE, 36, []⟩
theorem S5173_ok : SumOk Tryz.prog 352 [zR, zDZ, zEK] S5173 := SumOk.of_run (K := K_NA1i) (n := 5000) (keep := []) mixed K_NA1i_ok (by kernel_rfl) (by as_aux_lemma => kernel_rfl)

noncomputable def S5076 : Sum := ⟨zBX, 35, []⟩
theorem S5076_ok : SumOk Tryz.prog 352 [zR, zDZ, zEJ] S5076 := SumOk.of_run (K := K_NA1i) (n := 5000) (keep := []) mixed K_NA1i_ok (by kernel_rfl) (by as_aux_lemma => kernel_rfl)

noncomputable def S4980 : Sum := ⟨zBZ, 34, []⟩
theorem S4980_ok : SumOk Tryz.prog 352 [zR, zDZ, zEI] S4980 := SumOk.of_run (K := K_NA1i) (n := 5000) (keep := []) mixed K_NA1i_ok (by kernel_rfl) (by as_aux_lemma => kernel_rfl)

noncomputable def S4916 : Sum := ⟨zI, 50, []⟩
theorem S4916_ok : SumOk Tryz.prog 179 [zR] S4916 := SumOk.of_run (K := K_NA1i) (n := 5000) (keep := []) mixed K_NA1i_ok (by kernel_rfl) (by as_aux_lemma => kernel_rfl)

noncomputable def S4814 : Sum := ⟨zCH, 33, []⟩
theorem S4814_ok : SumOk Tryz.prog 352 [zR, zDZ, zCI] S4814 := SumOk.of_run (K := K_NA1i) (n := 5000) (keep := []) mixed K_NA1i_ok (by kernel_rfl) (by as_aux_lemma => kernel_rfl)

noncomputable def S4796 : Sum := ⟨zBT, 32, []⟩
theorem S4796_ok : SumOk Tryz.prog 352 [zR, zAB, zBS] S4796 := SumOk.of_run (K := K_NA1i) (n := 5000) (keep := []) mixed K_NA1i_ok (by kernel_rfl) (by as_aux_lemma => kernel_rfl)

noncomputable def S4689 : Sum := ⟨zAZ, 27, []⟩
theorem S4689_ok : SumOk Tryz.prog 352 [zX, zEY, zFO] S4689 := SumOk.of_run (K := K_NA1i) (n := 5000) (keep := []) mixed K_NA1i_ok (by kernel_rfl) (by as_aux_lemma => kernel_rfl)

noncomputable def S4584 : Sum := ⟨zBJ, 26, []⟩
theorem S4584_ok : SumOk Tryz.prog 352 [zX, zEY, zFN] S4584 := SumOk.of_run (K := K_NA1i) (n := 5000) (keep := []) mixed K_NA1i_ok (by kernel_rfl) (by as_aux_lemma => kernel_rfl)

noncomputable def S4480 : Sum := ⟨zDL, 25, []⟩
theorem S4480_ok : SumOk Tryz.prog 352 [zX, zEY, zFM] S4480 := SumOk.of_run (K := K_NA1i) (n := 5000) (keep := []) mixed K_NA1i_ok (by kernel_rfl) (by as_aux_lemma => kernel_rfl)

noncomputable def S4377 : Sum := ⟨zJ, 24, []⟩
theorem S4377_ok : SumOk Tryz.prog 352 [zX, zEY, zFL] S4377 := SumOk.of_run (K := K_NA1i) (n := 5000) (keep := []) mixed K_NA1i_ok (by kernel_rfl) (by as_aux_lemma => kernel_rfl)

noncomputable def S4280 : Sum := ⟨zT, 23, []⟩
theorem S4280_ok : SumOk Tryz.prog 352 [zX, zFV, zBE] S4280 := SumOk.of_run (K := K_NA1i) (n := 5000) (keep := []) mixed K_NA1i_ok (by kernel_rfl) (by as_aux_lemma => kernel_rfl)

noncomputable def S4184 : Sum := ⟨zAH, 22, []⟩
theorem S4184_ok : SumOk Tryz.prog 352 [zX, (.str 6 121437607456361), zBE] S4184 := SumOk.of_run (K := K_NA1i) (n := 5000) (keep := []) mixed K_NA1i_ok (by kernel_rfl) (by as_aux_lemma => kernel_rfl)

noncomputable def S4084 : Sum := ⟨zAL, 21, []⟩
theorem S4084_ok : SumOk Tryz.prog 352 [zX, (.str 6 126909328748901), zCU] S4084 := SumOk.of_run (K := K_NA1i) (n := 5000) (keep := []) mixed K_NA1i_ok (by kernel_rfl) (by as_aux_lemma => kernel_rfl)

noncomputable def S3914 : Sum := ⟨zN, 20, []⟩
theorem S3914_ok : SumOk Tryz.prog 352 [zX, (.str 6 127961628831587), zCX] S3914 := SumOk.of_run (K := K_NA1i) (n := 5000) (keep := []) mixed K_NA1i_ok (by kernel_rfl) (by as_aux_lemma => kernel_rfl)

noncomputable def S3887 : Sum := ⟨zBG, 19, []⟩
theorem S3887_ok : SumOk Tryz.prog 352 [zX, (.str 6 127824440682595), (.str 4 1126779176)] S3887 := SumOk.of_run (K := K_NA1i) (n := 5000) (keep := []) mixed K_NA1i_ok (by kernel_rfl) (by as_aux_lemma => kernel_rfl)

noncomputable def S3691 : Sum := ⟨(.tup [(.so 95 0 5 4), (.agg [(.int .u8 86), zH, zA, zB]), zI]), 96, [(95, (.cells 20 true [] (T.ofList 0 .leaf [zBQ, zG, zA, zB, zBY, zH, zA, zB, zBQ, zG, zA, zB, zBY, zH, zA, zB, zBY, zH, zA, zB])))]⟩
theorem S3691_ok : SumOk Tryz.prog 78 [zDK] S3691 := SumOk.of_run (K := K_NA1i) (n := 5000) (keep := [95]) mixed K_NA1i_ok (by kernel_rfl) (by as_aux_lemma => kernel_rfl)

noncomputable def S3500 : Sum := ⟨(.int .i64 38), 144, []⟩
theorem S3500_ok : SumOk Tryz.prog 352 [zAC, (.str 10 478866051492549179499879), zBE] S3500 := SumOk.of_run (K := K_NA1i) (n := 5000) (keep := []) mixed K_NA1i_ok (by kernel_rfl) (by as_aux_lemma => kernel_rfl)

noncomputable def S3417 : Sum := ⟨(.tup [(.so 40 0 1 4), (.agg [(.int .u8 86), zH, zA, zB]), zI]), 41, [q822]⟩
theorem S3417_ok : SumOk Tryz.prog 78 [zW] S3417 := SumOk.of_run (K := K_NA1i) (n := 5000) (keep := [40]) mixed K_NA1i_ok (by kernel_rfl) (by as_aux_lemma => kernel_rfl)

noncomputable def S3321 : Sum := ⟨zDV, 143, []⟩
theorem S3321_ok : SumOk Tryz.prog 352 [zAC, zAB, zW] S3321 := SumOk.of_run (K := K_NA1i) (n := 5000) (keep := []) mixed K_NA1i_ok (by kernel_rfl) (by as_aux_lemma => kernel_rfl)

noncomputable def S3219 : Sum := ⟨(.int .i64 36), 142, []⟩
theorem S3219_ok : SumOk Tryz.prog 352 [zAC, zAB, zBS] S3219 := SumOk.of_run (K := K_NA1i) (n := 5000) (keep := []) mixed K_NA1i_ok (by kernel_rfl) (by as_aux_lemma => kernel_rfl)

noncomputable def S3144 : Sum := ⟨(.tup [(.agg [zBQ, zX, zA, zB]), zEE]), 37, []⟩
theorem S3144_ok : SumOk Tryz.prog 114 [(.str 18 5174820716358828607022171764334454026365516)] S3144 := SumOk.of_run (K := K_NA1i) (n := 5000) (keep := []) mixed K_NA1i_ok (by kernel_rfl) (by as_aux_lemma => kernel_rfl)

noncomputable def S3042 : Sum := ⟨(.tup [(.so 40 0 1 4), (.agg [(.int .u8 90), zH, zA, zB]), zI]), 46, [q818]⟩
theorem S3042_ok : SumOk Tryz.prog 78 [zCU] S3042 := SumOk.of_run (K := K_NA1i) (n := 5000) (keep := [40]) mixed K_NA1i_ok (by kernel_rfl) (by as_aux_lemma => kernel_rfl)

noncomputable def I92 : In := ⟨241, [(.so 163 0 33 1), zA, zAJ, zN], 164, [q826], (.tup []), 168, [(163, (.cells 33 true [] (T.ofList 0 .leaf [zL, zBK, zBL, zAR, zBM, zBN, zBF, zBU, zBD, zCB, zAW, zBO, zAT, zY, zAM, zBP, zAI, zAY, zBH, zBV, zBR, zBI, zG, zAK, zAD, zZ, zX, zR, zAQ, zCO, zAC, zAU, zCF])))]⟩
theorem I92_ok : InOk Tryz.prog I92 := InOk.of_run (K := K_NA1i) (n := 5000) mixed K_NA1i_ok (by kernel_rfl) (by as_aux_lemma => kernel_rfl)

noncomputable def tab_NA1i : List (FuncId × SRows) := (114, [([(.str 18 5174820716358828607022171764334454026365516)], S3144)]) :: (78, [([zDK], S3691), ([zW], S3417), ([zCU], S3042)]) :: (179, [([zR], S4916)]) :: (352, [([zL, zDU, zCV], S5705), ([zL, zDU, (.str 4 1445550632)], S5676), ([zL, zDU, (.str 4 1445544744)], S5648), ([zL, zDU, (.str 4 1445546536)], S5621), ([zL, zDU, (.str 4 1445546280)], S5595), ([zL, zDU, zW], S5499), ([zR, zFV, zBE], S5398), ([zR, (.str 6 114849160783212), (.str 3 4794664)], S5370), ([zR, zDZ, zEL], S5271), ([zR, zDZ, zEK], S5173), ([zR, zDZ, zEJ], S5076), ([zR, zDZ, zEI], S4980), ([zR, zDZ, zCI], S4814), ([zR, zAB, zBS], S4796), ([zX, zEY, zFO], S4689), ([zX, zEY, zFN], S4584), ([zX, zEY, zFM], S4480), ([zX, zEY, zFL], S4377), ([zX, zFV, zBE], S4280), ([zX, (.str 6 121437607456361), zBE], S4184), ([zX, (.str 6 126909328748901), zCU], S4084), ([zX, (.str 6 127961628831587), zCX], S3914), ([zX, (.str 6 127824440682595), (.str 4 1126779176)], S3887), ([zAC, (.str 10 478866051492549179499879), zBE], S3500), ([zAC, zAB, zW], S3321), ([zAC, zAB, zBS], S3219)]) :: []
theorem tab_NA1i_ok : TabOk Tryz.prog tab_NA1i := (TabOk.cons (RowsOk.cons S3144_ok RowsOk.nil) (TabOk.cons (RowsOk.cons S3691_ok (RowsOk.cons S3417_ok (RowsOk.cons S3042_ok RowsOk.nil))) (TabOk.cons (RowsOk.cons S4916_ok RowsOk.nil) (TabOk.cons (RowsOk.cons S5705_ok (RowsOk.cons S5676_ok (RowsOk.cons S5648_ok (RowsOk.cons S5621_ok (RowsOk.cons S5595_ok (RowsOk.cons S5499_ok (RowsOk.cons S5398_ok (RowsOk.cons S5370_ok (RowsOk.cons S5271_ok (RowsOk.cons S5173_ok (RowsOk.cons S5076_ok (RowsOk.cons S4980_ok (RowsOk.cons S4814_ok (RowsOk.cons S4796_ok (RowsOk.cons S4689_ok (RowsOk.cons S4584_ok (RowsOk.cons S4480_ok (RowsOk.cons S4377_ok (RowsOk.cons S4280_ok (RowsOk.cons S4184_ok (RowsOk.cons S4084_ok (RowsOk.cons S3914_ok (RowsOk.cons S3887_ok (RowsOk.cons S3500_ok (RowsOk.cons S3321_ok (RowsOk.cons S3219_ok RowsOk.nil)))))))))))))))))))))))))) TabOk.nil))))
noncomputable def H_NA1i : Hand := ((Hand.at 241 (inHand I92)).or (sumsHand tab_NA1i))
theorem H_NA1i_ok : HandOk Tryz.prog H_NA1i := (HandOk.or (HandOk.at 241 (inHand_ok I92_ok (by kernel_rfl))) (sumsHand_ok tab_NA1i_ok))
end Go.Proofs.YtedimikdpclpnaaGreatDoor.na
