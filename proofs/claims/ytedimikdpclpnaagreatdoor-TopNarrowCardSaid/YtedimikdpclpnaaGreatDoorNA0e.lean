/-
  Contracts of calls, by the kernel.
-/
import Derived.Test.YtedimikdpclpnaaGreatDoorXN3
import Derived.Test.YtedimikdpclpnaaGreatDoorProg
import Derived.KernelRfl
import Derived.Test.YtedimikdpclpnaaGreatDoorNA0a
set_option linter.unusedSectionVars false
set_option linter.unusedVariables false
set_option maxRecDepth 1000000
set_option maxHeartbeats 0
namespace Go.Proofs.YtedimikdpclpnaaGreatDoor.na
open Go.X Go.RowKit
variable [Tab]
noncomputable def K_NA0e : Hand := Hand.none
theorem K_NA0e_ok : HandOk Tryz.prog K_NA0e := HandOk.none

noncomputable def I7289 : In := ⟨29, [(.ptr 6982 0), zJ, zDA, zAB, zBS], 7471, [q771, q773, q775], zJ, 7497, [q771, q773, q775]⟩
theorem I7289_ok : InOk Tryz.prog I7289 := InOk.of_run (K := K_NA0e) (n := 5000) mixed K_NA0e_ok (by kernel_rfl) (by as_aux_lemma => kernel_rfl)

noncomputable def I7261 : In := ⟨29, [(.ptr 6982 0), zT, zDA, (.str 2 21368), (.str 1 83)], 7406, [q777, q778, q779, q780], zEH, 7456, [q771, q597, q598, q599, q600, q773, q774, q775]⟩
theorem I7261_ok : InOk Tryz.prog I7261 := InOk.of_run (K := K_NA0e) (n := 5000) mixed K_NA0e_ok (by kernel_rfl) (by as_aux_lemma => kernel_rfl)

noncomputable def I7222 : In := ⟨25, [(.ptr 6982 0), zT, (.str 4 1114535791), zCC, zC, zC, (.so 7314 0 8 1), .nils, .nils], 7315, [q781, q782, q783, q784, q785, q786], (.tup []), 7356, [q777, q786, q596, q778, q779, q780, q772]⟩
theorem I7222_ok : InOk Tryz.prog I7222 := InOk.of_run (K := K_NA0e) (n := 5000) mixed K_NA0e_ok (by kernel_rfl) (by as_aux_lemma => kernel_rfl)

noncomputable def I7200 : In := ⟨29, [(.ptr 6982 0), zT, zDA, (.str 2 17011), (.str 1 66)], 7282, [q781, q783, q785], zBZ, 7308, [q781, q783, q785]⟩
theorem I7200_ok : InOk Tryz.prog I7200 := InOk.of_run (K := K_NA0e) (n := 5000) mixed K_NA0e_ok (by kernel_rfl) (by as_aux_lemma => kernel_rfl)

noncomputable def I7178 : In := ⟨29, [(.ptr 6982 0), zT, zDA, (.str 2 17011), (.str 1 66)], 7235, [q787, q788, q789, q790], zBZ, 7279, [q781, q593, q594, q595, q783, q784, q785]⟩
theorem I7178_ok : InOk Tryz.prog I7178 := InOk.of_run (K := K_NA0e) (n := 5000) mixed K_NA0e_ok (by kernel_rfl) (by as_aux_lemma => kernel_rfl)

noncomputable def I7158 : In := ⟨25, [(.ptr 6982 0), zT, (.str 4 1114268271), zCC, zD, zK, (.so 7178 0 18 1), .nils, .nils], 7179, [q791, q792, q793, q794, q795], (.tup []), 7232, [q787, q795, q590, q591, q592, q788, q789, q790, q782]⟩
theorem I7158_ok : InOk Tryz.prog I7158 := InOk.of_run (K := K_NA0e) (n := 5000) mixed K_NA0e_ok (by kernel_rfl) (by as_aux_lemma => kernel_rfl)

noncomputable def I7131 : In := ⟨29, [(.ptr 6982 0), zJ, zDA, zAB, zBS], 7110, [(6982, (.cells 13 false [] (T.ofList 0 .leaf [(.so 7090 0 6 1), (.so 7092 0 6 1), (.so 7094 0 6 1), zAL, zCN, zG, zAJ, zAG, .nils, .nils, zA, .nils, zA]))), (7090, (.cells 6 true [] (T.ofList 0 .leaf [zES, zET, zDO, zEF, zCW, zCE]))), (7092, (.cells 6 true [] (T.ofList 0 .leaf [(.so 7036 0 4 1), (.so 7045 0 3 1), (.so 7055 0 5 1), (.so 7065 0 4 1), (.so 7076 0 5 1), (.so 7088 0 5 1)]))), (7094, (.cells 6 true [] (T.ofList 0 .leaf [zC, zK, zD, zF, zBG, zN])))], zJ, 7160, [q791, q586, q587, q588, q589, q792, q793, q794]⟩
theorem I7131_ok : InOk Tryz.prog I7131 := InOk.of_run (K := K_NA0e) (n := 5000) mixed K_NA0e_ok (by kernel_rfl) (by as_aux_lemma => kernel_rfl)

noncomputable def I7039 : In := ⟨27, [(.ptr 6868 0)], 6869, [(6868, (.cells 13 false [] (T.ofList 0 .leaf [.nils, .nils, .nils, zC, zDA, zG, zAJ, zAG, .nils, .nils, zA, .nils, zA])))], (.tup []), 6981, [(6868, (.cells 13 false [] (T.ofList 0 .leaf [(.so 6970 0 7 1), (.so 6972 0 7 1), (.so 6974 0 7 1), zAH, zDA, zG, zAJ, zAG, .nils, .nils, zA, (.so 6980 0 31 1), zC]))), q659, q660, q661, q662, q663, q664, q665, (6970, (.cells 7 true [] (T.ofList 0 .leaf [zFQ, zGE, zBW, zCP, zAV, zFE, zCM]))), (6972, (.cells 7 true [] (T.ofList 0 .leaf [(.so 6873 0 19 1), (.so 6882 0 3 1), (.so 6892 0 9 1), (.so 6902 0 6 1), (.so 6913 0 5 1), (.so 6925 0 5 1), (.so 6968 0 7 1)]))), (6974, (.cells 7 true [] (T.ofList 0 .leaf [zC, zK, zD, zF, zBG, zN, zAL]))), q666]⟩
theorem I7039_ok : InOk Tryz.prog I7039 := InOk.of_run (K := K_NA0e) (n := 5000) mixed K_NA0e_ok (by kernel_rfl) (by as_aux_lemma => kernel_rfl)

noncomputable def I6703 : In := ⟨288, [(.ptr 3256 0), (.fn (.func 289) [] [(.ptr 6843 0)])], 6851, [q796, (6725, (.cells 1 true [] (T.ofList 0 .leaf [zBQ]))), (6821, (.cells 1 true [] (T.ofList 0 .leaf [zBQ]))), q797, q798, q799, q800, (6843, (.cells 1 false [] (T.ofList 0 .leaf [(.map 6842)])))], (.map 6851), 6859, [q801, (6725, (.cells 1 true [] (T.ofList 0 .leaf [zBQ]))), (6821, (.cells 1 true [] (T.ofList 0 .leaf [zBQ]))), q797, q798, q799, q800, (6843, (.cells 1 false [] (T.ofList 0 .leaf [(.map 6842)]))), q802]⟩
theorem I6703_ok : InOk Tryz.prog I6703 := InOk.of_run (K := K_NA0e) (n := 5000) mixed K_NA0e_ok (by kernel_rfl) (by as_aux_lemma => kernel_rfl)

noncomputable def I6181 : In := ⟨104, [(.ptr 3256 0), zL], 6607, [(1, (.map [] 0)), q804, q805, q817, q807, (3255, (.map [] 0)), (3256, (.cells 5 false [] (T.ofList 0 .leaf [(.ptr 3 0), .nils, .nils, .nils, (.map 3255)])))], zC, 6635, [(1, (.map [] 0)), q804, q805, q817, q807, q814, q815, q816, (6632, (.cells 2 true [] (T.ofList 0 .leaf [zQ, zQ]))), (6634, (.cells 1 true [] (T.ofList 0 .leaf [zA])))]⟩
theorem I6181_ok : InOk Tryz.prog I6181 := InOk.of_run (K := K_NA0e) (n := 5000) mixed K_NA0e_ok (by kernel_rfl) (by as_aux_lemma => kernel_rfl)

noncomputable def S5693 : Sum := ⟨(.tup [(.so 5 0 1 4), (.agg [(.int .u8 86), zH, zA, zB]), zI]), 6, [q819]⟩
theorem S5693_ok : SumOk Tryz.prog 78 [(.str 4 1445550632)] S5693 := SumOk.of_run (K := K_NA0e) (n := 5000) (keep := [5]) mixed K_NA0e_ok (by kernel_rfl) (by as_aux_lemma => kernel_rfl)

noncomputable def S5664 : Sum := ⟨(.tup [(.so 5 0 1 4), (.agg [(.int .u8 86), zH, zA, zB]), zI]), 6, [q820]⟩
theorem S5664_ok : SumOk Tryz.prog 78 [(.str 4 1445544744)] S5664 := SumOk.of_run (K := K_NA0e) (n := 5000) (keep := [5]) mixed K_NA0e_ok (by kernel_rfl) (by as_aux_lemma => kernel_rfl)

noncomputable def S5636 : Sum := ⟨(.tup [(.so 5 0 1 4), (.agg [(.int .u8 86), zH, zA, zB]), zI]), 6, [q821]⟩
theorem S5636_ok : SumOk Tryz.prog 78 [(.str 4 1445546536)] S5636 := SumOk.of_run (K := K_NA0e) (n := 5000) (keep := [5]) mixed K_NA0e_ok (by kernel_rfl) (by as_aux_lemma => kernel_rfl)

noncomputable def S5609 : Sum := ⟨(.tup [(.so 5 0 1 4), (.agg [(.int .u8 86), zH, zA, zB]), zI]), 6, [q560]⟩
theorem S5609_ok : SumOk Tryz.prog 78 [(.str 4 1445546280)] S5609 := SumOk.of_run (K := K_NA0e) (n := 5000) (keep := [5]) mixed K_NA0e_ok (by kernel_rfl) (by as_aux_lemma => kernel_rfl)

noncomputable def S3898 : Sum := ⟨(.tup [(.so 5 0 1 4), (.agg [zFH, zH, zA, zB]), zI]), 11, [q560]⟩
theorem S3898_ok : SumOk Tryz.prog 78 [(.str 4 1126779176)] S3898 := SumOk.of_run (K := K_NA0e) (n := 5000) (keep := [5]) mixed K_NA0e_ok (by kernel_rfl) (by as_aux_lemma => kernel_rfl)

noncomputable def S3876 : Sum := ⟨(.tup [.nils, (.agg [zBY, zH, zA, zB]), zI]), 6, []⟩
theorem S3876_ok : SumOk Tryz.prog 78 [(.str 3 4794664)] S3876 := SumOk.of_run (K := K_NA0e) (n := 5000) (keep := []) mixed K_NA0e_ok (by kernel_rfl) (by as_aux_lemma => kernel_rfl)

noncomputable def S3679 : Sum := ⟨zEP, 33, []⟩
theorem S3679_ok : SumOk Tryz.prog 352 [zCO, (.str 9 2240157836546495640161), zDK] S3679 := SumOk.of_run (K := K_NA0e) (n := 5000) (keep := []) mixed K_NA0e_ok (by kernel_rfl) (by as_aux_lemma => kernel_rfl)

noncomputable def S3198 : Sum := ⟨(.int .i64 (-1)), 1, []⟩
theorem S3198_ok : SumOk Tryz.prog 474 [(.str 6 113723913172051), (.str 4 794508078)] S3198 := SumOk.of_run (K := K_NA0e) (n := 5000) (keep := []) mixed K_NA0e_ok (by kernel_rfl) (by as_aux_lemma => kernel_rfl)

noncomputable def S3196 : Sum := ⟨(.tup [(.so 12 0 6 1), zI]), 13, [(12, (.cells 6 true [] (T.ofList 0 .leaf [(.int .u16 83), (.int .u16 116), (.int .u16 114), (.int .u16 105), (.int .u16 110), (.int .u16 103)])))]⟩
theorem S3196_ok : SumOk Tryz.prog 181 [(.str 6 113723913172051)] S3196 := SumOk.of_run (K := K_NA0e) (n := 5000) (keep := [12]) mixed K_NA0e_ok (by kernel_rfl) (by as_aux_lemma => kernel_rfl)

noncomputable def S3153 : Sum := ⟨(.sl 0 0 3 3), 1, [(0, (.cells 3 false [zH] (T.ofList 0 .leaf [(.str 4 1635148138), (.str 4 1735287148), (.str 6 113723913172051)])))]⟩
theorem S3153_ok : SumOk Tryz.prog 402 [zX, (.str 1 47), zA, (.int .i64 (-1))] S3153 := SumOk.of_run (K := K_NA0e) (n := 5000) (keep := [0]) mixed K_NA0e_ok (by kernel_rfl) (by as_aux_lemma => kernel_rfl)

noncomputable def S3129 : Sum := ⟨zD, 9, []⟩
theorem S3129_ok : SumOk Tryz.prog 352 [zG, zFV, zBE] S3129 := SumOk.of_run (K := K_NA0e) (n := 5000) (keep := []) mixed K_NA0e_ok (by kernel_rfl) (by as_aux_lemma => kernel_rfl)

noncomputable def S3102 : Sum := ⟨(.int .i64 (-1)), 1, []⟩
theorem S3102_ok : SumOk Tryz.prog 474 [(.str 6 127970252055119), (.str 4 794508078)] S3102 := SumOk.of_run (K := K_NA0e) (n := 5000) (keep := []) mixed K_NA0e_ok (by kernel_rfl) (by as_aux_lemma => kernel_rfl)

noncomputable def tab_NA0e : List (FuncId × SRows) := (402, [([zX, (.str 1 47), zA, (.int .i64 (-1))], S3153)]) :: (181, [([(.str 6 113723913172051)], S3196)]) :: (474, [([(.str 6 113723913172051), (.str 4 794508078)], S3198), ([(.str 6 127970252055119), (.str 4 794508078)], S3102)]) :: (352, [([zCO, (.str 9 2240157836546495640161), zDK], S3679), ([zG, zFV, zBE], S3129)]) :: (78, [([(.str 4 1445550632)], S5693), ([(.str 4 1445544744)], S5664), ([(.str 4 1445546536)], S5636), ([(.str 4 1445546280)], S5609), ([(.str 4 1126779176)], S3898), ([(.str 3 4794664)], S3876)]) :: []
theorem tab_NA0e_ok : TabOk Tryz.prog tab_NA0e := (TabOk.cons (RowsOk.cons S3153_ok RowsOk.nil) (TabOk.cons (RowsOk.cons S3196_ok RowsOk.nil) (TabOk.cons (RowsOk.cons S3198_ok (RowsOk.cons S3102_ok RowsOk.nil)) (TabOk.cons (RowsOk.cons S3679_ok (RowsOk.cons S3129_ok RowsOk.nil)) (TabOk.cons (RowsOk.cons S5693_ok (RowsOk.cons S5664_ok (RowsOk.cons S5636_ok (RowsOk.cons S5609_ok (RowsOk.cons S3898_ok (RowsOk.cons S3876_ok RowsOk.nil)))))) TabOk.nil)))))
noncomputable def H_NA0e : Hand := (((Hand.at 104 (inHand I6181)).or ((Hand.at 288 (inHand I6703)).or ((Hand.at 27 (inHand I7039)).or ((Hand.at 25 ((inHand I7158).or (inHand I7222))).or (Hand.at 29 (Hand.sp 7282 ((inHand I7178).or (inHand I7131)) (Hand.sp 7406 (inHand I7200) ((inHand I7289).or (inHand I7261))))))))).or (sumsHand tab_NA0e))
theorem H_NA0e_ok : HandOk Tryz.prog H_NA0e := (HandOk.or (HandOk.or (HandOk.at 104 (inHand_ok I6181_ok (by kernel_rfl))) (HandOk.or (HandOk.at 288 (inHand_ok I6703_ok (by kernel_rfl))) (HandOk.or (HandOk.at 27 (inHand_ok I7039_ok (by kernel_rfl))) (HandOk.or (HandOk.at 25 (HandOk.or (inHand_ok I7158_ok (by kernel_rfl)) (inHand_ok I7222_ok (by kernel_rfl)))) (HandOk.at 29 (HandOk.sp 7282 (HandOk.or (inHand_ok I7178_ok (by kernel_rfl)) (inHand_ok I7131_ok (by kernel_rfl))) (HandOk.sp 7406 (inHand_ok I7200_ok (by kernel_rfl)) (HandOk.or (inHand_ok I7289_ok (by kernel_rfl)) (inHand_ok I7261_ok (by kernel_rfl)))))))))) (sumsHand_ok tab_NA0e_ok))
end Go.Proofs.YtedimikdpclpnaaGreatDoor.na
