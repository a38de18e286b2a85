/-
  Contracts of calls, by the kernel.
-/
import Derived.Test.YtedimikdpclpnaaGreatDoorXN3
import Derived.Test.YtedimikdpclpnaaGreatDoorProg
import Derived.KernelRfl
import Derived.Test.YtedimikdpclpnaaGreatDoorNA0a
set_option linter.unusedSectionVars false
set_option linter.unusedVariables false
set_option maxRecDepth 1000000
set_option maxHeartbeats 0
namespace Go.Proofs.YtedimikdpclpnaaGreatDoor.na
open Go.X Go.RowKit
variable [Tab]
noncomputable def K_NA0b : Hand := Hand.none
theorem K_NA0b_ok : HandOk Tryz.prog K_NA0b := HandOk.none

noncomputable def S17562 : Sum := ⟨zI, 20, []⟩
theorem S17562_ok : SumOk Tryz.prog 131 [(.int .i64 179)] S17562 := SumOk.of_run (K := K_NA0b) (n := 5000) (keep := []) mixed K_NA0b_ok (by kernel_rfl) (by as_aux_lemma => kernel_rfl)

noncomputable def S17416 : Sum := ⟨(.tup [zB, zE]), 13, []⟩
theorem S17416_ok : SumOk Tryz.prog 133 [zFK] S17416 := SumOk.of_run (K := K_NA0b) (n := 5000) (keep := []) mixed K_NA0b_ok (by kernel_rfl) (by as_aux_lemma => kernel_rfl)

noncomputable def S17410 : Sum := ⟨(.tup [zB, zE]), 13, []⟩
theorem S17410_ok : SumOk Tryz.prog 133 [(.int .i64 180)] S17410 := SumOk.of_run (K := K_NA0b) (n := 5000) (keep := []) mixed K_NA0b_ok (by kernel_rfl) (by as_aux_lemma => kernel_rfl)

noncomputable def S17399 : Sum := ⟨(.tup [zB, zE]), 13, []⟩
theorem S17399_ok : SumOk Tryz.prog 133 [(.int .i64 181)] S17399 := SumOk.of_run (K := K_NA0b) (n := 5000) (keep := []) mixed K_NA0b_ok (by kernel_rfl) (by as_aux_lemma => kernel_rfl)

noncomputable def S17389 : Sum := ⟨(.tup [(.int .u8 65), zE]), 13, []⟩
theorem S17389_ok : SumOk Tryz.prog 133 [zCZ] S17389 := SumOk.of_run (K := K_NA0b) (n := 5000) (keep := []) mixed K_NA0b_ok (by kernel_rfl) (by as_aux_lemma => kernel_rfl)

noncomputable def S17384 : Sum := ⟨(.tup [(.int .u8 65), zI]), 13, []⟩
theorem S17384_ok : SumOk Tryz.prog 133 [(.int .i64 76)] S17384 := SumOk.of_run (K := K_NA0b) (n := 5000) (keep := []) mixed K_NA0b_ok (by kernel_rfl) (by as_aux_lemma => kernel_rfl)

noncomputable def S17360 : Sum := ⟨(.tup [zB, zE]), 13, []⟩
theorem S17360_ok : SumOk Tryz.prog 133 [(.int .i64 89)] S17360 := SumOk.of_run (K := K_NA0b) (n := 5000) (keep := []) mixed K_NA0b_ok (by kernel_rfl) (by as_aux_lemma => kernel_rfl)

noncomputable def S17345 : Sum := ⟨(.tup [zB, zE]), 13, []⟩
theorem S17345_ok : SumOk Tryz.prog 133 [(.int .i64 187)] S17345 := SumOk.of_run (K := K_NA0b) (n := 5000) (keep := []) mixed K_NA0b_ok (by kernel_rfl) (by as_aux_lemma => kernel_rfl)

noncomputable def S17337 : Sum := ⟨zI, 19, []⟩
theorem S17337_ok : SumOk Tryz.prog 131 [zFK] S17337 := SumOk.of_run (K := K_NA0b) (n := 5000) (keep := []) mixed K_NA0b_ok (by kernel_rfl) (by as_aux_lemma => kernel_rfl)

noncomputable def S17330 : Sum := ⟨zI, 20, []⟩
theorem S17330_ok : SumOk Tryz.prog 131 [(.int .i64 180)] S17330 := SumOk.of_run (K := K_NA0b) (n := 5000) (keep := []) mixed K_NA0b_ok (by kernel_rfl) (by as_aux_lemma => kernel_rfl)

noncomputable def S17319 : Sum := ⟨zI, 20, []⟩
theorem S17319_ok : SumOk Tryz.prog 131 [(.int .i64 181)] S17319 := SumOk.of_run (K := K_NA0b) (n := 5000) (keep := []) mixed K_NA0b_ok (by kernel_rfl) (by as_aux_lemma => kernel_rfl)

noncomputable def S17307 : Sum := ⟨zI, 8, []⟩
theorem S17307_ok : SumOk Tryz.prog 131 [(.int .i64 76)] S17307 := SumOk.of_run (K := K_NA0b) (n := 5000) (keep := []) mixed K_NA0b_ok (by kernel_rfl) (by as_aux_lemma => kernel_rfl)

noncomputable def S17294 : Sum := ⟨zI, 9, []⟩
theorem S17294_ok : SumOk Tryz.prog 131 [(.int .i64 89)] S17294 := SumOk.of_run (K := K_NA0b) (n := 5000) (keep := []) mixed K_NA0b_ok (by kernel_rfl) (by as_aux_lemma => kernel_rfl)

noncomputable def S17287 : Sum := ⟨zI, 21, []⟩
theorem S17287_ok : SumOk Tryz.prog 131 [(.int .i64 187)] S17287 := SumOk.of_run (K := K_NA0b) (n := 5000) (keep := []) mixed K_NA0b_ok (by kernel_rfl) (by as_aux_lemma => kernel_rfl)

noncomputable def S17187 : Sum := ⟨(.tup [(.so 5 0 1 4), (.agg [zBY, zH, zA, zB]), zI]), 11, [q560]⟩
theorem S17187_ok : SumOk Tryz.prog 78 [zCC] S17187 := SumOk.of_run (K := K_NA0b) (n := 5000) (keep := [5]) mixed K_NA0b_ok (by kernel_rfl) (by as_aux_lemma => kernel_rfl)

noncomputable def S16951 : Sum := ⟨zI, 5, []⟩
theorem S16951_ok : SumOk Tryz.prog 179 [zCN] S16951 := SumOk.of_run (K := K_NA0b) (n := 5000) (keep := []) mixed K_NA0b_ok (by kernel_rfl) (by as_aux_lemma => kernel_rfl)

noncomputable def I16922 : In := ⟨368, [(.sl 16512 0 58 58), (.agg [zT, zH, zA, zK, (.int .i64 51)])], 17302, [q25], zI, 17309, [q25]⟩
theorem I16922_ok : InOk Tryz.prog I16922 := InOk.of_run (K := K_NA0b) (n := 5000) mixed K_NA0b_ok (by kernel_rfl) (by as_aux_lemma => kernel_rfl)

noncomputable def I16881 : In := ⟨368, [(.sl 16512 0 58 58), (.agg [zT, zH, zA, zK, (.int .i64 47)])], 17263, [q25], zI, 17270, [q25]⟩
theorem I16881_ok : InOk Tryz.prog I16881 := InOk.of_run (K := K_NA0b) (n := 5000) mixed K_NA0b_ok (by kernel_rfl) (by as_aux_lemma => kernel_rfl)

noncomputable def I15776 : In := ⟨47, [(.ptr 6982 0), zGE, (.so 16420 0 3 1), zC], 16421, [q563, q564, q565, q566], (.int .i64 57), 16427, [q567, (16424, (.cells 57 true [] (T.ofList 0 .leaf [(.so 7036 0 4 1), (.so 7045 0 3 1), (.so 7055 0 5 1), (.so 7065 0 4 1), (.so 7076 0 5 1), (.so 7088 0 5 1), (.so 7120 0 9 1), (.so 7130 0 6 1), (.so 7141 0 5 1), (.so 7153 0 5 1), (.so 7183 0 7 1), (.so 7195 0 7 1), (.so 7219 0 7 1), (.so 7245 0 5 1), (.so 7260 0 5 1), (.so 7272 0 5 1), (.so 7319 0 7 1), (.so 7416 0 5 1), (.so 7426 0 4 1), (.so 7437 0 5 1), (.so 7449 0 5 1), (.so 7520 0 7 1), (.so 7570 0 5 1), (.so 7585 0 5 1), (.so 7597 0 5 1), (.so 7644 0 7 1), (.so 7741 0 5 1), (.so 7751 0 4 1), (.so 7762 0 5 1), (.so 7774 0 5 1), (.so 7845 0 7 1), (.so 7895 0 5 1), (.so 7910 0 5 1), (.so 7922 0 5 1), (.so 7969 0 7 1), (.so 8066 0 5 1), (.so 8076 0 4 1), (.so 8087 0 5 1), (.so 8099 0 5 1), (.so 8170 0 7 1), (.so 8220 0 5 1), (.so 8235 0 5 1), (.so 8247 0 5 1), (.so 8294 0 7 1), (.so 8391 0 5 1), (.so 8401 0 4 1), (.so 8412 0 5 1), (.so 8424 0 5 1), (.so 8495 0 7 1), (.so 8545 0 5 1), (.so 8560 0 5 1), (.so 8572 0 5 1), (.so 8619 0 7 1), (.so 16392 0 4 1), (.so 16401 0 3 1), (.so 16411 0 19 1), (.so 16420 0 3 1)])))]⟩
theorem I15776_ok : InOk Tryz.prog I15776 := InOk.of_run (K := K_NA0b) (n := 5000) mixed K_NA0b_ok (by kernel_rfl) (by as_aux_lemma => kernel_rfl)

noncomputable def I15774 : In := ⟨47, [(.ptr 6982 0), zFQ, (.so 16411 0 19 1), zC], 16412, [q568, q569, q570, q571], (.int .i64 56), 16418, [q563, q564, q565, q566]⟩
theorem I15774_ok : InOk Tryz.prog I15774 := InOk.of_run (K := K_NA0b) (n := 5000) mixed K_NA0b_ok (by kernel_rfl) (by as_aux_lemma => kernel_rfl)

noncomputable def I15770 : In := ⟨47, [(.ptr 6982 0), (.str 2 19811), (.so 16401 0 3 1), zC], 16402, [q572, q573, q574, q575], (.int .i64 55), 16408, [q568, q569, q570, q571]⟩
theorem I15770_ok : InOk Tryz.prog I15770 := InOk.of_run (K := K_NA0b) (n := 5000) mixed K_NA0b_ok (by kernel_rfl) (by as_aux_lemma => kernel_rfl)

noncomputable def I15768 : In := ⟨47, [(.ptr 6982 0), (.str 2 19829), (.so 16392 0 4 1), zC], 16393, [q576, q577, q578, q579], (.int .i64 54), 16399, [q572, q573, q574, q575]⟩
theorem I15768_ok : InOk Tryz.prog I15768 := InOk.of_run (K := K_NA0b) (n := 5000) mixed K_NA0b_ok (by kernel_rfl) (by as_aux_lemma => kernel_rfl)

noncomputable def S15734 : Sum := ⟨(.tup [zB, zE]), 13, []⟩
theorem S15734_ok : SumOk Tryz.prog 133 [(.int .i64 177)] S15734 := SumOk.of_run (K := K_NA0b) (n := 5000) (keep := []) mixed K_NA0b_ok (by kernel_rfl) (by as_aux_lemma => kernel_rfl)

noncomputable def S15715 : Sum := ⟨(.tup [zB, zE]), 13, []⟩
theorem S15715_ok : SumOk Tryz.prog 133 [zED] S15715 := SumOk.of_run (K := K_NA0b) (n := 5000) (keep := []) mixed K_NA0b_ok (by kernel_rfl) (by as_aux_lemma => kernel_rfl)

noncomputable def S15710 : Sum := ⟨(.tup [(.int .u8 65), zE]), 13, []⟩
theorem S15710_ok : SumOk Tryz.prog 133 [(.int .i64 42)] S15710 := SumOk.of_run (K := K_NA0b) (n := 5000) (keep := []) mixed K_NA0b_ok (by kernel_rfl) (by as_aux_lemma => kernel_rfl)

noncomputable def S15702 : Sum := ⟨zI, 20, []⟩
theorem S15702_ok : SumOk Tryz.prog 131 [(.int .i64 177)] S15702 := SumOk.of_run (K := K_NA0b) (n := 5000) (keep := []) mixed K_NA0b_ok (by kernel_rfl) (by as_aux_lemma => kernel_rfl)

noncomputable def S15695 : Sum := ⟨zI, 20, []⟩
theorem S15695_ok : SumOk Tryz.prog 131 [zED] S15695 := SumOk.of_run (K := K_NA0b) (n := 5000) (keep := []) mixed K_NA0b_ok (by kernel_rfl) (by as_aux_lemma => kernel_rfl)

noncomputable def S15565 : Sum := ⟨zI, 6, []⟩
theorem S15565_ok : SumOk Tryz.prog 306 [(.str 2 18803)] S15565 := SumOk.of_run (K := K_NA0b) (n := 5000) (keep := []) mixed K_NA0b_ok (by kernel_rfl) (by as_aux_lemma => kernel_rfl)

noncomputable def S15505 : Sum := ⟨zI, 6, []⟩
theorem S15505_ok : SumOk Tryz.prog 306 [(.str 2 18808)] S15505 := SumOk.of_run (K := K_NA0b) (n := 5000) (keep := []) mixed K_NA0b_ok (by kernel_rfl) (by as_aux_lemma => kernel_rfl)

noncomputable def S15446 : Sum := ⟨zI, 6, []⟩
theorem S15446_ok : SumOk Tryz.prog 306 [(.str 2 23155)] S15446 := SumOk.of_run (K := K_NA0b) (n := 5000) (keep := []) mixed K_NA0b_ok (by kernel_rfl) (by as_aux_lemma => kernel_rfl)

noncomputable def S15388 : Sum := ⟨zI, 6, []⟩
theorem S15388_ok : SumOk Tryz.prog 306 [(.str 2 23160)] S15388 := SumOk.of_run (K := K_NA0b) (n := 5000) (keep := []) mixed K_NA0b_ok (by kernel_rfl) (by as_aux_lemma => kernel_rfl)

noncomputable def S15331 : Sum := ⟨zI, 6, []⟩
theorem S15331_ok : SumOk Tryz.prog 306 [(.str 2 17267)] S15331 := SumOk.of_run (K := K_NA0b) (n := 5000) (keep := []) mixed K_NA0b_ok (by kernel_rfl) (by as_aux_lemma => kernel_rfl)

noncomputable def S15275 : Sum := ⟨zI, 6, []⟩
theorem S15275_ok : SumOk Tryz.prog 306 [(.str 2 17272)] S15275 := SumOk.of_run (K := K_NA0b) (n := 5000) (keep := []) mixed K_NA0b_ok (by kernel_rfl) (by as_aux_lemma => kernel_rfl)

noncomputable def S15220 : Sum := ⟨zI, 6, []⟩
theorem S15220_ok : SumOk Tryz.prog 306 [(.str 2 21363)] S15220 := SumOk.of_run (K := K_NA0b) (n := 5000) (keep := []) mixed K_NA0b_ok (by kernel_rfl) (by as_aux_lemma => kernel_rfl)

noncomputable def S15166 : Sum := ⟨zI, 6, []⟩
theorem S15166_ok : SumOk Tryz.prog 306 [(.str 2 21368)] S15166 := SumOk.of_run (K := K_NA0b) (n := 5000) (keep := []) mixed K_NA0b_ok (by kernel_rfl) (by as_aux_lemma => kernel_rfl)

noncomputable def S15113 : Sum := ⟨zI, 6, []⟩
theorem S15113_ok : SumOk Tryz.prog 306 [(.str 2 17011)] S15113 := SumOk.of_run (K := K_NA0b) (n := 5000) (keep := []) mixed K_NA0b_ok (by kernel_rfl) (by as_aux_lemma => kernel_rfl)

noncomputable def S15061 : Sum := ⟨zI, 6, []⟩
theorem S15061_ok : SumOk Tryz.prog 306 [(.str 2 17016)] S15061 := SumOk.of_run (K := K_NA0b) (n := 5000) (keep := []) mixed K_NA0b_ok (by kernel_rfl) (by as_aux_lemma => kernel_rfl)

noncomputable def S14904 : Sum := ⟨zI, 5, []⟩
theorem S14904_ok : SumOk Tryz.prog 179 [zDA] S14904 := SumOk.of_run (K := K_NA0b) (n := 5000) (keep := []) mixed K_NA0b_ok (by kernel_rfl) (by as_aux_lemma => kernel_rfl)

noncomputable def S14854 : Sum := ⟨zI, 2, []⟩
theorem S14854_ok : SumOk Tryz.prog 435 [zAB, zBS, zJ] S14854 := SumOk.of_run (K := K_NA0b) (n := 5000) (keep := []) mixed K_NA0b_ok (by kernel_rfl) (by as_aux_lemma => kernel_rfl)

noncomputable def S14809 : Sum := ⟨(.int .i64 (-1)), 1, []⟩
theorem S14809_ok : SumOk Tryz.prog 474 [zAB, (.str 4 794508078)] S14809 := SumOk.of_run (K := K_NA0b) (n := 5000) (keep := []) mixed K_NA0b_ok (by kernel_rfl) (by as_aux_lemma => kernel_rfl)

noncomputable def S14794 : Sum := ⟨(.tup [(.so 12 0 6 1), zI]), 13, [(12, (.cells 6 true [] (T.ofList 0 .leaf [(.int .u16 60), (.int .u16 105), (.int .u16 110), (.int .u16 105), (.int .u16 116), (.int .u16 62)])))]⟩
theorem S14794_ok : SumOk Tryz.prog 181 [zAB] S14794 := SumOk.of_run (K := K_NA0b) (n := 5000) (keep := [12]) mixed K_NA0b_ok (by kernel_rfl) (by as_aux_lemma => kernel_rfl)

noncomputable def S14717 : Sum := ⟨(.tup [(.so 32 0 16 1), zI]), 33, [(32, (.cells 16 true [] (T.ofList 0 .leaf [(.int .u16 106), (.int .u16 97), (.int .u16 118), (.int .u16 97), (.int .u16 47), (.int .u16 108), (.int .u16 97), (.int .u16 110), (.int .u16 103), (.int .u16 47), (.int .u16 79), (.int .u16 98), (.int .u16 106), (.int .u16 101), (.int .u16 99), (.int .u16 116)])))]⟩
theorem S14717_ok : SumOk Tryz.prog 181 [zG] S14717 := SumOk.of_run (K := K_NA0b) (n := 5000) (keep := [32]) mixed K_NA0b_ok (by kernel_rfl) (by as_aux_lemma => kernel_rfl)

noncomputable def I14415 : In := ⟨45, [(.ptr 6868 0), zDA], 15486, [q640, q641, q642, q643], zFB, 15505, [q644, (15489, (.cells 4 true [] (T.ofList 0 .leaf [zM, zB, zM, (.int .u8 65)]))), (15498, (.cells 3 true [] (T.ofList 0 .leaf [(.int .u8 7), zB, (.int .u8 23)]))), (15500, (.cells 24 true [] (T.ofList 0 .leaf [zFQ, zGE, zBW, zCP, zAV, zFE, zCM, zDO, zEF, zDY, zEM, zFC, zEW, zFF, zFX, zFR, zGC, (.str 2 23157), (.str 3 5927797), (.str 3 4814965), (.str 2 18805), (.str 3 4813685), zES, zET]))), (15502, (.cells 24 true [] (T.ofList 0 .leaf [(.so 6873 0 19 1), (.so 6882 0 3 1), (.so 6892 0 9 1), (.so 6902 0 6 1), (.so 6913 0 5 1), (.so 6925 0 5 1), (.so 6968 0 7 1), (.so 6988 0 5 1), (.so 7000 0 4 1), (.so 7016 0 5 1), (.so 7361 0 5 1), (.so 7373 0 4 1), (.so 7389 0 5 1), (.so 7686 0 5 1), (.so 7698 0 4 1), (.so 7714 0 5 1), (.so 8011 0 5 1), (.so 8023 0 4 1), (.so 8039 0 5 1), (.so 8336 0 5 1), (.so 8348 0 4 1), (.so 8364 0 5 1), (.so 15489 0 4 1), (.so 15498 0 3 1)]))), (15504, (.cells 24 true [] (T.ofList 0 .leaf [zC, zK, zD, zF, zBG, zN, zAL, zAH, zT, zJ, zDL, zBJ, zAZ, zBT, zCH, zBZ, zBX, zEE, zEO, zER, zEH, zEP, zCL, zFB])))]⟩
theorem I14415_ok : InOk Tryz.prog I14415 := InOk.of_run (K := K_NA0b) (n := 5000) mixed K_NA0b_ok (by kernel_rfl) (by as_aux_lemma => kernel_rfl)

noncomputable def I14051 : In := ⟨104, [(.ptr 11912 0), zL], 15263, [(8657, (.map [] 0)), q18, q645, q656, q20, (11911, (.map [] 0)), (11912, (.cells 5 false [] (T.ofList 0 .leaf [(.ptr 8659 0), .nils, .nils, .nils, (.map 11911)])))], zC, 15291, [(8657, (.map [] 0)), q18, q645, q656, q20, q653, q654, q655, (15288, (.cells 2 true [] (T.ofList 0 .leaf [zQ, zQ]))), (15290, (.cells 1 true [] (T.ofList 0 .leaf [zA])))]⟩
theorem I14051_ok : InOk Tryz.prog I14051 := InOk.of_run (K := K_NA0b) (n := 5000) mixed K_NA0b_ok (by kernel_rfl) (by as_aux_lemma => kernel_rfl)

noncomputable def I7858 : In := ⟨47, [(.ptr 6982 0), (.str 5 315385933685), (.so 8619 0 7 1), zC], 8620, [q684, q685, q686, q687], (.int .i64 53), 8626, [(6982, (.cells 13 false [] (T.ofList 0 .leaf [(.so 8621 0 53 1), (.so 8623 0 53 1), (.so 8625 0 53 1), (.int .i64 54), zCN, zG, zAJ, zAG, .nils, .nils, zA, (.so 8531 0 356 1), zT]))), q577, q578, q579]⟩
theorem I7858_ok : InOk Tryz.prog I7858 := InOk.of_run (K := K_NA0b) (n := 5000) mixed K_NA0b_ok (by kernel_rfl) (by as_aux_lemma => kernel_rfl)

noncomputable def I7850 : In := ⟨47, [(.ptr 6982 0), (.str 7 20611760439312697), (.so 8607 0 5 1), zC], 8608, [q684, q685, q687], zAG, 8608, [q684, q685, q687]⟩
theorem I7850_ok : InOk Tryz.prog I7850 := InOk.of_run (K := K_NA0b) (n := 5000) mixed K_NA0b_ok (by kernel_rfl) (by as_aux_lemma => kernel_rfl)

noncomputable def I7847 : In := ⟨47, [(.ptr 6982 0), (.str 5 314510504814), (.so 8601 0 5 1), zC], 8602, [q684, q685, q687], (.int .i64 51), 8602, [q684, q685, q687]⟩
theorem I7847_ok : InOk Tryz.prog I7847 := InOk.of_run (K := K_NA0b) (n := 5000) mixed K_NA0b_ok (by kernel_rfl) (by as_aux_lemma => kernel_rfl)

noncomputable def I7842 : In := ⟨51, [(.ptr 6982 0), (.str 1 73)], 8593, [q684, q685, q687], (.int .i64 46), 8597, [q684, q685, q687]⟩
theorem I7842_ok : InOk Tryz.prog I7842 := InOk.of_run (K := K_NA0b) (n := 5000) mixed K_NA0b_ok (by kernel_rfl) (by as_aux_lemma => kernel_rfl)

noncomputable def I7841 : In := ⟨47, [(.ptr 6982 0), (.str 3 4813685), (.so 8592 0 5 1), zC], 8593, [q684, q685, q687], (.int .i64 50), 8593, [q684, q685, q687]⟩
theorem I7841_ok : InOk Tryz.prog I7841 := InOk.of_run (K := K_NA0b) (n := 5000) mixed K_NA0b_ok (by kernel_rfl) (by as_aux_lemma => kernel_rfl)

noncomputable def tab_NA0b : List (FuncId × SRows) := (181, [([zAB], S14794), ([zG], S14717)]) :: (474, [([zAB, (.str 4 794508078)], S14809)]) :: (435, [([zAB, zBS, zJ], S14854)]) :: (306, [([(.str 2 18803)], S15565), ([(.str 2 18808)], S15505), ([(.str 2 23155)], S15446), ([(.str 2 23160)], S15388), ([(.str 2 17267)], S15331), ([(.str 2 17272)], S15275), ([(.str 2 21363)], S15220), ([(.str 2 21368)], S15166), ([(.str 2 17011)], S15113), ([(.str 2 17016)], S15061)]) :: (179, [([zCN], S16951), ([zDA], S14904)]) :: (78, [([zCC], S17187)]) :: (133, [([zFK], S17416), ([(.int .i64 180)], S17410), ([(.int .i64 181)], S17399), ([zCZ], S17389), ([(.int .i64 76)], S17384), ([(.int .i64 89)], S17360), ([(.int .i64 187)], S17345), ([(.int .i64 177)], S15734), ([zED], S15715), ([(.int .i64 42)], S15710)]) :: (131, [([(.int .i64 179)], S17562), ([zFK], S17337), ([(.int .i64 180)], S17330), ([(.int .i64 181)], S17319), ([(.int .i64 76)], S17307), ([(.int .i64 89)], S17294), ([(.int .i64 187)], S17287), ([(.int .i64 177)], S15702), ([zED], S15695)]) :: []
theorem tab_NA0b_ok : TabOk Tryz.prog tab_NA0b := (TabOk.cons (RowsOk.cons S14794_ok (RowsOk.cons S14717_ok RowsOk.nil)) (TabOk.cons (RowsOk.cons S14809_ok RowsOk.nil) (TabOk.cons (RowsOk.cons S14854_ok RowsOk.nil) (TabOk.cons (RowsOk.cons S15565_ok (RowsOk.cons S15505_ok (RowsOk.cons S15446_ok (RowsOk.cons S15388_ok (RowsOk.cons S15331_ok (RowsOk.cons S15275_ok (RowsOk.cons S15220_ok (RowsOk.cons S15166_ok (RowsOk.cons S15113_ok (RowsOk.cons S15061_ok RowsOk.nil)))))))))) (TabOk.cons (RowsOk.cons S16951_ok (RowsOk.cons S14904_ok RowsOk.nil)) (TabOk.cons (RowsOk.cons S17187_ok RowsOk.nil) (TabOk.cons (RowsOk.cons S17416_ok (RowsOk.cons S17410_ok (RowsOk.cons S17399_ok (RowsOk.cons S17389_ok (RowsOk.cons S17384_ok (RowsOk.cons S17360_ok (RowsOk.cons S17345_ok (RowsOk.cons S15734_ok (RowsOk.cons S15715_ok (RowsOk.cons S15710_ok RowsOk.nil)))))))))) (TabOk.cons (RowsOk.cons S17562_ok (RowsOk.cons S17337_ok (RowsOk.cons S17330_ok (RowsOk.cons S17319_ok (RowsOk.cons S17307_ok (RowsOk.cons S17294_ok (RowsOk.cons S17287_ok (RowsOk.cons S15702_ok (RowsOk.cons S15695_ok RowsOk.nil))))))))) TabOk.nil))))))))
noncomputable def H_NA0b : Hand := (((Hand.at 51 (inHand I7842)).or ((Hand.at 104 (inHand I14051)).or ((Hand.at 45 (inHand I14415)).or ((Hand.at 47 (Hand.sp 16393 (Hand.sp 8608 ((inHand I7847).or (inHand I7841)) ((inHand I7858).or (inHand I7850))) (Hand.sp 16412 ((inHand I15770).or (inHand I15768)) ((inHand I15776).or (inHand I15774))))).or (Hand.at 368 ((inHand I16881).or (inHand I16922))))))).or (sumsHand tab_NA0b))
theorem H_NA0b_ok : HandOk Tryz.prog H_NA0b := (HandOk.or (HandOk.or (HandOk.at 51 (inHand_ok I7842_ok (by kernel_rfl))) (HandOk.or (HandOk.at 104 (inHand_ok I14051_ok (by kernel_rfl))) (HandOk.or (HandOk.at 45 (inHand_ok I14415_ok (by kernel_rfl))) (HandOk.or (HandOk.at 47 (HandOk.sp 16393 (HandOk.sp 8608 (HandOk.or (inHand_ok I7847_ok (by kernel_rfl)) (inHand_ok I7841_ok (by kernel_rfl))) (HandOk.or (inHand_ok I7858_ok (by kernel_rfl)) (inHand_ok I7850_ok (by kernel_rfl)))) (HandOk.sp 16412 (HandOk.or (inHand_ok I15770_ok (by kernel_rfl)) (inHand_ok I15768_ok (by kernel_rfl))) (HandOk.or (inHand_ok I15776_ok (by kernel_rfl)) (inHand_ok I15774_ok (by kernel_rfl)))))) (HandOk.at 368 (HandOk.or (inHand_ok I16881_ok (by kernel_rfl)) (inHand_ok I16922_ok (by kernel_rfl)))))))) (sumsHand_ok tab_NA0b_ok))
end Go.Proofs.YtedimikdpclpnaaGreatDoor.na
