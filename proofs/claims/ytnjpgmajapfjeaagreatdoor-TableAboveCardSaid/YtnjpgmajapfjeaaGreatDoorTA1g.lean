/-
  Contracts of calls, by the kernel.
-/
import Derived.Test.YtnjpgmajapfjeaaGreatDoorXN3
import Derived.Test.YtnjpgmajapfjeaaGreatDoorProg
import Derived.KernelRfl
import Derived.Test.YtnjpgmajapfjeaaGreatDoorTA0a
set_option linter.unusedSectionVars false
set_option linter.unusedVariables false
set_option maxRecDepth 1000000
set_option maxHeartbeats 0
namespace Go.Proofs.YtnjpgmajapfjeaaGreatDoor.ta
open Go.X Go.RowKit
variable [Tab]
noncomputable def K_TA1g : Hand := H_TA0a
theorem K_TA1g_ok : HandOk Tryz.prog K_TA1g := H_TA0a_ok

noncomputable def I11064355 : In := ⟨18, [(.so 12580 0 251 1)], 12581, [q77], (.tup [(.ptr 12587 0), (.int .i64 0)]), 13614, [q77, (12587, (.cells 8 false [] (T.ofList 0 .leaf [(.int .i64 52), (.sl 12589 0 41 41), (.int .i64 33), (.str 1 120), (.str 16 154706541852025644484233205990057992554), (.so 13613 0 18 1), .nils, .nils]))), (13613, (.cells 18 true [] (T.ofList 0 .leaf [(.str 3 7561571), (.str 3 7496035), (.str 3 7430499), (.str 3 7364963), (.str 3 7299427), (.str 3 7233891), (.str 3 7168355), (.str 3 7102819), (.str 3 7037283), (.str 3 6971747), (.str 3 6906211), (.str 3 6840675), (.str 3 6775139), (.str 3 6709603), (.str 3 6644067), (.str 3 6578531), (.str 3 6512995), (.str 3 6447459)])))]⟩
theorem I11064355_ok : InOk Tryz.prog I11064355 := InOk.of_run (K := K_TA1g) (n := 5000) mixed K_TA1g_ok (by kernel_rfl) (by as_aux_lemma => kernel_rfl)

noncomputable def I11047744 : In := ⟨18, [(.so 12573 0 240 1)], 12574, [q78], (.tup [(.ptr 12580 0), (.int .i64 0)]), 13559, [q78, (12580, (.cells 8 false [] (T.ofList 0 .leaf [(.int .i64 52), (.sl 12582 0 39 39), (.int .i64 33), (.str 1 120), (.str 16 154706541852025644484233205990057992554), (.so 13558 0 17 1), .nils, .nils]))), (13558, (.cells 17 true [] (T.ofList 0 .leaf [(.str 3 7561571), (.str 3 7496035), (.str 3 7430499), (.str 3 7364963), (.str 3 7299427), (.str 3 7233891), (.str 3 7168355), (.str 3 7102819), (.str 3 7037283), (.str 3 6971747), (.str 3 6906211), (.str 3 6840675), (.str 3 6775139), (.str 3 6709603), (.str 3 6644067), (.str 3 6578531), (.str 3 6512995)])))]⟩
theorem I11047744_ok : InOk Tryz.prog I11047744 := InOk.of_run (K := K_TA1g) (n := 5000) mixed K_TA1g_ok (by kernel_rfl) (by as_aux_lemma => kernel_rfl)

noncomputable def I11031215 : In := ⟨18, [(.so 12566 0 229 1)], 12567, [q79], (.tup [(.ptr 12573 0), (.int .i64 0)]), 13504, [q79, (12573, (.cells 8 false [] (T.ofList 0 .leaf [(.int .i64 52), (.sl 12575 0 37 37), (.int .i64 33), (.str 1 120), (.str 16 154706541852025644484233205990057992554), (.so 13503 0 16 1), .nils, .nils]))), (13503, (.cells 16 true [] (T.ofList 0 .leaf [(.str 3 7561571), (.str 3 7496035), (.str 3 7430499), (.str 3 7364963), (.str 3 7299427), (.str 3 7233891), (.str 3 7168355), (.str 3 7102819), (.str 3 7037283), (.str 3 6971747), (.str 3 6906211), (.str 3 6840675), (.str 3 6775139), (.str 3 6709603), (.str 3 6644067), (.str 3 6578531)])))]⟩
theorem I11031215_ok : InOk Tryz.prog I11031215 := InOk.of_run (K := K_TA1g) (n := 5000) mixed K_TA1g_ok (by kernel_rfl) (by as_aux_lemma => kernel_rfl)

noncomputable def I11014768 : In := ⟨18, [(.so 12559 0 218 1)], 12560, [q80], (.tup [(.ptr 12566 0), (.int .i64 0)]), 13449, [q80, (12566, (.cells 8 false [] (T.ofList 0 .leaf [(.int .i64 52), (.sl 12568 0 35 35), (.int .i64 33), (.str 1 120), (.str 16 154706541852025644484233205990057992554), (.so 13448 0 15 1), .nils, .nils]))), (13448, (.cells 15 true [] (T.ofList 0 .leaf [(.str 3 7561571), (.str 3 7496035), (.str 3 7430499), (.str 3 7364963), (.str 3 7299427), (.str 3 7233891), (.str 3 7168355), (.str 3 7102819), (.str 3 7037283), (.str 3 6971747), (.str 3 6906211), (.str 3 6840675), (.str 3 6775139), (.str 3 6709603), (.str 3 6644067)])))]⟩
theorem I11014768_ok : InOk Tryz.prog I11014768 := InOk.of_run (K := K_TA1g) (n := 5000) mixed K_TA1g_ok (by kernel_rfl) (by as_aux_lemma => kernel_rfl)

noncomputable def I12130277 : In := ⟨18, [(.so 12866 0 196 1)], 12867, [q81], (.tup [(.ptr 12873 0), (.int .i64 0)]), 13660, [q81, (12873, (.cells 8 false [] (T.ofList 0 .leaf [(.int .i64 52), (.sl 12875 0 31 31), (.int .i64 33), (.str 1 120), (.str 16 154706541852025644484233205990057992554), (.so 13659 0 13 1), .nils, .nils]))), (13659, (.cells 13 true [] (T.ofList 0 .leaf [(.str 3 7627107), (.str 3 7561571), (.str 3 7496035), (.str 3 7430499), (.str 3 7364963), (.str 3 7299427), (.str 3 7233891), (.str 3 7168355), (.str 3 7102819), (.str 3 7037283), (.str 3 6971747), (.str 3 6906211), (.str 3 6840675)])))]⟩
theorem I12130277_ok : InOk Tryz.prog I12130277 := InOk.of_run (K := K_TA1g) (n := 5000) mixed K_TA1g_ok (by kernel_rfl) (by as_aux_lemma => kernel_rfl)

noncomputable def I12113597 : In := ⟨18, [(.so 12859 0 185 1)], 12860, [q82], (.tup [(.ptr 12866 0), (.int .i64 0)]), 13605, [q82, (12866, (.cells 8 false [] (T.ofList 0 .leaf [(.int .i64 52), (.sl 12868 0 29 29), (.int .i64 33), (.str 1 120), (.str 16 154706541852025644484233205990057992554), (.so 13604 0 12 1), .nils, .nils]))), (13604, (.cells 12 true [] (T.ofList 0 .leaf [(.str 3 7627107), (.str 3 7561571), (.str 3 7496035), (.str 3 7430499), (.str 3 7364963), (.str 3 7299427), (.str 3 7233891), (.str 3 7168355), (.str 3 7102819), (.str 3 7037283), (.str 3 6971747), (.str 3 6906211)])))]⟩
theorem I12113597_ok : InOk Tryz.prog I12113597 := InOk.of_run (K := K_TA1g) (n := 5000) mixed K_TA1g_ok (by kernel_rfl) (by as_aux_lemma => kernel_rfl)

noncomputable def I12096999 : In := ⟨18, [(.so 12852 0 174 1)], 12853, [q83], (.tup [(.ptr 12859 0), (.int .i64 0)]), 13550, [q83, (12859, (.cells 8 false [] (T.ofList 0 .leaf [(.int .i64 52), (.sl 12861 0 27 27), (.int .i64 33), (.str 1 120), (.str 16 154706541852025644484233205990057992554), (.so 13549 0 11 1), .nils, .nils]))), (13549, (.cells 11 true [] (T.ofList 0 .leaf [(.str 3 7627107), (.str 3 7561571), (.str 3 7496035), (.str 3 7430499), (.str 3 7364963), (.str 3 7299427), (.str 3 7233891), (.str 3 7168355), (.str 3 7102819), (.str 3 7037283), (.str 3 6971747)])))]⟩
theorem I12096999_ok : InOk Tryz.prog I12096999 := InOk.of_run (K := K_TA1g) (n := 5000) mixed K_TA1g_ok (by kernel_rfl) (by as_aux_lemma => kernel_rfl)

noncomputable def I12080483 : In := ⟨18, [(.so 12845 0 163 1)], 12846, [q84], (.tup [(.ptr 12852 0), (.int .i64 0)]), 13495, [q84, (12852, (.cells 8 false [] (T.ofList 0 .leaf [(.int .i64 52), (.sl 12854 0 25 25), (.int .i64 33), (.str 1 120), (.str 16 154706541852025644484233205990057992554), (.so 13494 0 10 1), .nils, .nils]))), (13494, (.cells 10 true [] (T.ofList 0 .leaf [(.str 3 7627107), (.str 3 7561571), (.str 3 7496035), (.str 3 7430499), (.str 3 7364963), (.str 3 7299427), (.str 3 7233891), (.str 3 7168355), (.str 3 7102819), (.str 3 7037283)])))]⟩
theorem I12080483_ok : InOk Tryz.prog I12080483 := InOk.of_run (K := K_TA1g) (n := 5000) mixed K_TA1g_ok (by kernel_rfl) (by as_aux_lemma => kernel_rfl)

noncomputable def I12064049 : In := ⟨18, [(.so 12838 0 152 1)], 12839, [q85], (.tup [(.ptr 12845 0), (.int .i64 0)]), 13440, [q85, (12845, (.cells 8 false [] (T.ofList 0 .leaf [(.int .i64 52), (.sl 12847 0 23 23), (.int .i64 33), (.str 1 120), (.str 16 154706541852025644484233205990057992554), (.so 13439 0 9 1), .nils, .nils]))), (13439, (.cells 9 true [] (T.ofList 0 .leaf [(.str 3 7627107), (.str 3 7561571), (.str 3 7496035), (.str 3 7430499), (.str 3 7364963), (.str 3 7299427), (.str 3 7233891), (.str 3 7168355), (.str 3 7102819)])))]⟩
theorem I12064049_ok : InOk Tryz.prog I12064049 := InOk.of_run (K := K_TA1g) (n := 5000) mixed K_TA1g_ok (by kernel_rfl) (by as_aux_lemma => kernel_rfl)

noncomputable def I12047697 : In := ⟨18, [(.so 12831 0 141 1)], 12832, [q86], (.tup [(.ptr 12838 0), (.int .i64 0)]), 13385, [q86, (12838, (.cells 8 false [] (T.ofList 0 .leaf [(.int .i64 52), (.sl 12840 0 21 21), (.int .i64 33), (.str 1 120), (.str 16 154706541852025644484233205990057992554), (.so 13384 0 8 1), .nils, .nils]))), (13384, (.cells 8 true [] (T.ofList 0 .leaf [(.str 3 7627107), (.str 3 7561571), (.str 3 7496035), (.str 3 7430499), (.str 3 7364963), (.str 3 7299427), (.str 3 7233891), (.str 3 7168355)])))]⟩
theorem I12047697_ok : InOk Tryz.prog I12047697 := InOk.of_run (K := K_TA1g) (n := 5000) mixed K_TA1g_ok (by kernel_rfl) (by as_aux_lemma => kernel_rfl)

noncomputable def I12031427 : In := ⟨18, [(.so 12824 0 130 1)], 12825, [q87], (.tup [(.ptr 12831 0), (.int .i64 0)]), 13330, [q87, (12831, (.cells 8 false [] (T.ofList 0 .leaf [(.int .i64 52), (.sl 12833 0 19 19), (.int .i64 33), (.str 1 120), (.str 16 154706541852025644484233205990057992554), (.so 13329 0 7 1), .nils, .nils]))), (13329, (.cells 7 true [] (T.ofList 0 .leaf [(.str 3 7627107), (.str 3 7561571), (.str 3 7496035), (.str 3 7430499), (.str 3 7364963), (.str 3 7299427), (.str 3 7233891)])))]⟩
theorem I12031427_ok : InOk Tryz.prog I12031427 := InOk.of_run (K := K_TA1g) (n := 5000) mixed K_TA1g_ok (by kernel_rfl) (by as_aux_lemma => kernel_rfl)
noncomputable def H_TA1g : Hand := (Hand.at 18 (Hand.sp 12832 (Hand.sp 12574 ((inHand I11031215).or (inHand I11014768)) (Hand.sp 12581 (inHand I11047744) ((inHand I12031427).or (inHand I11064355)))) (Hand.sp 12853 (Hand.sp 12839 (inHand I12047697) ((inHand I12080483).or (inHand I12064049))) (Hand.sp 12860 (inHand I12096999) ((inHand I12130277).or (inHand I12113597))))))
theorem H_TA1g_ok : HandOk Tryz.prog H_TA1g := (HandOk.at 18 (HandOk.sp 12832 (HandOk.sp 12574 (HandOk.or (inHand_ok I11031215_ok (by kernel_rfl)) (inHand_ok I11014768_ok (by kernel_rfl))) (HandOk.sp 12581 (inHand_ok I11047744_ok (by kernel_rfl)) (HandOk.or (inHand_ok I12031427_ok (by kernel_rfl)) (inHand_ok I11064355_ok (by kernel_rfl))))) (HandOk.sp 12853 (HandOk.sp 12839 (inHand_ok I12047697_ok (by kernel_rfl)) (HandOk.or (inHand_ok I12080483_ok (by kernel_rfl)) (inHand_ok I12064049_ok (by kernel_rfl)))) (HandOk.sp 12860 (inHand_ok I12096999_ok (by kernel_rfl)) (HandOk.or (inHand_ok I12130277_ok (by kernel_rfl)) (inHand_ok I12113597_ok (by kernel_rfl)))))))
end Go.Proofs.YtnjpgmajapfjeaaGreatDoor.ta
