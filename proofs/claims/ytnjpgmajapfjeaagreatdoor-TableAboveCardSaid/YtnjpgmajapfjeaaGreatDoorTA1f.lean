/-
  Contracts of calls, by the kernel.
-/
import Derived.Test.YtnjpgmajapfjeaaGreatDoorXN3
import Derived.Test.YtnjpgmajapfjeaaGreatDoorProg
import Derived.KernelRfl
import Derived.Test.YtnjpgmajapfjeaaGreatDoorTA0a
set_option linter.unusedSectionVars false
set_option linter.unusedVariables false
set_option maxRecDepth 1000000
set_option maxHeartbeats 0
namespace Go.Proofs.YtnjpgmajapfjeaaGreatDoor.ta
open Go.X Go.RowKit
variable [Tab]
noncomputable def K_TA1f : Hand := H_TA0a
theorem K_TA1f_ok : HandOk Tryz.prog K_TA1f := H_TA0a_ok

noncomputable def I9014297 : In := ⟨18, [(.so 12245 0 229 1)], 12246, [q67], (.tup [(.ptr 12252 0), (.int .i64 0)]), 13183, [q67, (12252, (.cells 8 false [] (T.ofList 0 .leaf [(.int .i64 52), (.sl 12254 0 37 37), (.int .i64 33), (.str 1 120), (.str 16 154706541852025644484233205990057992554), (.so 13182 0 16 1), .nils, .nils]))), (13182, (.cells 16 true [] (T.ofList 0 .leaf [(.str 3 7496035), (.str 3 7430499), (.str 3 7364963), (.str 3 7299427), (.str 3 7233891), (.str 3 7168355), (.str 3 7102819), (.str 3 7037283), (.str 3 6971747), (.str 3 6906211), (.str 3 6840675), (.str 3 6775139), (.str 3 6709603), (.str 3 6644067), (.str 3 6578531), (.str 3 6512995)])))]⟩
theorem I9014297_ok : InOk Tryz.prog I9014297 := InOk.of_run (K := K_TA1f) (n := 5000) mixed K_TA1f_ok (by kernel_rfl) (by as_aux_lemma => kernel_rfl)

noncomputable def I10127027 : In := ⟨18, [(.so 12552 0 207 1)], 12553, [q68], (.tup [(.ptr 12559 0), (.int .i64 0)]), 13394, [q68, (12559, (.cells 8 false [] (T.ofList 0 .leaf [(.int .i64 52), (.sl 12561 0 33 33), (.int .i64 33), (.str 1 120), (.str 16 154706541852025644484233205990057992554), (.so 13393 0 14 1), .nils, .nils]))), (13393, (.cells 14 true [] (T.ofList 0 .leaf [(.str 3 7561571), (.str 3 7496035), (.str 3 7430499), (.str 3 7364963), (.str 3 7299427), (.str 3 7233891), (.str 3 7168355), (.str 3 7102819), (.str 3 7037283), (.str 3 6971747), (.str 3 6906211), (.str 3 6840675), (.str 3 6775139), (.str 3 6709603)])))]⟩
theorem I10127027_ok : InOk Tryz.prog I10127027 := InOk.of_run (K := K_TA1f) (n := 5000) mixed K_TA1f_ok (by kernel_rfl) (by as_aux_lemma => kernel_rfl)

noncomputable def I10110744 : In := ⟨18, [(.so 12545 0 196 1)], 12546, [q69], (.tup [(.ptr 12552 0), (.int .i64 0)]), 13339, [q69, (12552, (.cells 8 false [] (T.ofList 0 .leaf [(.int .i64 52), (.sl 12554 0 31 31), (.int .i64 33), (.str 1 120), (.str 16 154706541852025644484233205990057992554), (.so 13338 0 13 1), .nils, .nils]))), (13338, (.cells 13 true [] (T.ofList 0 .leaf [(.str 3 7561571), (.str 3 7496035), (.str 3 7430499), (.str 3 7364963), (.str 3 7299427), (.str 3 7233891), (.str 3 7168355), (.str 3 7102819), (.str 3 7037283), (.str 3 6971747), (.str 3 6906211), (.str 3 6840675), (.str 3 6775139)])))]⟩
theorem I10110744_ok : InOk Tryz.prog I10110744 := InOk.of_run (K := K_TA1f) (n := 5000) mixed K_TA1f_ok (by kernel_rfl) (by as_aux_lemma => kernel_rfl)

noncomputable def I10094543 : In := ⟨18, [(.so 12538 0 185 1)], 12539, [q70], (.tup [(.ptr 12545 0), (.int .i64 0)]), 13284, [q70, (12545, (.cells 8 false [] (T.ofList 0 .leaf [(.int .i64 52), (.sl 12547 0 29 29), (.int .i64 33), (.str 1 120), (.str 16 154706541852025644484233205990057992554), (.so 13283 0 12 1), .nils, .nils]))), (13283, (.cells 12 true [] (T.ofList 0 .leaf [(.str 3 7561571), (.str 3 7496035), (.str 3 7430499), (.str 3 7364963), (.str 3 7299427), (.str 3 7233891), (.str 3 7168355), (.str 3 7102819), (.str 3 7037283), (.str 3 6971747), (.str 3 6906211), (.str 3 6840675)])))]⟩
theorem I10094543_ok : InOk Tryz.prog I10094543 := InOk.of_run (K := K_TA1f) (n := 5000) mixed K_TA1f_ok (by kernel_rfl) (by as_aux_lemma => kernel_rfl)

noncomputable def I10078424 : In := ⟨18, [(.so 12531 0 174 1)], 12532, [q71], (.tup [(.ptr 12538 0), (.int .i64 0)]), 13229, [q71, (12538, (.cells 8 false [] (T.ofList 0 .leaf [(.int .i64 52), (.sl 12540 0 27 27), (.int .i64 33), (.str 1 120), (.str 16 154706541852025644484233205990057992554), (.so 13228 0 11 1), .nils, .nils]))), (13228, (.cells 11 true [] (T.ofList 0 .leaf [(.str 3 7561571), (.str 3 7496035), (.str 3 7430499), (.str 3 7364963), (.str 3 7299427), (.str 3 7233891), (.str 3 7168355), (.str 3 7102819), (.str 3 7037283), (.str 3 6971747), (.str 3 6906211)])))]⟩
theorem I10078424_ok : InOk Tryz.prog I10078424 := InOk.of_run (K := K_TA1f) (n := 5000) mixed K_TA1f_ok (by kernel_rfl) (by as_aux_lemma => kernel_rfl)

noncomputable def I10062387 : In := ⟨18, [(.so 12524 0 163 1)], 12525, [q72], (.tup [(.ptr 12531 0), (.int .i64 0)]), 13174, [q72, (12531, (.cells 8 false [] (T.ofList 0 .leaf [(.int .i64 52), (.sl 12533 0 25 25), (.int .i64 33), (.str 1 120), (.str 16 154706541852025644484233205990057992554), (.so 13173 0 10 1), .nils, .nils]))), (13173, (.cells 10 true [] (T.ofList 0 .leaf [(.str 3 7561571), (.str 3 7496035), (.str 3 7430499), (.str 3 7364963), (.str 3 7299427), (.str 3 7233891), (.str 3 7168355), (.str 3 7102819), (.str 3 7037283), (.str 3 6971747)])))]⟩
theorem I10062387_ok : InOk Tryz.prog I10062387 := InOk.of_run (K := K_TA1f) (n := 5000) mixed K_TA1f_ok (by kernel_rfl) (by as_aux_lemma => kernel_rfl)

noncomputable def I10046432 : In := ⟨18, [(.so 12517 0 152 1)], 12518, [q73], (.tup [(.ptr 12524 0), (.int .i64 0)]), 13119, [q73, (12524, (.cells 8 false [] (T.ofList 0 .leaf [(.int .i64 52), (.sl 12526 0 23 23), (.int .i64 33), (.str 1 120), (.str 16 154706541852025644484233205990057992554), (.so 13118 0 9 1), .nils, .nils]))), (13118, (.cells 9 true [] (T.ofList 0 .leaf [(.str 3 7561571), (.str 3 7496035), (.str 3 7430499), (.str 3 7364963), (.str 3 7299427), (.str 3 7233891), (.str 3 7168355), (.str 3 7102819), (.str 3 7037283)])))]⟩
theorem I10046432_ok : InOk Tryz.prog I10046432 := InOk.of_run (K := K_TA1f) (n := 5000) mixed K_TA1f_ok (by kernel_rfl) (by as_aux_lemma => kernel_rfl)

noncomputable def I10030559 : In := ⟨18, [(.so 12510 0 141 1)], 12511, [q74], (.tup [(.ptr 12517 0), (.int .i64 0)]), 13064, [q74, (12517, (.cells 8 false [] (T.ofList 0 .leaf [(.int .i64 52), (.sl 12519 0 21 21), (.int .i64 33), (.str 1 120), (.str 16 154706541852025644484233205990057992554), (.so 13063 0 8 1), .nils, .nils]))), (13063, (.cells 8 true [] (T.ofList 0 .leaf [(.str 3 7561571), (.str 3 7496035), (.str 3 7430499), (.str 3 7364963), (.str 3 7299427), (.str 3 7233891), (.str 3 7168355), (.str 3 7102819)])))]⟩
theorem I10030559_ok : InOk Tryz.prog I10030559 := InOk.of_run (K := K_TA1f) (n := 5000) mixed K_TA1f_ok (by kernel_rfl) (by as_aux_lemma => kernel_rfl)

noncomputable def I10014768 : In := ⟨18, [(.so 12503 0 130 1)], 12504, [q75], (.tup [(.ptr 12510 0), (.int .i64 0)]), 13009, [q75, (12510, (.cells 8 false [] (T.ofList 0 .leaf [(.int .i64 52), (.sl 12512 0 19 19), (.int .i64 33), (.str 1 120), (.str 16 154706541852025644484233205990057992554), (.so 13008 0 7 1), .nils, .nils]))), (13008, (.cells 7 true [] (T.ofList 0 .leaf [(.str 3 7561571), (.str 3 7496035), (.str 3 7430499), (.str 3 7364963), (.str 3 7299427), (.str 3 7233891), (.str 3 7168355)])))]⟩
theorem I10014768_ok : InOk Tryz.prog I10014768 := InOk.of_run (K := K_TA1f) (n := 5000) mixed K_TA1f_ok (by kernel_rfl) (by as_aux_lemma => kernel_rfl)

noncomputable def I11081048 : In := ⟨18, [(.so 12587 0 262 1)], 12588, [q76], (.tup [(.ptr 12594 0), (.int .i64 0)]), 13669, [q76, (12594, (.cells 8 false [] (T.ofList 0 .leaf [(.int .i64 52), (.sl 12596 0 43 43), (.int .i64 33), (.str 1 120), (.str 16 154706541852025644484233205990057992554), (.so 13668 0 19 1), .nils, .nils]))), (13668, (.cells 19 true [] (T.ofList 0 .leaf [(.str 3 7561571), (.str 3 7496035), (.str 3 7430499), (.str 3 7364963), (.str 3 7299427), (.str 3 7233891), (.str 3 7168355), (.str 3 7102819), (.str 3 7037283), (.str 3 6971747), (.str 3 6906211), (.str 3 6840675), (.str 3 6775139), (.str 3 6709603), (.str 3 6644067), (.str 3 6578531), (.str 3 6512995), (.str 3 6447459), (.str 3 6381923)])))]⟩
theorem I11081048_ok : InOk Tryz.prog I11081048 := InOk.of_run (K := K_TA1f) (n := 5000) mixed K_TA1f_ok (by kernel_rfl) (by as_aux_lemma => kernel_rfl)
noncomputable def H_TA1f : Hand := (Hand.at 18 (Hand.sp 12532 (Hand.sp 12511 ((inHand I10014768).or (inHand I9014297)) (Hand.sp 12518 (inHand I10030559) ((inHand I10062387).or (inHand I10046432)))) (Hand.sp 12546 ((inHand I10094543).or (inHand I10078424)) (Hand.sp 12553 (inHand I10110744) ((inHand I11081048).or (inHand I10127027))))))
theorem H_TA1f_ok : HandOk Tryz.prog H_TA1f := (HandOk.at 18 (HandOk.sp 12532 (HandOk.sp 12511 (HandOk.or (inHand_ok I10014768_ok (by kernel_rfl)) (inHand_ok I9014297_ok (by kernel_rfl))) (HandOk.sp 12518 (inHand_ok I10030559_ok (by kernel_rfl)) (HandOk.or (inHand_ok I10062387_ok (by kernel_rfl)) (inHand_ok I10046432_ok (by kernel_rfl))))) (HandOk.sp 12546 (HandOk.or (inHand_ok I10094543_ok (by kernel_rfl)) (inHand_ok I10078424_ok (by kernel_rfl))) (HandOk.sp 12553 (inHand_ok I10110744_ok (by kernel_rfl)) (HandOk.or (inHand_ok I11081048_ok (by kernel_rfl)) (inHand_ok I10127027_ok (by kernel_rfl)))))))
end Go.Proofs.YtnjpgmajapfjeaaGreatDoor.ta
