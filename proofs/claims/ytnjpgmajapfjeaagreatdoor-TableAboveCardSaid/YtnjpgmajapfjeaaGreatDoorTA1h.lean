/-
  Contracts of calls, by the kernel.
-/
import Derived.Test.YtnjpgmajapfjeaaGreatDoorXN3
import Derived.Test.YtnjpgmajapfjeaaGreatDoorProg
import Derived.KernelRfl
import Derived.Test.YtnjpgmajapfjeaaGreatDoorTA0a
set_option linter.unusedSectionVars false
set_option linter.unusedVariables false
set_option maxRecDepth 1000000
set_option maxHeartbeats 0
namespace Go.Proofs.YtnjpgmajapfjeaaGreatDoor.ta
open Go.X Go.RowKit
variable [Tab]
noncomputable def K_TA1h : Hand := H_TA0a
theorem K_TA1h_ok : HandOk Tryz.prog K_TA1h := H_TA0a_ok

noncomputable def I12015239 : In := ⟨18, [(.so 12817 0 119 1)], 12818, [q88], (.tup [(.ptr 12824 0), (.int .i64 0)]), 13275, [q88, (12824, (.cells 8 false [] (T.ofList 0 .leaf [(.int .i64 52), (.sl 12826 0 17 17), (.int .i64 33), (.str 1 120), (.str 16 154706541852025644484233205990057992554), (.so 13274 0 6 1), .nils, .nils]))), (13274, (.cells 6 true [] (T.ofList 0 .leaf [(.str 3 7627107), (.str 3 7561571), (.str 3 7496035), (.str 3 7430499), (.str 3 7364963), (.str 3 7299427)])))]⟩
theorem I12015239_ok : InOk Tryz.prog I12015239 := InOk.of_run (K := K_TA1h) (n := 5000) mixed K_TA1h_ok (by kernel_rfl) (by as_aux_lemma => kernel_rfl)

noncomputable def I13117533 : In := ⟨18, [(.so 12915 0 273 1)], 12916, [q89], (.tup [(.ptr 12922 0), (.int .i64 0)]), 14045, [q89, (12922, (.cells 8 false [] (T.ofList 0 .leaf [(.int .i64 52), (.sl 12924 0 45 45), (.int .i64 33), (.str 1 120), (.str 16 154706541852025644484233205990057992554), (.so 14044 0 20 1), .nils, .nils]))), (14044, (.cells 20 true [] (T.ofList 0 .leaf [(.str 3 7627107), (.str 3 7561571), (.str 3 7496035), (.str 3 7430499), (.str 3 7364963), (.str 3 7299427), (.str 3 7233891), (.str 3 7168355), (.str 3 7102819), (.str 3 7037283), (.str 3 6971747), (.str 3 6906211), (.str 3 6840675), (.str 3 6775139), (.str 3 6709603), (.str 3 6644067), (.str 3 6578531), (.str 3 6512995), (.str 3 6447459), (.str 3 6381923)])))]⟩
theorem I13117533_ok : InOk Tryz.prog I13117533 := InOk.of_run (K := K_TA1h) (n := 5000) mixed K_TA1h_ok (by kernel_rfl) (by as_aux_lemma => kernel_rfl)

noncomputable def I13100279 : In := ⟨18, [(.so 12908 0 262 1)], 12909, [q90], (.tup [(.ptr 12915 0), (.int .i64 0)]), 13990, [q90, (12915, (.cells 8 false [] (T.ofList 0 .leaf [(.int .i64 52), (.sl 12917 0 43 43), (.int .i64 33), (.str 1 120), (.str 16 154706541852025644484233205990057992554), (.so 13989 0 19 1), .nils, .nils]))), (13989, (.cells 19 true [] (T.ofList 0 .leaf [(.str 3 7627107), (.str 3 7561571), (.str 3 7496035), (.str 3 7430499), (.str 3 7364963), (.str 3 7299427), (.str 3 7233891), (.str 3 7168355), (.str 3 7102819), (.str 3 7037283), (.str 3 6971747), (.str 3 6906211), (.str 3 6840675), (.str 3 6775139), (.str 3 6709603), (.str 3 6644067), (.str 3 6578531), (.str 3 6512995), (.str 3 6447459)])))]⟩
theorem I13100279_ok : InOk Tryz.prog I13100279 := InOk.of_run (K := K_TA1h) (n := 5000) mixed K_TA1h_ok (by kernel_rfl) (by as_aux_lemma => kernel_rfl)

noncomputable def I13083107 : In := ⟨18, [(.so 12901 0 251 1)], 12902, [q91], (.tup [(.ptr 12908 0), (.int .i64 0)]), 13935, [q91, (12908, (.cells 8 false [] (T.ofList 0 .leaf [(.int .i64 52), (.sl 12910 0 41 41), (.int .i64 33), (.str 1 120), (.str 16 154706541852025644484233205990057992554), (.so 13934 0 18 1), .nils, .nils]))), (13934, (.cells 18 true [] (T.ofList 0 .leaf [(.str 3 7627107), (.str 3 7561571), (.str 3 7496035), (.str 3 7430499), (.str 3 7364963), (.str 3 7299427), (.str 3 7233891), (.str 3 7168355), (.str 3 7102819), (.str 3 7037283), (.str 3 6971747), (.str 3 6906211), (.str 3 6840675), (.str 3 6775139), (.str 3 6709603), (.str 3 6644067), (.str 3 6578531), (.str 3 6512995)])))]⟩
theorem I13083107_ok : InOk Tryz.prog I13083107 := InOk.of_run (K := K_TA1h) (n := 5000) mixed K_TA1h_ok (by kernel_rfl) (by as_aux_lemma => kernel_rfl)

noncomputable def I13066017 : In := ⟨18, [(.so 12894 0 240 1)], 12895, [q92], (.tup [(.ptr 12901 0), (.int .i64 0)]), 13880, [q92, (12901, (.cells 8 false [] (T.ofList 0 .leaf [(.int .i64 52), (.sl 12903 0 39 39), (.int .i64 33), (.str 1 120), (.str 16 154706541852025644484233205990057992554), (.so 13879 0 17 1), .nils, .nils]))), (13879, (.cells 17 true [] (T.ofList 0 .leaf [(.str 3 7627107), (.str 3 7561571), (.str 3 7496035), (.str 3 7430499), (.str 3 7364963), (.str 3 7299427), (.str 3 7233891), (.str 3 7168355), (.str 3 7102819), (.str 3 7037283), (.str 3 6971747), (.str 3 6906211), (.str 3 6840675), (.str 3 6775139), (.str 3 6709603), (.str 3 6644067), (.str 3 6578531)])))]⟩
theorem I13066017_ok : InOk Tryz.prog I13066017 := InOk.of_run (K := K_TA1h) (n := 5000) mixed K_TA1h_ok (by kernel_rfl) (by as_aux_lemma => kernel_rfl)

noncomputable def I13049009 : In := ⟨18, [(.so 12887 0 229 1)], 12888, [q93], (.tup [(.ptr 12894 0), (.int .i64 0)]), 13825, [q93, (12894, (.cells 8 false [] (T.ofList 0 .leaf [(.int .i64 52), (.sl 12896 0 37 37), (.int .i64 33), (.str 1 120), (.str 16 154706541852025644484233205990057992554), (.so 13824 0 16 1), .nils, .nils]))), (13824, (.cells 16 true [] (T.ofList 0 .leaf [(.str 3 7627107), (.str 3 7561571), (.str 3 7496035), (.str 3 7430499), (.str 3 7364963), (.str 3 7299427), (.str 3 7233891), (.str 3 7168355), (.str 3 7102819), (.str 3 7037283), (.str 3 6971747), (.str 3 6906211), (.str 3 6840675), (.str 3 6775139), (.str 3 6709603), (.str 3 6644067)])))]⟩
theorem I13049009_ok : InOk Tryz.prog I13049009 := InOk.of_run (K := K_TA1h) (n := 5000) mixed K_TA1h_ok (by kernel_rfl) (by as_aux_lemma => kernel_rfl)

noncomputable def I13032083 : In := ⟨18, [(.so 12880 0 218 1)], 12881, [q94], (.tup [(.ptr 12887 0), (.int .i64 0)]), 13770, [q94, (12887, (.cells 8 false [] (T.ofList 0 .leaf [(.int .i64 52), (.sl 12889 0 35 35), (.int .i64 33), (.str 1 120), (.str 16 154706541852025644484233205990057992554), (.so 13769 0 15 1), .nils, .nils]))), (13769, (.cells 15 true [] (T.ofList 0 .leaf [(.str 3 7627107), (.str 3 7561571), (.str 3 7496035), (.str 3 7430499), (.str 3 7364963), (.str 3 7299427), (.str 3 7233891), (.str 3 7168355), (.str 3 7102819), (.str 3 7037283), (.str 3 6971747), (.str 3 6906211), (.str 3 6840675), (.str 3 6775139), (.str 3 6709603)])))]⟩
theorem I13032083_ok : InOk Tryz.prog I13032083 := InOk.of_run (K := K_TA1h) (n := 5000) mixed K_TA1h_ok (by kernel_rfl) (by as_aux_lemma => kernel_rfl)

noncomputable def I13015239 : In := ⟨18, [(.so 12873 0 207 1)], 12874, [q95], (.tup [(.ptr 12880 0), (.int .i64 0)]), 13715, [q95, (12880, (.cells 8 false [] (T.ofList 0 .leaf [(.int .i64 52), (.sl 12882 0 33 33), (.int .i64 33), (.str 1 120), (.str 16 154706541852025644484233205990057992554), (.so 13714 0 14 1), .nils, .nils]))), (13714, (.cells 14 true [] (T.ofList 0 .leaf [(.str 3 7627107), (.str 3 7561571), (.str 3 7496035), (.str 3 7430499), (.str 3 7364963), (.str 3 7299427), (.str 3 7233891), (.str 3 7168355), (.str 3 7102819), (.str 3 7037283), (.str 3 6971747), (.str 3 6906211), (.str 3 6840675), (.str 3 6775139)])))]⟩
theorem I13015239_ok : InOk Tryz.prog I13015239 := InOk.of_run (K := K_TA1h) (n := 5000) mixed K_TA1h_ok (by kernel_rfl) (by as_aux_lemma => kernel_rfl)
noncomputable def H_TA1h : Hand := (Hand.at 18 (Hand.sp 12895 (Hand.sp 12881 ((inHand I13015239).or (inHand I12015239)) ((inHand I13049009).or (inHand I13032083))) (Hand.sp 12909 ((inHand I13083107).or (inHand I13066017)) ((inHand I13117533).or (inHand I13100279)))))
theorem H_TA1h_ok : HandOk Tryz.prog H_TA1h := (HandOk.at 18 (HandOk.sp 12895 (HandOk.sp 12881 (HandOk.or (inHand_ok I13015239_ok (by kernel_rfl)) (inHand_ok I12015239_ok (by kernel_rfl))) (HandOk.or (inHand_ok I13049009_ok (by kernel_rfl)) (inHand_ok I13032083_ok (by kernel_rfl)))) (HandOk.sp 12909 (HandOk.or (inHand_ok I13083107_ok (by kernel_rfl)) (inHand_ok I13066017_ok (by kernel_rfl))) (HandOk.or (inHand_ok I13117533_ok (by kernel_rfl)) (inHand_ok I13100279_ok (by kernel_rfl))))))
end Go.Proofs.YtnjpgmajapfjeaaGreatDoor.ta
