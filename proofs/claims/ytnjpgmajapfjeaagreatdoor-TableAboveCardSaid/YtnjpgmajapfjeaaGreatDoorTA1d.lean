/-
  Contracts of calls, by the kernel.
-/
import Derived.Test.YtnjpgmajapfjeaaGreatDoorXN3
import Derived.Test.YtnjpgmajapfjeaaGreatDoorProg
import Derived.KernelRfl
import Derived.Test.YtnjpgmajapfjeaaGreatDoorTA0a
set_option linter.unusedSectionVars false
set_option linter.unusedVariables false
set_option maxRecDepth 1000000
set_option maxHeartbeats 0
namespace Go.Proofs.YtnjpgmajapfjeaaGreatDoor.ta
open Go.X Go.RowKit
variable [Tab]
noncomputable def K_TA1d : Hand := H_TA0a
theorem K_TA1d_ok : HandOk Tryz.prog K_TA1d := H_TA0a_ok

noncomputable def I6119953 : In := ⟨18, [(.so 11917 0 218 1)], 11918, [q47], (.tup [(.ptr 11924 0), (.int .i64 0)]), 12807, [q47, (11924, (.cells 8 false [] (T.ofList 0 .leaf [(.int .i64 52), (.sl 11926 0 35 35), (.int .i64 33), (.str 1 120), (.str 16 154706541852025644484233205990057992554), (.so 12806 0 15 1), .nils, .nils]))), (12806, (.cells 15 true [] (T.ofList 0 .leaf [(.str 3 7430499), (.str 3 7364963), (.str 3 7299427), (.str 3 7233891), (.str 3 7168355), (.str 3 7102819), (.str 3 7037283), (.str 3 6971747), (.str 3 6906211), (.str 3 6840675), (.str 3 6775139), (.str 3 6709603), (.str 3 6644067), (.str 3 6578531), (.str 3 6512995)])))]⟩
theorem I6119953_ok : InOk Tryz.prog I6119953 := InOk.of_run (K := K_TA1d) (n := 5000) mixed K_TA1d_ok (by kernel_rfl) (by as_aux_lemma => kernel_rfl)

noncomputable def I6104546 : In := ⟨18, [(.so 11910 0 207 1)], 11911, [q48], (.tup [(.ptr 11917 0), (.int .i64 0)]), 12752, [q48, (11917, (.cells 8 false [] (T.ofList 0 .leaf [(.int .i64 52), (.sl 11919 0 33 33), (.int .i64 33), (.str 1 120), (.str 16 154706541852025644484233205990057992554), (.so 12751 0 14 1), .nils, .nils]))), (12751, (.cells 14 true [] (T.ofList 0 .leaf [(.str 3 7430499), (.str 3 7364963), (.str 3 7299427), (.str 3 7233891), (.str 3 7168355), (.str 3 7102819), (.str 3 7037283), (.str 3 6971747), (.str 3 6906211), (.str 3 6840675), (.str 3 6775139), (.str 3 6709603), (.str 3 6644067), (.str 3 6578531)])))]⟩
theorem I6104546_ok : InOk Tryz.prog I6104546 := InOk.of_run (K := K_TA1d) (n := 5000) mixed K_TA1d_ok (by kernel_rfl) (by as_aux_lemma => kernel_rfl)

noncomputable def I6089221 : In := ⟨18, [(.so 11903 0 196 1)], 11904, [q49], (.tup [(.ptr 11910 0), (.int .i64 0)]), 12697, [q49, (11910, (.cells 8 false [] (T.ofList 0 .leaf [(.int .i64 52), (.sl 11912 0 31 31), (.int .i64 33), (.str 1 120), (.str 16 154706541852025644484233205990057992554), (.so 12696 0 13 1), .nils, .nils]))), (12696, (.cells 13 true [] (T.ofList 0 .leaf [(.str 3 7430499), (.str 3 7364963), (.str 3 7299427), (.str 3 7233891), (.str 3 7168355), (.str 3 7102819), (.str 3 7037283), (.str 3 6971747), (.str 3 6906211), (.str 3 6840675), (.str 3 6775139), (.str 3 6709603), (.str 3 6644067)])))]⟩
theorem I6089221_ok : InOk Tryz.prog I6089221 := InOk.of_run (K := K_TA1d) (n := 5000) mixed K_TA1d_ok (by kernel_rfl) (by as_aux_lemma => kernel_rfl)

noncomputable def I6073978 : In := ⟨18, [(.so 11896 0 185 1)], 11897, [q50], (.tup [(.ptr 11903 0), (.int .i64 0)]), 12642, [q50, (11903, (.cells 8 false [] (T.ofList 0 .leaf [(.int .i64 52), (.sl 11905 0 29 29), (.int .i64 33), (.str 1 120), (.str 16 154706541852025644484233205990057992554), (.so 12641 0 12 1), .nils, .nils]))), (12641, (.cells 12 true [] (T.ofList 0 .leaf [(.str 3 7430499), (.str 3 7364963), (.str 3 7299427), (.str 3 7233891), (.str 3 7168355), (.str 3 7102819), (.str 3 7037283), (.str 3 6971747), (.str 3 6906211), (.str 3 6840675), (.str 3 6775139), (.str 3 6709603)])))]⟩
theorem I6073978_ok : InOk Tryz.prog I6073978 := InOk.of_run (K := K_TA1d) (n := 5000) mixed K_TA1d_ok (by kernel_rfl) (by as_aux_lemma => kernel_rfl)

noncomputable def I6058817 : In := ⟨18, [(.so 11889 0 174 1)], 11890, [q51], (.tup [(.ptr 11896 0), (.int .i64 0)]), 12587, [q51, (11896, (.cells 8 false [] (T.ofList 0 .leaf [(.int .i64 52), (.sl 11898 0 27 27), (.int .i64 33), (.str 1 120), (.str 16 154706541852025644484233205990057992554), (.so 12586 0 11 1), .nils, .nils]))), (12586, (.cells 11 true [] (T.ofList 0 .leaf [(.str 3 7430499), (.str 3 7364963), (.str 3 7299427), (.str 3 7233891), (.str 3 7168355), (.str 3 7102819), (.str 3 7037283), (.str 3 6971747), (.str 3 6906211), (.str 3 6840675), (.str 3 6775139)])))]⟩
theorem I6058817_ok : InOk Tryz.prog I6058817 := InOk.of_run (K := K_TA1d) (n := 5000) mixed K_TA1d_ok (by kernel_rfl) (by as_aux_lemma => kernel_rfl)

noncomputable def I6043738 : In := ⟨18, [(.so 11882 0 163 1)], 11883, [q52], (.tup [(.ptr 11889 0), (.int .i64 0)]), 12532, [q52, (11889, (.cells 8 false [] (T.ofList 0 .leaf [(.int .i64 52), (.sl 11891 0 25 25), (.int .i64 33), (.str 1 120), (.str 16 154706541852025644484233205990057992554), (.so 12531 0 10 1), .nils, .nils]))), (12531, (.cells 10 true [] (T.ofList 0 .leaf [(.str 3 7430499), (.str 3 7364963), (.str 3 7299427), (.str 3 7233891), (.str 3 7168355), (.str 3 7102819), (.str 3 7037283), (.str 3 6971747), (.str 3 6906211), (.str 3 6840675)])))]⟩
theorem I6043738_ok : InOk Tryz.prog I6043738 := InOk.of_run (K := K_TA1d) (n := 5000) mixed K_TA1d_ok (by kernel_rfl) (by as_aux_lemma => kernel_rfl)

noncomputable def I6028741 : In := ⟨18, [(.so 11875 0 152 1)], 11876, [q53], (.tup [(.ptr 11882 0), (.int .i64 0)]), 12477, [q53, (11882, (.cells 8 false [] (T.ofList 0 .leaf [(.int .i64 52), (.sl 11884 0 23 23), (.int .i64 33), (.str 1 120), (.str 16 154706541852025644484233205990057992554), (.so 12476 0 9 1), .nils, .nils]))), (12476, (.cells 9 true [] (T.ofList 0 .leaf [(.str 3 7430499), (.str 3 7364963), (.str 3 7299427), (.str 3 7233891), (.str 3 7168355), (.str 3 7102819), (.str 3 7037283), (.str 3 6971747), (.str 3 6906211)])))]⟩
theorem I6028741_ok : InOk Tryz.prog I6028741 := InOk.of_run (K := K_TA1d) (n := 5000) mixed K_TA1d_ok (by kernel_rfl) (by as_aux_lemma => kernel_rfl)

noncomputable def I6013826 : In := ⟨18, [(.so 11868 0 141 1)], 11869, [q54], (.tup [(.ptr 11875 0), (.int .i64 0)]), 12422, [q54, (11875, (.cells 8 false [] (T.ofList 0 .leaf [(.int .i64 52), (.sl 11877 0 21 21), (.int .i64 33), (.str 1 120), (.str 16 154706541852025644484233205990057992554), (.so 12421 0 8 1), .nils, .nils]))), (12421, (.cells 8 true [] (T.ofList 0 .leaf [(.str 3 7430499), (.str 3 7364963), (.str 3 7299427), (.str 3 7233891), (.str 3 7168355), (.str 3 7102819), (.str 3 7037283), (.str 3 6971747)])))]⟩
theorem I6013826_ok : InOk Tryz.prog I6013826 := InOk.of_run (K := K_TA1d) (n := 5000) mixed K_TA1d_ok (by kernel_rfl) (by as_aux_lemma => kernel_rfl)

noncomputable def I7029397 : In := ⟨18, [(.so 11931 0 240 1)], 11932, [q55], (.tup [(.ptr 11938 0), (.int .i64 0)]), 12917, [q55, (11938, (.cells 8 false [] (T.ofList 0 .leaf [(.int .i64 52), (.sl 11940 0 39 39), (.int .i64 33), (.str 1 120), (.str 16 154706541852025644484233205990057992554), (.so 12916 0 17 1), .nils, .nils]))), (12916, (.cells 17 true [] (T.ofList 0 .leaf [(.str 3 7430499), (.str 3 7364963), (.str 3 7299427), (.str 3 7233891), (.str 3 7168355), (.str 3 7102819), (.str 3 7037283), (.str 3 6971747), (.str 3 6906211), (.str 3 6840675), (.str 3 6775139), (.str 3 6709603), (.str 3 6644067), (.str 3 6578531), (.str 3 6512995), (.str 3 6447459), (.str 3 6381923)])))]⟩
theorem I7029397_ok : InOk Tryz.prog I7029397 := InOk.of_run (K := K_TA1d) (n := 5000) mixed K_TA1d_ok (by kernel_rfl) (by as_aux_lemma => kernel_rfl)

noncomputable def I7013826 : In := ⟨18, [(.so 11924 0 229 1)], 11925, [q56], (.tup [(.ptr 11931 0), (.int .i64 0)]), 12862, [q56, (11931, (.cells 8 false [] (T.ofList 0 .leaf [(.int .i64 52), (.sl 11933 0 37 37), (.int .i64 33), (.str 1 120), (.str 16 154706541852025644484233205990057992554), (.so 12861 0 16 1), .nils, .nils]))), (12861, (.cells 16 true [] (T.ofList 0 .leaf [(.str 3 7430499), (.str 3 7364963), (.str 3 7299427), (.str 3 7233891), (.str 3 7168355), (.str 3 7102819), (.str 3 7037283), (.str 3 6971747), (.str 3 6906211), (.str 3 6840675), (.str 3 6775139), (.str 3 6709603), (.str 3 6644067), (.str 3 6578531), (.str 3 6512995), (.str 3 6447459)])))]⟩
theorem I7013826_ok : InOk Tryz.prog I7013826 := InOk.of_run (K := K_TA1d) (n := 5000) mixed K_TA1d_ok (by kernel_rfl) (by as_aux_lemma => kernel_rfl)
noncomputable def H_TA1d : Hand := (Hand.at 18 (Hand.sp 11904 (Hand.sp 11883 ((inHand I6028741).or (inHand I6013826)) (Hand.sp 11890 (inHand I6043738) ((inHand I6073978).or (inHand I6058817)))) (Hand.sp 11918 ((inHand I6104546).or (inHand I6089221)) (Hand.sp 11925 (inHand I6119953) ((inHand I7029397).or (inHand I7013826))))))
theorem H_TA1d_ok : HandOk Tryz.prog H_TA1d := (HandOk.at 18 (HandOk.sp 11904 (HandOk.sp 11883 (HandOk.or (inHand_ok I6028741_ok (by kernel_rfl)) (inHand_ok I6013826_ok (by kernel_rfl))) (HandOk.sp 11890 (inHand_ok I6043738_ok (by kernel_rfl)) (HandOk.or (inHand_ok I6073978_ok (by kernel_rfl)) (inHand_ok I6058817_ok (by kernel_rfl))))) (HandOk.sp 11918 (HandOk.or (inHand_ok I6104546_ok (by kernel_rfl)) (inHand_ok I6089221_ok (by kernel_rfl))) (HandOk.sp 11925 (inHand_ok I6119953_ok (by kernel_rfl)) (HandOk.or (inHand_ok I7029397_ok (by kernel_rfl)) (inHand_ok I7013826_ok (by kernel_rfl)))))))
end Go.Proofs.YtnjpgmajapfjeaaGreatDoor.ta
