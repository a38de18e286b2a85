/-
  Contracts of calls, by the kernel.
-/
import Derived.Test.YtnjpgmajapfjeaaGreatDoorXN3
import Derived.Test.YtnjpgmajapfjeaaGreatDoorProg
import Derived.KernelRfl
import Derived.Test.YtnjpgmajapfjeaaGreatDoorTA0a
set_option linter.unusedSectionVars false
set_option linter.unusedVariables false
set_option maxRecDepth 1000000
set_option maxHeartbeats 0
namespace Go.Proofs.YtnjpgmajapfjeaaGreatDoor.ta
open Go.X Go.RowKit
variable [Tab]
noncomputable def K_TA1b : Hand := H_TA0a
theorem K_TA1b_ok : HandOk Tryz.prog K_TA1b := H_TA0a_ok

noncomputable def I2025105 : In := ⟨18, [(.so 10605 0 174 1)], 10606, [q25], (.tup [(.ptr 10612 0), (.int .i64 0)]), 11303, [q25, (10612, (.cells 8 false [] (T.ofList 0 .leaf [(.int .i64 52), (.sl 10614 0 27 27), (.int .i64 33), (.str 1 120), (.str 16 154706541852025644484233205990057992554), (.so 11302 0 11 1), .nils, .nils]))), (11302, (.cells 11 true [] (T.ofList 0 .leaf [(.str 3 7168355), (.str 3 7102819), (.str 3 7037283), (.str 3 6971747), (.str 3 6906211), (.str 3 6840675), (.str 3 6775139), (.str 3 6709603), (.str 3 6644067), (.str 3 6578531), (.str 3 6512995)])))]⟩
theorem I2025105_ok : InOk Tryz.prog I2025105 := InOk.of_run (K := K_TA1b) (n := 5000) mixed K_TA1b_ok (by kernel_rfl) (by as_aux_lemma => kernel_rfl)

noncomputable def I2011942 : In := ⟨18, [(.so 10598 0 163 1)], 10599, [q26], (.tup [(.ptr 10605 0), (.int .i64 0)]), 11248, [q26, (10605, (.cells 8 false [] (T.ofList 0 .leaf [(.int .i64 52), (.sl 10607 0 25 25), (.int .i64 33), (.str 1 120), (.str 16 154706541852025644484233205990057992554), (.so 11247 0 10 1), .nils, .nils]))), (11247, (.cells 10 true [] (T.ofList 0 .leaf [(.str 3 7168355), (.str 3 7102819), (.str 3 7037283), (.str 3 6971747), (.str 3 6906211), (.str 3 6840675), (.str 3 6775139), (.str 3 6709603), (.str 3 6644067), (.str 3 6578531)])))]⟩
theorem I2011942_ok : InOk Tryz.prog I2011942 := InOk.of_run (K := K_TA1b) (n := 5000) mixed K_TA1b_ok (by kernel_rfl) (by as_aux_lemma => kernel_rfl)

noncomputable def I3067473 : In := ⟨18, [(.so 10947 0 207 1)], 10948, [q27], (.tup [(.ptr 10954 0), (.int .i64 0)]), 11789, [q27, (10954, (.cells 8 false [] (T.ofList 0 .leaf [(.int .i64 52), (.sl 10956 0 33 33), (.int .i64 33), (.str 1 120), (.str 16 154706541852025644484233205990057992554), (.so 11788 0 14 1), .nils, .nils]))), (11788, (.cells 14 true [] (T.ofList 0 .leaf [(.str 3 7233891), (.str 3 7168355), (.str 3 7102819), (.str 3 7037283), (.str 3 6971747), (.str 3 6906211), (.str 3 6840675), (.str 3 6775139), (.str 3 6709603), (.str 3 6644067), (.str 3 6578531), (.str 3 6512995), (.str 3 6447459), (.str 3 6381923)])))]⟩
theorem I3067473_ok : InOk Tryz.prog I3067473 := InOk.of_run (K := K_TA1b) (n := 5000) mixed K_TA1b_ok (by kernel_rfl) (by as_aux_lemma => kernel_rfl)

noncomputable def I3053585 : In := ⟨18, [(.so 10940 0 196 1)], 10941, [q28], (.tup [(.ptr 10947 0), (.int .i64 0)]), 11734, [q28, (10947, (.cells 8 false [] (T.ofList 0 .leaf [(.int .i64 52), (.sl 10949 0 31 31), (.int .i64 33), (.str 1 120), (.str 16 154706541852025644484233205990057992554), (.so 11733 0 13 1), .nils, .nils]))), (11733, (.cells 13 true [] (T.ofList 0 .leaf [(.str 3 7233891), (.str 3 7168355), (.str 3 7102819), (.str 3 7037283), (.str 3 6971747), (.str 3 6906211), (.str 3 6840675), (.str 3 6775139), (.str 3 6709603), (.str 3 6644067), (.str 3 6578531), (.str 3 6512995), (.str 3 6447459)])))]⟩
theorem I3053585_ok : InOk Tryz.prog I3053585 := InOk.of_run (K := K_TA1b) (n := 5000) mixed K_TA1b_ok (by kernel_rfl) (by as_aux_lemma => kernel_rfl)

noncomputable def I3039779 : In := ⟨18, [(.so 10933 0 185 1)], 10934, [q29], (.tup [(.ptr 10940 0), (.int .i64 0)]), 11679, [q29, (10940, (.cells 8 false [] (T.ofList 0 .leaf [(.int .i64 52), (.sl 10942 0 29 29), (.int .i64 33), (.str 1 120), (.str 16 154706541852025644484233205990057992554), (.so 11678 0 12 1), .nils, .nils]))), (11678, (.cells 12 true [] (T.ofList 0 .leaf [(.str 3 7233891), (.str 3 7168355), (.str 3 7102819), (.str 3 7037283), (.str 3 6971747), (.str 3 6906211), (.str 3 6840675), (.str 3 6775139), (.str 3 6709603), (.str 3 6644067), (.str 3 6578531), (.str 3 6512995)])))]⟩
theorem I3039779_ok : InOk Tryz.prog I3039779 := InOk.of_run (K := K_TA1b) (n := 5000) mixed K_TA1b_ok (by kernel_rfl) (by as_aux_lemma => kernel_rfl)

noncomputable def I3026055 : In := ⟨18, [(.so 10926 0 174 1)], 10927, [q30], (.tup [(.ptr 10933 0), (.int .i64 0)]), 11624, [q30, (10933, (.cells 8 false [] (T.ofList 0 .leaf [(.int .i64 52), (.sl 10935 0 27 27), (.int .i64 33), (.str 1 120), (.str 16 154706541852025644484233205990057992554), (.so 11623 0 11 1), .nils, .nils]))), (11623, (.cells 11 true [] (T.ofList 0 .leaf [(.str 3 7233891), (.str 3 7168355), (.str 3 7102819), (.str 3 7037283), (.str 3 6971747), (.str 3 6906211), (.str 3 6840675), (.str 3 6775139), (.str 3 6709603), (.str 3 6644067), (.str 3 6578531)])))]⟩
theorem I3026055_ok : InOk Tryz.prog I3026055 := InOk.of_run (K := K_TA1b) (n := 5000) mixed K_TA1b_ok (by kernel_rfl) (by as_aux_lemma => kernel_rfl)

noncomputable def I3012413 : In := ⟨18, [(.so 10919 0 163 1)], 10920, [q31], (.tup [(.ptr 10926 0), (.int .i64 0)]), 11569, [q31, (10926, (.cells 8 false [] (T.ofList 0 .leaf [(.int .i64 52), (.sl 10928 0 25 25), (.int .i64 33), (.str 1 120), (.str 16 154706541852025644484233205990057992554), (.so 11568 0 10 1), .nils, .nils]))), (11568, (.cells 10 true [] (T.ofList 0 .leaf [(.str 3 7233891), (.str 3 7168355), (.str 3 7102819), (.str 3 7037283), (.str 3 6971747), (.str 3 6906211), (.str 3 6840675), (.str 3 6775139), (.str 3 6709603), (.str 3 6644067)])))]⟩
theorem I3012413_ok : InOk Tryz.prog I3012413 := InOk.of_run (K := K_TA1b) (n := 5000) mixed K_TA1b_ok (by kernel_rfl) (by as_aux_lemma => kernel_rfl)

noncomputable def I4098348 : In := ⟨18, [(.so 11275 0 218 1)], 11276, [q32], (.tup [(.ptr 11282 0), (.int .i64 0)]), 12165, [q32, (11282, (.cells 8 false [] (T.ofList 0 .leaf [(.int .i64 52), (.sl 11284 0 35 35), (.int .i64 33), (.str 1 120), (.str 16 154706541852025644484233205990057992554), (.so 12164 0 15 1), .nils, .nils]))), (12164, (.cells 15 true [] (T.ofList 0 .leaf [(.str 3 7299427), (.str 3 7233891), (.str 3 7168355), (.str 3 7102819), (.str 3 7037283), (.str 3 6971747), (.str 3 6906211), (.str 3 6840675), (.str 3 6775139), (.str 3 6709603), (.str 3 6644067), (.str 3 6578531), (.str 3 6512995), (.str 3 6447459), (.str 3 6381923)])))]⟩
theorem I4098348_ok : InOk Tryz.prog I4098348 := InOk.of_run (K := K_TA1b) (n := 5000) mixed K_TA1b_ok (by kernel_rfl) (by as_aux_lemma => kernel_rfl)

noncomputable def I4083899 : In := ⟨18, [(.so 11268 0 207 1)], 11269, [q33], (.tup [(.ptr 11275 0), (.int .i64 0)]), 12110, [q33, (11275, (.cells 8 false [] (T.ofList 0 .leaf [(.int .i64 52), (.sl 11277 0 33 33), (.int .i64 33), (.str 1 120), (.str 16 154706541852025644484233205990057992554), (.so 12109 0 14 1), .nils, .nils]))), (12109, (.cells 14 true [] (T.ofList 0 .leaf [(.str 3 7299427), (.str 3 7233891), (.str 3 7168355), (.str 3 7102819), (.str 3 7037283), (.str 3 6971747), (.str 3 6906211), (.str 3 6840675), (.str 3 6775139), (.str 3 6709603), (.str 3 6644067), (.str 3 6578531), (.str 3 6512995), (.str 3 6447459)])))]⟩
theorem I4083899_ok : InOk Tryz.prog I4083899 := InOk.of_run (K := K_TA1b) (n := 5000) mixed K_TA1b_ok (by kernel_rfl) (by as_aux_lemma => kernel_rfl)

noncomputable def I4069532 : In := ⟨18, [(.so 11261 0 196 1)], 11262, [q34], (.tup [(.ptr 11268 0), (.int .i64 0)]), 12055, [q34, (11268, (.cells 8 false [] (T.ofList 0 .leaf [(.int .i64 52), (.sl 11270 0 31 31), (.int .i64 33), (.str 1 120), (.str 16 154706541852025644484233205990057992554), (.so 12054 0 13 1), .nils, .nils]))), (12054, (.cells 13 true [] (T.ofList 0 .leaf [(.str 3 7299427), (.str 3 7233891), (.str 3 7168355), (.str 3 7102819), (.str 3 7037283), (.str 3 6971747), (.str 3 6906211), (.str 3 6840675), (.str 3 6775139), (.str 3 6709603), (.str 3 6644067), (.str 3 6578531), (.str 3 6512995)])))]⟩
theorem I4069532_ok : InOk Tryz.prog I4069532 := InOk.of_run (K := K_TA1b) (n := 5000) mixed K_TA1b_ok (by kernel_rfl) (by as_aux_lemma => kernel_rfl)

noncomputable def I4055247 : In := ⟨18, [(.so 11254 0 185 1)], 11255, [q35], (.tup [(.ptr 11261 0), (.int .i64 0)]), 12000, [q35, (11261, (.cells 8 false [] (T.ofList 0 .leaf [(.int .i64 52), (.sl 11263 0 29 29), (.int .i64 33), (.str 1 120), (.str 16 154706541852025644484233205990057992554), (.so 11999 0 12 1), .nils, .nils]))), (11999, (.cells 12 true [] (T.ofList 0 .leaf [(.str 3 7299427), (.str 3 7233891), (.str 3 7168355), (.str 3 7102819), (.str 3 7037283), (.str 3 6971747), (.str 3 6906211), (.str 3 6840675), (.str 3 6775139), (.str 3 6709603), (.str 3 6644067), (.str 3 6578531)])))]⟩
theorem I4055247_ok : InOk Tryz.prog I4055247 := InOk.of_run (K := K_TA1b) (n := 5000) mixed K_TA1b_ok (by kernel_rfl) (by as_aux_lemma => kernel_rfl)
noncomputable def H_TA1b : Hand := (Hand.at 18 (Hand.sp 10941 (Hand.sp 10920 ((inHand I2025105).or (inHand I2011942)) (Hand.sp 10927 (inHand I3012413) ((inHand I3039779).or (inHand I3026055)))) (Hand.sp 11262 (Hand.sp 10948 (inHand I3053585) ((inHand I4055247).or (inHand I3067473))) (Hand.sp 11269 (inHand I4069532) ((inHand I4098348).or (inHand I4083899))))))
theorem H_TA1b_ok : HandOk Tryz.prog H_TA1b := (HandOk.at 18 (HandOk.sp 10941 (HandOk.sp 10920 (HandOk.or (inHand_ok I2025105_ok (by kernel_rfl)) (inHand_ok I2011942_ok (by kernel_rfl))) (HandOk.sp 10927 (inHand_ok I3012413_ok (by kernel_rfl)) (HandOk.or (inHand_ok I3039779_ok (by kernel_rfl)) (inHand_ok I3026055_ok (by kernel_rfl))))) (HandOk.sp 11262 (HandOk.sp 10948 (inHand_ok I3053585_ok (by kernel_rfl)) (HandOk.or (inHand_ok I4055247_ok (by kernel_rfl)) (inHand_ok I3067473_ok (by kernel_rfl)))) (HandOk.sp 11269 (inHand_ok I4069532_ok (by kernel_rfl)) (HandOk.or (inHand_ok I4098348_ok (by kernel_rfl)) (inHand_ok I4083899_ok (by kernel_rfl)))))))
end Go.Proofs.YtnjpgmajapfjeaaGreatDoor.ta
