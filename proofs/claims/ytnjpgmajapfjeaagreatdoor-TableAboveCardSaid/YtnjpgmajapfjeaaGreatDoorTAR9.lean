/-
  Runs of the law TableAbove, by the kernel.
-/
import Derived.Test.YtnjpgmajapfjeaaGreatDoorXN3
import Derived.Test.YtnjpgmajapfjeaaGreatDoorTAH
set_option linter.unusedVariables false
set_option maxRecDepth 1000000
set_option maxHeartbeats 0
namespace Go.Proofs.YtnjpgmajapfjeaaGreatDoor.ta
open Go.X Go.RowKit
theorem r3_1 : okTrue (@call Tab.empty Tryz.prog K_top0 5000 4 [.int .i64 3, .int .i64 1] H.empty) = true := (by as_aux_lemma => kernel_rfl)
theorem r4_0 : okTrue (@call Tab.empty Tryz.prog K_top0 5000 4 [.int .i64 4, .int .i64 0] H.empty) = true := (by as_aux_lemma => kernel_rfl)
theorem r4_4 : okTrue (@call Tab.empty Tryz.prog K_top0 5000 4 [.int .i64 4, .int .i64 4] H.empty) = true := (by as_aux_lemma => kernel_rfl)
theorem r7_4 : okTrue (@call Tab.empty Tryz.prog K_top0 5000 4 [.int .i64 7, .int .i64 4] H.empty) = true := (by as_aux_lemma => kernel_rfl)
theorem r10_7 : okTrue (@call Tab.empty Tryz.prog K_top0 5000 4 [.int .i64 10, .int .i64 7] H.empty) = true := (by as_aux_lemma => kernel_rfl)
theorem r12_1 : okTrue (@call Tab.empty Tryz.prog K_top0 5000 4 [.int .i64 12, .int .i64 1] H.empty) = true := (by as_aux_lemma => kernel_rfl)
theorem r12_3 : okTrue (@call Tab.empty Tryz.prog K_top0 5000 4 [.int .i64 12, .int .i64 3] H.empty) = true := (by as_aux_lemma => kernel_rfl)
theorem r13_2 : okTrue (@call Tab.empty Tryz.prog K_top0 5000 4 [.int .i64 13, .int .i64 2] H.empty) = true := (by as_aux_lemma => kernel_rfl)
theorem r13_7 : okTrue (@call Tab.empty Tryz.prog K_top0 5000 4 [.int .i64 13, .int .i64 7] H.empty) = true := (by as_aux_lemma => kernel_rfl)
theorem r13_9 : okTrue (@call Tab.empty Tryz.prog K_top0 5000 4 [.int .i64 13, .int .i64 9] H.empty) = true := (by as_aux_lemma => kernel_rfl)
theorem r13_13 : okTrue (@call Tab.empty Tryz.prog K_top0 5000 4 [.int .i64 13, .int .i64 13] H.empty) = true := (by as_aux_lemma => kernel_rfl)
theorem r15_2 : okTrue (@call Tab.empty Tryz.prog K_top0 5000 4 [.int .i64 15, .int .i64 2] H.empty) = true := (by as_aux_lemma => kernel_rfl)
theorem r17_16 : okTrue (@call Tab.empty Tryz.prog K_top0 5000 4 [.int .i64 17, .int .i64 16] H.empty) = true := (by as_aux_lemma => kernel_rfl)
theorem r18_2 : okTrue (@call Tab.empty Tryz.prog K_top0 5000 4 [.int .i64 18, .int .i64 2] H.empty) = true := (by as_aux_lemma => kernel_rfl)
theorem r19_10 : okTrue (@call Tab.empty Tryz.prog K_top0 5000 4 [.int .i64 19, .int .i64 10] H.empty) = true := (by as_aux_lemma => kernel_rfl)
theorem r20_4 : okTrue (@call Tab.empty Tryz.prog K_top0 5000 4 [.int .i64 20, .int .i64 4] H.empty) = true := (by as_aux_lemma => kernel_rfl)
theorem r20_9 : okTrue (@call Tab.empty Tryz.prog K_top0 5000 4 [.int .i64 20, .int .i64 9] H.empty) = true := (by as_aux_lemma => kernel_rfl)
end Go.Proofs.YtnjpgmajapfjeaaGreatDoor.ta
