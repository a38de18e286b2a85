/-
  Runs of the law TableAbove, by the kernel.
-/
import Derived.Test.YtnjpgmajapfjeaaGreatDoorXN3
import Derived.Test.YtnjpgmajapfjeaaGreatDoorTAH
set_option linter.unusedVariables false
set_option maxRecDepth 1000000
set_option maxHeartbeats 0
namespace Go.Proofs.YtnjpgmajapfjeaaGreatDoor.ta
open Go.X Go.RowKit
theorem r2_2 : okTrue (@call Tab.empty Tryz.prog K_top0 5000 4 [.int .i64 2, .int .i64 2] H.empty) = true := (by as_aux_lemma => kernel_rfl)
theorem r3_0 : okTrue (@call Tab.empty Tryz.prog K_top0 5000 4 [.int .i64 3, .int .i64 0] H.empty) = true := (by as_aux_lemma => kernel_rfl)
theorem r5_4 : okTrue (@call Tab.empty Tryz.prog K_top0 5000 4 [.int .i64 5, .int .i64 4] H.empty) = true := (by as_aux_lemma => kernel_rfl)
theorem r8_7 : okTrue (@call Tab.empty Tryz.prog K_top0 5000 4 [.int .i64 8, .int .i64 7] H.empty) = true := (by as_aux_lemma => kernel_rfl)
theorem r10_3 : okTrue (@call Tab.empty Tryz.prog K_top0 5000 4 [.int .i64 10, .int .i64 3] H.empty) = true := (by as_aux_lemma => kernel_rfl)
theorem r10_9 : okTrue (@call Tab.empty Tryz.prog K_top0 5000 4 [.int .i64 10, .int .i64 9] H.empty) = true := (by as_aux_lemma => kernel_rfl)
theorem r11_3 : okTrue (@call Tab.empty Tryz.prog K_top0 5000 4 [.int .i64 11, .int .i64 3] H.empty) = true := (by as_aux_lemma => kernel_rfl)
theorem r12_12 : okTrue (@call Tab.empty Tryz.prog K_top0 5000 4 [.int .i64 12, .int .i64 12] H.empty) = true := (by as_aux_lemma => kernel_rfl)
theorem r14_2 : okTrue (@call Tab.empty Tryz.prog K_top0 5000 4 [.int .i64 14, .int .i64 2] H.empty) = true := (by as_aux_lemma => kernel_rfl)
theorem r14_8 : okTrue (@call Tab.empty Tryz.prog K_top0 5000 4 [.int .i64 14, .int .i64 8] H.empty) = true := (by as_aux_lemma => kernel_rfl)
theorem r15_4 : okTrue (@call Tab.empty Tryz.prog K_top0 5000 4 [.int .i64 15, .int .i64 4] H.empty) = true := (by as_aux_lemma => kernel_rfl)
theorem r15_11 : okTrue (@call Tab.empty Tryz.prog K_top0 5000 4 [.int .i64 15, .int .i64 11] H.empty) = true := (by as_aux_lemma => kernel_rfl)
theorem r16_2 : okTrue (@call Tab.empty Tryz.prog K_top0 5000 4 [.int .i64 16, .int .i64 2] H.empty) = true := (by as_aux_lemma => kernel_rfl)
theorem r16_12 : okTrue (@call Tab.empty Tryz.prog K_top0 5000 4 [.int .i64 16, .int .i64 12] H.empty) = true := (by as_aux_lemma => kernel_rfl)
theorem r19_5 : okTrue (@call Tab.empty Tryz.prog K_top0 5000 4 [.int .i64 19, .int .i64 5] H.empty) = true := (by as_aux_lemma => kernel_rfl)
theorem r19_9 : okTrue (@call Tab.empty Tryz.prog K_top0 5000 4 [.int .i64 19, .int .i64 9] H.empty) = true := (by as_aux_lemma => kernel_rfl)
theorem r20_17 : okTrue (@call Tab.empty Tryz.prog K_top0 5000 4 [.int .i64 20, .int .i64 17] H.empty) = true := (by as_aux_lemma => kernel_rfl)
end Go.Proofs.YtnjpgmajapfjeaaGreatDoor.ta
