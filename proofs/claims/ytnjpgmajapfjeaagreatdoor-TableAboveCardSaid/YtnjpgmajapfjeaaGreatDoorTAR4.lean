/-
  Runs of the law TableAbove, by the kernel.
-/
import Derived.Test.YtnjpgmajapfjeaaGreatDoorXN3
import Derived.Test.YtnjpgmajapfjeaaGreatDoorTAH
set_option linter.unusedVariables false
set_option maxRecDepth 1000000
set_option maxHeartbeats 0
namespace Go.Proofs.YtnjpgmajapfjeaaGreatDoor.ta
open Go.X Go.RowKit
theorem r2_1 : okTrue (@call Tab.empty Tryz.prog K_top0 5000 4 [.int .i64 2, .int .i64 1] H.empty) = true := (by as_aux_lemma => kernel_rfl)
theorem r5_0 : okTrue (@call Tab.empty Tryz.prog K_top0 5000 4 [.int .i64 5, .int .i64 0] H.empty) = true := (by as_aux_lemma => kernel_rfl)
theorem r7_7 : okTrue (@call Tab.empty Tryz.prog K_top0 5000 4 [.int .i64 7, .int .i64 7] H.empty) = true := (by as_aux_lemma => kernel_rfl)
theorem r8_2 : okTrue (@call Tab.empty Tryz.prog K_top0 5000 4 [.int .i64 8, .int .i64 2] H.empty) = true := (by as_aux_lemma => kernel_rfl)
theorem r10_6 : okTrue (@call Tab.empty Tryz.prog K_top0 5000 4 [.int .i64 10, .int .i64 6] H.empty) = true := (by as_aux_lemma => kernel_rfl)
theorem r11_7 : okTrue (@call Tab.empty Tryz.prog K_top0 5000 4 [.int .i64 11, .int .i64 7] H.empty) = true := (by as_aux_lemma => kernel_rfl)
theorem r12_7 : okTrue (@call Tab.empty Tryz.prog K_top0 5000 4 [.int .i64 12, .int .i64 7] H.empty) = true := (by as_aux_lemma => kernel_rfl)
theorem r13_12 : okTrue (@call Tab.empty Tryz.prog K_top0 5000 4 [.int .i64 13, .int .i64 12] H.empty) = true := (by as_aux_lemma => kernel_rfl)
theorem r15_1 : okTrue (@call Tab.empty Tryz.prog K_top0 5000 4 [.int .i64 15, .int .i64 1] H.empty) = true := (by as_aux_lemma => kernel_rfl)
theorem r15_14 : okTrue (@call Tab.empty Tryz.prog K_top0 5000 4 [.int .i64 15, .int .i64 14] H.empty) = true := (by as_aux_lemma => kernel_rfl)
theorem r16_6 : okTrue (@call Tab.empty Tryz.prog K_top0 5000 4 [.int .i64 16, .int .i64 6] H.empty) = true := (by as_aux_lemma => kernel_rfl)
theorem r16_14 : okTrue (@call Tab.empty Tryz.prog K_top0 5000 4 [.int .i64 16, .int .i64 14] H.empty) = true := (by as_aux_lemma => kernel_rfl)
theorem r17_12 : okTrue (@call Tab.empty Tryz.prog K_top0 5000 4 [.int .i64 17, .int .i64 12] H.empty) = true := (by as_aux_lemma => kernel_rfl)
theorem r18_14 : okTrue (@call Tab.empty Tryz.prog K_top0 5000 4 [.int .i64 18, .int .i64 14] H.empty) = true := (by as_aux_lemma => kernel_rfl)
theorem r19_6 : okTrue (@call Tab.empty Tryz.prog K_top0 5000 4 [.int .i64 19, .int .i64 6] H.empty) = true := (by as_aux_lemma => kernel_rfl)
theorem r19_14 : okTrue (@call Tab.empty Tryz.prog K_top0 5000 4 [.int .i64 19, .int .i64 14] H.empty) = true := (by as_aux_lemma => kernel_rfl)
theorem r20_20 : okTrue (@call Tab.empty Tryz.prog K_top0 5000 4 [.int .i64 20, .int .i64 20] H.empty) = true := (by as_aux_lemma => kernel_rfl)
end Go.Proofs.YtnjpgmajapfjeaaGreatDoor.ta
