/-
  Runs of the law TableAbove, by the kernel.
-/
import Derived.Test.YtnjpgmajapfjeaaGreatDoorXN3
import Derived.Test.YtnjpgmajapfjeaaGreatDoorTAH
set_option linter.unusedVariables false
set_option maxRecDepth 1000000
set_option maxHeartbeats 0
namespace Go.Proofs.YtnjpgmajapfjeaaGreatDoor.ta
open Go.X Go.RowKit
theorem r3_2 : okTrue (@call Tab.empty Tryz.prog K_top0 5000 4 [.int .i64 3, .int .i64 2] H.empty) = true := (by as_aux_lemma => kernel_rfl)
theorem r5_3 : okTrue (@call Tab.empty Tryz.prog K_top0 5000 4 [.int .i64 5, .int .i64 3] H.empty) = true := (by as_aux_lemma => kernel_rfl)
theorem r6_5 : okTrue (@call Tab.empty Tryz.prog K_top0 5000 4 [.int .i64 6, .int .i64 5] H.empty) = true := (by as_aux_lemma => kernel_rfl)
theorem r9_2 : okTrue (@call Tab.empty Tryz.prog K_top0 5000 4 [.int .i64 9, .int .i64 2] H.empty) = true := (by as_aux_lemma => kernel_rfl)
theorem r9_4 : okTrue (@call Tab.empty Tryz.prog K_top0 5000 4 [.int .i64 9, .int .i64 4] H.empty) = true := (by as_aux_lemma => kernel_rfl)
theorem r9_5 : okTrue (@call Tab.empty Tryz.prog K_top0 5000 4 [.int .i64 9, .int .i64 5] H.empty) = true := (by as_aux_lemma => kernel_rfl)
theorem r9_9 : okTrue (@call Tab.empty Tryz.prog K_top0 5000 4 [.int .i64 9, .int .i64 9] H.empty) = true := (by as_aux_lemma => kernel_rfl)
theorem r10_10 : okTrue (@call Tab.empty Tryz.prog K_top0 5000 4 [.int .i64 10, .int .i64 10] H.empty) = true := (by as_aux_lemma => kernel_rfl)
theorem r11_1 : okTrue (@call Tab.empty Tryz.prog K_top0 5000 4 [.int .i64 11, .int .i64 1] H.empty) = true := (by as_aux_lemma => kernel_rfl)
theorem r14_3 : okTrue (@call Tab.empty Tryz.prog K_top0 5000 4 [.int .i64 14, .int .i64 3] H.empty) = true := (by as_aux_lemma => kernel_rfl)
theorem r15_0 : okTrue (@call Tab.empty Tryz.prog K_top0 5000 4 [.int .i64 15, .int .i64 0] H.empty) = true := (by as_aux_lemma => kernel_rfl)
theorem r17_2 : okTrue (@call Tab.empty Tryz.prog K_top0 5000 4 [.int .i64 17, .int .i64 2] H.empty) = true := (by as_aux_lemma => kernel_rfl)
theorem r18_6 : okTrue (@call Tab.empty Tryz.prog K_top0 5000 4 [.int .i64 18, .int .i64 6] H.empty) = true := (by as_aux_lemma => kernel_rfl)
theorem r19_2 : okTrue (@call Tab.empty Tryz.prog K_top0 5000 4 [.int .i64 19, .int .i64 2] H.empty) = true := (by as_aux_lemma => kernel_rfl)
theorem r19_16 : okTrue (@call Tab.empty Tryz.prog K_top0 5000 4 [.int .i64 19, .int .i64 16] H.empty) = true := (by as_aux_lemma => kernel_rfl)
theorem r20_12 : okTrue (@call Tab.empty Tryz.prog K_top0 5000 4 [.int .i64 20, .int .i64 12] H.empty) = true := (by as_aux_lemma => kernel_rfl)
end Go.Proofs.YtnjpgmajapfjeaaGreatDoor.ta
