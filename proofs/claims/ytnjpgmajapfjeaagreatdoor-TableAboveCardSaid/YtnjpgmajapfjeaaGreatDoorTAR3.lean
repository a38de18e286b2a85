/-
  Runs of the law TableAbove, by the kernel.
-/
import Derived.Test.YtnjpgmajapfjeaaGreatDoorXN3
import Derived.Test.YtnjpgmajapfjeaaGreatDoorTAH
set_option linter.unusedVariables false
set_option maxRecDepth 1000000
set_option maxHeartbeats 0
namespace Go.Proofs.YtnjpgmajapfjeaaGreatDoor.ta
open Go.X Go.RowKit
theorem r6_6 : okTrue (@call Tab.empty Tryz.prog K_top0 5000 4 [.int .i64 6, .int .i64 6] H.empty) = true := (by as_aux_lemma => kernel_rfl)
theorem r8_0 : okTrue (@call Tab.empty Tryz.prog K_top0 5000 4 [.int .i64 8, .int .i64 0] H.empty) = true := (by as_aux_lemma => kernel_rfl)
theorem r8_1 : okTrue (@call Tab.empty Tryz.prog K_top0 5000 4 [.int .i64 8, .int .i64 1] H.empty) = true := (by as_aux_lemma => kernel_rfl)
theorem r8_3 : okTrue (@call Tab.empty Tryz.prog K_top0 5000 4 [.int .i64 8, .int .i64 3] H.empty) = true := (by as_aux_lemma => kernel_rfl)
theorem r8_8 : okTrue (@call Tab.empty Tryz.prog K_top0 5000 4 [.int .i64 8, .int .i64 8] H.empty) = true := (by as_aux_lemma => kernel_rfl)
theorem r14_7 : okTrue (@call Tab.empty Tryz.prog K_top0 5000 4 [.int .i64 14, .int .i64 7] H.empty) = true := (by as_aux_lemma => kernel_rfl)
theorem r14_9 : okTrue (@call Tab.empty Tryz.prog K_top0 5000 4 [.int .i64 14, .int .i64 9] H.empty) = true := (by as_aux_lemma => kernel_rfl)
theorem r14_12 : okTrue (@call Tab.empty Tryz.prog K_top0 5000 4 [.int .i64 14, .int .i64 12] H.empty) = true := (by as_aux_lemma => kernel_rfl)
theorem r16_3 : okTrue (@call Tab.empty Tryz.prog K_top0 5000 4 [.int .i64 16, .int .i64 3] H.empty) = true := (by as_aux_lemma => kernel_rfl)
theorem r16_15 : okTrue (@call Tab.empty Tryz.prog K_top0 5000 4 [.int .i64 16, .int .i64 15] H.empty) = true := (by as_aux_lemma => kernel_rfl)
theorem r17_13 : okTrue (@call Tab.empty Tryz.prog K_top0 5000 4 [.int .i64 17, .int .i64 13] H.empty) = true := (by as_aux_lemma => kernel_rfl)
theorem r18_15 : okTrue (@call Tab.empty Tryz.prog K_top0 5000 4 [.int .i64 18, .int .i64 15] H.empty) = true := (by as_aux_lemma => kernel_rfl)
theorem r19_13 : okTrue (@call Tab.empty Tryz.prog K_top0 5000 4 [.int .i64 19, .int .i64 13] H.empty) = true := (by as_aux_lemma => kernel_rfl)
theorem r20_3 : okTrue (@call Tab.empty Tryz.prog K_top0 5000 4 [.int .i64 20, .int .i64 3] H.empty) = true := (by as_aux_lemma => kernel_rfl)
theorem r20_7 : okTrue (@call Tab.empty Tryz.prog K_top0 5000 4 [.int .i64 20, .int .i64 7] H.empty) = true := (by as_aux_lemma => kernel_rfl)
theorem r20_19 : okTrue (@call Tab.empty Tryz.prog K_top0 5000 4 [.int .i64 20, .int .i64 19] H.empty) = true := (by as_aux_lemma => kernel_rfl)
end Go.Proofs.YtnjpgmajapfjeaaGreatDoor.ta
