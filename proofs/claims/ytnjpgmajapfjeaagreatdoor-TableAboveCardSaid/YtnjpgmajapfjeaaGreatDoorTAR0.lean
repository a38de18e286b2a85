/-
  Runs of the law TableAbove, by the kernel.
-/
import Derived.Test.YtnjpgmajapfjeaaGreatDoorXN3
import Derived.Test.YtnjpgmajapfjeaaGreatDoorTAH
set_option linter.unusedVariables false
set_option maxRecDepth 1000000
set_option maxHeartbeats 0
namespace Go.Proofs.YtnjpgmajapfjeaaGreatDoor.ta
open Go.X Go.RowKit
theorem r6_1 : okTrue (@call Tab.empty Tryz.prog K_top0 5000 4 [.int .i64 6, .int .i64 1] H.empty) = true := (by as_aux_lemma => kernel_rfl)
theorem r6_4 : okTrue (@call Tab.empty Tryz.prog K_top0 5000 4 [.int .i64 6, .int .i64 4] H.empty) = true := (by as_aux_lemma => kernel_rfl)
theorem r10_0 : okTrue (@call Tab.empty Tryz.prog K_top0 5000 4 [.int .i64 10, .int .i64 0] H.empty) = true := (by as_aux_lemma => kernel_rfl)
theorem r11_2 : okTrue (@call Tab.empty Tryz.prog K_top0 5000 4 [.int .i64 11, .int .i64 2] H.empty) = true := (by as_aux_lemma => kernel_rfl)
theorem r12_2 : okTrue (@call Tab.empty Tryz.prog K_top0 5000 4 [.int .i64 12, .int .i64 2] H.empty) = true := (by as_aux_lemma => kernel_rfl)
theorem r12_4 : okTrue (@call Tab.empty Tryz.prog K_top0 5000 4 [.int .i64 12, .int .i64 4] H.empty) = true := (by as_aux_lemma => kernel_rfl)
theorem r14_5 : okTrue (@call Tab.empty Tryz.prog K_top0 5000 4 [.int .i64 14, .int .i64 5] H.empty) = true := (by as_aux_lemma => kernel_rfl)
theorem r14_11 : okTrue (@call Tab.empty Tryz.prog K_top0 5000 4 [.int .i64 14, .int .i64 11] H.empty) = true := (by as_aux_lemma => kernel_rfl)
theorem r16_0 : okTrue (@call Tab.empty Tryz.prog K_top0 5000 4 [.int .i64 16, .int .i64 0] H.empty) = true := (by as_aux_lemma => kernel_rfl)
theorem r16_5 : okTrue (@call Tab.empty Tryz.prog K_top0 5000 4 [.int .i64 16, .int .i64 5] H.empty) = true := (by as_aux_lemma => kernel_rfl)
theorem r17_5 : okTrue (@call Tab.empty Tryz.prog K_top0 5000 4 [.int .i64 17, .int .i64 5] H.empty) = true := (by as_aux_lemma => kernel_rfl)
theorem r18_7 : okTrue (@call Tab.empty Tryz.prog K_top0 5000 4 [.int .i64 18, .int .i64 7] H.empty) = true := (by as_aux_lemma => kernel_rfl)
theorem r19_1 : okTrue (@call Tab.empty Tryz.prog K_top0 5000 4 [.int .i64 19, .int .i64 1] H.empty) = true := (by as_aux_lemma => kernel_rfl)
theorem r19_7 : okTrue (@call Tab.empty Tryz.prog K_top0 5000 4 [.int .i64 19, .int .i64 7] H.empty) = true := (by as_aux_lemma => kernel_rfl)
theorem r19_17 : okTrue (@call Tab.empty Tryz.prog K_top0 5000 4 [.int .i64 19, .int .i64 17] H.empty) = true := (by as_aux_lemma => kernel_rfl)
theorem r20_15 : okTrue (@call Tab.empty Tryz.prog K_top0 5000 4 [.int .i64 20, .int .i64 15] H.empty) = true := (by as_aux_lemma => kernel_rfl)
end Go.Proofs.YtnjpgmajapfjeaaGreatDoor.ta
