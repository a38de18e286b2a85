/-
  Runs of the law TableAbove, by the kernel.
-/
import Derived.Test.YtnjpgmajapfjeaaGreatDoorXN3
import Derived.Test.YtnjpgmajapfjeaaGreatDoorTAH
set_option linter.unusedVariables false
set_option maxRecDepth 1000000
set_option maxHeartbeats 0
namespace Go.Proofs.YtnjpgmajapfjeaaGreatDoor.ta
open Go.X Go.RowKit
theorem r4_2 : okTrue (@call Tab.empty Tryz.prog K_top0 5000 4 [.int .i64 4, .int .i64 2] H.empty) = true := (by as_aux_lemma => kernel_rfl)
theorem r8_5 : okTrue (@call Tab.empty Tryz.prog K_top0 5000 4 [.int .i64 8, .int .i64 5] H.empty) = true := (by as_aux_lemma => kernel_rfl)
theorem r9_7 : okTrue (@call Tab.empty Tryz.prog K_top0 5000 4 [.int .i64 9, .int .i64 7] H.empty) = true := (by as_aux_lemma => kernel_rfl)
theorem r11_8 : okTrue (@call Tab.empty Tryz.prog K_top0 5000 4 [.int .i64 11, .int .i64 8] H.empty) = true := (by as_aux_lemma => kernel_rfl)
theorem r11_10 : okTrue (@call Tab.empty Tryz.prog K_top0 5000 4 [.int .i64 11, .int .i64 10] H.empty) = true := (by as_aux_lemma => kernel_rfl)
theorem r12_6 : okTrue (@call Tab.empty Tryz.prog K_top0 5000 4 [.int .i64 12, .int .i64 6] H.empty) = true := (by as_aux_lemma => kernel_rfl)
theorem r12_11 : okTrue (@call Tab.empty Tryz.prog K_top0 5000 4 [.int .i64 12, .int .i64 11] H.empty) = true := (by as_aux_lemma => kernel_rfl)
theorem r13_0 : okTrue (@call Tab.empty Tryz.prog K_top0 5000 4 [.int .i64 13, .int .i64 0] H.empty) = true := (by as_aux_lemma => kernel_rfl)
theorem r14_10 : okTrue (@call Tab.empty Tryz.prog K_top0 5000 4 [.int .i64 14, .int .i64 10] H.empty) = true := (by as_aux_lemma => kernel_rfl)
theorem r16_16 : okTrue (@call Tab.empty Tryz.prog K_top0 5000 4 [.int .i64 16, .int .i64 16] H.empty) = true := (by as_aux_lemma => kernel_rfl)
theorem r17_6 : okTrue (@call Tab.empty Tryz.prog K_top0 5000 4 [.int .i64 17, .int .i64 6] H.empty) = true := (by as_aux_lemma => kernel_rfl)
theorem r17_14 : okTrue (@call Tab.empty Tryz.prog K_top0 5000 4 [.int .i64 17, .int .i64 14] H.empty) = true := (by as_aux_lemma => kernel_rfl)
theorem r18_16 : okTrue (@call Tab.empty Tryz.prog K_top0 5000 4 [.int .i64 18, .int .i64 16] H.empty) = true := (by as_aux_lemma => kernel_rfl)
theorem r19_12 : okTrue (@call Tab.empty Tryz.prog K_top0 5000 4 [.int .i64 19, .int .i64 12] H.empty) = true := (by as_aux_lemma => kernel_rfl)
theorem r20_6 : okTrue (@call Tab.empty Tryz.prog K_top0 5000 4 [.int .i64 20, .int .i64 6] H.empty) = true := (by as_aux_lemma => kernel_rfl)
theorem r20_18 : okTrue (@call Tab.empty Tryz.prog K_top0 5000 4 [.int .i64 20, .int .i64 18] H.empty) = true := (by as_aux_lemma => kernel_rfl)
end Go.Proofs.YtnjpgmajapfjeaaGreatDoor.ta
