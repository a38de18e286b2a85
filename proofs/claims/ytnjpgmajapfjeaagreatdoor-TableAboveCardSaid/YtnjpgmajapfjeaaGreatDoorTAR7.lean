/-
  Runs of the law TableAbove, by the kernel.
-/
import Derived.Test.YtnjpgmajapfjeaaGreatDoorXN3
import Derived.Test.YtnjpgmajapfjeaaGreatDoorTAH
set_option linter.unusedVariables false
set_option maxRecDepth 1000000
set_option maxHeartbeats 0
namespace Go.Proofs.YtnjpgmajapfjeaaGreatDoor.ta
open Go.X Go.RowKit
theorem r2_0 : okTrue (@call Tab.empty Tryz.prog K_top0 5000 4 [.int .i64 2, .int .i64 0] H.empty) = true := (by as_aux_lemma => kernel_rfl)
theorem r4_1 : okTrue (@call Tab.empty Tryz.prog K_top0 5000 4 [.int .i64 4, .int .i64 1] H.empty) = true := (by as_aux_lemma => kernel_rfl)
theorem r6_3 : okTrue (@call Tab.empty Tryz.prog K_top0 5000 4 [.int .i64 6, .int .i64 3] H.empty) = true := (by as_aux_lemma => kernel_rfl)
theorem r8_4 : okTrue (@call Tab.empty Tryz.prog K_top0 5000 4 [.int .i64 8, .int .i64 4] H.empty) = true := (by as_aux_lemma => kernel_rfl)
theorem r8_6 : okTrue (@call Tab.empty Tryz.prog K_top0 5000 4 [.int .i64 8, .int .i64 6] H.empty) = true := (by as_aux_lemma => kernel_rfl)
theorem r11_6 : okTrue (@call Tab.empty Tryz.prog K_top0 5000 4 [.int .i64 11, .int .i64 6] H.empty) = true := (by as_aux_lemma => kernel_rfl)
theorem r13_1 : okTrue (@call Tab.empty Tryz.prog K_top0 5000 4 [.int .i64 13, .int .i64 1] H.empty) = true := (by as_aux_lemma => kernel_rfl)
theorem r13_8 : okTrue (@call Tab.empty Tryz.prog K_top0 5000 4 [.int .i64 13, .int .i64 8] H.empty) = true := (by as_aux_lemma => kernel_rfl)
theorem r13_11 : okTrue (@call Tab.empty Tryz.prog K_top0 5000 4 [.int .i64 13, .int .i64 11] H.empty) = true := (by as_aux_lemma => kernel_rfl)
theorem r15_6 : okTrue (@call Tab.empty Tryz.prog K_top0 5000 4 [.int .i64 15, .int .i64 6] H.empty) = true := (by as_aux_lemma => kernel_rfl)
theorem r15_15 : okTrue (@call Tab.empty Tryz.prog K_top0 5000 4 [.int .i64 15, .int .i64 15] H.empty) = true := (by as_aux_lemma => kernel_rfl)
theorem r17_0 : okTrue (@call Tab.empty Tryz.prog K_top0 5000 4 [.int .i64 17, .int .i64 0] H.empty) = true := (by as_aux_lemma => kernel_rfl)
theorem r18_18 : okTrue (@call Tab.empty Tryz.prog K_top0 5000 4 [.int .i64 18, .int .i64 18] H.empty) = true := (by as_aux_lemma => kernel_rfl)
theorem r19_11 : okTrue (@call Tab.empty Tryz.prog K_top0 5000 4 [.int .i64 19, .int .i64 11] H.empty) = true := (by as_aux_lemma => kernel_rfl)
theorem r20_1 : okTrue (@call Tab.empty Tryz.prog K_top0 5000 4 [.int .i64 20, .int .i64 1] H.empty) = true := (by as_aux_lemma => kernel_rfl)
theorem r20_5 : okTrue (@call Tab.empty Tryz.prog K_top0 5000 4 [.int .i64 20, .int .i64 5] H.empty) = true := (by as_aux_lemma => kernel_rfl)
theorem r20_8 : okTrue (@call Tab.empty Tryz.prog K_top0 5000 4 [.int .i64 20, .int .i64 8] H.empty) = true := (by as_aux_lemma => kernel_rfl)
end Go.Proofs.YtnjpgmajapfjeaaGreatDoor.ta
