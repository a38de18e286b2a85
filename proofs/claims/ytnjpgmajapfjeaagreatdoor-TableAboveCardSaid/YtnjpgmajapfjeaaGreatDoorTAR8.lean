/-
  Runs of the law TableAbove, by the kernel.
-/
import Derived.Test.YtnjpgmajapfjeaaGreatDoorXN3
import Derived.Test.YtnjpgmajapfjeaaGreatDoorTAH
set_option linter.unusedVariables false
set_option maxRecDepth 1000000
set_option maxHeartbeats 0
namespace Go.Proofs.YtnjpgmajapfjeaaGreatDoor.ta
open Go.X Go.RowKit
theorem r5_5 : okTrue (@call Tab.empty Tryz.prog K_top0 5000 4 [.int .i64 5, .int .i64 5] H.empty) = true := (by as_aux_lemma => kernel_rfl)
theorem r7_0 : okTrue (@call Tab.empty Tryz.prog K_top0 5000 4 [.int .i64 7, .int .i64 0] H.empty) = true := (by as_aux_lemma => kernel_rfl)
theorem r9_1 : okTrue (@call Tab.empty Tryz.prog K_top0 5000 4 [.int .i64 9, .int .i64 1] H.empty) = true := (by as_aux_lemma => kernel_rfl)
theorem r10_4 : okTrue (@call Tab.empty Tryz.prog K_top0 5000 4 [.int .i64 10, .int .i64 4] H.empty) = true := (by as_aux_lemma => kernel_rfl)
theorem r13_4 : okTrue (@call Tab.empty Tryz.prog K_top0 5000 4 [.int .i64 13, .int .i64 4] H.empty) = true := (by as_aux_lemma => kernel_rfl)
theorem r13_10 : okTrue (@call Tab.empty Tryz.prog K_top0 5000 4 [.int .i64 13, .int .i64 10] H.empty) = true := (by as_aux_lemma => kernel_rfl)
theorem r14_0 : okTrue (@call Tab.empty Tryz.prog K_top0 5000 4 [.int .i64 14, .int .i64 0] H.empty) = true := (by as_aux_lemma => kernel_rfl)
theorem r15_5 : okTrue (@call Tab.empty Tryz.prog K_top0 5000 4 [.int .i64 15, .int .i64 5] H.empty) = true := (by as_aux_lemma => kernel_rfl)
theorem r15_7 : okTrue (@call Tab.empty Tryz.prog K_top0 5000 4 [.int .i64 15, .int .i64 7] H.empty) = true := (by as_aux_lemma => kernel_rfl)
theorem r15_8 : okTrue (@call Tab.empty Tryz.prog K_top0 5000 4 [.int .i64 15, .int .i64 8] H.empty) = true := (by as_aux_lemma => kernel_rfl)
theorem r16_1 : okTrue (@call Tab.empty Tryz.prog K_top0 5000 4 [.int .i64 16, .int .i64 1] H.empty) = true := (by as_aux_lemma => kernel_rfl)
theorem r17_17 : okTrue (@call Tab.empty Tryz.prog K_top0 5000 4 [.int .i64 17, .int .i64 17] H.empty) = true := (by as_aux_lemma => kernel_rfl)
theorem r18_1 : okTrue (@call Tab.empty Tryz.prog K_top0 5000 4 [.int .i64 18, .int .i64 1] H.empty) = true := (by as_aux_lemma => kernel_rfl)
theorem r18_17 : okTrue (@call Tab.empty Tryz.prog K_top0 5000 4 [.int .i64 18, .int .i64 17] H.empty) = true := (by as_aux_lemma => kernel_rfl)
theorem r20_2 : okTrue (@call Tab.empty Tryz.prog K_top0 5000 4 [.int .i64 20, .int .i64 2] H.empty) = true := (by as_aux_lemma => kernel_rfl)
theorem r20_13 : okTrue (@call Tab.empty Tryz.prog K_top0 5000 4 [.int .i64 20, .int .i64 13] H.empty) = true := (by as_aux_lemma => kernel_rfl)
end Go.Proofs.YtnjpgmajapfjeaaGreatDoor.ta
