/-
  Runs of the law TableChain, by the kernel.
-/
import Derived.Test.YtnjpgmajapfjeaaGreatDoorXN3
import Derived.Test.YtnjpgmajapfjeaaGreatDoorTCRH
set_option linter.unusedVariables false
set_option maxRecDepth 1000000
set_option maxHeartbeats 0
namespace Go.Proofs.YtnjpgmajapfjeaaGreatDoor.tc
open Go.X Go.RowKit
theorem rR4 : okTrue (@call Tab.empty Tryz.prog K_topR 5000 3 [.int .i64 4, .bool true] H.empty) = true := (by as_aux_lemma => kernel_rfl)
theorem rR9 : okTrue (@call Tab.empty Tryz.prog K_topR 5000 3 [.int .i64 9, .bool true] H.empty) = true := (by as_aux_lemma => kernel_rfl)
theorem rR14 : okTrue (@call Tab.empty Tryz.prog K_topR 5000 3 [.int .i64 14, .bool true] H.empty) = true := (by as_aux_lemma => kernel_rfl)
theorem rR21 : okTrue (@call Tab.empty Tryz.prog K_topR 5000 3 [.int .i64 21, .bool true] H.empty) = true := (by as_aux_lemma => kernel_rfl)
theorem rR30 : okTrue (@call Tab.empty Tryz.prog K_topR 5000 3 [.int .i64 30, .bool true] H.empty) = true := (by as_aux_lemma => kernel_rfl)
theorem rR35 : okTrue (@call Tab.empty Tryz.prog K_topR 5000 3 [.int .i64 35, .bool true] H.empty) = true := (by as_aux_lemma => kernel_rfl)
theorem rR44 : okTrue (@call Tab.empty Tryz.prog K_topR 5000 3 [.int .i64 44, .bool true] H.empty) = true := (by as_aux_lemma => kernel_rfl)
theorem rR51 : okTrue (@call Tab.empty Tryz.prog K_topR 5000 3 [.int .i64 51, .bool true] H.empty) = true := (by as_aux_lemma => kernel_rfl)
theorem rR56 : okTrue (@call Tab.empty Tryz.prog K_topR 5000 3 [.int .i64 56, .bool true] H.empty) = true := (by as_aux_lemma => kernel_rfl)
end Go.Proofs.YtnjpgmajapfjeaaGreatDoor.tc
