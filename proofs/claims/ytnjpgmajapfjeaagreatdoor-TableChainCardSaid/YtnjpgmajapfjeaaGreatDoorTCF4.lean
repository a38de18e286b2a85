/-
  Runs of the law TableChain, by the kernel.
-/
import Derived.Test.YtnjpgmajapfjeaaGreatDoorXN3
import Derived.Test.YtnjpgmajapfjeaaGreatDoorTCFH
set_option linter.unusedVariables false
set_option maxRecDepth 1000000
set_option maxHeartbeats 0
namespace Go.Proofs.YtnjpgmajapfjeaaGreatDoor.tc
open Go.X Go.RowKit
theorem rF4 : okTrue (@call Tab.empty Tryz.prog K_topF 5000 3 [.int .i64 4, .bool false] H.empty) = true := (by as_aux_lemma => kernel_rfl)
theorem rF9 : okTrue (@call Tab.empty Tryz.prog K_topF 5000 3 [.int .i64 9, .bool false] H.empty) = true := (by as_aux_lemma => kernel_rfl)
theorem rF14 : okTrue (@call Tab.empty Tryz.prog K_topF 5000 3 [.int .i64 14, .bool false] H.empty) = true := (by as_aux_lemma => kernel_rfl)
theorem rF21 : okTrue (@call Tab.empty Tryz.prog K_topF 5000 3 [.int .i64 21, .bool false] H.empty) = true := (by as_aux_lemma => kernel_rfl)
theorem rF30 : okTrue (@call Tab.empty Tryz.prog K_topF 5000 3 [.int .i64 30, .bool false] H.empty) = true := (by as_aux_lemma => kernel_rfl)
theorem rF35 : okTrue (@call Tab.empty Tryz.prog K_topF 5000 3 [.int .i64 35, .bool false] H.empty) = true := (by as_aux_lemma => kernel_rfl)
theorem rF44 : okTrue (@call Tab.empty Tryz.prog K_topF 5000 3 [.int .i64 44, .bool false] H.empty) = true := (by as_aux_lemma => kernel_rfl)
theorem rF51 : okTrue (@call Tab.empty Tryz.prog K_topF 5000 3 [.int .i64 51, .bool false] H.empty) = true := (by as_aux_lemma => kernel_rfl)
theorem rF56 : okTrue (@call Tab.empty Tryz.prog K_topF 5000 3 [.int .i64 56, .bool false] H.empty) = true := (by as_aux_lemma => kernel_rfl)
end Go.Proofs.YtnjpgmajapfjeaaGreatDoor.tc
