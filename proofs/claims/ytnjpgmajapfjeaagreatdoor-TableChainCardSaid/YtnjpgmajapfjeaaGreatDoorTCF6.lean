/-
  Runs of the law TableChain, by the kernel.
-/
import Derived.Test.YtnjpgmajapfjeaaGreatDoorXN3
import Derived.Test.YtnjpgmajapfjeaaGreatDoorTCFH
set_option linter.unusedVariables false
set_option maxRecDepth 1000000
set_option maxHeartbeats 0
namespace Go.Proofs.YtnjpgmajapfjeaaGreatDoor.tc
open Go.X Go.RowKit
theorem rF6 : okTrue (@call Tab.empty Tryz.prog K_topF 5000 3 [.int .i64 6, .bool false] H.empty) = true := (by as_aux_lemma => kernel_rfl)
theorem rF17 : okTrue (@call Tab.empty Tryz.prog K_topF 5000 3 [.int .i64 17, .bool false] H.empty) = true := (by as_aux_lemma => kernel_rfl)
theorem rF25 : okTrue (@call Tab.empty Tryz.prog K_topF 5000 3 [.int .i64 25, .bool false] H.empty) = true := (by as_aux_lemma => kernel_rfl)
theorem rF26 : okTrue (@call Tab.empty Tryz.prog K_topF 5000 3 [.int .i64 26, .bool false] H.empty) = true := (by as_aux_lemma => kernel_rfl)
theorem rF33 : okTrue (@call Tab.empty Tryz.prog K_topF 5000 3 [.int .i64 33, .bool false] H.empty) = true := (by as_aux_lemma => kernel_rfl)
theorem rF46 : okTrue (@call Tab.empty Tryz.prog K_topF 5000 3 [.int .i64 46, .bool false] H.empty) = true := (by as_aux_lemma => kernel_rfl)
theorem rF53 : okTrue (@call Tab.empty Tryz.prog K_topF 5000 3 [.int .i64 53, .bool false] H.empty) = true := (by as_aux_lemma => kernel_rfl)
theorem rF54 : okTrue (@call Tab.empty Tryz.prog K_topF 5000 3 [.int .i64 54, .bool false] H.empty) = true := (by as_aux_lemma => kernel_rfl)
end Go.Proofs.YtnjpgmajapfjeaaGreatDoor.tc
