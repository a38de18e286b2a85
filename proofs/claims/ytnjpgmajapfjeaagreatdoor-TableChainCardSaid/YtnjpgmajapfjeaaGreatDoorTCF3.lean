/-
  Runs of the law TableChain, by the kernel.
-/
import Derived.Test.YtnjpgmajapfjeaaGreatDoorXN3
import Derived.Test.YtnjpgmajapfjeaaGreatDoorTCFH
set_option linter.unusedVariables false
set_option maxRecDepth 1000000
set_option maxHeartbeats 0
namespace Go.Proofs.YtnjpgmajapfjeaaGreatDoor.tc
open Go.X Go.RowKit
theorem rF11 : okTrue (@call Tab.empty Tryz.prog K_topF 5000 3 [.int .i64 11, .bool false] H.empty) = true := (by as_aux_lemma => kernel_rfl)
theorem rF12 : okTrue (@call Tab.empty Tryz.prog K_topF 5000 3 [.int .i64 12, .bool false] H.empty) = true := (by as_aux_lemma => kernel_rfl)
theorem rF19 : okTrue (@call Tab.empty Tryz.prog K_topF 5000 3 [.int .i64 19, .bool false] H.empty) = true := (by as_aux_lemma => kernel_rfl)
theorem rF32 : okTrue (@call Tab.empty Tryz.prog K_topF 5000 3 [.int .i64 32, .bool false] H.empty) = true := (by as_aux_lemma => kernel_rfl)
theorem rF36 : okTrue (@call Tab.empty Tryz.prog K_topF 5000 3 [.int .i64 36, .bool false] H.empty) = true := (by as_aux_lemma => kernel_rfl)
theorem rF43 : okTrue (@call Tab.empty Tryz.prog K_topF 5000 3 [.int .i64 43, .bool false] H.empty) = true := (by as_aux_lemma => kernel_rfl)
theorem rF50 : okTrue (@call Tab.empty Tryz.prog K_topF 5000 3 [.int .i64 50, .bool false] H.empty) = true := (by as_aux_lemma => kernel_rfl)
theorem rF57 : okTrue (@call Tab.empty Tryz.prog K_topF 5000 3 [.int .i64 57, .bool false] H.empty) = true := (by as_aux_lemma => kernel_rfl)
end Go.Proofs.YtnjpgmajapfjeaaGreatDoor.tc
