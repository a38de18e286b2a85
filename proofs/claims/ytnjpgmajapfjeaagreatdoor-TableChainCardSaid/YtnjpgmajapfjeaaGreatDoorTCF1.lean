/-
  Runs of the law TableChain, by the kernel.
-/
import Derived.Test.YtnjpgmajapfjeaaGreatDoorXN3
import Derived.Test.YtnjpgmajapfjeaaGreatDoorTCFH
set_option linter.unusedVariables false
set_option maxRecDepth 1000000
set_option maxHeartbeats 0
namespace Go.Proofs.YtnjpgmajapfjeaaGreatDoor.tc
open Go.X Go.RowKit
theorem rF3 : okTrue (@call Tab.empty Tryz.prog K_topF 5000 3 [.int .i64 3, .bool false] H.empty) = true := (by as_aux_lemma => kernel_rfl)
theorem rF8 : okTrue (@call Tab.empty Tryz.prog K_topF 5000 3 [.int .i64 8, .bool false] H.empty) = true := (by as_aux_lemma => kernel_rfl)
theorem rF15 : okTrue (@call Tab.empty Tryz.prog K_topF 5000 3 [.int .i64 15, .bool false] H.empty) = true := (by as_aux_lemma => kernel_rfl)
theorem rF22 : okTrue (@call Tab.empty Tryz.prog K_topF 5000 3 [.int .i64 22, .bool false] H.empty) = true := (by as_aux_lemma => kernel_rfl)
theorem rF29 : okTrue (@call Tab.empty Tryz.prog K_topF 5000 3 [.int .i64 29, .bool false] H.empty) = true := (by as_aux_lemma => kernel_rfl)
theorem rF38 : okTrue (@call Tab.empty Tryz.prog K_topF 5000 3 [.int .i64 38, .bool false] H.empty) = true := (by as_aux_lemma => kernel_rfl)
theorem rF41 : okTrue (@call Tab.empty Tryz.prog K_topF 5000 3 [.int .i64 41, .bool false] H.empty) = true := (by as_aux_lemma => kernel_rfl)
theorem rF48 : okTrue (@call Tab.empty Tryz.prog K_topF 5000 3 [.int .i64 48, .bool false] H.empty) = true := (by as_aux_lemma => kernel_rfl)
theorem rF59 : okTrue (@call Tab.empty Tryz.prog K_topF 5000 3 [.int .i64 59, .bool false] H.empty) = true := (by as_aux_lemma => kernel_rfl)
end Go.Proofs.YtnjpgmajapfjeaaGreatDoor.tc
