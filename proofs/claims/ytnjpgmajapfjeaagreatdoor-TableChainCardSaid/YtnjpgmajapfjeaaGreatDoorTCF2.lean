/-
  Runs of the law TableChain, by the kernel.
-/
import Derived.Test.YtnjpgmajapfjeaaGreatDoorXN3
import Derived.Test.YtnjpgmajapfjeaaGreatDoorTCFH
set_option linter.unusedVariables false
set_option maxRecDepth 1000000
set_option maxHeartbeats 0
namespace Go.Proofs.YtnjpgmajapfjeaaGreatDoor.tc
open Go.X Go.RowKit
theorem rF2 : okTrue (@call Tab.empty Tryz.prog K_topF 5000 3 [.int .i64 2, .bool false] H.empty) = true := (by as_aux_lemma => kernel_rfl)
theorem rF10 : okTrue (@call Tab.empty Tryz.prog K_topF 5000 3 [.int .i64 10, .bool false] H.empty) = true := (by as_aux_lemma => kernel_rfl)
theorem rF13 : okTrue (@call Tab.empty Tryz.prog K_topF 5000 3 [.int .i64 13, .bool false] H.empty) = true := (by as_aux_lemma => kernel_rfl)
theorem rF20 : okTrue (@call Tab.empty Tryz.prog K_topF 5000 3 [.int .i64 20, .bool false] H.empty) = true := (by as_aux_lemma => kernel_rfl)
theorem rF31 : okTrue (@call Tab.empty Tryz.prog K_topF 5000 3 [.int .i64 31, .bool false] H.empty) = true := (by as_aux_lemma => kernel_rfl)
theorem rF37 : okTrue (@call Tab.empty Tryz.prog K_topF 5000 3 [.int .i64 37, .bool false] H.empty) = true := (by as_aux_lemma => kernel_rfl)
theorem rF42 : okTrue (@call Tab.empty Tryz.prog K_topF 5000 3 [.int .i64 42, .bool false] H.empty) = true := (by as_aux_lemma => kernel_rfl)
theorem rF49 : okTrue (@call Tab.empty Tryz.prog K_topF 5000 3 [.int .i64 49, .bool false] H.empty) = true := (by as_aux_lemma => kernel_rfl)
theorem rF58 : okTrue (@call Tab.empty Tryz.prog K_topF 5000 3 [.int .i64 58, .bool false] H.empty) = true := (by as_aux_lemma => kernel_rfl)
end Go.Proofs.YtnjpgmajapfjeaaGreatDoor.tc
