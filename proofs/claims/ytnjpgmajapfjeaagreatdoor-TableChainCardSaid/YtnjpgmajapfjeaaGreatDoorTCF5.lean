/-
  Runs of the law TableChain, by the kernel.
-/
import Derived.Test.YtnjpgmajapfjeaaGreatDoorXN3
import Derived.Test.YtnjpgmajapfjeaaGreatDoorTCFH
set_option linter.unusedVariables false
set_option maxRecDepth 1000000
set_option maxHeartbeats 0
namespace Go.Proofs.YtnjpgmajapfjeaaGreatDoor.tc
open Go.X Go.RowKit
theorem rF5 : okTrue (@call Tab.empty Tryz.prog K_topF 5000 3 [.int .i64 5, .bool false] H.empty) = true := (by as_aux_lemma => kernel_rfl)
theorem rF18 : okTrue (@call Tab.empty Tryz.prog K_topF 5000 3 [.int .i64 18, .bool false] H.empty) = true := (by as_aux_lemma => kernel_rfl)
theorem rF23 : okTrue (@call Tab.empty Tryz.prog K_topF 5000 3 [.int .i64 23, .bool false] H.empty) = true := (by as_aux_lemma => kernel_rfl)
theorem rF28 : okTrue (@call Tab.empty Tryz.prog K_topF 5000 3 [.int .i64 28, .bool false] H.empty) = true := (by as_aux_lemma => kernel_rfl)
theorem rF34 : okTrue (@call Tab.empty Tryz.prog K_topF 5000 3 [.int .i64 34, .bool false] H.empty) = true := (by as_aux_lemma => kernel_rfl)
theorem rF45 : okTrue (@call Tab.empty Tryz.prog K_topF 5000 3 [.int .i64 45, .bool false] H.empty) = true := (by as_aux_lemma => kernel_rfl)
theorem rF52 : okTrue (@call Tab.empty Tryz.prog K_topF 5000 3 [.int .i64 52, .bool false] H.empty) = true := (by as_aux_lemma => kernel_rfl)
theorem rF55 : okTrue (@call Tab.empty Tryz.prog K_topF 5000 3 [.int .i64 55, .bool false] H.empty) = true := (by as_aux_lemma => kernel_rfl)
end Go.Proofs.YtnjpgmajapfjeaaGreatDoor.tc
