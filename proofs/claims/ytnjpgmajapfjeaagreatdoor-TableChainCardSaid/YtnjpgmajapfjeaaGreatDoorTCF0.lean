/-
  Runs of the law TableChain, by the kernel.
-/
import Derived.Test.YtnjpgmajapfjeaaGreatDoorXN3
import Derived.Test.YtnjpgmajapfjeaaGreatDoorTCFH
set_option linter.unusedVariables false
set_option maxRecDepth 1000000
set_option maxHeartbeats 0
namespace Go.Proofs.YtnjpgmajapfjeaaGreatDoor.tc
open Go.X Go.RowKit
theorem rF1 : okTrue (@call Tab.empty Tryz.prog K_topF 5000 3 [.int .i64 1, .bool false] H.empty) = true := (by as_aux_lemma => kernel_rfl)
theorem rF7 : okTrue (@call Tab.empty Tryz.prog K_topF 5000 3 [.int .i64 7, .bool false] H.empty) = true := (by as_aux_lemma => kernel_rfl)
theorem rF16 : okTrue (@call Tab.empty Tryz.prog K_topF 5000 3 [.int .i64 16, .bool false] H.empty) = true := (by as_aux_lemma => kernel_rfl)
theorem rF24 : okTrue (@call Tab.empty Tryz.prog K_topF 5000 3 [.int .i64 24, .bool false] H.empty) = true := (by as_aux_lemma => kernel_rfl)
theorem rF27 : okTrue (@call Tab.empty Tryz.prog K_topF 5000 3 [.int .i64 27, .bool false] H.empty) = true := (by as_aux_lemma => kernel_rfl)
theorem rF39 : okTrue (@call Tab.empty Tryz.prog K_topF 5000 3 [.int .i64 39, .bool false] H.empty) = true := (by as_aux_lemma => kernel_rfl)
theorem rF40 : okTrue (@call Tab.empty Tryz.prog K_topF 5000 3 [.int .i64 40, .bool false] H.empty) = true := (by as_aux_lemma => kernel_rfl)
theorem rF47 : okTrue (@call Tab.empty Tryz.prog K_topF 5000 3 [.int .i64 47, .bool false] H.empty) = true := (by as_aux_lemma => kernel_rfl)
theorem rF60 : okTrue (@call Tab.empty Tryz.prog K_topF 5000 3 [.int .i64 60, .bool false] H.empty) = true := (by as_aux_lemma => kernel_rfl)
end Go.Proofs.YtnjpgmajapfjeaaGreatDoor.tc
