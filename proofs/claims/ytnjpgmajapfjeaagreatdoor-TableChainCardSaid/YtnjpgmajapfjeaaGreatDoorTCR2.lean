/-
  Runs of the law TableChain, by the kernel.
-/
import Derived.Test.YtnjpgmajapfjeaaGreatDoorXN3
import Derived.Test.YtnjpgmajapfjeaaGreatDoorTCRH
set_option linter.unusedVariables false
set_option maxRecDepth 1000000
set_option maxHeartbeats 0
namespace Go.Proofs.YtnjpgmajapfjeaaGreatDoor.tc
open Go.X Go.RowKit
theorem rR2 : okTrue (@call Tab.empty Tryz.prog K_topR 5000 3 [.int .i64 2, .bool true] H.empty) = true := (by as_aux_lemma => kernel_rfl)
theorem rR10 : okTrue (@call Tab.empty Tryz.prog K_topR 5000 3 [.int .i64 10, .bool true] H.empty) = true := (by as_aux_lemma => kernel_rfl)
theorem rR13 : okTrue (@call Tab.empty Tryz.prog K_topR 5000 3 [.int .i64 13, .bool true] H.empty) = true := (by as_aux_lemma => kernel_rfl)
theorem rR20 : okTrue (@call Tab.empty Tryz.prog K_topR 5000 3 [.int .i64 20, .bool true] H.empty) = true := (by as_aux_lemma => kernel_rfl)
theorem rR31 : okTrue (@call Tab.empty Tryz.prog K_topR 5000 3 [.int .i64 31, .bool true] H.empty) = true := (by as_aux_lemma => kernel_rfl)
theorem rR37 : okTrue (@call Tab.empty Tryz.prog K_topR 5000 3 [.int .i64 37, .bool true] H.empty) = true := (by as_aux_lemma => kernel_rfl)
theorem rR42 : okTrue (@call Tab.empty Tryz.prog K_topR 5000 3 [.int .i64 42, .bool true] H.empty) = true := (by as_aux_lemma => kernel_rfl)
theorem rR49 : okTrue (@call Tab.empty Tryz.prog K_topR 5000 3 [.int .i64 49, .bool true] H.empty) = true := (by as_aux_lemma => kernel_rfl)
theorem rR58 : okTrue (@call Tab.empty Tryz.prog K_topR 5000 3 [.int .i64 58, .bool true] H.empty) = true := (by as_aux_lemma => kernel_rfl)
end Go.Proofs.YtnjpgmajapfjeaaGreatDoor.tc
