/-
  Runs of the law TableChain, by the kernel.
-/
import Derived.Test.YtnjpgmajapfjeaaGreatDoorXN3
import Derived.Test.YtnjpgmajapfjeaaGreatDoorTCRH
set_option linter.unusedVariables false
set_option maxRecDepth 1000000
set_option maxHeartbeats 0
namespace Go.Proofs.YtnjpgmajapfjeaaGreatDoor.tc
open Go.X Go.RowKit
theorem rR6 : okTrue (@call Tab.empty Tryz.prog K_topR 5000 3 [.int .i64 6, .bool true] H.empty) = true := (by as_aux_lemma => kernel_rfl)
theorem rR17 : okTrue (@call Tab.empty Tryz.prog K_topR 5000 3 [.int .i64 17, .bool true] H.empty) = true := (by as_aux_lemma => kernel_rfl)
theorem rR25 : okTrue (@call Tab.empty Tryz.prog K_topR 5000 3 [.int .i64 25, .bool true] H.empty) = true := (by as_aux_lemma => kernel_rfl)
theorem rR26 : okTrue (@call Tab.empty Tryz.prog K_topR 5000 3 [.int .i64 26, .bool true] H.empty) = true := (by as_aux_lemma => kernel_rfl)
theorem rR33 : okTrue (@call Tab.empty Tryz.prog K_topR 5000 3 [.int .i64 33, .bool true] H.empty) = true := (by as_aux_lemma => kernel_rfl)
theorem rR46 : okTrue (@call Tab.empty Tryz.prog K_topR 5000 3 [.int .i64 46, .bool true] H.empty) = true := (by as_aux_lemma => kernel_rfl)
theorem rR53 : okTrue (@call Tab.empty Tryz.prog K_topR 5000 3 [.int .i64 53, .bool true] H.empty) = true := (by as_aux_lemma => kernel_rfl)
theorem rR54 : okTrue (@call Tab.empty Tryz.prog K_topR 5000 3 [.int .i64 54, .bool true] H.empty) = true := (by as_aux_lemma => kernel_rfl)
end Go.Proofs.YtnjpgmajapfjeaaGreatDoor.tc
