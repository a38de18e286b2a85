/-
  Runs of the law TableChain, by the kernel.
-/
import Derived.Test.YtnjpgmajapfjeaaGreatDoorXN3
import Derived.Test.YtnjpgmajapfjeaaGreatDoorTCRH
set_option linter.unusedVariables false
set_option maxRecDepth 1000000
set_option maxHeartbeats 0
namespace Go.Proofs.YtnjpgmajapfjeaaGreatDoor.tc
open Go.X Go.RowKit
theorem rR5 : okTrue (@call Tab.empty Tryz.prog K_topR 5000 3 [.int .i64 5, .bool true] H.empty) = true := (by as_aux_lemma => kernel_rfl)
theorem rR18 : okTrue (@call Tab.empty Tryz.prog K_topR 5000 3 [.int .i64 18, .bool true] H.empty) = true := (by as_aux_lemma => kernel_rfl)
theorem rR23 : okTrue (@call Tab.empty Tryz.prog K_topR 5000 3 [.int .i64 23, .bool true] H.empty) = true := (by as_aux_lemma => kernel_rfl)
theorem rR28 : okTrue (@call Tab.empty Tryz.prog K_topR 5000 3 [.int .i64 28, .bool true] H.empty) = true := (by as_aux_lemma => kernel_rfl)
theorem rR34 : okTrue (@call Tab.empty Tryz.prog K_topR 5000 3 [.int .i64 34, .bool true] H.empty) = true := (by as_aux_lemma => kernel_rfl)
theorem rR45 : okTrue (@call Tab.empty Tryz.prog K_topR 5000 3 [.int .i64 45, .bool true] H.empty) = true := (by as_aux_lemma => kernel_rfl)
theorem rR52 : okTrue (@call Tab.empty Tryz.prog K_topR 5000 3 [.int .i64 52, .bool true] H.empty) = true := (by as_aux_lemma => kernel_rfl)
theorem rR55 : okTrue (@call Tab.empty Tryz.prog K_topR 5000 3 [.int .i64 55, .bool true] H.empty) = true := (by as_aux_lemma => kernel_rfl)
end Go.Proofs.YtnjpgmajapfjeaaGreatDoor.tc
