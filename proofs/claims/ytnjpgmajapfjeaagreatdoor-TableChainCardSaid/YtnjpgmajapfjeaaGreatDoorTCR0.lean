/-
  Runs of the law TableChain, by the kernel.
-/
import Derived.Test.YtnjpgmajapfjeaaGreatDoorXN3
import Derived.Test.YtnjpgmajapfjeaaGreatDoorTCRH
set_option linter.unusedVariables false
set_option maxRecDepth 1000000
set_option maxHeartbeats 0
namespace Go.Proofs.YtnjpgmajapfjeaaGreatDoor.tc
open Go.X Go.RowKit
theorem rR1 : okTrue (@call Tab.empty Tryz.prog K_topR 5000 3 [.int .i64 1, .bool true] H.empty) = true := (by as_aux_lemma => kernel_rfl)
theorem rR7 : okTrue (@call Tab.empty Tryz.prog K_topR 5000 3 [.int .i64 7, .bool true] H.empty) = true := (by as_aux_lemma => kernel_rfl)
theorem rR16 : okTrue (@call Tab.empty Tryz.prog K_topR 5000 3 [.int .i64 16, .bool true] H.empty) = true := (by as_aux_lemma => kernel_rfl)
theorem rR24 : okTrue (@call Tab.empty Tryz.prog K_topR 5000 3 [.int .i64 24, .bool true] H.empty) = true := (by as_aux_lemma => kernel_rfl)
theorem rR27 : okTrue (@call Tab.empty Tryz.prog K_topR 5000 3 [.int .i64 27, .bool true] H.empty) = true := (by as_aux_lemma => kernel_rfl)
theorem rR39 : okTrue (@call Tab.empty Tryz.prog K_topR 5000 3 [.int .i64 39, .bool true] H.empty) = true := (by as_aux_lemma => kernel_rfl)
theorem rR40 : okTrue (@call Tab.empty Tryz.prog K_topR 5000 3 [.int .i64 40, .bool true] H.empty) = true := (by as_aux_lemma => kernel_rfl)
theorem rR47 : okTrue (@call Tab.empty Tryz.prog K_topR 5000 3 [.int .i64 47, .bool true] H.empty) = true := (by as_aux_lemma => kernel_rfl)
theorem rR60 : okTrue (@call Tab.empty Tryz.prog K_topR 5000 3 [.int .i64 60, .bool true] H.empty) = true := (by as_aux_lemma => kernel_rfl)
end Go.Proofs.YtnjpgmajapfjeaaGreatDoor.tc
