/-
  Runs of the law TableChain, by the kernel.
-/
import Derived.Test.YtnjpgmajapfjeaaGreatDoorXN3
import Derived.Test.YtnjpgmajapfjeaaGreatDoorTCRH
set_option linter.unusedVariables false
set_option maxRecDepth 1000000
set_option maxHeartbeats 0
namespace Go.Proofs.YtnjpgmajapfjeaaGreatDoor.tc
open Go.X Go.RowKit
theorem rR11 : okTrue (@call Tab.empty Tryz.prog K_topR 5000 3 [.int .i64 11, .bool true] H.empty) = true := (by as_aux_lemma => kernel_rfl)
theorem rR12 : okTrue (@call Tab.empty Tryz.prog K_topR 5000 3 [.int .i64 12, .bool true] H.empty) = true := (by as_aux_lemma => kernel_rfl)
theorem rR19 : okTrue (@call Tab.empty Tryz.prog K_topR 5000 3 [.int .i64 19, .bool true] H.empty) = true := (by as_aux_lemma => kernel_rfl)
theorem rR32 : okTrue (@call Tab.empty Tryz.prog K_topR 5000 3 [.int .i64 32, .bool true] H.empty) = true := (by as_aux_lemma => kernel_rfl)
theorem rR36 : okTrue (@call Tab.empty Tryz.prog K_topR 5000 3 [.int .i64 36, .bool true] H.empty) = true := (by as_aux_lemma => kernel_rfl)
theorem rR43 : okTrue (@call Tab.empty Tryz.prog K_topR 5000 3 [.int .i64 43, .bool true] H.empty) = true := (by as_aux_lemma => kernel_rfl)
theorem rR50 : okTrue (@call Tab.empty Tryz.prog K_topR 5000 3 [.int .i64 50, .bool true] H.empty) = true := (by as_aux_lemma => kernel_rfl)
theorem rR57 : okTrue (@call Tab.empty Tryz.prog K_topR 5000 3 [.int .i64 57, .bool true] H.empty) = true := (by as_aux_lemma => kernel_rfl)
end Go.Proofs.YtnjpgmajapfjeaaGreatDoor.tc
