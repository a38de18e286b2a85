/-
  Runs of the law TableChain, by the kernel.
-/
import Derived.Test.YtnjpgmajapfjeaaGreatDoorXN3
import Derived.Test.YtnjpgmajapfjeaaGreatDoorTCRH
set_option linter.unusedVariables false
set_option maxRecDepth 1000000
set_option maxHeartbeats 0
namespace Go.Proofs.YtnjpgmajapfjeaaGreatDoor.tc
open Go.X Go.RowKit
theorem rR3 : okTrue (@call Tab.empty Tryz.prog K_topR 5000 3 [.int .i64 3, .bool true] H.empty) = true := (by as_aux_lemma => kernel_rfl)
theorem rR8 : okTrue (@call Tab.empty Tryz.prog K_topR 5000 3 [.int .i64 8, .bool true] H.empty) = true := (by as_aux_lemma => kernel_rfl)
theorem rR15 : okTrue (@call Tab.empty Tryz.prog K_topR 5000 3 [.int .i64 15, .bool true] H.empty) = true := (by as_aux_lemma => kernel_rfl)
theorem rR22 : okTrue (@call Tab.empty Tryz.prog K_topR 5000 3 [.int .i64 22, .bool true] H.empty) = true := (by as_aux_lemma => kernel_rfl)
theorem rR29 : okTrue (@call Tab.empty Tryz.prog K_topR 5000 3 [.int .i64 29, .bool true] H.empty) = true := (by as_aux_lemma => kernel_rfl)
theorem rR38 : okTrue (@call Tab.empty Tryz.prog K_topR 5000 3 [.int .i64 38, .bool true] H.empty) = true := (by as_aux_lemma => kernel_rfl)
theorem rR41 : okTrue (@call Tab.empty Tryz.prog K_topR 5000 3 [.int .i64 41, .bool true] H.empty) = true := (by as_aux_lemma => kernel_rfl)
theorem rR48 : okTrue (@call Tab.empty Tryz.prog K_topR 5000 3 [.int .i64 48, .bool true] H.empty) = true := (by as_aux_lemma => kernel_rfl)
theorem rR59 : okTrue (@call Tab.empty Tryz.prog K_topR 5000 3 [.int .i64 59, .bool true] H.empty) = true := (by as_aux_lemma => kernel_rfl)
end Go.Proofs.YtnjpgmajapfjeaaGreatDoor.tc
