/-
  What the law TopMessage gives: its runs.
-/
import Derived.Test.YtaajjlnckckkkaaGreatDoorTMR
set_option linter.unusedSectionVars false
set_option linter.unusedVariables false
set_option maxRecDepth 1000000
set_option maxHeartbeats 0
namespace Go.Proofs.YtaajjlnckckkkaaGreatDoor.tm
open Go.X Go.RowKit Go.X.chars8
theorem d6_0 : @inRun Tryz.prog Tab.empty K_top0 5000 R6_0 = true := (by as_aux_lemma => kernel_rfl)
theorem e6_0 : okTrue (@call Tab.empty Tryz.prog ((inHand R6_0).or K_top0) 5000 5 [.str 16 154706541852025644484233205990057992554, .bool false] H.empty) = true := (by as_aux_lemma => kernel_rfl)
theorem c6_0 : GC (16, 154706541852025644484233205990057992554) false := by
  letI : Tab := Tab.empty
  exact ⟨(inHand R6_0).or K_top0, HandOk.or (inHand_ok (ok_of K_top0_ok (by kernel_rfl) d6_0) (by kernel_rfl)) K_top0_ok, e6_0⟩
theorem d6_1 : @inRun Tryz.prog Tab.empty K_top0 5000 R6_1 = true := (by as_aux_lemma => kernel_rfl)
theorem e6_1 : okTrue (@call Tab.empty Tryz.prog ((inHand R6_1).or K_top0) 5000 5 [.str 16 154706541852025644484233205990057992554, .bool true] H.empty) = true := (by as_aux_lemma => kernel_rfl)
theorem c6_1 : GC (16, 154706541852025644484233205990057992554) true := by
  letI : Tab := Tab.empty
  exact ⟨(inHand R6_1).or K_top0, HandOk.or (inHand_ok (ok_of K_top0_ok (by kernel_rfl) d6_1) (by kernel_rfl)) K_top0_ok, e6_1⟩
end Go.Proofs.YtaajjlnckckkkaaGreatDoor.tm
