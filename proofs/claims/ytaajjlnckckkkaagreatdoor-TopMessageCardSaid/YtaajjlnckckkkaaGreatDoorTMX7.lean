/-
  What the law TopMessage gives: its runs.
-/
import Derived.Test.YtaajjlnckckkkaaGreatDoorTMR
set_option linter.unusedSectionVars false
set_option linter.unusedVariables false
set_option maxRecDepth 1000000
set_option maxHeartbeats 0
namespace Go.Proofs.YtaajjlnckckkkaaGreatDoor.tm
open Go.X Go.RowKit Go.X.chars8
theorem d7_0 : @inRun Tryz.prog Tab.empty K_top0 5000 R7_0 = true := (by as_aux_lemma => kernel_rfl)
theorem e7_0 : okTrue (@call Tab.empty Tryz.prog ((inHand R7_0).or K_top0) 5000 5 [.str 21 125924534186164816246133852188561726513007718714408, .bool false] H.empty) = true := (by as_aux_lemma => kernel_rfl)
theorem c7_0 : GC (21, 125924534186164816246133852188561726513007718714408) false := by
  letI : Tab := Tab.empty
  exact ⟨(inHand R7_0).or K_top0, HandOk.or (inHand_ok (ok_of K_top0_ok (by kernel_rfl) d7_0) (by kernel_rfl)) K_top0_ok, e7_0⟩
theorem d7_1 : @inRun Tryz.prog Tab.empty K_top0 5000 R7_1 = true := (by as_aux_lemma => kernel_rfl)
theorem e7_1 : okTrue (@call Tab.empty Tryz.prog ((inHand R7_1).or K_top0) 5000 5 [.str 21 125924534186164816246133852188561726513007718714408, .bool true] H.empty) = true := (by as_aux_lemma => kernel_rfl)
theorem c7_1 : GC (21, 125924534186164816246133852188561726513007718714408) true := by
  letI : Tab := Tab.empty
  exact ⟨(inHand R7_1).or K_top0, HandOk.or (inHand_ok (ok_of K_top0_ok (by kernel_rfl) d7_1) (by kernel_rfl)) K_top0_ok, e7_1⟩
end Go.Proofs.YtaajjlnckckkkaaGreatDoor.tm
