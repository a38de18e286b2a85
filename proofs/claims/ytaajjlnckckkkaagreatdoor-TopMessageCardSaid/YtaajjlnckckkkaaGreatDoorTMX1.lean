/-
  What the law TopMessage gives: its runs.
-/
import Derived.Test.YtaajjlnckckkkaaGreatDoorTMR
set_option linter.unusedSectionVars false
set_option linter.unusedVariables false
set_option maxRecDepth 1000000
set_option maxHeartbeats 0
namespace Go.Proofs.YtaajjlnckckkkaaGreatDoor.tm
open Go.X Go.RowKit Go.X.chars8
theorem d1_0 : @inRun Tryz.prog Tab.empty K_top0 5000 R1_0 = true := (by as_aux_lemma => kernel_rfl)
theorem e1_0 : okTrue (@call Tab.empty Tryz.prog ((inHand R1_0).or K_top0) 5000 5 [.str 1 77, .bool false] H.empty) = true := (by as_aux_lemma => kernel_rfl)
theorem c1_0 : GC (1, 77) false := by
  letI : Tab := Tab.empty
  exact ⟨(inHand R1_0).or K_top0, HandOk.or (inHand_ok (ok_of K_top0_ok (by kernel_rfl) d1_0) (by kernel_rfl)) K_top0_ok, e1_0⟩
theorem d1_1 : @inRun Tryz.prog Tab.empty K_top0 5000 R1_1 = true := (by as_aux_lemma => kernel_rfl)
theorem e1_1 : okTrue (@call Tab.empty Tryz.prog ((inHand R1_1).or K_top0) 5000 5 [.str 1 77, .bool true] H.empty) = true := (by as_aux_lemma => kernel_rfl)
theorem c1_1 : GC (1, 77) true := by
  letI : Tab := Tab.empty
  exact ⟨(inHand R1_1).or K_top0, HandOk.or (inHand_ok (ok_of K_top0_ok (by kernel_rfl) d1_1) (by kernel_rfl)) K_top0_ok, e1_1⟩
end Go.Proofs.YtaajjlnckckkkaaGreatDoor.tm
