/-
  What the law TopMessage gives: its runs.
-/
import Derived.Test.YtaajjlnckckkkaaGreatDoorTMR
set_option linter.unusedSectionVars false
set_option linter.unusedVariables false
set_option maxRecDepth 1000000
set_option maxHeartbeats 0
namespace Go.Proofs.YtaajjlnckckkkaaGreatDoor.tm
open Go.X Go.RowKit Go.X.chars8
theorem d3_0 : @inRun Tryz.prog Tab.empty K_top0 5000 R3_0 = true := (by as_aux_lemma => kernel_rfl)
theorem e3_0 : okTrue (@call Tab.empty Tryz.prog ((inHand R3_0).or K_top0) 5000 5 [.str 3 5646632, .bool false] H.empty) = true := (by as_aux_lemma => kernel_rfl)
theorem c3_0 : GC (3, 5646632) false := by
  letI : Tab := Tab.empty
  exact ⟨(inHand R3_0).or K_top0, HandOk.or (inHand_ok (ok_of K_top0_ok (by kernel_rfl) d3_0) (by kernel_rfl)) K_top0_ok, e3_0⟩
theorem d3_1 : @inRun Tryz.prog Tab.empty K_top0 5000 R3_1 = true := (by as_aux_lemma => kernel_rfl)
theorem e3_1 : okTrue (@call Tab.empty Tryz.prog ((inHand R3_1).or K_top0) 5000 5 [.str 3 5646632, .bool true] H.empty) = true := (by as_aux_lemma => kernel_rfl)
theorem c3_1 : GC (3, 5646632) true := by
  letI : Tab := Tab.empty
  exact ⟨(inHand R3_1).or K_top0, HandOk.or (inHand_ok (ok_of K_top0_ok (by kernel_rfl) d3_1) (by kernel_rfl)) K_top0_ok, e3_1⟩
end Go.Proofs.YtaajjlnckckkkaaGreatDoor.tm
