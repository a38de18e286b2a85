/-
  What the law TopMessage gives: its runs.
-/
import Derived.Test.YtaajjlnckckkkaaGreatDoorTMR
set_option linter.unusedSectionVars false
set_option linter.unusedVariables false
set_option maxRecDepth 1000000
set_option maxHeartbeats 0
namespace Go.Proofs.YtaajjlnckckkkaaGreatDoor.tm
open Go.X Go.RowKit Go.X.chars8
theorem d8_0 : @inRun Tryz.prog Tab.empty K_top0 5000 R8_0 = true := (by as_aux_lemma => kernel_rfl)
theorem e8_0 : okTrue (@call Tab.empty Tryz.prog ((inHand R8_0).or K_top0) 5000 5 [.str 26 177462528906270532328520934635542489792491443287338843928682858, .bool false] H.empty) = true := (by as_aux_lemma => kernel_rfl)
theorem c8_0 : GC (26, 177462528906270532328520934635542489792491443287338843928682858) false := by
  letI : Tab := Tab.empty
  exact ⟨(inHand R8_0).or K_top0, HandOk.or (inHand_ok (ok_of K_top0_ok (by kernel_rfl) d8_0) (by kernel_rfl)) K_top0_ok, e8_0⟩
theorem d8_1 : @inRun Tryz.prog Tab.empty K_top0 5000 R8_1 = true := (by as_aux_lemma => kernel_rfl)
theorem e8_1 : okTrue (@call Tab.empty Tryz.prog ((inHand R8_1).or K_top0) 5000 5 [.str 26 177462528906270532328520934635542489792491443287338843928682858, .bool true] H.empty) = true := (by as_aux_lemma => kernel_rfl)
theorem c8_1 : GC (26, 177462528906270532328520934635542489792491443287338843928682858) true := by
  letI : Tab := Tab.empty
  exact ⟨(inHand R8_1).or K_top0, HandOk.or (inHand_ok (ok_of K_top0_ok (by kernel_rfl) d8_1) (by kernel_rfl)) K_top0_ok, e8_1⟩
end Go.Proofs.YtaajjlnckckkkaaGreatDoor.tm
