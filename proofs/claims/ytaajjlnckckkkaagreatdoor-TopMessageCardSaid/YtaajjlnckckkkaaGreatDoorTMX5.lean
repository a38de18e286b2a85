/-
  What the law TopMessage gives: its runs.
-/
import Derived.Test.YtaajjlnckckkkaaGreatDoorTMR
set_option linter.unusedSectionVars false
set_option linter.unusedVariables false
set_option maxRecDepth 1000000
set_option maxHeartbeats 0
namespace Go.Proofs.YtaajjlnckckkkaaGreatDoor.tm
open Go.X Go.RowKit Go.X.chars8
theorem d5_0 : @inRun Tryz.prog Tab.empty K_top0 5000 R5_0 = true := (by as_aux_lemma => kernel_rfl)
theorem e5_0 : okTrue (@call Tab.empty Tryz.prog ((inHand R5_0).or K_top0) 5000 5 [.str 6 68669705972028, .bool false] H.empty) = true := (by as_aux_lemma => kernel_rfl)
theorem c5_0 : GC (6, 68669705972028) false := by
  letI : Tab := Tab.empty
  exact ⟨(inHand R5_0).or K_top0, HandOk.or (inHand_ok (ok_of K_top0_ok (by kernel_rfl) d5_0) (by kernel_rfl)) K_top0_ok, e5_0⟩
theorem d5_1 : @inRun Tryz.prog Tab.empty K_top0 5000 R5_1 = true := (by as_aux_lemma => kernel_rfl)
theorem e5_1 : okTrue (@call Tab.empty Tryz.prog ((inHand R5_1).or K_top0) 5000 5 [.str 6 68669705972028, .bool true] H.empty) = true := (by as_aux_lemma => kernel_rfl)
theorem c5_1 : GC (6, 68669705972028) true := by
  letI : Tab := Tab.empty
  exact ⟨(inHand R5_1).or K_top0, HandOk.or (inHand_ok (ok_of K_top0_ok (by kernel_rfl) d5_1) (by kernel_rfl)) K_top0_ok, e5_1⟩
end Go.Proofs.YtaajjlnckckkkaaGreatDoor.tm
