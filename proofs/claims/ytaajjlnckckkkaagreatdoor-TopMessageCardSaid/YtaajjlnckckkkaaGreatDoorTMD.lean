/-
  What the law TopMessage gives: its runs.
-/
import Derived.Test.YtaajjlnckckkkaaGreatDoorTMA
set_option linter.unusedSectionVars false
set_option linter.unusedVariables false
set_option maxRecDepth 1000000
set_option maxHeartbeats 0
namespace Go.Proofs.YtaajjlnckckkkaaGreatDoor.tm
open Go.X Go.RowKit Go.X.chars8
theorem xn40 : chN 40 = true := (by as_aux_lemma => kernel_rfl)
theorem ba : B1 := fun t s h e hn => (by as_aux_lemma => kernel_rfl)
theorem bb : B2 := fun t s h e hn => (by as_aux_lemma => kernel_rfl)
theorem bc : B3 := fun t s h e hn => (by as_aux_lemma => kernel_rfl)
theorem xb0 : GB false := fun t s h e hn => (by as_aux_lemma => kernel_rfl)
theorem xb1 : GB true := fun t s h e hn => (by as_aux_lemma => kernel_rfl)
theorem allB : ∀ b, GB b
  | false => xb0
  | true => xb1
end Go.Proofs.YtaajjlnckckkkaaGreatDoor.tm
