/-
  The law StringsTexts: its runs.
-/
import Derived.Test.YtalacaghkbfapaaGreatDoorSTM
import Derived.Test.YtalacaghkbfapaaGreatDoorXN4
set_option linter.unusedVariables false
set_option linter.unusedSimpArgs false
set_option linter.unusedSectionVars false
set_option maxRecDepth 1000000
set_option maxHeartbeats 0
namespace Go.Proofs.YtalacaghkbfapaaGreatDoor.stx
open Go.X Go.RowKit Go.Proofs
theorem m1_0 : M1 0 := fun p h => (by as_aux_lemma => kernel_rfl)
theorem m2_0 : M2 0 := fun p h => (by as_aux_lemma => kernel_rfl)
theorem m1_3 : M1 3 := fun p h => (by as_aux_lemma => kernel_rfl)
theorem m2_3 : M2 3 := fun p h => (by as_aux_lemma => kernel_rfl)
theorem m1_6 : M1 6 := fun p h => (by as_aux_lemma => kernel_rfl)
theorem m2_6 : M2 6 := fun p h => (by as_aux_lemma => kernel_rfl)
theorem m1_9 : M1 9 := fun p h => (by as_aux_lemma => kernel_rfl)
theorem m2_9 : M2 9 := fun p h => (by as_aux_lemma => kernel_rfl)
theorem m1_12 : M1 12 := fun p h => (by as_aux_lemma => kernel_rfl)
theorem m2_12 : M2 12 := fun p h => (by as_aux_lemma => kernel_rfl)
theorem m1_15 : M1 15 := fun p h => (by as_aux_lemma => kernel_rfl)
theorem m2_15 : M2 15 := fun p h => (by as_aux_lemma => kernel_rfl)
theorem m1_18 : M1 18 := fun p h => (by as_aux_lemma => kernel_rfl)
theorem m2_18 : M2 18 := fun p h => (by as_aux_lemma => kernel_rfl)
theorem m1_21 : M1 21 := fun p h => (by as_aux_lemma => kernel_rfl)
theorem m2_21 : M2 21 := fun p h => (by as_aux_lemma => kernel_rfl)
theorem m1_24 : M1 24 := fun p h => (by as_aux_lemma => kernel_rfl)
theorem m2_24 : M2 24 := fun p h => (by as_aux_lemma => kernel_rfl)
theorem m1_27 : M1 27 := fun p h => (by as_aux_lemma => kernel_rfl)
theorem m2_27 : M2 27 := fun p h => (by as_aux_lemma => kernel_rfl)
theorem m1_30 : M1 30 := fun p h => (by as_aux_lemma => kernel_rfl)
theorem m2_30 : M2 30 := fun p h => (by as_aux_lemma => kernel_rfl)
theorem m1_33 : M1 33 := fun p h => (by as_aux_lemma => kernel_rfl)
theorem m2_33 : M2 33 := fun p h => (by as_aux_lemma => kernel_rfl)
theorem m1_36 : M1 36 := fun p h => (by as_aux_lemma => kernel_rfl)
theorem m2_36 : M2 36 := fun p h => (by as_aux_lemma => kernel_rfl)
theorem m1_39 : M1 39 := fun p h => (by as_aux_lemma => kernel_rfl)
theorem m2_39 : M2 39 := fun p h => (by as_aux_lemma => kernel_rfl)
theorem m1_42 : M1 42 := fun p h => (by as_aux_lemma => kernel_rfl)
theorem m2_42 : M2 42 := fun p h => (by as_aux_lemma => kernel_rfl)
end Go.Proofs.YtalacaghkbfapaaGreatDoor.stx
