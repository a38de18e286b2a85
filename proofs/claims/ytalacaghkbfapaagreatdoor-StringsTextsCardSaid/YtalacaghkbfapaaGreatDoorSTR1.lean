/-
  The law StringsTexts: its runs.
-/
import Derived.Test.YtalacaghkbfapaaGreatDoorSTM
import Derived.Test.YtalacaghkbfapaaGreatDoorXN4
set_option linter.unusedVariables false
set_option linter.unusedSimpArgs false
set_option linter.unusedSectionVars false
set_option maxRecDepth 1000000
set_option maxHeartbeats 0
namespace Go.Proofs.YtalacaghkbfapaaGreatDoor.stx
open Go.X Go.RowKit Go.Proofs
theorem m1_1 : M1 1 := fun p h => (by as_aux_lemma => kernel_rfl)
theorem m2_1 : M2 1 := fun p h => (by as_aux_lemma => kernel_rfl)
theorem m1_4 : M1 4 := fun p h => (by as_aux_lemma => kernel_rfl)
theorem m2_4 : M2 4 := fun p h => (by as_aux_lemma => kernel_rfl)
theorem m1_7 : M1 7 := fun p h => (by as_aux_lemma => kernel_rfl)
theorem m2_7 : M2 7 := fun p h => (by as_aux_lemma => kernel_rfl)
theorem m1_10 : M1 10 := fun p h => (by as_aux_lemma => kernel_rfl)
theorem m2_10 : M2 10 := fun p h => (by as_aux_lemma => kernel_rfl)
theorem m1_13 : M1 13 := fun p h => (by as_aux_lemma => kernel_rfl)
theorem m2_13 : M2 13 := fun p h => (by as_aux_lemma => kernel_rfl)
theorem m1_16 : M1 16 := fun p h => (by as_aux_lemma => kernel_rfl)
theorem m2_16 : M2 16 := fun p h => (by as_aux_lemma => kernel_rfl)
theorem m1_19 : M1 19 := fun p h => (by as_aux_lemma => kernel_rfl)
theorem m2_19 : M2 19 := fun p h => (by as_aux_lemma => kernel_rfl)
theorem m1_22 : M1 22 := fun p h => (by as_aux_lemma => kernel_rfl)
theorem m2_22 : M2 22 := fun p h => (by as_aux_lemma => kernel_rfl)
theorem m1_25 : M1 25 := fun p h => (by as_aux_lemma => kernel_rfl)
theorem m2_25 : M2 25 := fun p h => (by as_aux_lemma => kernel_rfl)
theorem m1_28 : M1 28 := fun p h => (by as_aux_lemma => kernel_rfl)
theorem m2_28 : M2 28 := fun p h => (by as_aux_lemma => kernel_rfl)
theorem m1_31 : M1 31 := fun p h => (by as_aux_lemma => kernel_rfl)
theorem m2_31 : M2 31 := fun p h => (by as_aux_lemma => kernel_rfl)
theorem m1_34 : M1 34 := fun p h => (by as_aux_lemma => kernel_rfl)
theorem m2_34 : M2 34 := fun p h => (by as_aux_lemma => kernel_rfl)
theorem m1_37 : M1 37 := fun p h => (by as_aux_lemma => kernel_rfl)
theorem m2_37 : M2 37 := fun p h => (by as_aux_lemma => kernel_rfl)
theorem m1_40 : M1 40 := fun p h => (by as_aux_lemma => kernel_rfl)
theorem m2_40 : M2 40 := fun p h => (by as_aux_lemma => kernel_rfl)
end Go.Proofs.YtalacaghkbfapaaGreatDoor.stx
