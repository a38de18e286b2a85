/-
  The law StringsTexts: its runs.
-/
import Derived.Test.YtalacaghkbfapaaGreatDoorSTM
import Derived.Test.YtalacaghkbfapaaGreatDoorXN4
set_option linter.unusedVariables false
set_option linter.unusedSimpArgs false
set_option linter.unusedSectionVars false
set_option maxRecDepth 1000000
set_option maxHeartbeats 0
namespace Go.Proofs.YtalacaghkbfapaaGreatDoor.stx
open Go.X Go.RowKit Go.Proofs
theorem m1_2 : M1 2 := fun p h => (by as_aux_lemma => kernel_rfl)
theorem m2_2 : M2 2 := fun p h => (by as_aux_lemma => kernel_rfl)
theorem m1_5 : M1 5 := fun p h => (by as_aux_lemma => kernel_rfl)
theorem m2_5 : M2 5 := fun p h => (by as_aux_lemma => kernel_rfl)
theorem m1_8 : M1 8 := fun p h => (by as_aux_lemma => kernel_rfl)
theorem m2_8 : M2 8 := fun p h => (by as_aux_lemma => kernel_rfl)
theorem m1_11 : M1 11 := fun p h => (by as_aux_lemma => kernel_rfl)
theorem m2_11 : M2 11 := fun p h => (by as_aux_lemma => kernel_rfl)
theorem m1_14 : M1 14 := fun p h => (by as_aux_lemma => kernel_rfl)
theorem m2_14 : M2 14 := fun p h => (by as_aux_lemma => kernel_rfl)
theorem m1_17 : M1 17 := fun p h => (by as_aux_lemma => kernel_rfl)
theorem m2_17 : M2 17 := fun p h => (by as_aux_lemma => kernel_rfl)
theorem m1_20 : M1 20 := fun p h => (by as_aux_lemma => kernel_rfl)
theorem m2_20 : M2 20 := fun p h => (by as_aux_lemma => kernel_rfl)
theorem m1_23 : M1 23 := fun p h => (by as_aux_lemma => kernel_rfl)
theorem m2_23 : M2 23 := fun p h => (by as_aux_lemma => kernel_rfl)
theorem m1_26 : M1 26 := fun p h => (by as_aux_lemma => kernel_rfl)
theorem m2_26 : M2 26 := fun p h => (by as_aux_lemma => kernel_rfl)
theorem m1_29 : M1 29 := fun p h => (by as_aux_lemma => kernel_rfl)
theorem m2_29 : M2 29 := fun p h => (by as_aux_lemma => kernel_rfl)
theorem m1_32 : M1 32 := fun p h => (by as_aux_lemma => kernel_rfl)
theorem m2_32 : M2 32 := fun p h => (by as_aux_lemma => kernel_rfl)
theorem m1_35 : M1 35 := fun p h => (by as_aux_lemma => kernel_rfl)
theorem m2_35 : M2 35 := fun p h => (by as_aux_lemma => kernel_rfl)
theorem m1_38 : M1 38 := fun p h => (by as_aux_lemma => kernel_rfl)
theorem m2_38 : M2 38 := fun p h => (by as_aux_lemma => kernel_rfl)
theorem m1_41 : M1 41 := fun p h => (by as_aux_lemma => kernel_rfl)
theorem m2_41 : M2 41 := fun p h => (by as_aux_lemma => kernel_rfl)
end Go.Proofs.YtalacaghkbfapaaGreatDoor.stx
