/-
  The law FramePush: its runs.
-/
import Derived.Test.YtlnkclamdiohnaaGreatDoorFPN
set_option linter.unusedVariables false
set_option linter.unusedSimpArgs false
set_option linter.unusedSectionVars false
set_option maxRecDepth 1000000
set_option maxHeartbeats 0
namespace Go.Proofs.YtlnkclamdiohnaaGreatDoor.fp
open Go.X Go.RowKit Go.Proofs
theorem m_0_1_0 : GM 0 1 false := fun p h => (by as_aux_lemma => kernel_rfl)
theorem m_0_1_1 : GM 0 1 true := fun p h => (by as_aux_lemma => kernel_rfl)
theorem m_0_4_0 : GM 0 4 false := fun p h => (by as_aux_lemma => kernel_rfl)
theorem m_0_4_1 : GM 0 4 true := fun p h => (by as_aux_lemma => kernel_rfl)
theorem m_0_7_0 : GM 0 7 false := fun p h => (by as_aux_lemma => kernel_rfl)
theorem m_0_7_1 : GM 0 7 true := fun p h => (by as_aux_lemma => kernel_rfl)
theorem m_1_2_0 : GM 1 2 false := fun p h => (by as_aux_lemma => kernel_rfl)
theorem m_1_2_1 : GM 1 2 true := fun p h => (by as_aux_lemma => kernel_rfl)
theorem m_1_5_0 : GM 1 5 false := fun p h => (by as_aux_lemma => kernel_rfl)
theorem m_1_5_1 : GM 1 5 true := fun p h => (by as_aux_lemma => kernel_rfl)
theorem m_2_0_0 : GM 2 0 false := fun p h => (by as_aux_lemma => kernel_rfl)
theorem m_2_0_1 : GM 2 0 true := fun p h => (by as_aux_lemma => kernel_rfl)
theorem m_2_3_0 : GM 2 3 false := fun p h => (by as_aux_lemma => kernel_rfl)
theorem m_2_3_1 : GM 2 3 true := fun p h => (by as_aux_lemma => kernel_rfl)
theorem m_2_6_0 : GM 2 6 false := fun p h => (by as_aux_lemma => kernel_rfl)
theorem m_2_6_1 : GM 2 6 true := fun p h => (by as_aux_lemma => kernel_rfl)
theorem m_3_1_0 : GM 3 1 false := fun p h => (by as_aux_lemma => kernel_rfl)
theorem m_3_1_1 : GM 3 1 true := fun p h => (by as_aux_lemma => kernel_rfl)
theorem m_3_4_0 : GM 3 4 false := fun p h => (by as_aux_lemma => kernel_rfl)
theorem m_3_4_1 : GM 3 4 true := fun p h => (by as_aux_lemma => kernel_rfl)
theorem m_3_7_0 : GM 3 7 false := fun p h => (by as_aux_lemma => kernel_rfl)
theorem m_3_7_1 : GM 3 7 true := fun p h => (by as_aux_lemma => kernel_rfl)
theorem m_4_2_0 : GM 4 2 false := fun p h => (by as_aux_lemma => kernel_rfl)
theorem m_4_2_1 : GM 4 2 true := fun p h => (by as_aux_lemma => kernel_rfl)
theorem m_4_5_0 : GM 4 5 false := fun p h => (by as_aux_lemma => kernel_rfl)
theorem m_4_5_1 : GM 4 5 true := fun p h => (by as_aux_lemma => kernel_rfl)
theorem m_5_0_0 : GM 5 0 false := fun p h => (by as_aux_lemma => kernel_rfl)
theorem m_5_0_1 : GM 5 0 true := fun p h => (by as_aux_lemma => kernel_rfl)
theorem m_5_3_0 : GM 5 3 false := fun p h => (by as_aux_lemma => kernel_rfl)
theorem m_5_3_1 : GM 5 3 true := fun p h => (by as_aux_lemma => kernel_rfl)
theorem m_5_6_0 : GM 5 6 false := fun p h => (by as_aux_lemma => kernel_rfl)
theorem m_5_6_1 : GM 5 6 true := fun p h => (by as_aux_lemma => kernel_rfl)
theorem m_6_1_0 : GM 6 1 false := fun p h => (by as_aux_lemma => kernel_rfl)
theorem m_6_1_1 : GM 6 1 true := fun p h => (by as_aux_lemma => kernel_rfl)
theorem m_6_4_0 : GM 6 4 false := fun p h => (by as_aux_lemma => kernel_rfl)
theorem m_6_4_1 : GM 6 4 true := fun p h => (by as_aux_lemma => kernel_rfl)
theorem m_6_7_0 : GM 6 7 false := fun p h => (by as_aux_lemma => kernel_rfl)
theorem m_6_7_1 : GM 6 7 true := fun p h => (by as_aux_lemma => kernel_rfl)
theorem m_7_2_0 : GM 7 2 false := fun p h => (by as_aux_lemma => kernel_rfl)
theorem m_7_2_1 : GM 7 2 true := fun p h => (by as_aux_lemma => kernel_rfl)
theorem m_7_5_0 : GM 7 5 false := fun p h => (by as_aux_lemma => kernel_rfl)
theorem m_7_5_1 : GM 7 5 true := fun p h => (by as_aux_lemma => kernel_rfl)
end Go.Proofs.YtlnkclamdiohnaaGreatDoor.fp
