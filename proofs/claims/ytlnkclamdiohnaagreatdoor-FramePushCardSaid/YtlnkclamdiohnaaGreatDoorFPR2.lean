/-
  The law FramePush: its runs.
-/
import Derived.Test.YtlnkclamdiohnaaGreatDoorFPN
set_option linter.unusedVariables false
set_option linter.unusedSimpArgs false
set_option linter.unusedSectionVars false
set_option maxRecDepth 1000000
set_option maxHeartbeats 0
namespace Go.Proofs.YtlnkclamdiohnaaGreatDoor.fp
open Go.X Go.RowKit Go.Proofs
theorem m_0_2_0 : GM 0 2 false := fun p h => (by as_aux_lemma => kernel_rfl)
theorem m_0_2_1 : GM 0 2 true := fun p h => (by as_aux_lemma => kernel_rfl)
theorem m_0_5_0 : GM 0 5 false := fun p h => (by as_aux_lemma => kernel_rfl)
theorem m_0_5_1 : GM 0 5 true := fun p h => (by as_aux_lemma => kernel_rfl)
theorem m_1_0_0 : GM 1 0 false := fun p h => (by as_aux_lemma => kernel_rfl)
theorem m_1_0_1 : GM 1 0 true := fun p h => (by as_aux_lemma => kernel_rfl)
theorem m_1_3_0 : GM 1 3 false := fun p h => (by as_aux_lemma => kernel_rfl)
theorem m_1_3_1 : GM 1 3 true := fun p h => (by as_aux_lemma => kernel_rfl)
theorem m_1_6_0 : GM 1 6 false := fun p h => (by as_aux_lemma => kernel_rfl)
theorem m_1_6_1 : GM 1 6 true := fun p h => (by as_aux_lemma => kernel_rfl)
theorem m_2_1_0 : GM 2 1 false := fun p h => (by as_aux_lemma => kernel_rfl)
theorem m_2_1_1 : GM 2 1 true := fun p h => (by as_aux_lemma => kernel_rfl)
theorem m_2_4_0 : GM 2 4 false := fun p h => (by as_aux_lemma => kernel_rfl)
theorem m_2_4_1 : GM 2 4 true := fun p h => (by as_aux_lemma => kernel_rfl)
theorem m_2_7_0 : GM 2 7 false := fun p h => (by as_aux_lemma => kernel_rfl)
theorem m_2_7_1 : GM 2 7 true := fun p h => (by as_aux_lemma => kernel_rfl)
theorem m_3_2_0 : GM 3 2 false := fun p h => (by as_aux_lemma => kernel_rfl)
theorem m_3_2_1 : GM 3 2 true := fun p h => (by as_aux_lemma => kernel_rfl)
theorem m_3_5_0 : GM 3 5 false := fun p h => (by as_aux_lemma => kernel_rfl)
theorem m_3_5_1 : GM 3 5 true := fun p h => (by as_aux_lemma => kernel_rfl)
theorem m_4_0_0 : GM 4 0 false := fun p h => (by as_aux_lemma => kernel_rfl)
theorem m_4_0_1 : GM 4 0 true := fun p h => (by as_aux_lemma => kernel_rfl)
theorem m_4_3_0 : GM 4 3 false := fun p h => (by as_aux_lemma => kernel_rfl)
theorem m_4_3_1 : GM 4 3 true := fun p h => (by as_aux_lemma => kernel_rfl)
theorem m_4_6_0 : GM 4 6 false := fun p h => (by as_aux_lemma => kernel_rfl)
theorem m_4_6_1 : GM 4 6 true := fun p h => (by as_aux_lemma => kernel_rfl)
theorem m_5_1_0 : GM 5 1 false := fun p h => (by as_aux_lemma => kernel_rfl)
theorem m_5_1_1 : GM 5 1 true := fun p h => (by as_aux_lemma => kernel_rfl)
theorem m_5_4_0 : GM 5 4 false := fun p h => (by as_aux_lemma => kernel_rfl)
theorem m_5_4_1 : GM 5 4 true := fun p h => (by as_aux_lemma => kernel_rfl)
theorem m_5_7_0 : GM 5 7 false := fun p h => (by as_aux_lemma => kernel_rfl)
theorem m_5_7_1 : GM 5 7 true := fun p h => (by as_aux_lemma => kernel_rfl)
theorem m_6_2_0 : GM 6 2 false := fun p h => (by as_aux_lemma => kernel_rfl)
theorem m_6_2_1 : GM 6 2 true := fun p h => (by as_aux_lemma => kernel_rfl)
theorem m_6_5_0 : GM 6 5 false := fun p h => (by as_aux_lemma => kernel_rfl)
theorem m_6_5_1 : GM 6 5 true := fun p h => (by as_aux_lemma => kernel_rfl)
theorem m_7_0_0 : GM 7 0 false := fun p h => (by as_aux_lemma => kernel_rfl)
theorem m_7_0_1 : GM 7 0 true := fun p h => (by as_aux_lemma => kernel_rfl)
theorem m_7_3_0 : GM 7 3 false := fun p h => (by as_aux_lemma => kernel_rfl)
theorem m_7_3_1 : GM 7 3 true := fun p h => (by as_aux_lemma => kernel_rfl)
theorem m_7_6_0 : GM 7 6 false := fun p h => (by as_aux_lemma => kernel_rfl)
theorem m_7_6_1 : GM 7 6 true := fun p h => (by as_aux_lemma => kernel_rfl)
end Go.Proofs.YtlnkclamdiohnaaGreatDoor.fp
