/-
  The law FramePush: its runs.
-/
import Derived.Test.YtlnkclamdiohnaaGreatDoorFPN
set_option linter.unusedVariables false
set_option linter.unusedSimpArgs false
set_option linter.unusedSectionVars false
set_option maxRecDepth 1000000
set_option maxHeartbeats 0
namespace Go.Proofs.YtlnkclamdiohnaaGreatDoor.fp
open Go.X Go.RowKit Go.Proofs
theorem m_0_0_0 : GM 0 0 false := fun p h => (by as_aux_lemma => kernel_rfl)
theorem m_0_0_1 : GM 0 0 true := fun p h => (by as_aux_lemma => kernel_rfl)
theorem m_0_3_0 : GM 0 3 false := fun p h => (by as_aux_lemma => kernel_rfl)
theorem m_0_3_1 : GM 0 3 true := fun p h => (by as_aux_lemma => kernel_rfl)
theorem m_0_6_0 : GM 0 6 false := fun p h => (by as_aux_lemma => kernel_rfl)
theorem m_0_6_1 : GM 0 6 true := fun p h => (by as_aux_lemma => kernel_rfl)
theorem m_1_1_0 : GM 1 1 false := fun p h => (by as_aux_lemma => kernel_rfl)
theorem m_1_1_1 : GM 1 1 true := fun p h => (by as_aux_lemma => kernel_rfl)
theorem m_1_4_0 : GM 1 4 false := fun p h => (by as_aux_lemma => kernel_rfl)
theorem m_1_4_1 : GM 1 4 true := fun p h => (by as_aux_lemma => kernel_rfl)
theorem m_1_7_0 : GM 1 7 false := fun p h => (by as_aux_lemma => kernel_rfl)
theorem m_1_7_1 : GM 1 7 true := fun p h => (by as_aux_lemma => kernel_rfl)
theorem m_2_2_0 : GM 2 2 false := fun p h => (by as_aux_lemma => kernel_rfl)
theorem m_2_2_1 : GM 2 2 true := fun p h => (by as_aux_lemma => kernel_rfl)
theorem m_2_5_0 : GM 2 5 false := fun p h => (by as_aux_lemma => kernel_rfl)
theorem m_2_5_1 : GM 2 5 true := fun p h => (by as_aux_lemma => kernel_rfl)
theorem m_3_0_0 : GM 3 0 false := fun p h => (by as_aux_lemma => kernel_rfl)
theorem m_3_0_1 : GM 3 0 true := fun p h => (by as_aux_lemma => kernel_rfl)
theorem m_3_3_0 : GM 3 3 false := fun p h => (by as_aux_lemma => kernel_rfl)
theorem m_3_3_1 : GM 3 3 true := fun p h => (by as_aux_lemma => kernel_rfl)
theorem m_3_6_0 : GM 3 6 false := fun p h => (by as_aux_lemma => kernel_rfl)
theorem m_3_6_1 : GM 3 6 true := fun p h => (by as_aux_lemma => kernel_rfl)
theorem m_4_1_0 : GM 4 1 false := fun p h => (by as_aux_lemma => kernel_rfl)
theorem m_4_1_1 : GM 4 1 true := fun p h => (by as_aux_lemma => kernel_rfl)
theorem m_4_4_0 : GM 4 4 false := fun p h => (by as_aux_lemma => kernel_rfl)
theorem m_4_4_1 : GM 4 4 true := fun p h => (by as_aux_lemma => kernel_rfl)
theorem m_4_7_0 : GM 4 7 false := fun p h => (by as_aux_lemma => kernel_rfl)
theorem m_4_7_1 : GM 4 7 true := fun p h => (by as_aux_lemma => kernel_rfl)
theorem m_5_2_0 : GM 5 2 false := fun p h => (by as_aux_lemma => kernel_rfl)
theorem m_5_2_1 : GM 5 2 true := fun p h => (by as_aux_lemma => kernel_rfl)
theorem m_5_5_0 : GM 5 5 false := fun p h => (by as_aux_lemma => kernel_rfl)
theorem m_5_5_1 : GM 5 5 true := fun p h => (by as_aux_lemma => kernel_rfl)
theorem m_6_0_0 : GM 6 0 false := fun p h => (by as_aux_lemma => kernel_rfl)
theorem m_6_0_1 : GM 6 0 true := fun p h => (by as_aux_lemma => kernel_rfl)
theorem m_6_3_0 : GM 6 3 false := fun p h => (by as_aux_lemma => kernel_rfl)
theorem m_6_3_1 : GM 6 3 true := fun p h => (by as_aux_lemma => kernel_rfl)
theorem m_6_6_0 : GM 6 6 false := fun p h => (by as_aux_lemma => kernel_rfl)
theorem m_6_6_1 : GM 6 6 true := fun p h => (by as_aux_lemma => kernel_rfl)
theorem m_7_1_0 : GM 7 1 false := fun p h => (by as_aux_lemma => kernel_rfl)
theorem m_7_1_1 : GM 7 1 true := fun p h => (by as_aux_lemma => kernel_rfl)
theorem m_7_4_0 : GM 7 4 false := fun p h => (by as_aux_lemma => kernel_rfl)
theorem m_7_4_1 : GM 7 4 true := fun p h => (by as_aux_lemma => kernel_rfl)
theorem m_7_7_0 : GM 7 7 false := fun p h => (by as_aux_lemma => kernel_rfl)
theorem m_7_7_1 : GM 7 7 true := fun p h => (by as_aux_lemma => kernel_rfl)
end Go.Proofs.YtlnkclamdiohnaaGreatDoor.fp
