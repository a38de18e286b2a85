/-
  The law FrameStore: its runs.
-/
import Derived.Test.YtlnkclamdiohnaaGreatDoorFSN
set_option linter.unusedVariables false
set_option linter.unusedSimpArgs false
set_option linter.unusedSectionVars false
set_option maxRecDepth 1000000
set_option maxHeartbeats 0
namespace Go.Proofs.YtlnkclamdiohnaaGreatDoor.fp
open Go.X Go.RowKit Go.Proofs
theorem t_9_0_2 : ∀ ds ∈ K8_2, GT 9 false ds := by
  repeat (refine lCons (fun p h => (by as_aux_lemma => kernel_rfl)) ?_)
  exact lNil
theorem t_8_0_1 : ∀ ds ∈ K7_1, GT 8 false ds := by
  repeat (refine lCons (fun p h => (by as_aux_lemma => kernel_rfl)) ?_)
  exact lNil
theorem t_6_1_0 : ∀ ds ∈ K5_0, GT 6 true ds := by
  repeat (refine lCons (fun p h => (by as_aux_lemma => kernel_rfl)) ?_)
  exact lNil
theorem t_3_1_0 : ∀ ds ∈ K2_0, GT 3 true ds := by
  repeat (refine lCons (fun p h => (by as_aux_lemma => kernel_rfl)) ?_)
  exact lNil
theorem f_8_1_2 : ∀ ds ∈ K7_2, GF 8 1 ds := by
  repeat (refine lCons (fun p h => (by as_aux_lemma => kernel_rfl)) ?_)
  exact lNil
theorem f_9_1_3 : ∀ ds ∈ K8_3, GF 9 1 ds := by
  repeat (refine lCons (fun p h => (by as_aux_lemma => kernel_rfl)) ?_)
  exact lNil
theorem f_8_0_3 : ∀ ds ∈ K7_3, GF 8 0 ds := by
  repeat (refine lCons (fun p h => (by as_aux_lemma => kernel_rfl)) ?_)
  exact lNil
theorem f_2_1_0 : ∀ ds ∈ K1_0, GF 2 1 ds := by
  repeat (refine lCons (fun p h => (by as_aux_lemma => kernel_rfl)) ?_)
  exact lNil
end Go.Proofs.YtlnkclamdiohnaaGreatDoor.fp
