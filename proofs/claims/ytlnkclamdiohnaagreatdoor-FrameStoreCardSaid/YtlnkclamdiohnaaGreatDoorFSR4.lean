/-
  The law FrameStore: its runs.
-/
import Derived.Test.YtlnkclamdiohnaaGreatDoorFSN
set_option linter.unusedVariables false
set_option linter.unusedSimpArgs false
set_option linter.unusedSectionVars false
set_option maxRecDepth 1000000
set_option maxHeartbeats 0
namespace Go.Proofs.YtlnkclamdiohnaaGreatDoor.fp
open Go.X Go.RowKit Go.Proofs
theorem t_9_0_4 : ∀ ds ∈ K8_4, GT 9 false ds := by
  repeat (refine lCons (fun p h => (by as_aux_lemma => kernel_rfl)) ?_)
  exact lNil
theorem t_8_1_0 : ∀ ds ∈ K7_0, GT 8 true ds := by
  repeat (refine lCons (fun p h => (by as_aux_lemma => kernel_rfl)) ?_)
  exact lNil
theorem t_5_1_0 : ∀ ds ∈ K4_0, GT 5 true ds := by
  repeat (refine lCons (fun p h => (by as_aux_lemma => kernel_rfl)) ?_)
  exact lNil
theorem t_6_1_1 : ∀ ds ∈ K5_1, GT 6 true ds := by
  repeat (refine lCons (fun p h => (by as_aux_lemma => kernel_rfl)) ?_)
  exact lNil
theorem f_6_1_0 : ∀ ds ∈ K5_0, GF 6 1 ds := by
  repeat (refine lCons (fun p h => (by as_aux_lemma => kernel_rfl)) ?_)
  exact lNil
theorem f_8_0_0 : ∀ ds ∈ K7_0, GF 8 0 ds := by
  repeat (refine lCons (fun p h => (by as_aux_lemma => kernel_rfl)) ?_)
  exact lNil
theorem f_9_0_3 : ∀ ds ∈ K8_3, GF 9 0 ds := by
  repeat (refine lCons (fun p h => (by as_aux_lemma => kernel_rfl)) ?_)
  exact lNil
theorem f_4_0_0 : ∀ ds ∈ K3_0, GF 4 0 ds := by
  repeat (refine lCons (fun p h => (by as_aux_lemma => kernel_rfl)) ?_)
  exact lNil
theorem f_9_1_5 : ∀ ds ∈ K8_5, GF 9 1 ds := by
  repeat (refine lCons (fun p h => (by as_aux_lemma => kernel_rfl)) ?_)
  exact lNil
theorem f_6_0_1 : ∀ ds ∈ K5_1, GF 6 0 ds := by
  repeat (refine lCons (fun p h => (by as_aux_lemma => kernel_rfl)) ?_)
  exact lNil
end Go.Proofs.YtlnkclamdiohnaaGreatDoor.fp
