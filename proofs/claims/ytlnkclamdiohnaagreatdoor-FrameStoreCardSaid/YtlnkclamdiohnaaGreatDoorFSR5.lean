/-
  The law FrameStore: its runs.
-/
import Derived.Test.YtlnkclamdiohnaaGreatDoorFSN
set_option linter.unusedVariables false
set_option linter.unusedSimpArgs false
set_option linter.unusedSectionVars false
set_option maxRecDepth 1000000
set_option maxHeartbeats 0
namespace Go.Proofs.YtlnkclamdiohnaaGreatDoor.fp
open Go.X Go.RowKit Go.Proofs
theorem t_9_1_0 : ∀ ds ∈ K8_0, GT 9 true ds := by
  repeat (refine lCons (fun p h => (by as_aux_lemma => kernel_rfl)) ?_)
  exact lNil
theorem t_8_1_1 : ∀ ds ∈ K7_1, GT 8 true ds := by
  repeat (refine lCons (fun p h => (by as_aux_lemma => kernel_rfl)) ?_)
  exact lNil
theorem t_9_0_5 : ∀ ds ∈ K8_5, GT 9 false ds := by
  repeat (refine lCons (fun p h => (by as_aux_lemma => kernel_rfl)) ?_)
  exact lNil
theorem t_4_0_0 : ∀ ds ∈ K3_0, GT 4 false ds := by
  repeat (refine lCons (fun p h => (by as_aux_lemma => kernel_rfl)) ?_)
  exact lNil
theorem f_7_0_0 : ∀ ds ∈ K6_0, GF 7 0 ds := by
  repeat (refine lCons (fun p h => (by as_aux_lemma => kernel_rfl)) ?_)
  exact lNil
theorem f_8_0_1 : ∀ ds ∈ K7_1, GF 8 0 ds := by
  repeat (refine lCons (fun p h => (by as_aux_lemma => kernel_rfl)) ?_)
  exact lNil
theorem f_9_0_4 : ∀ ds ∈ K8_4, GF 9 0 ds := by
  repeat (refine lCons (fun p h => (by as_aux_lemma => kernel_rfl)) ?_)
  exact lNil
theorem f_4_1_0 : ∀ ds ∈ K3_0, GF 4 1 ds := by
  repeat (refine lCons (fun p h => (by as_aux_lemma => kernel_rfl)) ?_)
  exact lNil
theorem t_0_1_0 : ∀ ds ∈ K0_0, GT 0 true ds := by
  repeat (refine lCons (fun p h => (by as_aux_lemma => kernel_rfl)) ?_)
  exact lNil
theorem f_1_1_0 : ∀ ds ∈ K0_0, GF 1 1 ds := by
  repeat (refine lCons (fun p h => (by as_aux_lemma => kernel_rfl)) ?_)
  exact lNil
end Go.Proofs.YtlnkclamdiohnaaGreatDoor.fp
