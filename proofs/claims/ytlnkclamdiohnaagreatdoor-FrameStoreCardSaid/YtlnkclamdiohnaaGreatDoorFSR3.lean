/-
  The law FrameStore: its runs.
-/
import Derived.Test.YtlnkclamdiohnaaGreatDoorFSN
set_option linter.unusedVariables false
set_option linter.unusedSimpArgs false
set_option linter.unusedSectionVars false
set_option maxRecDepth 1000000
set_option maxHeartbeats 0
namespace Go.Proofs.YtlnkclamdiohnaaGreatDoor.fp
open Go.X Go.RowKit Go.Proofs
theorem t_9_0_3 : ∀ ds ∈ K8_3, GT 9 false ds := by
  repeat (refine lCons (fun p h => (by as_aux_lemma => kernel_rfl)) ?_)
  exact lNil
theorem t_8_0_2 : ∀ ds ∈ K7_2, GT 8 false ds := by
  repeat (refine lCons (fun p h => (by as_aux_lemma => kernel_rfl)) ?_)
  exact lNil
theorem t_5_0_0 : ∀ ds ∈ K4_0, GT 5 false ds := by
  repeat (refine lCons (fun p h => (by as_aux_lemma => kernel_rfl)) ?_)
  exact lNil
theorem t_6_0_1 : ∀ ds ∈ K5_1, GT 6 false ds := by
  repeat (refine lCons (fun p h => (by as_aux_lemma => kernel_rfl)) ?_)
  exact lNil
theorem f_6_0_0 : ∀ ds ∈ K5_0, GF 6 0 ds := by
  repeat (refine lCons (fun p h => (by as_aux_lemma => kernel_rfl)) ?_)
  exact lNil
theorem t_7_1_2 : ∀ ds ∈ K6_2, GT 7 true ds := by
  repeat (refine lCons (fun p h => (by as_aux_lemma => kernel_rfl)) ?_)
  exact lNil
theorem f_9_0_2 : ∀ ds ∈ K8_2, GF 9 0 ds := by
  repeat (refine lCons (fun p h => (by as_aux_lemma => kernel_rfl)) ?_)
  exact lNil
theorem f_5_1_0 : ∀ ds ∈ K4_0, GF 5 1 ds := by
  repeat (refine lCons (fun p h => (by as_aux_lemma => kernel_rfl)) ?_)
  exact lNil
theorem t_0_0_0 : ∀ ds ∈ K0_0, GT 0 false ds := by
  repeat (refine lCons (fun p h => (by as_aux_lemma => kernel_rfl)) ?_)
  exact lNil
theorem f_0_0_0 : ∀ ds ∈ K0_0, GF 0 0 ds := by
  repeat (refine lCons (fun p h => (by as_aux_lemma => kernel_rfl)) ?_)
  exact lNil
theorem f_1_0_0 : ∀ ds ∈ K0_0, GF 1 0 ds := by
  repeat (refine lCons (fun p h => (by as_aux_lemma => kernel_rfl)) ?_)
  exact lNil
end Go.Proofs.YtlnkclamdiohnaaGreatDoor.fp
