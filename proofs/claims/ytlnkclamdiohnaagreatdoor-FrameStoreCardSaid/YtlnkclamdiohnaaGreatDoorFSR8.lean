/-
  The law FrameStore: its runs.
-/
import Derived.Test.YtlnkclamdiohnaaGreatDoorFSN
set_option linter.unusedVariables false
set_option linter.unusedSimpArgs false
set_option linter.unusedSectionVars false
set_option maxRecDepth 1000000
set_option maxHeartbeats 0
namespace Go.Proofs.YtlnkclamdiohnaaGreatDoor.fp
open Go.X Go.RowKit Go.Proofs
theorem t_9_1_3 : ∀ ds ∈ K8_3, GT 9 true ds := by
  repeat (refine lCons (fun p h => (by as_aux_lemma => kernel_rfl)) ?_)
  exact lNil
theorem t_7_0_1 : ∀ ds ∈ K6_1, GT 7 false ds := by
  repeat (refine lCons (fun p h => (by as_aux_lemma => kernel_rfl)) ?_)
  exact lNil
theorem t_7_1_1 : ∀ ds ∈ K6_1, GT 7 true ds := by
  repeat (refine lCons (fun p h => (by as_aux_lemma => kernel_rfl)) ?_)
  exact lNil
theorem t_2_1_0 : ∀ ds ∈ K1_0, GT 2 true ds := by
  repeat (refine lCons (fun p h => (by as_aux_lemma => kernel_rfl)) ?_)
  exact lNil
theorem t_7_0_2 : ∀ ds ∈ K6_2, GT 7 false ds := by
  repeat (refine lCons (fun p h => (by as_aux_lemma => kernel_rfl)) ?_)
  exact lNil
theorem f_9_0_1 : ∀ ds ∈ K8_1, GF 9 0 ds := by
  repeat (refine lCons (fun p h => (by as_aux_lemma => kernel_rfl)) ?_)
  exact lNil
theorem f_5_0_0 : ∀ ds ∈ K4_0, GF 5 0 ds := by
  repeat (refine lCons (fun p h => (by as_aux_lemma => kernel_rfl)) ?_)
  exact lNil
theorem f_8_1_3 : ∀ ds ∈ K7_3, GF 8 1 ds := by
  repeat (refine lCons (fun p h => (by as_aux_lemma => kernel_rfl)) ?_)
  exact lNil
theorem f_0_1_0 : ∀ ds ∈ K0_0, GF 0 1 ds := by
  repeat (refine lCons (fun p h => (by as_aux_lemma => kernel_rfl)) ?_)
  exact lNil
end Go.Proofs.YtlnkclamdiohnaaGreatDoor.fp
