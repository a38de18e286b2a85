/-
  What the law NativeThrowable gives: its runs.
-/
import Derived.Test.YtgejhjencodinaaGreatDoorNTA
set_option linter.unusedSectionVars false
set_option linter.unusedVariables false
set_option maxRecDepth 1000000
set_option maxHeartbeats 0
namespace Go.Proofs.YtgejhjencodinaaGreatDoor.nt
open Go.X Go.RowKit Go.X.chars
theorem l0_0 : GL 0 false := fun p h => (by as_aux_lemma => kernel_rfl)
theorem n0_0 : GN 0 false := fun p h => (by as_aux_lemma => kernel_rfl)
theorem l0_1 : GL 0 true := fun p h => (by as_aux_lemma => kernel_rfl)
theorem n0_1 : GN 0 true := fun p h => (by as_aux_lemma => kernel_rfl)
theorem l1_0 : GL 1 false := fun p h => (by as_aux_lemma => kernel_rfl)
theorem n1_0 : GN 1 false := fun p h => (by as_aux_lemma => kernel_rfl)
theorem l1_1 : GL 1 true := fun p h => (by as_aux_lemma => kernel_rfl)
theorem n1_1 : GN 1 true := fun p h => (by as_aux_lemma => kernel_rfl)
theorem l2_0 : GL 2 false := fun p h => (by as_aux_lemma => kernel_rfl)
theorem n2_0 : GN 2 false := fun p h => (by as_aux_lemma => kernel_rfl)
theorem l2_1 : GL 2 true := fun p h => (by as_aux_lemma => kernel_rfl)
theorem n2_1 : GN 2 true := fun p h => (by as_aux_lemma => kernel_rfl)
theorem allL : ∀ c < 3, ∀ n, GL c n
  | 0, _, false => l0_0
  | 0, _, true => l0_1
  | 1, _, false => l1_0
  | 1, _, true => l1_1
  | 2, _, false => l2_0
  | 2, _, true => l2_1
theorem allN : ∀ c < 3, ∀ n, GN c n
  | 0, _, false => n0_0
  | 0, _, true => n0_1
  | 1, _, false => n1_0
  | 1, _, true => n1_1
  | 2, _, false => n2_0
  | 2, _, true => n2_1
end Go.Proofs.YtgejhjencodinaaGreatDoor.nt
