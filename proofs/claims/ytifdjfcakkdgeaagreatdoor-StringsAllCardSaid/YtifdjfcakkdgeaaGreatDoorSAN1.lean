/-
  The law StringsAll: rounds by the kernel.
-/
import Derived.Test.YtifdjfcakkdgeaaGreatDoorSAM
set_option linter.unusedVariables false
set_option linter.unusedSimpArgs false
set_option linter.unusedSectionVars false
set_option maxRecDepth 1000000
set_option maxHeartbeats 0
namespace Go.Proofs.YtifdjfcakkdgeaaGreatDoor.sa
open Go.X Go.RowKit Go.Proofs
theorem go10 : ∀ k, k < 10 → ∀ s, GO 10 k s
  | 0, _, false => fun p h => by as_aux_lemma => kernel_rfl
  | 0, _, true => fun p h => by as_aux_lemma => kernel_rfl
  | 1, _, false => fun p h => by as_aux_lemma => kernel_rfl
  | 1, _, true => fun p h => by as_aux_lemma => kernel_rfl
  | 2, _, false => fun p h => by as_aux_lemma => kernel_rfl
  | 2, _, true => fun p h => by as_aux_lemma => kernel_rfl
  | 3, _, false => fun p h => by as_aux_lemma => kernel_rfl
  | 3, _, true => fun p h => by as_aux_lemma => kernel_rfl
  | 4, _, false => fun p h => by as_aux_lemma => kernel_rfl
  | 4, _, true => fun p h => by as_aux_lemma => kernel_rfl
  | 5, _, false => fun p h => by as_aux_lemma => kernel_rfl
  | 5, _, true => fun p h => by as_aux_lemma => kernel_rfl
  | 6, _, false => fun p h => by as_aux_lemma => kernel_rfl
  | 6, _, true => fun p h => by as_aux_lemma => kernel_rfl
  | 7, _, false => fun p h => by as_aux_lemma => kernel_rfl
  | 7, _, true => fun p h => by as_aux_lemma => kernel_rfl
  | 8, _, false => fun p h => by as_aux_lemma => kernel_rfl
  | 8, _, true => fun p h => by as_aux_lemma => kernel_rfl
  | 9, _, false => fun p h => by as_aux_lemma => kernel_rfl
  | 9, _, true => fun p h => by as_aux_lemma => kernel_rfl
  | n + 10, h, _ => by omega
theorem gn10 : ∀ s, GN 10 s
  | false => fun p h => by as_aux_lemma => kernel_rfl
  | true => fun p h => by as_aux_lemma => kernel_rfl
theorem go11 : ∀ k, k < 11 → ∀ s, GO 11 k s
  | 0, _, false => fun p h => by as_aux_lemma => kernel_rfl
  | 0, _, true => fun p h => by as_aux_lemma => kernel_rfl
  | 1, _, false => fun p h => by as_aux_lemma => kernel_rfl
  | 1, _, true => fun p h => by as_aux_lemma => kernel_rfl
  | 2, _, false => fun p h => by as_aux_lemma => kernel_rfl
  | 2, _, true => fun p h => by as_aux_lemma => kernel_rfl
  | 3, _, false => fun p h => by as_aux_lemma => kernel_rfl
  | 3, _, true => fun p h => by as_aux_lemma => kernel_rfl
  | 4, _, false => fun p h => by as_aux_lemma => kernel_rfl
  | 4, _, true => fun p h => by as_aux_lemma => kernel_rfl
  | 5, _, false => fun p h => by as_aux_lemma => kernel_rfl
  | 5, _, true => fun p h => by as_aux_lemma => kernel_rfl
  | 6, _, false => fun p h => by as_aux_lemma => kernel_rfl
  | 6, _, true => fun p h => by as_aux_lemma => kernel_rfl
  | 7, _, false => fun p h => by as_aux_lemma => kernel_rfl
  | 7, _, true => fun p h => by as_aux_lemma => kernel_rfl
  | 8, _, false => fun p h => by as_aux_lemma => kernel_rfl
  | 8, _, true => fun p h => by as_aux_lemma => kernel_rfl
  | 9, _, false => fun p h => by as_aux_lemma => kernel_rfl
  | 9, _, true => fun p h => by as_aux_lemma => kernel_rfl
  | 10, _, false => fun p h => by as_aux_lemma => kernel_rfl
  | 10, _, true => fun p h => by as_aux_lemma => kernel_rfl
  | n + 11, h, _ => by omega
theorem gn11 : ∀ s, GN 11 s
  | false => fun p h => by as_aux_lemma => kernel_rfl
  | true => fun p h => by as_aux_lemma => kernel_rfl
theorem go12 : ∀ k, k < 12 → ∀ s, GO 12 k s
  | 0, _, false => fun p h => by as_aux_lemma => kernel_rfl
  | 0, _, true => fun p h => by as_aux_lemma => kernel_rfl
  | 1, _, false => fun p h => by as_aux_lemma => kernel_rfl
  | 1, _, true => fun p h => by as_aux_lemma => kernel_rfl
  | 2, _, false => fun p h => by as_aux_lemma => kernel_rfl
  | 2, _, true => fun p h => by as_aux_lemma => kernel_rfl
  | 3, _, false => fun p h => by as_aux_lemma => kernel_rfl
  | 3, _, true => fun p h => by as_aux_lemma => kernel_rfl
  | 4, _, false => fun p h => by as_aux_lemma => kernel_rfl
  | 4, _, true => fun p h => by as_aux_lemma => kernel_rfl
  | 5, _, false => fun p h => by as_aux_lemma => kernel_rfl
  | 5, _, true => fun p h => by as_aux_lemma => kernel_rfl
  | 6, _, false => fun p h => by as_aux_lemma => kernel_rfl
  | 6, _, true => fun p h => by as_aux_lemma => kernel_rfl
  | 7, _, false => fun p h => by as_aux_lemma => kernel_rfl
  | 7, _, true => fun p h => by as_aux_lemma => kernel_rfl
  | 8, _, false => fun p h => by as_aux_lemma => kernel_rfl
  | 8, _, true => fun p h => by as_aux_lemma => kernel_rfl
  | 9, _, false => fun p h => by as_aux_lemma => kernel_rfl
  | 9, _, true => fun p h => by as_aux_lemma => kernel_rfl
  | 10, _, false => fun p h => by as_aux_lemma => kernel_rfl
  | 10, _, true => fun p h => by as_aux_lemma => kernel_rfl
  | 11, _, false => fun p h => by as_aux_lemma => kernel_rfl
  | 11, _, true => fun p h => by as_aux_lemma => kernel_rfl
  | n + 12, h, _ => by omega
theorem gn12 : ∀ s, GN 12 s
  | false => fun p h => by as_aux_lemma => kernel_rfl
  | true => fun p h => by as_aux_lemma => kernel_rfl
end Go.Proofs.YtifdjfcakkdgeaaGreatDoor.sa
