/-
  The law StringsAll: rounds by the kernel.
-/
import Derived.Test.YtifdjfcakkdgeaaGreatDoorSAM
set_option linter.unusedVariables false
set_option linter.unusedSimpArgs false
set_option linter.unusedSectionVars false
set_option maxRecDepth 1000000
set_option maxHeartbeats 0
namespace Go.Proofs.YtifdjfcakkdgeaaGreatDoor.sa
open Go.X Go.RowKit Go.Proofs
theorem gn0 : ∀ s, GN 0 s
  | false => fun p h => by as_aux_lemma => kernel_rfl
  | true => fun p h => by as_aux_lemma => kernel_rfl
theorem go1 : ∀ k, k < 1 → ∀ s, GO 1 k s
  | 0, _, false => fun p h => by as_aux_lemma => kernel_rfl
  | 0, _, true => fun p h => by as_aux_lemma => kernel_rfl
  | n + 1, h, _ => by omega
theorem gn1 : ∀ s, GN 1 s
  | false => fun p h => by as_aux_lemma => kernel_rfl
  | true => fun p h => by as_aux_lemma => kernel_rfl
theorem go2 : ∀ k, k < 2 → ∀ s, GO 2 k s
  | 0, _, false => fun p h => by as_aux_lemma => kernel_rfl
  | 0, _, true => fun p h => by as_aux_lemma => kernel_rfl
  | 1, _, false => fun p h => by as_aux_lemma => kernel_rfl
  | 1, _, true => fun p h => by as_aux_lemma => kernel_rfl
  | n + 2, h, _ => by omega
theorem gn2 : ∀ s, GN 2 s
  | false => fun p h => by as_aux_lemma => kernel_rfl
  | true => fun p h => by as_aux_lemma => kernel_rfl
theorem go3 : ∀ k, k < 3 → ∀ s, GO 3 k s
  | 0, _, false => fun p h => by as_aux_lemma => kernel_rfl
  | 0, _, true => fun p h => by as_aux_lemma => kernel_rfl
  | 1, _, false => fun p h => by as_aux_lemma => kernel_rfl
  | 1, _, true => fun p h => by as_aux_lemma => kernel_rfl
  | 2, _, false => fun p h => by as_aux_lemma => kernel_rfl
  | 2, _, true => fun p h => by as_aux_lemma => kernel_rfl
  | n + 3, h, _ => by omega
theorem gn3 : ∀ s, GN 3 s
  | false => fun p h => by as_aux_lemma => kernel_rfl
  | true => fun p h => by as_aux_lemma => kernel_rfl
theorem go4 : ∀ k, k < 4 → ∀ s, GO 4 k s
  | 0, _, false => fun p h => by as_aux_lemma => kernel_rfl
  | 0, _, true => fun p h => by as_aux_lemma => kernel_rfl
  | 1, _, false => fun p h => by as_aux_lemma => kernel_rfl
  | 1, _, true => fun p h => by as_aux_lemma => kernel_rfl
  | 2, _, false => fun p h => by as_aux_lemma => kernel_rfl
  | 2, _, true => fun p h => by as_aux_lemma => kernel_rfl
  | 3, _, false => fun p h => by as_aux_lemma => kernel_rfl
  | 3, _, true => fun p h => by as_aux_lemma => kernel_rfl
  | n + 4, h, _ => by omega
theorem gn4 : ∀ s, GN 4 s
  | false => fun p h => by as_aux_lemma => kernel_rfl
  | true => fun p h => by as_aux_lemma => kernel_rfl
theorem go5 : ∀ k, k < 5 → ∀ s, GO 5 k s
  | 0, _, false => fun p h => by as_aux_lemma => kernel_rfl
  | 0, _, true => fun p h => by as_aux_lemma => kernel_rfl
  | 1, _, false => fun p h => by as_aux_lemma => kernel_rfl
  | 1, _, true => fun p h => by as_aux_lemma => kernel_rfl
  | 2, _, false => fun p h => by as_aux_lemma => kernel_rfl
  | 2, _, true => fun p h => by as_aux_lemma => kernel_rfl
  | 3, _, false => fun p h => by as_aux_lemma => kernel_rfl
  | 3, _, true => fun p h => by as_aux_lemma => kernel_rfl
  | 4, _, false => fun p h => by as_aux_lemma => kernel_rfl
  | 4, _, true => fun p h => by as_aux_lemma => kernel_rfl
  | n + 5, h, _ => by omega
theorem gn5 : ∀ s, GN 5 s
  | false => fun p h => by as_aux_lemma => kernel_rfl
  | true => fun p h => by as_aux_lemma => kernel_rfl
theorem go6 : ∀ k, k < 6 → ∀ s, GO 6 k s
  | 0, _, false => fun p h => by as_aux_lemma => kernel_rfl
  | 0, _, true => fun p h => by as_aux_lemma => kernel_rfl
  | 1, _, false => fun p h => by as_aux_lemma => kernel_rfl
  | 1, _, true => fun p h => by as_aux_lemma => kernel_rfl
  | 2, _, false => fun p h => by as_aux_lemma => kernel_rfl
  | 2, _, true => fun p h => by as_aux_lemma => kernel_rfl
  | 3, _, false => fun p h => by as_aux_lemma => kernel_rfl
  | 3, _, true => fun p h => by as_aux_lemma => kernel_rfl
  | 4, _, false => fun p h => by as_aux_lemma => kernel_rfl
  | 4, _, true => fun p h => by as_aux_lemma => kernel_rfl
  | 5, _, false => fun p h => by as_aux_lemma => kernel_rfl
  | 5, _, true => fun p h => by as_aux_lemma => kernel_rfl
  | n + 6, h, _ => by omega
theorem gn6 : ∀ s, GN 6 s
  | false => fun p h => by as_aux_lemma => kernel_rfl
  | true => fun p h => by as_aux_lemma => kernel_rfl
theorem go7 : ∀ k, k < 7 → ∀ s, GO 7 k s
  | 0, _, false => fun p h => by as_aux_lemma => kernel_rfl
  | 0, _, true => fun p h => by as_aux_lemma => kernel_rfl
  | 1, _, false => fun p h => by as_aux_lemma => kernel_rfl
  | 1, _, true => fun p h => by as_aux_lemma => kernel_rfl
  | 2, _, false => fun p h => by as_aux_lemma => kernel_rfl
  | 2, _, true => fun p h => by as_aux_lemma => kernel_rfl
  | 3, _, false => fun p h => by as_aux_lemma => kernel_rfl
  | 3, _, true => fun p h => by as_aux_lemma => kernel_rfl
  | 4, _, false => fun p h => by as_aux_lemma => kernel_rfl
  | 4, _, true => fun p h => by as_aux_lemma => kernel_rfl
  | 5, _, false => fun p h => by as_aux_lemma => kernel_rfl
  | 5, _, true => fun p h => by as_aux_lemma => kernel_rfl
  | 6, _, false => fun p h => by as_aux_lemma => kernel_rfl
  | 6, _, true => fun p h => by as_aux_lemma => kernel_rfl
  | n + 7, h, _ => by omega
theorem gn7 : ∀ s, GN 7 s
  | false => fun p h => by as_aux_lemma => kernel_rfl
  | true => fun p h => by as_aux_lemma => kernel_rfl
theorem go8 : ∀ k, k < 8 → ∀ s, GO 8 k s
  | 0, _, false => fun p h => by as_aux_lemma => kernel_rfl
  | 0, _, true => fun p h => by as_aux_lemma => kernel_rfl
  | 1, _, false => fun p h => by as_aux_lemma => kernel_rfl
  | 1, _, true => fun p h => by as_aux_lemma => kernel_rfl
  | 2, _, false => fun p h => by as_aux_lemma => kernel_rfl
  | 2, _, true => fun p h => by as_aux_lemma => kernel_rfl
  | 3, _, false => fun p h => by as_aux_lemma => kernel_rfl
  | 3, _, true => fun p h => by as_aux_lemma => kernel_rfl
  | 4, _, false => fun p h => by as_aux_lemma => kernel_rfl
  | 4, _, true => fun p h => by as_aux_lemma => kernel_rfl
  | 5, _, false => fun p h => by as_aux_lemma => kernel_rfl
  | 5, _, true => fun p h => by as_aux_lemma => kernel_rfl
  | 6, _, false => fun p h => by as_aux_lemma => kernel_rfl
  | 6, _, true => fun p h => by as_aux_lemma => kernel_rfl
  | 7, _, false => fun p h => by as_aux_lemma => kernel_rfl
  | 7, _, true => fun p h => by as_aux_lemma => kernel_rfl
  | n + 8, h, _ => by omega
theorem gn8 : ∀ s, GN 8 s
  | false => fun p h => by as_aux_lemma => kernel_rfl
  | true => fun p h => by as_aux_lemma => kernel_rfl
theorem go9 : ∀ k, k < 9 → ∀ s, GO 9 k s
  | 0, _, false => fun p h => by as_aux_lemma => kernel_rfl
  | 0, _, true => fun p h => by as_aux_lemma => kernel_rfl
  | 1, _, false => fun p h => by as_aux_lemma => kernel_rfl
  | 1, _, true => fun p h => by as_aux_lemma => kernel_rfl
  | 2, _, false => fun p h => by as_aux_lemma => kernel_rfl
  | 2, _, true => fun p h => by as_aux_lemma => kernel_rfl
  | 3, _, false => fun p h => by as_aux_lemma => kernel_rfl
  | 3, _, true => fun p h => by as_aux_lemma => kernel_rfl
  | 4, _, false => fun p h => by as_aux_lemma => kernel_rfl
  | 4, _, true => fun p h => by as_aux_lemma => kernel_rfl
  | 5, _, false => fun p h => by as_aux_lemma => kernel_rfl
  | 5, _, true => fun p h => by as_aux_lemma => kernel_rfl
  | 6, _, false => fun p h => by as_aux_lemma => kernel_rfl
  | 6, _, true => fun p h => by as_aux_lemma => kernel_rfl
  | 7, _, false => fun p h => by as_aux_lemma => kernel_rfl
  | 7, _, true => fun p h => by as_aux_lemma => kernel_rfl
  | 8, _, false => fun p h => by as_aux_lemma => kernel_rfl
  | 8, _, true => fun p h => by as_aux_lemma => kernel_rfl
  | n + 9, h, _ => by omega
theorem gn9 : ∀ s, GN 9 s
  | false => fun p h => by as_aux_lemma => kernel_rfl
  | true => fun p h => by as_aux_lemma => kernel_rfl
end Go.Proofs.YtifdjfcakkdgeaaGreatDoor.sa
