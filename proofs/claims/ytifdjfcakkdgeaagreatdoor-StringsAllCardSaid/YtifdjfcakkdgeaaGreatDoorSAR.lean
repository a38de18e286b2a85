/-
  The law StringsAll: exits, ends, the beginning.
-/
import Derived.Test.YtifdjfcakkdgeaaGreatDoorSAO
set_option linter.unusedVariables false
set_option linter.unusedSimpArgs false
set_option linter.unusedSectionVars false
set_option maxRecDepth 1000000
set_option maxHeartbeats 0
namespace Go.Proofs.YtifdjfcakkdgeaaGreatDoor.sa
open Go.X Go.RowKit Go.Proofs
theorem gxa : ∀ m, m < 16 → 0 < m → GXa m
  | 0, _, h => by omega
  | 1, _, _ => fun p h => by as_aux_lemma => kernel_rfl
  | 2, _, _ => fun p h => by as_aux_lemma => kernel_rfl
  | 3, _, _ => fun p h => by as_aux_lemma => kernel_rfl
  | 4, _, _ => fun p h => by as_aux_lemma => kernel_rfl
  | 5, _, _ => fun p h => by as_aux_lemma => kernel_rfl
  | 6, _, _ => fun p h => by as_aux_lemma => kernel_rfl
  | 7, _, _ => fun p h => by as_aux_lemma => kernel_rfl
  | 8, _, _ => fun p h => by as_aux_lemma => kernel_rfl
  | 9, _, _ => fun p h => by as_aux_lemma => kernel_rfl
  | 10, _, _ => fun p h => by as_aux_lemma => kernel_rfl
  | 11, _, _ => fun p h => by as_aux_lemma => kernel_rfl
  | 12, _, _ => fun p h => by as_aux_lemma => kernel_rfl
  | 13, _, _ => fun p h => by as_aux_lemma => kernel_rfl
  | 14, _, _ => fun p h => by as_aux_lemma => kernel_rfl
  | 15, _, _ => fun p h => by as_aux_lemma => kernel_rfl
  | n + 16, h, _ => by omega
theorem gxb : ∀ m, m < 16 → 0 < m → GXb m
  | 0, _, h => by omega
  | 1, _, _ => fun p h h2 => by as_aux_lemma => kernel_rfl
  | 2, _, _ => fun p h h2 => by as_aux_lemma => kernel_rfl
  | 3, _, _ => fun p h h2 => by as_aux_lemma => kernel_rfl
  | 4, _, _ => fun p h h2 => by as_aux_lemma => kernel_rfl
  | 5, _, _ => fun p h h2 => by as_aux_lemma => kernel_rfl
  | 6, _, _ => fun p h h2 => by as_aux_lemma => kernel_rfl
  | 7, _, _ => fun p h h2 => by as_aux_lemma => kernel_rfl
  | 8, _, _ => fun p h h2 => by as_aux_lemma => kernel_rfl
  | 9, _, _ => fun p h h2 => by as_aux_lemma => kernel_rfl
  | 10, _, _ => fun p h h2 => by as_aux_lemma => kernel_rfl
  | 11, _, _ => fun p h h2 => by as_aux_lemma => kernel_rfl
  | 12, _, _ => fun p h h2 => by as_aux_lemma => kernel_rfl
  | 13, _, _ => fun p h h2 => by as_aux_lemma => kernel_rfl
  | 14, _, _ => fun p h h2 => by as_aux_lemma => kernel_rfl
  | 15, _, _ => fun p h h2 => by as_aux_lemma => kernel_rfl
  | n + 16, h, _ => by omega
theorem ge : ∀ m, m < 16 → 0 < m → ∀ b, GE' m b
  | 0, _, h, _ => by omega
  | 1, _, _, false => fun p h => by as_aux_lemma => kernel_rfl
  | 1, _, _, true => fun p h => by as_aux_lemma => kernel_rfl
  | 2, _, _, false => fun p h => by as_aux_lemma => kernel_rfl
  | 2, _, _, true => fun p h => by as_aux_lemma => kernel_rfl
  | 3, _, _, false => fun p h => by as_aux_lemma => kernel_rfl
  | 3, _, _, true => fun p h => by as_aux_lemma => kernel_rfl
  | 4, _, _, false => fun p h => by as_aux_lemma => kernel_rfl
  | 4, _, _, true => fun p h => by as_aux_lemma => kernel_rfl
  | 5, _, _, false => fun p h => by as_aux_lemma => kernel_rfl
  | 5, _, _, true => fun p h => by as_aux_lemma => kernel_rfl
  | 6, _, _, false => fun p h => by as_aux_lemma => kernel_rfl
  | 6, _, _, true => fun p h => by as_aux_lemma => kernel_rfl
  | 7, _, _, false => fun p h => by as_aux_lemma => kernel_rfl
  | 7, _, _, true => fun p h => by as_aux_lemma => kernel_rfl
  | 8, _, _, false => fun p h => by as_aux_lemma => kernel_rfl
  | 8, _, _, true => fun p h => by as_aux_lemma => kernel_rfl
  | 9, _, _, false => fun p h => by as_aux_lemma => kernel_rfl
  | 9, _, _, true => fun p h => by as_aux_lemma => kernel_rfl
  | 10, _, _, false => fun p h => by as_aux_lemma => kernel_rfl
  | 10, _, _, true => fun p h => by as_aux_lemma => kernel_rfl
  | 11, _, _, false => fun p h => by as_aux_lemma => kernel_rfl
  | 11, _, _, true => fun p h => by as_aux_lemma => kernel_rfl
  | 12, _, _, false => fun p h => by as_aux_lemma => kernel_rfl
  | 12, _, _, true => fun p h => by as_aux_lemma => kernel_rfl
  | 13, _, _, false => fun p h => by as_aux_lemma => kernel_rfl
  | 13, _, _, true => fun p h => by as_aux_lemma => kernel_rfl
  | 14, _, _, false => fun p h => by as_aux_lemma => kernel_rfl
  | 14, _, _, true => fun p h => by as_aux_lemma => kernel_rfl
  | 15, _, _, false => fun p h => by as_aux_lemma => kernel_rfl
  | 15, _, _, true => fun p h => by as_aux_lemma => kernel_rfl
  | n + 16, h, _, _ => by omega
end Go.Proofs.YtifdjfcakkdgeaaGreatDoor.sa
