/-
  The law StringsAll: a text is made: the kernel's part.
-/
import Derived.Test.YtifdjfcakkdgeaaGreatDoorSAC
set_option linter.unusedVariables false
set_option linter.unusedSimpArgs false
set_option linter.unusedSectionVars false
set_option maxRecDepth 1000000
set_option maxHeartbeats 0
namespace Go.Proofs.YtifdjfcakkdgeaaGreatDoor.sa
open Go.X Go.RowKit Go.Proofs
theorem hw0 : HW 0 := fun p k h hf hk => by as_aux_lemma => kernel_rfl
theorem hw1 : HW 1 := fun p k h hf hk => by as_aux_lemma => kernel_rfl
theorem hy0 : HY 0 := fun p k hk => by as_aux_lemma => kernel_rfl
theorem hy1 : HY 1 := fun p k hk => by as_aux_lemma => kernel_rfl
theorem hz0 : HZ 0 := fun p k => by as_aux_lemma => kernel_rfl
theorem hz1 : HZ 1 := fun p k => by as_aux_lemma => kernel_rfl
theorem hi0 : HI 0 := fun p h hf => by as_aux_lemma => kernel_rfl
theorem hi1 : HI 1 := fun p h hf => by as_aux_lemma => kernel_rfl
theorem hr0 : HR_ 0 := fun p h hf => by as_aux_lemma => kernel_rfl
theorem hr1 : HR_ 1 := fun p h hf => by as_aux_lemma => kernel_rfl
theorem ha1 : HA1 := fun p h hf => by as_aux_lemma => kernel_rfl
theorem ha0 : HA0 20025 20027 20024 := fun p h hf h0 ht => by as_aux_lemma => kernel_rfl
end Go.Proofs.YtifdjfcakkdgeaaGreatDoor.sa
