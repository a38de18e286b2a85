/-
  What the law TopHello gives: its runs, by both lengths.
-/
import Derived.Test.YtbgkinjicnnkiaaGreatDoorHLK
set_option linter.unusedSectionVars false
set_option linter.unusedVariables false
set_option maxRecDepth 1000000
set_option maxHeartbeats 0
namespace Go.Proofs.YtbgkinjicnnkiaaGreatDoor.hl
open Go.X Go.RowKit Go.X.chars8 Go.Proofs.YtbgkinjicnnkiaaGreatDoor.hq
theorem j6_1 : JG2 9 1 := ⟨by kernel_rfl, by kernel_rfl, fun hn h => (by as_aux_lemma => kernel_rfl)⟩
theorem g6_1 : LM6 1 := fun hn h => (by as_aux_lemma => kernel_rfl)
theorem j6_3 : JG2 9 3 := ⟨by kernel_rfl, by kernel_rfl, fun hn h => (by as_aux_lemma => kernel_rfl)⟩
theorem g6_3 : LM6 3 := fun hn h => (by as_aux_lemma => kernel_rfl)
theorem j6_5 : JG2 9 5 := ⟨by kernel_rfl, by kernel_rfl, fun hn h => (by as_aux_lemma => kernel_rfl)⟩
theorem g6_5 : LM6 5 := fun hn h => (by as_aux_lemma => kernel_rfl)
theorem j6_7 : JG2 9 7 := ⟨by kernel_rfl, by kernel_rfl, fun hn h => (by as_aux_lemma => kernel_rfl)⟩
theorem g6_7 : LM6 7 := fun hn h => (by as_aux_lemma => kernel_rfl)
theorem j6_9 : JG2 9 9 := ⟨by kernel_rfl, by kernel_rfl, fun hn h => (by as_aux_lemma => kernel_rfl)⟩
theorem g6_9 : LM6 9 := fun hn h => (by as_aux_lemma => kernel_rfl)
theorem j6_11 : JG2 9 11 := ⟨by kernel_rfl, by kernel_rfl, fun hn h => (by as_aux_lemma => kernel_rfl)⟩
theorem g6_11 : LM6 11 := fun hn h => (by as_aux_lemma => kernel_rfl)
theorem j6_13 : JG2 9 13 := ⟨by kernel_rfl, by kernel_rfl, fun hn h => (by as_aux_lemma => kernel_rfl)⟩
theorem g6_13 : LM6 13 := fun hn h => (by as_aux_lemma => kernel_rfl)
theorem j6_15 : JG2 9 15 := ⟨by kernel_rfl, by kernel_rfl, fun hn h => (by as_aux_lemma => kernel_rfl)⟩
theorem g6_15 : LM6 15 := fun hn h => (by as_aux_lemma => kernel_rfl)
theorem j6_17 : JG2 9 17 := ⟨by kernel_rfl, by kernel_rfl, fun hn h => (by as_aux_lemma => kernel_rfl)⟩
theorem g6_17 : LM6 17 := fun hn h => (by as_aux_lemma => kernel_rfl)
theorem j6_19 : JG2 9 19 := ⟨by kernel_rfl, by kernel_rfl, fun hn h => (by as_aux_lemma => kernel_rfl)⟩
theorem g6_19 : LM6 19 := fun hn h => (by as_aux_lemma => kernel_rfl)
theorem j6_21 : JG2 9 21 := ⟨by kernel_rfl, by kernel_rfl, fun hn h => (by as_aux_lemma => kernel_rfl)⟩
theorem g6_21 : LM6 21 := fun hn h => (by as_aux_lemma => kernel_rfl)
end Go.Proofs.YtbgkinjicnnkiaaGreatDoor.hl
