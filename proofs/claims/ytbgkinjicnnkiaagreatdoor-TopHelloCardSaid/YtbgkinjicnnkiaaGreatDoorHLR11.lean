/-
  What the law TopHello gives: its runs, by both lengths.
-/
import Derived.Test.YtbgkinjicnnkiaaGreatDoorHLK
set_option linter.unusedSectionVars false
set_option linter.unusedVariables false
set_option maxRecDepth 1000000
set_option maxHeartbeats 0
namespace Go.Proofs.YtbgkinjicnnkiaaGreatDoor.hl
open Go.X Go.RowKit Go.X.chars8 Go.Proofs.YtbgkinjicnnkiaaGreatDoor.hq
theorem j6_2 : JG2 9 2 := ⟨by kernel_rfl, by kernel_rfl, fun hn h => (by as_aux_lemma => kernel_rfl)⟩
theorem g6_2 : LM6 2 := fun hn h => (by as_aux_lemma => kernel_rfl)
theorem j6_4 : JG2 9 4 := ⟨by kernel_rfl, by kernel_rfl, fun hn h => (by as_aux_lemma => kernel_rfl)⟩
theorem g6_4 : LM6 4 := fun hn h => (by as_aux_lemma => kernel_rfl)
theorem j6_6 : JG2 9 6 := ⟨by kernel_rfl, by kernel_rfl, fun hn h => (by as_aux_lemma => kernel_rfl)⟩
theorem g6_6 : LM6 6 := fun hn h => (by as_aux_lemma => kernel_rfl)
theorem j6_8 : JG2 9 8 := ⟨by kernel_rfl, by kernel_rfl, fun hn h => (by as_aux_lemma => kernel_rfl)⟩
theorem g6_8 : LM6 8 := fun hn h => (by as_aux_lemma => kernel_rfl)
theorem j6_10 : JG2 9 10 := ⟨by kernel_rfl, by kernel_rfl, fun hn h => (by as_aux_lemma => kernel_rfl)⟩
theorem g6_10 : LM6 10 := fun hn h => (by as_aux_lemma => kernel_rfl)
theorem j6_12 : JG2 9 12 := ⟨by kernel_rfl, by kernel_rfl, fun hn h => (by as_aux_lemma => kernel_rfl)⟩
theorem g6_12 : LM6 12 := fun hn h => (by as_aux_lemma => kernel_rfl)
theorem j6_14 : JG2 9 14 := ⟨by kernel_rfl, by kernel_rfl, fun hn h => (by as_aux_lemma => kernel_rfl)⟩
theorem g6_14 : LM6 14 := fun hn h => (by as_aux_lemma => kernel_rfl)
theorem j6_16 : JG2 9 16 := ⟨by kernel_rfl, by kernel_rfl, fun hn h => (by as_aux_lemma => kernel_rfl)⟩
theorem g6_16 : LM6 16 := fun hn h => (by as_aux_lemma => kernel_rfl)
theorem j6_18 : JG2 9 18 := ⟨by kernel_rfl, by kernel_rfl, fun hn h => (by as_aux_lemma => kernel_rfl)⟩
theorem g6_18 : LM6 18 := fun hn h => (by as_aux_lemma => kernel_rfl)
theorem j6_20 : JG2 9 20 := ⟨by kernel_rfl, by kernel_rfl, fun hn h => (by as_aux_lemma => kernel_rfl)⟩
theorem g6_20 : LM6 20 := fun hn h => (by as_aux_lemma => kernel_rfl)
end Go.Proofs.YtbgkinjicnnkiaaGreatDoor.hl
