/-
  What the law TopHello gives: its runs, by both lengths.
-/
import Derived.Test.YtbgkinjicnnkiaaGreatDoorHLJ
set_option linter.unusedSectionVars false
set_option linter.unusedVariables false
set_option maxRecDepth 1000000
set_option maxHeartbeats 0
namespace Go.Proofs.YtbgkinjicnnkiaaGreatDoor.hl
open Go.X Go.RowKit Go.X.chars8 Go.Proofs.YtbgkinjicnnkiaaGreatDoor.hq
theorem j5_1 : JG 8 1 := ⟨by kernel_rfl, by kernel_rfl, fun hn h => (by as_aux_lemma => kernel_rfl)⟩
theorem g5_1 : LG5 1 := fun hn h => (by as_aux_lemma => kernel_rfl)
theorem j5_3 : JG 8 3 := ⟨by kernel_rfl, by kernel_rfl, fun hn h => (by as_aux_lemma => kernel_rfl)⟩
theorem g5_3 : LG5 3 := fun hn h => (by as_aux_lemma => kernel_rfl)
theorem j5_5 : JG 8 5 := ⟨by kernel_rfl, by kernel_rfl, fun hn h => (by as_aux_lemma => kernel_rfl)⟩
theorem g5_5 : LG5 5 := fun hn h => (by as_aux_lemma => kernel_rfl)
theorem j5_7 : JG 8 7 := ⟨by kernel_rfl, by kernel_rfl, fun hn h => (by as_aux_lemma => kernel_rfl)⟩
theorem g5_7 : LG5 7 := fun hn h => (by as_aux_lemma => kernel_rfl)
theorem j5_9 : JG 8 9 := ⟨by kernel_rfl, by kernel_rfl, fun hn h => (by as_aux_lemma => kernel_rfl)⟩
theorem g5_9 : LG5 9 := fun hn h => (by as_aux_lemma => kernel_rfl)
theorem j5_11 : JG 8 11 := ⟨by kernel_rfl, by kernel_rfl, fun hn h => (by as_aux_lemma => kernel_rfl)⟩
theorem g5_11 : LG5 11 := fun hn h => (by as_aux_lemma => kernel_rfl)
theorem j5_13 : JG 8 13 := ⟨by kernel_rfl, by kernel_rfl, fun hn h => (by as_aux_lemma => kernel_rfl)⟩
theorem g5_13 : LG5 13 := fun hn h => (by as_aux_lemma => kernel_rfl)
theorem j5_15 : JG 8 15 := ⟨by kernel_rfl, by kernel_rfl, fun hn h => (by as_aux_lemma => kernel_rfl)⟩
theorem g5_15 : LG5 15 := fun hn h => (by as_aux_lemma => kernel_rfl)
theorem j5_17 : JG 8 17 := ⟨by kernel_rfl, by kernel_rfl, fun hn h => (by as_aux_lemma => kernel_rfl)⟩
theorem g5_17 : LG5 17 := fun hn h => (by as_aux_lemma => kernel_rfl)
theorem j5_19 : JG 8 19 := ⟨by kernel_rfl, by kernel_rfl, fun hn h => (by as_aux_lemma => kernel_rfl)⟩
theorem g5_19 : LG5 19 := fun hn h => (by as_aux_lemma => kernel_rfl)
theorem j5_21 : JG 8 21 := ⟨by kernel_rfl, by kernel_rfl, fun hn h => (by as_aux_lemma => kernel_rfl)⟩
theorem g5_21 : LG5 21 := fun hn h => (by as_aux_lemma => kernel_rfl)
end Go.Proofs.YtbgkinjicnnkiaaGreatDoor.hl
