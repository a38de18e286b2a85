/-
  What the law TopHello gives: its runs, by both lengths.
-/
import Derived.Test.YtbgkinjicnnkiaaGreatDoorHLJ
set_option linter.unusedSectionVars false
set_option linter.unusedVariables false
set_option maxRecDepth 1000000
set_option maxHeartbeats 0
namespace Go.Proofs.YtbgkinjicnnkiaaGreatDoor.hl
open Go.X Go.RowKit Go.X.chars8 Go.Proofs.YtbgkinjicnnkiaaGreatDoor.hq
theorem j5_2 : JG 8 2 := ⟨by kernel_rfl, by kernel_rfl, fun hn h => (by as_aux_lemma => kernel_rfl)⟩
theorem g5_2 : LG5 2 := fun hn h => (by as_aux_lemma => kernel_rfl)
theorem j5_4 : JG 8 4 := ⟨by kernel_rfl, by kernel_rfl, fun hn h => (by as_aux_lemma => kernel_rfl)⟩
theorem g5_4 : LG5 4 := fun hn h => (by as_aux_lemma => kernel_rfl)
theorem j5_6 : JG 8 6 := ⟨by kernel_rfl, by kernel_rfl, fun hn h => (by as_aux_lemma => kernel_rfl)⟩
theorem g5_6 : LG5 6 := fun hn h => (by as_aux_lemma => kernel_rfl)
theorem j5_8 : JG 8 8 := ⟨by kernel_rfl, by kernel_rfl, fun hn h => (by as_aux_lemma => kernel_rfl)⟩
theorem g5_8 : LG5 8 := fun hn h => (by as_aux_lemma => kernel_rfl)
theorem j5_10 : JG 8 10 := ⟨by kernel_rfl, by kernel_rfl, fun hn h => (by as_aux_lemma => kernel_rfl)⟩
theorem g5_10 : LG5 10 := fun hn h => (by as_aux_lemma => kernel_rfl)
theorem j5_12 : JG 8 12 := ⟨by kernel_rfl, by kernel_rfl, fun hn h => (by as_aux_lemma => kernel_rfl)⟩
theorem g5_12 : LG5 12 := fun hn h => (by as_aux_lemma => kernel_rfl)
theorem j5_14 : JG 8 14 := ⟨by kernel_rfl, by kernel_rfl, fun hn h => (by as_aux_lemma => kernel_rfl)⟩
theorem g5_14 : LG5 14 := fun hn h => (by as_aux_lemma => kernel_rfl)
theorem j5_16 : JG 8 16 := ⟨by kernel_rfl, by kernel_rfl, fun hn h => (by as_aux_lemma => kernel_rfl)⟩
theorem g5_16 : LG5 16 := fun hn h => (by as_aux_lemma => kernel_rfl)
theorem j5_18 : JG 8 18 := ⟨by kernel_rfl, by kernel_rfl, fun hn h => (by as_aux_lemma => kernel_rfl)⟩
theorem g5_18 : LG5 18 := fun hn h => (by as_aux_lemma => kernel_rfl)
theorem j5_20 : JG 8 20 := ⟨by kernel_rfl, by kernel_rfl, fun hn h => (by as_aux_lemma => kernel_rfl)⟩
theorem g5_20 : LG5 20 := fun hn h => (by as_aux_lemma => kernel_rfl)
end Go.Proofs.YtbgkinjicnnkiaaGreatDoor.hl
