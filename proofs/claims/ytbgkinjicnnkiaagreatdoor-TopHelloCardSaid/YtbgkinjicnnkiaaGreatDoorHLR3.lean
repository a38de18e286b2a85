/-
  What the law TopHello gives: its runs, by both lengths.
-/
import Derived.Test.YtbgkinjicnnkiaaGreatDoorHLJ
set_option linter.unusedSectionVars false
set_option linter.unusedVariables false
set_option maxRecDepth 1000000
set_option maxHeartbeats 0
namespace Go.Proofs.YtbgkinjicnnkiaaGreatDoor.hl
open Go.X Go.RowKit Go.X.chars8 Go.Proofs.YtbgkinjicnnkiaaGreatDoor.hq
theorem j4_1 : JG 7 1 := ⟨by kernel_rfl, by kernel_rfl, fun hn h => (by as_aux_lemma => kernel_rfl)⟩
theorem g4_1 : LG4 1 := fun hn h => (by as_aux_lemma => kernel_rfl)
theorem j4_3 : JG 7 3 := ⟨by kernel_rfl, by kernel_rfl, fun hn h => (by as_aux_lemma => kernel_rfl)⟩
theorem g4_3 : LG4 3 := fun hn h => (by as_aux_lemma => kernel_rfl)
theorem j4_5 : JG 7 5 := ⟨by kernel_rfl, by kernel_rfl, fun hn h => (by as_aux_lemma => kernel_rfl)⟩
theorem g4_5 : LG4 5 := fun hn h => (by as_aux_lemma => kernel_rfl)
theorem j4_7 : JG 7 7 := ⟨by kernel_rfl, by kernel_rfl, fun hn h => (by as_aux_lemma => kernel_rfl)⟩
theorem g4_7 : LG4 7 := fun hn h => (by as_aux_lemma => kernel_rfl)
theorem j4_9 : JG 7 9 := ⟨by kernel_rfl, by kernel_rfl, fun hn h => (by as_aux_lemma => kernel_rfl)⟩
theorem g4_9 : LG4 9 := fun hn h => (by as_aux_lemma => kernel_rfl)
theorem j4_11 : JG 7 11 := ⟨by kernel_rfl, by kernel_rfl, fun hn h => (by as_aux_lemma => kernel_rfl)⟩
theorem g4_11 : LG4 11 := fun hn h => (by as_aux_lemma => kernel_rfl)
theorem j4_13 : JG 7 13 := ⟨by kernel_rfl, by kernel_rfl, fun hn h => (by as_aux_lemma => kernel_rfl)⟩
theorem g4_13 : LG4 13 := fun hn h => (by as_aux_lemma => kernel_rfl)
theorem j4_15 : JG 7 15 := ⟨by kernel_rfl, by kernel_rfl, fun hn h => (by as_aux_lemma => kernel_rfl)⟩
theorem g4_15 : LG4 15 := fun hn h => (by as_aux_lemma => kernel_rfl)
theorem j4_17 : JG 7 17 := ⟨by kernel_rfl, by kernel_rfl, fun hn h => (by as_aux_lemma => kernel_rfl)⟩
theorem g4_17 : LG4 17 := fun hn h => (by as_aux_lemma => kernel_rfl)
theorem j4_19 : JG 7 19 := ⟨by kernel_rfl, by kernel_rfl, fun hn h => (by as_aux_lemma => kernel_rfl)⟩
theorem g4_19 : LG4 19 := fun hn h => (by as_aux_lemma => kernel_rfl)
theorem j4_21 : JG 7 21 := ⟨by kernel_rfl, by kernel_rfl, fun hn h => (by as_aux_lemma => kernel_rfl)⟩
theorem g4_21 : LG4 21 := fun hn h => (by as_aux_lemma => kernel_rfl)
end Go.Proofs.YtbgkinjicnnkiaaGreatDoor.hl
