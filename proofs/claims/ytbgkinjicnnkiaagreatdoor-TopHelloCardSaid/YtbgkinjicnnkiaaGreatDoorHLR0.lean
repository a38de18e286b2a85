/-
  What the law TopHello gives: its runs, by both lengths.
-/
import Derived.Test.YtbgkinjicnnkiaaGreatDoorHLJ
set_option linter.unusedSectionVars false
set_option linter.unusedVariables false
set_option maxRecDepth 1000000
set_option maxHeartbeats 0
namespace Go.Proofs.YtbgkinjicnnkiaaGreatDoor.hl
open Go.X Go.RowKit Go.X.chars8 Go.Proofs.YtbgkinjicnnkiaaGreatDoor.hq
theorem j1_1 : JG 4 1 := ⟨by kernel_rfl, by kernel_rfl, fun hn h => (by as_aux_lemma => kernel_rfl)⟩
theorem g1_1 : LG1 1 := fun hn h => (by as_aux_lemma => kernel_rfl)
theorem j1_3 : JG 4 3 := ⟨by kernel_rfl, by kernel_rfl, fun hn h => (by as_aux_lemma => kernel_rfl)⟩
theorem g1_3 : LG1 3 := fun hn h => (by as_aux_lemma => kernel_rfl)
theorem j1_5 : JG 4 5 := ⟨by kernel_rfl, by kernel_rfl, fun hn h => (by as_aux_lemma => kernel_rfl)⟩
theorem g1_5 : LG1 5 := fun hn h => (by as_aux_lemma => kernel_rfl)
theorem j1_7 : JG 4 7 := ⟨by kernel_rfl, by kernel_rfl, fun hn h => (by as_aux_lemma => kernel_rfl)⟩
theorem g1_7 : LG1 7 := fun hn h => (by as_aux_lemma => kernel_rfl)
theorem j1_9 : JG 4 9 := ⟨by kernel_rfl, by kernel_rfl, fun hn h => (by as_aux_lemma => kernel_rfl)⟩
theorem g1_9 : LG1 9 := fun hn h => (by as_aux_lemma => kernel_rfl)
theorem j1_11 : JG 4 11 := ⟨by kernel_rfl, by kernel_rfl, fun hn h => (by as_aux_lemma => kernel_rfl)⟩
theorem g1_11 : LG1 11 := fun hn h => (by as_aux_lemma => kernel_rfl)
theorem j1_13 : JG 4 13 := ⟨by kernel_rfl, by kernel_rfl, fun hn h => (by as_aux_lemma => kernel_rfl)⟩
theorem g1_13 : LG1 13 := fun hn h => (by as_aux_lemma => kernel_rfl)
theorem j1_15 : JG 4 15 := ⟨by kernel_rfl, by kernel_rfl, fun hn h => (by as_aux_lemma => kernel_rfl)⟩
theorem g1_15 : LG1 15 := fun hn h => (by as_aux_lemma => kernel_rfl)
theorem j1_17 : JG 4 17 := ⟨by kernel_rfl, by kernel_rfl, fun hn h => (by as_aux_lemma => kernel_rfl)⟩
theorem g1_17 : LG1 17 := fun hn h => (by as_aux_lemma => kernel_rfl)
theorem j1_19 : JG 4 19 := ⟨by kernel_rfl, by kernel_rfl, fun hn h => (by as_aux_lemma => kernel_rfl)⟩
theorem g1_19 : LG1 19 := fun hn h => (by as_aux_lemma => kernel_rfl)
theorem j1_21 : JG 4 21 := ⟨by kernel_rfl, by kernel_rfl, fun hn h => (by as_aux_lemma => kernel_rfl)⟩
theorem g1_21 : LG1 21 := fun hn h => (by as_aux_lemma => kernel_rfl)
end Go.Proofs.YtbgkinjicnnkiaaGreatDoor.hl
