/-
  What the law TopHello gives: its runs, by both lengths.
-/
import Derived.Test.YtbgkinjicnnkiaaGreatDoorHLJ
set_option linter.unusedSectionVars false
set_option linter.unusedVariables false
set_option maxRecDepth 1000000
set_option maxHeartbeats 0
namespace Go.Proofs.YtbgkinjicnnkiaaGreatDoor.hl
open Go.X Go.RowKit Go.X.chars8 Go.Proofs.YtbgkinjicnnkiaaGreatDoor.hq
theorem j1_2 : JG 4 2 := ⟨by kernel_rfl, by kernel_rfl, fun hn h => (by as_aux_lemma => kernel_rfl)⟩
theorem g1_2 : LG1 2 := fun hn h => (by as_aux_lemma => kernel_rfl)
theorem j1_4 : JG 4 4 := ⟨by kernel_rfl, by kernel_rfl, fun hn h => (by as_aux_lemma => kernel_rfl)⟩
theorem g1_4 : LG1 4 := fun hn h => (by as_aux_lemma => kernel_rfl)
theorem j1_6 : JG 4 6 := ⟨by kernel_rfl, by kernel_rfl, fun hn h => (by as_aux_lemma => kernel_rfl)⟩
theorem g1_6 : LG1 6 := fun hn h => (by as_aux_lemma => kernel_rfl)
theorem j1_8 : JG 4 8 := ⟨by kernel_rfl, by kernel_rfl, fun hn h => (by as_aux_lemma => kernel_rfl)⟩
theorem g1_8 : LG1 8 := fun hn h => (by as_aux_lemma => kernel_rfl)
theorem j1_10 : JG 4 10 := ⟨by kernel_rfl, by kernel_rfl, fun hn h => (by as_aux_lemma => kernel_rfl)⟩
theorem g1_10 : LG1 10 := fun hn h => (by as_aux_lemma => kernel_rfl)
theorem j1_12 : JG 4 12 := ⟨by kernel_rfl, by kernel_rfl, fun hn h => (by as_aux_lemma => kernel_rfl)⟩
theorem g1_12 : LG1 12 := fun hn h => (by as_aux_lemma => kernel_rfl)
theorem j1_14 : JG 4 14 := ⟨by kernel_rfl, by kernel_rfl, fun hn h => (by as_aux_lemma => kernel_rfl)⟩
theorem g1_14 : LG1 14 := fun hn h => (by as_aux_lemma => kernel_rfl)
theorem j1_16 : JG 4 16 := ⟨by kernel_rfl, by kernel_rfl, fun hn h => (by as_aux_lemma => kernel_rfl)⟩
theorem g1_16 : LG1 16 := fun hn h => (by as_aux_lemma => kernel_rfl)
theorem j1_18 : JG 4 18 := ⟨by kernel_rfl, by kernel_rfl, fun hn h => (by as_aux_lemma => kernel_rfl)⟩
theorem g1_18 : LG1 18 := fun hn h => (by as_aux_lemma => kernel_rfl)
theorem j1_20 : JG 4 20 := ⟨by kernel_rfl, by kernel_rfl, fun hn h => (by as_aux_lemma => kernel_rfl)⟩
theorem g1_20 : LG1 20 := fun hn h => (by as_aux_lemma => kernel_rfl)
end Go.Proofs.YtbgkinjicnnkiaaGreatDoor.hl
