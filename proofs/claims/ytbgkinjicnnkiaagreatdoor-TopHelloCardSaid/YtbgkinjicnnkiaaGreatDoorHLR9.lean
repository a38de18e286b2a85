/-
  What the law TopHello gives: its runs, by both lengths.
-/
import Derived.Test.YtbgkinjicnnkiaaGreatDoorHLJ
set_option linter.unusedSectionVars false
set_option linter.unusedVariables false
set_option maxRecDepth 1000000
set_option maxHeartbeats 0
namespace Go.Proofs.YtbgkinjicnnkiaaGreatDoor.hl
open Go.X Go.RowKit Go.X.chars8 Go.Proofs.YtbgkinjicnnkiaaGreatDoor.hq
theorem j4_2 : JG 7 2 := ⟨by kernel_rfl, by kernel_rfl, fun hn h => (by as_aux_lemma => kernel_rfl)⟩
theorem g4_2 : LG4 2 := fun hn h => (by as_aux_lemma => kernel_rfl)
theorem j4_4 : JG 7 4 := ⟨by kernel_rfl, by kernel_rfl, fun hn h => (by as_aux_lemma => kernel_rfl)⟩
theorem g4_4 : LG4 4 := fun hn h => (by as_aux_lemma => kernel_rfl)
theorem j4_6 : JG 7 6 := ⟨by kernel_rfl, by kernel_rfl, fun hn h => (by as_aux_lemma => kernel_rfl)⟩
theorem g4_6 : LG4 6 := fun hn h => (by as_aux_lemma => kernel_rfl)
theorem j4_8 : JG 7 8 := ⟨by kernel_rfl, by kernel_rfl, fun hn h => (by as_aux_lemma => kernel_rfl)⟩
theorem g4_8 : LG4 8 := fun hn h => (by as_aux_lemma => kernel_rfl)
theorem j4_10 : JG 7 10 := ⟨by kernel_rfl, by kernel_rfl, fun hn h => (by as_aux_lemma => kernel_rfl)⟩
theorem g4_10 : LG4 10 := fun hn h => (by as_aux_lemma => kernel_rfl)
theorem j4_12 : JG 7 12 := ⟨by kernel_rfl, by kernel_rfl, fun hn h => (by as_aux_lemma => kernel_rfl)⟩
theorem g4_12 : LG4 12 := fun hn h => (by as_aux_lemma => kernel_rfl)
theorem j4_14 : JG 7 14 := ⟨by kernel_rfl, by kernel_rfl, fun hn h => (by as_aux_lemma => kernel_rfl)⟩
theorem g4_14 : LG4 14 := fun hn h => (by as_aux_lemma => kernel_rfl)
theorem j4_16 : JG 7 16 := ⟨by kernel_rfl, by kernel_rfl, fun hn h => (by as_aux_lemma => kernel_rfl)⟩
theorem g4_16 : LG4 16 := fun hn h => (by as_aux_lemma => kernel_rfl)
theorem j4_18 : JG 7 18 := ⟨by kernel_rfl, by kernel_rfl, fun hn h => (by as_aux_lemma => kernel_rfl)⟩
theorem g4_18 : LG4 18 := fun hn h => (by as_aux_lemma => kernel_rfl)
theorem j4_20 : JG 7 20 := ⟨by kernel_rfl, by kernel_rfl, fun hn h => (by as_aux_lemma => kernel_rfl)⟩
theorem g4_20 : LG4 20 := fun hn h => (by as_aux_lemma => kernel_rfl)
end Go.Proofs.YtbgkinjicnnkiaaGreatDoor.hl
