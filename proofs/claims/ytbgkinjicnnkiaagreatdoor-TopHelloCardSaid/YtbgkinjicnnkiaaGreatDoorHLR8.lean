/-
  What the law TopHello gives: its runs, by both lengths.
-/
import Derived.Test.YtbgkinjicnnkiaaGreatDoorHLJ
set_option linter.unusedSectionVars false
set_option linter.unusedVariables false
set_option maxRecDepth 1000000
set_option maxHeartbeats 0
namespace Go.Proofs.YtbgkinjicnnkiaaGreatDoor.hl
open Go.X Go.RowKit Go.X.chars8 Go.Proofs.YtbgkinjicnnkiaaGreatDoor.hq
theorem j3_2 : JG 6 2 := ⟨by kernel_rfl, by kernel_rfl, fun hn h => (by as_aux_lemma => kernel_rfl)⟩
theorem g3_2 : LG3 2 := fun hn h => (by as_aux_lemma => kernel_rfl)
theorem j3_4 : JG 6 4 := ⟨by kernel_rfl, by kernel_rfl, fun hn h => (by as_aux_lemma => kernel_rfl)⟩
theorem g3_4 : LG3 4 := fun hn h => (by as_aux_lemma => kernel_rfl)
theorem j3_6 : JG 6 6 := ⟨by kernel_rfl, by kernel_rfl, fun hn h => (by as_aux_lemma => kernel_rfl)⟩
theorem g3_6 : LG3 6 := fun hn h => (by as_aux_lemma => kernel_rfl)
theorem j3_8 : JG 6 8 := ⟨by kernel_rfl, by kernel_rfl, fun hn h => (by as_aux_lemma => kernel_rfl)⟩
theorem g3_8 : LG3 8 := fun hn h => (by as_aux_lemma => kernel_rfl)
theorem j3_10 : JG 6 10 := ⟨by kernel_rfl, by kernel_rfl, fun hn h => (by as_aux_lemma => kernel_rfl)⟩
theorem g3_10 : LG3 10 := fun hn h => (by as_aux_lemma => kernel_rfl)
theorem j3_12 : JG 6 12 := ⟨by kernel_rfl, by kernel_rfl, fun hn h => (by as_aux_lemma => kernel_rfl)⟩
theorem g3_12 : LG3 12 := fun hn h => (by as_aux_lemma => kernel_rfl)
theorem j3_14 : JG 6 14 := ⟨by kernel_rfl, by kernel_rfl, fun hn h => (by as_aux_lemma => kernel_rfl)⟩
theorem g3_14 : LG3 14 := fun hn h => (by as_aux_lemma => kernel_rfl)
theorem j3_16 : JG 6 16 := ⟨by kernel_rfl, by kernel_rfl, fun hn h => (by as_aux_lemma => kernel_rfl)⟩
theorem g3_16 : LG3 16 := fun hn h => (by as_aux_lemma => kernel_rfl)
theorem j3_18 : JG 6 18 := ⟨by kernel_rfl, by kernel_rfl, fun hn h => (by as_aux_lemma => kernel_rfl)⟩
theorem g3_18 : LG3 18 := fun hn h => (by as_aux_lemma => kernel_rfl)
theorem j3_20 : JG 6 20 := ⟨by kernel_rfl, by kernel_rfl, fun hn h => (by as_aux_lemma => kernel_rfl)⟩
theorem g3_20 : LG3 20 := fun hn h => (by as_aux_lemma => kernel_rfl)
end Go.Proofs.YtbgkinjicnnkiaaGreatDoor.hl
