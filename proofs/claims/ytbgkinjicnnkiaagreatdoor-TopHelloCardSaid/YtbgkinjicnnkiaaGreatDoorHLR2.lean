/-
  What the law TopHello gives: its runs, by both lengths.
-/
import Derived.Test.YtbgkinjicnnkiaaGreatDoorHLJ
set_option linter.unusedSectionVars false
set_option linter.unusedVariables false
set_option maxRecDepth 1000000
set_option maxHeartbeats 0
namespace Go.Proofs.YtbgkinjicnnkiaaGreatDoor.hl
open Go.X Go.RowKit Go.X.chars8 Go.Proofs.YtbgkinjicnnkiaaGreatDoor.hq
theorem j3_1 : JG 6 1 := ⟨by kernel_rfl, by kernel_rfl, fun hn h => (by as_aux_lemma => kernel_rfl)⟩
theorem g3_1 : LG3 1 := fun hn h => (by as_aux_lemma => kernel_rfl)
theorem j3_3 : JG 6 3 := ⟨by kernel_rfl, by kernel_rfl, fun hn h => (by as_aux_lemma => kernel_rfl)⟩
theorem g3_3 : LG3 3 := fun hn h => (by as_aux_lemma => kernel_rfl)
theorem j3_5 : JG 6 5 := ⟨by kernel_rfl, by kernel_rfl, fun hn h => (by as_aux_lemma => kernel_rfl)⟩
theorem g3_5 : LG3 5 := fun hn h => (by as_aux_lemma => kernel_rfl)
theorem j3_7 : JG 6 7 := ⟨by kernel_rfl, by kernel_rfl, fun hn h => (by as_aux_lemma => kernel_rfl)⟩
theorem g3_7 : LG3 7 := fun hn h => (by as_aux_lemma => kernel_rfl)
theorem j3_9 : JG 6 9 := ⟨by kernel_rfl, by kernel_rfl, fun hn h => (by as_aux_lemma => kernel_rfl)⟩
theorem g3_9 : LG3 9 := fun hn h => (by as_aux_lemma => kernel_rfl)
theorem j3_11 : JG 6 11 := ⟨by kernel_rfl, by kernel_rfl, fun hn h => (by as_aux_lemma => kernel_rfl)⟩
theorem g3_11 : LG3 11 := fun hn h => (by as_aux_lemma => kernel_rfl)
theorem j3_13 : JG 6 13 := ⟨by kernel_rfl, by kernel_rfl, fun hn h => (by as_aux_lemma => kernel_rfl)⟩
theorem g3_13 : LG3 13 := fun hn h => (by as_aux_lemma => kernel_rfl)
theorem j3_15 : JG 6 15 := ⟨by kernel_rfl, by kernel_rfl, fun hn h => (by as_aux_lemma => kernel_rfl)⟩
theorem g3_15 : LG3 15 := fun hn h => (by as_aux_lemma => kernel_rfl)
theorem j3_17 : JG 6 17 := ⟨by kernel_rfl, by kernel_rfl, fun hn h => (by as_aux_lemma => kernel_rfl)⟩
theorem g3_17 : LG3 17 := fun hn h => (by as_aux_lemma => kernel_rfl)
theorem j3_19 : JG 6 19 := ⟨by kernel_rfl, by kernel_rfl, fun hn h => (by as_aux_lemma => kernel_rfl)⟩
theorem g3_19 : LG3 19 := fun hn h => (by as_aux_lemma => kernel_rfl)
theorem j3_21 : JG 6 21 := ⟨by kernel_rfl, by kernel_rfl, fun hn h => (by as_aux_lemma => kernel_rfl)⟩
theorem g3_21 : LG3 21 := fun hn h => (by as_aux_lemma => kernel_rfl)
end Go.Proofs.YtbgkinjicnnkiaaGreatDoor.hl
