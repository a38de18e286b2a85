/-
  What the law TopHello gives: its runs, by both lengths.
-/
import Derived.Test.YtbgkinjicnnkiaaGreatDoorHLK
set_option linter.unusedSectionVars false
set_option linter.unusedVariables false
set_option maxRecDepth 1000000
set_option maxHeartbeats 0
namespace Go.Proofs.YtbgkinjicnnkiaaGreatDoor.hl
open Go.X Go.RowKit Go.X.chars8 Go.Proofs.YtbgkinjicnnkiaaGreatDoor.hq
theorem j2_1 : JG2 5 1 := ⟨by kernel_rfl, by kernel_rfl, fun hn h => (by as_aux_lemma => kernel_rfl)⟩
theorem g2_1 : LM2 1 := fun hn h => (by as_aux_lemma => kernel_rfl)
theorem j2_3 : JG2 5 3 := ⟨by kernel_rfl, by kernel_rfl, fun hn h => (by as_aux_lemma => kernel_rfl)⟩
theorem g2_3 : LM2 3 := fun hn h => (by as_aux_lemma => kernel_rfl)
theorem j2_5 : JG2 5 5 := ⟨by kernel_rfl, by kernel_rfl, fun hn h => (by as_aux_lemma => kernel_rfl)⟩
theorem g2_5 : LM2 5 := fun hn h => (by as_aux_lemma => kernel_rfl)
theorem j2_7 : JG2 5 7 := ⟨by kernel_rfl, by kernel_rfl, fun hn h => (by as_aux_lemma => kernel_rfl)⟩
theorem g2_7 : LM2 7 := fun hn h => (by as_aux_lemma => kernel_rfl)
theorem j2_9 : JG2 5 9 := ⟨by kernel_rfl, by kernel_rfl, fun hn h => (by as_aux_lemma => kernel_rfl)⟩
theorem g2_9 : LM2 9 := fun hn h => (by as_aux_lemma => kernel_rfl)
theorem j2_11 : JG2 5 11 := ⟨by kernel_rfl, by kernel_rfl, fun hn h => (by as_aux_lemma => kernel_rfl)⟩
theorem g2_11 : LM2 11 := fun hn h => (by as_aux_lemma => kernel_rfl)
theorem j2_13 : JG2 5 13 := ⟨by kernel_rfl, by kernel_rfl, fun hn h => (by as_aux_lemma => kernel_rfl)⟩
theorem g2_13 : LM2 13 := fun hn h => (by as_aux_lemma => kernel_rfl)
theorem j2_15 : JG2 5 15 := ⟨by kernel_rfl, by kernel_rfl, fun hn h => (by as_aux_lemma => kernel_rfl)⟩
theorem g2_15 : LM2 15 := fun hn h => (by as_aux_lemma => kernel_rfl)
theorem j2_17 : JG2 5 17 := ⟨by kernel_rfl, by kernel_rfl, fun hn h => (by as_aux_lemma => kernel_rfl)⟩
theorem g2_17 : LM2 17 := fun hn h => (by as_aux_lemma => kernel_rfl)
theorem j2_19 : JG2 5 19 := ⟨by kernel_rfl, by kernel_rfl, fun hn h => (by as_aux_lemma => kernel_rfl)⟩
theorem g2_19 : LM2 19 := fun hn h => (by as_aux_lemma => kernel_rfl)
theorem j2_21 : JG2 5 21 := ⟨by kernel_rfl, by kernel_rfl, fun hn h => (by as_aux_lemma => kernel_rfl)⟩
theorem g2_21 : LM2 21 := fun hn h => (by as_aux_lemma => kernel_rfl)
end Go.Proofs.YtbgkinjicnnkiaaGreatDoor.hl
