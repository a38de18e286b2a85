/-
  What the law TopHello gives: its runs, by both lengths.
-/
import Derived.Test.YtbgkinjicnnkiaaGreatDoorHLK
set_option linter.unusedSectionVars false
set_option linter.unusedVariables false
set_option maxRecDepth 1000000
set_option maxHeartbeats 0
namespace Go.Proofs.YtbgkinjicnnkiaaGreatDoor.hl
open Go.X Go.RowKit Go.X.chars8 Go.Proofs.YtbgkinjicnnkiaaGreatDoor.hq
theorem j2_2 : JG2 5 2 := ⟨by kernel_rfl, by kernel_rfl, fun hn h => (by as_aux_lemma => kernel_rfl)⟩
theorem g2_2 : LM2 2 := fun hn h => (by as_aux_lemma => kernel_rfl)
theorem j2_4 : JG2 5 4 := ⟨by kernel_rfl, by kernel_rfl, fun hn h => (by as_aux_lemma => kernel_rfl)⟩
theorem g2_4 : LM2 4 := fun hn h => (by as_aux_lemma => kernel_rfl)
theorem j2_6 : JG2 5 6 := ⟨by kernel_rfl, by kernel_rfl, fun hn h => (by as_aux_lemma => kernel_rfl)⟩
theorem g2_6 : LM2 6 := fun hn h => (by as_aux_lemma => kernel_rfl)
theorem j2_8 : JG2 5 8 := ⟨by kernel_rfl, by kernel_rfl, fun hn h => (by as_aux_lemma => kernel_rfl)⟩
theorem g2_8 : LM2 8 := fun hn h => (by as_aux_lemma => kernel_rfl)
theorem j2_10 : JG2 5 10 := ⟨by kernel_rfl, by kernel_rfl, fun hn h => (by as_aux_lemma => kernel_rfl)⟩
theorem g2_10 : LM2 10 := fun hn h => (by as_aux_lemma => kernel_rfl)
theorem j2_12 : JG2 5 12 := ⟨by kernel_rfl, by kernel_rfl, fun hn h => (by as_aux_lemma => kernel_rfl)⟩
theorem g2_12 : LM2 12 := fun hn h => (by as_aux_lemma => kernel_rfl)
theorem j2_14 : JG2 5 14 := ⟨by kernel_rfl, by kernel_rfl, fun hn h => (by as_aux_lemma => kernel_rfl)⟩
theorem g2_14 : LM2 14 := fun hn h => (by as_aux_lemma => kernel_rfl)
theorem j2_16 : JG2 5 16 := ⟨by kernel_rfl, by kernel_rfl, fun hn h => (by as_aux_lemma => kernel_rfl)⟩
theorem g2_16 : LM2 16 := fun hn h => (by as_aux_lemma => kernel_rfl)
theorem j2_18 : JG2 5 18 := ⟨by kernel_rfl, by kernel_rfl, fun hn h => (by as_aux_lemma => kernel_rfl)⟩
theorem g2_18 : LM2 18 := fun hn h => (by as_aux_lemma => kernel_rfl)
theorem j2_20 : JG2 5 20 := ⟨by kernel_rfl, by kernel_rfl, fun hn h => (by as_aux_lemma => kernel_rfl)⟩
theorem g2_20 : LM2 20 := fun hn h => (by as_aux_lemma => kernel_rfl)
end Go.Proofs.YtbgkinjicnnkiaaGreatDoor.hl
