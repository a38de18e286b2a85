/-
  What the law TopMessage gives: its runs.
-/
import Derived.Test.YtaajjlnckckkkaaGreatDoorTMA
set_option linter.unusedSectionVars false
set_option linter.unusedVariables false
set_option maxRecDepth 1000000
set_option maxHeartbeats 0
namespace Go.Proofs.YtaajjlnckckkkaaGreatDoor.tm
open Go.X Go.RowKit Go.X.chars8
abbrev cs7 : List Nat := [8, 16, 24, 32, 40]
theorem n8 : chN 8 = true := (by as_aux_lemma => kernel_rfl)
theorem a8 : G1 8 := fun s h => (by as_aux_lemma => kernel_rfl)
theorem b8 : G2 8 := fun s h => (by as_aux_lemma => kernel_rfl)
theorem c8 : G3 8 := fun s h => (by as_aux_lemma => kernel_rfl)
theorem s8_0 : GS 8 false := fun s h => (by as_aux_lemma => kernel_rfl)
theorem s8_1 : GS 8 true := fun s h => (by as_aux_lemma => kernel_rfl)
theorem n16 : chN 16 = true := (by as_aux_lemma => kernel_rfl)
theorem a16 : G1 16 := fun s h => (by as_aux_lemma => kernel_rfl)
theorem b16 : G2 16 := fun s h => (by as_aux_lemma => kernel_rfl)
theorem c16 : G3 16 := fun s h => (by as_aux_lemma => kernel_rfl)
theorem s16_0 : GS 16 false := fun s h => (by as_aux_lemma => kernel_rfl)
theorem s16_1 : GS 16 true := fun s h => (by as_aux_lemma => kernel_rfl)
theorem n24 : chN 24 = true := (by as_aux_lemma => kernel_rfl)
theorem a24 : G1 24 := fun s h => (by as_aux_lemma => kernel_rfl)
theorem b24 : G2 24 := fun s h => (by as_aux_lemma => kernel_rfl)
theorem c24 : G3 24 := fun s h => (by as_aux_lemma => kernel_rfl)
theorem s24_0 : GS 24 false := fun s h => (by as_aux_lemma => kernel_rfl)
theorem s24_1 : GS 24 true := fun s h => (by as_aux_lemma => kernel_rfl)
theorem n32 : chN 32 = true := (by as_aux_lemma => kernel_rfl)
theorem a32 : G1 32 := fun s h => (by as_aux_lemma => kernel_rfl)
theorem b32 : G2 32 := fun s h => (by as_aux_lemma => kernel_rfl)
theorem c32 : G3 32 := fun s h => (by as_aux_lemma => kernel_rfl)
theorem s32_0 : GS 32 false := fun s h => (by as_aux_lemma => kernel_rfl)
theorem s32_1 : GS 32 true := fun s h => (by as_aux_lemma => kernel_rfl)
theorem n40 : chN 40 = true := (by as_aux_lemma => kernel_rfl)
theorem a40 : G1 40 := fun s h => (by as_aux_lemma => kernel_rfl)
theorem b40 : G2 40 := fun s h => (by as_aux_lemma => kernel_rfl)
theorem c40 : G3 40 := fun s h => (by as_aux_lemma => kernel_rfl)
theorem s40_0 : GS 40 false := fun s h => (by as_aux_lemma => kernel_rfl)
theorem s40_1 : GS 40 true := fun s h => (by as_aux_lemma => kernel_rfl)
theorem all7 : ∀ q ∈ cs7, chN q = true ∧ G1 q ∧ G2 q ∧ G3 q ∧ ∀ b, GS q b := allC (G := fun q : Nat => chN q = true ∧ G1 q ∧ G2 q ∧ G3 q ∧ ∀ b, GS q b) ⟨n8, a8, b8, c8, fun b => (match b with | false => s8_0 | true => s8_1)⟩ (allC (G := fun q : Nat => chN q = true ∧ G1 q ∧ G2 q ∧ G3 q ∧ ∀ b, GS q b) ⟨n16, a16, b16, c16, fun b => (match b with | false => s16_0 | true => s16_1)⟩ (allC (G := fun q : Nat => chN q = true ∧ G1 q ∧ G2 q ∧ G3 q ∧ ∀ b, GS q b) ⟨n24, a24, b24, c24, fun b => (match b with | false => s24_0 | true => s24_1)⟩ (allC (G := fun q : Nat => chN q = true ∧ G1 q ∧ G2 q ∧ G3 q ∧ ∀ b, GS q b) ⟨n32, a32, b32, c32, fun b => (match b with | false => s32_0 | true => s32_1)⟩ (allC (G := fun q : Nat => chN q = true ∧ G1 q ∧ G2 q ∧ G3 q ∧ ∀ b, GS q b) ⟨n40, a40, b40, c40, fun b => (match b with | false => s40_0 | true => s40_1)⟩ (allNil)))))
end Go.Proofs.YtaajjlnckckkkaaGreatDoor.tm
