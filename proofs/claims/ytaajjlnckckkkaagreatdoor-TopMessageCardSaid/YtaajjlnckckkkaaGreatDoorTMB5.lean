/-
  What the law TopMessage gives: its runs.
-/
import Derived.Test.YtaajjlnckckkkaaGreatDoorTMA
set_option linter.unusedSectionVars false
set_option linter.unusedVariables false
set_option maxRecDepth 1000000
set_option maxHeartbeats 0
namespace Go.Proofs.YtaajjlnckckkkaaGreatDoor.tm
open Go.X Go.RowKit Go.X.chars8
abbrev cs5 : List Nat := [6, 14, 22, 30, 38]
theorem n6 : chN 6 = true := (by as_aux_lemma => kernel_rfl)
theorem a6 : G1 6 := fun s h => (by as_aux_lemma => kernel_rfl)
theorem b6 : G2 6 := fun s h => (by as_aux_lemma => kernel_rfl)
theorem c6 : G3 6 := fun s h => (by as_aux_lemma => kernel_rfl)
theorem s6_0 : GS 6 false := fun s h => (by as_aux_lemma => kernel_rfl)
theorem s6_1 : GS 6 true := fun s h => (by as_aux_lemma => kernel_rfl)
theorem n14 : chN 14 = true := (by as_aux_lemma => kernel_rfl)
theorem a14 : G1 14 := fun s h => (by as_aux_lemma => kernel_rfl)
theorem b14 : G2 14 := fun s h => (by as_aux_lemma => kernel_rfl)
theorem c14 : G3 14 := fun s h => (by as_aux_lemma => kernel_rfl)
theorem s14_0 : GS 14 false := fun s h => (by as_aux_lemma => kernel_rfl)
theorem s14_1 : GS 14 true := fun s h => (by as_aux_lemma => kernel_rfl)
theorem n22 : chN 22 = true := (by as_aux_lemma => kernel_rfl)
theorem a22 : G1 22 := fun s h => (by as_aux_lemma => kernel_rfl)
theorem b22 : G2 22 := fun s h => (by as_aux_lemma => kernel_rfl)
theorem c22 : G3 22 := fun s h => (by as_aux_lemma => kernel_rfl)
theorem s22_0 : GS 22 false := fun s h => (by as_aux_lemma => kernel_rfl)
theorem s22_1 : GS 22 true := fun s h => (by as_aux_lemma => kernel_rfl)
theorem n30 : chN 30 = true := (by as_aux_lemma => kernel_rfl)
theorem a30 : G1 30 := fun s h => (by as_aux_lemma => kernel_rfl)
theorem b30 : G2 30 := fun s h => (by as_aux_lemma => kernel_rfl)
theorem c30 : G3 30 := fun s h => (by as_aux_lemma => kernel_rfl)
theorem s30_0 : GS 30 false := fun s h => (by as_aux_lemma => kernel_rfl)
theorem s30_1 : GS 30 true := fun s h => (by as_aux_lemma => kernel_rfl)
theorem n38 : chN 38 = true := (by as_aux_lemma => kernel_rfl)
theorem a38 : G1 38 := fun s h => (by as_aux_lemma => kernel_rfl)
theorem b38 : G2 38 := fun s h => (by as_aux_lemma => kernel_rfl)
theorem c38 : G3 38 := fun s h => (by as_aux_lemma => kernel_rfl)
theorem s38_0 : GS 38 false := fun s h => (by as_aux_lemma => kernel_rfl)
theorem s38_1 : GS 38 true := fun s h => (by as_aux_lemma => kernel_rfl)
theorem all5 : ∀ q ∈ cs5, chN q = true ∧ G1 q ∧ G2 q ∧ G3 q ∧ ∀ b, GS q b := allC (G := fun q : Nat => chN q = true ∧ G1 q ∧ G2 q ∧ G3 q ∧ ∀ b, GS q b) ⟨n6, a6, b6, c6, fun b => (match b with | false => s6_0 | true => s6_1)⟩ (allC (G := fun q : Nat => chN q = true ∧ G1 q ∧ G2 q ∧ G3 q ∧ ∀ b, GS q b) ⟨n14, a14, b14, c14, fun b => (match b with | false => s14_0 | true => s14_1)⟩ (allC (G := fun q : Nat => chN q = true ∧ G1 q ∧ G2 q ∧ G3 q ∧ ∀ b, GS q b) ⟨n22, a22, b22, c22, fun b => (match b with | false => s22_0 | true => s22_1)⟩ (allC (G := fun q : Nat => chN q = true ∧ G1 q ∧ G2 q ∧ G3 q ∧ ∀ b, GS q b) ⟨n30, a30, b30, c30, fun b => (match b with | false => s30_0 | true => s30_1)⟩ (allC (G := fun q : Nat => chN q = true ∧ G1 q ∧ G2 q ∧ G3 q ∧ ∀ b, GS q b) ⟨n38, a38, b38, c38, fun b => (match b with | false => s38_0 | true => s38_1)⟩ (allNil)))))
end Go.Proofs.YtaajjlnckckkkaaGreatDoor.tm
