/-
  What the law TopMessage gives: its runs.
-/
import Derived.Test.YtaajjlnckckkkaaGreatDoorTMA
set_option linter.unusedSectionVars false
set_option linter.unusedVariables false
set_option maxRecDepth 1000000
set_option maxHeartbeats 0
namespace Go.Proofs.YtaajjlnckckkkaaGreatDoor.tm
open Go.X Go.RowKit Go.X.chars8
abbrev cs4 : List Nat := [5, 13, 21, 29, 37]
theorem n5 : chN 5 = true := (by as_aux_lemma => kernel_rfl)
theorem a5 : G1 5 := fun s h => (by as_aux_lemma => kernel_rfl)
theorem b5 : G2 5 := fun s h => (by as_aux_lemma => kernel_rfl)
theorem c5 : G3 5 := fun s h => (by as_aux_lemma => kernel_rfl)
theorem s5_0 : GS 5 false := fun s h => (by as_aux_lemma => kernel_rfl)
theorem s5_1 : GS 5 true := fun s h => (by as_aux_lemma => kernel_rfl)
theorem n13 : chN 13 = true := (by as_aux_lemma => kernel_rfl)
theorem a13 : G1 13 := fun s h => (by as_aux_lemma => kernel_rfl)
theorem b13 : G2 13 := fun s h => (by as_aux_lemma => kernel_rfl)
theorem c13 : G3 13 := fun s h => (by as_aux_lemma => kernel_rfl)
theorem s13_0 : GS 13 false := fun s h => (by as_aux_lemma => kernel_rfl)
theorem s13_1 : GS 13 true := fun s h => (by as_aux_lemma => kernel_rfl)
theorem n21 : chN 21 = true := (by as_aux_lemma => kernel_rfl)
theorem a21 : G1 21 := fun s h => (by as_aux_lemma => kernel_rfl)
theorem b21 : G2 21 := fun s h => (by as_aux_lemma => kernel_rfl)
theorem c21 : G3 21 := fun s h => (by as_aux_lemma => kernel_rfl)
theorem s21_0 : GS 21 false := fun s h => (by as_aux_lemma => kernel_rfl)
theorem s21_1 : GS 21 true := fun s h => (by as_aux_lemma => kernel_rfl)
theorem n29 : chN 29 = true := (by as_aux_lemma => kernel_rfl)
theorem a29 : G1 29 := fun s h => (by as_aux_lemma => kernel_rfl)
theorem b29 : G2 29 := fun s h => (by as_aux_lemma => kernel_rfl)
theorem c29 : G3 29 := fun s h => (by as_aux_lemma => kernel_rfl)
theorem s29_0 : GS 29 false := fun s h => (by as_aux_lemma => kernel_rfl)
theorem s29_1 : GS 29 true := fun s h => (by as_aux_lemma => kernel_rfl)
theorem n37 : chN 37 = true := (by as_aux_lemma => kernel_rfl)
theorem a37 : G1 37 := fun s h => (by as_aux_lemma => kernel_rfl)
theorem b37 : G2 37 := fun s h => (by as_aux_lemma => kernel_rfl)
theorem c37 : G3 37 := fun s h => (by as_aux_lemma => kernel_rfl)
theorem s37_0 : GS 37 false := fun s h => (by as_aux_lemma => kernel_rfl)
theorem s37_1 : GS 37 true := fun s h => (by as_aux_lemma => kernel_rfl)
theorem all4 : ∀ q ∈ cs4, chN q = true ∧ G1 q ∧ G2 q ∧ G3 q ∧ ∀ b, GS q b := allC (G := fun q : Nat => chN q = true ∧ G1 q ∧ G2 q ∧ G3 q ∧ ∀ b, GS q b) ⟨n5, a5, b5, c5, fun b => (match b with | false => s5_0 | true => s5_1)⟩ (allC (G := fun q : Nat => chN q = true ∧ G1 q ∧ G2 q ∧ G3 q ∧ ∀ b, GS q b) ⟨n13, a13, b13, c13, fun b => (match b with | false => s13_0 | true => s13_1)⟩ (allC (G := fun q : Nat => chN q = true ∧ G1 q ∧ G2 q ∧ G3 q ∧ ∀ b, GS q b) ⟨n21, a21, b21, c21, fun b => (match b with | false => s21_0 | true => s21_1)⟩ (allC (G := fun q : Nat => chN q = true ∧ G1 q ∧ G2 q ∧ G3 q ∧ ∀ b, GS q b) ⟨n29, a29, b29, c29, fun b => (match b with | false => s29_0 | true => s29_1)⟩ (allC (G := fun q : Nat => chN q = true ∧ G1 q ∧ G2 q ∧ G3 q ∧ ∀ b, GS q b) ⟨n37, a37, b37, c37, fun b => (match b with | false => s37_0 | true => s37_1)⟩ (allNil)))))
end Go.Proofs.YtaajjlnckckkkaaGreatDoor.tm
