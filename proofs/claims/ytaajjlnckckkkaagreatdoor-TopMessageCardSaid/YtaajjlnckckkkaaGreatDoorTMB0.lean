/-
  What the law TopMessage gives: its runs.
-/
import Derived.Test.YtaajjlnckckkkaaGreatDoorTMA
set_option linter.unusedSectionVars false
set_option linter.unusedVariables false
set_option maxRecDepth 1000000
set_option maxHeartbeats 0
namespace Go.Proofs.YtaajjlnckckkkaaGreatDoor.tm
open Go.X Go.RowKit Go.X.chars8
abbrev cs0 : List Nat := [1, 9, 17, 25, 33]
theorem n1 : chN 1 = true := (by as_aux_lemma => kernel_rfl)
theorem a1 : G1 1 := fun s h => (by as_aux_lemma => kernel_rfl)
theorem b1 : G2 1 := fun s h => (by as_aux_lemma => kernel_rfl)
theorem c1 : G3 1 := fun s h => (by as_aux_lemma => kernel_rfl)
theorem s1_0 : GS 1 false := fun s h => (by as_aux_lemma => kernel_rfl)
theorem s1_1 : GS 1 true := fun s h => (by as_aux_lemma => kernel_rfl)
theorem n9 : chN 9 = true := (by as_aux_lemma => kernel_rfl)
theorem a9 : G1 9 := fun s h => (by as_aux_lemma => kernel_rfl)
theorem b9 : G2 9 := fun s h => (by as_aux_lemma => kernel_rfl)
theorem c9 : G3 9 := fun s h => (by as_aux_lemma => kernel_rfl)
theorem s9_0 : GS 9 false := fun s h => (by as_aux_lemma => kernel_rfl)
theorem s9_1 : GS 9 true := fun s h => (by as_aux_lemma => kernel_rfl)
theorem n17 : chN 17 = true := (by as_aux_lemma => kernel_rfl)
theorem a17 : G1 17 := fun s h => (by as_aux_lemma => kernel_rfl)
theorem b17 : G2 17 := fun s h => (by as_aux_lemma => kernel_rfl)
theorem c17 : G3 17 := fun s h => (by as_aux_lemma => kernel_rfl)
theorem s17_0 : GS 17 false := fun s h => (by as_aux_lemma => kernel_rfl)
theorem s17_1 : GS 17 true := fun s h => (by as_aux_lemma => kernel_rfl)
theorem n25 : chN 25 = true := (by as_aux_lemma => kernel_rfl)
theorem a25 : G1 25 := fun s h => (by as_aux_lemma => kernel_rfl)
theorem b25 : G2 25 := fun s h => (by as_aux_lemma => kernel_rfl)
theorem c25 : G3 25 := fun s h => (by as_aux_lemma => kernel_rfl)
theorem s25_0 : GS 25 false := fun s h => (by as_aux_lemma => kernel_rfl)
theorem s25_1 : GS 25 true := fun s h => (by as_aux_lemma => kernel_rfl)
theorem n33 : chN 33 = true := (by as_aux_lemma => kernel_rfl)
theorem a33 : G1 33 := fun s h => (by as_aux_lemma => kernel_rfl)
theorem b33 : G2 33 := fun s h => (by as_aux_lemma => kernel_rfl)
theorem c33 : G3 33 := fun s h => (by as_aux_lemma => kernel_rfl)
theorem s33_0 : GS 33 false := fun s h => (by as_aux_lemma => kernel_rfl)
theorem s33_1 : GS 33 true := fun s h => (by as_aux_lemma => kernel_rfl)
theorem all0 : ∀ q ∈ cs0, chN q = true ∧ G1 q ∧ G2 q ∧ G3 q ∧ ∀ b, GS q b := allC (G := fun q : Nat => chN q = true ∧ G1 q ∧ G2 q ∧ G3 q ∧ ∀ b, GS q b) ⟨n1, a1, b1, c1, fun b => (match b with | false => s1_0 | true => s1_1)⟩ (allC (G := fun q : Nat => chN q = true ∧ G1 q ∧ G2 q ∧ G3 q ∧ ∀ b, GS q b) ⟨n9, a9, b9, c9, fun b => (match b with | false => s9_0 | true => s9_1)⟩ (allC (G := fun q : Nat => chN q = true ∧ G1 q ∧ G2 q ∧ G3 q ∧ ∀ b, GS q b) ⟨n17, a17, b17, c17, fun b => (match b with | false => s17_0 | true => s17_1)⟩ (allC (G := fun q : Nat => chN q = true ∧ G1 q ∧ G2 q ∧ G3 q ∧ ∀ b, GS q b) ⟨n25, a25, b25, c25, fun b => (match b with | false => s25_0 | true => s25_1)⟩ (allC (G := fun q : Nat => chN q = true ∧ G1 q ∧ G2 q ∧ G3 q ∧ ∀ b, GS q b) ⟨n33, a33, b33, c33, fun b => (match b with | false => s33_0 | true => s33_1)⟩ (allNil)))))
end Go.Proofs.YtaajjlnckckkkaaGreatDoor.tm
