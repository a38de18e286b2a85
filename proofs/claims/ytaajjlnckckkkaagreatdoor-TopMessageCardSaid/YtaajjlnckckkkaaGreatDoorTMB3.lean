/-
  What the law TopMessage gives: its runs.
-/
import Derived.Test.YtaajjlnckckkkaaGreatDoorTMA
set_option linter.unusedSectionVars false
set_option linter.unusedVariables false
set_option maxRecDepth 1000000
set_option maxHeartbeats 0
namespace Go.Proofs.YtaajjlnckckkkaaGreatDoor.tm
open Go.X Go.RowKit Go.X.chars8
abbrev cs3 : List Nat := [4, 12, 20, 28, 36]
theorem n4 : chN 4 = true := (by as_aux_lemma => kernel_rfl)
theorem a4 : G1 4 := fun s h => (by as_aux_lemma => kernel_rfl)
theorem b4 : G2 4 := fun s h => (by as_aux_lemma => kernel_rfl)
theorem c4 : G3 4 := fun s h => (by as_aux_lemma => kernel_rfl)
theorem s4_0 : GS 4 false := fun s h => (by as_aux_lemma => kernel_rfl)
theorem s4_1 : GS 4 true := fun s h => (by as_aux_lemma => kernel_rfl)
theorem n12 : chN 12 = true := (by as_aux_lemma => kernel_rfl)
theorem a12 : G1 12 := fun s h => (by as_aux_lemma => kernel_rfl)
theorem b12 : G2 12 := fun s h => (by as_aux_lemma => kernel_rfl)
theorem c12 : G3 12 := fun s h => (by as_aux_lemma => kernel_rfl)
theorem s12_0 : GS 12 false := fun s h => (by as_aux_lemma => kernel_rfl)
theorem s12_1 : GS 12 true := fun s h => (by as_aux_lemma => kernel_rfl)
theorem n20 : chN 20 = true := (by as_aux_lemma => kernel_rfl)
theorem a20 : G1 20 := fun s h => (by as_aux_lemma => kernel_rfl)
theorem b20 : G2 20 := fun s h => (by as_aux_lemma => kernel_rfl)
theorem c20 : G3 20 := fun s h => (by as_aux_lemma => kernel_rfl)
theorem s20_0 : GS 20 false := fun s h => (by as_aux_lemma => kernel_rfl)
theorem s20_1 : GS 20 true := fun s h => (by as_aux_lemma => kernel_rfl)
theorem n28 : chN 28 = true := (by as_aux_lemma => kernel_rfl)
theorem a28 : G1 28 := fun s h => (by as_aux_lemma => kernel_rfl)
theorem b28 : G2 28 := fun s h => (by as_aux_lemma => kernel_rfl)
theorem c28 : G3 28 := fun s h => (by as_aux_lemma => kernel_rfl)
theorem s28_0 : GS 28 false := fun s h => (by as_aux_lemma => kernel_rfl)
theorem s28_1 : GS 28 true := fun s h => (by as_aux_lemma => kernel_rfl)
theorem n36 : chN 36 = true := (by as_aux_lemma => kernel_rfl)
theorem a36 : G1 36 := fun s h => (by as_aux_lemma => kernel_rfl)
theorem b36 : G2 36 := fun s h => (by as_aux_lemma => kernel_rfl)
theorem c36 : G3 36 := fun s h => (by as_aux_lemma => kernel_rfl)
theorem s36_0 : GS 36 false := fun s h => (by as_aux_lemma => kernel_rfl)
theorem s36_1 : GS 36 true := fun s h => (by as_aux_lemma => kernel_rfl)
theorem all3 : ∀ q ∈ cs3, chN q = true ∧ G1 q ∧ G2 q ∧ G3 q ∧ ∀ b, GS q b := allC (G := fun q : Nat => chN q = true ∧ G1 q ∧ G2 q ∧ G3 q ∧ ∀ b, GS q b) ⟨n4, a4, b4, c4, fun b => (match b with | false => s4_0 | true => s4_1)⟩ (allC (G := fun q : Nat => chN q = true ∧ G1 q ∧ G2 q ∧ G3 q ∧ ∀ b, GS q b) ⟨n12, a12, b12, c12, fun b => (match b with | false => s12_0 | true => s12_1)⟩ (allC (G := fun q : Nat => chN q = true ∧ G1 q ∧ G2 q ∧ G3 q ∧ ∀ b, GS q b) ⟨n20, a20, b20, c20, fun b => (match b with | false => s20_0 | true => s20_1)⟩ (allC (G := fun q : Nat => chN q = true ∧ G1 q ∧ G2 q ∧ G3 q ∧ ∀ b, GS q b) ⟨n28, a28, b28, c28, fun b => (match b with | false => s28_0 | true => s28_1)⟩ (allC (G := fun q : Nat => chN q = true ∧ G1 q ∧ G2 q ∧ G3 q ∧ ∀ b, GS q b) ⟨n36, a36, b36, c36, fun b => (match b with | false => s36_0 | true => s36_1)⟩ (allNil)))))
end Go.Proofs.YtaajjlnckckkkaaGreatDoor.tm
