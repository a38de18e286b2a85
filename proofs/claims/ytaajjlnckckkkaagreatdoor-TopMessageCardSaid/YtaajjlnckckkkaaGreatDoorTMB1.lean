/-
  What the law TopMessage gives: its runs.
-/
import Derived.Test.YtaajjlnckckkkaaGreatDoorTMA
set_option linter.unusedSectionVars false
set_option linter.unusedVariables false
set_option maxRecDepth 1000000
set_option maxHeartbeats 0
namespace Go.Proofs.YtaajjlnckckkkaaGreatDoor.tm
open Go.X Go.RowKit Go.X.chars8
abbrev cs1 : List Nat := [2, 10, 18, 26, 34]
theorem n2 : chN 2 = true := (by as_aux_lemma => kernel_rfl)
theorem a2 : G1 2 := fun s h => (by as_aux_lemma => kernel_rfl)
theorem b2 : G2 2 := fun s h => (by as_aux_lemma => kernel_rfl)
theorem c2 : G3 2 := fun s h => (by as_aux_lemma => kernel_rfl)
theorem s2_0 : GS 2 false := fun s h => (by as_aux_lemma => kernel_rfl)
theorem s2_1 : GS 2 true := fun s h => (by as_aux_lemma => kernel_rfl)
theorem n10 : chN 10 = true := (by as_aux_lemma => kernel_rfl)
theorem a10 : G1 10 := fun s h => (by as_aux_lemma => kernel_rfl)
theorem b10 : G2 10 := fun s h => (by as_aux_lemma => kernel_rfl)
theorem c10 : G3 10 := fun s h => (by as_aux_lemma => kernel_rfl)
theorem s10_0 : GS 10 false := fun s h => (by as_aux_lemma => kernel_rfl)
theorem s10_1 : GS 10 true := fun s h => (by as_aux_lemma => kernel_rfl)
theorem n18 : chN 18 = true := (by as_aux_lemma => kernel_rfl)
theorem a18 : G1 18 := fun s h => (by as_aux_lemma => kernel_rfl)
theorem b18 : G2 18 := fun s h => (by as_aux_lemma => kernel_rfl)
theorem c18 : G3 18 := fun s h => (by as_aux_lemma => kernel_rfl)
theorem s18_0 : GS 18 false := fun s h => (by as_aux_lemma => kernel_rfl)
theorem s18_1 : GS 18 true := fun s h => (by as_aux_lemma => kernel_rfl)
theorem n26 : chN 26 = true := (by as_aux_lemma => kernel_rfl)
theorem a26 : G1 26 := fun s h => (by as_aux_lemma => kernel_rfl)
theorem b26 : G2 26 := fun s h => (by as_aux_lemma => kernel_rfl)
theorem c26 : G3 26 := fun s h => (by as_aux_lemma => kernel_rfl)
theorem s26_0 : GS 26 false := fun s h => (by as_aux_lemma => kernel_rfl)
theorem s26_1 : GS 26 true := fun s h => (by as_aux_lemma => kernel_rfl)
theorem n34 : chN 34 = true := (by as_aux_lemma => kernel_rfl)
theorem a34 : G1 34 := fun s h => (by as_aux_lemma => kernel_rfl)
theorem b34 : G2 34 := fun s h => (by as_aux_lemma => kernel_rfl)
theorem c34 : G3 34 := fun s h => (by as_aux_lemma => kernel_rfl)
theorem s34_0 : GS 34 false := fun s h => (by as_aux_lemma => kernel_rfl)
theorem s34_1 : GS 34 true := fun s h => (by as_aux_lemma => kernel_rfl)
theorem all1 : ∀ q ∈ cs1, chN q = true ∧ G1 q ∧ G2 q ∧ G3 q ∧ ∀ b, GS q b := allC (G := fun q : Nat => chN q = true ∧ G1 q ∧ G2 q ∧ G3 q ∧ ∀ b, GS q b) ⟨n2, a2, b2, c2, fun b => (match b with | false => s2_0 | true => s2_1)⟩ (allC (G := fun q : Nat => chN q = true ∧ G1 q ∧ G2 q ∧ G3 q ∧ ∀ b, GS q b) ⟨n10, a10, b10, c10, fun b => (match b with | false => s10_0 | true => s10_1)⟩ (allC (G := fun q : Nat => chN q = true ∧ G1 q ∧ G2 q ∧ G3 q ∧ ∀ b, GS q b) ⟨n18, a18, b18, c18, fun b => (match b with | false => s18_0 | true => s18_1)⟩ (allC (G := fun q : Nat => chN q = true ∧ G1 q ∧ G2 q ∧ G3 q ∧ ∀ b, GS q b) ⟨n26, a26, b26, c26, fun b => (match b with | false => s26_0 | true => s26_1)⟩ (allC (G := fun q : Nat => chN q = true ∧ G1 q ∧ G2 q ∧ G3 q ∧ ∀ b, GS q b) ⟨n34, a34, b34, c34, fun b => (match b with | false => s34_0 | true => s34_1)⟩ (allNil)))))
end Go.Proofs.YtaajjlnckckkkaaGreatDoor.tm
