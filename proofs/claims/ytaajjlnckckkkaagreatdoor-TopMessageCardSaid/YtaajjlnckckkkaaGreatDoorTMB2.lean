/-
  What the law TopMessage gives: its runs.
-/
import Derived.Test.YtaajjlnckckkkaaGreatDoorTMA
set_option linter.unusedSectionVars false
set_option linter.unusedVariables false
set_option maxRecDepth 1000000
set_option maxHeartbeats 0
namespace Go.Proofs.YtaajjlnckckkkaaGreatDoor.tm
open Go.X Go.RowKit Go.X.chars8
abbrev cs2 : List Nat := [3, 11, 19, 27, 35]
theorem n3 : chN 3 = true := (by as_aux_lemma => kernel_rfl)
theorem a3 : G1 3 := fun s h => (by as_aux_lemma => kernel_rfl)
theorem b3 : G2 3 := fun s h => (by as_aux_lemma => kernel_rfl)
theorem c3 : G3 3 := fun s h => (by as_aux_lemma => kernel_rfl)
theorem s3_0 : GS 3 false := fun s h => (by as_aux_lemma => kernel_rfl)
theorem s3_1 : GS 3 true := fun s h => (by as_aux_lemma => kernel_rfl)
theorem n11 : chN 11 = true := (by as_aux_lemma => kernel_rfl)
theorem a11 : G1 11 := fun s h => (by as_aux_lemma => kernel_rfl)
theorem b11 : G2 11 := fun s h => (by as_aux_lemma => kernel_rfl)
theorem c11 : G3 11 := fun s h => (by as_aux_lemma => kernel_rfl)
theorem s11_0 : GS 11 false := fun s h => (by as_aux_lemma => kernel_rfl)
theorem s11_1 : GS 11 true := fun s h => (by as_aux_lemma => kernel_rfl)
theorem n19 : chN 19 = true := (by as_aux_lemma => kernel_rfl)
theorem a19 : G1 19 := fun s h => (by as_aux_lemma => kernel_rfl)
theorem b19 : G2 19 := fun s h => (by as_aux_lemma => kernel_rfl)
theorem c19 : G3 19 := fun s h => (by as_aux_lemma => kernel_rfl)
theorem s19_0 : GS 19 false := fun s h => (by as_aux_lemma => kernel_rfl)
theorem s19_1 : GS 19 true := fun s h => (by as_aux_lemma => kernel_rfl)
theorem n27 : chN 27 = true := (by as_aux_lemma => kernel_rfl)
theorem a27 : G1 27 := fun s h => (by as_aux_lemma => kernel_rfl)
theorem b27 : G2 27 := fun s h => (by as_aux_lemma => kernel_rfl)
theorem c27 : G3 27 := fun s h => (by as_aux_lemma => kernel_rfl)
theorem s27_0 : GS 27 false := fun s h => (by as_aux_lemma => kernel_rfl)
theorem s27_1 : GS 27 true := fun s h => (by as_aux_lemma => kernel_rfl)
theorem n35 : chN 35 = true := (by as_aux_lemma => kernel_rfl)
theorem a35 : G1 35 := fun s h => (by as_aux_lemma => kernel_rfl)
theorem b35 : G2 35 := fun s h => (by as_aux_lemma => kernel_rfl)
theorem c35 : G3 35 := fun s h => (by as_aux_lemma => kernel_rfl)
theorem s35_0 : GS 35 false := fun s h => (by as_aux_lemma => kernel_rfl)
theorem s35_1 : GS 35 true := fun s h => (by as_aux_lemma => kernel_rfl)
theorem all2 : ∀ q ∈ cs2, chN q = true ∧ G1 q ∧ G2 q ∧ G3 q ∧ ∀ b, GS q b := allC (G := fun q : Nat => chN q = true ∧ G1 q ∧ G2 q ∧ G3 q ∧ ∀ b, GS q b) ⟨n3, a3, b3, c3, fun b => (match b with | false => s3_0 | true => s3_1)⟩ (allC (G := fun q : Nat => chN q = true ∧ G1 q ∧ G2 q ∧ G3 q ∧ ∀ b, GS q b) ⟨n11, a11, b11, c11, fun b => (match b with | false => s11_0 | true => s11_1)⟩ (allC (G := fun q : Nat => chN q = true ∧ G1 q ∧ G2 q ∧ G3 q ∧ ∀ b, GS q b) ⟨n19, a19, b19, c19, fun b => (match b with | false => s19_0 | true => s19_1)⟩ (allC (G := fun q : Nat => chN q = true ∧ G1 q ∧ G2 q ∧ G3 q ∧ ∀ b, GS q b) ⟨n27, a27, b27, c27, fun b => (match b with | false => s27_0 | true => s27_1)⟩ (allC (G := fun q : Nat => chN q = true ∧ G1 q ∧ G2 q ∧ G3 q ∧ ∀ b, GS q b) ⟨n35, a35, b35, c35, fun b => (match b with | false => s35_0 | true => s35_1)⟩ (allNil)))))
end Go.Proofs.YtaajjlnckckkkaaGreatDoor.tm
