/-
  What the law TopMessage gives: its runs.
-/
import Derived.Test.YtaajjlnckckkkaaGreatDoorTMA
set_option linter.unusedSectionVars false
set_option linter.unusedVariables false
set_option maxRecDepth 1000000
set_option maxHeartbeats 0
namespace Go.Proofs.YtaajjlnckckkkaaGreatDoor.tm
open Go.X Go.RowKit Go.X.chars8
abbrev cs6 : List Nat := [7, 15, 23, 31, 39]
theorem n7 : chN 7 = true := (by as_aux_lemma => kernel_rfl)
theorem a7 : G1 7 := fun s h => (by as_aux_lemma => kernel_rfl)
theorem b7 : G2 7 := fun s h => (by as_aux_lemma => kernel_rfl)
theorem c7 : G3 7 := fun s h => (by as_aux_lemma => kernel_rfl)
theorem s7_0 : GS 7 false := fun s h => (by as_aux_lemma => kernel_rfl)
theorem s7_1 : GS 7 true := fun s h => (by as_aux_lemma => kernel_rfl)
theorem n15 : chN 15 = true := (by as_aux_lemma => kernel_rfl)
theorem a15 : G1 15 := fun s h => (by as_aux_lemma => kernel_rfl)
theorem b15 : G2 15 := fun s h => (by as_aux_lemma => kernel_rfl)
theorem c15 : G3 15 := fun s h => (by as_aux_lemma => kernel_rfl)
theorem s15_0 : GS 15 false := fun s h => (by as_aux_lemma => kernel_rfl)
theorem s15_1 : GS 15 true := fun s h => (by as_aux_lemma => kernel_rfl)
theorem n23 : chN 23 = true := (by as_aux_lemma => kernel_rfl)
theorem a23 : G1 23 := fun s h => (by as_aux_lemma => kernel_rfl)
theorem b23 : G2 23 := fun s h => (by as_aux_lemma => kernel_rfl)
theorem c23 : G3 23 := fun s h => (by as_aux_lemma => kernel_rfl)
theorem s23_0 : GS 23 false := fun s h => (by as_aux_lemma => kernel_rfl)
theorem s23_1 : GS 23 true := fun s h => (by as_aux_lemma => kernel_rfl)
theorem n31 : chN 31 = true := (by as_aux_lemma => kernel_rfl)
theorem a31 : G1 31 := fun s h => (by as_aux_lemma => kernel_rfl)
theorem b31 : G2 31 := fun s h => (by as_aux_lemma => kernel_rfl)
theorem c31 : G3 31 := fun s h => (by as_aux_lemma => kernel_rfl)
theorem s31_0 : GS 31 false := fun s h => (by as_aux_lemma => kernel_rfl)
theorem s31_1 : GS 31 true := fun s h => (by as_aux_lemma => kernel_rfl)
theorem n39 : chN 39 = true := (by as_aux_lemma => kernel_rfl)
theorem a39 : G1 39 := fun s h => (by as_aux_lemma => kernel_rfl)
theorem b39 : G2 39 := fun s h => (by as_aux_lemma => kernel_rfl)
theorem c39 : G3 39 := fun s h => (by as_aux_lemma => kernel_rfl)
theorem s39_0 : GS 39 false := fun s h => (by as_aux_lemma => kernel_rfl)
theorem s39_1 : GS 39 true := fun s h => (by as_aux_lemma => kernel_rfl)
theorem all6 : ∀ q ∈ cs6, chN q = true ∧ G1 q ∧ G2 q ∧ G3 q ∧ ∀ b, GS q b := allC (G := fun q : Nat => chN q = true ∧ G1 q ∧ G2 q ∧ G3 q ∧ ∀ b, GS q b) ⟨n7, a7, b7, c7, fun b => (match b with | false => s7_0 | true => s7_1)⟩ (allC (G := fun q : Nat => chN q = true ∧ G1 q ∧ G2 q ∧ G3 q ∧ ∀ b, GS q b) ⟨n15, a15, b15, c15, fun b => (match b with | false => s15_0 | true => s15_1)⟩ (allC (G := fun q : Nat => chN q = true ∧ G1 q ∧ G2 q ∧ G3 q ∧ ∀ b, GS q b) ⟨n23, a23, b23, c23, fun b => (match b with | false => s23_0 | true => s23_1)⟩ (allC (G := fun q : Nat => chN q = true ∧ G1 q ∧ G2 q ∧ G3 q ∧ ∀ b, GS q b) ⟨n31, a31, b31, c31, fun b => (match b with | false => s31_0 | true => s31_1)⟩ (allC (G := fun q : Nat => chN q = true ∧ G1 q ∧ G2 q ∧ G3 q ∧ ∀ b, GS q b) ⟨n39, a39, b39, c39, fun b => (match b with | false => s39_0 | true => s39_1)⟩ (allNil)))))
end Go.Proofs.YtaajjlnckckkkaaGreatDoor.tm
