/-
  What the law TopLongs gives.
-/
import Derived.Test.YthgncmohimdbmaaGreatDoorLGB
set_option linter.unusedVariables false
namespace Go.Proofs.YthgncmohimdbmaaGreatDoor.lg
open Go.X Go.RowKit
theorem walk (a0 : Int) (w0 : (Lit.int .i64 a0).wf = true) (a1 : Int) (w1 : (Lit.int .i64 a1).wf = true) (a2 : Int) (w2 : (Lit.int .i64 a2).wf = true) (w : World) : Calls Tryz.prog 4 #[.int .i64 a0, .int .i64 a1, .int .i64 a2] w fun e w' => e = .returned (.bool true) ∧ Below w.heap.size w w' := by
  have key : ∀ x : Int, (Lit.int .i64 x).wf = true → -9223372036854775808 ≤ x ∧ x ≤ 9223372036854775807 := by
    intro x h
    simp only [Lit.wf, Bool.and_eq_true, decide_eq_true_eq] at h
    exact h
  obtain ⟨h1, h2⟩ := key _ w0
  obtain ⟨h3, h4⟩ := key _ w1
  obtain ⟨h5, h6⟩ := key _ w2
  by_cases c : a0 = a1
  · subst c
    exact yes1 h1 h2 h5 h6 w
  · exact yes0 h1 h2 h3 h4 h5 h6 c w
end Go.Proofs.YthgncmohimdbmaaGreatDoor.lg
