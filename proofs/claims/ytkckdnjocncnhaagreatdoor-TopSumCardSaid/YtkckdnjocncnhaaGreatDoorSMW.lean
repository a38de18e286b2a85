/-
  What the law TopSum gives.
-/
import Derived.Test.YtkckdnjocncnhaaGreatDoorSMT0
import Derived.Test.YtkckdnjocncnhaaGreatDoorSMR
set_option linter.unusedVariables false
namespace Go.Proofs.YtkckdnjocncnhaaGreatDoor.sm
open Go.X Go.RowKit
theorem walk (a0 : Int) (w : World) : Calls Tryz.prog 6 #[.int .i64 a0] w fun e w' => e = .returned (.bool true) ∧ Below w.heap.size w w' := by
  have lo : -3000 < a0.tmod 3000 := tmod_lo (by decide)
  have hi : a0.tmod 3000 < 3000 := tmod_hi (by decide)
  have sq : ∀ x0 : Int, 1 ≤ x0 → x0 < 3000 → 0 ≤ x0 * (x0 + 1) ∧ x0 * (x0 + 1) ≤ 9003000 ∧ 0 ≤ (x0 * (x0 + 1)).tdiv 2 ∧ (x0 * (x0 + 1)).tdiv 2 ≤ 9003000 := fun x0 h1 h2 => by
    have h3 : 0 ≤ x0 * (x0 + 1) := Int.mul_nonneg (by omega) (by omega)
    have h4 : x0 * (x0 + 1) ≤ 3000 * 3001 := Int.mul_le_mul (by omega) (by omega) (by omega) (by omega)
    rw [Int.tdiv_eq_ediv_of_nonneg h3]
    omega
  by_cases c0 : a0.tmod 3000 = 0
  · exact yes0 c0 w
  by_cases c1 : 0 < a0.tmod 3000
  · obtain ⟨s1, s2, s3, s4⟩ := sq (a0.tmod 3000) (by omega) hi
    exact yesP (n := a0) (r := -(a0.tmod 3000)) (x0 := a0.tmod 3000) rfl rfl (by omega) hi rfl s1 s2 s3 s4 w
  · obtain ⟨s1, s2, s3, s4⟩ := sq (-(a0.tmod 3000)) (by omega) (by omega)
    exact yesN (n := a0) (r := a0.tmod 3000) (x0 := -(a0.tmod 3000)) rfl (by omega) (by omega) (by omega) rfl s1 s2 s3 s4 w
end Go.Proofs.YtkckdnjocncnhaaGreatDoor.sm
