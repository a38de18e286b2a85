/-
  What the law TopUnwind gives.
-/
import Derived.Test.YtfkfmjlppllfoaaGreatDoorUCL
set_option linter.unusedVariables false
namespace Go.Proofs.YtfkfmjlppllfoaaGreatDoor.uc
open Go.X Go.RowKit
theorem walk (a0 a1 : Int) (w : World) : Calls Tryz.prog 4 #[.int .i64 a0, .int .i64 a1] w fun e w' => e = .returned (.bool true) ∧ Below w.heap.size w w' := by
  have l0 : -60 < a0.tmod 60 := tmod_lo (by decide)
  have h0 : a0.tmod 60 < 60 := tmod_hi (by decide)
  have l1 : -80 < a1.tmod 80 := tmod_lo (by decide)
  have h1 : a1.tmod 80 < 80 := tmod_hi (by decide)
  by_cases c : 0 ≤ a0.tmod 60
  · by_cases d : 0 ≤ a1.tmod 80
    · exact yespp rfl rfl l0 h0 l1 h1 c d w
    · exact yespn rfl rfl l0 h0 l1 h1 c (by omega) w
  · by_cases d : 0 ≤ a1.tmod 80
    · exact yesnp rfl rfl l0 h0 l1 h1 (by omega) d w
    · exact yesnn rfl rfl l0 h0 l1 h1 (by omega) (by omega) w
end Go.Proofs.YtfkfmjlppllfoaaGreatDoor.uc
