/-
  What the law TopMatrix gives.
-/
import Derived.Test.YthgncmohimdbmaaGreatDoorMXL
set_option linter.unusedVariables false
namespace Go.Proofs.YthgncmohimdbmaaGreatDoor.mx
open Go.X Go.RowKit
theorem walk (a0 a1 : Int) (w : World) : Calls Tryz.prog 3 #[.int .i64 a0, .int .i64 a1] w fun e w' => e = .returned (.bool true) ∧ Below w.heap.size w w' := by
  have l0 : -20 < a0.tmod 20 := tmod_lo (by decide)
  have h0 : a0.tmod 20 < 20 := tmod_hi (by decide)
  have l1 : -20 < a1.tmod 20 := tmod_lo (by decide)
  have h1 : a1.tmod 20 < 20 := tmod_hi (by decide)
  by_cases c : 0 ≤ a0.tmod 20
  · by_cases d : 0 ≤ a1.tmod 20
    · exact yespp (n := (a0.tmod 20).toNat) (y := (a1.tmod 20).toNat) rfl rfl l0 h0 l1 h1 c d (by omega) (by omega) w
    · exact yespn (n := (a0.tmod 20).toNat) (y := (-(a1.tmod 20)).toNat) rfl rfl l0 h0 l1 h1 c (by omega) (by omega) (by omega) w
  · by_cases d : 0 ≤ a1.tmod 20
    · exact yesnp (n := (-(a0.tmod 20)).toNat) (y := (a1.tmod 20).toNat) rfl rfl l0 h0 l1 h1 (by omega) d (by omega) (by omega) w
    · exact yesnn (n := (-(a0.tmod 20)).toNat) (y := (-(a1.tmod 20)).toNat) rfl rfl l0 h0 l1 h1 (by omega) (by omega) (by omega) (by omega) w
end Go.Proofs.YthgncmohimdbmaaGreatDoor.mx
