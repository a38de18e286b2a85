/-
  What the law TopSort gives.
-/
import Derived.Test.YtaabcpibfignfaaGreatDoorSOL
set_option linter.unusedVariables false
namespace Go.Proofs.YtaabcpibfignfaaGreatDoor.so
open Go.X Go.RowKit
theorem walk (a0 a1 : Int) (w : World) : Calls Tryz.prog 3 #[.int .i64 a0, .int .i64 a1] w fun e w' => e = .returned (.bool true) ∧ Below w.heap.size w w' := by
  have l0 : -25 < a0.tmod 25 := tmod_lo (by decide)
  have h0 : a0.tmod 25 < 25 := tmod_hi (by decide)
  have l1 : -1000 < a1.tmod 1000 := tmod_lo (by decide)
  have h1 : a1.tmod 1000 < 1000 := tmod_hi (by decide)
  by_cases c : 0 ≤ a0.tmod 25
  · by_cases d : 0 ≤ a1.tmod 1000
    · exact yespp (n := (a0.tmod 25).toNat) (y := (a1.tmod 1000).toNat) rfl rfl l0 h0 l1 h1 c d (by omega) (by omega) w
    · exact yespn (n := (a0.tmod 25).toNat) (y := (-(a1.tmod 1000)).toNat) rfl rfl l0 h0 l1 h1 c (by omega) (by omega) (by omega) w
  · by_cases d : 0 ≤ a1.tmod 1000
    · exact yesnp (n := (-(a0.tmod 25)).toNat) (y := (a1.tmod 1000).toNat) rfl rfl l0 h0 l1 h1 (by omega) d (by omega) (by omega) w
    · exact yesnn (n := (-(a0.tmod 25)).toNat) (y := (-(a1.tmod 1000)).toNat) rfl rfl l0 h0 l1 h1 (by omega) (by omega) (by omega) (by omega) w
end Go.Proofs.YtaabcpibfignfaaGreatDoor.so
