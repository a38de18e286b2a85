/-
  What the law TopFuel gives.
-/
import Derived.Test.YtedimikdpclpnaaGreatDoorFUR
set_option linter.unusedVariables false
namespace Go.Proofs.YtedimikdpclpnaaGreatDoor.fu
open Go.X Go.RowKit
theorem walk (a0 a1 : Int) (w : World) : Calls Tryz.prog 6 #[.int .i64 a0, .int .i64 a1] w fun e w' => e = .returned (.bool true) ∧ Below w.heap.size w w' := by
  have l0 : -100 < a0.tmod 100 := tmod_lo (by decide)
  have h0 : a0.tmod 100 < 100 := tmod_hi (by decide)
  have l1 : -1000 < a1.tmod 1000 := tmod_lo (by decide)
  have h1 : a1.tmod 1000 < 1000 := tmod_hi (by decide)
  by_cases c0 : 0 ≤ a0.tmod 100
  · by_cases c1 : 0 ≤ a1.tmod 1000
    · exact yespp (x := a0.tmod 100) (f := a1.tmod 1000) (r := -(a0.tmod 100)) (t := -(a1.tmod 1000)) rfl rfl c0 h0 c1 h1 rfl rfl w
    · exact yespn (x := a0.tmod 100) (f := -(a1.tmod 1000)) (r := -(a0.tmod 100)) (t := a1.tmod 1000) rfl rfl c0 h0 (by omega) (by omega) rfl (by omega) (by omega) w
  · by_cases c1 : 0 ≤ a1.tmod 1000
    · exact yesnp (x := -(a0.tmod 100)) (f := a1.tmod 1000) (r := a0.tmod 100) (t := -(a1.tmod 1000)) rfl rfl (by omega) (by omega) c1 h1 (by omega) rfl (by omega) w
    · exact yesnn (x := -(a0.tmod 100)) (f := -(a1.tmod 1000)) (r := a0.tmod 100) (t := a1.tmod 1000) rfl rfl (by omega) (by omega) (by omega) (by omega) (by omega) (by omega) (by omega) (by omega) w
end Go.Proofs.YtedimikdpclpnaaGreatDoor.fu
