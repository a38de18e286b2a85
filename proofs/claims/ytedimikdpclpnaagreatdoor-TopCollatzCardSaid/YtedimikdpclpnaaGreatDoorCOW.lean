/-
  What the law TopCollatz gives.
-/
import Derived.Test.YtedimikdpclpnaaGreatDoorCOR
set_option linter.unusedVariables false
namespace Go.Proofs.YtedimikdpclpnaaGreatDoor.co
open Go.X Go.RowKit
theorem walk (a0 : Int) (w : World) : Calls Tryz.prog 3 #[.int .i64 a0] w fun e w' => e = .returned (.bool true) ∧ Below w.heap.size w w' := by
  have lo : -3000 < a0.tmod 3000 := tmod_lo (by decide)
  have hi : a0.tmod 3000 < 3000 := tmod_hi (by decide)
  by_cases c0 : 0 ≤ a0.tmod 3000
  · exact yesp (z := a0) (n := 1 + a0.tmod 3000) (r := a0.tmod 3000) (t := 0) rfl c0 hi rfl w
  · exact yesn (z := a0) (n := 1 + -(a0.tmod 3000)) (r := a0.tmod 3000) (t := -(a0.tmod 3000)) rfl (by omega) lo rfl rfl w
end Go.Proofs.YtedimikdpclpnaaGreatDoor.co
