/-
  What the law TopMarks gives.
-/
import Derived.Test.YtedimikdpclpnaaGreatDoorMAR
set_option linter.unusedVariables false
namespace Go.Proofs.YtedimikdpclpnaaGreatDoor.ma
open Go.X Go.RowKit
theorem walk (a0 : Int) (w : World) : Calls Tryz.prog 8 #[.int .i64 a0] w fun e w' => e = .returned (.bool true) ∧ Below w.heap.size w w' := by
  have lo : -10 < a0.tmod 10 := tmod_lo (by decide)
  have hi : a0.tmod 10 < 10 := tmod_hi (by decide)
  by_cases c0 : 0 ≤ a0.tmod 10
  · exact yesp (z := a0) (x := a0.tmod 10) (r := 0) rfl c0 hi w
  · exact yesn (z := a0) (x := -(a0.tmod 10)) (r := a0.tmod 10) rfl (by omega) lo rfl w
end Go.Proofs.YtedimikdpclpnaaGreatDoor.ma
