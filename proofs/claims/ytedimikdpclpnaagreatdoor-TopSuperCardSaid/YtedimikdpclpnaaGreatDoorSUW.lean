/-
  What the law TopSuper gives.
-/
import Derived.Test.YtedimikdpclpnaaGreatDoorSUT0
set_option linter.unusedVariables false
namespace Go.Proofs.YtedimikdpclpnaaGreatDoor.su
open Go.X Go.RowKit
theorem walk (a0 : Int) (w : World) : Calls Tryz.prog 7 #[.int .i64 a0] w fun e w' => e = .returned (.bool true) ∧ Below w.heap.size w w' :=
  yes0 (r := a0.tmod 1000) rfl (tmod_lo (by decide)) (tmod_hi (by decide)) w
end Go.Proofs.YtedimikdpclpnaaGreatDoor.su
