/-
  What the law TopSpeaks gives.
-/
import Derived.Test.YtbgkinjicnnkiaaGreatDoorSCM
import Derived.Test.YtbgkinjicnnkiaaGreatDoorSCC
set_option linter.unusedVariables false
namespace Go.Proofs.YtbgkinjicnnkiaaGreatDoor.sc
open Go.X Go.RowKit
theorem walk (a0 : Int) (w : World) : Calls Tryz.prog 5 #[.int .i64 a0] w fun e w' => e = .returned (.bool true) ∧ Below w.heap.size w w' := by
  have l0 : -40 < a0.tmod 40 := tmod_lo (by decide)
  have h0 : a0.tmod 40 < 40 := tmod_hi (by decide)
  by_cases c0 : a0.tmod 40 = 0
  · exact yesC c0 w
  by_cases c : 0 ≤ a0.tmod 40
  · exact allp (a0.tmod 40).toNat (by omega) (by omega) (by omega) w
  · exact alln (-(a0.tmod 40)).toNat (by omega) (by omega) (by omega) w
end Go.Proofs.YtbgkinjicnnkiaaGreatDoor.sc
