/-
  What the law TopFib gives.
-/
import Derived.Test.YtfkfmjlppllfoaaGreatDoorFCL
import Derived.Test.YtfkfmjlppllfoaaGreatDoorFCC0
import Derived.Test.YtfkfmjlppllfoaaGreatDoorFCC1
import Derived.Test.YtfkfmjlppllfoaaGreatDoorFCCm
set_option linter.unusedVariables false
namespace Go.Proofs.YtfkfmjlppllfoaaGreatDoor.fc
open Go.X Go.RowKit
theorem walk (a0 : Int) (w : World) : Calls Tryz.prog 8 #[.int .i64 a0] w fun e w' => e = .returned (.bool true) ∧ Below w.heap.size w w' := by
  have l0 : -15 < a0.tmod 15 := tmod_lo (by decide)
  have h0 : a0.tmod 15 < 15 := tmod_hi (by decide)
  by_cases c0 : a0.tmod 15 = 0
  · exact yesC0 c0 w
  by_cases c1 : a0.tmod 15 = 1
  · exact yesC1 c1 w
  by_cases c2 : a0.tmod 15 = -1
  · exact yesCm c2 w
  by_cases c : 0 ≤ a0.tmod 15
  · exact allp (a0.tmod 15) rfl (by omega) h0 w
  · exact alln (-(a0.tmod 15)) (by omega) (by omega) (by omega) w
end Go.Proofs.YtfkfmjlppllfoaaGreatDoor.fc
