/-
  What the law TopMutual gives.
-/
import Derived.Test.YtfkfmjlppllfoaaGreatDoorMZL
import Derived.Test.YtfkfmjlppllfoaaGreatDoorMZC0
import Derived.Test.YtfkfmjlppllfoaaGreatDoorMZC1
import Derived.Test.YtfkfmjlppllfoaaGreatDoorMZCm
set_option linter.unusedVariables false
namespace Go.Proofs.YtfkfmjlppllfoaaGreatDoor.mz
open Go.X Go.RowKit
theorem walk (a0 : Int) (w : World) : Calls Tryz.prog 5 #[.int .i64 a0] w fun e w' => e = .returned (.bool true) ∧ Below w.heap.size w w' := by
  have l0 : -150 < a0.tmod 150 := tmod_lo (by decide)
  have h0 : a0.tmod 150 < 150 := tmod_hi (by decide)
  by_cases c0 : a0.tmod 150 = 0
  · exact yesC0 c0 w
  by_cases c1 : a0.tmod 150 = 1
  · exact yesC1 c1 w
  by_cases c2 : a0.tmod 150 = -1
  · exact yesCm c2 w
  by_cases c : 0 ≤ a0.tmod 150
  · exact yesp (x := a0.tmod 150) (r := -(a0.tmod 150)) rfl (by omega) h0 rfl w
  · exact yesn (x := -(a0.tmod 150)) (r := a0.tmod 150) rfl (by omega) (by omega) (by omega) w
end Go.Proofs.YtfkfmjlppllfoaaGreatDoor.mz
