/-
  What the law TopStatics gives.
-/
import Derived.Test.YtkckdnjocncnhaaGreatDoorSTR
set_option linter.unusedVariables false
namespace Go.Proofs.YtkckdnjocncnhaaGreatDoor.st
open Go.X Go.RowKit
theorem walk (a0 a1 : Int) (w : World) : Calls Tryz.prog 8 #[.int .i64 a0, .int .i64 a1] w fun e w' => e = .returned (.bool true) ∧ Below w.heap.size w w' := by
  have l0 : -20 < a0.tmod 20 := tmod_lo (by decide)
  have h0 : a0.tmod 20 < 20 := tmod_hi (by decide)
  have l1 : -1000 < a1.tmod 1000 := tmod_lo (by decide)
  have h1 : a1.tmod 1000 < 1000 := tmod_hi (by decide)
  by_cases c0 : 0 ≤ a0.tmod 20
  · exact yesp (x := a0.tmod 20) (nn := 1 + a0.tmod 20) (y := a1.tmod 1000) (r := -(a0.tmod 20)) rfl rfl c0 rfl (by omega) l1 h1 rfl w
  · exact yesn (x := -(a0.tmod 20)) (nn := 1 + -(a0.tmod 20)) (y := a1.tmod 1000) (r := a0.tmod 20) rfl rfl (by omega) rfl (by omega) l1 h1 (by omega) (by omega) w
end Go.Proofs.YtkckdnjocncnhaaGreatDoor.st
