/-
  What the law TopGcd gives.
-/
import Derived.Test.YtkckdnjocncnhaaGreatDoorGCR
set_option linter.unusedVariables false
namespace Go.Proofs.YtkckdnjocncnhaaGreatDoor.gc
open Go.X Go.RowKit
theorem walk (a0 a1 : Int) (w : World) : Calls Tryz.prog 3 #[.int .i64 a0, .int .i64 a1] w fun e w' => e = .returned (.bool true) ∧ Below w.heap.size w w' := by
  have l0 : -1073741824 < a0.tmod 1073741824 := tmod_lo (by decide)
  have h0 : a0.tmod 1073741824 < 1073741824 := tmod_hi (by decide)
  have l1 : -1073741824 < a1.tmod 1073741824 := tmod_lo (by decide)
  have h1 : a1.tmod 1073741824 < 1073741824 := tmod_hi (by decide)
  by_cases c0 : 0 ≤ a0.tmod 1073741824
  · by_cases c1 : 0 ≤ a1.tmod 1073741824
    · exact yespp (x := a0.tmod 1073741824) (y := a1.tmod 1073741824) (r := -(a0.tmod 1073741824)) (t := -(a1.tmod 1073741824)) rfl rfl c0 h0 c1 h1 rfl rfl (by omega) w
    · exact yespn (x := a0.tmod 1073741824) (y := -(a1.tmod 1073741824)) (r := -(a0.tmod 1073741824)) (t := a1.tmod 1073741824) rfl rfl c0 h0 (by omega) (by omega) rfl (by omega) (by omega) (by omega) w
  · by_cases c1 : 0 ≤ a1.tmod 1073741824
    · exact yesnp (x := -(a0.tmod 1073741824)) (y := a1.tmod 1073741824) (r := a0.tmod 1073741824) (t := -(a1.tmod 1073741824)) rfl rfl (by omega) (by omega) c1 h1 (by omega) rfl (by omega) (by omega) w
    · exact yesnn (x := -(a0.tmod 1073741824)) (y := -(a1.tmod 1073741824)) (r := a0.tmod 1073741824) (t := a1.tmod 1073741824) rfl rfl (by omega) (by omega) (by omega) (by omega) (by omega) (by omega) (by omega) (by omega) (by omega) w
end Go.Proofs.YtkckdnjocncnhaaGreatDoor.gc
