/-
  What the law TopSieve gives.
-/
import Derived.Test.YtfkfmjlppllfoaaGreatDoorSVL
set_option linter.unusedVariables false
namespace Go.Proofs.YtfkfmjlppllfoaaGreatDoor.sv
open Go.X Go.RowKit
theorem walk (a0 : Int) (w : World) : Calls Tryz.prog 3 #[.int .i64 a0] w fun e w' => e = .returned (.bool true) ∧ Below w.heap.size w w' := by
  have l0 : -400 < a0.tmod 400 := tmod_lo (by decide)
  have h0 : a0.tmod 400 < 400 := tmod_hi (by decide)
  by_cases c : 0 ≤ a0.tmod 400
  · exact yesp (t := 0) (n := (a0.tmod 400).toNat) rfl c h0 (by omega) w
  · exact yesn (n := (-(a0.tmod 400)).toNat) rfl (by omega) l0 rfl (by omega) w
end Go.Proofs.YtfkfmjlppllfoaaGreatDoor.sv
