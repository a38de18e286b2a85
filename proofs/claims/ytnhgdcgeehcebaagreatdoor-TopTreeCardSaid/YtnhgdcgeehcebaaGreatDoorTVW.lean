/-
  What the law TopTree gives.
-/
import Derived.Test.YtnhgdcgeehcebaaGreatDoorTVO
set_option linter.unusedVariables false
namespace Go.Proofs.YtnhgdcgeehcebaaGreatDoor.tv
open Go.X Go.RowKit
theorem walk (a0:Int) (w:World):Calls Tryz.prog 3 #[.int .i64 a0] w fun e w'=>e = .returned (.bool true)∧Below w.heap.size w w':=by
  have l0 : -9<a0.tmod 9:=tmod_lo (by decide)
  have h0:a0.tmod 9<9:=tmod_hi (by decide)
  by_cases c0:a0.tmod 9=0
  · exact yesC0 c0 w
  by_cases c:0≤a0.tmod 9
  · exact allp (a0.tmod 9) rfl (by omega) h0 w
  · exact alln (-(a0.tmod 9)) (by omega) (by omega) (by omega) w
end Go.Proofs.YtnhgdcgeehcebaaGreatDoor.tv
