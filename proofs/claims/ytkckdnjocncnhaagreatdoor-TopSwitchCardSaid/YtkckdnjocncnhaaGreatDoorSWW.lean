/-
  What the law TopSwitch gives.
-/
import Derived.Test.YtkckdnjocncnhaaGreatDoorSWT0
import Derived.Test.YtkckdnjocncnhaaGreatDoorSWT1
import Derived.Test.YtkckdnjocncnhaaGreatDoorSWT2
import Derived.Test.YtkckdnjocncnhaaGreatDoorSWT3
import Derived.Test.YtkckdnjocncnhaaGreatDoorSWT4
import Derived.Test.YtkckdnjocncnhaaGreatDoorSWT5
import Derived.Test.YtkckdnjocncnhaaGreatDoorSWT6
set_option linter.unusedVariables false
namespace Go.Proofs.YtkckdnjocncnhaaGreatDoor.sw
open Go.X Go.RowKit
theorem walk (a0 : Int) (w : World) : Calls Tryz.prog 4 #[.int .i64 a0] w fun e w' => e = .returned (.bool true) ∧ Below w.heap.size w w' := by
  have lo : -100 < a0.tmod 100 := tmod_lo (by decide)
  have hi : a0.tmod 100 < 100 := tmod_hi (by decide)
  by_cases c0 : a0.tmod 100 = 0
  · exact yes0 c0 w
  by_cases c1 : a0.tmod 100 = 1
  · exact yes1 c1 w
  by_cases c2 : a0.tmod 100 = 2
  · exact yes2 c2 w
  by_cases c3 : a0.tmod 100 = -5
  · exact yes3 c3 w
  by_cases c4 : a0.tmod 100 = 7
  · exact yes4 c4 w
  by_cases c5 : a0.tmod 100 < 0
  · exact yes6 (r := a0.tmod 100) rfl lo c5 c3 w
  · exact yes5 (r := a0.tmod 100) rfl (by omega) hi c4 w
end Go.Proofs.YtkckdnjocncnhaaGreatDoor.sw
