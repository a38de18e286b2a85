/-
  What the law TopCaught gives.
-/
import Derived.Test.YtkckdnjocncnhaaGreatDoorECT0
import Derived.Test.YtkckdnjocncnhaaGreatDoorECT1
import Derived.Test.YtkckdnjocncnhaaGreatDoorECT2
set_option linter.unusedVariables false
namespace Go.Proofs.YtkckdnjocncnhaaGreatDoor.ec
open Go.X Go.RowKit
theorem quo_bound (r : Int) (h : r ≠ 0) : -100 ≤ (100 : Int).tdiv r ∧ (100 : Int).tdiv r ≤ 100 := by
  have h1 : ((100 : Int).tdiv r).natAbs ≤ 100 := by
    rw [Int.natAbs_tdiv]
    exact Nat.div_le_self _ _
  omega
theorem walk (a0 : Int) (w : World) : Calls Tryz.prog 7 #[.int .i64 a0] w fun e w' => e = .returned (.bool true) ∧ Below w.heap.size w w' := by
  have lo : -1000 < a0.tmod 1000 := tmod_lo (by decide)
  have hi : a0.tmod 1000 < 1000 := tmod_hi (by decide)
  by_cases c0 : a0.tmod 1000 = 0
  · exact yes0 c0 w
  by_cases c1 : a0.tmod 1000 = -1
  · exact yes1 c1 w
  · exact yes2 (r := a0.tmod 1000) rfl lo hi c0 c1 rfl (quo_bound _ c0).1 (quo_bound _ c0).2 rfl w
end Go.Proofs.YtkckdnjocncnhaaGreatDoor.ec
