/-
  What the law ClassNone gives.
-/
import Derived.Test.YtdlcefbpckieeaaGreatDoorCNA
import Derived.Test.YtdlcefbpckieeaaGreatDoorRows
namespace Go.Proofs.YtdlcefbpckieeaaGreatDoor
open Go.RowKit
theorem none_walk (w : World) (_ : laidMetH Tryz.prog Rows.classNoneRow.laid w) : Calls Tryz.prog 3 #[] w fun e w' => e = .returned (.bool true) ∧ Below w.heap.size w w' := by
  letI := X.Tab.empty
  exact A_0_ok.yes rfl (by simp [X.vrels]) w (fun g o a h => by cases h)
end Go.Proofs.YtdlcefbpckieeaaGreatDoor
