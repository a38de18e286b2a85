/-
  What the law TableNone gives.
-/
import Derived.Test.YtlmpedjbceegnaaGreatDoorTAQA
import Derived.Test.YtlmpedjbceegnaaGreatDoorRows
namespace Go.Proofs.YtlmpedjbceegnaaGreatDoor
open Go.RowKit
theorem walkTableNone (w : World) (_ : laidMetH Tryz.prog Rows.tableNoneRow.laid w) : Calls Tryz.prog 3 #[] w fun e w' => e = .returned (.bool true) ∧ Below w.heap.size w w' := by
  letI := X.Tab.empty
  exact A_0_ok.yes rfl (by simp [X.vrels]) w (fun g o a h => by cases h)
end Go.Proofs.YtlmpedjbceegnaaGreatDoor
