/-
  What the law RunNone gives.
-/
import Derived.Test.YtcnghmhngnlgnaaGreatDoorRQA
import Derived.Test.YtcnghmhngnlgnaaGreatDoorRows
namespace Go.Proofs.YtcnghmhngnlgnaaGreatDoor
open Go.RowKit
theorem walkRunNone (w : World) (_ : laidMetH Tryz.prog Rows.runNoneRow.laid w) : Calls Tryz.prog 3 #[] w fun e w' => e = .returned (.bool true) ∧ Below w.heap.size w w' := by
  letI := X.Tab.empty
  exact A_0_ok.yes rfl (by simp [X.vrels]) w ⟨(fun g o a h => by cases h), (fun i m a h => by cases h)⟩
end Go.Proofs.YtcnghmhngnlgnaaGreatDoor
