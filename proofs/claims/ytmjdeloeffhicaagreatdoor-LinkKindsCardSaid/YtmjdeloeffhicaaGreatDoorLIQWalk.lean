/-
  What the law LinkKinds gives.
-/
import Derived.Test.YtmjdeloeffhicaaGreatDoorLIQA
import Derived.Test.YtmjdeloeffhicaaGreatDoorRows
namespace Go.Proofs.YtmjdeloeffhicaaGreatDoor
open Go.RowKit
theorem walkLinkKinds (w : World) (_ : laidMetH Tryz.prog Rows.linkKindsRow.laid w) : Calls Tryz.prog 3 #[] w fun e w' => e = .returned (.bool true) ∧ Below w.heap.size w w' := by
  letI := X.Tab.empty
  exact A_0_ok.yes rfl (by simp [X.vrels]) w (fun g o a h => by cases h)
end Go.Proofs.YtmjdeloeffhicaaGreatDoor
