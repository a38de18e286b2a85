/-
  What the law TopCopy gives.
-/
import Derived.Test.YthgncmohimdbmaaGreatDoorCPD
set_option linter.unusedVariables false
namespace Go.Proofs.YthgncmohimdbmaaGreatDoor.cy
open Go.X Go.RowKit
end Go.Proofs.YthgncmohimdbmaaGreatDoor.cy
