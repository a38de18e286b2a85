/-
  What the law TopMessage gives.
-/
import Derived.Test.YtaajjlnckckkkaaGreatDoorTMV
set_option linter.unusedVariables false
namespace Go.Proofs.YtaajjlnckckkkaaGreatDoor.tm
open Go.X Go.RowKit
end Go.Proofs.YtaajjlnckckkkaaGreatDoor.tm
