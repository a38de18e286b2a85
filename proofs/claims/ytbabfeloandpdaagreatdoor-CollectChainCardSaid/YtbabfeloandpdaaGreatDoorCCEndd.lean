/-
  A part of the closing text.
-/
import Derived.Test.YtbabfeloandpdaaGreatDoorXGoes
import Derived.Test.YtbabfeloandpdaaGreatDoorCards
import Derived.Test.YtbabfeloandpdaaGreatDoorTie
import Derived.WalkKit
import Derived.ProofKit
import Derived.OpenShut
import Derived.ShutString
import Derived.ChangeOld
import Derived.Below
import Derived.Deep.DeepHandedRow
import Derived.Lib.LaidTab
set_option linter.unusedVariables false
namespace Go.Proofs.YtbabfeloandpdaaGreatDoor.collectChain
open Go.ChangeShapes Go.WideShapes Go.ChangeAt Go.RowKit
open Go.ChangeMaps (open_string shut_string)

set_option maxHeartbeats 8000000 in
theorem facts : joinedFacts Tryz.pinned.checked.prog 3 Tryz.f3 (OpenSpec.ofChange Rows.collectChainSpec).bare Rows.collectChainRow = true := by
  unfold joinedFacts
  simp only [Bool.and_eq_true]
  repeat' apply And.intro
  all_goals (as_aux_lemma => kernel_rfl)
end Go.Proofs.YtbabfeloandpdaaGreatDoor.collectChain
