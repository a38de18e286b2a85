/-
  A part of the closing text.
-/
import Derived.Test.YtifdjfcakkdgeaaGreatDoorXGoes
import Derived.Test.YtifdjfcakkdgeaaGreatDoorCards
import Derived.Test.YtifdjfcakkdgeaaGreatDoorTie
import Derived.WalkKit
import Derived.ProofKit
import Derived.OpenShut
import Derived.ShutString
import Derived.ChangeOld
import Derived.Below
import Derived.Deep.DeepHandedRow
import Derived.Lib.LaidTab
import Derived.Carry
set_option linter.unusedVariables false
namespace Go.Proofs.YtifdjfcakkdgeaaGreatDoor.stringsAll
open Go.ChangeShapes Go.WideShapes Go.ChangeAt Go.RowKit
open Go.ChangeMaps (open_string shut_string)

set_option maxHeartbeats 8000000 in
theorem facts : joinedFacts Tryz.pinned.checked.prog 3 Tryz.f3 (OpenSpec.ofChange Rows.stringsAllSpec).bare Rows.stringsAllRow = true := by
  unfold joinedFacts
  simp only [Bool.and_eq_true]
  repeat' apply And.intro
  all_goals (as_aux_lemma => kernel_rfl)
end Go.Proofs.YtifdjfcakkdgeaaGreatDoor.stringsAll
