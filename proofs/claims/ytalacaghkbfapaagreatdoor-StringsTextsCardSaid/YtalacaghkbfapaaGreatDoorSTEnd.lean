/-
  The law StringsTexts returns true for every number and every two slices of chars, where the listed variables hold what the text lays. No other condition.
-/
import Derived.Test.YtalacaghkbfapaaGreatDoorSTL
import Derived.Test.YtalacaghkbfapaaGreatDoorXGoes
import Derived.Test.YtalacaghkbfapaaGreatDoorCards
import Derived.Test.YtalacaghkbfapaaGreatDoorTie
import Derived.WalkKit
import Derived.ProofKit
import Derived.OpenShut
import Derived.ShutString
import Derived.ChangeOld
import Derived.Below
import Derived.Deep.DeepHandedRow
import Derived.Lib.LaidTab
import Derived.Carry
import Derived.Test.YtalacaghkbfapaaGreatDoorSTEnde
import Derived.Test.YtalacaghkbfapaaGreatDoorSTEndf
set_option linter.unusedVariables false
namespace Go.Proofs.YtalacaghkbfapaaGreatDoor.stringsTexts
open Go.ChangeShapes Go.WideShapes Go.ChangeAt Go.RowKit
open Go.ChangeMaps (open_string shut_string)

set_option maxHeartbeats 0 in
theorem card : Rows.StringsTextsCardSaid :=
  Claim7.holds_tied_plain_at .later [] _ _ _ _ said (fun _ h => by cases h) (by as_aux_lemma => kernel_rfl) (fun _ h => by cases h) stringsTexts_row_tie rfl ⟨rfl, rfl⟩ (by as_aux_lemma => kernel_rfl) rfl plain (X.goesNone (by as_aux_lemma => kernel_rfl) rfl)
end Go.Proofs.YtalacaghkbfapaaGreatDoor.stringsTexts
