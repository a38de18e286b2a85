/-
  The law TopHello returns true for all numbers, where the listed variables hold what the text lays. No other condition.
-/
import Derived.Test.YtbgkinjicnnkiaaGreatDoorHLW
import Derived.Test.YtbgkinjicnnkiaaGreatDoorXGoes
import Derived.Test.YtbgkinjicnnkiaaGreatDoorCards
import Derived.Test.YtbgkinjicnnkiaaGreatDoorTie
import Derived.WalkKit
import Derived.ProofKit
import Derived.OpenShut
import Derived.ShutString
import Derived.ChangeOld
import Derived.Below
import Derived.Deep.DeepHandedRow
import Derived.Lib.LaidTab
import Derived.Test.YtbgkinjicnnkiaaGreatDoorHLEnde
import Derived.Test.YtbgkinjicnnkiaaGreatDoorHLEndf
set_option linter.unusedVariables false
namespace Go.Proofs.YtbgkinjicnnkiaaGreatDoor.topHello
open Go.ChangeShapes Go.WideShapes Go.ChangeAt Go.RowKit
open Go.ChangeMaps (open_string shut_string)

set_option maxHeartbeats 0 in
theorem card : Rows.TopHelloCardSaid :=
  Claim7.holds_tied_plain_at .later [] _ _ _ _ said (fun _ h => by cases h) (by as_aux_lemma => kernel_rfl) (fun _ h => by cases h) topHello_row_tie rfl ⟨rfl, rfl⟩ (by as_aux_lemma => kernel_rfl) rfl plain (X.goesNone (by as_aux_lemma => kernel_rfl) rfl)
end Go.Proofs.YtbgkinjicnnkiaaGreatDoor.topHello
