/-
  The law NativeString returns true for every two slices of chars and every number. No other condition.
-/
import Derived.Test.YtkkaifeiopjjdaaGreatDoorNSX
import Derived.Test.YtkkaifeiopjjdaaGreatDoorXGoes
import Derived.Test.YtkkaifeiopjjdaaGreatDoorCards
import Derived.Test.YtkkaifeiopjjdaaGreatDoorTie
import Derived.WalkKit
import Derived.ProofKit
import Derived.OpenShut
import Derived.ShutString
import Derived.ChangeOld
import Derived.Below
import Derived.Deep.DeepHandedRow
import Derived.Lib.LaidTab
import Derived.Carry
import Derived.Test.YtkkaifeiopjjdaaGreatDoorNSEnde
import Derived.Test.YtkkaifeiopjjdaaGreatDoorNSEndf
set_option linter.unusedVariables false
namespace Go.Proofs.YtkkaifeiopjjdaaGreatDoor.nativeString
open Go.ChangeShapes Go.WideShapes Go.ChangeAt Go.RowKit
open Go.ChangeMaps (open_string shut_string)

set_option maxHeartbeats 0 in
theorem card : Rows.NativeStringCardSaid :=
  Claim7.holds_tied_plain_at .later [] _ _ _ _ said (fun _ h => by cases h) (by as_aux_lemma => kernel_rfl) (fun _ h => by cases h) nativeString_row_tie rfl ⟨rfl, rfl⟩ (by as_aux_lemma => kernel_rfl) rfl plain (X.goesNone (by as_aux_lemma => kernel_rfl) rfl)
end Go.Proofs.YtkkaifeiopjjdaaGreatDoor.nativeString
