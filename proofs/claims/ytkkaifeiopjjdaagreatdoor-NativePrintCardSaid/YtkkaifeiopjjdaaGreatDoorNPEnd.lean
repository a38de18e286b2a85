/-
  The law NativePrint returns true for every slice of slices of chars and either truth. No other condition.
-/
import Derived.Test.YtkkaifeiopjjdaaGreatDoorNPP
import Derived.Test.YtkkaifeiopjjdaaGreatDoorXGoes
import Derived.Test.YtkkaifeiopjjdaaGreatDoorCards
import Derived.Test.YtkkaifeiopjjdaaGreatDoorTie
import Derived.WalkKit
import Derived.ProofKit
import Derived.OpenShut
import Derived.ShutString
import Derived.ChangeOld
import Derived.Below
import Derived.Deep.DeepHandedRow
import Derived.Lib.LaidTab
import Derived.Carry
import Derived.Test.YtkkaifeiopjjdaaGreatDoorNPEnde
import Derived.Test.YtkkaifeiopjjdaaGreatDoorNPEndf
set_option linter.unusedVariables false
namespace Go.Proofs.YtkkaifeiopjjdaaGreatDoor.nativePrint
open Go.ChangeShapes Go.WideShapes Go.ChangeAt Go.RowKit
open Go.ChangeMaps (open_string shut_string)

set_option maxHeartbeats 0 in
theorem card : Rows.NativePrintCardSaid :=
  Claim7.holds_tied_plain_at .later [] _ _ _ _ said (fun _ h => by cases h) (by as_aux_lemma => kernel_rfl) (fun _ h => by cases h) nativePrint_row_tie rfl ⟨rfl, rfl⟩ (by as_aux_lemma => kernel_rfl) rfl plain (X.goesNone (by as_aux_lemma => kernel_rfl) rfl)
end Go.Proofs.YtkkaifeiopjjdaaGreatDoor.nativePrint
