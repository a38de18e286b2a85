/-
  The law TopLongs returns true for all numbers, where the listed variables hold what the text lays. No other condition.
-/
import Derived.Test.YthgncmohimdbmaaGreatDoorLGW
import Derived.Test.YthgncmohimdbmaaGreatDoorXGoes
import Derived.Test.YthgncmohimdbmaaGreatDoorCards
import Derived.Test.YthgncmohimdbmaaGreatDoorTie
import Derived.WalkKit
import Derived.ProofKit
import Derived.OpenShut
import Derived.ShutString
import Derived.ChangeOld
import Derived.Below
import Derived.Deep.DeepHandedRow
import Derived.Lib.LaidTab
import Derived.Test.YthgncmohimdbmaaGreatDoorLGEnde
import Derived.Test.YthgncmohimdbmaaGreatDoorLGEndf
set_option linter.unusedVariables false
namespace Go.Proofs.YthgncmohimdbmaaGreatDoor.topLongs
open Go.ChangeShapes Go.WideShapes Go.ChangeAt Go.RowKit
open Go.ChangeMaps (open_string shut_string)

set_option maxHeartbeats 0 in
theorem card : Rows.TopLongsCardSaid :=
  Claim7.holds_tied_plain_at .later [] _ _ _ _ said (fun _ h => by cases h) (by as_aux_lemma => kernel_rfl) (fun _ h => by cases h) topLongs_row_tie rfl ⟨rfl, rfl⟩ (by as_aux_lemma => kernel_rfl) rfl plain (X.goesNone (by as_aux_lemma => kernel_rfl) rfl)
end Go.Proofs.YthgncmohimdbmaaGreatDoor.topLongs
