/-
  The law NativeCopy returns true for every two slices of numbers, all three numbers and both truths, where the listed variables hold what the text lays. No other condition.
-/
import Derived.Test.YtbjgdfijonkomaaGreatDoorNCY
import Derived.Test.YtbjgdfijonkomaaGreatDoorXGoes
import Derived.Test.YtbjgdfijonkomaaGreatDoorCards
import Derived.Test.YtbjgdfijonkomaaGreatDoorTie
import Derived.WalkKit
import Derived.ProofKit
import Derived.OpenShut
import Derived.ShutString
import Derived.ChangeOld
import Derived.Below
import Derived.Deep.DeepHandedRow
import Derived.Lib.LaidTab
import Derived.Carry
import Derived.Test.YtbjgdfijonkomaaGreatDoorNCEnde
import Derived.Test.YtbjgdfijonkomaaGreatDoorNCEndf
set_option linter.unusedVariables false
namespace Go.Proofs.YtbjgdfijonkomaaGreatDoor.nativeCopy
open Go.ChangeShapes Go.WideShapes Go.ChangeAt Go.RowKit
open Go.ChangeMaps (open_string shut_string)

set_option maxHeartbeats 0 in
theorem card : Rows.NativeCopyCardSaid :=
  Claim7.holds_tied_plain_at .later [] _ _ _ _ said (fun _ h => by cases h) (by as_aux_lemma => kernel_rfl) (fun _ h => by cases h) nativeCopy_row_tie rfl ⟨rfl, rfl⟩ (by as_aux_lemma => kernel_rfl) rfl plain (X.goesNone (by as_aux_lemma => kernel_rfl) rfl)
end Go.Proofs.YtbjgdfijonkomaaGreatDoor.nativeCopy
