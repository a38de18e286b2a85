/-
  The law TopSort returns true for all numbers, where the listed variables hold what the text lays. No other condition.
-/
import Derived.Test.YtaabcpibfignfaaGreatDoorSOW
import Derived.Test.YtaabcpibfignfaaGreatDoorXGoes
import Derived.Test.YtaabcpibfignfaaGreatDoorCards
import Derived.Test.YtaabcpibfignfaaGreatDoorTie
import Derived.WalkKit
import Derived.ProofKit
import Derived.OpenShut
import Derived.ShutString
import Derived.ChangeOld
import Derived.Below
import Derived.Deep.DeepHandedRow
import Derived.Lib.LaidTab
import Derived.Test.YtaabcpibfignfaaGreatDoorSOEnde
import Derived.Test.YtaabcpibfignfaaGreatDoorSOEndf
set_option linter.unusedVariables false
namespace Go.Proofs.YtaabcpibfignfaaGreatDoor.topSort
open Go.ChangeShapes Go.WideShapes Go.ChangeAt Go.RowKit
open Go.ChangeMaps (open_string shut_string)

set_option maxHeartbeats 0 in
theorem card : Rows.TopSortCardSaid :=
  Claim7.holds_tied_plain_at .later [] _ _ _ _ said (fun _ h => by cases h) (by as_aux_lemma => kernel_rfl) (fun _ h => by cases h) topSort_row_tie rfl ⟨rfl, rfl⟩ (by as_aux_lemma => kernel_rfl) rfl plain (X.goesNone (by as_aux_lemma => kernel_rfl) rfl)
end Go.Proofs.YtaabcpibfignfaaGreatDoor.topSort
