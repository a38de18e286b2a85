/-
  The law RunNone returns true, where the listed variables hold what the text lays. No other condition.
-/
import Derived.Test.YtcnghmhngnlgnaaGreatDoorRQWalk
import Derived.Test.YtcnghmhngnlgnaaGreatDoorXGoes
import Derived.Test.YtcnghmhngnlgnaaGreatDoorCards
import Derived.Test.YtcnghmhngnlgnaaGreatDoorTie
import Derived.WalkKit
import Derived.ProofKit
import Derived.OpenShut
import Derived.ShutString
import Derived.ChangeOld
import Derived.Below
import Derived.Deep.DeepHandedRow
import Derived.Lib.LaidTab
import Derived.Test.YtcnghmhngnlgnaaGreatDoorRQEndf
set_option linter.unusedVariables false
namespace Go.Proofs.YtcnghmhngnlgnaaGreatDoor.runNone
open Go.ChangeShapes Go.WideShapes Go.ChangeAt Go.RowKit
open Go.ChangeMaps (open_string shut_string)

theorem card : Rows.RunNoneCardSaid :=
  Claim7.holds_tied_plain_at .later [] _ _ _ _ said (fun _ h => by cases h) (by as_aux_lemma => kernel_rfl) (fun _ h => by cases h) runNone_row_tie rfl ⟨rfl, rfl⟩ (by as_aux_lemma => kernel_rfl) rfl plain (X.goesNone (by as_aux_lemma => kernel_rfl) rfl)
end Go.Proofs.YtcnghmhngnlgnaaGreatDoor.runNone
