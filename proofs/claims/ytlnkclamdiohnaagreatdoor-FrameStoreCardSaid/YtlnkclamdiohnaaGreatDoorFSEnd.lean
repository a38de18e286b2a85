/-
  The law FrameStore returns true for every two rows of types and every place, where the listed variables hold what the text lays. No other condition.
-/
import Derived.Test.YtlnkclamdiohnaaGreatDoorFSA
import Derived.Test.YtlnkclamdiohnaaGreatDoorXGoes
import Derived.Test.YtlnkclamdiohnaaGreatDoorCards
import Derived.Test.YtlnkclamdiohnaaGreatDoorTie
import Derived.WalkKit
import Derived.ProofKit
import Derived.OpenShut
import Derived.ShutString
import Derived.ChangeOld
import Derived.Below
import Derived.Deep.DeepHandedRow
import Derived.Lib.LaidTab
import Derived.Carry
import Derived.Test.YtlnkclamdiohnaaGreatDoorFSEnde
import Derived.Test.YtlnkclamdiohnaaGreatDoorFSEndf
set_option linter.unusedVariables false
namespace Go.Proofs.YtlnkclamdiohnaaGreatDoor.frameStore
open Go.ChangeShapes Go.WideShapes Go.ChangeAt Go.RowKit
open Go.ChangeMaps (open_string shut_string)

set_option maxHeartbeats 0 in
theorem card : Rows.FrameStoreCardSaid :=
  Claim7.holds_tied_plain_at .later [] _ _ _ _ said (fun _ h => by cases h) (by as_aux_lemma => kernel_rfl) (fun _ h => by cases h) frameStore_row_tie rfl ⟨rfl, rfl⟩ (by as_aux_lemma => kernel_rfl) rfl plain (X.goesNone (by as_aux_lemma => kernel_rfl) rfl)
end Go.Proofs.YtlnkclamdiohnaaGreatDoor.frameStore
