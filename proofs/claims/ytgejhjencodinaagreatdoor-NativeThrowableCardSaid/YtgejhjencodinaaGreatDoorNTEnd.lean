/-
  The law NativeThrowable returns true for every slice of chars, every number and both truths, where the listed variables hold what the text lays. No other condition.
-/
import Derived.Test.YtgejhjencodinaaGreatDoorNTC
import Derived.Test.YtgejhjencodinaaGreatDoorXGoes
import Derived.Test.YtgejhjencodinaaGreatDoorCards
import Derived.Test.YtgejhjencodinaaGreatDoorTie
import Derived.WalkKit
import Derived.ProofKit
import Derived.OpenShut
import Derived.ShutString
import Derived.ChangeOld
import Derived.Below
import Derived.Deep.DeepHandedRow
import Derived.Lib.LaidTab
import Derived.Carry
import Derived.Test.YtgejhjencodinaaGreatDoorNTEnde
import Derived.Test.YtgejhjencodinaaGreatDoorNTEndf
set_option linter.unusedVariables false
namespace Go.Proofs.YtgejhjencodinaaGreatDoor.nativeThrowable
open Go.ChangeShapes Go.WideShapes Go.ChangeAt Go.RowKit
open Go.ChangeMaps (open_string shut_string)

set_option maxHeartbeats 0 in
theorem card : Rows.NativeThrowableCardSaid :=
  Claim7.holds_tied_plain_at .later [] _ _ _ _ said (fun _ h => by cases h) (by as_aux_lemma => kernel_rfl) (fun _ h => by cases h) nativeThrowable_row_tie rfl ⟨rfl, rfl⟩ (by as_aux_lemma => kernel_rfl) rfl plain (X.goesNone (by as_aux_lemma => kernel_rfl) rfl)
end Go.Proofs.YtgejhjencodinaaGreatDoor.nativeThrowable
