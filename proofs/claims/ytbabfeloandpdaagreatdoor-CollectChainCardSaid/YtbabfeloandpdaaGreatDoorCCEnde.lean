/-
  A part of the closing text.
-/
import Derived.Test.YtbabfeloandpdaaGreatDoorCCW
import Derived.Test.YtbabfeloandpdaaGreatDoorXGoes
import Derived.Test.YtbabfeloandpdaaGreatDoorCards
import Derived.Test.YtbabfeloandpdaaGreatDoorTie
import Derived.WalkKit
import Derived.ProofKit
import Derived.OpenShut
import Derived.ShutString
import Derived.ChangeOld
import Derived.Below
import Derived.Deep.DeepHandedRow
import Derived.Lib.LaidTab
import Derived.Test.YtbabfeloandpdaaGreatDoorCCEndc
import Derived.Test.YtbabfeloandpdaaGreatDoorCCEndd
set_option linter.unusedVariables false
namespace Go.Proofs.YtbabfeloandpdaaGreatDoor.collectChain
open Go.ChangeShapes Go.WideShapes Go.ChangeAt Go.RowKit
open Go.ChangeMaps (open_string shut_string)

set_option maxHeartbeats 0 in
theorem said : Rows.CollectChainSaid :=
  OpenClaim.holds_of_cond 3 Tryz.f3 rfl rfl rfl rfl rfl rfl rfl ⟨rfl, rfl, rfl, rfl, rfl⟩ rfl rfl rfl rfl rfl (by as_aux_lemma => kernel_rfl) Tryz.func3 facts
    (of_decide_eq_true (by as_aux_lemma => kernel_rfl)) (by unfold Func.isWrapper; first | (rw [if_pos (by decide +kernel)]; kernel_rfl) | (rw [if_neg (by decide +kernel)]; exact ⟨rfl, rfl⟩))
    (fun os started H enc _ F => by rw [OpenClaim.pre_eq_preRow]; exact lifted os started H enc F)
end Go.Proofs.YtbabfeloandpdaaGreatDoor.collectChain
