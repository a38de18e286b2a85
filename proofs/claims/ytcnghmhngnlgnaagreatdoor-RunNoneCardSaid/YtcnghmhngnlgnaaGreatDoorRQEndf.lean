/-
  A part of the closing text.
-/
import Derived.Test.YtcnghmhngnlgnaaGreatDoorRQWalk
import Derived.Test.YtcnghmhngnlgnaaGreatDoorXGoes
import Derived.Test.YtcnghmhngnlgnaaGreatDoorCards
import Derived.Test.YtcnghmhngnlgnaaGreatDoorTie
import Derived.WalkKit
import Derived.ProofKit
import Derived.OpenShut
import Derived.ShutString
import Derived.ChangeOld
import Derived.Below
import Derived.Deep.DeepHandedRow
import Derived.Lib.LaidTab
import Derived.Test.YtcnghmhngnlgnaaGreatDoorRQEnde
set_option linter.unusedVariables false
namespace Go.Proofs.YtcnghmhngnlgnaaGreatDoor.runNone
open Go.ChangeShapes Go.WideShapes Go.ChangeAt Go.RowKit
open Go.ChangeMaps (open_string shut_string)

theorem plain (f : FuncId) (fn : Func) (hf : Tryz.pinned.checked.prog.funcNamed Rows.runNoneRow.func = some f) (hfn : Tryz.pinned.checked.prog.funcs[f]? = some fn) :
    true = Tryz.pinned.checked.prog.looks [] ∧ ∀ (j : Nat) t, fn.params[j]? = some t → Tryz.pinned.checked.prog.wantsStandIn t = false := by
  obtain rfl : f = 3 := Option.some.inj ((show Tryz.prog.funcNamed Rows.runNoneRow.func = some 3 by as_aux_lemma => kernel_rfl).symm.trans hf) |>.symm
  obtain rfl : fn = Tryz.f3 := (Option.some.inj (Tryz.func3.symm.trans hfn)).symm
  refine ⟨by as_aux_lemma => kernel_rfl, fun j t ht => ?_⟩
  rw [Tryz.params3] at ht
  simp at ht
end Go.Proofs.YtcnghmhngnlgnaaGreatDoor.runNone
