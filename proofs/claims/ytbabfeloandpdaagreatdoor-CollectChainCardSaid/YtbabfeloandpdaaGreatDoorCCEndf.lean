/-
  A part of the closing text.
-/
import Derived.Test.YtbabfeloandpdaaGreatDoorXGoes
import Derived.Test.YtbabfeloandpdaaGreatDoorCards
import Derived.Test.YtbabfeloandpdaaGreatDoorTie
import Derived.WalkKit
import Derived.ProofKit
import Derived.OpenShut
import Derived.ShutString
import Derived.ChangeOld
import Derived.Below
import Derived.Deep.DeepHandedRow
import Derived.Lib.LaidTab
set_option linter.unusedVariables false
namespace Go.Proofs.YtbabfeloandpdaaGreatDoor.collectChain
open Go.ChangeShapes Go.WideShapes Go.ChangeAt Go.RowKit
open Go.ChangeMaps (open_string shut_string)

set_option maxHeartbeats 0 in
theorem plain (f : FuncId) (fn : Func) (hf : Tryz.pinned.checked.prog.funcNamed Rows.collectChainRow.func = some f) (hfn : Tryz.pinned.checked.prog.funcs[f]? = some fn) :
    false = Tryz.pinned.checked.prog.looks [] ∧ ∀ (j : Nat) t, fn.params[j]? = some t → Tryz.pinned.checked.prog.wantsStandIn t = false := by
  obtain rfl : f = 3 := Option.some.inj ((show Tryz.prog.funcNamed Rows.collectChainRow.func = some 3 by as_aux_lemma => kernel_rfl).symm.trans hf) |>.symm
  obtain rfl : fn = Tryz.f3 := (Option.some.inj (Tryz.func3.symm.trans hfn)).symm
  refine ⟨by as_aux_lemma => kernel_rfl, fun j t ht => ?_⟩
  rw [Tryz.params3] at ht
  have h1 := Array.mem_of_getElem? ht
  simp only [List.mem_toArray, List.mem_cons, List.not_mem_nil, or_false] at h1
  rcases h1 with rfl | rfl | rfl
  · exact (show Tryz.prog.wantsStandIn 3 = false by as_aux_lemma => kernel_rfl)
  · exact (show Tryz.prog.wantsStandIn 3 = false by as_aux_lemma => kernel_rfl)
  · exact (show Tryz.prog.wantsStandIn 4 = false by as_aux_lemma => kernel_rfl)
end Go.Proofs.YtbabfeloandpdaaGreatDoor.collectChain
