/-
  A part of the closing text.
-/
import Derived.Test.YtbabfeloandpdaaGreatDoorCCW
import Derived.Test.YtbabfeloandpdaaGreatDoorXGoes
import Derived.Test.YtbabfeloandpdaaGreatDoorCards
import Derived.Test.YtbabfeloandpdaaGreatDoorTie
import Derived.WalkKit
import Derived.ProofKit
import Derived.OpenShut
import Derived.ShutString
import Derived.ChangeOld
import Derived.Below
import Derived.Deep.DeepHandedRow
import Derived.Lib.LaidTab
import Derived.Test.YtbabfeloandpdaaGreatDoorCCEndb
set_option linter.unusedVariables false
namespace Go.Proofs.YtbabfeloandpdaaGreatDoor.collectChain
open Go.ChangeShapes Go.WideShapes Go.ChangeAt Go.RowKit
open Go.ChangeMaps (open_string shut_string)

set_option maxRecDepth 100000 in
theorem lifted (os : Os) (started : os.Started) (H : Type) (enc : TypeId × Value → H) (F : Stop.Interp) :
    ReturnsInHanded {} Tryz.checked os 3 .any ((OpenSpec.ofChange Rows.collectChainSpec).preRow enc Tryz.prog Tryz.f3 Rows.collectChainRow.domain false Rows.collectChainRow.laid) (((OpenSpec.ofChange Rows.collectChainSpec).at F).post enc Tryz.prog Tryz.f3 false true false false) := by
  obtain ⟨places, hx⟩ := reads os enc
  refine returnsInHanded_of_row (C := Tryz.checked) (s := OpenSpec.ofChange Rows.collectChainSpec) own started (by as_aux_lemma => kernel_rfl) Tryz.func3
    (witness_row_at (enc := enc) (C := Tryz.checked) false (laidWorld os) #[.int .i64 0, .int .i64 0, .bool false] rfl (by as_aux_lemma => kernel_rfl) (by as_aux_lemma => kernel_rfl) (by as_aux_lemma => kernel_rfl)
      (OpenSpec.preRow_of_cond 8 hx (by as_aux_lemma => kernel_rfl) (fun k hk => by cases hk) (by as_aux_lemma => kernel_rfl) (laid_met os))) ?_
  intro W base args ds gs before hval hW _ _ _ hL hS _
  exact contract H enc W base args ds gs before hval hW hL
end Go.Proofs.YtbabfeloandpdaaGreatDoor.collectChain
