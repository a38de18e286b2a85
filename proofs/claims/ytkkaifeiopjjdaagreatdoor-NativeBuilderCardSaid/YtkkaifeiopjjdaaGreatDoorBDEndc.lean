/-
  A part of the closing text.
-/
import Derived.Test.YtkkaifeiopjjdaaGreatDoorBDP
import Derived.Test.YtkkaifeiopjjdaaGreatDoorXGoes
import Derived.Test.YtkkaifeiopjjdaaGreatDoorCards
import Derived.Test.YtkkaifeiopjjdaaGreatDoorTie
import Derived.WalkKit
import Derived.ProofKit
import Derived.OpenShut
import Derived.ShutString
import Derived.ChangeOld
import Derived.Below
import Derived.Deep.DeepHandedRow
import Derived.Lib.LaidTab
import Derived.Carry
import Derived.Test.YtkkaifeiopjjdaaGreatDoorBDEndb
set_option linter.unusedVariables false
namespace Go.Proofs.YtkkaifeiopjjdaaGreatDoor.nativeBuilder
open Go.ChangeShapes Go.WideShapes Go.ChangeAt Go.RowKit
open Go.ChangeMaps (open_string shut_string)

set_option maxRecDepth 100000 in
theorem lifted (os : Os) (started : os.Started) (H : Type) (enc : TypeId × Value → H) (F : Stop.Interp) :
    ReturnsInHanded {} Tryz.checked os 4 .any ((OpenSpec.ofChange Rows.nativeBuilderSpec).preRow enc Tryz.prog Tryz.f4 Rows.nativeBuilderRow.domain false Rows.nativeBuilderRow.laid) (((OpenSpec.ofChange Rows.nativeBuilderSpec).at F).post enc Tryz.prog Tryz.f4 false true false false) := by
  obtain ⟨places, hx⟩ := reads os enc
  refine returnsInHanded_of_row (C := Tryz.checked) (s := OpenSpec.ofChange Rows.nativeBuilderSpec) own started (by as_aux_lemma => kernel_rfl) Tryz.func4
    (witness_row_at (enc := enc) (C := Tryz.checked) false (laidWorld os) #[.slice none 0 0, .slice none 0 0] rfl (by as_aux_lemma => kernel_rfl) (by as_aux_lemma => kernel_rfl) (by as_aux_lemma => kernel_rfl)
      (OpenSpec.preRow_of_cond 8 hx (by as_aux_lemma => kernel_rfl) (fun k hk => by cases hk) (by as_aux_lemma => kernel_rfl) (laid_met os))) ?_
  intro W base args ds gs before hval hW _ _ _ hL hS _
  exact contract H enc W base args ds gs before hval hW hL
end Go.Proofs.YtkkaifeiopjjdaaGreatDoor.nativeBuilder
