/-
  Contracts of calls, by the kernel.
-/
import Derived.Test.YtkkaifeiopjjdaaGreatDoorXN3
import Derived.Test.YtkkaifeiopjjdaaGreatDoorProg
import Derived.KernelRfl
import Derived.Test.YtkkaifeiopjjdaaGreatDoorBR0a
import Derived.Test.YtkkaifeiopjjdaaGreatDoorBR1a
import Derived.Test.YtkkaifeiopjjdaaGreatDoorBR4a
set_option linter.unusedSectionVars false
set_option linter.unusedVariables false
set_option maxRecDepth 1000000
set_option maxHeartbeats 0
namespace Go.Proofs.YtkkaifeiopjjdaaGreatDoor.br
open Go.X Go.RowKit
variable [Tab]
noncomputable def K_BR5a : Hand := ((H_BR4a).or H_BR1a)
theorem K_BR5a_ok : HandOk Tryz.prog K_BR5a := (HandOk.or H_BR4a_ok H_BR1a_ok)

noncomputable def I1 : In := ⟨6, [], 0, [], (.bool true), 6644, []⟩
theorem I1_ok : InOk Tryz.prog I1 := InOk.of_run (K := K_BR5a) (n := 5000) mixed K_BR5a_ok (by kernel_rfl) (by as_aux_lemma => kernel_rfl)
noncomputable def H_BR5a : Hand := (Hand.at 6 (inHand I1))
theorem H_BR5a_ok : HandOk Tryz.prog H_BR5a := (HandOk.at 6 (inHand_ok I1_ok (by kernel_rfl)))
end Go.Proofs.YtkkaifeiopjjdaaGreatDoor.br
