/-
  Contracts of calls, by the kernel.
-/
import Derived.Test.YtkkaifeiopjjdaaGreatDoorXN3
import Derived.Test.YtkkaifeiopjjdaaGreatDoorProg
import Derived.KernelRfl
import Derived.Test.YtkkaifeiopjjdaaGreatDoorNR0a
import Derived.Test.YtkkaifeiopjjdaaGreatDoorNR1a
import Derived.Test.YtkkaifeiopjjdaaGreatDoorNR4a
set_option linter.unusedSectionVars false
set_option linter.unusedVariables false
set_option maxRecDepth 1000000
set_option maxHeartbeats 0
namespace Go.Proofs.YtkkaifeiopjjdaaGreatDoor.nr
open Go.X Go.RowKit
variable [Tab]
noncomputable def K_NR5a : Hand := ((H_NR4a).or H_NR1a)
theorem K_NR5a_ok : HandOk Tryz.prog K_NR5a := (HandOk.or H_NR4a_ok H_NR1a_ok)

noncomputable def I1 : In := ⟨6, [], 0, [], (.bool true), 6644, []⟩
theorem I1_ok : InOk Tryz.prog I1 := InOk.of_run (K := K_NR5a) (n := 5000) mixed K_NR5a_ok (by kernel_rfl) (by as_aux_lemma => kernel_rfl)
noncomputable def H_NR5a : Hand := (Hand.at 6 (inHand I1))
theorem H_NR5a_ok : HandOk Tryz.prog H_NR5a := (HandOk.at 6 (inHand_ok I1_ok (by kernel_rfl)))
end Go.Proofs.YtkkaifeiopjjdaaGreatDoor.nr
