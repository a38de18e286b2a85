/-
  Contracts of calls, by the kernel.
-/
import Derived.Test.YtkkaifeiopjjdaaGreatDoorXN3
import Derived.Test.YtkkaifeiopjjdaaGreatDoorProg
import Derived.KernelRfl
import Derived.Test.YtkkaifeiopjjdaaGreatDoorNQ0a
import Derived.Test.YtkkaifeiopjjdaaGreatDoorNQ1a
import Derived.Test.YtkkaifeiopjjdaaGreatDoorNQ4a
set_option linter.unusedSectionVars false
set_option linter.unusedVariables false
set_option maxRecDepth 1000000
set_option maxHeartbeats 0
namespace Go.Proofs.YtkkaifeiopjjdaaGreatDoor.nq
open Go.X Go.RowKit
variable [Tab]
noncomputable def K_NQ5a : Hand := ((H_NQ4a).or H_NQ1a)
theorem K_NQ5a_ok : HandOk Tryz.prog K_NQ5a := (HandOk.or H_NQ4a_ok H_NQ1a_ok)

noncomputable def I1 : In := ⟨6, [], 0, [], (.bool true), 6644, []⟩
theorem I1_ok : InOk Tryz.prog I1 := InOk.of_run (K := K_NQ5a) (n := 5000) mixed K_NQ5a_ok (by kernel_rfl) (by as_aux_lemma => kernel_rfl)
noncomputable def H_NQ5a : Hand := (Hand.at 6 (inHand I1))
theorem H_NQ5a_ok : HandOk Tryz.prog H_NQ5a := (HandOk.at 6 (inHand_ok I1_ok (by kernel_rfl)))
end Go.Proofs.YtkkaifeiopjjdaaGreatDoor.nq
