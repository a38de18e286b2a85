/-
  Contracts of calls, by the kernel.
-/
import Derived.Test.YtgejhjencodinaaGreatDoorXN3
import Derived.Test.YtgejhjencodinaaGreatDoorProg
import Derived.KernelRfl
import Derived.Test.YtgejhjencodinaaGreatDoorNT0a
import Derived.Test.YtgejhjencodinaaGreatDoorNT1a
import Derived.Test.YtgejhjencodinaaGreatDoorNT2a
import Derived.Test.YtgejhjencodinaaGreatDoorNT4a
set_option linter.unusedSectionVars false
set_option linter.unusedVariables false
set_option maxRecDepth 1000000
set_option maxHeartbeats 0
namespace Go.Proofs.YtgejhjencodinaaGreatDoor.nt
open Go.X Go.RowKit
variable [Tab]
noncomputable def K_NT5a : Hand := ((H_NT4a).or ((H_NT2a).or H_NT1a))
theorem K_NT5a_ok : HandOk Tryz.prog K_NT5a := (HandOk.or H_NT4a_ok (HandOk.or H_NT2a_ok H_NT1a_ok))

noncomputable def I1 : In := ⟨5, [], 0, [], (.bool true), 6644, []⟩
theorem I1_ok : InOk Tryz.prog I1 := InOk.of_run (K := K_NT5a) (n := 5000) mixed K_NT5a_ok (by kernel_rfl) (by as_aux_lemma => kernel_rfl)
noncomputable def H_NT5a : Hand := (Hand.at 5 (inHand I1))
theorem H_NT5a_ok : HandOk Tryz.prog H_NT5a := (HandOk.at 5 (inHand_ok I1_ok (by kernel_rfl)))
end Go.Proofs.YtgejhjencodinaaGreatDoor.nt
