/-
  Contracts of calls, by the kernel.
-/
import Derived.Test.YtedimikdpclpnaaGreatDoorXN3
import Derived.Test.YtedimikdpclpnaaGreatDoorProg
import Derived.KernelRfl
import Derived.Test.YtedimikdpclpnaaGreatDoorNA0a
import Derived.Test.YtedimikdpclpnaaGreatDoorNA0e
import Derived.Test.YtedimikdpclpnaaGreatDoorNA0f
import Derived.Test.YtedimikdpclpnaaGreatDoorNA1h
import Derived.Test.YtedimikdpclpnaaGreatDoorNA1i
import Derived.Test.YtedimikdpclpnaaGreatDoorNA2e
import Derived.Test.YtedimikdpclpnaaGreatDoorNA3b
set_option linter.unusedSectionVars false
set_option linter.unusedVariables false
set_option maxRecDepth 1000000
set_option maxHeartbeats 0
namespace Go.Proofs.YtedimikdpclpnaaGreatDoor.na
open Go.X Go.RowKit
variable [Tab]
noncomputable def K_NA4b : Hand := ((H_NA3b).or ((H_NA2e).or ((H_NA1i).or ((H_NA1h).or ((H_NA0f).or H_NA0e)))))
theorem K_NA4b_ok : HandOk Tryz.prog K_NA4b := (HandOk.or H_NA3b_ok (HandOk.or H_NA2e_ok (HandOk.or H_NA1i_ok (HandOk.or H_NA1h_ok (HandOk.or H_NA0f_ok H_NA0e_ok)))))

noncomputable def I3019 : In := ⟨102, [(.ptr 3256 0), (.ptr 3258 0), (.ptr 3 0)], 3262, [], (.ptr 3262 0), 6602, [q823]⟩
theorem I3019_ok : InOk Tryz.prog I3019 := InOk.of_run (K := K_NA4b) (n := 5000) mixed K_NA4b_ok (by kernel_rfl) (by as_aux_lemma => kernel_rfl)
noncomputable def H_NA4b : Hand := (Hand.at 102 (inHand I3019))
theorem H_NA4b_ok : HandOk Tryz.prog H_NA4b := (HandOk.at 102 (inHand_ok I3019_ok (by kernel_rfl)))
end Go.Proofs.YtedimikdpclpnaaGreatDoor.na
