/-
  Contracts of calls, by the kernel.
-/
import Derived.Test.YtedimikdpclpnaaGreatDoorXN3
import Derived.Test.YtedimikdpclpnaaGreatDoorProg
import Derived.KernelRfl
import Derived.Test.YtedimikdpclpnaaGreatDoorNA0a
import Derived.Test.YtedimikdpclpnaaGreatDoorNA0b
import Derived.Test.YtedimikdpclpnaaGreatDoorNA0e
import Derived.Test.YtedimikdpclpnaaGreatDoorNA0f
set_option linter.unusedSectionVars false
set_option linter.unusedVariables false
set_option maxRecDepth 1000000
set_option maxHeartbeats 0
namespace Go.Proofs.YtedimikdpclpnaaGreatDoor.na
open Go.X Go.RowKit
variable [Tab]
noncomputable def K_NA1g : Hand := ((H_NA0f).or ((H_NA0e).or H_NA0b))
theorem K_NA1g_ok : HandOk Tryz.prog K_NA1g := (HandOk.or H_NA0f_ok (HandOk.or H_NA0e_ok H_NA0b_ok))

noncomputable def I15802 : In := ⟨275, [(.ptr 16509 0)], 16512, [q530, q562], (.tup [(.sl 16512 0 58 58), zI]), 17418, [q530, q561, q25]⟩
theorem I15802_ok : InOk Tryz.prog I15802 := InOk.of_run (K := K_NA1g) (n := 5000) mixed K_NA1g_ok (by kernel_rfl) (by as_aux_lemma => kernel_rfl)
noncomputable def H_NA1g : Hand := (Hand.at 275 (inHand I15802))
theorem H_NA1g_ok : HandOk Tryz.prog H_NA1g := (HandOk.at 275 (inHand_ok I15802_ok (by kernel_rfl)))
end Go.Proofs.YtedimikdpclpnaaGreatDoor.na
