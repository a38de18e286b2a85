/-
  Contracts of calls, by the kernel.
-/
import Derived.Test.YtedimikdpclpnaaGreatDoorXN3
import Derived.Test.YtedimikdpclpnaaGreatDoorProg
import Derived.KernelRfl
import Derived.Test.YtedimikdpclpnaaGreatDoorNA0a
import Derived.Test.YtedimikdpclpnaaGreatDoorNA0b
import Derived.Test.YtedimikdpclpnaaGreatDoorNA1h
import Derived.Test.YtedimikdpclpnaaGreatDoorNA2f
import Derived.Test.YtedimikdpclpnaaGreatDoorNA4a
import Derived.Test.YtedimikdpclpnaaGreatDoorNA5a
set_option linter.unusedSectionVars false
set_option linter.unusedVariables false
set_option maxRecDepth 1000000
set_option maxHeartbeats 0
namespace Go.Proofs.YtedimikdpclpnaaGreatDoor.na
open Go.X Go.RowKit
variable [Tab]
noncomputable def K_NA6a : Hand := ((H_NA5a).or ((H_NA4a).or ((H_NA2f).or ((H_NA1h).or H_NA0b))))
theorem K_NA6a_ok : HandOk Tryz.prog K_NA6a := (HandOk.or H_NA5a_ok (HandOk.or H_NA4a_ok (HandOk.or H_NA2f_ok (HandOk.or H_NA1h_ok H_NA0b_ok))))

noncomputable def I7873 : In := ⟨21, [(.sl 8656 0 2 2)], 8657, [q640, q659, q660, q661, q662, q663, q664, q665, q666, q576, q667, q668, q669, q580, q581, q582, q583, q584, q585, q586, q587, q588, q589, q590, q591, q592, q593, q594, q595, q596, q670, q671, q672, q597, q598, q599, q600, q601, q602, q603, q604, q605, q673, q674, q675, q606, q607, q608, q609, q610, q611, q612, q613, q614, q676, q677, q678, q615, q616, q617, q618, q619, q620, q621, q622, q623, q679, q680, q681, q641, q642, q643, q682, q624, q625, q626, q627, q628, q629, q630, q631, q632, q577, q578, q579, q633, q683], (.ptr 15484 0), 20645, [q644, q659, q660, q661, q662, q663, q664, q665, q666, q567, q667, q668, q669, q580, q581, q582, q583, q584, q585, q586, q587, q588, q589, q590, q591, q592, q593, q594, q595, q596, q670, q671, q672, q597, q598, q599, q600, q601, q602, q603, q604, q605, q673, q674, q675, q606, q607, q608, q609, q610, q611, q612, q613, q614, q676, q677, q678, q615, q616, q617, q618, q619, q620, q621, q622, q623, q679, q680, q681, q682, q624, q625, q626, q627, q628, q629, q630, q631, q632, q633, q683, q17, q18, q19, q20, q102, q505, q506, (11915, (.map [] 0)), (11916, (.map [] 0)), q516, q0, q97, q657, (15259, (.map [] 0)), (15260, (.map [] 0)), (15261, (.map [] 0)), q658, q507, q510, q511, (15483, (.cells 2 false [] (T.ofList 0 .leaf [(.ptr 8659 0), (.ptr 15262 0)]))), (15484, (.cells 2 false [] (T.ofList 0 .leaf [(.ptr 15483 0), zI]))), q23, q103, q24, q89, q90, q3, q25, q434, q414, q341, q321, q248, q227, q154, q133, q40, q4, q5]⟩
theorem I7873_ok : InOk Tryz.prog I7873 := InOk.of_run (K := K_NA6a) (n := 5000) mixed K_NA6a_ok (by kernel_rfl) (by as_aux_lemma => kernel_rfl)
noncomputable def H_NA6a : Hand := (Hand.at 21 (inHand I7873))
theorem H_NA6a_ok : HandOk Tryz.prog H_NA6a := (HandOk.at 21 (inHand_ok I7873_ok (by kernel_rfl)))
end Go.Proofs.YtedimikdpclpnaaGreatDoor.na
