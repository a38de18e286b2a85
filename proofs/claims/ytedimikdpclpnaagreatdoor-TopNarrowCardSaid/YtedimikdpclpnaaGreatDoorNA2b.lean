/-
  Contracts of calls, by the kernel.
-/
import Derived.Test.YtedimikdpclpnaaGreatDoorXN3
import Derived.Test.YtedimikdpclpnaaGreatDoorProg
import Derived.KernelRfl
import Derived.Test.YtedimikdpclpnaaGreatDoorNA0a
import Derived.Test.YtedimikdpclpnaaGreatDoorNA0b
import Derived.Test.YtedimikdpclpnaaGreatDoorNA1d
set_option linter.unusedSectionVars false
set_option linter.unusedVariables false
set_option maxRecDepth 1000000
set_option maxHeartbeats 0
namespace Go.Proofs.YtedimikdpclpnaaGreatDoor.na
open Go.X Go.RowKit
variable [Tab]
noncomputable def K_NA2b : Hand := ((H_NA1d).or ((H_NA0b).or H_NA0a))
theorem K_NA2b_ok : HandOk Tryz.prog K_NA2b := (HandOk.or H_NA1d_ok (HandOk.or H_NA0b_ok H_NA0a_ok))

noncomputable def I22309 : In := ⟨174, [(.ptr 8659 0), (.ptr 16510 0), zT], 26203, [q3, q25, q4, q5], (.tup [(.so 26494 0 4 3), zI]), 26544, [q3, q25, q4, q5]⟩
theorem I22309_ok : InOk Tryz.prog I22309 := InOk.of_run (K := K_NA2b) (n := 5000) mixed K_NA2b_ok (by kernel_rfl) (by as_aux_lemma => kernel_rfl)

noncomputable def I21893 : In := ⟨174, [(.ptr 8659 0), (.ptr 16510 0), zAH], 25370, [q3, q25, q40, q5], (.tup [(.so 26153 0 10 3), zI]), 26203, [q3, q25, q40, q5]⟩
theorem I21893_ok : InOk Tryz.prog I21893 := InOk.of_run (K := K_NA2b) (n := 5000) mixed K_NA2b_ok (by kernel_rfl) (by as_aux_lemma => kernel_rfl)

noncomputable def I21718 : In := ⟨174, [(.ptr 8659 0), (.ptr 16510 0), zAL], 25029, [q3, q25, q133, q5], (.tup [(.so 25320 0 4 3), zI]), 25370, [q3, q25, q133, q5]⟩
theorem I21718_ok : InOk Tryz.prog I21718 := InOk.of_run (K := K_NA2b) (n := 5000) mixed K_NA2b_ok (by kernel_rfl) (by as_aux_lemma => kernel_rfl)

noncomputable def I21302 : In := ⟨174, [(.ptr 8659 0), (.ptr 16510 0), zN], 24196, [q3, q25, q154, q5], (.tup [(.so 24979 0 10 3), zI]), 25029, [q3, q25, q154, q5]⟩
theorem I21302_ok : InOk Tryz.prog I21302 := InOk.of_run (K := K_NA2b) (n := 5000) mixed K_NA2b_ok (by kernel_rfl) (by as_aux_lemma => kernel_rfl)

noncomputable def I21127 : In := ⟨174, [(.ptr 8659 0), (.ptr 16510 0), zBG], 23855, [q3, q25, q227, q5], (.tup [(.so 24146 0 4 3), zI]), 24196, [q3, q25, q227, q5]⟩
theorem I21127_ok : InOk Tryz.prog I21127 := InOk.of_run (K := K_NA2b) (n := 5000) mixed K_NA2b_ok (by kernel_rfl) (by as_aux_lemma => kernel_rfl)
noncomputable def H_NA2b : Hand := (Hand.at 174 (Hand.sp 25029 ((inHand I21302).or (inHand I21127)) (Hand.sp 25370 (inHand I21718) ((inHand I22309).or (inHand I21893)))))
theorem H_NA2b_ok : HandOk Tryz.prog H_NA2b := (HandOk.at 174 (HandOk.sp 25029 (HandOk.or (inHand_ok I21302_ok (by kernel_rfl)) (inHand_ok I21127_ok (by kernel_rfl))) (HandOk.sp 25370 (inHand_ok I21718_ok (by kernel_rfl)) (HandOk.or (inHand_ok I22309_ok (by kernel_rfl)) (inHand_ok I21893_ok (by kernel_rfl))))))
end Go.Proofs.YtedimikdpclpnaaGreatDoor.na
