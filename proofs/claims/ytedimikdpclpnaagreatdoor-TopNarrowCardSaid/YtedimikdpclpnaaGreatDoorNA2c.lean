/-
  Contracts of calls, by the kernel.
-/
import Derived.Test.YtedimikdpclpnaaGreatDoorXN3
import Derived.Test.YtedimikdpclpnaaGreatDoorProg
import Derived.KernelRfl
import Derived.Test.YtedimikdpclpnaaGreatDoorNA0a
import Derived.Test.YtedimikdpclpnaaGreatDoorNA0b
import Derived.Test.YtedimikdpclpnaaGreatDoorNA1d
import Derived.Test.YtedimikdpclpnaaGreatDoorNA1e
set_option linter.unusedSectionVars false
set_option linter.unusedVariables false
set_option maxRecDepth 1000000
set_option maxHeartbeats 0
namespace Go.Proofs.YtedimikdpclpnaaGreatDoor.na
open Go.X Go.RowKit
variable [Tab]
noncomputable def K_NA2c : Hand := ((H_NA1e).or ((H_NA1d).or ((H_NA0b).or H_NA0a)))
theorem K_NA2c_ok : HandOk Tryz.prog K_NA2c := (HandOk.or H_NA1e_ok (HandOk.or H_NA1d_ok (HandOk.or H_NA0b_ok H_NA0a_ok)))

noncomputable def I20711 : In := ⟨174, [(.ptr 8659 0), (.ptr 16510 0), zF], 23022, [q3, q25, q248, q5], (.tup [(.so 23805 0 10 3), zI]), 23855, [q3, q25, q248, q5]⟩
theorem I20711_ok : InOk Tryz.prog I20711 := InOk.of_run (K := K_NA2c) (n := 5000) mixed K_NA2c_ok (by kernel_rfl) (by as_aux_lemma => kernel_rfl)

noncomputable def I20536 : In := ⟨174, [(.ptr 8659 0), (.ptr 16510 0), zD], 22681, [q3, q25, q321, q5], (.tup [(.so 22972 0 4 3), zI]), 23022, [q3, q25, q321, q5]⟩
theorem I20536_ok : InOk Tryz.prog I20536 := InOk.of_run (K := K_NA2c) (n := 5000) mixed K_NA2c_ok (by kernel_rfl) (by as_aux_lemma => kernel_rfl)

noncomputable def I20120 : In := ⟨174, [(.ptr 8659 0), (.ptr 16510 0), zK], 21848, [q3, q25, q341, q5], (.tup [(.so 22631 0 10 3), zI]), 22681, [q3, q25, q341, q5]⟩
theorem I20120_ok : InOk Tryz.prog I20120 := InOk.of_run (K := K_NA2c) (n := 5000) mixed K_NA2c_ok (by kernel_rfl) (by as_aux_lemma => kernel_rfl)

noncomputable def I19945 : In := ⟨174, [(.ptr 8659 0), (.ptr 16510 0), zC], 21507, [q3, q25, q414, q5], (.tup [(.so 21798 0 4 3), zI]), 21848, [q3, q25, q414, q5]⟩
theorem I19945_ok : InOk Tryz.prog I19945 := InOk.of_run (K := K_NA2c) (n := 5000) mixed K_NA2c_ok (by kernel_rfl) (by as_aux_lemma => kernel_rfl)
noncomputable def H_NA2c : Hand := (Hand.at 174 (Hand.sp 22681 ((inHand I20120).or (inHand I19945)) ((inHand I20711).or (inHand I20536))))
theorem H_NA2c_ok : HandOk Tryz.prog H_NA2c := (HandOk.at 174 (HandOk.sp 22681 (HandOk.or (inHand_ok I20120_ok (by kernel_rfl)) (inHand_ok I19945_ok (by kernel_rfl))) (HandOk.or (inHand_ok I20711_ok (by kernel_rfl)) (inHand_ok I20536_ok (by kernel_rfl)))))
end Go.Proofs.YtedimikdpclpnaaGreatDoor.na
