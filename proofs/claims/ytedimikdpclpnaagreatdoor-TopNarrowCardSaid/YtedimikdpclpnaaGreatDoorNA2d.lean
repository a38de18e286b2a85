/-
  Contracts of calls, by the kernel.
-/
import Derived.Test.YtedimikdpclpnaaGreatDoorXN3
import Derived.Test.YtedimikdpclpnaaGreatDoorProg
import Derived.KernelRfl
import Derived.Test.YtedimikdpclpnaaGreatDoorNA0a
import Derived.Test.YtedimikdpclpnaaGreatDoorNA0b
import Derived.Test.YtedimikdpclpnaaGreatDoorNA1e
import Derived.Test.YtedimikdpclpnaaGreatDoorNA1f
set_option linter.unusedSectionVars false
set_option linter.unusedVariables false
set_option maxRecDepth 1000000
set_option maxHeartbeats 0
namespace Go.Proofs.YtedimikdpclpnaaGreatDoor.na
open Go.X Go.RowKit
variable [Tab]
noncomputable def K_NA2d : Hand := ((H_NA1f).or ((H_NA1e).or ((H_NA0b).or H_NA0a)))
theorem K_NA2d_ok : HandOk Tryz.prog K_NA2d := (HandOk.or H_NA1f_ok (HandOk.or H_NA1e_ok (HandOk.or H_NA0b_ok H_NA0a_ok)))

noncomputable def I19529 : In := ⟨174, [(.ptr 8659 0), (.ptr 16510 0), zA], 20674, [q3, q25, q434, q5], (.tup [(.so 21457 0 10 3), zI]), 21507, [q3, q25, q434, q5]⟩
theorem I19529_ok : InOk Tryz.prog I19529 := InOk.of_run (K := K_NA2d) (n := 5000) mixed K_NA2d_ok (by kernel_rfl) (by as_aux_lemma => kernel_rfl)

noncomputable def I19398 : In := ⟨379, [(.so 20464 0 20 1), (.sl 16512 0 58 58), zAG, zC], 20466, [q25, q529], (.tup [(.agg [zC, zC, (.so 20473 0 8 1), .nils, .nils]), zI]), 20629, [q25, q529, q4]⟩
theorem I19398_ok : InOk Tryz.prog I19398 := InOk.of_run (K := K_NA2d) (n := 5000) mixed K_NA2d_ok (by kernel_rfl) (by as_aux_lemma => kernel_rfl)

noncomputable def I19136 : In := ⟨438, [(.ptr 20036 0)], 20039, [q25, (20035, (.map [] 0)), q534, q40], zI, 20420, [q25, (20035, (.map [(zA, zC, 0), (zD, zC, 1), (zF, zC, 2), (zAL, zC, 3), (zAH, zC, 4), (zT, zC, 5), (zJ, zC, 6), (zAZ, zC, 7), (zBT, zC, 8), (zBX, zC, 9)] 10)), q534, q40]⟩
theorem I19136_ok : InOk Tryz.prog I19136 := InOk.of_run (K := K_NA2d) (n := 5000) mixed K_NA2d_ok (by kernel_rfl) (by as_aux_lemma => kernel_rfl)

noncomputable def I18927 : In := ⟨379, [(.so 19821 0 20 1), (.sl 16512 0 58 58), zAG, zC], 19823, [q25, q537], (.tup [(.agg [zC, zC, (.so 19830 0 8 1), .nils, .nils]), zI]), 19986, [q25, q537, q133]⟩
theorem I18927_ok : InOk Tryz.prog I18927 := InOk.of_run (K := K_NA2d) (n := 5000) mixed K_NA2d_ok (by kernel_rfl) (by as_aux_lemma => kernel_rfl)

noncomputable def I18667 : In := ⟨438, [(.ptr 19395 0)], 19398, [q25, (19394, (.map [] 0)), q540, q154], zI, 19779, [q25, (19394, (.map [(zA, zC, 0), (zD, zC, 1), (zF, zC, 2), (zAL, zC, 3), (zAH, zC, 4), (zT, zC, 5), (zJ, zC, 6), (zAZ, zC, 7), (zBT, zC, 8), (zBX, zC, 9)] 10)), q540, q154]⟩
theorem I18667_ok : InOk Tryz.prog I18667 := InOk.of_run (K := K_NA2d) (n := 5000) mixed K_NA2d_ok (by kernel_rfl) (by as_aux_lemma => kernel_rfl)

noncomputable def I18460 : In := ⟨379, [(.so 19182 0 20 1), (.sl 16512 0 58 58), zAG, zC], 19184, [q25, q543], (.tup [(.agg [zC, zC, (.so 19191 0 8 1), .nils, .nils]), zI]), 19347, [q25, q543, q227]⟩
theorem I18460_ok : InOk Tryz.prog I18460 := InOk.of_run (K := K_NA2d) (n := 5000) mixed K_NA2d_ok (by kernel_rfl) (by as_aux_lemma => kernel_rfl)

noncomputable def I18202 : In := ⟨438, [(.ptr 18758 0)], 18761, [q25, (18757, (.map [] 0)), q546, q248], zI, 19142, [q25, (18757, (.map [(zA, zC, 0), (zD, zC, 1), (zF, zC, 2), (zAL, zC, 3), (zAH, zC, 4), (zT, zC, 5), (zJ, zC, 6), (zAZ, zC, 7), (zBT, zC, 8), (zBX, zC, 9)] 10)), q546, q248]⟩
theorem I18202_ok : InOk Tryz.prog I18202 := InOk.of_run (K := K_NA2d) (n := 5000) mixed K_NA2d_ok (by kernel_rfl) (by as_aux_lemma => kernel_rfl)

noncomputable def I17997 : In := ⟨379, [(.so 18547 0 20 1), (.sl 16512 0 58 58), zAG, zC], 18549, [q25, q549], (.tup [(.agg [zC, zC, (.so 18556 0 8 1), .nils, .nils]), zI]), 18712, [q25, q549, q321]⟩
theorem I17997_ok : InOk Tryz.prog I17997 := InOk.of_run (K := K_NA2d) (n := 5000) mixed K_NA2d_ok (by kernel_rfl) (by as_aux_lemma => kernel_rfl)

noncomputable def I17741 : In := ⟨438, [(.ptr 18125 0)], 18128, [q25, (18124, (.map [] 0)), q552, q341], zI, 18509, [q25, (18124, (.map [(zA, zC, 0), (zD, zC, 1), (zF, zC, 2), (zAL, zC, 3), (zAH, zC, 4), (zT, zC, 5), (zJ, zC, 6), (zAZ, zC, 7), (zBT, zC, 8), (zBX, zC, 9)] 10)), q552, q341]⟩
theorem I17741_ok : InOk Tryz.prog I17741 := InOk.of_run (K := K_NA2d) (n := 5000) mixed K_NA2d_ok (by kernel_rfl) (by as_aux_lemma => kernel_rfl)

noncomputable def I17538 : In := ⟨379, [(.so 17916 0 20 1), (.sl 16512 0 58 58), zAG, zC], 17918, [q25, q555], (.tup [(.agg [zC, zC, (.so 17925 0 8 1), .nils, .nils]), zI]), 18081, [q25, q555, q414]⟩
theorem I17538_ok : InOk Tryz.prog I17538 := InOk.of_run (K := K_NA2d) (n := 5000) mixed K_NA2d_ok (by kernel_rfl) (by as_aux_lemma => kernel_rfl)
noncomputable def H_NA2d : Hand := ((Hand.at 438 (Hand.sp 19398 ((inHand I18202).or (inHand I17741)) ((inHand I19136).or (inHand I18667)))).or ((Hand.at 379 (Hand.sp 19184 ((inHand I17997).or (inHand I17538)) (Hand.sp 19823 (inHand I18460) ((inHand I19398).or (inHand I18927))))).or (Hand.at 174 (inHand I19529))))
theorem H_NA2d_ok : HandOk Tryz.prog H_NA2d := (HandOk.or (HandOk.at 438 (HandOk.sp 19398 (HandOk.or (inHand_ok I18202_ok (by kernel_rfl)) (inHand_ok I17741_ok (by kernel_rfl))) (HandOk.or (inHand_ok I19136_ok (by kernel_rfl)) (inHand_ok I18667_ok (by kernel_rfl))))) (HandOk.or (HandOk.at 379 (HandOk.sp 19184 (HandOk.or (inHand_ok I17997_ok (by kernel_rfl)) (inHand_ok I17538_ok (by kernel_rfl))) (HandOk.sp 19823 (inHand_ok I18460_ok (by kernel_rfl)) (HandOk.or (inHand_ok I19398_ok (by kernel_rfl)) (inHand_ok I18927_ok (by kernel_rfl)))))) (HandOk.at 174 (inHand_ok I19529_ok (by kernel_rfl)))))
end Go.Proofs.YtedimikdpclpnaaGreatDoor.na
