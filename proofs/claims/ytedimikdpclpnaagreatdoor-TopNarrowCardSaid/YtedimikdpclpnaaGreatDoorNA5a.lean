/-
  Contracts of calls, by the kernel.
-/
import Derived.Test.YtedimikdpclpnaaGreatDoorXN3
import Derived.Test.YtedimikdpclpnaaGreatDoorProg
import Derived.KernelRfl
import Derived.Test.YtedimikdpclpnaaGreatDoorNA0a
import Derived.Test.YtedimikdpclpnaaGreatDoorNA0b
import Derived.Test.YtedimikdpclpnaaGreatDoorNA0e
import Derived.Test.YtedimikdpclpnaaGreatDoorNA1f
import Derived.Test.YtedimikdpclpnaaGreatDoorNA1g
import Derived.Test.YtedimikdpclpnaaGreatDoorNA2e
import Derived.Test.YtedimikdpclpnaaGreatDoorNA3a
import Derived.Test.YtedimikdpclpnaaGreatDoorNA4a
import Derived.Test.YtedimikdpclpnaaGreatDoorNA4b
set_option linter.unusedSectionVars false
set_option linter.unusedVariables false
set_option maxRecDepth 1000000
set_option maxHeartbeats 0
namespace Go.Proofs.YtedimikdpclpnaaGreatDoor.na
open Go.X Go.RowKit
variable [Tab]
noncomputable def K_NA5a : Hand := ((H_NA4b).or ((H_NA4a).or ((H_NA3a).or ((H_NA2e).or ((H_NA1g).or ((H_NA1f).or ((H_NA0e).or H_NA0b)))))))
theorem K_NA5a_ok : HandOk Tryz.prog K_NA5a := (HandOk.or H_NA4b_ok (HandOk.or H_NA4a_ok (HandOk.or H_NA3a_ok (HandOk.or H_NA2e_ok (HandOk.or H_NA1g_ok (HandOk.or H_NA1f_ok (HandOk.or H_NA0e_ok H_NA0b_ok)))))))

noncomputable def I15801 : In := ⟨162, [(.ptr 16511 0)], 16512, [q530, q562, (16510, (.cells 8 false [] (T.ofList 0 .leaf [zAG, .nils, zA, zH, zH, .nils, .nils, .nils]))), q533], (.tup []), 20643, [q530, (16509, (.cells 3 false [] (T.ofList 0 .leaf [(.so 16508 0 721 1), (.int .i64 721), zE]))), q3, q533, q25, q434, q414, q341, q321, q248, q227, q154, q133, q40, q4, q5]⟩
theorem I15801_ok : InOk Tryz.prog I15801 := InOk.of_run (K := K_NA5a) (n := 5000) mixed K_NA5a_ok (by kernel_rfl) (by as_aux_lemma => kernel_rfl)

noncomputable def I10885 : In := ⟨68, [(.ptr 8659 0)], 11911, [(8657, (.map [] 0)), q18, q645, q656, q646, q20, q647, q652, q648, q649], (.ptr 15262 0), 15483, [(8657, (.map [] 0)), q18, q645, q656, q646, q20, q647, q652, q648, q649, q505, q506, (11915, (.map [] 0)), (11916, (.map [] 0)), q516, q0, q97, q657, (15259, (.map [] 0)), (15260, (.map [] 0)), (15261, (.map [] 0)), q658, q507, q510, q511]⟩
theorem I10885_ok : InOk Tryz.prog I10885 := InOk.of_run (K := K_NA5a) (n := 5000) mixed K_NA5a_ok (by kernel_rfl) (by as_aux_lemma => kernel_rfl)

noncomputable def I3015 : In := ⟨68, [(.ptr 3 0)], 3255, [(1, (.map [] 0)), q804, q805, q817, q806, q807, q808, q813, q809, q810], (.ptr 6606 0), 6827, [(1, (.map [] 0)), q804, q805, q817, q806, q807, q808, q813, q809, q810, q796, (3258, (.cells 3 false [] (T.ofList 0 .leaf [(.ptr 3256 0), .nils, (.map 3257)]))), q823, (6602, (.cells 4 false [] (T.ofList 0 .leaf [.nils, .nils, .nils, zA]))), (6603, (.map [] 0)), (6606, (.cells 32 false [] (T.ofList 0 .leaf [(.ptr 3 0), (.ptr 3261 0), (.ptr 3256 0), (.ptr 3258 0), (.ptr 3262 0), (.ptr 6602 0), .nils, (.map 6603), (.map 6604), .nils, zC, zD, zN, zA, .nilp, zE, zA, zA, zA, zA, zA, zA, zB, zA, zH, zH, zE, zA, .nils, zA, zA, (.map 6605)]))), (6725, (.cells 1 true [] (T.ofList 0 .leaf [zBQ]))), (6821, (.cells 1 true [] (T.ofList 0 .leaf [zBQ]))), q797, q798, q799]⟩
theorem I3015_ok : InOk Tryz.prog I3015 := InOk.of_run (K := K_NA5a) (n := 5000) mixed K_NA5a_ok (by kernel_rfl) (by as_aux_lemma => kernel_rfl)
noncomputable def H_NA5a : Hand := ((Hand.at 68 ((inHand I3015).or (inHand I10885))).or (Hand.at 162 (inHand I15801)))
theorem H_NA5a_ok : HandOk Tryz.prog H_NA5a := (HandOk.or (HandOk.at 68 (HandOk.or (inHand_ok I3015_ok (by kernel_rfl)) (inHand_ok I10885_ok (by kernel_rfl)))) (HandOk.at 162 (inHand_ok I15801_ok (by kernel_rfl))))
end Go.Proofs.YtedimikdpclpnaaGreatDoor.na
