/-
  Contracts of calls, by the kernel.
-/
import Derived.Test.YtedimikdpclpnaaGreatDoorXN3
import Derived.Test.YtedimikdpclpnaaGreatDoorProg
import Derived.KernelRfl
import Derived.Test.YtedimikdpclpnaaGreatDoorNA0a
import Derived.Test.YtedimikdpclpnaaGreatDoorNA0b
import Derived.Test.YtedimikdpclpnaaGreatDoorNA0e
import Derived.Test.YtedimikdpclpnaaGreatDoorNA0f
import Derived.Test.YtedimikdpclpnaaGreatDoorNA1h
import Derived.Test.YtedimikdpclpnaaGreatDoorNA1i
import Derived.Test.YtedimikdpclpnaaGreatDoorNA2e
import Derived.Test.YtedimikdpclpnaaGreatDoorNA3a
import Derived.Test.YtedimikdpclpnaaGreatDoorNA3b
set_option linter.unusedSectionVars false
set_option linter.unusedVariables false
set_option maxRecDepth 1000000
set_option maxHeartbeats 0
namespace Go.Proofs.YtedimikdpclpnaaGreatDoor.na
open Go.X Go.RowKit
variable [Tab]
noncomputable def K_NA4a : Hand := ((H_NA3b).or ((H_NA3a).or ((H_NA2e).or ((H_NA1i).or ((H_NA1h).or ((H_NA0f).or ((H_NA0e).or H_NA0b)))))))
theorem K_NA4a_ok : HandOk Tryz.prog K_NA4a := (HandOk.or H_NA3b_ok (HandOk.or H_NA3a_ok (HandOk.or H_NA2e_ok (HandOk.or H_NA1i_ok (HandOk.or H_NA1h_ok (HandOk.or H_NA0f_ok (HandOk.or H_NA0e_ok H_NA0b_ok)))))))

noncomputable def I22539 : In := ⟨41, [(.ptr 15262 0)], 26587, [q17, q18, q19, q20, q505, q506, (11915, (.map [(zCN, zA, 0)] 1)), (11916, (.map [] 1)), q516, q508, q517, (15261, (.map [] 0)), (15262, (.cells 32 false [] (T.ofList 0 .leaf [(.ptr 8659 0), (.ptr 11917 0), (.ptr 11912 0), (.ptr 11914 0), (.ptr 11918 0), (.ptr 15258 0), (.so 26585 0 1 1), (.map 15259), (.map 15260), .nils, zC, zD, zN, zA, .nilp, zI, zS, zA, zA, zA, zA, zA, zB, zA, zH, zH, zE, zA, .nils, zA, zA, (.map 15261)]))), q507, q510, q511, q23, q103, q24, q89, q90, q3, q25, q434, q5, (26565, (.cells 2 false [] (T.ofList 0 .leaf [zK, .nils]))), q512, q513, q514, (26583, (.cells 6 false [] (T.ofList 0 .leaf [zA, zA, (.ptr 16510 0), zA, zA, .nilp]))), (26585, (.cells 1 true [] (T.ofList 0 .leaf [(.ptr 26583 0)])))], zI, 27059, [q17, q18, q19, q20, q125, q407, q518, (11916, (.map [] 2)), q516, q497, q2, q502, q503, q23, q103, q24, q89, q90, q3, q25, q434, q5, (26565, (.cells 2 false [] (T.ofList 0 .leaf [zK, .nils]))), q499, q504, (26585, (.cells 1 true [] (T.ofList 0 .leaf [(.ptr 26583 0)]))), q7, (26872, (.cells 10 false [zA] .leaf)), q50, q51, q453, q410, q500, q501]⟩
theorem I22539_ok : InOk Tryz.prog I22539 := InOk.of_run (K := K_NA4a) (n := 5000) mixed K_NA4a_ok (by kernel_rfl) (by as_aux_lemma => kernel_rfl)

noncomputable def I19018 : In := ⟨280, [(.ptr 16511 0)], 19998, [q530, q536, q535, q533, q25], (.agg [zT, (.str 4 1231708783), zCC, zI, zD, zK, (.so 20038 0 18 1), .nils, .nils]), 20420, [q530, q531, q535, q533, q25, q40]⟩
theorem I19018_ok : InOk Tryz.prog I19018 := InOk.of_run (K := K_NA4a) (n := 5000) mixed K_NA4a_ok (by kernel_rfl) (by as_aux_lemma => kernel_rfl)

noncomputable def I18549 : In := ⟨280, [(.ptr 16511 0)], 19357, [q530, q542, q541, q533, q25], (.agg [zT, (.str 4 1516921455), zCC, zI, zD, zK, (.so 19397 0 18 1), .nils, .nils]), 19779, [q530, q538, q541, q533, q25, q154]⟩
theorem I18549_ok : InOk Tryz.prog I18549 := InOk.of_run (K := K_NA4a) (n := 5000) mixed K_NA4a_ok (by kernel_rfl) (by as_aux_lemma => kernel_rfl)

noncomputable def I18084 : In := ⟨280, [(.ptr 16511 0)], 18720, [q530, q548, q547, q533, q25], (.agg [zT, (.str 4 1131045487), zCC, zI, zD, zK, (.so 18760 0 18 1), .nils, .nils]), 19142, [q530, q544, q547, q533, q25, q248]⟩
theorem I18084_ok : InOk Tryz.prog I18084 := InOk.of_run (K := K_NA4a) (n := 5000) mixed K_NA4a_ok (by kernel_rfl) (by as_aux_lemma => kernel_rfl)

noncomputable def I17623 : In := ⟨280, [(.ptr 16511 0)], 18087, [q530, q554, q553, q533, q25], (.agg [zT, (.str 4 1399480943), zCC, zI, zD, zK, (.so 18127 0 18 1), .nils, .nils]), 18509, [q530, q550, q553, q533, q25, q341]⟩
theorem I17623_ok : InOk Tryz.prog I17623 := InOk.of_run (K := K_NA4a) (n := 5000) mixed K_NA4a_ok (by kernel_rfl) (by as_aux_lemma => kernel_rfl)

noncomputable def I17166 : In := ⟨280, [(.ptr 16511 0)], 17458, [q530, (16509, (.cells 3 false [] (T.ofList 0 .leaf [(.so 16508 0 721 1), (.int .i64 329), zE]))), q559, q533, q25], (.agg [zT, (.str 4 1114268271), zCC, zI, zD, zK, (.so 17498 0 18 1), .nils, .nils]), 17880, [q530, q556, q559, q533, q25, q434]⟩
theorem I17166_ok : InOk Tryz.prog I17166 := InOk.of_run (K := K_NA4a) (n := 5000) mixed K_NA4a_ok (by kernel_rfl) (by as_aux_lemma => kernel_rfl)

noncomputable def I14451 : In := ⟨162, [(.ptr 15564 0)], 15565, [q635, q639, (15563, (.cells 8 false [] (T.ofList 0 .leaf [zAG, .nils, zA, zH, zH, .nils, .nils, .nils]))), q637], (.tup []), 16386, [q635, (15562, (.cells 3 false [] (T.ofList 0 .leaf [(.so 15561 0 258 1), (.int .i64 258), zE]))), q23, q637, q103, q24, q89, q90]⟩
theorem I14451_ok : InOk Tryz.prog I14451 := InOk.of_run (K := K_NA4a) (n := 5000) mixed K_NA4a_ok (by kernel_rfl) (by as_aux_lemma => kernel_rfl)

noncomputable def I10889 : In := ⟨102, [(.ptr 11912 0), (.ptr 11914 0), (.ptr 8659 0)], 11918, [], (.ptr 11918 0), 15258, [q0, q97]⟩
theorem I10889_ok : InOk Tryz.prog I10889 := InOk.of_run (K := K_NA4a) (n := 5000) mixed K_NA4a_ok (by kernel_rfl) (by as_aux_lemma => kernel_rfl)
noncomputable def H_NA4a : Hand := ((Hand.at 102 (inHand I10889)).or ((Hand.at 162 (inHand I14451)).or ((Hand.at 280 (Hand.sp 18720 ((inHand I17623).or (inHand I17166)) (Hand.sp 19357 (inHand I18084) ((inHand I19018).or (inHand I18549))))).or (Hand.at 41 (inHand I22539)))))
theorem H_NA4a_ok : HandOk Tryz.prog H_NA4a := (HandOk.or (HandOk.at 102 (inHand_ok I10889_ok (by kernel_rfl))) (HandOk.or (HandOk.at 162 (inHand_ok I14451_ok (by kernel_rfl))) (HandOk.or (HandOk.at 280 (HandOk.sp 18720 (HandOk.or (inHand_ok I17623_ok (by kernel_rfl)) (inHand_ok I17166_ok (by kernel_rfl))) (HandOk.sp 19357 (inHand_ok I18084_ok (by kernel_rfl)) (HandOk.or (inHand_ok I19018_ok (by kernel_rfl)) (inHand_ok I18549_ok (by kernel_rfl)))))) (HandOk.at 41 (inHand_ok I22539_ok (by kernel_rfl))))))
end Go.Proofs.YtedimikdpclpnaaGreatDoor.na
