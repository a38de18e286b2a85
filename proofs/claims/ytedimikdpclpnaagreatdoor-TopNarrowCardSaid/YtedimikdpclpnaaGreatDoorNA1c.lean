/-
  Contracts of calls, by the kernel.
-/
import Derived.Test.YtedimikdpclpnaaGreatDoorXN3
import Derived.Test.YtedimikdpclpnaaGreatDoorProg
import Derived.KernelRfl
import Derived.Test.YtedimikdpclpnaaGreatDoorNA0a
import Derived.Test.YtedimikdpclpnaaGreatDoorNA0b
set_option linter.unusedSectionVars false
set_option linter.unusedVariables false
set_option maxRecDepth 1000000
set_option maxHeartbeats 0
namespace Go.Proofs.YtedimikdpclpnaaGreatDoor.na
open Go.X Go.RowKit
variable [Tab]
noncomputable def K_NA1c : Hand := ((H_NA0b).or H_NA0a)
theorem K_NA1c_ok : HandOk Tryz.prog K_NA1c := (HandOk.or H_NA0b_ok H_NA0a_ok)

noncomputable def I24382 : In := ⟨41, [(.ptr 15262 0)], 28704, [q60, q370, q371, q3, q341, q5, q372, q368, q76, q373, q344], zI, 28741, [q39, q365, q366, q3, q341, q5, q367, q368, q76, q369, q344]⟩
theorem I24382_ok : InOk Tryz.prog I24382 := InOk.of_run (K := K_NA1c) (n := 5000) mixed K_NA1c_ok (by kernel_rfl) (by as_aux_lemma => kernel_rfl)

noncomputable def I24356 : In := ⟨41, [(.ptr 15262 0)], 28663, [q39, q374, q375, q3, q341, q5, q376, q377, q86, q378, q344], zI, 28704, [q60, q370, q371, q3, q341, q5, q372, q368, q76, q373, q344]⟩
theorem I24356_ok : InOk Tryz.prog I24356 := InOk.of_run (K := K_NA1c) (n := 5000) mixed K_NA1c_ok (by kernel_rfl) (by as_aux_lemma => kernel_rfl)

noncomputable def I24322 : In := ⟨65, [(.ptr 15262 0), (.ptr 28431 0)], 28597, [q88, (15262, (.cells 32 false [] (T.ofList 0 .leaf [(.ptr 8659 0), (.ptr 11917 0), (.ptr 11912 0), (.ptr 11914 0), (.ptr 11918 0), (.ptr 15258 0), (.so 28433 0 2 1), (.map 15259), (.map 15260), .nils, zC, zD, zN, zA, .nilp, zI, zS, zN, zC, zC, zA, zA, zB, zA, zH, zH, zE, zA, .nils, zA, zA, (.map 15261)]))), q23, q89, q90, q3, q341, q5, q379, q377, q86, q380, q381, q344], (.tup []), 28663, [q39, (15262, (.cells 32 false [] (T.ofList 0 .leaf [(.ptr 8659 0), (.ptr 11917 0), (.ptr 11912 0), (.ptr 11914 0), (.ptr 11918 0), (.ptr 15258 0), (.so 28433 0 1 1), (.map 15259), (.map 15260), .nils, zC, zD, zN, zA, .nilp, zI, zS, zN, zC, zC, zA, zA, zB, zA, zH, zH, zE, zA, .nils, zA, zA, (.map 15261)]))), q23, q89, q90, q3, q341, q5, q376, q377, q86, q378, q381, q344]⟩
theorem I24322_ok : InOk Tryz.prog I24322 := InOk.of_run (K := K_NA1c) (n := 5000) mixed K_NA1c_ok (by kernel_rfl) (by as_aux_lemma => kernel_rfl)

noncomputable def I24250 : In := ⟨332, [(.ptr 15262 0), (.ptr 28431 0), (.agg [zG, zAB, zBS, zG, zA, zE]), zC, zE], 28543, [q17, q18, q19, q20, q314, q0, q97, q98, q385, q23, q89, q90, q51, q386, q377, q86, q361, q319, q387], (.tup []), 28596, [q17, q18, q19, q20, q314, q0, q97, q88, q385, q23, q89, q90, q51, q379, q377, q86, q361, q319, q384]⟩
theorem I24250_ok : InOk Tryz.prog I24250 := InOk.of_run (K := K_NA1c) (n := 5000) mixed K_NA1c_ok (by kernel_rfl) (by as_aux_lemma => kernel_rfl)

noncomputable def I24132 : In := ⟨41, [(.ptr 15262 0)], 28435, [q88, q392, q393, q23, q89, q90, q394, q395, q86, q396, q344], zI, 28472, [q98, q388, q389, q23, q89, q90, q390, q377, q86, q391, q344]⟩
theorem I24132_ok : InOk Tryz.prog I24132 := InOk.of_run (K := K_NA1c) (n := 5000) mixed K_NA1c_ok (by kernel_rfl) (by as_aux_lemma => kernel_rfl)

noncomputable def I24022 : In := ⟨41, [(.ptr 15262 0)], 28355, [q17, q18, q19, q20, q314, q65, q113, q397, q398, q23, q89, q90, q3, q25, q341, q5, q51, q399, q395, q86, q400, (28190, (.cells 1 true [] (T.ofList 0 .leaf [(.ptr 28188 0)]))), q361, q319], zI, 28435, [q17, q18, q19, q20, q314, q88, q113, q392, q393, q23, q89, q90, q3, q25, q341, q5, q51, q394, q395, q86, q380, q361, q319, q396, q344]⟩
theorem I24022_ok : InOk Tryz.prog I24022 := InOk.of_run (K := K_NA1c) (n := 5000) mixed K_NA1c_ok (by kernel_rfl) (by as_aux_lemma => kernel_rfl)

noncomputable def I23988 : In := ⟨65, [(.ptr 15262 0), (.ptr 28188 0)], 28305, [q39, q401, q3, q341, q5, q402, q403, q121, (28188, (.cells 6 false [] (T.ofList 0 .leaf [zA, zC, (.ptr 16510 0), zK, zD, .nilp])))], (.tup []), 28355, [q65, q401, q3, q341, q5, q399, q395, q86, q400]⟩
theorem I23988_ok : InOk Tryz.prog I23988 := InOk.of_run (K := K_NA1c) (n := 5000) mixed K_NA1c_ok (by kernel_rfl) (by as_aux_lemma => kernel_rfl)

noncomputable def I23947 : In := ⟨333, [(.ptr 15262 0), (.ptr 28188 0), zA, (.fn (.func 334) [] [(.ptr 28234 0), (.ptr 28235 0)])], 28243, [q17, q18, q19, q20, q125, q407, q60, q408, q23, q24, q3, q341, q5, q50, q51, q409, q410, q411, q412, q10, (28188, (.cells 6 false [] (T.ofList 0 .leaf [zA, zC, (.ptr 16510 0), zK, zA, .nilp]))), (28234, (.cells 1 false [] (T.ofList 0 .leaf [(.ptr 15262 0)]))), (28235, (.cells 1 false [] (T.ofList 0 .leaf [zDA])))], (.tup []), 28304, [q17, q18, q19, q20, q125, q314, q39, q408, q23, q24, q3, q341, q5, q50, q51, q402, q403, q121, q406, (28234, (.cells 1 false [] (T.ofList 0 .leaf [(.ptr 15262 0)]))), (28235, (.cells 1 false [] (T.ofList 0 .leaf [zDA]))), q361, q319]⟩
theorem I23947_ok : InOk Tryz.prog I23947 := InOk.of_run (K := K_NA1c) (n := 5000) mixed K_NA1c_ok (by kernel_rfl) (by as_aux_lemma => kernel_rfl)

noncomputable def I23801 : In := ⟨65, [(.ptr 15262 0), (.ptr 27876 0)], 28078, [q0, q1, q2, (15262, (.cells 32 false [] (T.ofList 0 .leaf [(.ptr 8659 0), (.ptr 11917 0), (.ptr 11912 0), (.ptr 11914 0), (.ptr 11918 0), (.ptr 15258 0), (.so 27878 0 1 1), (.map 15259), (.map 15260), .nils, zC, zD, zN, zA, .nilp, zI, zS, zF, zC, zC, zA, zA, zB, zA, zH, zH, zE, zA, .nils, zA, zA, (.map 15261)]))), q3, q414, q5, q6, (26565, (.cells 2 false [] (T.ofList 0 .leaf [zK, .nils]))), q7, q415, q416, q10, q417, (27878, (.cells 1 true [] (T.ofList 0 .leaf [(.ptr 27876 0)])))], (.tup []), 28131, [q0, q12, q2, (15262, (.cells 32 false [] (T.ofList 0 .leaf [(.ptr 8659 0), (.ptr 11917 0), (.ptr 11912 0), (.ptr 11914 0), (.ptr 11918 0), (.ptr 15258 0), .nils, (.map 15259), (.map 15260), .nils, zC, zD, zN, zA, .nilp, zE, zS, zF, zC, zC, zA, zC, zBY, (.oi 11), zH, zH, zE, zF, .nils, zA, zC, (.map 15261)]))), q3, q414, q5, q6, (26565, (.cells 2 false [] (T.ofList 0 .leaf [zK, .nils]))), q7, q418, q416, q10, q417, (27878, (.cells 1 true [] (T.ofList 0 .leaf [(.ptr 27876 0)])))]⟩
theorem I23801_ok : InOk Tryz.prog I23801 := InOk.of_run (K := K_NA1c) (n := 5000) mixed K_NA1c_ok (by kernel_rfl) (by as_aux_lemma => kernel_rfl)

noncomputable def I23736 : In := ⟨142, [(.ptr 15262 0), (.ptr 27876 0), (.agg [zF, zD, (.int .i64 178), zE, zBZ, zA, .nils, .nils])], 28031, [q17, q18, q19, q20, q21, q2, q422, q23, q24, q3, q25, q414, q5, q7, (26872, (.cells 10 false [zA] (ofPairs [(1, (.oi 11))]))), (27188, (.cells 14 true [] (T.ofList 0 .leaf [zA, zC, zF, zA, zC, zC, zA, zC, zA, zF, zD, zC, zC, zA]))), q423, q10, (27876, (.cells 6 false [] (T.ofList 0 .leaf [zA, zC, (.ptr 16510 0), zC, zF, .nilp])))], (.tup []), 28077, [q17, q18, q19, q20, q1, q2, q422, q23, q24, q3, q25, q414, q5, q7, (26872, (.cells 10 false [zA] (ofPairs [(1, (.oi 11))]))), q415, q416, q10, q421]⟩
theorem I23736_ok : InOk Tryz.prog I23736 := InOk.of_run (K := K_NA1c) (n := 5000) mixed K_NA1c_ok (by kernel_rfl) (by as_aux_lemma => kernel_rfl)

noncomputable def I23520 : In := ⟨65, [(.ptr 15262 0), (.ptr 26583 0)], 27782, [q0, q39, q2, (15262, (.cells 32 false [] (T.ofList 0 .leaf [(.ptr 8659 0), (.ptr 11917 0), (.ptr 11912 0), (.ptr 11914 0), (.ptr 11918 0), (.ptr 15258 0), (.so 27191 0 1 1), (.map 15259), (.map 15260), .nils, zC, zD, zN, zA, .nilp, zI, zS, zAZ, zC, zC, zA, zA, zB, zA, zH, zH, zE, zA, .nils, zA, zA, (.map 15261)]))), q3, q434, q5, q6, (26565, (.cells 2 false [] (T.ofList 0 .leaf [zK, .nils]))), q435, q7, q436, q437, q433, q38], (.tup []), 27835, [q0, q12, q2, (15262, (.cells 32 false [] (T.ofList 0 .leaf [(.ptr 8659 0), (.ptr 11917 0), (.ptr 11912 0), (.ptr 11914 0), (.ptr 11918 0), (.ptr 15258 0), .nils, (.map 15259), (.map 15260), .nils, zC, zD, zN, zA, .nilp, zE, zS, zAZ, zC, zC, zA, zC, zBY, (.oi 13), zH, zH, zE, zAZ, .nils, zA, zC, (.map 15261)]))), q3, q434, q5, q6, (26565, (.cells 2 false [] (T.ofList 0 .leaf [zK, .nils]))), q435, q7, q438, q437, q433, q38]⟩
theorem I23520_ok : InOk Tryz.prog I23520 := InOk.of_run (K := K_NA1c) (n := 5000) mixed K_NA1c_ok (by kernel_rfl) (by as_aux_lemma => kernel_rfl)

noncomputable def I23378 : In := ⟨41, [(.ptr 15262 0)], 27635, [q60, q448, q449, q3, q434, q5, q450, q451, q437, q444, q54], zI, 27672, [q39, q445, q446, q3, q434, q5, q447, q443, q437, q444, q54]⟩
theorem I23378_ok : InOk Tryz.prog I23378 := InOk.of_run (K := K_NA1c) (n := 5000) mixed K_NA1c_ok (by kernel_rfl) (by as_aux_lemma => kernel_rfl)

noncomputable def I23215 : In := ⟨41, [(.ptr 15262 0)], 27464, [q60, q463, q464, q3, q434, q5, q465, q466, q437, q462, q76], zI, 27501, [q39, q458, q459, q3, q434, q5, q460, q461, q437, q462, q76]⟩
theorem I23215_ok : InOk Tryz.prog I23215 := InOk.of_run (K := K_NA1c) (n := 5000) mixed K_NA1c_ok (by kernel_rfl) (by as_aux_lemma => kernel_rfl)

noncomputable def I23189 : In := ⟨41, [(.ptr 15262 0)], 27423, [q39, q467, q468, q3, q434, q5, q469, q470, q437, q471, q86], zI, 27464, [q60, q463, q464, q3, q434, q5, q465, q466, q437, q462, q76]⟩
theorem I23189_ok : InOk Tryz.prog I23189 := InOk.of_run (K := K_NA1c) (n := 5000) mixed K_NA1c_ok (by kernel_rfl) (by as_aux_lemma => kernel_rfl)

noncomputable def I23155 : In := ⟨65, [(.ptr 15262 0), (.ptr 27189 0)], 27357, [q88, (15262, (.cells 32 false [] (T.ofList 0 .leaf [(.ptr 8659 0), (.ptr 11917 0), (.ptr 11912 0), (.ptr 11914 0), (.ptr 11918 0), (.ptr 15258 0), (.so 27191 0 2 1), (.map 15259), (.map 15260), .nils, zC, zD, zN, zA, .nilp, zI, zS, zN, zC, zC, zA, zA, zB, zA, zH, zH, zE, zA, .nils, zA, zA, (.map 15261)]))), q23, q89, q90, q3, q434, q5, q472, q473, q474, q437, q471, q86], (.tup []), 27423, [q39, (15262, (.cells 32 false [] (T.ofList 0 .leaf [(.ptr 8659 0), (.ptr 11917 0), (.ptr 11912 0), (.ptr 11914 0), (.ptr 11918 0), (.ptr 15258 0), (.so 27191 0 1 1), (.map 15259), (.map 15260), .nils, zC, zD, zN, zA, .nilp, zI, zS, zN, zC, zC, zA, zA, zB, zA, zH, zH, zE, zA, .nils, zA, zA, (.map 15261)]))), q23, q89, q90, q3, q434, q5, q469, q470, q474, q437, q471, q86]⟩
theorem I23155_ok : InOk Tryz.prog I23155 := InOk.of_run (K := K_NA1c) (n := 5000) mixed K_NA1c_ok (by kernel_rfl) (by as_aux_lemma => kernel_rfl)

noncomputable def I23085 : In := ⟨332, [(.ptr 15262 0), (.ptr 27189 0), (.agg [zG, zAB, zBS, zG, zA, zE]), zC, zE], 27303, [q17, q18, q19, q20, q407, q0, q97, q98, q478, q23, q89, q90, q51, q453, q410, q479, q480, q471, q86], (.tup []), 27356, [q17, q18, q19, q20, q407, q0, q97, q88, q478, q23, q89, q90, q51, q453, q410, q473, q477, q471, q86]⟩
theorem I23085_ok : InOk Tryz.prog I23085 := InOk.of_run (K := K_NA1c) (n := 5000) mixed K_NA1c_ok (by kernel_rfl) (by as_aux_lemma => kernel_rfl)

noncomputable def I22969 : In := ⟨41, [(.ptr 15262 0)], 27193, [q485, q486, q487, q23, q89, q90, q488, q489, q490, q491, q437], zI, 27232, [q98, q481, q482, q23, q89, q90, q483, q484, q437, q471, q86]⟩
theorem I22969_ok : InOk Tryz.prog I22969 := InOk.of_run (K := K_NA1c) (n := 5000) mixed K_NA1c_ok (by kernel_rfl) (by as_aux_lemma => kernel_rfl)

noncomputable def I22861 : In := ⟨41, [(.ptr 15262 0)], 27112, [q17, q18, q19, q20, q407, q492, (15260, (.map [(zCN, zA, 0)] 1)), q493, q494, q23, q89, q90, q3, q25, q434, q5, q495, q496, (26585, (.cells 1 true [] (T.ofList 0 .leaf [(.ptr 26583 0)]))), q51, q453, q410, q488, q489], zI, 27193, [q17, q18, q19, q20, q407, q485, q113, q486, q487, q23, q89, q90, q3, q25, q434, q5, q472, q51, q453, q410, q488, q489, q490, q491, q437]⟩
theorem I22861_ok : InOk Tryz.prog I22861 := InOk.of_run (K := K_NA1c) (n := 5000) mixed K_NA1c_ok (by kernel_rfl) (by as_aux_lemma => kernel_rfl)

noncomputable def I22827 : In := ⟨65, [(.ptr 15262 0), (.ptr 26583 0)], 27060, [q497, q498, q3, q434, q5, q499, (26583, (.cells 6 false [] (T.ofList 0 .leaf [zA, zC, (.ptr 16510 0), zA, zD, .nilp]))), q500, q501], (.tup []), 27112, [q492, q498, q3, q434, q5, q495, q496, q488, q489]⟩
theorem I22827_ok : InOk Tryz.prog I22827 := InOk.of_run (K := K_NA1c) (n := 5000) mixed K_NA1c_ok (by kernel_rfl) (by as_aux_lemma => kernel_rfl)

noncomputable def I22718 : In := ⟨333, [(.ptr 15262 0), (.ptr 26583 0), zA, (.fn (.func 334) [] [(.ptr 26629 0), (.ptr 26630 0)])], 26886, [q17, q18, q19, q20, q505, q506, q508, q509, q507, q510, q511, q23, q24, q3, q434, q5, q512, q513, q514, q515, (26629, (.cells 1 false [] (T.ofList 0 .leaf [(.ptr 15262 0)]))), (26630, (.cells 1 false [] (T.ofList 0 .leaf [zDA])))], (.tup []), 27059, [q17, q18, q19, q20, q125, q407, q497, q509, q23, q24, q3, q434, q5, q499, q504, (26629, (.cells 1 false [] (T.ofList 0 .leaf [(.ptr 15262 0)]))), (26630, (.cells 1 false [] (T.ofList 0 .leaf [zDA]))), q50, q51, q453, q410, q500, q501]⟩
theorem I22718_ok : InOk Tryz.prog I22718 := InOk.of_run (K := K_NA1c) (n := 5000) mixed K_NA1c_ok (by kernel_rfl) (by as_aux_lemma => kernel_rfl)

noncomputable def I22587 : In := ⟨293, [(.so 16259 0 5 1)], 26643, [q89], (.tup [(.so 26708 0 3 8), zI]), 26709, [q89, (26708, (.cells 24 true [] (T.ofList 0 .leaf [zA, zC, (.int .i64 42), zE, zA, zA, .nils, .nils, zC, zD, zED, zE, zN, zA, .nils, .nils, zF, zC, (.int .i64 177), zE, zA, zA, .nils, .nils])))]⟩
theorem I22587_ok : InOk Tryz.prog I22587 := InOk.of_run (K := K_NA1c) (n := 5000) mixed K_NA1c_ok (by kernel_rfl) (by as_aux_lemma => kernel_rfl)
noncomputable def H_NA1c : Hand := ((Hand.at 293 (inHand I22587)).or ((Hand.at 142 (inHand I23736)).or ((Hand.at 333 ((inHand I22718).or (inHand I23947))).or ((Hand.at 332 ((inHand I23085).or (inHand I24250))).or ((Hand.at 65 (Hand.sp 28078 (Hand.sp 27357 (inHand I22827) ((inHand I23520).or (inHand I23155))) (Hand.sp 28305 (inHand I23801) ((inHand I24322).or (inHand I23988))))).or (Hand.at 41 (Hand.sp 27635 (Hand.sp 27423 ((inHand I22969).or (inHand I22861)) ((inHand I23215).or (inHand I23189))) (Hand.sp 28435 ((inHand I24022).or (inHand I23378)) (Hand.sp 28663 (inHand I24132) ((inHand I24382).or (inHand I24356)))))))))))
theorem H_NA1c_ok : HandOk Tryz.prog H_NA1c := (HandOk.or (HandOk.at 293 (inHand_ok I22587_ok (by kernel_rfl))) (HandOk.or (HandOk.at 142 (inHand_ok I23736_ok (by kernel_rfl))) (HandOk.or (HandOk.at 333 (HandOk.or (inHand_ok I22718_ok (by kernel_rfl)) (inHand_ok I23947_ok (by kernel_rfl)))) (HandOk.or (HandOk.at 332 (HandOk.or (inHand_ok I23085_ok (by kernel_rfl)) (inHand_ok I24250_ok (by kernel_rfl)))) (HandOk.or (HandOk.at 65 (HandOk.sp 28078 (HandOk.sp 27357 (inHand_ok I22827_ok (by kernel_rfl)) (HandOk.or (inHand_ok I23520_ok (by kernel_rfl)) (inHand_ok I23155_ok (by kernel_rfl)))) (HandOk.sp 28305 (inHand_ok I23801_ok (by kernel_rfl)) (HandOk.or (inHand_ok I24322_ok (by kernel_rfl)) (inHand_ok I23988_ok (by kernel_rfl)))))) (HandOk.at 41 (HandOk.sp 27635 (HandOk.sp 27423 (HandOk.or (inHand_ok I22969_ok (by kernel_rfl)) (inHand_ok I22861_ok (by kernel_rfl))) (HandOk.or (inHand_ok I23215_ok (by kernel_rfl)) (inHand_ok I23189_ok (by kernel_rfl)))) (HandOk.sp 28435 (HandOk.or (inHand_ok I24022_ok (by kernel_rfl)) (inHand_ok I23378_ok (by kernel_rfl))) (HandOk.sp 28663 (inHand_ok I24132_ok (by kernel_rfl)) (HandOk.or (inHand_ok I24382_ok (by kernel_rfl)) (inHand_ok I24356_ok (by kernel_rfl))))))))))))
end Go.Proofs.YtedimikdpclpnaaGreatDoor.na
