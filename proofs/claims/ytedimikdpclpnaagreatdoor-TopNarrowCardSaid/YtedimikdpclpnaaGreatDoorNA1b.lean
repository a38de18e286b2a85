/-
  Contracts of calls, by the kernel.
-/
import Derived.Test.YtedimikdpclpnaaGreatDoorXN3
import Derived.Test.YtedimikdpclpnaaGreatDoorProg
import Derived.KernelRfl
import Derived.Test.YtedimikdpclpnaaGreatDoorNA0a
import Derived.Test.YtedimikdpclpnaaGreatDoorNA0b
set_option linter.unusedSectionVars false
set_option linter.unusedVariables false
set_option maxRecDepth 1000000
set_option maxHeartbeats 0
namespace Go.Proofs.YtedimikdpclpnaaGreatDoor.na
open Go.X Go.RowKit
variable [Tab]
noncomputable def K_NA1b : Hand := ((H_NA0b).or H_NA0a)
theorem K_NA1b_ok : HandOk Tryz.prog K_NA1b := (HandOk.or H_NA0b_ok H_NA0a_ok)

noncomputable def I26694 : In := ⟨41, [(.ptr 15262 0)], 31107, [q88, q205, q206, q23, q89, q90, q207, q208, q86, q209, q157], zI, 31144, [q98, q201, q202, q23, q89, q90, q203, q190, q86, q204, q157]⟩
theorem I26694_ok : InOk Tryz.prog I26694 := InOk.of_run (K := K_NA1b) (n := 5000) mixed K_NA1b_ok (by kernel_rfl) (by as_aux_lemma => kernel_rfl)

noncomputable def I26584 : In := ⟨41, [(.ptr 15262 0)], 31027, [q17, q18, q19, q20, q126, q65, q113, q210, q211, q23, q89, q90, q3, q25, q154, q5, q51, q212, q208, q86, q213, (30862, (.cells 1 true [] (T.ofList 0 .leaf [(.ptr 30860 0)]))), q174, q131], zI, 31107, [q17, q18, q19, q20, q126, q88, q113, q205, q206, q23, q89, q90, q3, q25, q154, q5, q51, q207, q208, q86, q193, q174, q131, q209, q157]⟩
theorem I26584_ok : InOk Tryz.prog I26584 := InOk.of_run (K := K_NA1b) (n := 5000) mixed K_NA1b_ok (by kernel_rfl) (by as_aux_lemma => kernel_rfl)

noncomputable def I26550 : In := ⟨65, [(.ptr 15262 0), (.ptr 30860 0)], 30977, [q39, q214, q3, q154, q5, q215, q216, q121, (30860, (.cells 6 false [] (T.ofList 0 .leaf [zA, zC, (.ptr 16510 0), zN, zD, .nilp])))], (.tup []), 31027, [q65, q214, q3, q154, q5, q212, q208, q86, q213]⟩
theorem I26550_ok : InOk Tryz.prog I26550 := InOk.of_run (K := K_NA1b) (n := 5000) mixed K_NA1b_ok (by kernel_rfl) (by as_aux_lemma => kernel_rfl)

noncomputable def I26509 : In := ⟨333, [(.ptr 15262 0), (.ptr 30860 0), zA, (.fn (.func 334) [] [(.ptr 30906 0), (.ptr 30907 0)])], 30915, [q17, q18, q19, q20, q125, q220, q60, q221, q23, q24, q3, q154, q5, q50, q51, q222, q223, q10, q224, q225, (30860, (.cells 6 false [] (T.ofList 0 .leaf [zA, zC, (.ptr 16510 0), zN, zA, .nilp]))), (30906, (.cells 1 false [] (T.ofList 0 .leaf [(.ptr 15262 0)]))), (30907, (.cells 1 false [] (T.ofList 0 .leaf [zDA])))], (.tup []), 30976, [q17, q18, q19, q20, q125, q126, q39, q221, q23, q24, q3, q154, q5, q50, q51, q215, q216, q121, q219, (30906, (.cells 1 false [] (T.ofList 0 .leaf [(.ptr 15262 0)]))), (30907, (.cells 1 false [] (T.ofList 0 .leaf [zDA]))), q174, q131]⟩
theorem I26509_ok : InOk Tryz.prog I26509 := InOk.of_run (K := K_NA1b) (n := 5000) mixed K_NA1b_ok (by kernel_rfl) (by as_aux_lemma => kernel_rfl)

noncomputable def I26303 : In := ⟨65, [(.ptr 15262 0), (.ptr 30484 0)], 30694, [q0, q1, q2, (15262, (.cells 32 false [] (T.ofList 0 .leaf [(.ptr 8659 0), (.ptr 11917 0), (.ptr 11912 0), (.ptr 11914 0), (.ptr 11918 0), (.ptr 15258 0), (.so 30486 0 1 1), (.map 15259), (.map 15260), .nils, zC, zD, zN, zA, .nilp, zI, zS, zF, zC, zC, zA, zA, zB, zA, zH, zH, zE, zA, .nils, zA, zA, (.map 15261)]))), q3, q227, q5, q6, (26565, (.cells 2 false [] (T.ofList 0 .leaf [zK, .nils]))), q7, q228, q229, q10, q230, (30486, (.cells 1 true [] (T.ofList 0 .leaf [(.ptr 30484 0)])))], (.tup []), 30747, [q0, q12, q2, (15262, (.cells 32 false [] (T.ofList 0 .leaf [(.ptr 8659 0), (.ptr 11917 0), (.ptr 11912 0), (.ptr 11914 0), (.ptr 11918 0), (.ptr 15258 0), .nils, (.map 15259), (.map 15260), .nils, zC, zD, zN, zA, .nilp, zE, zS, zF, zC, zC, zA, zC, zBY, (.oi 19), zH, zH, zE, zF, .nils, zA, zC, (.map 15261)]))), q3, q227, q5, q6, (26565, (.cells 2 false [] (T.ofList 0 .leaf [zK, .nils]))), q7, q231, q229, q10, q230, (30486, (.cells 1 true [] (T.ofList 0 .leaf [(.ptr 30484 0)])))]⟩
theorem I26303_ok : InOk Tryz.prog I26303 := InOk.of_run (K := K_NA1b) (n := 5000) mixed K_NA1b_ok (by kernel_rfl) (by as_aux_lemma => kernel_rfl)

noncomputable def I26234 : In := ⟨142, [(.ptr 15262 0), (.ptr 30484 0), (.agg [zF, zD, (.int .i64 178), zE, zFJ, zA, .nils, .nils])], 30643, [q17, q18, q19, q20, q21, q2, q235, q23, q24, q3, q25, q227, q5, q7, q149, (27188, (.cells 14 true [] (T.ofList 0 .leaf [zA, zBG, zF, zA, zC, zC, zA, zC, zA, zF, zD, zC, zC, zA]))), q236, q10, (30484, (.cells 6 false [] (T.ofList 0 .leaf [zA, zC, (.ptr 16510 0), zBG, zF, .nilp])))], (.tup []), 30693, [q17, q18, q19, q20, q1, q2, q235, q23, q24, q3, q25, q227, q5, q7, q149, q228, q229, q10, q234]⟩
theorem I26234_ok : InOk Tryz.prog I26234 := InOk.of_run (K := K_NA1b) (n := 5000) mixed K_NA1b_ok (by kernel_rfl) (by as_aux_lemma => kernel_rfl)

noncomputable def I25954 : In := ⟨65, [(.ptr 15262 0), (.ptr 29492 0)], 30334, [q0, q39, q2, (15262, (.cells 32 false [] (T.ofList 0 .leaf [(.ptr 8659 0), (.ptr 11917 0), (.ptr 11912 0), (.ptr 11914 0), (.ptr 11918 0), (.ptr 15258 0), (.so 29737 0 1 1), (.map 15259), (.map 15260), .nils, zC, zD, zN, zA, .nilp, zI, zS, zAZ, zC, zC, zA, zA, zB, zA, zH, zH, zE, zA, .nils, zA, zA, (.map 15261)]))), q3, q248, q5, q6, (26565, (.cells 2 false [] (T.ofList 0 .leaf [zK, .nils]))), q7, q249, q247, q38, q250, q251], (.tup []), 30387, [q0, q12, q2, (15262, (.cells 32 false [] (T.ofList 0 .leaf [(.ptr 8659 0), (.ptr 11917 0), (.ptr 11912 0), (.ptr 11914 0), (.ptr 11918 0), (.ptr 15258 0), .nils, (.map 15259), (.map 15260), .nils, zC, zD, zN, zA, .nilp, zE, zS, zAZ, zC, zC, zA, zC, zBY, (.oi 19), zH, zH, zE, zAZ, .nils, zA, zC, (.map 15261)]))), q3, q248, q5, q6, (26565, (.cells 2 false [] (T.ofList 0 .leaf [zK, .nils]))), q7, q252, q247, q38, q250, q251]⟩
theorem I25954_ok : InOk Tryz.prog I25954 := InOk.of_run (K := K_NA1b) (n := 5000) mixed K_NA1b_ok (by kernel_rfl) (by as_aux_lemma => kernel_rfl)

noncomputable def I25802 : In := ⟨41, [(.ptr 15262 0)], 30183, [q60, q262, q263, q3, q248, q5, q264, q258, q54, q265, q251], zI, 30220, [q39, q259, q260, q3, q248, q5, q257, q258, q54, q261, q251]⟩
theorem I25802_ok : InOk Tryz.prog I25802 := InOk.of_run (K := K_NA1b) (n := 5000) mixed K_NA1b_ok (by kernel_rfl) (by as_aux_lemma => kernel_rfl)

noncomputable def I25629 : In := ⟨41, [(.ptr 15262 0)], 30008, [q60, q277, q278, q3, q248, q5, q279, q275, q76, q280, q251], zI, 30045, [q39, q272, q273, q3, q248, q5, q274, q275, q76, q276, q251]⟩
theorem I25629_ok : InOk Tryz.prog I25629 := InOk.of_run (K := K_NA1b) (n := 5000) mixed K_NA1b_ok (by kernel_rfl) (by as_aux_lemma => kernel_rfl)

noncomputable def I25603 : In := ⟨41, [(.ptr 15262 0)], 29967, [q39, q281, q282, q3, q248, q5, q283, q284, q86, q285, q251], zI, 30008, [q60, q277, q278, q3, q248, q5, q279, q275, q76, q280, q251]⟩
theorem I25603_ok : InOk Tryz.prog I25603 := InOk.of_run (K := K_NA1b) (n := 5000) mixed K_NA1b_ok (by kernel_rfl) (by as_aux_lemma => kernel_rfl)

noncomputable def I25569 : In := ⟨65, [(.ptr 15262 0), (.ptr 29735 0)], 29901, [q88, (15262, (.cells 32 false [] (T.ofList 0 .leaf [(.ptr 8659 0), (.ptr 11917 0), (.ptr 11912 0), (.ptr 11914 0), (.ptr 11918 0), (.ptr 15258 0), (.so 29737 0 2 1), (.map 15259), (.map 15260), .nils, zC, zD, zN, zA, .nilp, zI, zS, zN, zC, zC, zA, zA, zB, zA, zH, zH, zE, zA, .nils, zA, zA, (.map 15261)]))), q23, q89, q90, q3, q248, q5, q286, q284, q86, q287, q288, q251], (.tup []), 29967, [q39, (15262, (.cells 32 false [] (T.ofList 0 .leaf [(.ptr 8659 0), (.ptr 11917 0), (.ptr 11912 0), (.ptr 11914 0), (.ptr 11918 0), (.ptr 15258 0), (.so 29737 0 1 1), (.map 15259), (.map 15260), .nils, zC, zD, zN, zA, .nilp, zI, zS, zN, zC, zC, zA, zA, zB, zA, zH, zH, zE, zA, .nils, zA, zA, (.map 15261)]))), q23, q89, q90, q3, q248, q5, q283, q284, q86, q285, q288, q251]⟩
theorem I25569_ok : InOk Tryz.prog I25569 := InOk.of_run (K := K_NA1b) (n := 5000) mixed K_NA1b_ok (by kernel_rfl) (by as_aux_lemma => kernel_rfl)

noncomputable def I25497 : In := ⟨332, [(.ptr 15262 0), (.ptr 29735 0), (.agg [zG, zAB, zBS, zG, zA, zE]), zC, zE], 29847, [q17, q18, q19, q20, q220, q0, q97, q98, q292, q23, q89, q90, q51, q293, q284, q86, q268, q225, q294], (.tup []), 29900, [q17, q18, q19, q20, q220, q0, q97, q88, q292, q23, q89, q90, q51, q286, q284, q86, q268, q225, q291]⟩
theorem I25497_ok : InOk Tryz.prog I25497 := InOk.of_run (K := K_NA1b) (n := 5000) mixed K_NA1b_ok (by kernel_rfl) (by as_aux_lemma => kernel_rfl)

noncomputable def I25379 : In := ⟨41, [(.ptr 15262 0)], 29739, [q88, q299, q300, q23, q89, q90, q301, q302, q86, q303, q251], zI, 29776, [q98, q295, q296, q23, q89, q90, q297, q284, q86, q298, q251]⟩
theorem I25379_ok : InOk Tryz.prog I25379 := InOk.of_run (K := K_NA1b) (n := 5000) mixed K_NA1b_ok (by kernel_rfl) (by as_aux_lemma => kernel_rfl)

noncomputable def I25269 : In := ⟨41, [(.ptr 15262 0)], 29659, [q17, q18, q19, q20, q220, q65, q113, q304, q305, q23, q89, q90, q3, q25, q248, q5, q51, q306, q302, q86, q307, (29494, (.cells 1 true [] (T.ofList 0 .leaf [(.ptr 29492 0)]))), q268, q225], zI, 29739, [q17, q18, q19, q20, q220, q88, q113, q299, q300, q23, q89, q90, q3, q25, q248, q5, q51, q301, q302, q86, q287, q268, q225, q303, q251]⟩
theorem I25269_ok : InOk Tryz.prog I25269 := InOk.of_run (K := K_NA1b) (n := 5000) mixed K_NA1b_ok (by kernel_rfl) (by as_aux_lemma => kernel_rfl)

noncomputable def I25235 : In := ⟨65, [(.ptr 15262 0), (.ptr 29492 0)], 29609, [q39, q308, q3, q248, q5, q309, q310, q121, (29492, (.cells 6 false [] (T.ofList 0 .leaf [zA, zC, (.ptr 16510 0), zF, zD, .nilp])))], (.tup []), 29659, [q65, q308, q3, q248, q5, q306, q302, q86, q307]⟩
theorem I25235_ok : InOk Tryz.prog I25235 := InOk.of_run (K := K_NA1b) (n := 5000) mixed K_NA1b_ok (by kernel_rfl) (by as_aux_lemma => kernel_rfl)

noncomputable def I25194 : In := ⟨333, [(.ptr 15262 0), (.ptr 29492 0), zA, (.fn (.func 334) [] [(.ptr 29538 0), (.ptr 29539 0)])], 29547, [q17, q18, q19, q20, q125, q314, q60, q315, q23, q24, q3, q248, q5, q50, q51, q316, q317, q10, q318, q319, (29492, (.cells 6 false [] (T.ofList 0 .leaf [zA, zC, (.ptr 16510 0), zF, zA, .nilp]))), (29538, (.cells 1 false [] (T.ofList 0 .leaf [(.ptr 15262 0)]))), (29539, (.cells 1 false [] (T.ofList 0 .leaf [zDA])))], (.tup []), 29608, [q17, q18, q19, q20, q125, q220, q39, q315, q23, q24, q3, q248, q5, q50, q51, q309, q310, q121, q313, (29538, (.cells 1 false [] (T.ofList 0 .leaf [(.ptr 15262 0)]))), (29539, (.cells 1 false [] (T.ofList 0 .leaf [zDA]))), q268, q225]⟩
theorem I25194_ok : InOk Tryz.prog I25194 := InOk.of_run (K := K_NA1b) (n := 5000) mixed K_NA1b_ok (by kernel_rfl) (by as_aux_lemma => kernel_rfl)

noncomputable def I25018 : In := ⟨65, [(.ptr 15262 0), (.ptr 29148 0)], 29354, [q0, q1, q2, (15262, (.cells 32 false [] (T.ofList 0 .leaf [(.ptr 8659 0), (.ptr 11917 0), (.ptr 11912 0), (.ptr 11914 0), (.ptr 11918 0), (.ptr 15258 0), (.so 29150 0 1 1), (.map 15259), (.map 15260), .nils, zC, zD, zN, zA, .nilp, zI, zS, zF, zC, zC, zA, zA, zB, zA, zH, zH, zE, zA, .nils, zA, zA, (.map 15261)]))), q3, q321, q5, q6, (26565, (.cells 2 false [] (T.ofList 0 .leaf [zK, .nils]))), q7, q322, q323, q10, q324, (29150, (.cells 1 true [] (T.ofList 0 .leaf [(.ptr 29148 0)])))], (.tup []), 29407, [q0, q12, q2, (15262, (.cells 32 false [] (T.ofList 0 .leaf [(.ptr 8659 0), (.ptr 11917 0), (.ptr 11912 0), (.ptr 11914 0), (.ptr 11918 0), (.ptr 15258 0), .nils, (.map 15259), (.map 15260), .nils, zC, zD, zN, zA, .nilp, zE, zS, zF, zC, zC, zA, zC, zBY, (.oi 15), zH, zH, zE, zF, .nils, zA, zC, (.map 15261)]))), q3, q321, q5, q6, (26565, (.cells 2 false [] (T.ofList 0 .leaf [zK, .nils]))), q7, q325, q323, q10, q324, (29150, (.cells 1 true [] (T.ofList 0 .leaf [(.ptr 29148 0)])))]⟩
theorem I25018_ok : InOk Tryz.prog I25018 := InOk.of_run (K := K_NA1b) (n := 5000) mixed K_NA1b_ok (by kernel_rfl) (by as_aux_lemma => kernel_rfl)

noncomputable def I24951 : In := ⟨142, [(.ptr 15262 0), (.ptr 29148 0), (.agg [zF, zD, (.int .i64 178), zE, zEA, zA, .nils, .nils])], 29305, [q17, q18, q19, q20, q21, q2, q329, q23, q24, q3, q25, q321, q5, q7, q243, (27188, (.cells 14 true [] (T.ofList 0 .leaf [zA, zD, zF, zA, zC, zC, zA, zC, zA, zF, zD, zC, zC, zA]))), q330, q10, (29148, (.cells 6 false [] (T.ofList 0 .leaf [zA, zC, (.ptr 16510 0), zD, zF, .nilp])))], (.tup []), 29353, [q17, q18, q19, q20, q1, q2, q329, q23, q24, q3, q25, q321, q5, q7, q243, q322, q323, q10, q328]⟩
theorem I24951_ok : InOk Tryz.prog I24951 := InOk.of_run (K := K_NA1b) (n := 5000) mixed K_NA1b_ok (by kernel_rfl) (by as_aux_lemma => kernel_rfl)

noncomputable def I24703 : In := ⟨65, [(.ptr 15262 0), (.ptr 28188 0)], 29026, [q0, q39, q2, (15262, (.cells 32 false [] (T.ofList 0 .leaf [(.ptr 8659 0), (.ptr 11917 0), (.ptr 11912 0), (.ptr 11914 0), (.ptr 11918 0), (.ptr 15258 0), (.so 28433 0 1 1), (.map 15259), (.map 15260), .nils, zC, zD, zN, zA, .nilp, zI, zS, zAZ, zC, zC, zA, zA, zB, zA, zH, zH, zE, zA, .nils, zA, zA, (.map 15261)]))), q3, q341, q5, q6, (26565, (.cells 2 false [] (T.ofList 0 .leaf [zK, .nils]))), q7, q342, q340, q38, q343, q344], (.tup []), 29079, [q0, q12, q2, (15262, (.cells 32 false [] (T.ofList 0 .leaf [(.ptr 8659 0), (.ptr 11917 0), (.ptr 11912 0), (.ptr 11914 0), (.ptr 11918 0), (.ptr 15258 0), .nils, (.map 15259), (.map 15260), .nils, zC, zD, zN, zA, .nilp, zE, zS, zAZ, zC, zC, zA, zC, zBY, (.oi 17), zH, zH, zE, zAZ, .nils, zA, zC, (.map 15261)]))), q3, q341, q5, q6, (26565, (.cells 2 false [] (T.ofList 0 .leaf [zK, .nils]))), q7, q345, q340, q38, q343, q344]⟩
theorem I24703_ok : InOk Tryz.prog I24703 := InOk.of_run (K := K_NA1b) (n := 5000) mixed K_NA1b_ok (by kernel_rfl) (by as_aux_lemma => kernel_rfl)

noncomputable def I24553 : In := ⟨41, [(.ptr 15262 0)], 28877, [q60, q355, q356, q3, q341, q5, q357, q351, q54, q358, q344], zI, 28914, [q39, q352, q353, q3, q341, q5, q350, q351, q54, q354, q344]⟩
theorem I24553_ok : InOk Tryz.prog I24553 := InOk.of_run (K := K_NA1b) (n := 5000) mixed K_NA1b_ok (by kernel_rfl) (by as_aux_lemma => kernel_rfl)
noncomputable def H_NA1b : Hand := ((Hand.at 332 (inHand I25497)).or ((Hand.at 142 ((inHand I24951).or (inHand I26234))).or ((Hand.at 333 ((inHand I25194).or (inHand I26509))).or ((Hand.at 65 (Hand.sp 29901 (Hand.sp 29354 (inHand I24703) ((inHand I25235).or (inHand I25018))) (Hand.sp 30694 ((inHand I25954).or (inHand I25569)) ((inHand I26550).or (inHand I26303))))).or (Hand.at 41 (Hand.sp 30008 (Hand.sp 29739 ((inHand I25269).or (inHand I24553)) ((inHand I25603).or (inHand I25379))) (Hand.sp 31027 ((inHand I25802).or (inHand I25629)) ((inHand I26694).or (inHand I26584)))))))))
theorem H_NA1b_ok : HandOk Tryz.prog H_NA1b := (HandOk.or (HandOk.at 332 (inHand_ok I25497_ok (by kernel_rfl))) (HandOk.or (HandOk.at 142 (HandOk.or (inHand_ok I24951_ok (by kernel_rfl)) (inHand_ok I26234_ok (by kernel_rfl)))) (HandOk.or (HandOk.at 333 (HandOk.or (inHand_ok I25194_ok (by kernel_rfl)) (inHand_ok I26509_ok (by kernel_rfl)))) (HandOk.or (HandOk.at 65 (HandOk.sp 29901 (HandOk.sp 29354 (inHand_ok I24703_ok (by kernel_rfl)) (HandOk.or (inHand_ok I25235_ok (by kernel_rfl)) (inHand_ok I25018_ok (by kernel_rfl)))) (HandOk.sp 30694 (HandOk.or (inHand_ok I25954_ok (by kernel_rfl)) (inHand_ok I25569_ok (by kernel_rfl))) (HandOk.or (inHand_ok I26550_ok (by kernel_rfl)) (inHand_ok I26303_ok (by kernel_rfl)))))) (HandOk.at 41 (HandOk.sp 30008 (HandOk.sp 29739 (HandOk.or (inHand_ok I25269_ok (by kernel_rfl)) (inHand_ok I24553_ok (by kernel_rfl))) (HandOk.or (inHand_ok I25603_ok (by kernel_rfl)) (inHand_ok I25379_ok (by kernel_rfl)))) (HandOk.sp 31027 (HandOk.or (inHand_ok I25802_ok (by kernel_rfl)) (inHand_ok I25629_ok (by kernel_rfl))) (HandOk.or (inHand_ok I26694_ok (by kernel_rfl)) (inHand_ok I26584_ok (by kernel_rfl))))))))))
end Go.Proofs.YtedimikdpclpnaaGreatDoor.na
