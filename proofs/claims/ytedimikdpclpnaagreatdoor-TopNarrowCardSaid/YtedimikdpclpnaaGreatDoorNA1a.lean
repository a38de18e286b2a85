/-
  Contracts of calls, by the kernel.
-/
import Derived.Test.YtedimikdpclpnaaGreatDoorXN3
import Derived.Test.YtedimikdpclpnaaGreatDoorProg
import Derived.KernelRfl
import Derived.Test.YtedimikdpclpnaaGreatDoorNA0a
import Derived.Test.YtedimikdpclpnaaGreatDoorNA0b
set_option linter.unusedSectionVars false
set_option linter.unusedVariables false
set_option maxRecDepth 1000000
set_option maxHeartbeats 0
namespace Go.Proofs.YtedimikdpclpnaaGreatDoor.na
open Go.X Go.RowKit
variable [Tab]
noncomputable def K_NA1a : Hand := ((H_NA0b).or H_NA0a)
theorem K_NA1a_ok : HandOk Tryz.prog K_NA1a := (HandOk.or H_NA0b_ok H_NA0a_ok)

noncomputable def I29077 : In := ⟨65, [(.ptr 15262 0), (.ptr 33348 0)], 33566, [q0, q1, q2, (15262, (.cells 32 false [] (T.ofList 0 .leaf [(.ptr 8659 0), (.ptr 11917 0), (.ptr 11912 0), (.ptr 11914 0), (.ptr 11918 0), (.ptr 15258 0), (.so 33350 0 1 1), (.map 15259), (.map 15260), .nils, zC, zD, zN, zA, .nilp, zI, zS, zF, zC, zC, zA, zA, zB, zA, zH, zH, zE, zA, .nils, zA, zA, (.map 15261)]))), q3, q4, q5, q6, (26565, (.cells 2 false [] (T.ofList 0 .leaf [zK, .nils]))), q7, q8, q9, q10, q11, (33350, (.cells 1 true [] (T.ofList 0 .leaf [(.ptr 33348 0)])))], (.tup []), 33619, [q0, q12, q2, (15262, (.cells 32 false [] (T.ofList 0 .leaf [(.ptr 8659 0), (.ptr 11917 0), (.ptr 11912 0), (.ptr 11914 0), (.ptr 11918 0), (.ptr 15258 0), .nils, (.map 15259), (.map 15260), .nils, zC, zD, zN, zA, .nilp, zE, zS, zF, zC, zC, zA, zC, zBY, (.oi 9), zH, zH, zE, zF, .nils, zA, zC, (.map 15261)]))), q3, q4, q5, q6, (26565, (.cells 2 false [] (T.ofList 0 .leaf [zK, .nils]))), q7, q13, q9, q10, q11, (33350, (.cells 1 true [] (T.ofList 0 .leaf [(.ptr 33348 0)])))]⟩
theorem I29077_ok : InOk Tryz.prog I29077 := InOk.of_run (K := K_NA1a) (n := 5000) mixed K_NA1a_ok (by kernel_rfl) (by as_aux_lemma => kernel_rfl)

noncomputable def I29004 : In := ⟨142, [(.ptr 15262 0), (.ptr 33348 0), (.agg [zF, zD, (.int .i64 178), zE, zAG, zA, .nils, .nils])], 33511, [q17, q18, q19, q20, q21, q2, q22, q23, q24, q3, q25, q4, q5, q7, q26, (27188, (.cells 14 true [] (T.ofList 0 .leaf [zA, zT, zF, zA, zC, zC, zA, zC, zA, zF, zD, zC, zC, zA]))), q9, q10, (33348, (.cells 6 false [] (T.ofList 0 .leaf [zA, zC, (.ptr 16510 0), zT, zF, .nilp])))], (.tup []), 33565, [q17, q18, q19, q20, q1, q2, q22, q23, q24, q3, q25, q4, q5, q7, q26, q8, q9, q10, q16]⟩
theorem I29004_ok : InOk Tryz.prog I29004 := InOk.of_run (K := K_NA1a) (n := 5000) mixed K_NA1a_ok (by kernel_rfl) (by as_aux_lemma => kernel_rfl)

noncomputable def I28660 : In := ⟨65, [(.ptr 15262 0), (.ptr 32292 0)], 33142, [q0, q39, q2, (15262, (.cells 32 false [] (T.ofList 0 .leaf [(.ptr 8659 0), (.ptr 11917 0), (.ptr 11912 0), (.ptr 11914 0), (.ptr 11918 0), (.ptr 15258 0), (.so 32537 0 1 1), (.map 15259), (.map 15260), .nils, zC, zD, zN, zA, .nilp, zI, zS, zAZ, zC, zC, zA, zA, zB, zA, zH, zH, zE, zA, .nils, zA, zA, (.map 15261)]))), q3, q40, q5, q6, (26565, (.cells 2 false [] (T.ofList 0 .leaf [zK, .nils]))), q7, q41, q37, q38, q42, q43], (.tup []), 33195, [q0, q12, q2, (15262, (.cells 32 false [] (T.ofList 0 .leaf [(.ptr 8659 0), (.ptr 11917 0), (.ptr 11912 0), (.ptr 11914 0), (.ptr 11918 0), (.ptr 15258 0), .nils, (.map 15259), (.map 15260), .nils, zC, zD, zN, zA, .nilp, zE, zS, zAZ, zC, zC, zA, zC, zBY, (.oi 24), zH, zH, zE, zAZ, .nils, zA, zC, (.map 15261)]))), q3, q40, q5, q6, (26565, (.cells 2 false [] (T.ofList 0 .leaf [zK, .nils]))), q7, q44, q37, q38, q42, q43]⟩
theorem I28660_ok : InOk Tryz.prog I28660 := InOk.of_run (K := K_NA1a) (n := 5000) mixed K_NA1a_ok (by kernel_rfl) (by as_aux_lemma => kernel_rfl)

noncomputable def I28504 : In := ⟨41, [(.ptr 15262 0)], 32987, [q60, q61, q62, q3, q40, q5, q63, q53, q54, q64, q43], zI, 33024, [q39, q57, q58, q3, q40, q5, q52, q53, q54, q59, q43]⟩
theorem I28504_ok : InOk Tryz.prog I28504 := InOk.of_run (K := K_NA1a) (n := 5000) mixed K_NA1a_ok (by kernel_rfl) (by as_aux_lemma => kernel_rfl)

noncomputable def I28327 : In := ⟨41, [(.ptr 15262 0)], 32808, [q60, q78, q79, q3, q40, q5, q80, q75, q76, q81, q43], zI, 32845, [q39, q72, q73, q3, q40, q5, q74, q75, q76, q77, q43]⟩
theorem I28327_ok : InOk Tryz.prog I28327 := InOk.of_run (K := K_NA1a) (n := 5000) mixed K_NA1a_ok (by kernel_rfl) (by as_aux_lemma => kernel_rfl)

noncomputable def I28301 : In := ⟨41, [(.ptr 15262 0)], 32767, [q39, q82, q83, q3, q40, q5, q84, q85, q86, q87, q43], zI, 32808, [q60, q78, q79, q3, q40, q5, q80, q75, q76, q81, q43]⟩
theorem I28301_ok : InOk Tryz.prog I28301 := InOk.of_run (K := K_NA1a) (n := 5000) mixed K_NA1a_ok (by kernel_rfl) (by as_aux_lemma => kernel_rfl)

noncomputable def I28267 : In := ⟨65, [(.ptr 15262 0), (.ptr 32535 0)], 32701, [q88, (15262, (.cells 32 false [] (T.ofList 0 .leaf [(.ptr 8659 0), (.ptr 11917 0), (.ptr 11912 0), (.ptr 11914 0), (.ptr 11918 0), (.ptr 15258 0), (.so 32537 0 2 1), (.map 15259), (.map 15260), .nils, zC, zD, zN, zA, .nilp, zI, zS, zN, zC, zC, zA, zA, zB, zA, zH, zH, zE, zA, .nils, zA, zA, (.map 15261)]))), q23, q89, q90, q3, q40, q5, q91, q85, q86, q92, q93, q43], (.tup []), 32767, [q39, (15262, (.cells 32 false [] (T.ofList 0 .leaf [(.ptr 8659 0), (.ptr 11917 0), (.ptr 11912 0), (.ptr 11914 0), (.ptr 11918 0), (.ptr 15258 0), (.so 32537 0 1 1), (.map 15259), (.map 15260), .nils, zC, zD, zN, zA, .nilp, zI, zS, zN, zC, zC, zA, zA, zB, zA, zH, zH, zE, zA, .nils, zA, zA, (.map 15261)]))), q23, q89, q90, q3, q40, q5, q84, q85, q86, q87, q93, q43]⟩
theorem I28267_ok : InOk Tryz.prog I28267 := InOk.of_run (K := K_NA1a) (n := 5000) mixed K_NA1a_ok (by kernel_rfl) (by as_aux_lemma => kernel_rfl)

noncomputable def I28195 : In := ⟨332, [(.ptr 15262 0), (.ptr 32535 0), (.agg [zG, zAB, zBS, zG, zA, zE]), zC, zE], 32647, [q17, q18, q19, q20, q48, q0, q97, q98, q99, q23, q89, q90, q51, q100, q85, q86, q68, q56, q101], (.tup []), 32700, [q17, q18, q19, q20, q48, q0, q97, q88, q99, q23, q89, q90, q51, q91, q85, q86, q68, q56, q96]⟩
theorem I28195_ok : InOk Tryz.prog I28195 := InOk.of_run (K := K_NA1a) (n := 5000) mixed K_NA1a_ok (by kernel_rfl) (by as_aux_lemma => kernel_rfl)

noncomputable def I28077 : In := ⟨41, [(.ptr 15262 0)], 32539, [q88, q108, q109, q23, q89, q90, q110, q111, q86, q112, q43], zI, 32576, [q98, q104, q105, q23, q89, q90, q106, q85, q86, q107, q43]⟩
theorem I28077_ok : InOk Tryz.prog I28077 := InOk.of_run (K := K_NA1a) (n := 5000) mixed K_NA1a_ok (by kernel_rfl) (by as_aux_lemma => kernel_rfl)

noncomputable def I27967 : In := ⟨41, [(.ptr 15262 0)], 32459, [q17, q18, q19, q20, q48, q65, q113, q114, q115, q23, q89, q90, q3, q25, q40, q5, q51, q116, q111, q86, q117, (32294, (.cells 1 true [] (T.ofList 0 .leaf [(.ptr 32292 0)]))), q68, q56], zI, 32539, [q17, q18, q19, q20, q48, q88, q113, q108, q109, q23, q89, q90, q3, q25, q40, q5, q51, q110, q111, q86, q92, q68, q56, q112, q43]⟩
theorem I27967_ok : InOk Tryz.prog I27967 := InOk.of_run (K := K_NA1a) (n := 5000) mixed K_NA1a_ok (by kernel_rfl) (by as_aux_lemma => kernel_rfl)

noncomputable def I27933 : In := ⟨65, [(.ptr 15262 0), (.ptr 32292 0)], 32409, [q39, q118, q3, q40, q5, q119, q120, q121, (32292, (.cells 6 false [] (T.ofList 0 .leaf [zA, zC, (.ptr 16510 0), zAH, zD, .nilp])))], (.tup []), 32459, [q65, q118, q3, q40, q5, q116, q111, q86, q117]⟩
theorem I27933_ok : InOk Tryz.prog I27933 := InOk.of_run (K := K_NA1a) (n := 5000) mixed K_NA1a_ok (by kernel_rfl) (by as_aux_lemma => kernel_rfl)

noncomputable def I27892 : In := ⟨333, [(.ptr 15262 0), (.ptr 32292 0), zA, (.fn (.func 334) [] [(.ptr 32338 0), (.ptr 32339 0)])], 32347, [q17, q18, q19, q20, q125, q126, q60, q127, q23, q24, q3, q40, q5, q50, q51, q128, q129, q10, q130, q131, (32292, (.cells 6 false [] (T.ofList 0 .leaf [zA, zC, (.ptr 16510 0), zAH, zA, .nilp]))), (32338, (.cells 1 false [] (T.ofList 0 .leaf [(.ptr 15262 0)]))), (32339, (.cells 1 false [] (T.ofList 0 .leaf [zDA])))], (.tup []), 32408, [q17, q18, q19, q20, q125, q48, q39, q127, q23, q24, q3, q40, q5, q50, q51, q119, q120, q121, q124, (32338, (.cells 1 false [] (T.ofList 0 .leaf [(.ptr 15262 0)]))), (32339, (.cells 1 false [] (T.ofList 0 .leaf [zDA]))), q68, q56]⟩
theorem I27892_ok : InOk Tryz.prog I27892 := InOk.of_run (K := K_NA1a) (n := 5000) mixed K_NA1a_ok (by kernel_rfl) (by as_aux_lemma => kernel_rfl)

noncomputable def I27656 : In := ⟨65, [(.ptr 15262 0), (.ptr 31884 0)], 32098, [q0, q1, q2, (15262, (.cells 32 false [] (T.ofList 0 .leaf [(.ptr 8659 0), (.ptr 11917 0), (.ptr 11912 0), (.ptr 11914 0), (.ptr 11918 0), (.ptr 15258 0), (.so 31886 0 1 1), (.map 15259), (.map 15260), .nils, zC, zD, zN, zA, .nilp, zI, zS, zF, zC, zC, zA, zA, zB, zA, zH, zH, zE, zA, .nils, zA, zA, (.map 15261)]))), q3, q133, q5, q6, (26565, (.cells 2 false [] (T.ofList 0 .leaf [zK, .nils]))), q7, q134, q135, q10, q136, (31886, (.cells 1 true [] (T.ofList 0 .leaf [(.ptr 31884 0)])))], (.tup []), 32151, [q0, q12, q2, (15262, (.cells 32 false [] (T.ofList 0 .leaf [(.ptr 8659 0), (.ptr 11917 0), (.ptr 11912 0), (.ptr 11914 0), (.ptr 11918 0), (.ptr 15258 0), .nils, (.map 15259), (.map 15260), .nils, zC, zD, zN, zA, .nilp, zE, zS, zF, zC, zC, zA, zC, zBY, (.oi 21), zH, zH, zE, zF, .nils, zA, zC, (.map 15261)]))), q3, q133, q5, q6, (26565, (.cells 2 false [] (T.ofList 0 .leaf [zK, .nils]))), q7, q137, q135, q10, q136, (31886, (.cells 1 true [] (T.ofList 0 .leaf [(.ptr 31884 0)])))]⟩
theorem I27656_ok : InOk Tryz.prog I27656 := InOk.of_run (K := K_NA1a) (n := 5000) mixed K_NA1a_ok (by kernel_rfl) (by as_aux_lemma => kernel_rfl)

noncomputable def I27585 : In := ⟨142, [(.ptr 15262 0), (.ptr 31884 0), (.agg [zF, zD, (.int .i64 178), zE, zCZ, zA, .nils, .nils])], 32045, [q17, q18, q19, q20, q21, q2, q141, q23, q24, q3, q25, q133, q5, q7, q33, (27188, (.cells 14 true [] (T.ofList 0 .leaf [zA, zAL, zF, zA, zC, zC, zA, zC, zA, zF, zD, zC, zC, zA]))), q142, q10, (31884, (.cells 6 false [] (T.ofList 0 .leaf [zA, zC, (.ptr 16510 0), zAL, zF, .nilp])))], (.tup []), 32097, [q17, q18, q19, q20, q1, q2, q141, q23, q24, q3, q25, q133, q5, q7, q33, q134, q135, q10, q140]⟩
theorem I27585_ok : InOk Tryz.prog I27585 := InOk.of_run (K := K_NA1a) (n := 5000) mixed K_NA1a_ok (by kernel_rfl) (by as_aux_lemma => kernel_rfl)

noncomputable def I27273 : In := ⟨65, [(.ptr 15262 0), (.ptr 30860 0)], 31706, [q0, q39, q2, (15262, (.cells 32 false [] (T.ofList 0 .leaf [(.ptr 8659 0), (.ptr 11917 0), (.ptr 11912 0), (.ptr 11914 0), (.ptr 11918 0), (.ptr 15258 0), (.so 31105 0 1 1), (.map 15259), (.map 15260), .nils, zC, zD, zN, zA, .nilp, zI, zS, zAZ, zC, zC, zA, zA, zB, zA, zH, zH, zE, zA, .nils, zA, zA, (.map 15261)]))), q3, q154, q5, q6, (26565, (.cells 2 false [] (T.ofList 0 .leaf [zK, .nils]))), q7, q155, q153, q38, q156, q157], (.tup []), 31759, [q0, q12, q2, (15262, (.cells 32 false [] (T.ofList 0 .leaf [(.ptr 8659 0), (.ptr 11917 0), (.ptr 11912 0), (.ptr 11914 0), (.ptr 11918 0), (.ptr 15258 0), .nils, (.map 15259), (.map 15260), .nils, zC, zD, zN, zA, .nilp, zE, zS, zAZ, zC, zC, zA, zC, zBY, (.oi 21), zH, zH, zE, zAZ, .nils, zA, zC, (.map 15261)]))), q3, q154, q5, q6, (26565, (.cells 2 false [] (T.ofList 0 .leaf [zK, .nils]))), q7, q158, q153, q38, q156, q157]⟩
theorem I27273_ok : InOk Tryz.prog I27273 := InOk.of_run (K := K_NA1a) (n := 5000) mixed K_NA1a_ok (by kernel_rfl) (by as_aux_lemma => kernel_rfl)

noncomputable def I27119 : In := ⟨41, [(.ptr 15262 0)], 31553, [q60, q168, q169, q3, q154, q5, q170, q164, q54, q171, q157], zI, 31590, [q39, q165, q166, q3, q154, q5, q163, q164, q54, q167, q157]⟩
theorem I27119_ok : InOk Tryz.prog I27119 := InOk.of_run (K := K_NA1a) (n := 5000) mixed K_NA1a_ok (by kernel_rfl) (by as_aux_lemma => kernel_rfl)

noncomputable def I26944 : In := ⟨41, [(.ptr 15262 0)], 31376, [q60, q183, q184, q3, q154, q5, q185, q181, q76, q186, q157], zI, 31413, [q39, q178, q179, q3, q154, q5, q180, q181, q76, q182, q157]⟩
theorem I26944_ok : InOk Tryz.prog I26944 := InOk.of_run (K := K_NA1a) (n := 5000) mixed K_NA1a_ok (by kernel_rfl) (by as_aux_lemma => kernel_rfl)

noncomputable def I26918 : In := ⟨41, [(.ptr 15262 0)], 31335, [q39, q187, q188, q3, q154, q5, q189, q190, q86, q191, q157], zI, 31376, [q60, q183, q184, q3, q154, q5, q185, q181, q76, q186, q157]⟩
theorem I26918_ok : InOk Tryz.prog I26918 := InOk.of_run (K := K_NA1a) (n := 5000) mixed K_NA1a_ok (by kernel_rfl) (by as_aux_lemma => kernel_rfl)

noncomputable def I26884 : In := ⟨65, [(.ptr 15262 0), (.ptr 31103 0)], 31269, [q88, (15262, (.cells 32 false [] (T.ofList 0 .leaf [(.ptr 8659 0), (.ptr 11917 0), (.ptr 11912 0), (.ptr 11914 0), (.ptr 11918 0), (.ptr 15258 0), (.so 31105 0 2 1), (.map 15259), (.map 15260), .nils, zC, zD, zN, zA, .nilp, zI, zS, zN, zC, zC, zA, zA, zB, zA, zH, zH, zE, zA, .nils, zA, zA, (.map 15261)]))), q23, q89, q90, q3, q154, q5, q192, q190, q86, q193, q194, q157], (.tup []), 31335, [q39, (15262, (.cells 32 false [] (T.ofList 0 .leaf [(.ptr 8659 0), (.ptr 11917 0), (.ptr 11912 0), (.ptr 11914 0), (.ptr 11918 0), (.ptr 15258 0), (.so 31105 0 1 1), (.map 15259), (.map 15260), .nils, zC, zD, zN, zA, .nilp, zI, zS, zN, zC, zC, zA, zA, zB, zA, zH, zH, zE, zA, .nils, zA, zA, (.map 15261)]))), q23, q89, q90, q3, q154, q5, q189, q190, q86, q191, q194, q157]⟩
theorem I26884_ok : InOk Tryz.prog I26884 := InOk.of_run (K := K_NA1a) (n := 5000) mixed K_NA1a_ok (by kernel_rfl) (by as_aux_lemma => kernel_rfl)

noncomputable def I26812 : In := ⟨332, [(.ptr 15262 0), (.ptr 31103 0), (.agg [zG, zAB, zBS, zG, zA, zE]), zC, zE], 31215, [q17, q18, q19, q20, q126, q0, q97, q98, q198, q23, q89, q90, q51, q199, q190, q86, q174, q131, q200], (.tup []), 31268, [q17, q18, q19, q20, q126, q0, q97, q88, q198, q23, q89, q90, q51, q192, q190, q86, q174, q131, q197]⟩
theorem I26812_ok : InOk Tryz.prog I26812 := InOk.of_run (K := K_NA1a) (n := 5000) mixed K_NA1a_ok (by kernel_rfl) (by as_aux_lemma => kernel_rfl)
noncomputable def H_NA1a : Hand := ((Hand.at 333 (inHand I27892)).or ((Hand.at 332 ((inHand I26812).or (inHand I28195))).or ((Hand.at 41 (Hand.sp 32539 (Hand.sp 31553 ((inHand I26944).or (inHand I26918)) ((inHand I27967).or (inHand I27119))) (Hand.sp 32808 ((inHand I28301).or (inHand I28077)) ((inHand I28504).or (inHand I28327))))).or ((Hand.at 142 ((inHand I27585).or (inHand I29004))).or (Hand.at 65 (Hand.sp 32409 (Hand.sp 31706 (inHand I26884) ((inHand I27656).or (inHand I27273))) (Hand.sp 33142 ((inHand I28267).or (inHand I27933)) ((inHand I29077).or (inHand I28660)))))))))
theorem H_NA1a_ok : HandOk Tryz.prog H_NA1a := (HandOk.or (HandOk.at 333 (inHand_ok I27892_ok (by kernel_rfl))) (HandOk.or (HandOk.at 332 (HandOk.or (inHand_ok I26812_ok (by kernel_rfl)) (inHand_ok I28195_ok (by kernel_rfl)))) (HandOk.or (HandOk.at 41 (HandOk.sp 32539 (HandOk.sp 31553 (HandOk.or (inHand_ok I26944_ok (by kernel_rfl)) (inHand_ok I26918_ok (by kernel_rfl))) (HandOk.or (inHand_ok I27967_ok (by kernel_rfl)) (inHand_ok I27119_ok (by kernel_rfl)))) (HandOk.sp 32808 (HandOk.or (inHand_ok I28301_ok (by kernel_rfl)) (inHand_ok I28077_ok (by kernel_rfl))) (HandOk.or (inHand_ok I28504_ok (by kernel_rfl)) (inHand_ok I28327_ok (by kernel_rfl)))))) (HandOk.or (HandOk.at 142 (HandOk.or (inHand_ok I27585_ok (by kernel_rfl)) (inHand_ok I29004_ok (by kernel_rfl)))) (HandOk.at 65 (HandOk.sp 32409 (HandOk.sp 31706 (inHand_ok I26884_ok (by kernel_rfl)) (HandOk.or (inHand_ok I27656_ok (by kernel_rfl)) (inHand_ok I27273_ok (by kernel_rfl)))) (HandOk.sp 33142 (HandOk.or (inHand_ok I28267_ok (by kernel_rfl)) (inHand_ok I27933_ok (by kernel_rfl))) (HandOk.or (inHand_ok I29077_ok (by kernel_rfl)) (inHand_ok I28660_ok (by kernel_rfl))))))))))
end Go.Proofs.YtedimikdpclpnaaGreatDoor.na
