/-
  Contracts of calls, by the kernel.
-/
import Derived.Test.YtedimikdpclpnaaGreatDoorXN3
import Derived.Test.YtedimikdpclpnaaGreatDoorProg
import Derived.KernelRfl
import Derived.Test.YtedimikdpclpnaaGreatDoorNA0a
import Derived.Test.YtedimikdpclpnaaGreatDoorNA0b
import Derived.Test.YtedimikdpclpnaaGreatDoorNA1c
import Derived.Test.YtedimikdpclpnaaGreatDoorNA2a
import Derived.Test.YtedimikdpclpnaaGreatDoorNA2b
import Derived.Test.YtedimikdpclpnaaGreatDoorNA2c
import Derived.Test.YtedimikdpclpnaaGreatDoorNA2d
import Derived.Test.YtedimikdpclpnaaGreatDoorNA2e
set_option linter.unusedSectionVars false
set_option linter.unusedVariables false
set_option maxRecDepth 1000000
set_option maxHeartbeats 0
namespace Go.Proofs.YtedimikdpclpnaaGreatDoor.na
open Go.X Go.RowKit
variable [Tab]
noncomputable def K_NA3a : Hand := ((H_NA2e).or ((H_NA2d).or ((H_NA2c).or ((H_NA2b).or ((H_NA2a).or ((H_NA1c).or H_NA0b))))))
theorem K_NA3a_ok : HandOk Tryz.prog K_NA3a := (HandOk.or H_NA2e_ok (HandOk.or H_NA2d_ok (HandOk.or H_NA2c_ok (HandOk.or H_NA2b_ok (HandOk.or H_NA2a_ok (HandOk.or H_NA1c_ok H_NA0b_ok))))))

noncomputable def I28100 : In := ⟨41, [(.ptr 15262 0)], 32576, [q17, q18, q19, q20, q102, q48, q0, q97, q98, q104, q105, q23, q103, q89, q90, q51, q106, q85, q86, q68, q56, q107, q43], zI, 32700, [q17, q18, q19, q20, q102, q48, q0, q97, q88, q94, q95, q23, q103, q89, q90, q51, q91, q85, q86, q68, q56, q96, q43]⟩
theorem I28100_ok : InOk Tryz.prog I28100 := InOk.of_run (K := K_NA3a) (n := 5000) mixed K_NA3a_ok (by kernel_rfl) (by as_aux_lemma => kernel_rfl)

noncomputable def I26717 : In := ⟨41, [(.ptr 15262 0)], 31144, [q17, q18, q19, q20, q102, q126, q0, q97, q98, q201, q202, q23, q103, q89, q90, q51, q203, q190, q86, q174, q131, q204, q157], zI, 31268, [q17, q18, q19, q20, q102, q126, q0, q97, q88, q195, q196, q23, q103, q89, q90, q51, q192, q190, q86, q174, q131, q197, q157]⟩
theorem I26717_ok : InOk Tryz.prog I26717 := InOk.of_run (K := K_NA3a) (n := 5000) mixed K_NA3a_ok (by kernel_rfl) (by as_aux_lemma => kernel_rfl)

noncomputable def I25402 : In := ⟨41, [(.ptr 15262 0)], 29776, [q17, q18, q19, q20, q102, q220, q0, q97, q98, q295, q296, q23, q103, q89, q90, q51, q297, q284, q86, q268, q225, q298, q251], zI, 29900, [q17, q18, q19, q20, q102, q220, q0, q97, q88, q289, q290, q23, q103, q89, q90, q51, q286, q284, q86, q268, q225, q291, q251]⟩
theorem I25402_ok : InOk Tryz.prog I25402 := InOk.of_run (K := K_NA3a) (n := 5000) mixed K_NA3a_ok (by kernel_rfl) (by as_aux_lemma => kernel_rfl)

noncomputable def I24155 : In := ⟨41, [(.ptr 15262 0)], 28472, [q17, q18, q19, q20, q102, q314, q0, q97, q98, q388, q389, q23, q103, q89, q90, q51, q390, q377, q86, q361, q319, q391, q344], zI, 28596, [q17, q18, q19, q20, q102, q314, q0, q97, q88, q382, q383, q23, q103, q89, q90, q51, q379, q377, q86, q361, q319, q384, q344]⟩
theorem I24155_ok : InOk Tryz.prog I24155 := InOk.of_run (K := K_NA3a) (n := 5000) mixed K_NA3a_ok (by kernel_rfl) (by as_aux_lemma => kernel_rfl)

noncomputable def I22992 : In := ⟨41, [(.ptr 15262 0)], 27232, [q17, q18, q19, q20, q102, q407, q0, q97, q98, q481, q482, q23, q103, q89, q90, q51, q453, q410, q483, q484, q437, q471, q86], zI, 27356, [q17, q18, q19, q20, q102, q407, q0, q97, q88, q475, q476, q23, q103, q89, q90, q51, q453, q410, q473, q477, q437, q471, q86]⟩
theorem I22992_ok : InOk Tryz.prog I22992 := InOk.of_run (K := K_NA3a) (n := 5000) mixed K_NA3a_ok (by kernel_rfl) (by as_aux_lemma => kernel_rfl)

noncomputable def I22558 : In := ⟨228, [(.ptr 15262 0), (.ptr 26583 0), zDA], 26629, [q17, q18, q19, q20, q505, q506, (11915, (.map [(zCN, zA, 0)] 1)), (11916, (.map [] 1)), q516, q508, q517, q509, q507, q510, q511, q23, q103, q24, q89, q90, q3, q434, q5, (26565, (.cells 2 false [] (T.ofList 0 .leaf [zK, .nils]))), q512, q513, q514, q515], (.tup []), 27059, [q17, q18, q19, q20, q125, q407, q518, (11916, (.map [] 2)), q516, q497, q2, q509, q23, q103, q24, q89, q90, q3, q434, q5, (26565, (.cells 2 false [] (T.ofList 0 .leaf [zK, .nils]))), q499, q504, q7, (26872, (.cells 10 false [zA] .leaf)), q50, q51, q453, q410, q500, q501]⟩
theorem I22558_ok : InOk Tryz.prog I22558 := InOk.of_run (K := K_NA3a) (n := 5000) mixed K_NA3a_ok (by kernel_rfl) (by as_aux_lemma => kernel_rfl)

noncomputable def I19505 : In := ⟨57, [(.ptr 11917 0), zCN], 20654, [q17, q18, q19, q20, (11915, (.map [] 0)), (11916, (.map [] 0)), q516, q3, q25, q434, q414, q341, q321, q248, q227, q154, q133, q40, q4, q5], zA, 26544, [q17, q18, q19, q20, (11915, (.map [(zCN, zA, 0)] 1)), (11916, (.map [] 1)), q516, q3, q25, q434, q414, q341, q321, q248, q227, q154, q133, q40, q4, q5]⟩
theorem I19505_ok : InOk Tryz.prog I19505 := InOk.of_run (K := K_NA3a) (n := 5000) mixed K_NA3a_ok (by kernel_rfl) (by as_aux_lemma => kernel_rfl)

noncomputable def I19297 : In := ⟨280, [(.ptr 16511 0)], 20433, [q530, q531, q532, q533, q25], (.agg [zT, (.str 4 1231976303), zCC, zI, zC, zC, (.so 20473 0 8 1), .nils, .nils]), 20629, [q530, (16509, (.cells 3 false [] (T.ofList 0 .leaf [(.so 16508 0 721 1), (.int .i64 719), zE]))), q532, q533, q25, q4]⟩
theorem I19297_ok : InOk Tryz.prog I19297 := InOk.of_run (K := K_NA3a) (n := 5000) mixed K_NA3a_ok (by kernel_rfl) (by as_aux_lemma => kernel_rfl)

noncomputable def I19097 : In := ⟨281, [(.ptr 16511 0), (.fn (.func 378) [] [(.ptr 19998 0), (.ptr 20015 0), (.ptr 20000 0)])], 20028, [q530, (16509, (.cells 3 false [] (T.ofList 0 .leaf [(.so 16508 0 721 1), (.int .i64 647), zE]))), q535, q533, q25, (19998, (.cells 1 false [] (T.ofList 0 .leaf [(.ptr 16511 0)]))), (20000, (.cells 9 false [] (T.ofList 0 .leaf [zT, (.str 4 1231708783), zCC, zE, zA, zA, .nils, .nils, .nils]))), (20015, (.cells 1 false [] (T.ofList 0 .leaf [zC])))], (.tup []), 20420, [q530, q531, q535, q533, q25, (19998, (.cells 1 false [] (T.ofList 0 .leaf [(.ptr 16511 0)]))), (20000, (.cells 9 false [] (T.ofList 0 .leaf [zT, (.str 4 1231708783), zCC, zI, zD, zK, (.so 20038 0 18 1), .nils, .nils]))), (20015, (.cells 1 false [] (T.ofList 0 .leaf [zC]))), q40]⟩
theorem I19097_ok : InOk Tryz.prog I19097 := InOk.of_run (K := K_NA3a) (n := 5000) mixed K_NA3a_ok (by kernel_rfl) (by as_aux_lemma => kernel_rfl)

noncomputable def I18826 : In := ⟨280, [(.ptr 16511 0)], 19790, [q530, q538, q539, q533, q25], (.agg [zT, (.str 4 1517188975), zCC, zI, zC, zC, (.so 19830 0 8 1), .nils, .nils]), 19986, [q530, q536, q539, q533, q25, q133]⟩
theorem I18826_ok : InOk Tryz.prog I18826 := InOk.of_run (K := K_NA3a) (n := 5000) mixed K_NA3a_ok (by kernel_rfl) (by as_aux_lemma => kernel_rfl)

noncomputable def I18628 : In := ⟨281, [(.ptr 16511 0), (.fn (.func 378) [] [(.ptr 19357 0), (.ptr 19374 0), (.ptr 19359 0)])], 19387, [q530, (16509, (.cells 3 false [] (T.ofList 0 .leaf [(.so 16508 0 721 1), (.int .i64 569), zE]))), q541, q533, q25, (19357, (.cells 1 false [] (T.ofList 0 .leaf [(.ptr 16511 0)]))), (19359, (.cells 9 false [] (T.ofList 0 .leaf [zT, (.str 4 1516921455), zCC, zE, zA, zA, .nils, .nils, .nils]))), (19374, (.cells 1 false [] (T.ofList 0 .leaf [zC])))], (.tup []), 19779, [q530, q538, q541, q533, q25, (19357, (.cells 1 false [] (T.ofList 0 .leaf [(.ptr 16511 0)]))), (19359, (.cells 9 false [] (T.ofList 0 .leaf [zT, (.str 4 1516921455), zCC, zI, zD, zK, (.so 19397 0 18 1), .nils, .nils]))), (19374, (.cells 1 false [] (T.ofList 0 .leaf [zC]))), q154]⟩
theorem I18628_ok : InOk Tryz.prog I18628 := InOk.of_run (K := K_NA3a) (n := 5000) mixed K_NA3a_ok (by kernel_rfl) (by as_aux_lemma => kernel_rfl)

noncomputable def I18359 : In := ⟨280, [(.ptr 16511 0)], 19151, [q530, q544, q545, q533, q25], (.agg [zT, (.str 4 1131313007), zCC, zI, zC, zC, (.so 19191 0 8 1), .nils, .nils]), 19347, [q530, q542, q545, q533, q25, q227]⟩
theorem I18359_ok : InOk Tryz.prog I18359 := InOk.of_run (K := K_NA3a) (n := 5000) mixed K_NA3a_ok (by kernel_rfl) (by as_aux_lemma => kernel_rfl)

noncomputable def I18163 : In := ⟨281, [(.ptr 16511 0), (.fn (.func 378) [] [(.ptr 18720 0), (.ptr 18737 0), (.ptr 18722 0)])], 18750, [q530, (16509, (.cells 3 false [] (T.ofList 0 .leaf [(.so 16508 0 721 1), (.int .i64 491), zE]))), q547, q533, q25, (18720, (.cells 1 false [] (T.ofList 0 .leaf [(.ptr 16511 0)]))), (18722, (.cells 9 false [] (T.ofList 0 .leaf [zT, (.str 4 1131045487), zCC, zE, zA, zA, .nils, .nils, .nils]))), (18737, (.cells 1 false [] (T.ofList 0 .leaf [zC])))], (.tup []), 19142, [q530, q544, q547, q533, q25, (18720, (.cells 1 false [] (T.ofList 0 .leaf [(.ptr 16511 0)]))), (18722, (.cells 9 false [] (T.ofList 0 .leaf [zT, (.str 4 1131045487), zCC, zI, zD, zK, (.so 18760 0 18 1), .nils, .nils]))), (18737, (.cells 1 false [] (T.ofList 0 .leaf [zC]))), q248]⟩
theorem I18163_ok : InOk Tryz.prog I18163 := InOk.of_run (K := K_NA3a) (n := 5000) mixed K_NA3a_ok (by kernel_rfl) (by as_aux_lemma => kernel_rfl)

noncomputable def I17896 : In := ⟨280, [(.ptr 16511 0)], 18516, [q530, q550, q551, q533, q25], (.agg [zT, (.str 4 1399748463), zCC, zI, zC, zC, (.so 18556 0 8 1), .nils, .nils]), 18712, [q530, q548, q551, q533, q25, q321]⟩
theorem I17896_ok : InOk Tryz.prog I17896 := InOk.of_run (K := K_NA3a) (n := 5000) mixed K_NA3a_ok (by kernel_rfl) (by as_aux_lemma => kernel_rfl)

noncomputable def I17702 : In := ⟨281, [(.ptr 16511 0), (.fn (.func 378) [] [(.ptr 18087 0), (.ptr 18104 0), (.ptr 18089 0)])], 18117, [q530, (16509, (.cells 3 false [] (T.ofList 0 .leaf [(.so 16508 0 721 1), (.int .i64 413), zE]))), q553, q533, q25, (18087, (.cells 1 false [] (T.ofList 0 .leaf [(.ptr 16511 0)]))), (18089, (.cells 9 false [] (T.ofList 0 .leaf [zT, (.str 4 1399480943), zCC, zE, zA, zA, .nils, .nils, .nils]))), (18104, (.cells 1 false [] (T.ofList 0 .leaf [zC])))], (.tup []), 18509, [q530, q550, q553, q533, q25, (18087, (.cells 1 false [] (T.ofList 0 .leaf [(.ptr 16511 0)]))), (18089, (.cells 9 false [] (T.ofList 0 .leaf [zT, (.str 4 1399480943), zCC, zI, zD, zK, (.so 18127 0 18 1), .nils, .nils]))), (18104, (.cells 1 false [] (T.ofList 0 .leaf [zC]))), q341]⟩
theorem I17702_ok : InOk Tryz.prog I17702 := InOk.of_run (K := K_NA3a) (n := 5000) mixed K_NA3a_ok (by kernel_rfl) (by as_aux_lemma => kernel_rfl)

noncomputable def I17437 : In := ⟨280, [(.ptr 16511 0)], 17885, [q530, q556, q557, q533, q25], (.agg [zT, (.str 4 1114535791), zCC, zI, zC, zC, (.so 17925 0 8 1), .nils, .nils]), 18081, [q530, q554, q557, q533, q25, q414]⟩
theorem I17437_ok : InOk Tryz.prog I17437 := InOk.of_run (K := K_NA3a) (n := 5000) mixed K_NA3a_ok (by kernel_rfl) (by as_aux_lemma => kernel_rfl)

noncomputable def I17245 : In := ⟨281, [(.ptr 16511 0), (.fn (.func 378) [] [(.ptr 17458 0), (.ptr 17475 0), (.ptr 17460 0)])], 17488, [q530, (16509, (.cells 3 false [] (T.ofList 0 .leaf [(.so 16508 0 721 1), (.int .i64 335), zE]))), q559, q533, q25, (17458, (.cells 1 false [] (T.ofList 0 .leaf [(.ptr 16511 0)]))), (17460, (.cells 9 false [] (T.ofList 0 .leaf [zT, (.str 4 1114268271), zCC, zE, zA, zA, .nils, .nils, .nils]))), (17475, (.cells 1 false [] (T.ofList 0 .leaf [zC])))], (.tup []), 17880, [q530, q556, q559, q533, q25, (17458, (.cells 1 false [] (T.ofList 0 .leaf [(.ptr 16511 0)]))), (17460, (.cells 9 false [] (T.ofList 0 .leaf [zT, (.str 4 1114268271), zCC, zI, zD, zK, (.so 17498 0 18 1), .nils, .nils]))), (17475, (.cells 1 false [] (T.ofList 0 .leaf [zC]))), q434]⟩
theorem I17245_ok : InOk Tryz.prog I17245 := InOk.of_run (K := K_NA3a) (n := 5000) mixed K_NA3a_ok (by kernel_rfl) (by as_aux_lemma => kernel_rfl)
noncomputable def H_NA3a : Hand := ((Hand.at 281 (Hand.sp 18750 ((inHand I17702).or (inHand I17245)) (Hand.sp 19387 (inHand I18163) ((inHand I19097).or (inHand I18628))))).or ((Hand.at 280 (Hand.sp 19151 ((inHand I17896).or (inHand I17437)) (Hand.sp 19790 (inHand I18359) ((inHand I19297).or (inHand I18826))))).or ((Hand.at 57 (inHand I19505)).or ((Hand.at 228 (inHand I22558)).or (Hand.at 41 (Hand.sp 29776 ((inHand I24155).or (inHand I22992)) (Hand.sp 31144 (inHand I25402) ((inHand I28100).or (inHand I26717)))))))))
theorem H_NA3a_ok : HandOk Tryz.prog H_NA3a := (HandOk.or (HandOk.at 281 (HandOk.sp 18750 (HandOk.or (inHand_ok I17702_ok (by kernel_rfl)) (inHand_ok I17245_ok (by kernel_rfl))) (HandOk.sp 19387 (inHand_ok I18163_ok (by kernel_rfl)) (HandOk.or (inHand_ok I19097_ok (by kernel_rfl)) (inHand_ok I18628_ok (by kernel_rfl)))))) (HandOk.or (HandOk.at 280 (HandOk.sp 19151 (HandOk.or (inHand_ok I17896_ok (by kernel_rfl)) (inHand_ok I17437_ok (by kernel_rfl))) (HandOk.sp 19790 (inHand_ok I18359_ok (by kernel_rfl)) (HandOk.or (inHand_ok I19297_ok (by kernel_rfl)) (inHand_ok I18826_ok (by kernel_rfl)))))) (HandOk.or (HandOk.at 57 (inHand_ok I19505_ok (by kernel_rfl))) (HandOk.or (HandOk.at 228 (inHand_ok I22558_ok (by kernel_rfl))) (HandOk.at 41 (HandOk.sp 29776 (HandOk.or (inHand_ok I24155_ok (by kernel_rfl)) (inHand_ok I22992_ok (by kernel_rfl))) (HandOk.sp 31144 (inHand_ok I25402_ok (by kernel_rfl)) (HandOk.or (inHand_ok I28100_ok (by kernel_rfl)) (inHand_ok I26717_ok (by kernel_rfl))))))))))
end Go.Proofs.YtedimikdpclpnaaGreatDoor.na
