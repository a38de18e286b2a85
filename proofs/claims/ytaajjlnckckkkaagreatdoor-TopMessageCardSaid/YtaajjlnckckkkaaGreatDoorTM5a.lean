/-
  Contracts of calls, by the kernel.
-/
import Derived.Test.YtaajjlnckckkkaaGreatDoorXN3
import Derived.Test.YtaajjlnckckkkaaGreatDoorProg
import Derived.KernelRfl
import Derived.Test.YtaajjlnckckkkaaGreatDoorTM0a
import Derived.Test.YtaajjlnckckkkaaGreatDoorTM1a
import Derived.Test.YtaajjlnckckkkaaGreatDoorTM2a
import Derived.Test.YtaajjlnckckkkaaGreatDoorTM3a
import Derived.Test.YtaajjlnckckkkaaGreatDoorTM4a
set_option linter.unusedSectionVars false
set_option linter.unusedVariables false
set_option maxRecDepth 1000000
set_option maxHeartbeats 0
namespace Go.Proofs.YtaajjlnckckkkaaGreatDoor.tm
open Go.X Go.RowKit
variable [Tab]
noncomputable def K_TM5a : Hand := ((H_TM4a).or ((H_TM3a).or ((H_TM2a).or ((H_TM1a).or H_TM0a))))
theorem K_TM5a_ok : HandOk Tryz.prog K_TM5a := (HandOk.or H_TM4a_ok (HandOk.or H_TM3a_ok (HandOk.or H_TM2a_ok (HandOk.or H_TM1a_ok H_TM0a_ok))))

noncomputable def I31483 : In := ⟨244, [(.ptr 13693 0), (.ptr 15458 0), (.agg [(.int .i64 4), (.int .i64 3), (.int .i64 183), (.bool false), (.int .i64 11), (.int .i64 0), .nils, .nils])], 15732, [(7088, (.map [((.str 1 77), (.ptr 13998 0), 0)] 1)), q19, q20, q21, q22, q23, q30, q24, q0, q4, q25, q26, q27, q8, q31, q15, q9, q28, q29, q1, q2, q3, q13, q14], (.tup []), 16018, [(7088, (.map [((.str 1 77), (.ptr 13998 0), 0)] 1)), q19, q20, q21, q22, q23, q30, q24, q0, q4, q25, q5, q27, q8, q31, q15, q9, q16, q18, q1, q2, q3, q13, q14]⟩
theorem I31483_ok : InOk Tryz.prog I31483 := InOk.of_run (K := K_TM5a) (n := 5000) mixed K_TM5a_ok (by kernel_rfl) (by as_aux_lemma => kernel_rfl)

noncomputable def I31231 : In := ⟨61, [(.ptr 13693 0)], 15462, [(7088, (.map [((.str 1 77), (.ptr 13998 0), 0)] 1)), q19, q20, q21, q22, q23, q24, q40, q42, q43, q44, q52, (13692, (.map [] 0)), q53, q46, q47, q48, q8, q31, q15, q9, q49, q54, (15460, (.cells 1 true [] (T.ofList 0 .leaf [(.ptr 15458 0)])))], (.bool true), 15639, [(7088, (.map [((.str 1 77), (.ptr 13998 0), 0)] 1)), q19, q20, q21, q22, q23, q24, q40, q0, q35, q6, (13692, (.map [((.str 8 6208537792749186637), (.int .i64 1), 0)] 1)), q37, q8, q31, q15, q9, q38, q39, (15460, (.cells 1 true [] (T.ofList 0 .leaf [(.ptr 15458 0)]))), (15513, (.cells 2 false [] (T.ofList 0 .leaf [(.int .i64 2), .nils]))), (15603, (.cells 1 true [] (T.ofList 0 .leaf [(.int .u8 76)]))), q1, q2, q3, (15611, (.cells 1 true [] (T.ofList 0 .leaf [(.int .i64 9)]))), (15612, (.cells 1 true [] (T.ofList 0 .leaf [(.bool true)])))]⟩
theorem I31231_ok : InOk Tryz.prog I31231 := InOk.of_run (K := K_TM5a) (n := 5000) mixed K_TM5a_ok (by kernel_rfl) (by as_aux_lemma => kernel_rfl)

noncomputable def I30891 : In := ⟨60, [(.ptr 13693 0), (.str 1 77), (.str 2 28519), .nils, (.int .i64 100)], 15001, [(7088, (.map [((.str 1 77), (.ptr 13998 0), 0)] 1)), q19, q20, q21, q22, q23, q24, (10346, (.map [] 0)), (10347, (.map [] 0)), q61, q4, q62, (13690, (.map [] 0)), (13691, (.map [] 0)), q63, q8, q31, q15, q9], (.agg [(.int .i64 0), (.int .i64 0), (.int .u8 0), (.int .i64 0), (.str 0 0), (.str 0 0), (.bool false), (.int .i64 0), .nils, (.int .i64 0), (.int .i64 0)]), 15461, [(7088, (.map [((.str 1 77), (.ptr 13998 0), 0)] 1)), q19, q20, q21, q22, q23, q24, q61, q4, q44, q52, q53, q8, q31, q15, q9, q10, (15451, (.cells 2 false [] (T.ofList 0 .leaf [(.int .i64 2), .nils]))), q49, q54, (15460, (.cells 1 true [] (T.ofList 0 .leaf [(.ptr 15458 0)])))]⟩
theorem I30891_ok : InOk Tryz.prog I30891 := InOk.of_run (K := K_TM5a) (n := 5000) mixed K_TM5a_ok (by kernel_rfl) (by as_aux_lemma => kernel_rfl)

noncomputable def I26350 : In := ⟨70, [(.ptr 10343 0), (.ptr 10345 0), (.ptr 7090 0)], 10349, [], (.ptr 10349 0), 13689, [q4, q25]⟩
theorem I26350_ok : InOk Tryz.prog I26350 := InOk.of_run (K := K_TM5a) (n := 5000) mixed K_TM5a_ok (by kernel_rfl) (by as_aux_lemma => kernel_rfl)

noncomputable def I15027 : In := ⟨61, [(.ptr 13633 0)], 15483, [(7028, (.map [((.str 1 77), (.ptr 13936 0), 0)] 1)), q78, q79, q80, q81, q82, q84, q95, q96, q97, q98, q111, (13632, (.map [] 0)), q114, q100, q101, q102, q72, q112, q73, q74, q103, q115, (15481, (.cells 1 true [] (T.ofList 0 .leaf [(.ptr 15479 0)])))], (.bool true), 15660, [(7028, (.map [((.str 1 77), (.ptr 13936 0), 0)] 1)), q78, q79, q80, q81, q82, q84, q95, q106, q107, q85, q113, (13632, (.map [((.str 8 6208537792749186637), (.int .i64 1), 0)] 1)), q92, q72, q112, q73, q74, q93, q94, (15481, (.cells 1 true [] (T.ofList 0 .leaf [(.ptr 15479 0)]))), (15534, (.cells 2 false [] (T.ofList 0 .leaf [(.int .i64 2), .nils]))), (15624, (.cells 1 true [] (T.ofList 0 .leaf [(.int .u8 76)]))), q108, q109, q110, (15632, (.cells 1 true [] (T.ofList 0 .leaf [(.int .i64 9)]))), (15633, (.cells 1 true [] (T.ofList 0 .leaf [(.bool true)])))]⟩
theorem I15027_ok : InOk Tryz.prog I15027 := InOk.of_run (K := K_TM5a) (n := 5000) mixed K_TM5a_ok (by kernel_rfl) (by as_aux_lemma => kernel_rfl)

noncomputable def I14582 : In := ⟨60, [(.ptr 13633 0), (.str 1 77), (.str 2 28519), .nils, (.int .i64 100)], 14926, [(7028, (.map [((.str 1 77), (.ptr 13936 0), 0)] 1)), q78, q79, q80, q81, q82, q84, (10286, (.map [] 0)), (10287, (.map [] 0)), q122, q123, q124, (13630, (.map [] 0)), (13631, (.map [] 0)), q125, q72, q112, q73, q74], (.agg [(.int .i64 0), (.int .i64 0), (.int .u8 0), (.int .i64 0), (.str 0 0), (.str 0 0), (.bool false), (.int .i64 0), .nils, (.int .i64 0), (.int .i64 0)]), 15482, [(7028, (.map [((.str 1 77), (.ptr 13936 0), 0)] 1)), q78, q79, q80, q81, q82, q84, q122, q123, q98, q111, q114, q72, q112, q73, q74, (15467, (.cells 2 false [] (T.ofList 0 .leaf [(.int .i64 2), (.sl 15471 0 0 0)]))), (15472, (.cells 2 false [] (T.ofList 0 .leaf [(.int .i64 2), .nils]))), q103, q115, (15481, (.cells 1 true [] (T.ofList 0 .leaf [(.ptr 15479 0)])))]⟩
theorem I14582_ok : InOk Tryz.prog I14582 := InOk.of_run (K := K_TM5a) (n := 5000) mixed K_TM5a_ok (by kernel_rfl) (by as_aux_lemma => kernel_rfl)

noncomputable def I10114 : In := ⟨70, [(.ptr 10283 0), (.ptr 10285 0), (.ptr 7030 0)], 10289, [], (.ptr 10289 0), 13629, [q123, q133]⟩
theorem I10114_ok : InOk Tryz.prog I10114 := InOk.of_run (K := K_TM5a) (n := 5000) mixed K_TM5a_ok (by kernel_rfl) (by as_aux_lemma => kernel_rfl)

noncomputable def I3019 : In := ⟨70, [(.ptr 3256 0), (.ptr 3258 0), (.ptr 3 0)], 3262, [], (.ptr 3262 0), 6602, [q155]⟩
theorem I3019_ok : InOk Tryz.prog I3019 := InOk.of_run (K := K_TM5a) (n := 5000) mixed K_TM5a_ok (by kernel_rfl) (by as_aux_lemma => kernel_rfl)
noncomputable def H_TM5a : Hand := ((Hand.at 70 (Hand.sp 10289 (inHand I3019) ((inHand I26350).or (inHand I10114)))).or ((Hand.at 60 ((inHand I14582).or (inHand I30891))).or ((Hand.at 61 ((inHand I15027).or (inHand I31231))).or (Hand.at 244 (inHand I31483)))))
theorem H_TM5a_ok : HandOk Tryz.prog H_TM5a := (HandOk.or (HandOk.at 70 (HandOk.sp 10289 (inHand_ok I3019_ok (by kernel_rfl)) (HandOk.or (inHand_ok I26350_ok (by kernel_rfl)) (inHand_ok I10114_ok (by kernel_rfl))))) (HandOk.or (HandOk.at 60 (HandOk.or (inHand_ok I14582_ok (by kernel_rfl)) (inHand_ok I30891_ok (by kernel_rfl)))) (HandOk.or (HandOk.at 61 (HandOk.or (inHand_ok I15027_ok (by kernel_rfl)) (inHand_ok I31231_ok (by kernel_rfl)))) (HandOk.at 244 (inHand_ok I31483_ok (by kernel_rfl))))))
end Go.Proofs.YtaajjlnckckkkaaGreatDoor.tm
