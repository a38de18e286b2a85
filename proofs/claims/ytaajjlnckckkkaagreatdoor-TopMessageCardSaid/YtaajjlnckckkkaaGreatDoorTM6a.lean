/-
  Contracts of calls, by the kernel.
-/
import Derived.Test.YtaajjlnckckkkaaGreatDoorXN3
import Derived.Test.YtaajjlnckckkkaaGreatDoorProg
import Derived.KernelRfl
import Derived.Test.YtaajjlnckckkkaaGreatDoorTM0a
import Derived.Test.YtaajjlnckckkkaaGreatDoorTM1a
import Derived.Test.YtaajjlnckckkkaaGreatDoorTM2a
import Derived.Test.YtaajjlnckckkkaaGreatDoorTM5a
set_option linter.unusedSectionVars false
set_option linter.unusedVariables false
set_option maxRecDepth 1000000
set_option maxHeartbeats 0
namespace Go.Proofs.YtaajjlnckckkkaaGreatDoor.tm
open Go.X Go.RowKit
variable [Tab]
noncomputable def K_TM6a : Hand := ((H_TM5a).or ((H_TM2a).or ((H_TM1a).or H_TM0a)))
theorem K_TM6a_ok : HandOk Tryz.prog K_TM6a := (HandOk.or H_TM5a_ok (HandOk.or H_TM2a_ok (HandOk.or H_TM1a_ok H_TM0a_ok)))

noncomputable def I31469 : In := ⟨61, [(.ptr 13693 0)], 15692, [(7088, (.map [((.str 1 77), (.ptr 13998 0), 0)] 1)), q19, q20, q21, q22, q23, q30, q24, q0, q4, q25, q26, (13692, (.map [((.str 8 6208537792749186637), (.int .i64 2), 0)] 1)), q32, q8, q31, q15, q9, q33, q34, (15460, (.cells 1 true [] (T.ofList 0 .leaf [(.ptr 15458 0)]))), q1, q2, q3, q13, q14], (.bool true), 16018, [(7088, (.map [((.str 1 77), (.ptr 13998 0), 0)] 1)), q19, q20, q21, q22, q23, q30, q24, q0, q4, q25, q5, (13692, (.map [((.str 8 6208537792749186637), (.int .i64 3), 0)] 1)), q17, q8, q31, q15, q9, q16, q18, (15460, (.cells 1 true [] (T.ofList 0 .leaf [(.ptr 15458 0)]))), q1, q2, q3, q13, q14]⟩
theorem I31469_ok : InOk Tryz.prog I31469 := InOk.of_run (K := K_TM6a) (n := 5000) mixed K_TM6a_ok (by kernel_rfl) (by as_aux_lemma => kernel_rfl)

noncomputable def I26346 : In := ⟨57, [(.ptr 7090 0)], 10342, [(7088, (.map [] 0)), q19, q66, q70, q67, q22, q68, q69, q24, q40], (.ptr 13693 0), 13914, [(7088, (.map [] 0)), q19, q66, q70, q67, q22, q68, q69, q24, q40, q42, q43, (10346, (.map [] 0)), (10347, (.map [] 0)), q61, q4, q25, q62, (13690, (.map [] 0)), (13691, (.map [] 0)), (13692, (.map [] 0)), q63, q46, q47, q48]⟩
theorem I26346_ok : InOk Tryz.prog I26346 := InOk.of_run (K := K_TM6a) (n := 5000) mixed K_TM6a_ok (by kernel_rfl) (by as_aux_lemma => kernel_rfl)

noncomputable def I10110 : In := ⟨57, [(.ptr 7030 0)], 10282, [(7028, (.map [] 0)), q78, q128, q132, q129, q81, q130, q131, q84, q95], (.ptr 13633 0), 13854, [(7028, (.map [] 0)), q78, q128, q132, q129, q81, q130, q131, q84, q95, q96, q97, (10284, (.map [] 0)), (10285, (.cells 3 false [] (T.ofList 0 .leaf [(.ptr 10283 0), .nils, (.map 10284)]))), (10286, (.map [] 0)), (10287, (.map [] 0)), q122, q123, q133, q124, (13630, (.map [] 0)), (13631, (.map [] 0)), (13632, (.map [] 0)), q125, q100, q101, q102]⟩
theorem I10110_ok : InOk Tryz.prog I10110 := InOk.of_run (K := K_TM6a) (n := 5000) mixed K_TM6a_ok (by kernel_rfl) (by as_aux_lemma => kernel_rfl)

noncomputable def I3015 : In := ⟨57, [(.ptr 3 0)], 3255, [(1, (.map [] 0)), q141, q142, q149, q143, q144, q145, q148, q146, q147], (.ptr 6606 0), 6827, [(1, (.map [] 0)), q141, q142, q149, q143, q144, q145, q148, q146, q147, q134, q138, q155, q139, (6603, (.map [] 0)), q140, (6725, (.cells 1 true [] (T.ofList 0 .leaf [(.int .u8 76)]))), (6821, (.cells 1 true [] (T.ofList 0 .leaf [(.int .u8 76)]))), q135, q136, q137]⟩
theorem I3015_ok : InOk Tryz.prog I3015 := InOk.of_run (K := K_TM6a) (n := 5000) mixed K_TM6a_ok (by kernel_rfl) (by as_aux_lemma => kernel_rfl)
noncomputable def H_TM6a : Hand := ((Hand.at 57 (Hand.sp 10282 (inHand I3015) ((inHand I26346).or (inHand I10110)))).or (Hand.at 61 (inHand I31469)))
theorem H_TM6a_ok : HandOk Tryz.prog H_TM6a := (HandOk.or (HandOk.at 57 (HandOk.sp 10282 (inHand_ok I3015_ok (by kernel_rfl)) (HandOk.or (inHand_ok I26346_ok (by kernel_rfl)) (inHand_ok I10110_ok (by kernel_rfl))))) (HandOk.at 61 (inHand_ok I31469_ok (by kernel_rfl))))
end Go.Proofs.YtaajjlnckckkkaaGreatDoor.tm
