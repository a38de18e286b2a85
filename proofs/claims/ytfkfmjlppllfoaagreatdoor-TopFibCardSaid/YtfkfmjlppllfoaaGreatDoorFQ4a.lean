/-
  Contracts of calls, by the kernel.
-/
import Derived.Test.YtfkfmjlppllfoaaGreatDoorXN3
import Derived.Test.YtfkfmjlppllfoaaGreatDoorProg
import Derived.KernelRfl
import Derived.Test.YtfkfmjlppllfoaaGreatDoorFQ0a
import Derived.Test.YtfkfmjlppllfoaaGreatDoorFQ1a
import Derived.Test.YtfkfmjlppllfoaaGreatDoorFQ2a
import Derived.Test.YtfkfmjlppllfoaaGreatDoorFQ3a
set_option linter.unusedSectionVars false
set_option linter.unusedVariables false
set_option maxRecDepth 1000000
set_option maxHeartbeats 0
namespace Go.Proofs.YtfkfmjlppllfoaaGreatDoor.fq
open Go.X Go.RowKit
variable [Tab]
noncomputable def K_FQ4a : Hand := ((H_FQ3a).or ((H_FQ2a).or ((H_FQ1a).or H_FQ0a)))
theorem K_FQ4a_ok : HandOk Tryz.prog K_FQ4a := (HandOk.or H_FQ3a_ok (HandOk.or H_FQ2a_ok (HandOk.or H_FQ1a_ok H_FQ0a_ok)))

noncomputable def I10099 : In := ⟨52, [(.ptr 7003 0)], 10255, [(7001, (.map [] 0)), q36, q37, q38, q39, q40, q41, q42, q43, q44], (.ptr 13606 0), 13827, [(7001, (.map [] 0)), q36, q37, q38, q39, q40, q41, q42, q43, q44, (10259, (.map [] 0)), (10260, (.map [] 0)), (10261, (.cells 3 false [] (T.ofList 0 .leaf [(.ptr 7003 0), (.map 10259), (.map 10260)]))), q0, (13602, (.cells 4 false [] (T.ofList 0 .leaf [.nils, .nils, .nils, (.int .i64 0)]))), (13603, (.map [] 0)), (13604, (.map [] 0)), (13605, (.map [] 0)), (13606, (.cells 32 false [] (T.ofList 0 .leaf [(.ptr 7003 0), (.ptr 10261 0), (.ptr 10256 0), (.ptr 10258 0), (.ptr 10262 0), (.ptr 13602 0), .nils, (.map 13603), (.map 13604), .nils, (.int .i64 1), (.int .i64 3), (.int .i64 6), (.int .i64 0), .nilp, (.bool false), (.int .i64 0), (.int .i64 0), (.int .i64 0), (.int .i64 0), (.int .i64 0), (.int .i64 0), (.int .u8 0), (.int .i64 0), (.str 0 0), (.str 0 0), (.bool false), (.int .i64 0), .nils, (.int .i64 0), (.int .i64 0), (.map 13605)])))]⟩
theorem I10099_ok : InOk Tryz.prog I10099 := InOk.of_run (K := K_FQ4a) (n := 5000) mixed K_FQ4a_ok (by kernel_rfl) (by as_aux_lemma => kernel_rfl)

noncomputable def I3015 : In := ⟨52, [(.ptr 3 0)], 3255, [(1, (.map [] 0)), q55, q56, q57, q58, q59, q60, q61, q62, q63], (.ptr 6606 0), 6827, [(1, (.map [] 0)), q55, q56, q57, q58, q59, q60, q61, q62, q63, q45, (3258, (.cells 3 false [] (T.ofList 0 .leaf [(.ptr 3256 0), .nils, (.map 3257)]))), (3262, (.cells 7 false [] (T.ofList 0 .leaf [(.ptr 3256 0), (.ptr 3258 0), (.ptr 3 0), (.so 3976 0 39 3), .nils, (.bool false), (.bool false)]))), (6602, (.cells 4 false [] (T.ofList 0 .leaf [.nils, .nils, .nils, (.int .i64 0)]))), (6603, (.map [] 0)), (6606, (.cells 32 false [] (T.ofList 0 .leaf [(.ptr 3 0), (.ptr 3261 0), (.ptr 3256 0), (.ptr 3258 0), (.ptr 3262 0), (.ptr 6602 0), .nils, (.map 6603), (.map 6604), .nils, (.int .i64 1), (.int .i64 3), (.int .i64 6), (.int .i64 0), .nilp, (.bool false), (.int .i64 0), (.int .i64 0), (.int .i64 0), (.int .i64 0), (.int .i64 0), (.int .i64 0), (.int .u8 0), (.int .i64 0), (.str 0 0), (.str 0 0), (.bool false), (.int .i64 0), .nils, (.int .i64 0), (.int .i64 0), (.map 6605)]))), (6725, (.cells 1 true [] (T.ofList 0 .leaf [(.int .u8 76)]))), (6821, (.cells 1 true [] (T.ofList 0 .leaf [(.int .u8 76)]))), q46, q47, q48]⟩
theorem I3015_ok : InOk Tryz.prog I3015 := InOk.of_run (K := K_FQ4a) (n := 5000) mixed K_FQ4a_ok (by kernel_rfl) (by as_aux_lemma => kernel_rfl)
noncomputable def H_FQ4a : Hand := (Hand.at 52 ((inHand I3015).or (inHand I10099)))
theorem H_FQ4a_ok : HandOk Tryz.prog H_FQ4a := (HandOk.at 52 (HandOk.or (inHand_ok I3015_ok (by kernel_rfl)) (inHand_ok I10099_ok (by kernel_rfl))))
end Go.Proofs.YtfkfmjlppllfoaaGreatDoor.fq
