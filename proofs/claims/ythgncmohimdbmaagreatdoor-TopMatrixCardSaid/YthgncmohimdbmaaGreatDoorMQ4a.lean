/-
  Contracts of calls, by the kernel.
-/
import Derived.Test.YthgncmohimdbmaaGreatDoorXN3
import Derived.Test.YthgncmohimdbmaaGreatDoorProg
import Derived.KernelRfl
import Derived.Test.YthgncmohimdbmaaGreatDoorMQ0a
import Derived.Test.YthgncmohimdbmaaGreatDoorMQ1a
import Derived.Test.YthgncmohimdbmaaGreatDoorMQ2a
import Derived.Test.YthgncmohimdbmaaGreatDoorMQ3a
set_option linter.unusedSectionVars false
set_option linter.unusedVariables false
set_option maxRecDepth 1000000
set_option maxHeartbeats 0
namespace Go.Proofs.YthgncmohimdbmaaGreatDoor.mq
open Go.X Go.RowKit
variable [Tab]
noncomputable def K_MQ4a : Hand := ((H_MQ3a).or ((H_MQ2a).or ((H_MQ1a).or H_MQ0a)))
theorem K_MQ4a_ok : HandOk Tryz.prog K_MQ4a := (HandOk.or H_MQ3a_ok (HandOk.or H_MQ2a_ok (HandOk.or H_MQ1a_ok H_MQ0a_ok)))

noncomputable def I14903 : In := ⟨287, [(.ptr 7163 0), (.ptr 14064 0), (.int .i64 0)], 15770, [(7161, (.map [((.str 1 77), (.ptr 14064 0), 0)] 1)), q0, q1, q7, q10, q8, q11, q12, q13, q14, q15, q9], (.tup [(.so 18907 0 42 3), (.bool true)]), 18957, [(7161, (.map [((.str 1 77), (.ptr 14064 0), 0)] 1)), q0, q1, q7, q10, q8, q11, q12, q13, q14, q15, q9]⟩
theorem I14903_ok : InOk Tryz.prog I14903 := InOk.of_run (K := K_MQ4a) (n := 5000) mixed K_MQ4a_ok (by kernel_rfl) (by as_aux_lemma => kernel_rfl)

noncomputable def I10129 : In := ⟨48, [(.ptr 7163 0)], 10415, [(7161, (.map [] 0)), q0, q22, q23, q24, q25, q26, q27, q28, q29], (.ptr 13766 0), 13987, [(7161, (.map [] 0)), q0, q22, q23, q24, q25, q26, q27, q28, q29, q2, q3, (10419, (.map [] 0)), (10420, (.map [] 0)), (10421, (.cells 3 false [] (T.ofList 0 .leaf [(.ptr 7163 0), (.map 10419), (.map 10420)]))), (10422, (.cells 7 false [] (T.ofList 0 .leaf [(.ptr 10416 0), (.ptr 10418 0), (.ptr 7163 0), (.so 11136 0 39 3), .nils, (.bool false), (.bool false)]))), (13762, (.cells 4 false [] (T.ofList 0 .leaf [.nils, .nils, .nils, (.int .i64 0)]))), (13763, (.map [] 0)), (13764, (.map [] 0)), (13765, (.map [] 0)), (13766, (.cells 32 false [] (T.ofList 0 .leaf [(.ptr 7163 0), (.ptr 10421 0), (.ptr 10416 0), (.ptr 10418 0), (.ptr 10422 0), (.ptr 13762 0), .nils, (.map 13763), (.map 13764), .nils, (.int .i64 1), (.int .i64 3), (.int .i64 6), (.int .i64 0), .nilp, (.bool false), (.int .i64 0), (.int .i64 0), (.int .i64 0), (.int .i64 0), (.int .i64 0), (.int .i64 0), (.int .u8 0), (.int .i64 0), (.str 0 0), (.str 0 0), (.bool false), (.int .i64 0), .nils, (.int .i64 0), (.int .i64 0), (.map 13765)]))), q4, q5, q6]⟩
theorem I10129_ok : InOk Tryz.prog I10129 := InOk.of_run (K := K_MQ4a) (n := 5000) mixed K_MQ4a_ok (by kernel_rfl) (by as_aux_lemma => kernel_rfl)

noncomputable def I3015 : In := ⟨48, [(.ptr 3 0)], 3255, [(1, (.map [] 0)), q48, q49, q50, q51, q52, q53, q54, q55, q56], (.ptr 6606 0), 6827, [(1, (.map [] 0)), q48, q49, q50, q51, q52, q53, q54, q55, q56, q35, (3258, (.cells 3 false [] (T.ofList 0 .leaf [(.ptr 3256 0), .nils, (.map 3257)]))), (3262, (.cells 7 false [] (T.ofList 0 .leaf [(.ptr 3256 0), (.ptr 3258 0), (.ptr 3 0), (.so 3976 0 39 3), .nils, (.bool false), (.bool false)]))), (6602, (.cells 4 false [] (T.ofList 0 .leaf [.nils, .nils, .nils, (.int .i64 0)]))), (6603, (.map [] 0)), (6606, (.cells 32 false [] (T.ofList 0 .leaf [(.ptr 3 0), (.ptr 3261 0), (.ptr 3256 0), (.ptr 3258 0), (.ptr 3262 0), (.ptr 6602 0), .nils, (.map 6603), (.map 6604), .nils, (.int .i64 1), (.int .i64 3), (.int .i64 6), (.int .i64 0), .nilp, (.bool false), (.int .i64 0), (.int .i64 0), (.int .i64 0), (.int .i64 0), (.int .i64 0), (.int .i64 0), (.int .u8 0), (.int .i64 0), (.str 0 0), (.str 0 0), (.bool false), (.int .i64 0), .nils, (.int .i64 0), (.int .i64 0), (.map 6605)]))), (6725, (.cells 1 true [] (T.ofList 0 .leaf [(.int .u8 76)]))), (6821, (.cells 1 true [] (T.ofList 0 .leaf [(.int .u8 76)]))), q36, q37, q38]⟩
theorem I3015_ok : InOk Tryz.prog I3015 := InOk.of_run (K := K_MQ4a) (n := 5000) mixed K_MQ4a_ok (by kernel_rfl) (by as_aux_lemma => kernel_rfl)
noncomputable def H_MQ4a : Hand := ((Hand.at 48 ((inHand I3015).or (inHand I10129))).or (Hand.at 287 (inHand I14903)))
theorem H_MQ4a_ok : HandOk Tryz.prog H_MQ4a := (HandOk.or (HandOk.at 48 (HandOk.or (inHand_ok I3015_ok (by kernel_rfl)) (inHand_ok I10129_ok (by kernel_rfl)))) (HandOk.at 287 (inHand_ok I14903_ok (by kernel_rfl))))
end Go.Proofs.YthgncmohimdbmaaGreatDoor.mq
