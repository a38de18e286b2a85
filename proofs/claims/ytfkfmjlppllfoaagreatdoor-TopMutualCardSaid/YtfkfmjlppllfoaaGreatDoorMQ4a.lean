/-
  Contracts of calls, by the kernel.
-/
import Derived.Test.YtfkfmjlppllfoaaGreatDoorMNN
import Derived.Test.YtfkfmjlppllfoaaGreatDoorXN3
import Derived.Test.YtfkfmjlppllfoaaGreatDoorProg
import Derived.KernelRfl
import Derived.Test.YtfkfmjlppllfoaaGreatDoorMQ0a
import Derived.Test.YtfkfmjlppllfoaaGreatDoorMQ1a
import Derived.Test.YtfkfmjlppllfoaaGreatDoorMQ2a
import Derived.Test.YtfkfmjlppllfoaaGreatDoorMQ3a
set_option linter.unusedSectionVars false
set_option linter.unusedVariables false
set_option maxRecDepth 1000000
set_option maxHeartbeats 0
namespace Go.Proofs.YtfkfmjlppllfoaaGreatDoor.mq
open Go.X Go.RowKit
variable [Tab]
noncomputable def K_MQ4a : Hand := ((H_MQ3a).or ((H_MQ2a).or ((H_MQ1a).or H_MQ0a)))
theorem K_MQ4a_ok : HandOk Tryz.prog K_MQ4a := (HandOk.or H_MQ3a_ok (HandOk.or H_MQ2a_ok (HandOk.or H_MQ1a_ok H_MQ0a_ok)))

noncomputable def I10171 : In := ⟨52, [(pN 7170)], 10422, [(7168, (.map [] 0)), q38, q120, q121, q122, q40, q123, q124, q125, q126], (pN 13773), 13994, [(7168, (.map [] 0)), q38, q120, q121, q122, q40, q123, q124, q125, q126, (10426, (.map [] 0)), (10427, (.map [] 0)), q114, q0, (13769, (.cells 4 false [] (T.ofList 0 .leaf [.nils, .nils, .nils, z0]))), (13770, (.map [] 0)), (13771, (.map [] 0)), (13772, (.map [] 0)), (13773, (.cells 32 false [] (T.ofList 0 .leaf [(pN 7170), (pN 10428), (pN 10423), (pN 10425), (pN 10429), (pN 13769), .nils, (.map 13770), (.map 13771), .nils, z1, (iN 3), (iN 6), z0, .nilp, bF, z0, z0, z0, z0, z0, z0, (uN 0), z0, tx6, tx6, bF, z0, .nils, z0, z0, (.map 13772)])))]⟩
theorem I10171_ok : InOk Tryz.prog I10171 := InOk.of_run (K := K_MQ4a) (n := 5000) mixed K_MQ4a_ok (by kernel_rfl) (by as_aux_lemma => kernel_rfl)

noncomputable def I3015 : In := ⟨52, [(pN 3)], 3255, [(1, (.map [] 0)), q137, q138, q139, q140, q141, q142, q143, q144, q145], (pN 6606), 6827, [(1, (.map [] 0)), q137, q138, q139, q140, q141, q142, q143, q144, q145, q127, (3258, (.cells 3 false [] (T.ofList 0 .leaf [(pN 3256), .nils, (.map 3257)]))), (3262, (.cells 7 false [] (T.ofList 0 .leaf [(pN 3256), (pN 3258), (pN 3), (.so 3976 0 39 3), .nils, bF, bF]))), (6602, (.cells 4 false [] (T.ofList 0 .leaf [.nils, .nils, .nils, z0]))), (6603, (.map [] 0)), (6606, (.cells 32 false [] (T.ofList 0 .leaf [(pN 3), (pN 3261), (pN 3256), (pN 3258), (pN 3262), (pN 6602), .nils, (.map 6603), (.map 6604), .nils, z1, (iN 3), (iN 6), z0, .nilp, bF, z0, z0, z0, z0, z0, z0, (uN 0), z0, tx6, tx6, bF, z0, .nils, z0, z0, (.map 6605)]))), (6725, (.cells 1 true [] (T.ofList 0 .leaf [(uN 76)]))), (6821, (.cells 1 true [] (T.ofList 0 .leaf [(uN 76)]))), q128, q129, q130]⟩
theorem I3015_ok : InOk Tryz.prog I3015 := InOk.of_run (K := K_MQ4a) (n := 5000) mixed K_MQ4a_ok (by kernel_rfl) (by as_aux_lemma => kernel_rfl)
noncomputable def H_MQ4a : Hand := (Hand.at 52 ((inHand I3015).or (inHand I10171)))
theorem H_MQ4a_ok : HandOk Tryz.prog H_MQ4a := (HandOk.at 52 (HandOk.or (inHand_ok I3015_ok (by kernel_rfl)) (inHand_ok I10171_ok (by kernel_rfl))))
end Go.Proofs.YtfkfmjlppllfoaaGreatDoor.mq
