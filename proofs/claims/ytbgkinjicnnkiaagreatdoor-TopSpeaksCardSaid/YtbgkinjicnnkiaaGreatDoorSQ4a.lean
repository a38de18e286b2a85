/-
  Contracts of calls, by the kernel.
-/
import Derived.Test.YtbgkinjicnnkiaaGreatDoorSNN
import Derived.Test.YtbgkinjicnnkiaaGreatDoorXN3
import Derived.Test.YtbgkinjicnnkiaaGreatDoorProg
import Derived.KernelRfl
import Derived.Test.YtbgkinjicnnkiaaGreatDoorSQ0a
import Derived.Test.YtbgkinjicnnkiaaGreatDoorSQ1a
import Derived.Test.YtbgkinjicnnkiaaGreatDoorSQ2a
import Derived.Test.YtbgkinjicnnkiaaGreatDoorSQ3a
set_option linter.unusedSectionVars false
set_option linter.unusedVariables false
set_option maxRecDepth 1000000
set_option maxHeartbeats 0
namespace Go.Proofs.YtbgkinjicnnkiaaGreatDoor.sq
open Go.X Go.RowKit
variable [Tab]
noncomputable def K_SQ4a : Hand := ((H_SQ3a).or ((H_SQ2a).or ((H_SQ1a).or H_SQ0a)))
theorem K_SQ4a_ok : HandOk Tryz.prog K_SQ4a := (HandOk.or H_SQ3a_ok (HandOk.or H_SQ2a_ok (HandOk.or H_SQ1a_ok H_SQ0a_ok)))

noncomputable def I10392 : In := ⟨49, [(pN 7718)], 10970, [(7716, (.map [] 0)), q24, q333, q26, q334, q118, q335, q336, q337, q338], (pN 14321), 14542, [(7716, (.map [] 0)), q24, q333, q26, q334, q118, q335, q336, q337, q338, q312, q313, (10972, (.map [] 0)), q121, (10974, (.map [] 0)), (10975, (.map [] 0)), q339, q111, q30, (13691, (.cells 1 false [] (T.ofList 0 .leaf [bT]))), q31, q340, (14318, (.map [] 0)), (14319, (.map [] 0)), (14320, (.map [] 0)), q341, q317, q318, q319]⟩
theorem I10392_ok : InOk Tryz.prog I10392 := InOk.of_run (K := K_SQ4a) (n := 5000) mixed K_SQ4a_ok (by kernel_rfl) (by as_aux_lemma => kernel_rfl)

noncomputable def I3015 : In := ⟨49, [(pN 3)], 3255, [(1, (.map [] 0)), q415, q416, q417, q418, q419, q420, q421, q422, q423], (pN 6606), 6827, [(1, (.map [] 0)), q415, q416, q417, q418, q419, q420, q421, q422, q423, q405, (3258, (.cells 3 false [] (T.ofList 0 .leaf [(pN 3256), .nils, (.map 3257)]))), (3262, (.cells 7 false [] (T.ofList 0 .leaf [(pN 3256), (pN 3258), (pN 3), (.so 3976 0 39 3), .nils, bF, bF]))), (6602, (.cells 4 false [] (T.ofList 0 .leaf [.nils, .nils, .nils, z0]))), (6603, (.map [] 0)), (6606, (.cells 32 false [] (T.ofList 0 .leaf [(pN 3), (pN 3261), (pN 3256), (pN 3258), (pN 3262), (pN 6602), .nils, (.map 6603), (.map 6604), .nils, z1, (iN 3), (iN 6), z0, .nilp, bF, z0, z0, z0, z0, z0, z0, (uN 0), z0, tx4, tx4, bF, z0, .nils, z0, z0, (.map 6605)]))), (6725, (.cells 1 true [] (T.ofList 0 .leaf [(uN 76)]))), (6821, (.cells 1 true [] (T.ofList 0 .leaf [(uN 76)]))), q406, q407, q408]⟩
theorem I3015_ok : InOk Tryz.prog I3015 := InOk.of_run (K := K_SQ4a) (n := 5000) mixed K_SQ4a_ok (by kernel_rfl) (by as_aux_lemma => kernel_rfl)
noncomputable def H_SQ4a : Hand := (Hand.at 49 ((inHand I3015).or (inHand I10392)))
theorem H_SQ4a_ok : HandOk Tryz.prog H_SQ4a := (HandOk.at 49 (HandOk.or (inHand_ok I3015_ok (by kernel_rfl)) (inHand_ok I10392_ok (by kernel_rfl))))
end Go.Proofs.YtbgkinjicnnkiaaGreatDoor.sq
