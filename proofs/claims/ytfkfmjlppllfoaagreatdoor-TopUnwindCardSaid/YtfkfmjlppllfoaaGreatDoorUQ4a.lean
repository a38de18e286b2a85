/-
  Contracts of calls, by the kernel.
-/
import Derived.Test.YtfkfmjlppllfoaaGreatDoorUNN
import Derived.Test.YtfkfmjlppllfoaaGreatDoorXN3
import Derived.Test.YtfkfmjlppllfoaaGreatDoorProg
import Derived.KernelRfl
import Derived.Test.YtfkfmjlppllfoaaGreatDoorUQ0a
import Derived.Test.YtfkfmjlppllfoaaGreatDoorUQ1a
import Derived.Test.YtfkfmjlppllfoaaGreatDoorUQ1b
import Derived.Test.YtfkfmjlppllfoaaGreatDoorUQ2a
import Derived.Test.YtfkfmjlppllfoaaGreatDoorUQ3a
set_option linter.unusedSectionVars false
set_option linter.unusedVariables false
set_option maxRecDepth 1000000
set_option maxHeartbeats 0
namespace Go.Proofs.YtfkfmjlppllfoaaGreatDoor.uq
open Go.X Go.RowKit
variable [Tab]
noncomputable def K_UQ4a : Hand := ((H_UQ3a).or ((H_UQ2a).or ((H_UQ1b).or ((H_UQ1a).or H_UQ0a))))
theorem K_UQ4a_ok : HandOk Tryz.prog K_UQ4a := (HandOk.or H_UQ3a_ok (HandOk.or H_UQ2a_ok (HandOk.or H_UQ1b_ok (HandOk.or H_UQ1a_ok H_UQ0a_ok))))

noncomputable def I10208 : In := ⟨52, [(pN 7243)], 10495, [(7241, (.map [] 0)), q0, q18, q19, q20, q3, q21, q22, q5, q23], (pN 13846), 14067, [(7241, (.map [] 0)), q0, q18, q19, q20, q3, q21, q22, q5, q23, q24, q25, (10499, (.map [] 0)), (10500, (.map [] 0)), q26, q27, q28, q29, (13843, (.map [] 0)), (13844, (.map [] 0)), (13845, (.map [] 0)), q30, q31, q32, q33]⟩
theorem I10208_ok : InOk Tryz.prog I10208 := InOk.of_run (K := K_UQ4a) (n := 5000) mixed K_UQ4a_ok (by kernel_rfl) (by as_aux_lemma => kernel_rfl)

noncomputable def I3015 : In := ⟨52, [(pN 3)], 3255, [(1, (.map [] 0)), q60, q61, q62, q63, q64, q65, q66, q67, q68], (pN 6606), 6827, [(1, (.map [] 0)), q60, q61, q62, q63, q64, q65, q66, q67, q68, q49, (3258, (.cells 3 false [] (T.ofList 0 .leaf [(pN 3256), .nils, (.map 3257)]))), (3262, (.cells 7 false [] (T.ofList 0 .leaf [(pN 3256), (pN 3258), (pN 3), (.so 3976 0 39 3), .nils, bF, bF]))), (6602, (.cells 4 false [] (T.ofList 0 .leaf [.nils, .nils, .nils, z0]))), (6603, (.map [] 0)), (6606, (.cells 32 false [] (T.ofList 0 .leaf [(pN 3), (pN 3261), (pN 3256), (pN 3258), (pN 3262), (pN 6602), .nils, (.map 6603), (.map 6604), .nils, z1, (iN 3), (iN 6), z0, .nilp, bF, z0, z0, z0, z0, z0, z0, (uN 0), z0, tx11, tx11, bF, z0, .nils, z0, z0, (.map 6605)]))), (6725, (.cells 1 true [] (T.ofList 0 .leaf [(uN 76)]))), (6821, (.cells 1 true [] (T.ofList 0 .leaf [(uN 76)]))), q50, q51, q52]⟩
theorem I3015_ok : InOk Tryz.prog I3015 := InOk.of_run (K := K_UQ4a) (n := 5000) mixed K_UQ4a_ok (by kernel_rfl) (by as_aux_lemma => kernel_rfl)
noncomputable def H_UQ4a : Hand := (Hand.at 52 ((inHand I3015).or (inHand I10208)))
theorem H_UQ4a_ok : HandOk Tryz.prog H_UQ4a := (HandOk.at 52 (HandOk.or (inHand_ok I3015_ok (by kernel_rfl)) (inHand_ok I10208_ok (by kernel_rfl))))
end Go.Proofs.YtfkfmjlppllfoaaGreatDoor.uq
