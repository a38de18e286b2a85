/-
  Contracts of calls, by the kernel.
-/
import Derived.Test.YthgncmohimdbmaaGreatDoorCYNN
import Derived.Test.YthgncmohimdbmaaGreatDoorXN3
import Derived.Test.YthgncmohimdbmaaGreatDoorProg
import Derived.KernelRfl
import Derived.Test.YthgncmohimdbmaaGreatDoorCY0a
import Derived.Test.YthgncmohimdbmaaGreatDoorCY0c
import Derived.Test.YthgncmohimdbmaaGreatDoorCY1e
import Derived.Test.YthgncmohimdbmaaGreatDoorCY2a
import Derived.Test.YthgncmohimdbmaaGreatDoorCY3a
set_option linter.unusedSectionVars false
set_option linter.unusedVariables false
set_option maxRecDepth 1000000
set_option maxHeartbeats 0
namespace Go.Proofs.YthgncmohimdbmaaGreatDoor.cy
open Go.X Go.RowKit
variable [Tab]
noncomputable def K_CY4a : Hand := ((H_CY3a).or ((H_CY2a).or ((H_CY1e).or H_CY0c)))
theorem K_CY4a_ok : HandOk Tryz.prog K_CY4a := (HandOk.or H_CY3a_ok (HandOk.or H_CY2a_ok (HandOk.or H_CY1e_ok H_CY0c_ok)))

noncomputable def I10146 : In := ⟨48, [(pN 7221)], 10473, [(7219, (.map [] 0)), q6, q697, q698, q699, q11, q700, q701, q15, q16], (pN 13824), 14045, [(7219, (.map [] 0)), q6, q697, q698, q699, q11, q700, q701, q15, q16, q603, q604, (10477, (.map [] 0)), (10478, (.map [] 0)), (10479, (.cells 3 false [] (T.ofList 0 .leaf [(pN 7221), (.map 10477), (.map 10478)]))), q1, q18, (13820, (.cells 4 false [] (T.ofList 0 .leaf [.nils, .nils, .nils, z0]))), (13821, (.map [] 0)), (13822, (.map [] 0)), (13823, (.map [] 0)), (13824, (.cells 32 false [] (T.ofList 0 .leaf [(pN 7221), (pN 10479), (pN 10474), (pN 10476), (pN 10480), (pN 13820), .nils, (.map 13821), (.map 13822), .nils, z1, (iN 3), (iN 6), z0, .nilp, bF, z0, z0, z0, z0, z0, z0, (uN 0), z0, tx1, tx1, bF, z0, .nils, z0, z0, (.map 13823)]))), q606, q607, q608]⟩
theorem I10146_ok : InOk Tryz.prog I10146 := InOk.of_run (K := K_CY4a) (n := 5000) mixed K_CY4a_ok (by kernel_rfl) (by as_aux_lemma => kernel_rfl)

noncomputable def I3015 : In := ⟨48, [(pN 3)], 3255, [(1, (.map [] 0)), q718, q719, q720, q721, q722, q723, q724, q725, q726], (pN 6606), 6827, [(1, (.map [] 0)), q718, q719, q720, q721, q722, q723, q724, q725, q726, q707, (3258, (.cells 3 false [] (T.ofList 0 .leaf [(pN 3256), .nils, (.map 3257)]))), (3262, (.cells 7 false [] (T.ofList 0 .leaf [(pN 3256), (pN 3258), (pN 3), (.so 3976 0 39 3), .nils, bF, bF]))), (6602, (.cells 4 false [] (T.ofList 0 .leaf [.nils, .nils, .nils, z0]))), (6603, (.map [] 0)), (6606, (.cells 32 false [] (T.ofList 0 .leaf [(pN 3), (pN 3261), (pN 3256), (pN 3258), (pN 3262), (pN 6602), .nils, (.map 6603), (.map 6604), .nils, z1, (iN 3), (iN 6), z0, .nilp, bF, z0, z0, z0, z0, z0, z0, (uN 0), z0, tx1, tx1, bF, z0, .nils, z0, z0, (.map 6605)]))), (6725, (.cells 1 true [] (T.ofList 0 .leaf [(uN 76)]))), (6821, (.cells 1 true [] (T.ofList 0 .leaf [(uN 76)]))), q708, q709, q710]⟩
theorem I3015_ok : InOk Tryz.prog I3015 := InOk.of_run (K := K_CY4a) (n := 5000) mixed K_CY4a_ok (by kernel_rfl) (by as_aux_lemma => kernel_rfl)
noncomputable def H_CY4a : Hand := (Hand.at 48 ((inHand I3015).or (inHand I10146)))
theorem H_CY4a_ok : HandOk Tryz.prog H_CY4a := (HandOk.at 48 (HandOk.or (inHand_ok I3015_ok (by kernel_rfl)) (inHand_ok I10146_ok (by kernel_rfl))))
end Go.Proofs.YthgncmohimdbmaaGreatDoor.cy
