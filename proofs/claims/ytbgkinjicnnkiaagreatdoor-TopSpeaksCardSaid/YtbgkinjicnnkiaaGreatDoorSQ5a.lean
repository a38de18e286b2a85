/-
  Contracts of calls, by the kernel.
-/
import Derived.Test.YtbgkinjicnnkiaaGreatDoorSNN
import Derived.Test.YtbgkinjicnnkiaaGreatDoorXN3
import Derived.Test.YtbgkinjicnnkiaaGreatDoorProg
import Derived.KernelRfl
import Derived.Test.YtbgkinjicnnkiaaGreatDoorSQ0a
import Derived.Test.YtbgkinjicnnkiaaGreatDoorSQ1a
import Derived.Test.YtbgkinjicnnkiaaGreatDoorSQ2a
import Derived.Test.YtbgkinjicnnkiaaGreatDoorSQ3a
import Derived.Test.YtbgkinjicnnkiaaGreatDoorSQ4a
set_option linter.unusedSectionVars false
set_option linter.unusedVariables false
set_option maxRecDepth 1000000
set_option maxHeartbeats 0
namespace Go.Proofs.YtbgkinjicnnkiaaGreatDoor.sq
open Go.X Go.RowKit
variable [Tab]
noncomputable def K_SQ5a : Hand := ((H_SQ4a).or ((H_SQ3a).or ((H_SQ2a).or ((H_SQ1a).or H_SQ0a))))
theorem K_SQ5a_ok : HandOk Tryz.prog K_SQ5a := (HandOk.or H_SQ4a_ok (HandOk.or H_SQ3a_ok (HandOk.or H_SQ2a_ok (HandOk.or H_SQ1a_ok H_SQ0a_ok))))

noncomputable def I7380 : In := ⟨19, [(.sl 7715 0 2 2)], 7716, [q342, q343, q344, q345, q346, q347, q348, q349, q350, q351, q352, q353, q354, q355, q356, q357, q358, q359, q360, q361, q362, q363, q364, q365, q366, q367, q368, q369, q370, q371, q372, q373, q374, q375, q376, q377, (7389, (.cells 13 false [] (T.ofList 0 .leaf [(.so 7704 0 25 1), (.so 7706 0 25 1), (.so 7708 0 25 1), (iN 26), tx66, tx3, (iN 33), (iN 52), .nils, .nils, z0, (.so 7714 0 45 1), z1]))), q378, q379, q380, q381, q382, q383, q384, q385, q386, q387, q388, q389, q390, q391, q392, q393, q394, q395, q396, q397, q398, q399, q400, q401, q402, (7704, (.cells 25 true [] (T.ofList 0 .leaf [(.str 2 16757), (.str 2 16739), (.str 2 28277), (.str 2 18805), (.str 4 1228566126), (.str 6 80515305455929), tx94, tx95, (.str 4 1953853301), tx85, tx80, tx73, (.str 7 17579444728839285), (.str 4 1445537909), tx104, (.str 13 6826359493711535262218113139002), tx90, tx91, tx105, tx86, tx76, tx70, (.str 3 7300981), (.str 5 314225272949), (.str 5 435476710261)]))), (7706, (.cells 25 true [] (T.ofList 0 .leaf [(.so 7394 0 4 1), (.so 7403 0 3 1), (.so 7413 0 4 1), (.so 7423 0 4 1), (.so 7434 0 5 1), (.so 7446 0 5 1), (.so 7459 0 19 1), (.so 7468 0 3 1), (.so 7478 0 6 1), (.so 7488 0 24 1), (.so 7499 0 5 1), (.so 7511 0 5 1), (.so 7542 0 9 1), (.so 7552 0 6 1), (.so 7563 0 5 1), (.so 7575 0 5 1), (.so 7592 0 22 1), (.so 7601 0 3 1), (.so 7611 0 10 1), (.so 7621 0 24 1), (.so 7632 0 5 1), (.so 7644 0 5 1), (.so 7666 0 5 1), (.so 7678 0 7 1), (.so 7702 0 7 1)]))), (7708, (.cells 25 true [] (T.ofList 0 .leaf [z1, z2, (iN 3), (iN 4), (iN 5), (iN 6), (iN 7), (iN 8), (iN 9), (iN 10), (iN 11), (iN 12), (iN 13), (iN 14), (iN 15), (iN 16), (iN 17), (iN 18), (iN 19), (iN 20), (iN 21), (iN 22), (iN 23), (iN 24), (iN 25)]))), q403, q404], (pN 14543), 17788, [q342, q343, q344, q345, q346, q347, q348, q349, q350, q351, q352, q353, q354, q355, q356, q357, q358, q359, q360, q361, q362, q363, q364, q365, q366, q367, q368, q369, q370, q371, q372, q373, q374, q375, q376, q377, q378, q379, q380, q381, q382, q383, q384, q385, q386, q387, q388, q389, q390, q391, q392, q393, q394, q395, q396, q397, q398, q399, q400, q401, q402, q403, q404, q23, q24, q25, q26, q135, q118, q136, q27, q151, q152, q312, q313, (10972, (.map [] 0)), q121, (10974, (.map [] 0)), (10975, (.map [] 0)), q339, q111, q30, (13691, (.cells 1 false [] (T.ofList 0 .leaf [bT]))), q31, q340, (14318, (.map [] 0)), (14319, (.map [] 0)), (14320, (.map [] 0)), q341, q317, q318, q319, (14542, (.cells 2 false [] (T.ofList 0 .leaf [(pN 7718), (pN 14321)]))), (14543, (.cells 2 false [] (T.ofList 0 .leaf [(pN 14542), bT]))), q35, q51, q130, q284, q36, q325, q37, q38, q5, q39, q6, q7]⟩
theorem I7380_ok : InOk Tryz.prog I7380 := InOk.of_run (K := K_SQ5a) (n := 5000) mixed K_SQ5a_ok (by kernel_rfl) (by as_aux_lemma => kernel_rfl)

noncomputable def S2 : Sum := ⟨bT, 6868, []⟩
theorem S2_ok : SumOk Tryz.prog 36 [] S2 := SumOk.of_run (K := K_SQ5a) (n := 5000) (keep := []) mixed K_SQ5a_ok (by kernel_rfl) (by as_aux_lemma => kernel_rfl)

noncomputable def tab_SQ5a : List (FuncId × SRows) := (36, [([], S2)]) :: []
theorem tab_SQ5a_ok : TabOk Tryz.prog tab_SQ5a := (TabOk.cons (RowsOk.cons S2_ok RowsOk.nil) TabOk.nil)
noncomputable def H_SQ5a : Hand := ((Hand.at 19 (inHand I7380)).or (sumsHand tab_SQ5a))
theorem H_SQ5a_ok : HandOk Tryz.prog H_SQ5a := (HandOk.or (HandOk.at 19 (inHand_ok I7380_ok (by kernel_rfl))) (sumsHand_ok tab_SQ5a_ok))
end Go.Proofs.YtbgkinjicnnkiaaGreatDoor.sq
