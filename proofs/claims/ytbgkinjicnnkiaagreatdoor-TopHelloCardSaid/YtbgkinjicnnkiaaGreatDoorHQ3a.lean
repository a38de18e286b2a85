/-
  Contracts of calls, by the kernel.
-/
import Derived.Test.YtbgkinjicnnkiaaGreatDoorXN3
import Derived.Test.YtbgkinjicnnkiaaGreatDoorProg
import Derived.KernelRfl
import Derived.Test.YtbgkinjicnnkiaaGreatDoorHQ0a
import Derived.Test.YtbgkinjicnnkiaaGreatDoorHQ1a
import Derived.Test.YtbgkinjicnnkiaaGreatDoorHQ2a
set_option linter.unusedSectionVars false
set_option linter.unusedVariables false
set_option maxRecDepth 1000000
set_option maxHeartbeats 0
namespace Go.Proofs.YtbgkinjicnnkiaaGreatDoor.hq
open Go.X Go.RowKit
variable [Tab]
noncomputable def K_HQ3a : Hand := ((H_HQ2a).or ((H_HQ1a).or H_HQ0a))
theorem K_HQ3a_ok : HandOk Tryz.prog K_HQ3a := (HandOk.or H_HQ2a_ok (HandOk.or H_HQ1a_ok H_HQ0a_ok))

noncomputable def I18766 : In := ⟨66, [(.ptr 14073 0)], 19425, [(7468, (.map [((.str 1 77), (.ptr 14405 0), 0)] 1)), q11, q12, q25, q26, q13, q27, q28, q14, q15, q16, q29, q17, q10, q30, q31, q3, q32, q4, q5, q33, q34, (18958, (.cells 1 true [] (T.ofList 0 .leaf [(.ptr 18956 0)]))), (19108, (.cells 1 false [] (T.ofList 0 .leaf [(.int .u8 76)]))), q8, q9, q18, q19, q20], (.bool true), 19998, [(7468, (.map [((.str 1 77), (.ptr 14405 0), 0)] 1)), q11, q12, q25, q26, q13, q27, q28, q14, q22, q16, q29, q17, q0, q1, q2, q3, q32, q4, q5, q6, q7, (18958, (.cells 1 true [] (T.ofList 0 .leaf [(.ptr 18956 0)]))), (19108, (.cells 1 false [] (T.ofList 0 .leaf [(.int .u8 76)]))), q8, q9, q18, q23, q24]⟩
theorem I18766_ok : InOk Tryz.prog I18766 := InOk.of_run (K := K_HQ3a) (n := 5000) mixed K_HQ3a_ok (by kernel_rfl) (by as_aux_lemma => kernel_rfl)

noncomputable def I16845 : In := ⟨313, [(.ptr 7470 0), (.ptr 14405 0), (.int .i64 0)], 17058, [q3, q32, q4, q5], (.tup [(.so 18890 0 16 3), (.bool true)]), 18931, [q3, q32, q4, q5]⟩
theorem I16845_ok : InOk Tryz.prog I16845 := InOk.of_run (K := K_HQ3a) (n := 5000) mixed K_HQ3a_ok (by kernel_rfl) (by as_aux_lemma => kernel_rfl)

noncomputable def I16391 : In := ⟨152, [(.ptr 14406 0)], 16361, [q75, (14404, (.cells 3 false [] (T.ofList 0 .leaf [(.so 14403 0 510 1), (.int .i64 440), (.bool false)]))), q76, q77, q32], (.agg [(.int .i64 9), (.str 2 28519), (.str 4 1445546280), (.bool true), (.int .i64 4), (.int .i64 1), (.so 16392 0 42 1), .nils, .nils]), 17042, [q75, (14404, (.cells 3 false [] (T.ofList 0 .leaf [(.so 14403 0 510 1), (.int .i64 508), (.bool false)]))), q76, q77, q32, q4]⟩
theorem I16391_ok : InOk Tryz.prog I16391 := InOk.of_run (K := K_HQ3a) (n := 5000) mixed K_HQ3a_ok (by kernel_rfl) (by as_aux_lemma => kernel_rfl)

noncomputable def I15410 : In := ⟨225, [(.sl 14407 0 46 46), (.agg [(.int .i64 12), (.str 0 0), (.int .i64 0), (.int .i64 24), (.int .i64 25)])], 15692, [q32], (.bool true), 15758, [q32]⟩
theorem I15410_ok : InOk Tryz.prog I15410 := InOk.of_run (K := K_HQ3a) (n := 5000) mixed K_HQ3a_ok (by kernel_rfl) (by as_aux_lemma => kernel_rfl)

noncomputable def I15256 : In := ⟨225, [(.sl 14407 0 46 46), (.agg [(.int .i64 10), (.str 0 0), (.int .i64 0), (.int .i64 8), (.int .i64 20)])], 15538, [q32], (.bool true), 15622, [q32]⟩
theorem I15256_ok : InOk Tryz.prog I15256 := InOk.of_run (K := K_HQ3a) (n := 5000) mixed K_HQ3a_ok (by kernel_rfl) (by as_aux_lemma => kernel_rfl)

noncomputable def I15140 : In := ⟨225, [(.sl 14407 0 46 46), (.agg [(.int .i64 12), (.str 0 0), (.int .i64 0), (.int .i64 15), (.int .i64 19)])], 15453, [q32], (.bool true), 15537, [q32]⟩
theorem I15140_ok : InOk Tryz.prog I15140 := InOk.of_run (K := K_HQ3a) (n := 5000) mixed K_HQ3a_ok (by kernel_rfl) (by as_aux_lemma => kernel_rfl)

noncomputable def I14921 : In := ⟨225, [(.sl 14407 0 46 46), (.agg [(.int .i64 10), (.str 0 0), (.int .i64 0), (.int .i64 8), (.int .i64 17)])], 15274, [q32], (.bool true), 15393, [q32]⟩
theorem I14921_ok : InOk Tryz.prog I14921 := InOk.of_run (K := K_HQ3a) (n := 5000) mixed K_HQ3a_ok (by kernel_rfl) (by as_aux_lemma => kernel_rfl)

noncomputable def I14734 : In := ⟨225, [(.sl 14407 0 46 46), (.agg [(.int .i64 12), (.str 0 0), (.int .i64 0), (.int .i64 15), (.int .i64 16)])], 15154, [q32], (.bool true), 15273, [q32]⟩
theorem I14734_ok : InOk Tryz.prog I14734 := InOk.of_run (K := K_HQ3a) (n := 5000) mixed K_HQ3a_ok (by kernel_rfl) (by as_aux_lemma => kernel_rfl)

noncomputable def I10313 : In := ⟨59, [(.ptr 10723 0), (.ptr 10725 0), (.ptr 7470 0)], 10729, [], (.ptr 10729 0), 14069, [q16, q29, q17, (12403, (.cells 1 false [] (T.ofList 0 .leaf [(.str 1 73)]))), (13443, (.cells 1 false [] (T.ofList 0 .leaf [(.bool true)]))), (13445, (.cells 1 false [] (T.ofList 0 .leaf [(.str 18 5174820716358828607022171764334454026365516)]))), (13635, (.cells 1 false [] (T.ofList 0 .leaf [(.str 1 74)])))]⟩
theorem I10313_ok : InOk Tryz.prog I10313 := InOk.of_run (K := K_HQ3a) (n := 5000) mixed K_HQ3a_ok (by kernel_rfl) (by as_aux_lemma => kernel_rfl)

noncomputable def I3019 : In := ⟨59, [(.ptr 3256 0), (.ptr 3258 0), (.ptr 3 0)], 3262, [], (.ptr 3262 0), 6602, [q126]⟩
theorem I3019_ok : InOk Tryz.prog I3019 := InOk.of_run (K := K_HQ3a) (n := 5000) mixed K_HQ3a_ok (by kernel_rfl) (by as_aux_lemma => kernel_rfl)
noncomputable def H_HQ3a : Hand := ((Hand.at 59 ((inHand I3019).or (inHand I10313))).or ((Hand.at 225 (Hand.sp 15453 ((inHand I14921).or (inHand I14734)) (Hand.sp 15538 (inHand I15140) ((inHand I15410).or (inHand I15256))))).or ((Hand.at 152 (inHand I16391)).or ((Hand.at 313 (inHand I16845)).or (Hand.at 66 (inHand I18766))))))
theorem H_HQ3a_ok : HandOk Tryz.prog H_HQ3a := (HandOk.or (HandOk.at 59 (HandOk.or (inHand_ok I3019_ok (by kernel_rfl)) (inHand_ok I10313_ok (by kernel_rfl)))) (HandOk.or (HandOk.at 225 (HandOk.sp 15453 (HandOk.or (inHand_ok I14921_ok (by kernel_rfl)) (inHand_ok I14734_ok (by kernel_rfl))) (HandOk.sp 15538 (inHand_ok I15140_ok (by kernel_rfl)) (HandOk.or (inHand_ok I15410_ok (by kernel_rfl)) (inHand_ok I15256_ok (by kernel_rfl)))))) (HandOk.or (HandOk.at 152 (inHand_ok I16391_ok (by kernel_rfl))) (HandOk.or (HandOk.at 313 (inHand_ok I16845_ok (by kernel_rfl))) (HandOk.at 66 (inHand_ok I18766_ok (by kernel_rfl)))))))
end Go.Proofs.YtbgkinjicnnkiaaGreatDoor.hq
