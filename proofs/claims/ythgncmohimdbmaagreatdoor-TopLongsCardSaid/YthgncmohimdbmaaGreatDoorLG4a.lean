/-
  Contracts of calls, by the kernel.
-/
import Derived.Test.YthgncmohimdbmaaGreatDoorXN3
import Derived.Test.YthgncmohimdbmaaGreatDoorProg
import Derived.KernelRfl
import Derived.Test.YthgncmohimdbmaaGreatDoorLG0a
import Derived.Test.YthgncmohimdbmaaGreatDoorLG1a
import Derived.Test.YthgncmohimdbmaaGreatDoorLG2a
import Derived.Test.YthgncmohimdbmaaGreatDoorLG3a
set_option linter.unusedSectionVars false
set_option linter.unusedVariables false
set_option maxRecDepth 1000000
set_option maxHeartbeats 0
namespace Go.Proofs.YthgncmohimdbmaaGreatDoor.lg
open Go.X Go.RowKit
variable [Tab]
noncomputable def K_LG4a : Hand := ((H_LG3a).or ((H_LG2a).or ((H_LG1a).or H_LG0a)))
theorem K_LG4a_ok : HandOk Tryz.prog K_LG4a := (HandOk.or H_LG3a_ok (HandOk.or H_LG2a_ok (HandOk.or H_LG1a_ok H_LG0a_ok)))

noncomputable def I25125 : In := ⟨48, [(.ptr 6982 0)], 10234, [(6980, (.map [] 0)), q58, q59, q60, q61, q62, q63, q64, q65, q66], (.ptr 13585 0), 13806, [(6980, (.map [] 0)), q58, q59, q60, q61, q62, q63, q64, q65, q66, (10238, (.map [] 0)), (10239, (.map [] 0)), (10240, (.cells 3 false [] (T.ofList 0 .leaf [(.ptr 6982 0), (.map 10238), (.map 10239)]))), q0, (13581, (.cells 4 false [] (T.ofList 0 .leaf [.nils, .nils, .nils, (.int .i64 0)]))), (13582, (.map [] 0)), (13583, (.map [] 0)), (13584, (.map [] 0)), (13585, (.cells 32 false [] (T.ofList 0 .leaf [(.ptr 6982 0), (.ptr 10240 0), (.ptr 10235 0), (.ptr 10237 0), (.ptr 10241 0), (.ptr 13581 0), .nils, (.map 13582), (.map 13583), .nils, (.int .i64 1), (.int .i64 3), (.int .i64 6), (.int .i64 0), .nilp, (.bool false), (.int .i64 0), (.int .i64 0), (.int .i64 0), (.int .i64 0), (.int .i64 0), (.int .i64 0), (.int .u8 0), (.int .i64 0), (.str 0 0), (.str 0 0), (.bool false), (.int .i64 0), .nils, (.int .i64 0), (.int .i64 0), (.map 13584)])))]⟩
theorem I25125_ok : InOk Tryz.prog I25125 := InOk.of_run (K := K_LG4a) (n := 5000) mixed K_LG4a_ok (by kernel_rfl) (by as_aux_lemma => kernel_rfl)

noncomputable def I10104 : In := ⟨48, [(.ptr 6988 0)], 10240, [(6986, (.map [] 0)), q128, q129, q130, q131, q132, q133, q134, q135, q136], (.ptr 13591 0), 13812, [(6986, (.map [] 0)), q128, q129, q130, q131, q132, q133, q134, q135, q136, (10244, (.map [] 0)), (10245, (.map [] 0)), (10246, (.cells 3 false [] (T.ofList 0 .leaf [(.ptr 6988 0), (.map 10244), (.map 10245)]))), q67, (13587, (.cells 4 false [] (T.ofList 0 .leaf [.nils, .nils, .nils, (.int .i64 0)]))), (13588, (.map [] 0)), (13589, (.map [] 0)), (13590, (.map [] 0)), (13591, (.cells 32 false [] (T.ofList 0 .leaf [(.ptr 6988 0), (.ptr 10246 0), (.ptr 10241 0), (.ptr 10243 0), (.ptr 10247 0), (.ptr 13587 0), .nils, (.map 13588), (.map 13589), .nils, (.int .i64 1), (.int .i64 3), (.int .i64 6), (.int .i64 0), .nilp, (.bool false), (.int .i64 0), (.int .i64 0), (.int .i64 0), (.int .i64 0), (.int .i64 0), (.int .i64 0), (.int .u8 0), (.int .i64 0), (.str 0 0), (.str 0 0), (.bool false), (.int .i64 0), .nils, (.int .i64 0), (.int .i64 0), (.map 13590)])))]⟩
theorem I10104_ok : InOk Tryz.prog I10104 := InOk.of_run (K := K_LG4a) (n := 5000) mixed K_LG4a_ok (by kernel_rfl) (by as_aux_lemma => kernel_rfl)

noncomputable def I3015 : In := ⟨48, [(.ptr 3 0)], 3255, [(1, (.map [] 0)), q147, q148, q149, q150, q151, q152, q153, q154, q155], (.ptr 6606 0), 6827, [(1, (.map [] 0)), q147, q148, q149, q150, q151, q152, q153, q154, q155, q137, (3258, (.cells 3 false [] (T.ofList 0 .leaf [(.ptr 3256 0), .nils, (.map 3257)]))), (3262, (.cells 7 false [] (T.ofList 0 .leaf [(.ptr 3256 0), (.ptr 3258 0), (.ptr 3 0), (.so 3976 0 39 3), .nils, (.bool false), (.bool false)]))), (6602, (.cells 4 false [] (T.ofList 0 .leaf [.nils, .nils, .nils, (.int .i64 0)]))), (6603, (.map [] 0)), (6606, (.cells 32 false [] (T.ofList 0 .leaf [(.ptr 3 0), (.ptr 3261 0), (.ptr 3256 0), (.ptr 3258 0), (.ptr 3262 0), (.ptr 6602 0), .nils, (.map 6603), (.map 6604), .nils, (.int .i64 1), (.int .i64 3), (.int .i64 6), (.int .i64 0), .nilp, (.bool false), (.int .i64 0), (.int .i64 0), (.int .i64 0), (.int .i64 0), (.int .i64 0), (.int .i64 0), (.int .u8 0), (.int .i64 0), (.str 0 0), (.str 0 0), (.bool false), (.int .i64 0), .nils, (.int .i64 0), (.int .i64 0), (.map 6605)]))), (6725, (.cells 1 true [] (T.ofList 0 .leaf [(.int .u8 76)]))), (6821, (.cells 1 true [] (T.ofList 0 .leaf [(.int .u8 76)]))), q138, q139, q140]⟩
theorem I3015_ok : InOk Tryz.prog I3015 := InOk.of_run (K := K_LG4a) (n := 5000) mixed K_LG4a_ok (by kernel_rfl) (by as_aux_lemma => kernel_rfl)
noncomputable def H_LG4a : Hand := (Hand.at 48 (Hand.sp 10234 (inHand I3015) ((inHand I10104).or (inHand I25125))))
theorem H_LG4a_ok : HandOk Tryz.prog H_LG4a := (HandOk.at 48 (HandOk.sp 10234 (inHand_ok I3015_ok (by kernel_rfl)) (HandOk.or (inHand_ok I10104_ok (by kernel_rfl)) (inHand_ok I25125_ok (by kernel_rfl)))))
end Go.Proofs.YthgncmohimdbmaaGreatDoor.lg
