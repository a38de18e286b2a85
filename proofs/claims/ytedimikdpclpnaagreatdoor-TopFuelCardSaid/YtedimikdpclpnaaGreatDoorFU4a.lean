/-
  Contracts of calls, by the kernel.
-/
import Derived.Test.YtedimikdpclpnaaGreatDoorXN3
import Derived.Test.YtedimikdpclpnaaGreatDoorProg
import Derived.KernelRfl
import Derived.Test.YtedimikdpclpnaaGreatDoorFU0a
import Derived.Test.YtedimikdpclpnaaGreatDoorFU1a
import Derived.Test.YtedimikdpclpnaaGreatDoorFU1b
import Derived.Test.YtedimikdpclpnaaGreatDoorFU2a
import Derived.Test.YtedimikdpclpnaaGreatDoorFU3a
set_option linter.unusedSectionVars false
set_option linter.unusedVariables false
set_option maxRecDepth 1000000
set_option maxHeartbeats 0
namespace Go.Proofs.YtedimikdpclpnaaGreatDoor.fu
open Go.X Go.RowKit
variable [Tab]
noncomputable def K_FU4a : Hand := ((H_FU3a).or ((H_FU2a).or ((H_FU1b).or ((H_FU1a).or H_FU0a))))
theorem K_FU4a_ok : HandOk Tryz.prog K_FU4a := (HandOk.or H_FU3a_ok (HandOk.or H_FU2a_ok (HandOk.or H_FU1b_ok (HandOk.or H_FU1a_ok H_FU0a_ok))))

noncomputable def I10079 : In := ⟨68, [(.ptr 6942 0)], 10194, [(6940, (.map [] 0)), q10, q11, q12, q13, q14, q15, q16, q17, q18], (.ptr 13545 0), 13766, [(6940, (.map [] 0)), q10, q11, q12, q13, q14, q15, q16, q17, q18, (10198, (.map [] 0)), (10199, (.map [] 0)), (10200, (.cells 3 false [] (T.ofList 0 .leaf [(.ptr 6942 0), (.map 10198), (.map 10199)]))), (10201, (.cells 7 false [] (T.ofList 0 .leaf [(.ptr 10195 0), (.ptr 10197 0), (.ptr 6942 0), (.so 10915 0 39 3), .nils, (.bool false), (.bool false)]))), (13541, (.cells 4 false [] (T.ofList 0 .leaf [.nils, .nils, .nils, (.int .i64 0)]))), (13542, (.map [] 0)), (13543, (.map [] 0)), (13544, (.map [] 0)), (13545, (.cells 32 false [] (T.ofList 0 .leaf [(.ptr 6942 0), (.ptr 10200 0), (.ptr 10195 0), (.ptr 10197 0), (.ptr 10201 0), (.ptr 13541 0), .nils, (.map 13542), (.map 13543), .nils, (.int .i64 1), (.int .i64 3), (.int .i64 6), (.int .i64 0), .nilp, (.bool false), (.int .i64 0), (.int .i64 0), (.int .i64 0), (.int .i64 0), (.int .i64 0), (.int .i64 0), (.int .u8 0), (.int .i64 0), (.str 0 0), (.str 0 0), (.bool false), (.int .i64 0), .nils, (.int .i64 0), (.int .i64 0), (.map 13544)])))]⟩
theorem I10079_ok : InOk Tryz.prog I10079 := InOk.of_run (K := K_FU4a) (n := 5000) mixed K_FU4a_ok (by kernel_rfl) (by as_aux_lemma => kernel_rfl)

noncomputable def I3015 : In := ⟨68, [(.ptr 3 0)], 3255, [(1, (.map [] 0)), q29, q30, q31, q32, q33, q34, q35, q36, q37], (.ptr 6606 0), 6827, [(1, (.map [] 0)), q29, q30, q31, q32, q33, q34, q35, q36, q37, q19, (3258, (.cells 3 false [] (T.ofList 0 .leaf [(.ptr 3256 0), .nils, (.map 3257)]))), (3262, (.cells 7 false [] (T.ofList 0 .leaf [(.ptr 3256 0), (.ptr 3258 0), (.ptr 3 0), (.so 3976 0 39 3), .nils, (.bool false), (.bool false)]))), (6602, (.cells 4 false [] (T.ofList 0 .leaf [.nils, .nils, .nils, (.int .i64 0)]))), (6603, (.map [] 0)), (6606, (.cells 32 false [] (T.ofList 0 .leaf [(.ptr 3 0), (.ptr 3261 0), (.ptr 3256 0), (.ptr 3258 0), (.ptr 3262 0), (.ptr 6602 0), .nils, (.map 6603), (.map 6604), .nils, (.int .i64 1), (.int .i64 3), (.int .i64 6), (.int .i64 0), .nilp, (.bool false), (.int .i64 0), (.int .i64 0), (.int .i64 0), (.int .i64 0), (.int .i64 0), (.int .i64 0), (.int .u8 0), (.int .i64 0), (.str 0 0), (.str 0 0), (.bool false), (.int .i64 0), .nils, (.int .i64 0), (.int .i64 0), (.map 6605)]))), (6725, (.cells 1 true [] (T.ofList 0 .leaf [(.int .u8 76)]))), (6821, (.cells 1 true [] (T.ofList 0 .leaf [(.int .u8 76)]))), q20, q21, q22]⟩
theorem I3015_ok : InOk Tryz.prog I3015 := InOk.of_run (K := K_FU4a) (n := 5000) mixed K_FU4a_ok (by kernel_rfl) (by as_aux_lemma => kernel_rfl)
noncomputable def H_FU4a : Hand := (Hand.at 68 ((inHand I3015).or (inHand I10079)))
theorem H_FU4a_ok : HandOk Tryz.prog H_FU4a := (HandOk.at 68 (HandOk.or (inHand_ok I3015_ok (by kernel_rfl)) (inHand_ok I10079_ok (by kernel_rfl))))
end Go.Proofs.YtedimikdpclpnaaGreatDoor.fu
