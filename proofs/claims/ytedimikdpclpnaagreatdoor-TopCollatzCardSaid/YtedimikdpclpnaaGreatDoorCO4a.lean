/-
  Contracts of calls, by the kernel.
-/
import Derived.Test.YtedimikdpclpnaaGreatDoorXN3
import Derived.Test.YtedimikdpclpnaaGreatDoorProg
import Derived.KernelRfl
import Derived.Test.YtedimikdpclpnaaGreatDoorCO0a
import Derived.Test.YtedimikdpclpnaaGreatDoorCO1a
import Derived.Test.YtedimikdpclpnaaGreatDoorCO1b
import Derived.Test.YtedimikdpclpnaaGreatDoorCO2a
import Derived.Test.YtedimikdpclpnaaGreatDoorCO3a
set_option linter.unusedSectionVars false
set_option linter.unusedVariables false
set_option maxRecDepth 1000000
set_option maxHeartbeats 0
namespace Go.Proofs.YtedimikdpclpnaaGreatDoor.co
open Go.X Go.RowKit
variable [Tab]
noncomputable def K_CO4a : Hand := ((H_CO3a).or ((H_CO2a).or ((H_CO1b).or ((H_CO1a).or H_CO0a))))
theorem K_CO4a_ok : HandOk Tryz.prog K_CO4a := (HandOk.or H_CO3a_ok (HandOk.or H_CO2a_ok (HandOk.or H_CO1b_ok (HandOk.or H_CO1a_ok H_CO0a_ok))))

noncomputable def I10129 : In := ⟨68, [(.ptr 7123 0)], 10375, [(7121, (.map [] 0)), q13, q14, q15, q16, q17, q18, q19, q20, q21], (.ptr 13726 0), 13947, [(7121, (.map [] 0)), q13, q14, q15, q16, q17, q18, q19, q20, q21, (10379, (.map [] 0)), (10380, (.map [] 0)), (10381, (.cells 3 false [] (T.ofList 0 .leaf [(.ptr 7123 0), (.map 10379), (.map 10380)]))), (10382, (.cells 7 false [] (T.ofList 0 .leaf [(.ptr 10376 0), (.ptr 10378 0), (.ptr 7123 0), (.so 11096 0 39 3), .nils, (.bool false), (.bool false)]))), (13722, (.cells 4 false [] (T.ofList 0 .leaf [.nils, .nils, .nils, (.int .i64 0)]))), (13723, (.map [] 0)), (13724, (.map [] 0)), (13725, (.map [] 0)), (13726, (.cells 32 false [] (T.ofList 0 .leaf [(.ptr 7123 0), (.ptr 10381 0), (.ptr 10376 0), (.ptr 10378 0), (.ptr 10382 0), (.ptr 13722 0), .nils, (.map 13723), (.map 13724), .nils, (.int .i64 1), (.int .i64 3), (.int .i64 6), (.int .i64 0), .nilp, (.bool false), (.int .i64 0), (.int .i64 0), (.int .i64 0), (.int .i64 0), (.int .i64 0), (.int .i64 0), (.int .u8 0), (.int .i64 0), (.str 0 0), (.str 0 0), (.bool false), (.int .i64 0), .nils, (.int .i64 0), (.int .i64 0), (.map 13725)])))]⟩
theorem I10129_ok : InOk Tryz.prog I10129 := InOk.of_run (K := K_CO4a) (n := 5000) mixed K_CO4a_ok (by kernel_rfl) (by as_aux_lemma => kernel_rfl)

noncomputable def I3015 : In := ⟨68, [(.ptr 3 0)], 3255, [(1, (.map [] 0)), q32, q33, q34, q35, q36, q37, q38, q39, q40], (.ptr 6606 0), 6827, [(1, (.map [] 0)), q32, q33, q34, q35, q36, q37, q38, q39, q40, q22, (3258, (.cells 3 false [] (T.ofList 0 .leaf [(.ptr 3256 0), .nils, (.map 3257)]))), (3262, (.cells 7 false [] (T.ofList 0 .leaf [(.ptr 3256 0), (.ptr 3258 0), (.ptr 3 0), (.so 3976 0 39 3), .nils, (.bool false), (.bool false)]))), (6602, (.cells 4 false [] (T.ofList 0 .leaf [.nils, .nils, .nils, (.int .i64 0)]))), (6603, (.map [] 0)), (6606, (.cells 32 false [] (T.ofList 0 .leaf [(.ptr 3 0), (.ptr 3261 0), (.ptr 3256 0), (.ptr 3258 0), (.ptr 3262 0), (.ptr 6602 0), .nils, (.map 6603), (.map 6604), .nils, (.int .i64 1), (.int .i64 3), (.int .i64 6), (.int .i64 0), .nilp, (.bool false), (.int .i64 0), (.int .i64 0), (.int .i64 0), (.int .i64 0), (.int .i64 0), (.int .i64 0), (.int .u8 0), (.int .i64 0), (.str 0 0), (.str 0 0), (.bool false), (.int .i64 0), .nils, (.int .i64 0), (.int .i64 0), (.map 6605)]))), (6725, (.cells 1 true [] (T.ofList 0 .leaf [(.int .u8 76)]))), (6821, (.cells 1 true [] (T.ofList 0 .leaf [(.int .u8 76)]))), q23, q24, q25]⟩
theorem I3015_ok : InOk Tryz.prog I3015 := InOk.of_run (K := K_CO4a) (n := 5000) mixed K_CO4a_ok (by kernel_rfl) (by as_aux_lemma => kernel_rfl)
noncomputable def H_CO4a : Hand := (Hand.at 68 ((inHand I3015).or (inHand I10129)))
theorem H_CO4a_ok : HandOk Tryz.prog H_CO4a := (HandOk.at 68 (HandOk.or (inHand_ok I3015_ok (by kernel_rfl)) (inHand_ok I10129_ok (by kernel_rfl))))
end Go.Proofs.YtedimikdpclpnaaGreatDoor.co
