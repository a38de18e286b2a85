/-
  Contracts of calls, by the kernel.
-/
import Derived.Test.YtedimikdpclpnaaGreatDoorXN3
import Derived.Test.YtedimikdpclpnaaGreatDoorProg
import Derived.KernelRfl
import Derived.Test.YtedimikdpclpnaaGreatDoorMA0a
set_option linter.unusedSectionVars false
set_option linter.unusedVariables false
set_option maxRecDepth 1000000
set_option maxHeartbeats 0
namespace Go.Proofs.YtedimikdpclpnaaGreatDoor.ma
open Go.X Go.RowKit
variable [Tab]
noncomputable def K_MA1a : Hand := H_MA0a
theorem K_MA1a_ok : HandOk Tryz.prog K_MA1a := H_MA0a_ok

noncomputable def I14677 : In := ⟨174, [(.ptr 7147 0), (.ptr 14038 0), (.int .i64 0)], 15169, [q0, q1, q2, q3, q4, q5, q6], (.tup [(.so 16721 0 20 3), (.bool true)]), 16771, [q0, q1, q2, q3, q4, q5, q6]⟩
theorem I14677_ok : InOk Tryz.prog I14677 := InOk.of_run (K := K_MA1a) (n := 5000) mixed K_MA1a_ok (by kernel_rfl) (by as_aux_lemma => kernel_rfl)

noncomputable def I14274 : In := ⟨438, [(.ptr 14394 0)], 14397, [q1, (14393, (.map [] 0)), q7, q2], (.bool true), 15112, [q1, (14393, (.map [((.int .i64 0), (.int .i64 1), 0), ((.int .i64 1), (.int .i64 1), 1), ((.int .i64 2), (.int .i64 1), 2), ((.int .i64 5), (.int .i64 1), 3), ((.int .i64 6), (.int .i64 1), 4), ((.int .i64 9), (.int .i64 1), 5), ((.int .i64 10), (.int .i64 1), 6), ((.int .i64 11), (.int .i64 1), 7), ((.int .i64 14), (.int .i64 1), 8), ((.int .i64 17), (.int .i64 1), 9), ((.int .i64 18), (.int .i64 1), 10), ((.int .i64 21), (.int .i64 1), 11), ((.int .i64 22), (.int .i64 1), 12), ((.int .i64 23), (.int .i64 1), 13), ((.int .i64 24), (.int .i64 1), 14), ((.int .i64 25), (.int .i64 1), 15), ((.int .i64 26), (.int .i64 1), 16), ((.int .i64 29), (.int .i64 1), 17), ((.int .i64 32), (.int .i64 1), 18), ((.int .i64 33), (.int .i64 1), 19)] 20)), q7, q2]⟩
theorem I14274_ok : InOk Tryz.prog I14274 := InOk.of_run (K := K_MA1a) (n := 5000) mixed K_MA1a_ok (by kernel_rfl) (by as_aux_lemma => kernel_rfl)
noncomputable def H_MA1a : Hand := ((Hand.at 438 (inHand I14274)).or (Hand.at 174 (inHand I14677)))
theorem H_MA1a_ok : HandOk Tryz.prog H_MA1a := (HandOk.or (HandOk.at 438 (inHand_ok I14274_ok (by kernel_rfl))) (HandOk.at 174 (inHand_ok I14677_ok (by kernel_rfl))))
end Go.Proofs.YtedimikdpclpnaaGreatDoor.ma
