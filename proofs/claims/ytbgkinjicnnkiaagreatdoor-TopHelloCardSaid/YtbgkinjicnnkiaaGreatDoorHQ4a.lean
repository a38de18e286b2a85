/-
  Contracts of calls, by the kernel.
-/
import Derived.Test.YtbgkinjicnnkiaaGreatDoorXN3
import Derived.Test.YtbgkinjicnnkiaaGreatDoorProg
import Derived.KernelRfl
import Derived.Test.YtbgkinjicnnkiaaGreatDoorHQ0a
import Derived.Test.YtbgkinjicnnkiaaGreatDoorHQ1a
import Derived.Test.YtbgkinjicnnkiaaGreatDoorHQ2a
import Derived.Test.YtbgkinjicnnkiaaGreatDoorHQ3a
set_option linter.unusedSectionVars false
set_option linter.unusedVariables false
set_option maxRecDepth 1000000
set_option maxHeartbeats 0
namespace Go.Proofs.YtbgkinjicnnkiaaGreatDoor.hq
open Go.X Go.RowKit
variable [Tab]
noncomputable def K_HQ4a : Hand := ((H_HQ3a).or ((H_HQ2a).or H_HQ1a))
theorem K_HQ4a_ok : HandOk Tryz.prog K_HQ4a := (HandOk.or H_HQ3a_ok (HandOk.or H_HQ2a_ok H_HQ1a_ok))

noncomputable def I3 : In := ⟨47, [(.sl 0 0 3 3)], 1, [q127], (.so 6867 0 3 11), 6868, [q127, (6867, (.cells 33 true [] (T.ofList 0 .leaf [(.int .i64 1), (.int .i64 0), (.int .u8 0), (.int .i64 0), (.str 0 0), (.str 0 0), (.bool false), (.int .i64 0), .nils, (.int .i64 0), (.int .i64 0), (.int .i64 0), (.int .i64 0), (.int .u8 0), (.int .i64 0), (.str 0 0), (.str 0 0), (.bool false), (.int .i64 0), .nils, (.int .i64 8), (.int .i64 0), (.int .i64 1), (.int .i64 5), (.int .u8 0), (.int .i64 0), (.str 0 0), (.str 0 0), (.bool false), (.int .i64 0), .nils, (.int .i64 0), (.int .i64 0)])))]⟩
theorem I3_ok : InOk Tryz.prog I3 := InOk.of_run (K := K_HQ4a) (n := 5000) mixed K_HQ4a_ok (by kernel_rfl) (by as_aux_lemma => kernel_rfl)
noncomputable def H_HQ4a : Hand := (Hand.at 47 (inHand I3))
theorem H_HQ4a_ok : HandOk Tryz.prog H_HQ4a := (HandOk.at 47 (inHand_ok I3_ok (by kernel_rfl)))
end Go.Proofs.YtbgkinjicnnkiaaGreatDoor.hq
