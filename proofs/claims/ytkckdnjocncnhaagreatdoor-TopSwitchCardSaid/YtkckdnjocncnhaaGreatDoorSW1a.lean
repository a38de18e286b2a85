/-
  Contracts of calls, by the kernel.
-/
import Derived.Test.YtkckdnjocncnhaaGreatDoorXN3
import Derived.Test.YtkckdnjocncnhaaGreatDoorProg
import Derived.KernelRfl
import Derived.Test.YtkckdnjocncnhaaGreatDoorSW0a
set_option linter.unusedSectionVars false
set_option linter.unusedVariables false
set_option maxRecDepth 1000000
set_option maxHeartbeats 0
namespace Go.Proofs.YtkckdnjocncnhaaGreatDoor.sw
open Go.X Go.RowKit
variable [Tab]
noncomputable def K_SW1a : Hand := H_SW0a
theorem K_SW1a_ok : HandOk Tryz.prog K_SW1a := H_SW0a_ok

noncomputable def I14618 : In := ⟨310, [(.ptr 7026 0), (.ptr 13926 0), (.int .i64 0)], 14998, [(13926, (.cells 8 false [] (T.ofList 0 .leaf [(.int .i64 52), (.sl 13928 0 10 10), (.int .i64 33), (.str 1 77), (.str 16 154706541852025644484233205990057992554), .nils, .nils, (.so 14984 0 2 9)]))), (14236, (.cells 40 true [] (T.ofList 0 .leaf [(.int .u8 26), (.int .u8 170), (.int .u8 0), (.int .u8 0), (.int .u8 0), (.int .u8 0), (.int .u8 0), (.int .u8 36), (.int .u8 0), (.int .u8 0), (.int .u8 0), (.int .u8 0), (.int .u8 0), (.int .u8 0), (.int .u8 0), (.int .u8 2), (.int .u8 0), (.int .u8 0), (.int .u8 0), (.int .u8 27), (.int .u8 0), (.int .u8 0), (.int .u8 0), (.int .u8 30), (.int .u8 0), (.int .u8 0), (.int .u8 0), (.int .u8 33), (.int .u8 16), (.int .u8 10), (.int .u8 172), (.int .u8 16), (.int .u8 20), (.int .u8 172), (.int .u8 16), (.int .u8 30), (.int .u8 172), (.int .u8 16), (.int .u8 40), (.int .u8 172)]))), (14622, (.cells 16 true [] (T.ofList 0 .leaf [(.int .i64 28), (.int .i64 28), .nils, .nils, (.int .i64 2), (.int .i64 2), .nils, .nils, (.int .i64 2), (.int .i64 2), .nils, .nils, (.int .i64 2), (.int .i64 2), .nils, .nils]))), (14984, (.cells 18 true [] (T.ofList 0 .leaf [(.int .i64 9), (.str 5 435610083700), (.str 4 1227442472), (.bool true), (.int .i64 1), (.int .i64 1), (.so 14236 0 40 1), .nils, (.so 14622 0 4 4), (.int .i64 9), (.str 4 1802465132), (.str 4 1227442472), (.bool true), (.int .i64 1), (.int .i64 1), (.so 14668 0 37 1), .nils, (.so 14978 0 3 4)])))], (.tup [(.so 15727 0 10 3), (.bool true)]), 15777, [(13926, (.cells 8 false [] (T.ofList 0 .leaf [(.int .i64 52), (.sl 13928 0 10 10), (.int .i64 33), (.str 1 77), (.str 16 154706541852025644484233205990057992554), .nils, .nils, (.so 14984 0 2 9)]))), (14236, (.cells 40 true [] (T.ofList 0 .leaf [(.int .u8 26), (.int .u8 170), (.int .u8 0), (.int .u8 0), (.int .u8 0), (.int .u8 0), (.int .u8 0), (.int .u8 36), (.int .u8 0), (.int .u8 0), (.int .u8 0), (.int .u8 0), (.int .u8 0), (.int .u8 0), (.int .u8 0), (.int .u8 2), (.int .u8 0), (.int .u8 0), (.int .u8 0), (.int .u8 27), (.int .u8 0), (.int .u8 0), (.int .u8 0), (.int .u8 30), (.int .u8 0), (.int .u8 0), (.int .u8 0), (.int .u8 33), (.int .u8 16), (.int .u8 10), (.int .u8 172), (.int .u8 16), (.int .u8 20), (.int .u8 172), (.int .u8 16), (.int .u8 30), (.int .u8 172), (.int .u8 16), (.int .u8 40), (.int .u8 172)]))), (14622, (.cells 16 true [] (T.ofList 0 .leaf [(.int .i64 28), (.int .i64 28), .nils, .nils, (.int .i64 2), (.int .i64 2), .nils, .nils, (.int .i64 2), (.int .i64 2), .nils, .nils, (.int .i64 2), (.int .i64 2), .nils, .nils]))), (14984, (.cells 18 true [] (T.ofList 0 .leaf [(.int .i64 9), (.str 5 435610083700), (.str 4 1227442472), (.bool true), (.int .i64 1), (.int .i64 1), (.so 14236 0 40 1), .nils, (.so 14622 0 4 4), (.int .i64 9), (.str 4 1802465132), (.str 4 1227442472), (.bool true), (.int .i64 1), (.int .i64 1), (.so 14668 0 37 1), .nils, (.so 14978 0 3 4)])))]⟩
theorem I14618_ok : InOk Tryz.prog I14618 := InOk.of_run (K := K_SW1a) (n := 5000) mixed K_SW1a_ok (by kernel_rfl) (by as_aux_lemma => kernel_rfl)
noncomputable def H_SW1a : Hand := (inHand I14618)
theorem H_SW1a_ok : HandOk Tryz.prog H_SW1a := (inHand_ok I14618_ok (by kernel_rfl))
end Go.Proofs.YtkckdnjocncnhaaGreatDoor.sw
