/-
  Contracts of calls, by the kernel.
-/
import Derived.Test.YtkckdnjocncnhaaGreatDoorXN3
import Derived.Test.YtkckdnjocncnhaaGreatDoorProg
import Derived.KernelRfl
import Derived.Test.YtkckdnjocncnhaaGreatDoorSM0a
set_option linter.unusedSectionVars false
set_option linter.unusedVariables false
set_option maxRecDepth 1000000
set_option maxHeartbeats 0
namespace Go.Proofs.YtkckdnjocncnhaaGreatDoor.sm
open Go.X Go.RowKit
variable [Tab]
noncomputable def K_SM1a : Hand := H_SM0a
theorem K_SM1a_ok : HandOk Tryz.prog K_SM1a := H_SM0a_ok

noncomputable def I14290 : In := ⟨310, [(.ptr 6942 0), (.ptr 13841 0), (.int .i64 0)], 14528, [(13841, (.cells 8 false [] (T.ofList 0 .leaf [(.int .i64 52), (.sl 13843 0 9 9), (.int .i64 33), (.str 1 77), (.str 16 154706541852025644484233205990057992554), .nils, .nils, (.so 14516 0 1 9)]))), (14126, (.cells 18 true [] (T.ofList 0 .leaf [(.int .u8 3), (.int .u8 60), (.int .u8 26), (.int .u8 158), (.int .u8 0), (.int .u8 13), (.int .u8 27), (.int .u8 26), (.int .u8 96), (.int .u8 60), (.int .u8 132), (.int .u8 0), (.int .u8 255), (.int .u8 167), (.int .u8 255), (.int .u8 245), (.int .u8 27), (.int .u8 172)]))), (14503, (.cells 3 true [] (T.ofList 0 .leaf [(.int .i64 1), (.str 0 0), (.int .i64 0)]))), (14511, (.cells 8 true [] (T.ofList 0 .leaf [(.int .i64 252), (.int .i64 2), (.so 14503 0 1 3), .nils, (.int .i64 13), (.int .i64 13), .nils, .nils]))), (14516, (.cells 9 true [] (T.ofList 0 .leaf [(.int .i64 9), (.str 3 7173491), (.str 4 1227442472), (.bool true), (.int .i64 2), (.int .i64 2), (.so 14126 0 18 1), .nils, (.so 14511 0 2 4)])))], (.tup [(.so 15293 0 12 3), (.bool true)]), 15343, [(13841, (.cells 8 false [] (T.ofList 0 .leaf [(.int .i64 52), (.sl 13843 0 9 9), (.int .i64 33), (.str 1 77), (.str 16 154706541852025644484233205990057992554), .nils, .nils, (.so 14516 0 1 9)]))), (14126, (.cells 18 true [] (T.ofList 0 .leaf [(.int .u8 3), (.int .u8 60), (.int .u8 26), (.int .u8 158), (.int .u8 0), (.int .u8 13), (.int .u8 27), (.int .u8 26), (.int .u8 96), (.int .u8 60), (.int .u8 132), (.int .u8 0), (.int .u8 255), (.int .u8 167), (.int .u8 255), (.int .u8 245), (.int .u8 27), (.int .u8 172)]))), (14511, (.cells 8 true [] (T.ofList 0 .leaf [(.int .i64 252), (.int .i64 2), (.so 14503 0 1 3), .nils, (.int .i64 13), (.int .i64 13), .nils, .nils]))), (14516, (.cells 9 true [] (T.ofList 0 .leaf [(.int .i64 9), (.str 3 7173491), (.str 4 1227442472), (.bool true), (.int .i64 2), (.int .i64 2), (.so 14126 0 18 1), .nils, (.so 14511 0 2 4)])))]⟩
theorem I14290_ok : InOk Tryz.prog I14290 := InOk.of_run (K := K_SM1a) (n := 5000) mixed K_SM1a_ok (by kernel_rfl) (by as_aux_lemma => kernel_rfl)
noncomputable def H_SM1a : Hand := (inHand I14290)
theorem H_SM1a_ok : HandOk Tryz.prog H_SM1a := (inHand_ok I14290_ok (by kernel_rfl))
end Go.Proofs.YtkckdnjocncnhaaGreatDoor.sm
