/-
  Contracts of calls, by the kernel.
-/
import Derived.Test.YtedimikdpclpnaaGreatDoorXN3
import Derived.Test.YtedimikdpclpnaaGreatDoorProg
import Derived.KernelRfl
import Derived.Test.YtedimikdpclpnaaGreatDoorNA0a
import Derived.Test.YtedimikdpclpnaaGreatDoorNA0e
import Derived.Test.YtedimikdpclpnaaGreatDoorNA0f
import Derived.Test.YtedimikdpclpnaaGreatDoorNA2e
set_option linter.unusedSectionVars false
set_option linter.unusedVariables false
set_option maxRecDepth 1000000
set_option maxHeartbeats 0
namespace Go.Proofs.YtedimikdpclpnaaGreatDoor.na
open Go.X Go.RowKit
variable [Tab]
noncomputable def K_NA3b : Hand := ((H_NA2e).or ((H_NA0f).or H_NA0e))
theorem K_NA3b_ok : HandOk Tryz.prog K_NA3b := (HandOk.or H_NA2e_ok (HandOk.or H_NA0f_ok H_NA0e_ok))

noncomputable def I15607 : In := ⟨280, [(.ptr 15564 0)], 16240, [q635, (15562, (.cells 3 false [] (T.ofList 0 .leaf [(.so 15561 0 258 1), (.int .i64 225), zE]))), q636, q637, q103], (.agg [zC, zAB, zBS, zI, zC, zC, (.so 16259 0 5 1), .nils, .nils]), 16381, [q635, (15562, (.cells 3 false [] (T.ofList 0 .leaf [(.so 15561 0 258 1), (.int .i64 256), zE]))), q636, q637, q103, q89]⟩
theorem I15607_ok : InOk Tryz.prog I15607 := InOk.of_run (K := K_NA3b) (n := 5000) mixed K_NA3b_ok (by kernel_rfl) (by as_aux_lemma => kernel_rfl)

noncomputable def S5287 : Sum := ⟨(.tup [(.so 5 0 1 4), (.agg [zBQ, zR, zA, zB]), zI]), 61, [q819]⟩
theorem S5287_ok : SumOk Tryz.prog 78 [zEL] S5287 := SumOk.of_run (K := K_NA3b) (n := 5000) (keep := [5]) mixed K_NA3b_ok (by kernel_rfl) (by as_aux_lemma => kernel_rfl)

noncomputable def S5188 : Sum := ⟨(.tup [(.so 5 0 1 4), (.agg [zBQ, zR, zA, zB]), zI]), 61, [q820]⟩
theorem S5188_ok : SumOk Tryz.prog 78 [zEK] S5188 := SumOk.of_run (K := K_NA3b) (n := 5000) (keep := [5]) mixed K_NA3b_ok (by kernel_rfl) (by as_aux_lemma => kernel_rfl)

noncomputable def S5090 : Sum := ⟨(.tup [(.so 5 0 1 4), (.agg [zBQ, zR, zA, zB]), zI]), 61, [q821]⟩
theorem S5090_ok : SumOk Tryz.prog 78 [zEJ] S5090 := SumOk.of_run (K := K_NA3b) (n := 5000) (keep := [5]) mixed K_NA3b_ok (by kernel_rfl) (by as_aux_lemma => kernel_rfl)

noncomputable def S4993 : Sum := ⟨(.tup [(.so 5 0 1 4), (.agg [zBQ, zR, zA, zB]), zI]), 61, [q560]⟩
theorem S4993_ok : SumOk Tryz.prog 78 [zEI] S4993 := SumOk.of_run (K := K_NA3b) (n := 5000) (keep := [5]) mixed K_NA3b_ok (by kernel_rfl) (by as_aux_lemma => kernel_rfl)

noncomputable def S4826 : Sum := ⟨(.tup [(.so 40 0 1 4), (.agg [zBQ, zR, zA, zB]), zI]), 96, [q822]⟩
theorem S4826_ok : SumOk Tryz.prog 78 [zCI] S4826 := SumOk.of_run (K := K_NA3b) (n := 5000) (keep := [40]) mixed K_NA3b_ok (by kernel_rfl) (by as_aux_lemma => kernel_rfl)

noncomputable def tab_NA3b : List (FuncId × SRows) := (78, [([zEL], S5287), ([zEK], S5188), ([zEJ], S5090), ([zEI], S4993), ([zCI], S4826)]) :: []
theorem tab_NA3b_ok : TabOk Tryz.prog tab_NA3b := (TabOk.cons (RowsOk.cons S5287_ok (RowsOk.cons S5188_ok (RowsOk.cons S5090_ok (RowsOk.cons S4993_ok (RowsOk.cons S4826_ok RowsOk.nil))))) TabOk.nil)
noncomputable def H_NA3b : Hand := ((Hand.at 280 (inHand I15607)).or (sumsHand tab_NA3b))
theorem H_NA3b_ok : HandOk Tryz.prog H_NA3b := (HandOk.or (HandOk.at 280 (inHand_ok I15607_ok (by kernel_rfl))) (sumsHand_ok tab_NA3b_ok))
end Go.Proofs.YtedimikdpclpnaaGreatDoor.na
