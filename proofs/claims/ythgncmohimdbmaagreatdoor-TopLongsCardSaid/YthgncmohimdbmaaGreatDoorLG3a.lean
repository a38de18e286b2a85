/-
  Contracts of calls, by the kernel.
-/
import Derived.Test.YthgncmohimdbmaaGreatDoorXN3
import Derived.Test.YthgncmohimdbmaaGreatDoorProg
import Derived.KernelRfl
import Derived.Test.YthgncmohimdbmaaGreatDoorLG0a
import Derived.Test.YthgncmohimdbmaaGreatDoorLG2a
set_option linter.unusedSectionVars false
set_option linter.unusedVariables false
set_option maxRecDepth 1000000
set_option maxHeartbeats 0
namespace Go.Proofs.YthgncmohimdbmaaGreatDoor.lg
open Go.X Go.RowKit
variable [Tab]
noncomputable def K_LG3a : Hand := ((H_LG2a).or H_LG0a)
theorem K_LG3a_ok : HandOk Tryz.prog K_LG3a := (HandOk.or H_LG2a_ok H_LG0a_ok)

noncomputable def S5287 : Sum := ⟨(.tup [(.so 5 0 1 4), (.agg [(.int .u8 76), (.str 23 10956966084090815260342509131105871416374185281426186602), (.int .i64 0), (.int .u8 0)]), (.bool true)]), 61, [q143]⟩
theorem S5287_ok : SumOk Tryz.prog 116 [(.str 28 6260485019439425252614312435813236600861718953314767591699208821288)] S5287 := SumOk.of_run (K := K_LG3a) (n := 5000) (keep := [5]) mixed K_LG3a_ok (by kernel_rfl) (by as_aux_lemma => kernel_rfl)

noncomputable def S5188 : Sum := ⟨(.tup [(.so 5 0 1 4), (.agg [(.int .u8 76), (.str 23 10956966084090815260342509131105871416374185281426186602), (.int .i64 0), (.int .u8 0)]), (.bool true)]), 61, [q144]⟩
theorem S5188_ok : SumOk Tryz.prog 116 [(.str 28 6260485019439425252614312435813236600861718953314767591699208815400)] S5188 := SumOk.of_run (K := K_LG3a) (n := 5000) (keep := [5]) mixed K_LG3a_ok (by kernel_rfl) (by as_aux_lemma => kernel_rfl)

noncomputable def S5090 : Sum := ⟨(.tup [(.so 5 0 1 4), (.agg [(.int .u8 76), (.str 23 10956966084090815260342509131105871416374185281426186602), (.int .i64 0), (.int .u8 0)]), (.bool true)]), 61, [q145]⟩
theorem S5090_ok : SumOk Tryz.prog 116 [(.str 28 6260485019439425252614312435813236600861718953314767591699208817192)] S5090 := SumOk.of_run (K := K_LG3a) (n := 5000) (keep := [5]) mixed K_LG3a_ok (by kernel_rfl) (by as_aux_lemma => kernel_rfl)

noncomputable def S4993 : Sum := ⟨(.tup [(.so 5 0 1 4), (.agg [(.int .u8 76), (.str 23 10956966084090815260342509131105871416374185281426186602), (.int .i64 0), (.int .u8 0)]), (.bool true)]), 61, [q125]⟩
theorem S4993_ok : SumOk Tryz.prog 116 [(.str 28 6260485019439425252614312435813236600861718953314767591699208816936)] S4993 := SumOk.of_run (K := K_LG3a) (n := 5000) (keep := [5]) mixed K_LG3a_ok (by kernel_rfl) (by as_aux_lemma => kernel_rfl)

noncomputable def S4826 : Sum := ⟨(.tup [(.so 40 0 1 4), (.agg [(.int .u8 76), (.str 23 10956966084090815260342509131105871416374185281426186602), (.int .i64 0), (.int .u8 0)]), (.bool true)]), 96, [q146]⟩
theorem S4826_ok : SumOk Tryz.prog 116 [(.str 45 545365161084908818682307871509240926086432362262523517738950247884810123871997999633158636370693479484509224)] S4826 := SumOk.of_run (K := K_LG3a) (n := 5000) (keep := [40]) mixed K_LG3a_ok (by kernel_rfl) (by as_aux_lemma => kernel_rfl)

noncomputable def tab_LG3a : List (FuncId × SRows) := (116, [([(.str 28 6260485019439425252614312435813236600861718953314767591699208821288)], S5287), ([(.str 28 6260485019439425252614312435813236600861718953314767591699208815400)], S5188), ([(.str 28 6260485019439425252614312435813236600861718953314767591699208817192)], S5090), ([(.str 28 6260485019439425252614312435813236600861718953314767591699208816936)], S4993), ([(.str 45 545365161084908818682307871509240926086432362262523517738950247884810123871997999633158636370693479484509224)], S4826)]) :: []
theorem tab_LG3a_ok : TabOk Tryz.prog tab_LG3a := (TabOk.cons (RowsOk.cons S5287_ok (RowsOk.cons S5188_ok (RowsOk.cons S5090_ok (RowsOk.cons S4993_ok (RowsOk.cons S4826_ok RowsOk.nil))))) TabOk.nil)
noncomputable def H_LG3a : Hand := (sumsHand tab_LG3a)
theorem H_LG3a_ok : HandOk Tryz.prog H_LG3a := (sumsHand_ok tab_LG3a_ok)
end Go.Proofs.YthgncmohimdbmaaGreatDoor.lg
