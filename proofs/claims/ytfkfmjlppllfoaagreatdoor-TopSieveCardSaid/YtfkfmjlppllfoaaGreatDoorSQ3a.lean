/-
  Contracts of calls, by the kernel.
-/
import Derived.Test.YtfkfmjlppllfoaaGreatDoorXN3
import Derived.Test.YtfkfmjlppllfoaaGreatDoorProg
import Derived.KernelRfl
import Derived.Test.YtfkfmjlppllfoaaGreatDoorSQ0a
import Derived.Test.YtfkfmjlppllfoaaGreatDoorSQ2a
set_option linter.unusedSectionVars false
set_option linter.unusedVariables false
set_option maxRecDepth 1000000
set_option maxHeartbeats 0
namespace Go.Proofs.YtfkfmjlppllfoaaGreatDoor.sq
open Go.X Go.RowKit
variable [Tab]
noncomputable def K_SQ3a : Hand := ((H_SQ2a).or H_SQ0a)
theorem K_SQ3a_ok : HandOk Tryz.prog K_SQ3a := (HandOk.or H_SQ2a_ok H_SQ0a_ok)

noncomputable def I13687 : In := ⟨72, [(.ptr 14066 0)], 14067, [q11, (14064, (.cells 3 false [] (T.ofList 0 .leaf [(.so 14063 0 235 1), (.int .i64 0), (.bool false)]))), (14065, (.cells 8 false [] (T.ofList 0 .leaf [(.int .i64 52), .nils, (.int .i64 0), (.str 0 0), (.str 0 0), .nils, .nils, .nils]))), q12], (.tup []), 15660, [q11, q1, q12, q2, q0, q3, q4, q5, q6, q7, q8]⟩
theorem I13687_ok : InOk Tryz.prog I13687 := InOk.of_run (K := K_SQ3a) (n := 5000) mixed K_SQ3a_ok (by kernel_rfl) (by as_aux_lemma => kernel_rfl)

noncomputable def S5287 : Sum := ⟨(.tup [(.so 5 0 1 4), (.agg [(.int .u8 76), (.str 23 10956966084090815260342509131105871416374185281426186602), (.int .i64 0), (.int .u8 0)]), (.bool true)]), 61, [q28]⟩
theorem S5287_ok : SumOk Tryz.prog 120 [(.str 28 6260485019439425252614312435813236600861718953314767591699208821288)] S5287 := SumOk.of_run (K := K_SQ3a) (n := 5000) (keep := [5]) mixed K_SQ3a_ok (by kernel_rfl) (by as_aux_lemma => kernel_rfl)

noncomputable def S5188 : Sum := ⟨(.tup [(.so 5 0 1 4), (.agg [(.int .u8 76), (.str 23 10956966084090815260342509131105871416374185281426186602), (.int .i64 0), (.int .u8 0)]), (.bool true)]), 61, [q29]⟩
theorem S5188_ok : SumOk Tryz.prog 120 [(.str 28 6260485019439425252614312435813236600861718953314767591699208815400)] S5188 := SumOk.of_run (K := K_SQ3a) (n := 5000) (keep := [5]) mixed K_SQ3a_ok (by kernel_rfl) (by as_aux_lemma => kernel_rfl)

noncomputable def S5090 : Sum := ⟨(.tup [(.so 5 0 1 4), (.agg [(.int .u8 76), (.str 23 10956966084090815260342509131105871416374185281426186602), (.int .i64 0), (.int .u8 0)]), (.bool true)]), 61, [q30]⟩
theorem S5090_ok : SumOk Tryz.prog 120 [(.str 28 6260485019439425252614312435813236600861718953314767591699208817192)] S5090 := SumOk.of_run (K := K_SQ3a) (n := 5000) (keep := [5]) mixed K_SQ3a_ok (by kernel_rfl) (by as_aux_lemma => kernel_rfl)

noncomputable def S4993 : Sum := ⟨(.tup [(.so 5 0 1 4), (.agg [(.int .u8 76), (.str 23 10956966084090815260342509131105871416374185281426186602), (.int .i64 0), (.int .u8 0)]), (.bool true)]), 61, [q10]⟩
theorem S4993_ok : SumOk Tryz.prog 120 [(.str 28 6260485019439425252614312435813236600861718953314767591699208816936)] S4993 := SumOk.of_run (K := K_SQ3a) (n := 5000) (keep := [5]) mixed K_SQ3a_ok (by kernel_rfl) (by as_aux_lemma => kernel_rfl)

noncomputable def S4826 : Sum := ⟨(.tup [(.so 40 0 1 4), (.agg [(.int .u8 76), (.str 23 10956966084090815260342509131105871416374185281426186602), (.int .i64 0), (.int .u8 0)]), (.bool true)]), 96, [q31]⟩
theorem S4826_ok : SumOk Tryz.prog 120 [(.str 45 545365161084908818682307871509240926086432362262523517738950247884810123871997999633158636370693479484509224)] S4826 := SumOk.of_run (K := K_SQ3a) (n := 5000) (keep := [40]) mixed K_SQ3a_ok (by kernel_rfl) (by as_aux_lemma => kernel_rfl)

noncomputable def tab_SQ3a : List (FuncId × SRows) := (120, [([(.str 28 6260485019439425252614312435813236600861718953314767591699208821288)], S5287), ([(.str 28 6260485019439425252614312435813236600861718953314767591699208815400)], S5188), ([(.str 28 6260485019439425252614312435813236600861718953314767591699208817192)], S5090), ([(.str 28 6260485019439425252614312435813236600861718953314767591699208816936)], S4993), ([(.str 45 545365161084908818682307871509240926086432362262523517738950247884810123871997999633158636370693479484509224)], S4826)]) :: []
theorem tab_SQ3a_ok : TabOk Tryz.prog tab_SQ3a := (TabOk.cons (RowsOk.cons S5287_ok (RowsOk.cons S5188_ok (RowsOk.cons S5090_ok (RowsOk.cons S4993_ok (RowsOk.cons S4826_ok RowsOk.nil))))) TabOk.nil)
noncomputable def H_SQ3a : Hand := ((Hand.at 72 (inHand I13687)).or (sumsHand tab_SQ3a))
theorem H_SQ3a_ok : HandOk Tryz.prog H_SQ3a := (HandOk.or (HandOk.at 72 (inHand_ok I13687_ok (by kernel_rfl))) (sumsHand_ok tab_SQ3a_ok))
end Go.Proofs.YtfkfmjlppllfoaaGreatDoor.sq
