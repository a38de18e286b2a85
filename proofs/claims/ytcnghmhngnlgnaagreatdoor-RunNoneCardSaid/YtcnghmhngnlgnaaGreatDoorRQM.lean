import Derived.Test.YtcnghmhngnlgnaaGreatDoorXShut
import Derived.Test.YtcnghmhngnlgnaaGreatDoorChecked
import Derived.KernelRfl
import Derived.Test.YtcnghmhngnlgnaaGreatDoorRQBA
import Derived.Test.YtcnghmhngnlgnaaGreatDoorRQBB
import Derived.Test.YtcnghmhngnlgnaaGreatDoorRQBC
import Derived.Test.YtcnghmhngnlgnaaGreatDoorRQBD
import Derived.Test.YtcnghmhngnlgnaaGreatDoorRQBF
import Derived.Test.YtcnghmhngnlgnaaGreatDoorRQBJ
import Derived.Test.YtcnghmhngnlgnaaGreatDoorRQT
set_option linter.unusedSectionVars false
set_option maxRecDepth 1000000
set_option maxHeartbeats 4000000
namespace Go.Proofs.YtcnghmhngnlgnaaGreatDoor
open Go.X
variable [Tab]

def M_0 : Sum := ⟨(.tup [.nils, (.agg [(.int .u8 73), (.str 0 0), (.int .i64 0), (.int .u8 0)]), (.bool true)]), 6, []⟩
theorem M_0_ok : SumOk Tryz.prog 74 [(.str 3 4794664)] M_0 := SumOk.of_run (K := (sumsHand tabT)) (n := 2000) (keep := []) mixed (sumsHand_ok tabT_ok) (by kernel_rfl) (by kernel_rfl)

def M_1 : Sum := ⟨(.tup [.nils, (.agg [(.int .u8 76), (.str 16 137483774941304901841256615957136564586), (.int .i64 0), (.int .u8 0)]), (.bool true)]), 41, []⟩
theorem M_1_ok : SumOk Tryz.prog 74 [(.str 20 339137050467292191589805048747422779071890467112)] M_1 := SumOk.of_run (K := (sumsHand tabT)) (n := 2000) (keep := []) mixed (sumsHand_ok tabT_ok) (by kernel_rfl) (by kernel_rfl)

def M_2 : Sum := ⟨(.tup [.nils, (.agg [(.int .u8 86), (.str 0 0), (.int .i64 0), (.int .u8 0)]), (.bool true)]), 1, []⟩
theorem M_2_ok : SumOk Tryz.prog 74 [(.str 3 5646632)] M_2 := SumOk.of_run (K := (sumsHand tabT)) (n := 2000) (keep := []) mixed (sumsHand_ok tabT_ok) (by kernel_rfl) (by kernel_rfl)

def M_3 : Sum := ⟨(.tup [(.so 5 0 1 4), (.agg [(.int .u8 76), (.str 16 137483774941304901841256615957136564586), (.int .i64 0), (.int .u8 0)]), (.bool true)]), 46, [(5, (.cells 4 true [] (.node (.node (.node .leaf (.some (.int .u8 0)) .leaf) (.some (.str 0 0)) .leaf) (.some (.int .u8 67)) (.node .leaf (.some (.int .i64 0)) .leaf))))]⟩
theorem M_3_ok : SumOk Tryz.prog 74 [(.str 21 86819084919626801046990092479340231442403959587624)] M_3 := SumOk.of_run (K := (sumsHand tabT)) (n := 2000) (keep := [5]) mixed (sumsHand_ok tabT_ok) (by kernel_rfl) (by kernel_rfl)

def M_4 : Sum := ⟨(.tup [(.so 5 0 1 4), (.agg [(.int .u8 76), (.str 23 10956966084090815260342509131105871416374185281426186602), (.int .i64 0), (.int .u8 0)]), (.bool true)]), 61, [(5, (.cells 4 true [] (.node (.node (.node .leaf (.some (.int .u8 0)) .leaf) (.some (.str 0 0)) .leaf) (.some (.int .u8 67)) (.node .leaf (.some (.int .i64 0)) .leaf))))]⟩
theorem M_4_ok : SumOk Tryz.prog 74 [(.str 28 6260485019439425252614312435813236600861718953314767591699208815400)] M_4 := SumOk.of_run (K := (sumsHand tabT)) (n := 2000) (keep := [5]) mixed (sumsHand_ok tabT_ok) (by kernel_rfl) (by kernel_rfl)

def M_5 : Sum := ⟨(.tup [(.so 5 0 1 4), (.agg [(.int .u8 86), (.str 0 0), (.int .i64 0), (.int .u8 0)]), (.bool true)]), 6, [(5, (.cells 4 true [] (.node (.node (.node .leaf (.some (.int .u8 0)) .leaf) (.some (.str 0 0)) .leaf) (.some (.int .u8 67)) (.node .leaf (.some (.int .i64 0)) .leaf))))]⟩
theorem M_5_ok : SumOk Tryz.prog 74 [(.str 4 1445544744)] M_5 := SumOk.of_run (K := (sumsHand tabT)) (n := 2000) (keep := [5]) mixed (sumsHand_ok tabT_ok) (by kernel_rfl) (by kernel_rfl)

def M_6 : Sum := ⟨(.tup [(.so 5 0 1 4), (.agg [(.int .u8 67), (.str 0 0), (.int .i64 0), (.int .u8 0)]), (.bool true)]), 11, [(5, (.cells 4 true [] (.node (.node (.node .leaf (.some (.int .u8 0)) .leaf) (.some (.str 0 0)) .leaf) (.some (.int .u8 73)) (.node .leaf (.some (.int .i64 0)) .leaf))))]⟩
theorem M_6_ok : SumOk Tryz.prog 74 [(.str 4 1126779176)] M_6 := SumOk.of_run (K := (sumsHand tabT)) (n := 2000) (keep := [5]) mixed (sumsHand_ok tabT_ok) (by kernel_rfl) (by kernel_rfl)

def M_7 : Sum := ⟨(.tup [(.so 5 0 1 4), (.agg [(.int .u8 76), (.str 16 137483774941304901841256615957136564586), (.int .i64 0), (.int .u8 0)]), (.bool true)]), 46, [(5, (.cells 4 true [] (.node (.node (.node .leaf (.some (.int .u8 0)) .leaf) (.some (.str 0 0)) .leaf) (.some (.int .u8 73)) (.node .leaf (.some (.int .i64 0)) .leaf))))]⟩
theorem M_7_ok : SumOk Tryz.prog 74 [(.str 21 86819084919626801046990092479340231442403959589160)] M_7 := SumOk.of_run (K := (sumsHand tabT)) (n := 2000) (keep := [5]) mixed (sumsHand_ok tabT_ok) (by kernel_rfl) (by kernel_rfl)

def M_8 : Sum := ⟨(.tup [(.so 5 0 1 4), (.agg [(.int .u8 76), (.str 23 10956966084090815260342509131105871416374185281426186602), (.int .i64 0), (.int .u8 0)]), (.bool true)]), 61, [(5, (.cells 4 true [] (.node (.node (.node .leaf (.some (.int .u8 0)) .leaf) (.some (.str 0 0)) .leaf) (.some (.int .u8 73)) (.node .leaf (.some (.int .i64 0)) .leaf))))]⟩
theorem M_8_ok : SumOk Tryz.prog 74 [(.str 28 6260485019439425252614312435813236600861718953314767591699208816936)] M_8 := SumOk.of_run (K := (sumsHand tabT)) (n := 2000) (keep := [5]) mixed (sumsHand_ok tabT_ok) (by kernel_rfl) (by kernel_rfl)

def M_9 : Sum := ⟨(.tup [(.so 5 0 1 4), (.agg [(.int .u8 86), (.str 0 0), (.int .i64 0), (.int .u8 0)]), (.bool true)]), 6, [(5, (.cells 4 true [] (.node (.node (.node .leaf (.some (.int .u8 0)) .leaf) (.some (.str 0 0)) .leaf) (.some (.int .u8 73)) (.node .leaf (.some (.int .i64 0)) .leaf))))]⟩
theorem M_9_ok : SumOk Tryz.prog 74 [(.str 4 1445546280)] M_9 := SumOk.of_run (K := (sumsHand tabT)) (n := 2000) (keep := [5]) mixed (sumsHand_ok tabT_ok) (by kernel_rfl) (by kernel_rfl)

def M_10 : Sum := ⟨(.tup [(.so 5 0 1 4), (.agg [(.int .u8 76), (.str 16 137483774941304901841256615957136564586), (.int .i64 0), (.int .u8 0)]), (.bool true)]), 46, [(5, (.cells 4 true [] (.node (.node (.node .leaf (.some (.int .u8 0)) .leaf) (.some (.str 0 0)) .leaf) (.some (.int .u8 74)) (.node .leaf (.some (.int .i64 0)) .leaf))))]⟩
theorem M_10_ok : SumOk Tryz.prog 74 [(.str 21 86819084919626801046990092479340231442403959589416)] M_10 := SumOk.of_run (K := (sumsHand tabT)) (n := 2000) (keep := [5]) mixed (sumsHand_ok tabT_ok) (by kernel_rfl) (by kernel_rfl)

def M_11 : Sum := ⟨(.tup [(.so 5 0 1 4), (.agg [(.int .u8 76), (.str 23 10956966084090815260342509131105871416374185281426186602), (.int .i64 0), (.int .u8 0)]), (.bool true)]), 61, [(5, (.cells 4 true [] (.node (.node (.node .leaf (.some (.int .u8 0)) .leaf) (.some (.str 0 0)) .leaf) (.some (.int .u8 74)) (.node .leaf (.some (.int .i64 0)) .leaf))))]⟩
theorem M_11_ok : SumOk Tryz.prog 74 [(.str 28 6260485019439425252614312435813236600861718953314767591699208817192)] M_11 := SumOk.of_run (K := (sumsHand tabT)) (n := 2000) (keep := [5]) mixed (sumsHand_ok tabT_ok) (by kernel_rfl) (by kernel_rfl)

def M_12 : Sum := ⟨(.tup [(.so 5 0 1 4), (.agg [(.int .u8 86), (.str 0 0), (.int .i64 0), (.int .u8 0)]), (.bool true)]), 6, [(5, (.cells 4 true [] (.node (.node (.node .leaf (.some (.int .u8 0)) .leaf) (.some (.str 0 0)) .leaf) (.some (.int .u8 74)) (.node .leaf (.some (.int .i64 0)) .leaf))))]⟩
theorem M_12_ok : SumOk Tryz.prog 74 [(.str 4 1445546536)] M_12 := SumOk.of_run (K := (sumsHand tabT)) (n := 2000) (keep := [5]) mixed (sumsHand_ok tabT_ok) (by kernel_rfl) (by kernel_rfl)

def M_13 : Sum := ⟨(.tup [(.so 40 0 1 4), (.agg [(.int .u8 86), (.str 0 0), (.int .i64 0), (.int .u8 0)]), (.bool true)]), 41, [(40, (.cells 4 true [] (.node (.node (.node .leaf (.some (.int .u8 0)) .leaf) (.some (.str 16 154706541852025644484233205990057992554)) .leaf) (.some (.int .u8 76)) (.node .leaf (.some (.int .i64 0)) .leaf))))]⟩
theorem M_13_ok : SumOk Tryz.prog 74 [(.str 21 125924535314876068507128442038675530910546422025256)] M_13 := SumOk.of_run (K := (sumsHand tabT)) (n := 2000) (keep := [40]) mixed (sumsHand_ok tabT_ok) (by kernel_rfl) (by kernel_rfl)

def M_14 : Sum := ⟨(.tup [(.so 40 0 1 4), (.agg [(.int .u8 90), (.str 0 0), (.int .i64 0), (.int .u8 0)]), (.bool true)]), 46, [(40, (.cells 4 true [] (.node (.node (.node .leaf (.some (.int .u8 0)) .leaf) (.some (.str 16 154706541852025644484233205990057992554)) .leaf) (.some (.int .u8 76)) (.node .leaf (.some (.int .i64 0)) .leaf))))]⟩
theorem M_14_ok : SumOk Tryz.prog 74 [(.str 21 131770541864199680179943181369540662989170152197160)] M_14 := SumOk.of_run (K := (sumsHand tabT)) (n := 2000) (keep := [40]) mixed (sumsHand_ok tabT_ok) (by kernel_rfl) (by kernel_rfl)

def M_15 : Sum := ⟨(.tup [(.so 95 0 5 4), (.agg [(.int .u8 86), (.str 0 0), (.int .i64 0), (.int .u8 0)]), (.bool true)]), 96, [(95, (.cells 20 true [] (.node (.node (.node (.node (.node .leaf (.some (.int .u8 0)) .leaf) (.some (.int .u8 0)) .leaf) (.some (.int .u8 0)) (.node (.node .leaf (.some (.int .u8 0)) .leaf) (.some (.int .u8 0)) .leaf)) (.some (.str 16 154706541852025644484233205990057992554)) (.node (.node (.node .leaf (.some (.str 0 0)) .leaf) (.some (.str 16 154706541852025644484233205990057992554)) .leaf) (.some (.str 0 0)) (.node .leaf (.some (.str 0 0)) .leaf))) (.some (.int .u8 76)) (.node (.node (.node (.node .leaf (.some (.int .u8 73)) .leaf) (.some (.int .u8 76)) .leaf) (.some (.int .u8 73)) (.node .leaf (.some (.int .u8 73)) .leaf)) (.some (.int .i64 0)) (.node (.node (.node .leaf (.some (.int .i64 0)) .leaf) (.some (.int .i64 0)) .leaf) (.some (.int .i64 0)) (.node .leaf (.some (.int .i64 0)) .leaf))))))]⟩
theorem M_15_ok : SumOk Tryz.prog 74 [(.str 42 47114077528188198620056812491409661436452214172948092389280225155504520564545130501860034283798416424)] M_15 := SumOk.of_run (K := (sumsHand tabT)) (n := 2000) (keep := [95]) mixed (sumsHand_ok tabT_ok) (by kernel_rfl) (by kernel_rfl)

def M_16 : Sum := ⟨(.tup [(.so 40 0 1 4), (.agg [(.int .u8 76), (.str 16 137483774941304901841256615957136564586), (.int .i64 0), (.int .u8 0)]), (.bool true)]), 81, [(40, (.cells 4 true [] (.node (.node (.node .leaf (.some (.int .u8 0)) .leaf) (.some (.str 16 137483774941304901841256615957136564586)) .leaf) (.some (.int .u8 76)) (.node .leaf (.some (.int .i64 0)) .leaf))))]⟩
theorem M_16_ok : SumOk Tryz.prog 74 [(.str 38 7563008949852303964789352941943798567979605024965410989119580465925847369046121658274434088)] M_16 := SumOk.of_run (K := (sumsHand tabT)) (n := 2000) (keep := [40]) mixed (sumsHand_ok tabT_ok) (by kernel_rfl) (by kernel_rfl)

def M_17 : Sum := ⟨(.tup [(.so 40 0 1 4), (.agg [(.int .u8 76), (.str 23 10956966084090815260342509131105871416374185281426186602), (.int .i64 0), (.int .u8 0)]), (.bool true)]), 96, [(40, (.cells 4 true [] (.node (.node (.node .leaf (.some (.int .u8 0)) .leaf) (.some (.str 16 137483774941304901841256615957136564586)) .leaf) (.some (.int .u8 76)) (.node .leaf (.some (.int .i64 0)) .leaf))))]⟩
theorem M_17_ok : SumOk Tryz.prog 74 [(.str 45 545365161084908818682307871509240926086432362262523517738950247884810123871997999633158636370693479484509224)] M_17 := SumOk.of_run (K := (sumsHand tabT)) (n := 2000) (keep := [40]) mixed (sumsHand_ok tabT_ok) (by kernel_rfl) (by kernel_rfl)

def M_18 : Sum := ⟨(.tup [(.so 40 0 1 4), (.agg [(.int .u8 86), (.str 0 0), (.int .i64 0), (.int .u8 0)]), (.bool true)]), 41, [(40, (.cells 4 true [] (.node (.node (.node .leaf (.some (.int .u8 0)) .leaf) (.some (.str 16 137483774941304901841256615957136564586)) .leaf) (.some (.int .u8 76)) (.node .leaf (.some (.int .i64 0)) .leaf))))]⟩
theorem M_18_ok : SumOk Tryz.prog 74 [(.str 21 125924534186164816246133852188561726513007718714408)] M_18 := SumOk.of_run (K := (sumsHand tabT)) (n := 2000) (keep := [40]) mixed (sumsHand_ok tabT_ok) (by kernel_rfl) (by kernel_rfl)

def M_19 : Sum := ⟨(.tup [(.so 5 0 1 4), (.agg [(.int .u8 76), (.str 16 137483774941304901841256615957136564586), (.int .i64 0), (.int .u8 0)]), (.bool true)]), 46, [(5, (.cells 4 true [] (.node (.node (.node .leaf (.some (.int .u8 0)) .leaf) (.some (.str 0 0)) .leaf) (.some (.int .u8 90)) (.node .leaf (.some (.int .i64 0)) .leaf))))]⟩
theorem M_19_ok : SumOk Tryz.prog 74 [(.str 21 86819084919626801046990092479340231442403959593512)] M_19 := SumOk.of_run (K := (sumsHand tabT)) (n := 2000) (keep := [5]) mixed (sumsHand_ok tabT_ok) (by kernel_rfl) (by kernel_rfl)

def M_20 : Sum := ⟨(.tup [(.so 5 0 1 4), (.agg [(.int .u8 76), (.str 23 10956966084090815260342509131105871416374185281426186602), (.int .i64 0), (.int .u8 0)]), (.bool true)]), 61, [(5, (.cells 4 true [] (.node (.node (.node .leaf (.some (.int .u8 0)) .leaf) (.some (.str 0 0)) .leaf) (.some (.int .u8 90)) (.node .leaf (.some (.int .i64 0)) .leaf))))]⟩
theorem M_20_ok : SumOk Tryz.prog 74 [(.str 28 6260485019439425252614312435813236600861718953314767591699208821288)] M_20 := SumOk.of_run (K := (sumsHand tabT)) (n := 2000) (keep := [5]) mixed (sumsHand_ok tabT_ok) (by kernel_rfl) (by kernel_rfl)

def M_21 : Sum := ⟨(.tup [(.so 5 0 1 4), (.agg [(.int .u8 86), (.str 0 0), (.int .i64 0), (.int .u8 0)]), (.bool true)]), 6, [(5, (.cells 4 true [] (.node (.node (.node .leaf (.some (.int .u8 0)) .leaf) (.some (.str 0 0)) .leaf) (.some (.int .u8 90)) (.node .leaf (.some (.int .i64 0)) .leaf))))]⟩
theorem M_21_ok : SumOk Tryz.prog 74 [(.str 4 1445550632)] M_21 := SumOk.of_run (K := (sumsHand tabT)) (n := 2000) (keep := [5]) mixed (sumsHand_ok tabT_ok) (by kernel_rfl) (by kernel_rfl)

def tabM : List (FuncId × SRows) := (74, [([(.str 3 4794664)], M_0), ([(.str 20 339137050467292191589805048747422779071890467112)], M_1), ([(.str 3 5646632)], M_2), ([(.str 21 86819084919626801046990092479340231442403959587624)], M_3), ([(.str 28 6260485019439425252614312435813236600861718953314767591699208815400)], M_4), ([(.str 4 1445544744)], M_5), ([(.str 4 1126779176)], M_6), ([(.str 21 86819084919626801046990092479340231442403959589160)], M_7), ([(.str 28 6260485019439425252614312435813236600861718953314767591699208816936)], M_8), ([(.str 4 1445546280)], M_9), ([(.str 21 86819084919626801046990092479340231442403959589416)], M_10), ([(.str 28 6260485019439425252614312435813236600861718953314767591699208817192)], M_11), ([(.str 4 1445546536)], M_12), ([(.str 21 125924535314876068507128442038675530910546422025256)], M_13), ([(.str 21 131770541864199680179943181369540662989170152197160)], M_14), ([(.str 42 47114077528188198620056812491409661436452214172948092389280225155504520564545130501860034283798416424)], M_15), ([(.str 38 7563008949852303964789352941943798567979605024965410989119580465925847369046121658274434088)], M_16), ([(.str 45 545365161084908818682307871509240926086432362262523517738950247884810123871997999633158636370693479484509224)], M_17), ([(.str 21 125924534186164816246133852188561726513007718714408)], M_18), ([(.str 21 86819084919626801046990092479340231442403959593512)], M_19), ([(.str 28 6260485019439425252614312435813236600861718953314767591699208821288)], M_20), ([(.str 4 1445550632)], M_21)]) :: tabT
theorem tabM_ok : TabOk Tryz.prog tabM := (TabOk.cons (RowsOk.cons M_0_ok (RowsOk.cons M_1_ok (RowsOk.cons M_2_ok (RowsOk.cons M_3_ok (RowsOk.cons M_4_ok (RowsOk.cons M_5_ok (RowsOk.cons M_6_ok (RowsOk.cons M_7_ok (RowsOk.cons M_8_ok (RowsOk.cons M_9_ok (RowsOk.cons M_10_ok (RowsOk.cons M_11_ok (RowsOk.cons M_12_ok (RowsOk.cons M_13_ok (RowsOk.cons M_14_ok (RowsOk.cons M_15_ok (RowsOk.cons M_16_ok (RowsOk.cons M_17_ok (RowsOk.cons M_18_ok (RowsOk.cons M_19_ok (RowsOk.cons M_20_ok (RowsOk.cons M_21_ok RowsOk.nil)))))))))))))))))))))) tabT_ok)
end Go.Proofs.YtcnghmhngnlgnaaGreatDoor
