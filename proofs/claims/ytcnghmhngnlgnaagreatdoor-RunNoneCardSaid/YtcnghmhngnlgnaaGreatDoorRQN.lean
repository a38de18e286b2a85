import Derived.Test.YtcnghmhngnlgnaaGreatDoorXShut
import Derived.Test.YtcnghmhngnlgnaaGreatDoorChecked
import Derived.KernelRfl
import Derived.Test.YtcnghmhngnlgnaaGreatDoorRQBA
import Derived.Test.YtcnghmhngnlgnaaGreatDoorRQBB
import Derived.Test.YtcnghmhngnlgnaaGreatDoorRQBC
import Derived.Test.YtcnghmhngnlgnaaGreatDoorRQBD
import Derived.Test.YtcnghmhngnlgnaaGreatDoorRQBF
import Derived.Test.YtcnghmhngnlgnaaGreatDoorRQBJ
import Derived.Test.YtcnghmhngnlgnaaGreatDoorRQT
import Derived.Test.YtcnghmhngnlgnaaGreatDoorRQM
set_option linter.unusedSectionVars false
set_option maxRecDepth 1000000
set_option maxHeartbeats 4000000
namespace Go.Proofs.YtcnghmhngnlgnaaGreatDoor
open Go.X
variable [Tab]

def N_0 : Sum := ⟨(.int .i64 1), 7, []⟩
theorem N_0_ok : SumOk Tryz.prog 162 [(.str 16 154706541852025644484233205990057992554), (.str 6 68669705972028), (.str 3 5646632)] N_0 := SumOk.of_run (K := (sumsHand tabM)) (n := 2000) (keep := []) mixed (sumsHand_ok tabM_ok) (by kernel_rfl) (by kernel_rfl)

def N_1 : Sum := ⟨(.int .i64 2), 8, []⟩
theorem N_1_ok : SumOk Tryz.prog 162 [(.str 16 154706541852025644484233205990057992554), (.str 6 126909328748901), (.str 21 131770541864199680179943181369540662989170152197160)] N_1 := SumOk.of_run (K := (sumsHand tabM)) (n := 2000) (keep := []) mixed (sumsHand_ok tabM_ok) (by kernel_rfl) (by kernel_rfl)

def N_2 : Sum := ⟨(.int .i64 3), 9, []⟩
theorem N_2_ok : SumOk Tryz.prog 162 [(.str 16 154706541852025644484233205990057992554), (.str 8 7453010373643562868), (.str 20 339137050467292191589805048747422779071890467112)] N_2 := SumOk.of_run (K := (sumsHand tabM)) (n := 2000) (keep := []) mixed (sumsHand_ok tabM_ok) (by kernel_rfl) (by kernel_rfl)

def N_3 : Sum := ⟨(.int .i64 36), 142, []⟩
theorem N_3_ok : SumOk Tryz.prog 162 [(.str 19 2261816869159440624969593107871851903301607786), (.str 6 68669705972028), (.str 3 5646632)] N_3 := SumOk.of_run (K := (sumsHand tabM)) (n := 2000) (keep := []) mixed (sumsHand_ok tabM_ok) (by kernel_rfl) (by kernel_rfl)

def N_4 : Sum := ⟨(.int .i64 37), 143, []⟩
theorem N_4_ok : SumOk Tryz.prog 162 [(.str 19 2261816869159440624969593107871851903301607786), (.str 6 68669705972028), (.str 21 125924534186164816246133852188561726513007718714408)] N_4 := SumOk.of_run (K := (sumsHand tabM)) (n := 2000) (keep := []) mixed (sumsHand_ok tabM_ok) (by kernel_rfl) (by kernel_rfl)

def N_5 : Sum := ⟨(.int .i64 38), 144, []⟩
theorem N_5_ok : SumOk Tryz.prog 162 [(.str 19 2261816869159440624969593107871851903301607786), (.str 10 478866051492549179499879), (.str 20 339137050467292191589805048747422779071890467112)] N_5 := SumOk.of_run (K := (sumsHand tabM)) (n := 2000) (keep := []) mixed (sumsHand_ok tabM_ok) (by kernel_rfl) (by kernel_rfl)

def N_6 : Sum := ⟨(.int .i64 22), 33, []⟩
theorem N_6_ok : SumOk Tryz.prog 162 [(.str 16 145412635431568811361768410208787652970), (.str 9 2240157836546495640161), (.str 42 47114077528188198620056812491409661436452214172948092389280225155504520564545130501860034283798416424)] N_6 := SumOk.of_run (K := (sumsHand tabM)) (n := 2000) (keep := []) mixed (sumsHand_ok tabM_ok) (by kernel_rfl) (by kernel_rfl)

def N_7 : Sum := ⟨(.int .i64 35), 74, []⟩
theorem N_7_ok : SumOk Tryz.prog 162 [(.str 19 2439265639030268300842157990401791553877467498), (.str 7 31081494762582640), (.str 3 5646632)] N_7 := SumOk.of_run (K := (sumsHand tabM)) (n := 2000) (keep := []) mixed (sumsHand_ok tabM_ok) (by kernel_rfl) (by kernel_rfl)

def N_8 : Sum := ⟨(.int .i64 4), 18, []⟩
theorem N_8_ok : SumOk Tryz.prog 162 [(.str 16 137483774941304901841256615957136564586), (.str 6 114849160783212), (.str 3 4794664)] N_8 := SumOk.of_run (K := (sumsHand tabM)) (n := 2000) (keep := []) mixed (sumsHand_ok tabM_ok) (by kernel_rfl) (by kernel_rfl)

def N_9 : Sum := ⟨(.int .i64 5), 19, []⟩
theorem N_9_ok : SumOk Tryz.prog 162 [(.str 16 137483774941304901841256615957136564586), (.str 6 127824440682595), (.str 4 1126779176)] N_9 := SumOk.of_run (K := (sumsHand tabM)) (n := 2000) (keep := []) mixed (sumsHand_ok tabM_ok) (by kernel_rfl) (by kernel_rfl)

def N_10 : Sum := ⟨(.int .i64 6), 20, []⟩
theorem N_10_ok : SumOk Tryz.prog 162 [(.str 16 137483774941304901841256615957136564586), (.str 6 127961628831587), (.str 38 7563008949852303964789352941943798567979605024965410989119580465925847369046121658274434088)] N_10 := SumOk.of_run (K := (sumsHand tabM)) (n := 2000) (keep := []) mixed (sumsHand_ok tabM_ok) (by kernel_rfl) (by kernel_rfl)

def N_11 : Sum := ⟨(.int .i64 7), 21, []⟩
theorem N_11_ok : SumOk Tryz.prog 162 [(.str 16 137483774941304901841256615957136564586), (.str 6 126909328748901), (.str 21 131770541864199680179943181369540662989170152197160)] N_11 := SumOk.of_run (K := (sumsHand tabM)) (n := 2000) (keep := []) mixed (sumsHand_ok tabM_ok) (by kernel_rfl) (by kernel_rfl)

def N_12 : Sum := ⟨(.int .i64 8), 22, []⟩
theorem N_12_ok : SumOk Tryz.prog 162 [(.str 16 137483774941304901841256615957136564586), (.str 6 121437607456361), (.str 20 339137050467292191589805048747422779071890467112)] N_12 := SumOk.of_run (K := (sumsHand tabM)) (n := 2000) (keep := []) mixed (sumsHand_ok tabM_ok) (by kernel_rfl) (by kernel_rfl)

def N_13 : Sum := ⟨(.int .i64 9), 23, []⟩
theorem N_13_ok : SumOk Tryz.prog 162 [(.str 16 137483774941304901841256615957136564586), (.str 8 7453010373643562868), (.str 20 339137050467292191589805048747422779071890467112)] N_13 := SumOk.of_run (K := (sumsHand tabM)) (n := 2000) (keep := []) mixed (sumsHand_ok tabM_ok) (by kernel_rfl) (by kernel_rfl)

def N_14 : Sum := ⟨(.int .i64 14), 32, []⟩
theorem N_14_ok : SumOk Tryz.prog 162 [(.str 23 10956966084090815260342509131105871416374185281426186602), (.str 6 68669705972028), (.str 3 5646632)] N_14 := SumOk.of_run (K := (sumsHand tabM)) (n := 2000) (keep := []) mixed (sumsHand_ok tabM_ok) (by kernel_rfl) (by kernel_rfl)

def N_15 : Sum := ⟨(.int .i64 20), 38, []⟩
theorem N_15_ok : SumOk Tryz.prog 162 [(.str 23 10956966084090815260342509131105871416374185281426186602), (.str 6 114849160783212), (.str 3 4794664)] N_15 := SumOk.of_run (K := (sumsHand tabM)) (n := 2000) (keep := []) mixed (sumsHand_ok tabM_ok) (by kernel_rfl) (by kernel_rfl)

def N_16 : Sum := ⟨(.int .i64 21), 39, []⟩
theorem N_16_ok : SumOk Tryz.prog 162 [(.str 23 10956966084090815260342509131105871416374185281426186602), (.str 8 7453010373643562868), (.str 20 339137050467292191589805048747422779071890467112)] N_16 := SumOk.of_run (K := (sumsHand tabM)) (n := 2000) (keep := []) mixed (sumsHand_ok tabM_ok) (by kernel_rfl) (by kernel_rfl)

def N_17 : Sum := ⟨(.int .i64 23), 62, []⟩
theorem N_17_ok : SumOk Tryz.prog 162 [(.str 19 2439265639030268300842157990401791553877467498), (.str 5 500068610672), (.str 21 125924534186164816246133852188561726513007718714408)] N_17 := SumOk.of_run (K := (sumsHand tabM)) (n := 2000) (keep := []) mixed (sumsHand_ok tabM_ok) (by kernel_rfl) (by kernel_rfl)

def N_18 : Sum := ⟨(.int .i64 24), 63, []⟩
theorem N_18_ok : SumOk Tryz.prog 162 [(.str 19 2439265639030268300842157990401791553877467498), (.str 5 500068610672), (.str 4 1445546280)] N_18 := SumOk.of_run (K := (sumsHand tabM)) (n := 2000) (keep := []) mixed (sumsHand_ok tabM_ok) (by kernel_rfl) (by kernel_rfl)

def N_19 : Sum := ⟨(.int .i64 25), 64, []⟩
theorem N_19_ok : SumOk Tryz.prog 162 [(.str 19 2439265639030268300842157990401791553877467498), (.str 5 500068610672), (.str 4 1445546536)] N_19 := SumOk.of_run (K := (sumsHand tabM)) (n := 2000) (keep := []) mixed (sumsHand_ok tabM_ok) (by kernel_rfl) (by kernel_rfl)

def N_20 : Sum := ⟨(.int .i64 26), 65, []⟩
theorem N_20_ok : SumOk Tryz.prog 162 [(.str 19 2439265639030268300842157990401791553877467498), (.str 5 500068610672), (.str 4 1445544744)] N_20 := SumOk.of_run (K := (sumsHand tabM)) (n := 2000) (keep := []) mixed (sumsHand_ok tabM_ok) (by kernel_rfl) (by kernel_rfl)

def N_21 : Sum := ⟨(.int .i64 27), 66, []⟩
theorem N_21_ok : SumOk Tryz.prog 162 [(.str 19 2439265639030268300842157990401791553877467498), (.str 5 500068610672), (.str 4 1445550632)] N_21 := SumOk.of_run (K := (sumsHand tabM)) (n := 2000) (keep := []) mixed (sumsHand_ok tabM_ok) (by kernel_rfl) (by kernel_rfl)

def N_22 : Sum := ⟨(.int .i64 28), 67, []⟩
theorem N_22_ok : SumOk Tryz.prog 162 [(.str 19 2439265639030268300842157990401791553877467498), (.str 5 500068610672), (.str 21 125924535314876068507128442038675530910546422025256)] N_22 := SumOk.of_run (K := (sumsHand tabM)) (n := 2000) (keep := []) mixed (sumsHand_ok tabM_ok) (by kernel_rfl) (by kernel_rfl)

def N_23 : Sum := ⟨(.int .i64 29), 68, []⟩
theorem N_23_ok : SumOk Tryz.prog 162 [(.str 19 2439265639030268300842157990401791553877467498), (.str 7 31081494762582640), (.str 21 125924534186164816246133852188561726513007718714408)] N_23 := SumOk.of_run (K := (sumsHand tabM)) (n := 2000) (keep := []) mixed (sumsHand_ok tabM_ok) (by kernel_rfl) (by kernel_rfl)

def N_24 : Sum := ⟨(.int .i64 30), 69, []⟩
theorem N_24_ok : SumOk Tryz.prog 162 [(.str 19 2439265639030268300842157990401791553877467498), (.str 7 31081494762582640), (.str 4 1445546280)] N_24 := SumOk.of_run (K := (sumsHand tabM)) (n := 2000) (keep := []) mixed (sumsHand_ok tabM_ok) (by kernel_rfl) (by kernel_rfl)

def N_25 : Sum := ⟨(.int .i64 31), 70, []⟩
theorem N_25_ok : SumOk Tryz.prog 162 [(.str 19 2439265639030268300842157990401791553877467498), (.str 7 31081494762582640), (.str 4 1445546536)] N_25 := SumOk.of_run (K := (sumsHand tabM)) (n := 2000) (keep := []) mixed (sumsHand_ok tabM_ok) (by kernel_rfl) (by kernel_rfl)

def N_26 : Sum := ⟨(.int .i64 32), 71, []⟩
theorem N_26_ok : SumOk Tryz.prog 162 [(.str 19 2439265639030268300842157990401791553877467498), (.str 7 31081494762582640), (.str 4 1445544744)] N_26 := SumOk.of_run (K := (sumsHand tabM)) (n := 2000) (keep := []) mixed (sumsHand_ok tabM_ok) (by kernel_rfl) (by kernel_rfl)

def N_27 : Sum := ⟨(.int .i64 33), 72, []⟩
theorem N_27_ok : SumOk Tryz.prog 162 [(.str 19 2439265639030268300842157990401791553877467498), (.str 7 31081494762582640), (.str 4 1445550632)] N_27 := SumOk.of_run (K := (sumsHand tabM)) (n := 2000) (keep := []) mixed (sumsHand_ok tabM_ok) (by kernel_rfl) (by kernel_rfl)

def N_28 : Sum := ⟨(.int .i64 34), 73, []⟩
theorem N_28_ok : SumOk Tryz.prog 162 [(.str 19 2439265639030268300842157990401791553877467498), (.str 7 31081494762582640), (.str 21 125924535314876068507128442038675530910546422025256)] N_28 := SumOk.of_run (K := (sumsHand tabM)) (n := 2000) (keep := []) mixed (sumsHand_ok tabM_ok) (by kernel_rfl) (by kernel_rfl)

def N_29 : Sum := ⟨(.int .i64 10), 24, []⟩
theorem N_29_ok : SumOk Tryz.prog 162 [(.str 16 137483774941304901841256615957136564586), (.str 7 28797744804815222), (.str 21 86819084919626801046990092479340231442403959589160)] N_29 := SumOk.of_run (K := (sumsHand tabM)) (n := 2000) (keep := []) mixed (sumsHand_ok tabM_ok) (by kernel_rfl) (by kernel_rfl)

def N_30 : Sum := ⟨(.int .i64 11), 25, []⟩
theorem N_30_ok : SumOk Tryz.prog 162 [(.str 16 137483774941304901841256615957136564586), (.str 7 28797744804815222), (.str 21 86819084919626801046990092479340231442403959589416)] N_30 := SumOk.of_run (K := (sumsHand tabM)) (n := 2000) (keep := []) mixed (sumsHand_ok tabM_ok) (by kernel_rfl) (by kernel_rfl)

def N_31 : Sum := ⟨(.int .i64 12), 26, []⟩
theorem N_31_ok : SumOk Tryz.prog 162 [(.str 16 137483774941304901841256615957136564586), (.str 7 28797744804815222), (.str 21 86819084919626801046990092479340231442403959587624)] N_31 := SumOk.of_run (K := (sumsHand tabM)) (n := 2000) (keep := []) mixed (sumsHand_ok tabM_ok) (by kernel_rfl) (by kernel_rfl)

def N_32 : Sum := ⟨(.int .i64 13), 27, []⟩
theorem N_32_ok : SumOk Tryz.prog 162 [(.str 16 137483774941304901841256615957136564586), (.str 7 28797744804815222), (.str 21 86819084919626801046990092479340231442403959593512)] N_32 := SumOk.of_run (K := (sumsHand tabM)) (n := 2000) (keep := []) mixed (sumsHand_ok tabM_ok) (by kernel_rfl) (by kernel_rfl)

def N_33 : Sum := ⟨(.int .i64 15), 33, []⟩
theorem N_33_ok : SumOk Tryz.prog 162 [(.str 23 10956966084090815260342509131105871416374185281426186602), (.str 6 110425311047777), (.str 45 545365161084908818682307871509240926086432362262523517738950247884810123871997999633158636370693479484509224)] N_33 := SumOk.of_run (K := (sumsHand tabM)) (n := 2000) (keep := []) mixed (sumsHand_ok tabM_ok) (by kernel_rfl) (by kernel_rfl)

def N_34 : Sum := ⟨(.int .i64 16), 34, []⟩
theorem N_34_ok : SumOk Tryz.prog 162 [(.str 23 10956966084090815260342509131105871416374185281426186602), (.str 6 110425311047777), (.str 28 6260485019439425252614312435813236600861718953314767591699208816936)] N_34 := SumOk.of_run (K := (sumsHand tabM)) (n := 2000) (keep := []) mixed (sumsHand_ok tabM_ok) (by kernel_rfl) (by kernel_rfl)

def N_35 : Sum := ⟨(.int .i64 17), 35, []⟩
theorem N_35_ok : SumOk Tryz.prog 162 [(.str 23 10956966084090815260342509131105871416374185281426186602), (.str 6 110425311047777), (.str 28 6260485019439425252614312435813236600861718953314767591699208817192)] N_35 := SumOk.of_run (K := (sumsHand tabM)) (n := 2000) (keep := []) mixed (sumsHand_ok tabM_ok) (by kernel_rfl) (by kernel_rfl)

def N_36 : Sum := ⟨(.int .i64 18), 36, []⟩
theorem N_36_ok : SumOk Tryz.prog 162 [(.str 23 10956966084090815260342509131105871416374185281426186602), (.str 6 110425311047777), (.str 28 6260485019439425252614312435813236600861718953314767591699208815400)] N_36 := SumOk.of_run (K := (sumsHand tabM)) (n := 2000) (keep := []) mixed (sumsHand_ok tabM_ok) (by kernel_rfl) (by kernel_rfl)

def N_37 : Sum := ⟨(.int .i64 19), 37, []⟩
theorem N_37_ok : SumOk Tryz.prog 162 [(.str 23 10956966084090815260342509131105871416374185281426186602), (.str 6 110425311047777), (.str 28 6260485019439425252614312435813236600861718953314767591699208821288)] N_37 := SumOk.of_run (K := (sumsHand tabM)) (n := 2000) (keep := []) mixed (sumsHand_ok tabM_ok) (by kernel_rfl) (by kernel_rfl)

def tabN : List (FuncId × SRows) := (162, [([(.str 16 154706541852025644484233205990057992554), (.str 6 68669705972028), (.str 3 5646632)], N_0), ([(.str 16 154706541852025644484233205990057992554), (.str 6 126909328748901), (.str 21 131770541864199680179943181369540662989170152197160)], N_1), ([(.str 16 154706541852025644484233205990057992554), (.str 8 7453010373643562868), (.str 20 339137050467292191589805048747422779071890467112)], N_2), ([(.str 19 2261816869159440624969593107871851903301607786), (.str 6 68669705972028), (.str 3 5646632)], N_3), ([(.str 19 2261816869159440624969593107871851903301607786), (.str 6 68669705972028), (.str 21 125924534186164816246133852188561726513007718714408)], N_4), ([(.str 19 2261816869159440624969593107871851903301607786), (.str 10 478866051492549179499879), (.str 20 339137050467292191589805048747422779071890467112)], N_5), ([(.str 16 145412635431568811361768410208787652970), (.str 9 2240157836546495640161), (.str 42 47114077528188198620056812491409661436452214172948092389280225155504520564545130501860034283798416424)], N_6), ([(.str 19 2439265639030268300842157990401791553877467498), (.str 7 31081494762582640), (.str 3 5646632)], N_7), ([(.str 16 137483774941304901841256615957136564586), (.str 6 114849160783212), (.str 3 4794664)], N_8), ([(.str 16 137483774941304901841256615957136564586), (.str 6 127824440682595), (.str 4 1126779176)], N_9), ([(.str 16 137483774941304901841256615957136564586), (.str 6 127961628831587), (.str 38 7563008949852303964789352941943798567979605024965410989119580465925847369046121658274434088)], N_10), ([(.str 16 137483774941304901841256615957136564586), (.str 6 126909328748901), (.str 21 131770541864199680179943181369540662989170152197160)], N_11), ([(.str 16 137483774941304901841256615957136564586), (.str 6 121437607456361), (.str 20 339137050467292191589805048747422779071890467112)], N_12), ([(.str 16 137483774941304901841256615957136564586), (.str 8 7453010373643562868), (.str 20 339137050467292191589805048747422779071890467112)], N_13), ([(.str 23 10956966084090815260342509131105871416374185281426186602), (.str 6 68669705972028), (.str 3 5646632)], N_14), ([(.str 23 10956966084090815260342509131105871416374185281426186602), (.str 6 114849160783212), (.str 3 4794664)], N_15), ([(.str 23 10956966084090815260342509131105871416374185281426186602), (.str 8 7453010373643562868), (.str 20 339137050467292191589805048747422779071890467112)], N_16), ([(.str 19 2439265639030268300842157990401791553877467498), (.str 5 500068610672), (.str 21 125924534186164816246133852188561726513007718714408)], N_17), ([(.str 19 2439265639030268300842157990401791553877467498), (.str 5 500068610672), (.str 4 1445546280)], N_18), ([(.str 19 2439265639030268300842157990401791553877467498), (.str 5 500068610672), (.str 4 1445546536)], N_19), ([(.str 19 2439265639030268300842157990401791553877467498), (.str 5 500068610672), (.str 4 1445544744)], N_20), ([(.str 19 2439265639030268300842157990401791553877467498), (.str 5 500068610672), (.str 4 1445550632)], N_21), ([(.str 19 2439265639030268300842157990401791553877467498), (.str 5 500068610672), (.str 21 125924535314876068507128442038675530910546422025256)], N_22), ([(.str 19 2439265639030268300842157990401791553877467498), (.str 7 31081494762582640), (.str 21 125924534186164816246133852188561726513007718714408)], N_23), ([(.str 19 2439265639030268300842157990401791553877467498), (.str 7 31081494762582640), (.str 4 1445546280)], N_24), ([(.str 19 2439265639030268300842157990401791553877467498), (.str 7 31081494762582640), (.str 4 1445546536)], N_25), ([(.str 19 2439265639030268300842157990401791553877467498), (.str 7 31081494762582640), (.str 4 1445544744)], N_26), ([(.str 19 2439265639030268300842157990401791553877467498), (.str 7 31081494762582640), (.str 4 1445550632)], N_27), ([(.str 19 2439265639030268300842157990401791553877467498), (.str 7 31081494762582640), (.str 21 125924535314876068507128442038675530910546422025256)], N_28), ([(.str 16 137483774941304901841256615957136564586), (.str 7 28797744804815222), (.str 21 86819084919626801046990092479340231442403959589160)], N_29), ([(.str 16 137483774941304901841256615957136564586), (.str 7 28797744804815222), (.str 21 86819084919626801046990092479340231442403959589416)], N_30), ([(.str 16 137483774941304901841256615957136564586), (.str 7 28797744804815222), (.str 21 86819084919626801046990092479340231442403959587624)], N_31), ([(.str 16 137483774941304901841256615957136564586), (.str 7 28797744804815222), (.str 21 86819084919626801046990092479340231442403959593512)], N_32), ([(.str 23 10956966084090815260342509131105871416374185281426186602), (.str 6 110425311047777), (.str 45 545365161084908818682307871509240926086432362262523517738950247884810123871997999633158636370693479484509224)], N_33), ([(.str 23 10956966084090815260342509131105871416374185281426186602), (.str 6 110425311047777), (.str 28 6260485019439425252614312435813236600861718953314767591699208816936)], N_34), ([(.str 23 10956966084090815260342509131105871416374185281426186602), (.str 6 110425311047777), (.str 28 6260485019439425252614312435813236600861718953314767591699208817192)], N_35), ([(.str 23 10956966084090815260342509131105871416374185281426186602), (.str 6 110425311047777), (.str 28 6260485019439425252614312435813236600861718953314767591699208815400)], N_36), ([(.str 23 10956966084090815260342509131105871416374185281426186602), (.str 6 110425311047777), (.str 28 6260485019439425252614312435813236600861718953314767591699208821288)], N_37)]) :: tabM
theorem tabN_ok : TabOk Tryz.prog tabN := (TabOk.cons (RowsOk.cons N_0_ok (RowsOk.cons N_1_ok (RowsOk.cons N_2_ok (RowsOk.cons N_3_ok (RowsOk.cons N_4_ok (RowsOk.cons N_5_ok (RowsOk.cons N_6_ok (RowsOk.cons N_7_ok (RowsOk.cons N_8_ok (RowsOk.cons N_9_ok (RowsOk.cons N_10_ok (RowsOk.cons N_11_ok (RowsOk.cons N_12_ok (RowsOk.cons N_13_ok (RowsOk.cons N_14_ok (RowsOk.cons N_15_ok (RowsOk.cons N_16_ok (RowsOk.cons N_17_ok (RowsOk.cons N_18_ok (RowsOk.cons N_19_ok (RowsOk.cons N_20_ok (RowsOk.cons N_21_ok (RowsOk.cons N_22_ok (RowsOk.cons N_23_ok (RowsOk.cons N_24_ok (RowsOk.cons N_25_ok (RowsOk.cons N_26_ok (RowsOk.cons N_27_ok (RowsOk.cons N_28_ok (RowsOk.cons N_29_ok (RowsOk.cons N_30_ok (RowsOk.cons N_31_ok (RowsOk.cons N_32_ok (RowsOk.cons N_33_ok (RowsOk.cons N_34_ok (RowsOk.cons N_35_ok (RowsOk.cons N_36_ok (RowsOk.cons N_37_ok RowsOk.nil)))))))))))))))))))))))))))))))))))))) tabM_ok)
end Go.Proofs.YtcnghmhngnlgnaaGreatDoor
