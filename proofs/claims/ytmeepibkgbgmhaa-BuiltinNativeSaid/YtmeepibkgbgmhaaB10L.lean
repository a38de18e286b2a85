import Derived.Test.YtmeepibkgbgmhaaXSum
import Derived.Test.YtmeepibkgbgmhaaChecked
import Derived.KernelRfl
import Derived.Test.YtmeepibkgbgmhaaB10A
import Derived.Test.YtmeepibkgbgmhaaB10B
import Derived.Test.YtmeepibkgbgmhaaB10C
import Derived.Test.YtmeepibkgbgmhaaB10D
import Derived.Test.YtmeepibkgbgmhaaB10F
import Derived.Test.YtmeepibkgbgmhaaB10G
import Derived.Test.YtmeepibkgbgmhaaB10H
import Derived.Test.YtmeepibkgbgmhaaB10I
import Derived.Test.YtmeepibkgbgmhaaB10J
import Derived.Test.YtmeepibkgbgmhaaB10K
set_option linter.unusedSectionVars false
set_option maxRecDepth 1000000
namespace Go.Proofs.Ytmeepibkgbgmhaa
open Go.X
variable [Tab]

def L_0 : Sum := ⟨(.int .i64 1), 7, []⟩
theorem L_0_ok : SumOk Try.prog 10 [(.str 16 154706541852025644484233205990057992554), (.str 6 68669705972028), (.str 3 5646632)] L_0 := SumOk.of_run (K := (sumsHand tabK)) (n := 2000) (keep := []) mixed (sumsHand_ok tabK_ok) (by kernel_rfl) (by kernel_rfl)

def L_1 : Sum := ⟨(.int .i64 2), 8, []⟩
theorem L_1_ok : SumOk Try.prog 10 [(.str 16 154706541852025644484233205990057992554), (.str 6 126909328748901), (.str 21 131770541864199680179943181369540662989170152197160)] L_1 := SumOk.of_run (K := (sumsHand tabK)) (n := 2000) (keep := []) mixed (sumsHand_ok tabK_ok) (by kernel_rfl) (by kernel_rfl)

def L_2 : Sum := ⟨(.int .i64 3), 9, []⟩
theorem L_2_ok : SumOk Try.prog 10 [(.str 16 154706541852025644484233205990057992554), (.str 8 7453010373643562868), (.str 20 339137050467292191589805048747422779071890467112)] L_2 := SumOk.of_run (K := (sumsHand tabK)) (n := 2000) (keep := []) mixed (sumsHand_ok tabK_ok) (by kernel_rfl) (by kernel_rfl)

def L_3 : Sum := ⟨(.int .i64 4), 18, []⟩
theorem L_3_ok : SumOk Try.prog 10 [(.str 16 137483774941304901841256615957136564586), (.str 6 114849160783212), (.str 3 4794664)] L_3 := SumOk.of_run (K := (sumsHand tabK)) (n := 2000) (keep := []) mixed (sumsHand_ok tabK_ok) (by kernel_rfl) (by kernel_rfl)

def L_4 : Sum := ⟨(.int .i64 5), 19, []⟩
theorem L_4_ok : SumOk Try.prog 10 [(.str 16 137483774941304901841256615957136564586), (.str 6 127824440682595), (.str 4 1126779176)] L_4 := SumOk.of_run (K := (sumsHand tabK)) (n := 2000) (keep := []) mixed (sumsHand_ok tabK_ok) (by kernel_rfl) (by kernel_rfl)

def L_5 : Sum := ⟨(.int .i64 6), 20, []⟩
theorem L_5_ok : SumOk Try.prog 10 [(.str 16 137483774941304901841256615957136564586), (.str 6 127961628831587), (.str 38 7563008949852303964789352941943798567979605024965410989119580465925847369046121658274434088)] L_5 := SumOk.of_run (K := (sumsHand tabK)) (n := 2000) (keep := []) mixed (sumsHand_ok tabK_ok) (by kernel_rfl) (by kernel_rfl)

def L_6 : Sum := ⟨(.int .i64 7), 21, []⟩
theorem L_6_ok : SumOk Try.prog 10 [(.str 16 137483774941304901841256615957136564586), (.str 6 126909328748901), (.str 21 131770541864199680179943181369540662989170152197160)] L_6 := SumOk.of_run (K := (sumsHand tabK)) (n := 2000) (keep := []) mixed (sumsHand_ok tabK_ok) (by kernel_rfl) (by kernel_rfl)

def L_7 : Sum := ⟨(.int .i64 8), 22, []⟩
theorem L_7_ok : SumOk Try.prog 10 [(.str 16 137483774941304901841256615957136564586), (.str 6 121437607456361), (.str 20 339137050467292191589805048747422779071890467112)] L_7 := SumOk.of_run (K := (sumsHand tabK)) (n := 2000) (keep := []) mixed (sumsHand_ok tabK_ok) (by kernel_rfl) (by kernel_rfl)

def L_8 : Sum := ⟨(.int .i64 9), 23, []⟩
theorem L_8_ok : SumOk Try.prog 10 [(.str 16 137483774941304901841256615957136564586), (.str 8 7453010373643562868), (.str 20 339137050467292191589805048747422779071890467112)] L_8 := SumOk.of_run (K := (sumsHand tabK)) (n := 2000) (keep := []) mixed (sumsHand_ok tabK_ok) (by kernel_rfl) (by kernel_rfl)

def L_9 : Sum := ⟨(.int .i64 10), 24, []⟩
theorem L_9_ok : SumOk Try.prog 10 [(.str 16 137483774941304901841256615957136564586), (.str 7 28797744804815222), (.str 21 86819084919626801046990092479340231442403959589160)] L_9 := SumOk.of_run (K := (sumsHand tabK)) (n := 2000) (keep := []) mixed (sumsHand_ok tabK_ok) (by kernel_rfl) (by kernel_rfl)

def L_10 : Sum := ⟨(.int .i64 11), 25, []⟩
theorem L_10_ok : SumOk Try.prog 10 [(.str 16 137483774941304901841256615957136564586), (.str 7 28797744804815222), (.str 21 86819084919626801046990092479340231442403959589416)] L_10 := SumOk.of_run (K := (sumsHand tabK)) (n := 2000) (keep := []) mixed (sumsHand_ok tabK_ok) (by kernel_rfl) (by kernel_rfl)

def L_11 : Sum := ⟨(.int .i64 12), 26, []⟩
theorem L_11_ok : SumOk Try.prog 10 [(.str 16 137483774941304901841256615957136564586), (.str 7 28797744804815222), (.str 21 86819084919626801046990092479340231442403959587624)] L_11 := SumOk.of_run (K := (sumsHand tabK)) (n := 2000) (keep := []) mixed (sumsHand_ok tabK_ok) (by kernel_rfl) (by kernel_rfl)

def L_12 : Sum := ⟨(.int .i64 13), 27, []⟩
theorem L_12_ok : SumOk Try.prog 10 [(.str 16 137483774941304901841256615957136564586), (.str 7 28797744804815222), (.str 21 86819084919626801046990092479340231442403959593512)] L_12 := SumOk.of_run (K := (sumsHand tabK)) (n := 2000) (keep := []) mixed (sumsHand_ok tabK_ok) (by kernel_rfl) (by kernel_rfl)

def L_13 : Sum := ⟨(.int .i64 14), 32, []⟩
theorem L_13_ok : SumOk Try.prog 10 [(.str 23 10956966084090815260342509131105871416374185281426186602), (.str 6 68669705972028), (.str 3 5646632)] L_13 := SumOk.of_run (K := (sumsHand tabK)) (n := 2000) (keep := []) mixed (sumsHand_ok tabK_ok) (by kernel_rfl) (by kernel_rfl)

def L_14 : Sum := ⟨(.int .i64 15), 33, []⟩
theorem L_14_ok : SumOk Try.prog 10 [(.str 23 10956966084090815260342509131105871416374185281426186602), (.str 6 110425311047777), (.str 45 545365161084908818682307871509240926086432362262523517738950247884810123871997999633158636370693479484509224)] L_14 := SumOk.of_run (K := (sumsHand tabK)) (n := 2000) (keep := []) mixed (sumsHand_ok tabK_ok) (by kernel_rfl) (by kernel_rfl)

def L_15 : Sum := ⟨(.int .i64 16), 34, []⟩
theorem L_15_ok : SumOk Try.prog 10 [(.str 23 10956966084090815260342509131105871416374185281426186602), (.str 6 110425311047777), (.str 28 6260485019439425252614312435813236600861718953314767591699208816936)] L_15 := SumOk.of_run (K := (sumsHand tabK)) (n := 2000) (keep := []) mixed (sumsHand_ok tabK_ok) (by kernel_rfl) (by kernel_rfl)

def L_16 : Sum := ⟨(.int .i64 17), 35, []⟩
theorem L_16_ok : SumOk Try.prog 10 [(.str 23 10956966084090815260342509131105871416374185281426186602), (.str 6 110425311047777), (.str 28 6260485019439425252614312435813236600861718953314767591699208817192)] L_16 := SumOk.of_run (K := (sumsHand tabK)) (n := 2000) (keep := []) mixed (sumsHand_ok tabK_ok) (by kernel_rfl) (by kernel_rfl)

def L_17 : Sum := ⟨(.int .i64 18), 36, []⟩
theorem L_17_ok : SumOk Try.prog 10 [(.str 23 10956966084090815260342509131105871416374185281426186602), (.str 6 110425311047777), (.str 28 6260485019439425252614312435813236600861718953314767591699208815400)] L_17 := SumOk.of_run (K := (sumsHand tabK)) (n := 2000) (keep := []) mixed (sumsHand_ok tabK_ok) (by kernel_rfl) (by kernel_rfl)

def L_18 : Sum := ⟨(.int .i64 19), 37, []⟩
theorem L_18_ok : SumOk Try.prog 10 [(.str 23 10956966084090815260342509131105871416374185281426186602), (.str 6 110425311047777), (.str 28 6260485019439425252614312435813236600861718953314767591699208821288)] L_18 := SumOk.of_run (K := (sumsHand tabK)) (n := 2000) (keep := []) mixed (sumsHand_ok tabK_ok) (by kernel_rfl) (by kernel_rfl)

def L_19 : Sum := ⟨(.int .i64 20), 38, []⟩
theorem L_19_ok : SumOk Try.prog 10 [(.str 23 10956966084090815260342509131105871416374185281426186602), (.str 6 114849160783212), (.str 3 4794664)] L_19 := SumOk.of_run (K := (sumsHand tabK)) (n := 2000) (keep := []) mixed (sumsHand_ok tabK_ok) (by kernel_rfl) (by kernel_rfl)

def L_20 : Sum := ⟨(.int .i64 21), 39, []⟩
theorem L_20_ok : SumOk Try.prog 10 [(.str 23 10956966084090815260342509131105871416374185281426186602), (.str 8 7453010373643562868), (.str 20 339137050467292191589805048747422779071890467112)] L_20 := SumOk.of_run (K := (sumsHand tabK)) (n := 2000) (keep := []) mixed (sumsHand_ok tabK_ok) (by kernel_rfl) (by kernel_rfl)

def L_21 : Sum := ⟨(.int .i64 22), 33, []⟩
theorem L_21_ok : SumOk Try.prog 10 [(.str 16 145412635431568811361768410208787652970), (.str 9 2240157836546495640161), (.str 42 47114077528188198620056812491409661436452214172948092389280225155504520564545130501860034283798416424)] L_21 := SumOk.of_run (K := (sumsHand tabK)) (n := 2000) (keep := []) mixed (sumsHand_ok tabK_ok) (by kernel_rfl) (by kernel_rfl)

def L_22 : Sum := ⟨(.int .i64 23), 62, []⟩
theorem L_22_ok : SumOk Try.prog 10 [(.str 19 2439265639030268300842157990401791553877467498), (.str 5 500068610672), (.str 21 125924534186164816246133852188561726513007718714408)] L_22 := SumOk.of_run (K := (sumsHand tabK)) (n := 2000) (keep := []) mixed (sumsHand_ok tabK_ok) (by kernel_rfl) (by kernel_rfl)

def L_23 : Sum := ⟨(.int .i64 24), 63, []⟩
theorem L_23_ok : SumOk Try.prog 10 [(.str 19 2439265639030268300842157990401791553877467498), (.str 5 500068610672), (.str 4 1445546280)] L_23 := SumOk.of_run (K := (sumsHand tabK)) (n := 2000) (keep := []) mixed (sumsHand_ok tabK_ok) (by kernel_rfl) (by kernel_rfl)

def L_24 : Sum := ⟨(.int .i64 25), 64, []⟩
theorem L_24_ok : SumOk Try.prog 10 [(.str 19 2439265639030268300842157990401791553877467498), (.str 5 500068610672), (.str 4 1445546536)] L_24 := SumOk.of_run (K := (sumsHand tabK)) (n := 2000) (keep := []) mixed (sumsHand_ok tabK_ok) (by kernel_rfl) (by kernel_rfl)

def L_25 : Sum := ⟨(.int .i64 26), 65, []⟩
theorem L_25_ok : SumOk Try.prog 10 [(.str 19 2439265639030268300842157990401791553877467498), (.str 5 500068610672), (.str 4 1445544744)] L_25 := SumOk.of_run (K := (sumsHand tabK)) (n := 2000) (keep := []) mixed (sumsHand_ok tabK_ok) (by kernel_rfl) (by kernel_rfl)

def L_26 : Sum := ⟨(.int .i64 27), 66, []⟩
theorem L_26_ok : SumOk Try.prog 10 [(.str 19 2439265639030268300842157990401791553877467498), (.str 5 500068610672), (.str 4 1445550632)] L_26 := SumOk.of_run (K := (sumsHand tabK)) (n := 2000) (keep := []) mixed (sumsHand_ok tabK_ok) (by kernel_rfl) (by kernel_rfl)

def L_27 : Sum := ⟨(.int .i64 28), 67, []⟩
theorem L_27_ok : SumOk Try.prog 10 [(.str 19 2439265639030268300842157990401791553877467498), (.str 5 500068610672), (.str 21 125924535314876068507128442038675530910546422025256)] L_27 := SumOk.of_run (K := (sumsHand tabK)) (n := 2000) (keep := []) mixed (sumsHand_ok tabK_ok) (by kernel_rfl) (by kernel_rfl)

def L_28 : Sum := ⟨(.int .i64 29), 68, []⟩
theorem L_28_ok : SumOk Try.prog 10 [(.str 19 2439265639030268300842157990401791553877467498), (.str 7 31081494762582640), (.str 21 125924534186164816246133852188561726513007718714408)] L_28 := SumOk.of_run (K := (sumsHand tabK)) (n := 2000) (keep := []) mixed (sumsHand_ok tabK_ok) (by kernel_rfl) (by kernel_rfl)

def L_29 : Sum := ⟨(.int .i64 30), 69, []⟩
theorem L_29_ok : SumOk Try.prog 10 [(.str 19 2439265639030268300842157990401791553877467498), (.str 7 31081494762582640), (.str 4 1445546280)] L_29 := SumOk.of_run (K := (sumsHand tabK)) (n := 2000) (keep := []) mixed (sumsHand_ok tabK_ok) (by kernel_rfl) (by kernel_rfl)

def L_30 : Sum := ⟨(.int .i64 31), 70, []⟩
theorem L_30_ok : SumOk Try.prog 10 [(.str 19 2439265639030268300842157990401791553877467498), (.str 7 31081494762582640), (.str 4 1445546536)] L_30 := SumOk.of_run (K := (sumsHand tabK)) (n := 2000) (keep := []) mixed (sumsHand_ok tabK_ok) (by kernel_rfl) (by kernel_rfl)

def L_31 : Sum := ⟨(.int .i64 32), 71, []⟩
theorem L_31_ok : SumOk Try.prog 10 [(.str 19 2439265639030268300842157990401791553877467498), (.str 7 31081494762582640), (.str 4 1445544744)] L_31 := SumOk.of_run (K := (sumsHand tabK)) (n := 2000) (keep := []) mixed (sumsHand_ok tabK_ok) (by kernel_rfl) (by kernel_rfl)

def L_32 : Sum := ⟨(.int .i64 33), 72, []⟩
theorem L_32_ok : SumOk Try.prog 10 [(.str 19 2439265639030268300842157990401791553877467498), (.str 7 31081494762582640), (.str 4 1445550632)] L_32 := SumOk.of_run (K := (sumsHand tabK)) (n := 2000) (keep := []) mixed (sumsHand_ok tabK_ok) (by kernel_rfl) (by kernel_rfl)

def L_33 : Sum := ⟨(.int .i64 34), 73, []⟩
theorem L_33_ok : SumOk Try.prog 10 [(.str 19 2439265639030268300842157990401791553877467498), (.str 7 31081494762582640), (.str 21 125924535314876068507128442038675530910546422025256)] L_33 := SumOk.of_run (K := (sumsHand tabK)) (n := 2000) (keep := []) mixed (sumsHand_ok tabK_ok) (by kernel_rfl) (by kernel_rfl)

def L_34 : Sum := ⟨(.int .i64 35), 74, []⟩
theorem L_34_ok : SumOk Try.prog 10 [(.str 19 2439265639030268300842157990401791553877467498), (.str 7 31081494762582640), (.str 3 5646632)] L_34 := SumOk.of_run (K := (sumsHand tabK)) (n := 2000) (keep := []) mixed (sumsHand_ok tabK_ok) (by kernel_rfl) (by kernel_rfl)

def L_35 : Sum := ⟨(.int .i64 36), 142, []⟩
theorem L_35_ok : SumOk Try.prog 10 [(.str 19 2261816869159440624969593107871851903301607786), (.str 6 68669705972028), (.str 3 5646632)] L_35 := SumOk.of_run (K := (sumsHand tabK)) (n := 2000) (keep := []) mixed (sumsHand_ok tabK_ok) (by kernel_rfl) (by kernel_rfl)

def L_36 : Sum := ⟨(.int .i64 37), 143, []⟩
theorem L_36_ok : SumOk Try.prog 10 [(.str 19 2261816869159440624969593107871851903301607786), (.str 6 68669705972028), (.str 21 125924534186164816246133852188561726513007718714408)] L_36 := SumOk.of_run (K := (sumsHand tabK)) (n := 2000) (keep := []) mixed (sumsHand_ok tabK_ok) (by kernel_rfl) (by kernel_rfl)

def L_37 : Sum := ⟨(.int .i64 38), 144, []⟩
theorem L_37_ok : SumOk Try.prog 10 [(.str 19 2261816869159440624969593107871851903301607786), (.str 10 478866051492549179499879), (.str 20 339137050467292191589805048747422779071890467112)] L_37 := SumOk.of_run (K := (sumsHand tabK)) (n := 2000) (keep := []) mixed (sumsHand_ok tabK_ok) (by kernel_rfl) (by kernel_rfl)

def L_38 : Sum := ⟨(.int .i64 36), 142, []⟩
theorem L_38_ok : SumOk Try.prog 10 [(.str 19 2462787319999361794871408518597065734545105258), (.str 6 68669705972028), (.str 3 5646632)] L_38 := SumOk.of_run (K := (sumsHand tabK)) (n := 2000) (keep := []) mixed (sumsHand_ok tabK_ok) (by kernel_rfl) (by kernel_rfl)

def L_39 : Sum := ⟨(.int .i64 37), 143, []⟩
theorem L_39_ok : SumOk Try.prog 10 [(.str 19 2462787319999361794871408518597065734545105258), (.str 6 68669705972028), (.str 21 125924534186164816246133852188561726513007718714408)] L_39 := SumOk.of_run (K := (sumsHand tabK)) (n := 2000) (keep := []) mixed (sumsHand_ok tabK_ok) (by kernel_rfl) (by kernel_rfl)

def L_40 : Sum := ⟨(.int .i64 36), 143, []⟩
theorem L_40_ok : SumOk Try.prog 10 [(.str 15 594182256714433171583859471190221162), (.str 6 68669705972028), (.str 3 5646632)] L_40 := SumOk.of_run (K := (sumsHand tabK)) (n := 2000) (keep := []) mixed (sumsHand_ok tabK_ok) (by kernel_rfl) (by kernel_rfl)

def L_41 : Sum := ⟨(.int .i64 37), 144, []⟩
theorem L_41_ok : SumOk Try.prog 10 [(.str 15 594182256714433171583859471190221162), (.str 6 68669705972028), (.str 21 125924534186164816246133852188561726513007718714408)] L_41 := SumOk.of_run (K := (sumsHand tabK)) (n := 2000) (keep := []) mixed (sumsHand_ok tabK_ok) (by kernel_rfl) (by kernel_rfl)

def L_42 : Sum := ⟨(.int .i64 36), 144, []⟩
theorem L_42_ok : SumOk Try.prog 10 [(.str 26 177462528906270532328520934635542489792491443287338843928682858), (.str 6 68669705972028), (.str 3 5646632)] L_42 := SumOk.of_run (K := (sumsHand tabK)) (n := 2000) (keep := []) mixed (sumsHand_ok tabK_ok) (by kernel_rfl) (by kernel_rfl)

def L_43 : Sum := ⟨(.int .i64 37), 145, []⟩
theorem L_43_ok : SumOk Try.prog 10 [(.str 26 177462528906270532328520934635542489792491443287338843928682858), (.str 6 68669705972028), (.str 21 125924534186164816246133852188561726513007718714408)] L_43 := SumOk.of_run (K := (sumsHand tabK)) (n := 2000) (keep := []) mixed (sumsHand_ok tabK_ok) (by kernel_rfl) (by kernel_rfl)

def L_44 : Sum := ⟨(.int .i64 36), 145, []⟩
theorem L_44_ok : SumOk Try.prog 10 [(.str 35 838043098472257520366253329360822735706660890049674080341799799296269125818196058474), (.str 6 68669705972028), (.str 3 5646632)] L_44 := SumOk.of_run (K := (sumsHand tabK)) (n := 2000) (keep := []) mixed (sumsHand_ok tabK_ok) (by kernel_rfl) (by kernel_rfl)

def L_45 : Sum := ⟨(.int .i64 37), 146, []⟩
theorem L_45_ok : SumOk Try.prog 10 [(.str 35 838043098472257520366253329360822735706660890049674080341799799296269125818196058474), (.str 6 68669705972028), (.str 21 125924534186164816246133852188561726513007718714408)] L_45 := SumOk.of_run (K := (sumsHand tabK)) (n := 2000) (keep := []) mixed (sumsHand_ok tabK_ok) (by kernel_rfl) (by kernel_rfl)

def L_46 : Sum := ⟨(.int .i64 36), 146, []⟩
theorem L_46_ok : SumOk Try.prog 10 [(.str 26 183890501555036136351903328603364899342229922045770665733546346), (.str 6 68669705972028), (.str 3 5646632)] L_46 := SumOk.of_run (K := (sumsHand tabK)) (n := 2000) (keep := []) mixed (sumsHand_ok tabK_ok) (by kernel_rfl) (by kernel_rfl)

def L_47 : Sum := ⟨(.int .i64 37), 147, []⟩
theorem L_47_ok : SumOk Try.prog 10 [(.str 26 183890501555036136351903328603364899342229922045770665733546346), (.str 6 68669705972028), (.str 21 125924534186164816246133852188561726513007718714408)] L_47 := SumOk.of_run (K := (sumsHand tabK)) (n := 2000) (keep := []) mixed (sumsHand_ok tabK_ok) (by kernel_rfl) (by kernel_rfl)

def L_48 : Sum := ⟨(.int .i64 36), 147, []⟩
theorem L_48_ok : SumOk Try.prog 10 [(.str 38 14569306542031293471471962209605688152784288289213751582725315083544705153644676387098222954), (.str 6 68669705972028), (.str 3 5646632)] L_48 := SumOk.of_run (K := (sumsHand tabK)) (n := 2000) (keep := []) mixed (sumsHand_ok tabK_ok) (by kernel_rfl) (by kernel_rfl)

def L_49 : Sum := ⟨(.int .i64 37), 148, []⟩
theorem L_49_ok : SumOk Try.prog 10 [(.str 38 14569306542031293471471962209605688152784288289213751582725315083544705153644676387098222954), (.str 6 68669705972028), (.str 21 125924534186164816246133852188561726513007718714408)] L_49 := SumOk.of_run (K := (sumsHand tabK)) (n := 2000) (keep := []) mixed (sumsHand_ok tabK_ok) (by kernel_rfl) (by kernel_rfl)

def L_50 : Sum := ⟨(.int .i64 36), 148, []⟩
theorem L_50_ok : SumOk Try.prog 10 [(.str 30 789803690223817235625993454897404583541813632134065715887439951296881002), (.str 6 68669705972028), (.str 3 5646632)] L_50 := SumOk.of_run (K := (sumsHand tabK)) (n := 2000) (keep := []) mixed (sumsHand_ok tabK_ok) (by kernel_rfl) (by kernel_rfl)

def L_51 : Sum := ⟨(.int .i64 37), 149, []⟩
theorem L_51_ok : SumOk Try.prog 10 [(.str 30 789803690223817235625993454897404583541813632134065715887439951296881002), (.str 6 68669705972028), (.str 21 125924534186164816246133852188561726513007718714408)] L_51 := SumOk.of_run (K := (sumsHand tabK)) (n := 2000) (keep := []) mixed (sumsHand_ok tabK_ok) (by kernel_rfl) (by kernel_rfl)

def L_52 : Sum := ⟨(.int .i64 36), 149, []⟩
theorem L_52_ok : SumOk Try.prog 10 [(.str 31 202189744697330995387852485397630371027294446829100397077902765524415570282), (.str 6 68669705972028), (.str 3 5646632)] L_52 := SumOk.of_run (K := (sumsHand tabK)) (n := 2000) (keep := []) mixed (sumsHand_ok tabK_ok) (by kernel_rfl) (by kernel_rfl)

def L_53 : Sum := ⟨(.int .i64 37), 150, []⟩
theorem L_53_ok : SumOk Try.prog 10 [(.str 31 202189744697330995387852485397630371027294446829100397077902765524415570282), (.str 6 68669705972028), (.str 21 125924534186164816246133852188561726513007718714408)] L_53 := SumOk.of_run (K := (sumsHand tabK)) (n := 2000) (keep := []) mixed (sumsHand_ok tabK_ok) (by kernel_rfl) (by kernel_rfl)

def L_54 : Sum := ⟨(.int .i64 36), 150, []⟩
theorem L_54_ok : SumOk Try.prog 10 [(.str 38 14569306542030247732875768419210667608278730874565438596096215620376147580735894642209743210), (.str 6 68669705972028), (.str 3 5646632)] L_54 := SumOk.of_run (K := (sumsHand tabK)) (n := 2000) (keep := []) mixed (sumsHand_ok tabK_ok) (by kernel_rfl) (by kernel_rfl)

def L_55 : Sum := ⟨(.int .i64 37), 151, []⟩
theorem L_55_ok : SumOk Try.prog 10 [(.str 38 14569306542030247732875768419210667608278730874565438596096215620376147580735894642209743210), (.str 6 68669705972028), (.str 21 125924534186164816246133852188561726513007718714408)] L_55 := SumOk.of_run (K := (sumsHand tabK)) (n := 2000) (keep := []) mixed (sumsHand_ok tabK_ok) (by kernel_rfl) (by kernel_rfl)

def L_56 : Sum := ⟨(.int .i64 36), 151, []⟩
theorem L_56_ok : SumOk Try.prog 10 [(.str 22 42815343838886881203639546329033052610660173325164906), (.str 6 68669705972028), (.str 3 5646632)] L_56 := SumOk.of_run (K := (sumsHand tabK)) (n := 2000) (keep := []) mixed (sumsHand_ok tabK_ok) (by kernel_rfl) (by kernel_rfl)

def L_57 : Sum := ⟨(.int .i64 37), 152, []⟩
theorem L_57_ok : SumOk Try.prog 10 [(.str 22 42815343838886881203639546329033052610660173325164906), (.str 6 68669705972028), (.str 21 125924534186164816246133852188561726513007718714408)] L_57 := SumOk.of_run (K := (sumsHand tabK)) (n := 2000) (keep := []) mixed (sumsHand_ok tabK_ok) (by kernel_rfl) (by kernel_rfl)

def L_58 : Sum := ⟨(.int .i64 36), 152, []⟩
theorem L_58_ok : SumOk Try.prog 10 [(.str 21 167247436870678459232146883126634948762985622298986), (.str 6 68669705972028), (.str 3 5646632)] L_58 := SumOk.of_run (K := (sumsHand tabK)) (n := 2000) (keep := []) mixed (sumsHand_ok tabK_ok) (by kernel_rfl) (by kernel_rfl)

def L_59 : Sum := ⟨(.int .i64 37), 153, []⟩
theorem L_59_ok : SumOk Try.prog 10 [(.str 21 167247436870678459232146883126634948762985622298986), (.str 6 68669705972028), (.str 21 125924534186164816246133852188561726513007718714408)] L_59 := SumOk.of_run (K := (sumsHand tabK)) (n := 2000) (keep := []) mixed (sumsHand_ok tabK_ok) (by kernel_rfl) (by kernel_rfl)

def L_60 : Sum := ⟨(.int .i64 36), 153, []⟩
theorem L_60_ok : SumOk Try.prog 10 [(.str 26 183890501555012814945400634590948384637649511452497603397575018), (.str 6 68669705972028), (.str 3 5646632)] L_60 := SumOk.of_run (K := (sumsHand tabK)) (n := 2000) (keep := []) mixed (sumsHand_ok tabK_ok) (by kernel_rfl) (by kernel_rfl)

def L_61 : Sum := ⟨(.int .i64 37), 154, []⟩
theorem L_61_ok : SumOk Try.prog 10 [(.str 26 183890501555012814945400634590948384637649511452497603397575018), (.str 6 68669705972028), (.str 21 125924534186164816246133852188561726513007718714408)] L_61 := SumOk.of_run (K := (sumsHand tabK)) (n := 2000) (keep := []) mixed (sumsHand_ok tabK_ok) (by kernel_rfl) (by kernel_rfl)

def L_62 : Sum := ⟨(.int .i64 36), 154, []⟩
theorem L_62_ok : SumOk Try.prog 10 [(.str 27 47075968398083285027902446257440240237115773113246055769402925418), (.str 6 68669705972028), (.str 3 5646632)] L_62 := SumOk.of_run (K := (sumsHand tabK)) (n := 2000) (keep := []) mixed (sumsHand_ok tabK_ok) (by kernel_rfl) (by kernel_rfl)

def L_63 : Sum := ⟨(.int .i64 37), 155, []⟩
theorem L_63_ok : SumOk Try.prog 10 [(.str 27 47075968398083285027902446257440240237115773113246055769402925418), (.str 6 68669705972028), (.str 21 125924534186164816246133852188561726513007718714408)] L_63 := SumOk.of_run (K := (sumsHand tabK)) (n := 2000) (keep := []) mixed (sumsHand_ok tabK_ok) (by kernel_rfl) (by kernel_rfl)

def L_64 : Sum := ⟨(.int .i64 36), 155, []⟩
theorem L_64_ok : SumOk Try.prog 10 [(.str 28 12051447909910759173808661238977857107111767888823090726697178653034), (.str 6 68669705972028), (.str 3 5646632)] L_64 := SumOk.of_run (K := (sumsHand tabK)) (n := 2000) (keep := []) mixed (sumsHand_ok tabK_ok) (by kernel_rfl) (by kernel_rfl)

def L_65 : Sum := ⟨(.int .i64 37), 156, []⟩
theorem L_65_ok : SumOk Try.prog 10 [(.str 28 12051447909910759173808661238977857107111767888823090726697178653034), (.str 6 68669705972028), (.str 21 125924534186164816246133852188561726513007718714408)] L_65 := SumOk.of_run (K := (sumsHand tabK)) (n := 2000) (keep := []) mixed (sumsHand_ok tabK_ok) (by kernel_rfl) (by kernel_rfl)

def L_66 : Sum := ⟨(.int .i64 36), 156, []⟩
theorem L_66_ok : SumOk Try.prog 10 [(.str 29 3085170664936786167588614718972924591866388410301586339335837578584426), (.str 6 68669705972028), (.str 3 5646632)] L_66 := SumOk.of_run (K := (sumsHand tabK)) (n := 2000) (keep := []) mixed (sumsHand_ok tabK_ok) (by kernel_rfl) (by kernel_rfl)

def L_67 : Sum := ⟨(.int .i64 37), 157, []⟩
theorem L_67_ok : SumOk Try.prog 10 [(.str 29 3085170664936786167588614718972924591866388410301586339335837578584426), (.str 6 68669705972028), (.str 21 125924534186164816246133852188561726513007718714408)] L_67 := SumOk.of_run (K := (sumsHand tabK)) (n := 2000) (keep := []) mixed (sumsHand_ok tabK_ok) (by kernel_rfl) (by kernel_rfl)

def L_68 : Sum := ⟨(.int .i64 36), 157, []⟩
theorem L_68_ok : SumOk Try.prog 10 [(.str 28 12051447909910278778317482300033197087305720853520054876288643916138), (.str 6 68669705972028), (.str 3 5646632)] L_68 := SumOk.of_run (K := (sumsHand tabK)) (n := 2000) (keep := []) mixed (sumsHand_ok tabK_ok) (by kernel_rfl) (by kernel_rfl)

def L_69 : Sum := ⟨(.int .i64 37), 158, []⟩
theorem L_69_ok : SumOk Try.prog 10 [(.str 28 12051447909910278778317482300033197087305720853520054876288643916138), (.str 6 68669705972028), (.str 21 125924534186164816246133852188561726513007718714408)] L_69 := SumOk.of_run (K := (sumsHand tabK)) (n := 2000) (keep := []) mixed (sumsHand_ok tabK_ok) (by kernel_rfl) (by kernel_rfl)

def L_70 : Sum := ⟨(.int .i64 36), 158, []⟩
theorem L_70_ok : SumOk Try.prog 10 [(.str 37 56911353679811531822920492603033782110087255578636309514658723732473720363105297718731114), (.str 6 68669705972028), (.str 3 5646632)] L_70 := SumOk.of_run (K := (sumsHand tabK)) (n := 2000) (keep := []) mixed (sumsHand_ok tabK_ok) (by kernel_rfl) (by kernel_rfl)

def L_71 : Sum := ⟨(.int .i64 37), 159, []⟩
theorem L_71_ok : SumOk Try.prog 10 [(.str 37 56911353679811531822920492603033782110087255578636309514658723732473720363105297718731114), (.str 6 68669705972028), (.str 21 125924534186164816246133852188561726513007718714408)] L_71 := SumOk.of_run (K := (sumsHand tabK)) (n := 2000) (keep := []) mixed (sumsHand_ok tabK_ok) (by kernel_rfl) (by kernel_rfl)

def L_72 : Sum := ⟨(.int .i64 36), 159, []⟩
theorem L_72_ok : SumOk Try.prog 10 [(.str 28 12051447909911140811364177168575840195048631602135540194265359868266), (.str 6 68669705972028), (.str 3 5646632)] L_72 := SumOk.of_run (K := (sumsHand tabK)) (n := 2000) (keep := []) mixed (sumsHand_ok tabK_ok) (by kernel_rfl) (by kernel_rfl)

def L_73 : Sum := ⟨(.int .i64 37), 160, []⟩
theorem L_73_ok : SumOk Try.prog 10 [(.str 28 12051447909911140811364177168575840195048631602135540194265359868266), (.str 6 68669705972028), (.str 21 125924534186164816246133852188561726513007718714408)] L_73 := SumOk.of_run (K := (sumsHand tabK)) (n := 2000) (keep := []) mixed (sumsHand_ok tabK_ok) (by kernel_rfl) (by kernel_rfl)

def L_74 : Sum := ⟨(.int .i64 36), 160, []⟩
theorem L_74_ok : SumOk Try.prog 10 [(.str 26 183890501555043540957095622503328518117729969598634276033028458), (.str 6 68669705972028), (.str 3 5646632)] L_74 := SumOk.of_run (K := (sumsHand tabK)) (n := 2000) (keep := []) mixed (sumsHand_ok tabK_ok) (by kernel_rfl) (by kernel_rfl)

def L_75 : Sum := ⟨(.int .i64 37), 161, []⟩
theorem L_75_ok : SumOk Try.prog 10 [(.str 26 183890501555043540957095622503328518117729969598634276033028458), (.str 6 68669705972028), (.str 21 125924534186164816246133852188561726513007718714408)] L_75 := SumOk.of_run (K := (sumsHand tabK)) (n := 2000) (keep := []) mixed (sumsHand_ok tabK_ok) (by kernel_rfl) (by kernel_rfl)

def L_76 : Sum := ⟨(.int .i64 36), 161, []⟩
theorem L_76_ok : SumOk Try.prog 10 [(.str 29 2977327179366744475310567174670984700336777289692309623825572795146602), (.str 6 68669705972028), (.str 3 5646632)] L_76 := SumOk.of_run (K := (sumsHand tabK)) (n := 2000) (keep := []) mixed (sumsHand_ok tabK_ok) (by kernel_rfl) (by kernel_rfl)

def L_77 : Sum := ⟨(.int .i64 37), 162, []⟩
theorem L_77_ok : SumOk Try.prog 10 [(.str 29 2977327179366744475310567174670984700336777289692309623825572795146602), (.str 6 68669705972028), (.str 21 125924534186164816246133852188561726513007718714408)] L_77 := SumOk.of_run (K := (sumsHand tabK)) (n := 2000) (keep := []) mixed (sumsHand_ok tabK_ok) (by kernel_rfl) (by kernel_rfl)

def L_78 : Sum := ⟨(.int .i64 36), 162, []⟩
theorem L_78_ok : SumOk Try.prog 10 [(.str 30 762195757917886585679527096405151622096281774544538073876077408773628266), (.str 6 68669705972028), (.str 3 5646632)] L_78 := SumOk.of_run (K := (sumsHand tabK)) (n := 2000) (keep := []) mixed (sumsHand_ok tabK_ok) (by kernel_rfl) (by kernel_rfl)

def L_79 : Sum := ⟨(.int .i64 37), 163, []⟩
theorem L_79_ok : SumOk Try.prog 10 [(.str 30 762195757917886585679527096405151622096281774544538073876077408773628266), (.str 6 68669705972028), (.str 21 125924534186164816246133852188561726513007718714408)] L_79 := SumOk.of_run (K := (sumsHand tabK)) (n := 2000) (keep := []) mixed (sumsHand_ok tabK_ok) (by kernel_rfl) (by kernel_rfl)

def L_80 : Sum := ⟨(.int .i64 36), 163, []⟩
theorem L_80_ok : SumOk Try.prog 10 [(.str 40 921438131347674524995356669863897659779420152864154109574888483886346161678995665599280333611370), (.str 6 68669705972028), (.str 3 5646632)] L_80 := SumOk.of_run (K := (sumsHand tabK)) (n := 2000) (keep := []) mixed (sumsHand_ok tabK_ok) (by kernel_rfl) (by kernel_rfl)

def L_81 : Sum := ⟨(.int .i64 37), 164, []⟩
theorem L_81_ok : SumOk Try.prog 10 [(.str 40 921438131347674524995356669863897659779420152864154109574888483886346161678995665599280333611370), (.str 6 68669705972028), (.str 21 125924534186164816246133852188561726513007718714408)] L_81 := SumOk.of_run (K := (sumsHand tabK)) (n := 2000) (keep := []) mixed (sumsHand_ok tabK_ok) (by kernel_rfl) (by kernel_rfl)

def L_82 : Sum := ⟨(.int .i64 36), 164, []⟩
theorem L_82_ok : SumOk Try.prog 10 [(.str 36 214539033208897925213755128370838752992305990670598911423725060199978812837976799076714), (.str 6 68669705972028), (.str 3 5646632)] L_82 := SumOk.of_run (K := (sumsHand tabK)) (n := 2000) (keep := []) mixed (sumsHand_ok tabK_ok) (by kernel_rfl) (by kernel_rfl)

def L_83 : Sum := ⟨(.int .i64 37), 165, []⟩
theorem L_83_ok : SumOk Try.prog 10 [(.str 36 214539033208897925213755128370838752992305990670598911423725060199978812837976799076714), (.str 6 68669705972028), (.str 21 125924534186164816246133852188561726513007718714408)] L_83 := SumOk.of_run (K := (sumsHand tabK)) (n := 2000) (keep := []) mixed (sumsHand_ok tabK_ok) (by kernel_rfl) (by kernel_rfl)

def L_84 : Sum := ⟨(.int .i64 36), 165, []⟩
theorem L_84_ok : SumOk Try.prog 10 [(.str 28 11630184294401345606682283003339240975915084228737354846334270988650), (.str 6 68669705972028), (.str 3 5646632)] L_84 := SumOk.of_run (K := (sumsHand tabK)) (n := 2000) (keep := []) mixed (sumsHand_ok tabK_ok) (by kernel_rfl) (by kernel_rfl)

def L_85 : Sum := ⟨(.int .i64 37), 166, []⟩
theorem L_85_ok : SumOk Try.prog 10 [(.str 28 11630184294401345606682283003339240975915084228737354846334270988650), (.str 6 68669705972028), (.str 21 125924534186164816246133852188561726513007718714408)] L_85 := SumOk.of_run (K := (sumsHand tabK)) (n := 2000) (keep := []) mixed (sumsHand_ok tabK_ok) (by kernel_rfl) (by kernel_rfl)

def L_86 : Sum := ⟨(.int .i64 36), 166, []⟩
theorem L_86_ok : SumOk Try.prog 10 [(.str 29 2977327179366744475310578792928741468592950331792981622238945052352874), (.str 6 68669705972028), (.str 3 5646632)] L_86 := SumOk.of_run (K := (sumsHand tabK)) (n := 2000) (keep := []) mixed (sumsHand_ok tabK_ok) (by kernel_rfl) (by kernel_rfl)

def L_87 : Sum := ⟨(.int .i64 37), 167, []⟩
theorem L_87_ok : SumOk Try.prog 10 [(.str 29 2977327179366744475310578792928741468592950331792981622238945052352874), (.str 6 68669705972028), (.str 21 125924534186164816246133852188561726513007718714408)] L_87 := SumOk.of_run (K := (sumsHand tabK)) (n := 2000) (keep := []) mixed (sumsHand_ok tabK_ok) (by kernel_rfl) (by kernel_rfl)

def L_88 : Sum := ⟨(.int .i64 36), 167, []⟩
theorem L_88_ok : SumOk Try.prog 10 [(.str 38 14060030080378334426808655457799320232265086119729716606675995945190890063755479020322840938), (.str 6 68669705972028), (.str 3 5646632)] L_88 := SumOk.of_run (K := (sumsHand tabK)) (n := 2000) (keep := []) mixed (sumsHand_ok tabK_ok) (by kernel_rfl) (by kernel_rfl)

def L_89 : Sum := ⟨(.int .i64 37), 168, []⟩
theorem L_89_ok : SumOk Try.prog 10 [(.str 38 14060030080378334426808655457799320232265086119729716606675995945190890063755479020322840938), (.str 6 68669705972028), (.str 21 125924534186164816246133852188561726513007718714408)] L_89 := SumOk.of_run (K := (sumsHand tabK)) (n := 2000) (keep := []) mixed (sumsHand_ok tabK_ok) (by kernel_rfl) (by kernel_rfl)

def L_90 : Sum := ⟨(.int .i64 36), 168, []⟩
theorem L_90_ok : SumOk Try.prog 10 [(.str 41 235888161625004678398811307485157800903531559133223452051171428016118026562849321940164899390251370), (.str 6 68669705972028), (.str 3 5646632)] L_90 := SumOk.of_run (K := (sumsHand tabK)) (n := 2000) (keep := []) mixed (sumsHand_ok tabK_ok) (by kernel_rfl) (by kernel_rfl)

def L_91 : Sum := ⟨(.int .i64 37), 169, []⟩
theorem L_91_ok : SumOk Try.prog 10 [(.str 41 235888161625004678398811307485157800903531559133223452051171428016118026562849321940164899390251370), (.str 6 68669705972028), (.str 21 125924534186164816246133852188561726513007718714408)] L_91 := SumOk.of_run (K := (sumsHand tabK)) (n := 2000) (keep := []) mixed (sumsHand_ok tabK_ok) (by kernel_rfl) (by kernel_rfl)

def tabL : List (FuncId × SRows) := (10, [([(.str 16 154706541852025644484233205990057992554), (.str 6 68669705972028), (.str 3 5646632)], L_0), ([(.str 16 154706541852025644484233205990057992554), (.str 6 126909328748901), (.str 21 131770541864199680179943181369540662989170152197160)], L_1), ([(.str 16 154706541852025644484233205990057992554), (.str 8 7453010373643562868), (.str 20 339137050467292191589805048747422779071890467112)], L_2), ([(.str 16 137483774941304901841256615957136564586), (.str 6 114849160783212), (.str 3 4794664)], L_3), ([(.str 16 137483774941304901841256615957136564586), (.str 6 127824440682595), (.str 4 1126779176)], L_4), ([(.str 16 137483774941304901841256615957136564586), (.str 6 127961628831587), (.str 38 7563008949852303964789352941943798567979605024965410989119580465925847369046121658274434088)], L_5), ([(.str 16 137483774941304901841256615957136564586), (.str 6 126909328748901), (.str 21 131770541864199680179943181369540662989170152197160)], L_6), ([(.str 16 137483774941304901841256615957136564586), (.str 6 121437607456361), (.str 20 339137050467292191589805048747422779071890467112)], L_7), ([(.str 16 137483774941304901841256615957136564586), (.str 8 7453010373643562868), (.str 20 339137050467292191589805048747422779071890467112)], L_8), ([(.str 16 137483774941304901841256615957136564586), (.str 7 28797744804815222), (.str 21 86819084919626801046990092479340231442403959589160)], L_9), ([(.str 16 137483774941304901841256615957136564586), (.str 7 28797744804815222), (.str 21 86819084919626801046990092479340231442403959589416)], L_10), ([(.str 16 137483774941304901841256615957136564586), (.str 7 28797744804815222), (.str 21 86819084919626801046990092479340231442403959587624)], L_11), ([(.str 16 137483774941304901841256615957136564586), (.str 7 28797744804815222), (.str 21 86819084919626801046990092479340231442403959593512)], L_12), ([(.str 23 10956966084090815260342509131105871416374185281426186602), (.str 6 68669705972028), (.str 3 5646632)], L_13), ([(.str 23 10956966084090815260342509131105871416374185281426186602), (.str 6 110425311047777), (.str 45 545365161084908818682307871509240926086432362262523517738950247884810123871997999633158636370693479484509224)], L_14), ([(.str 23 10956966084090815260342509131105871416374185281426186602), (.str 6 110425311047777), (.str 28 6260485019439425252614312435813236600861718953314767591699208816936)], L_15), ([(.str 23 10956966084090815260342509131105871416374185281426186602), (.str 6 110425311047777), (.str 28 6260485019439425252614312435813236600861718953314767591699208817192)], L_16), ([(.str 23 10956966084090815260342509131105871416374185281426186602), (.str 6 110425311047777), (.str 28 6260485019439425252614312435813236600861718953314767591699208815400)], L_17), ([(.str 23 10956966084090815260342509131105871416374185281426186602), (.str 6 110425311047777), (.str 28 6260485019439425252614312435813236600861718953314767591699208821288)], L_18), ([(.str 23 10956966084090815260342509131105871416374185281426186602), (.str 6 114849160783212), (.str 3 4794664)], L_19), ([(.str 23 10956966084090815260342509131105871416374185281426186602), (.str 8 7453010373643562868), (.str 20 339137050467292191589805048747422779071890467112)], L_20), ([(.str 16 145412635431568811361768410208787652970), (.str 9 2240157836546495640161), (.str 42 47114077528188198620056812491409661436452214172948092389280225155504520564545130501860034283798416424)], L_21), ([(.str 19 2439265639030268300842157990401791553877467498), (.str 5 500068610672), (.str 21 125924534186164816246133852188561726513007718714408)], L_22), ([(.str 19 2439265639030268300842157990401791553877467498), (.str 5 500068610672), (.str 4 1445546280)], L_23), ([(.str 19 2439265639030268300842157990401791553877467498), (.str 5 500068610672), (.str 4 1445546536)], L_24), ([(.str 19 2439265639030268300842157990401791553877467498), (.str 5 500068610672), (.str 4 1445544744)], L_25), ([(.str 19 2439265639030268300842157990401791553877467498), (.str 5 500068610672), (.str 4 1445550632)], L_26), ([(.str 19 2439265639030268300842157990401791553877467498), (.str 5 500068610672), (.str 21 125924535314876068507128442038675530910546422025256)], L_27), ([(.str 19 2439265639030268300842157990401791553877467498), (.str 7 31081494762582640), (.str 21 125924534186164816246133852188561726513007718714408)], L_28), ([(.str 19 2439265639030268300842157990401791553877467498), (.str 7 31081494762582640), (.str 4 1445546280)], L_29), ([(.str 19 2439265639030268300842157990401791553877467498), (.str 7 31081494762582640), (.str 4 1445546536)], L_30), ([(.str 19 2439265639030268300842157990401791553877467498), (.str 7 31081494762582640), (.str 4 1445544744)], L_31), ([(.str 19 2439265639030268300842157990401791553877467498), (.str 7 31081494762582640), (.str 4 1445550632)], L_32), ([(.str 19 2439265639030268300842157990401791553877467498), (.str 7 31081494762582640), (.str 21 125924535314876068507128442038675530910546422025256)], L_33), ([(.str 19 2439265639030268300842157990401791553877467498), (.str 7 31081494762582640), (.str 3 5646632)], L_34), ([(.str 19 2261816869159440624969593107871851903301607786), (.str 6 68669705972028), (.str 3 5646632)], L_35), ([(.str 19 2261816869159440624969593107871851903301607786), (.str 6 68669705972028), (.str 21 125924534186164816246133852188561726513007718714408)], L_36), ([(.str 19 2261816869159440624969593107871851903301607786), (.str 10 478866051492549179499879), (.str 20 339137050467292191589805048747422779071890467112)], L_37), ([(.str 19 2462787319999361794871408518597065734545105258), (.str 6 68669705972028), (.str 3 5646632)], L_38), ([(.str 19 2462787319999361794871408518597065734545105258), (.str 6 68669705972028), (.str 21 125924534186164816246133852188561726513007718714408)], L_39), ([(.str 15 594182256714433171583859471190221162), (.str 6 68669705972028), (.str 3 5646632)], L_40), ([(.str 15 594182256714433171583859471190221162), (.str 6 68669705972028), (.str 21 125924534186164816246133852188561726513007718714408)], L_41), ([(.str 26 177462528906270532328520934635542489792491443287338843928682858), (.str 6 68669705972028), (.str 3 5646632)], L_42), ([(.str 26 177462528906270532328520934635542489792491443287338843928682858), (.str 6 68669705972028), (.str 21 125924534186164816246133852188561726513007718714408)], L_43), ([(.str 35 838043098472257520366253329360822735706660890049674080341799799296269125818196058474), (.str 6 68669705972028), (.str 3 5646632)], L_44), ([(.str 35 838043098472257520366253329360822735706660890049674080341799799296269125818196058474), (.str 6 68669705972028), (.str 21 125924534186164816246133852188561726513007718714408)], L_45), ([(.str 26 183890501555036136351903328603364899342229922045770665733546346), (.str 6 68669705972028), (.str 3 5646632)], L_46), ([(.str 26 183890501555036136351903328603364899342229922045770665733546346), (.str 6 68669705972028), (.str 21 125924534186164816246133852188561726513007718714408)], L_47), ([(.str 38 14569306542031293471471962209605688152784288289213751582725315083544705153644676387098222954), (.str 6 68669705972028), (.str 3 5646632)], L_48), ([(.str 38 14569306542031293471471962209605688152784288289213751582725315083544705153644676387098222954), (.str 6 68669705972028), (.str 21 125924534186164816246133852188561726513007718714408)], L_49), ([(.str 30 789803690223817235625993454897404583541813632134065715887439951296881002), (.str 6 68669705972028), (.str 3 5646632)], L_50), ([(.str 30 789803690223817235625993454897404583541813632134065715887439951296881002), (.str 6 68669705972028), (.str 21 125924534186164816246133852188561726513007718714408)], L_51), ([(.str 31 202189744697330995387852485397630371027294446829100397077902765524415570282), (.str 6 68669705972028), (.str 3 5646632)], L_52), ([(.str 31 202189744697330995387852485397630371027294446829100397077902765524415570282), (.str 6 68669705972028), (.str 21 125924534186164816246133852188561726513007718714408)], L_53), ([(.str 38 14569306542030247732875768419210667608278730874565438596096215620376147580735894642209743210), (.str 6 68669705972028), (.str 3 5646632)], L_54), ([(.str 38 14569306542030247732875768419210667608278730874565438596096215620376147580735894642209743210), (.str 6 68669705972028), (.str 21 125924534186164816246133852188561726513007718714408)], L_55), ([(.str 22 42815343838886881203639546329033052610660173325164906), (.str 6 68669705972028), (.str 3 5646632)], L_56), ([(.str 22 42815343838886881203639546329033052610660173325164906), (.str 6 68669705972028), (.str 21 125924534186164816246133852188561726513007718714408)], L_57), ([(.str 21 167247436870678459232146883126634948762985622298986), (.str 6 68669705972028), (.str 3 5646632)], L_58), ([(.str 21 167247436870678459232146883126634948762985622298986), (.str 6 68669705972028), (.str 21 125924534186164816246133852188561726513007718714408)], L_59), ([(.str 26 183890501555012814945400634590948384637649511452497603397575018), (.str 6 68669705972028), (.str 3 5646632)], L_60), ([(.str 26 183890501555012814945400634590948384637649511452497603397575018), (.str 6 68669705972028), (.str 21 125924534186164816246133852188561726513007718714408)], L_61), ([(.str 27 47075968398083285027902446257440240237115773113246055769402925418), (.str 6 68669705972028), (.str 3 5646632)], L_62), ([(.str 27 47075968398083285027902446257440240237115773113246055769402925418), (.str 6 68669705972028), (.str 21 125924534186164816246133852188561726513007718714408)], L_63), ([(.str 28 12051447909910759173808661238977857107111767888823090726697178653034), (.str 6 68669705972028), (.str 3 5646632)], L_64), ([(.str 28 12051447909910759173808661238977857107111767888823090726697178653034), (.str 6 68669705972028), (.str 21 125924534186164816246133852188561726513007718714408)], L_65), ([(.str 29 3085170664936786167588614718972924591866388410301586339335837578584426), (.str 6 68669705972028), (.str 3 5646632)], L_66), ([(.str 29 3085170664936786167588614718972924591866388410301586339335837578584426), (.str 6 68669705972028), (.str 21 125924534186164816246133852188561726513007718714408)], L_67), ([(.str 28 12051447909910278778317482300033197087305720853520054876288643916138), (.str 6 68669705972028), (.str 3 5646632)], L_68), ([(.str 28 12051447909910278778317482300033197087305720853520054876288643916138), (.str 6 68669705972028), (.str 21 125924534186164816246133852188561726513007718714408)], L_69), ([(.str 37 56911353679811531822920492603033782110087255578636309514658723732473720363105297718731114), (.str 6 68669705972028), (.str 3 5646632)], L_70), ([(.str 37 56911353679811531822920492603033782110087255578636309514658723732473720363105297718731114), (.str 6 68669705972028), (.str 21 125924534186164816246133852188561726513007718714408)], L_71), ([(.str 28 12051447909911140811364177168575840195048631602135540194265359868266), (.str 6 68669705972028), (.str 3 5646632)], L_72), ([(.str 28 12051447909911140811364177168575840195048631602135540194265359868266), (.str 6 68669705972028), (.str 21 125924534186164816246133852188561726513007718714408)], L_73), ([(.str 26 183890501555043540957095622503328518117729969598634276033028458), (.str 6 68669705972028), (.str 3 5646632)], L_74), ([(.str 26 183890501555043540957095622503328518117729969598634276033028458), (.str 6 68669705972028), (.str 21 125924534186164816246133852188561726513007718714408)], L_75), ([(.str 29 2977327179366744475310567174670984700336777289692309623825572795146602), (.str 6 68669705972028), (.str 3 5646632)], L_76), ([(.str 29 2977327179366744475310567174670984700336777289692309623825572795146602), (.str 6 68669705972028), (.str 21 125924534186164816246133852188561726513007718714408)], L_77), ([(.str 30 762195757917886585679527096405151622096281774544538073876077408773628266), (.str 6 68669705972028), (.str 3 5646632)], L_78), ([(.str 30 762195757917886585679527096405151622096281774544538073876077408773628266), (.str 6 68669705972028), (.str 21 125924534186164816246133852188561726513007718714408)], L_79), ([(.str 40 921438131347674524995356669863897659779420152864154109574888483886346161678995665599280333611370), (.str 6 68669705972028), (.str 3 5646632)], L_80), ([(.str 40 921438131347674524995356669863897659779420152864154109574888483886346161678995665599280333611370), (.str 6 68669705972028), (.str 21 125924534186164816246133852188561726513007718714408)], L_81), ([(.str 36 214539033208897925213755128370838752992305990670598911423725060199978812837976799076714), (.str 6 68669705972028), (.str 3 5646632)], L_82), ([(.str 36 214539033208897925213755128370838752992305990670598911423725060199978812837976799076714), (.str 6 68669705972028), (.str 21 125924534186164816246133852188561726513007718714408)], L_83), ([(.str 28 11630184294401345606682283003339240975915084228737354846334270988650), (.str 6 68669705972028), (.str 3 5646632)], L_84), ([(.str 28 11630184294401345606682283003339240975915084228737354846334270988650), (.str 6 68669705972028), (.str 21 125924534186164816246133852188561726513007718714408)], L_85), ([(.str 29 2977327179366744475310578792928741468592950331792981622238945052352874), (.str 6 68669705972028), (.str 3 5646632)], L_86), ([(.str 29 2977327179366744475310578792928741468592950331792981622238945052352874), (.str 6 68669705972028), (.str 21 125924534186164816246133852188561726513007718714408)], L_87), ([(.str 38 14060030080378334426808655457799320232265086119729716606675995945190890063755479020322840938), (.str 6 68669705972028), (.str 3 5646632)], L_88), ([(.str 38 14060030080378334426808655457799320232265086119729716606675995945190890063755479020322840938), (.str 6 68669705972028), (.str 21 125924534186164816246133852188561726513007718714408)], L_89), ([(.str 41 235888161625004678398811307485157800903531559133223452051171428016118026562849321940164899390251370), (.str 6 68669705972028), (.str 3 5646632)], L_90), ([(.str 41 235888161625004678398811307485157800903531559133223452051171428016118026562849321940164899390251370), (.str 6 68669705972028), (.str 21 125924534186164816246133852188561726513007718714408)], L_91)]) :: tabK
theorem tabL_ok : TabOk Try.prog tabL := (TabOk.cons (RowsOk.cons L_0_ok (RowsOk.cons L_1_ok (RowsOk.cons L_2_ok (RowsOk.cons L_3_ok (RowsOk.cons L_4_ok (RowsOk.cons L_5_ok (RowsOk.cons L_6_ok (RowsOk.cons L_7_ok (RowsOk.cons L_8_ok (RowsOk.cons L_9_ok (RowsOk.cons L_10_ok (RowsOk.cons L_11_ok (RowsOk.cons L_12_ok (RowsOk.cons L_13_ok (RowsOk.cons L_14_ok (RowsOk.cons L_15_ok (RowsOk.cons L_16_ok (RowsOk.cons L_17_ok (RowsOk.cons L_18_ok (RowsOk.cons L_19_ok (RowsOk.cons L_20_ok (RowsOk.cons L_21_ok (RowsOk.cons L_22_ok (RowsOk.cons L_23_ok (RowsOk.cons L_24_ok (RowsOk.cons L_25_ok (RowsOk.cons L_26_ok (RowsOk.cons L_27_ok (RowsOk.cons L_28_ok (RowsOk.cons L_29_ok (RowsOk.cons L_30_ok (RowsOk.cons L_31_ok (RowsOk.cons L_32_ok (RowsOk.cons L_33_ok (RowsOk.cons L_34_ok (RowsOk.cons L_35_ok (RowsOk.cons L_36_ok (RowsOk.cons L_37_ok (RowsOk.cons L_38_ok (RowsOk.cons L_39_ok (RowsOk.cons L_40_ok (RowsOk.cons L_41_ok (RowsOk.cons L_42_ok (RowsOk.cons L_43_ok (RowsOk.cons L_44_ok (RowsOk.cons L_45_ok (RowsOk.cons L_46_ok (RowsOk.cons L_47_ok (RowsOk.cons L_48_ok (RowsOk.cons L_49_ok (RowsOk.cons L_50_ok (RowsOk.cons L_51_ok (RowsOk.cons L_52_ok (RowsOk.cons L_53_ok (RowsOk.cons L_54_ok (RowsOk.cons L_55_ok (RowsOk.cons L_56_ok (RowsOk.cons L_57_ok (RowsOk.cons L_58_ok (RowsOk.cons L_59_ok (RowsOk.cons L_60_ok (RowsOk.cons L_61_ok (RowsOk.cons L_62_ok (RowsOk.cons L_63_ok (RowsOk.cons L_64_ok (RowsOk.cons L_65_ok (RowsOk.cons L_66_ok (RowsOk.cons L_67_ok (RowsOk.cons L_68_ok (RowsOk.cons L_69_ok (RowsOk.cons L_70_ok (RowsOk.cons L_71_ok (RowsOk.cons L_72_ok (RowsOk.cons L_73_ok (RowsOk.cons L_74_ok (RowsOk.cons L_75_ok (RowsOk.cons L_76_ok (RowsOk.cons L_77_ok (RowsOk.cons L_78_ok (RowsOk.cons L_79_ok (RowsOk.cons L_80_ok (RowsOk.cons L_81_ok (RowsOk.cons L_82_ok (RowsOk.cons L_83_ok (RowsOk.cons L_84_ok (RowsOk.cons L_85_ok (RowsOk.cons L_86_ok (RowsOk.cons L_87_ok (RowsOk.cons L_88_ok (RowsOk.cons L_89_ok (RowsOk.cons L_90_ok (RowsOk.cons L_91_ok RowsOk.nil)))))))))))))))))))))))))))))))))))))))))))))))))))))))))))))))))))))))))))))))))))))))))))) tabK_ok)
end Go.Proofs.Ytmeepibkgbgmhaa
