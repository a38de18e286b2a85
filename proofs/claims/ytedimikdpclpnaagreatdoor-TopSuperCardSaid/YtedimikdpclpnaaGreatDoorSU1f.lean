/-
  Contracts of calls, by the kernel.
-/
import Derived.Test.YtedimikdpclpnaaGreatDoorXN3
import Derived.Test.YtedimikdpclpnaaGreatDoorProg
import Derived.KernelRfl
import Derived.Test.YtedimikdpclpnaaGreatDoorSU0a
import Derived.Test.YtedimikdpclpnaaGreatDoorSU0b
set_option linter.unusedSectionVars false
set_option linter.unusedVariables false
set_option maxRecDepth 1000000
set_option maxHeartbeats 0
namespace Go.Proofs.YtedimikdpclpnaaGreatDoor.su
open Go.X Go.RowKit
variable [Tab]
noncomputable def K_SU1f : Hand := ((H_SU0b).or H_SU0a)
theorem K_SU1f_ok : HandOk Tryz.prog K_SU1f := (HandOk.or H_SU0b_ok H_SU0a_ok)

noncomputable def S6149 : Sum := ⟨(.int .i64 35), 74, []⟩
theorem S6149_ok : SumOk Tryz.prog 352 [(.str 19 2439265639030268300842157990401791553877467498), (.str 7 31081494762582640), (.str 3 5646632)] S6149 := SumOk.of_run (K := K_SU1f) (n := 5000) (keep := []) mixed K_SU1f_ok (by kernel_rfl) (by as_aux_lemma => kernel_rfl)

noncomputable def S6042 : Sum := ⟨(.int .i64 34), 73, []⟩
theorem S6042_ok : SumOk Tryz.prog 352 [(.str 19 2439265639030268300842157990401791553877467498), (.str 7 31081494762582640), (.str 21 125924535314876068507128442038675530910546422025256)] S6042 := SumOk.of_run (K := K_SU1f) (n := 5000) (keep := []) mixed K_SU1f_ok (by kernel_rfl) (by as_aux_lemma => kernel_rfl)

noncomputable def S6007 : Sum := ⟨(.int .i64 33), 72, []⟩
theorem S6007_ok : SumOk Tryz.prog 352 [(.str 19 2439265639030268300842157990401791553877467498), (.str 7 31081494762582640), (.str 4 1445550632)] S6007 := SumOk.of_run (K := K_SU1f) (n := 5000) (keep := []) mixed K_SU1f_ok (by kernel_rfl) (by as_aux_lemma => kernel_rfl)

noncomputable def S5973 : Sum := ⟨(.int .i64 32), 71, []⟩
theorem S5973_ok : SumOk Tryz.prog 352 [(.str 19 2439265639030268300842157990401791553877467498), (.str 7 31081494762582640), (.str 4 1445544744)] S5973 := SumOk.of_run (K := K_SU1f) (n := 5000) (keep := []) mixed K_SU1f_ok (by kernel_rfl) (by as_aux_lemma => kernel_rfl)

noncomputable def S5940 : Sum := ⟨(.int .i64 31), 70, []⟩
theorem S5940_ok : SumOk Tryz.prog 352 [(.str 19 2439265639030268300842157990401791553877467498), (.str 7 31081494762582640), (.str 4 1445546536)] S5940 := SumOk.of_run (K := K_SU1f) (n := 5000) (keep := []) mixed K_SU1f_ok (by kernel_rfl) (by as_aux_lemma => kernel_rfl)

noncomputable def S5908 : Sum := ⟨(.int .i64 30), 69, []⟩
theorem S5908_ok : SumOk Tryz.prog 352 [(.str 19 2439265639030268300842157990401791553877467498), (.str 7 31081494762582640), (.str 4 1445546280)] S5908 := SumOk.of_run (K := K_SU1f) (n := 5000) (keep := []) mixed K_SU1f_ok (by kernel_rfl) (by as_aux_lemma => kernel_rfl)

noncomputable def S5806 : Sum := ⟨(.int .i64 29), 68, []⟩
theorem S5806_ok : SumOk Tryz.prog 352 [(.str 19 2439265639030268300842157990401791553877467498), (.str 7 31081494762582640), (.str 21 125924534186164816246133852188561726513007718714408)] S5806 := SumOk.of_run (K := K_SU1f) (n := 5000) (keep := []) mixed K_SU1f_ok (by kernel_rfl) (by as_aux_lemma => kernel_rfl)

noncomputable def S5723 : Sum := ⟨(.tup [(.so 40 0 1 4), (.agg [(.int .u8 86), (.str 0 0), (.int .i64 0), (.int .u8 0)]), (.bool true)]), 41, [(40, (.cells 4 true [] (T.ofList 0 .leaf [(.int .u8 76), (.str 16 154706541852025644484233205990057992554), (.int .i64 0), (.int .u8 0)])))]⟩
theorem S5723_ok : SumOk Tryz.prog 78 [(.str 21 125924535314876068507128442038675530910546422025256)] S5723 := SumOk.of_run (K := K_SU1f) (n := 5000) (keep := [40]) mixed K_SU1f_ok (by kernel_rfl) (by as_aux_lemma => kernel_rfl)

noncomputable def S5705 : Sum := ⟨(.int .i64 28), 67, []⟩
theorem S5705_ok : SumOk Tryz.prog 352 [(.str 19 2439265639030268300842157990401791553877467498), (.str 5 500068610672), (.str 21 125924535314876068507128442038675530910546422025256)] S5705 := SumOk.of_run (K := K_SU1f) (n := 5000) (keep := []) mixed K_SU1f_ok (by kernel_rfl) (by as_aux_lemma => kernel_rfl)

noncomputable def S5676 : Sum := ⟨(.int .i64 27), 66, []⟩
theorem S5676_ok : SumOk Tryz.prog 352 [(.str 19 2439265639030268300842157990401791553877467498), (.str 5 500068610672), (.str 4 1445550632)] S5676 := SumOk.of_run (K := K_SU1f) (n := 5000) (keep := []) mixed K_SU1f_ok (by kernel_rfl) (by as_aux_lemma => kernel_rfl)

noncomputable def S5648 : Sum := ⟨(.int .i64 26), 65, []⟩
theorem S5648_ok : SumOk Tryz.prog 352 [(.str 19 2439265639030268300842157990401791553877467498), (.str 5 500068610672), (.str 4 1445544744)] S5648 := SumOk.of_run (K := K_SU1f) (n := 5000) (keep := []) mixed K_SU1f_ok (by kernel_rfl) (by as_aux_lemma => kernel_rfl)

noncomputable def S5621 : Sum := ⟨(.int .i64 25), 64, []⟩
theorem S5621_ok : SumOk Tryz.prog 352 [(.str 19 2439265639030268300842157990401791553877467498), (.str 5 500068610672), (.str 4 1445546536)] S5621 := SumOk.of_run (K := K_SU1f) (n := 5000) (keep := []) mixed K_SU1f_ok (by kernel_rfl) (by as_aux_lemma => kernel_rfl)

noncomputable def S5595 : Sum := ⟨(.int .i64 24), 63, []⟩
theorem S5595_ok : SumOk Tryz.prog 352 [(.str 19 2439265639030268300842157990401791553877467498), (.str 5 500068610672), (.str 4 1445546280)] S5595 := SumOk.of_run (K := K_SU1f) (n := 5000) (keep := []) mixed K_SU1f_ok (by kernel_rfl) (by as_aux_lemma => kernel_rfl)

noncomputable def S5499 : Sum := ⟨(.int .i64 23), 62, []⟩
theorem S5499_ok : SumOk Tryz.prog 352 [(.str 19 2439265639030268300842157990401791553877467498), (.str 5 500068610672), (.str 21 125924534186164816246133852188561726513007718714408)] S5499 := SumOk.of_run (K := K_SU1f) (n := 5000) (keep := []) mixed K_SU1f_ok (by kernel_rfl) (by as_aux_lemma => kernel_rfl)

noncomputable def S5398 : Sum := ⟨(.int .i64 21), 39, []⟩
theorem S5398_ok : SumOk Tryz.prog 352 [(.str 23 10956966084090815260342509131105871416374185281426186602), (.str 8 7453010373643562868), (.str 20 339137050467292191589805048747422779071890467112)] S5398 := SumOk.of_run (K := K_SU1f) (n := 5000) (keep := []) mixed K_SU1f_ok (by kernel_rfl) (by as_aux_lemma => kernel_rfl)

noncomputable def S5370 : Sum := ⟨(.int .i64 20), 38, []⟩
theorem S5370_ok : SumOk Tryz.prog 352 [(.str 23 10956966084090815260342509131105871416374185281426186602), (.str 6 114849160783212), (.str 3 4794664)] S5370 := SumOk.of_run (K := K_SU1f) (n := 5000) (keep := []) mixed K_SU1f_ok (by kernel_rfl) (by as_aux_lemma => kernel_rfl)

noncomputable def S5271 : Sum := ⟨(.int .i64 19), 37, []⟩
theorem S5271_ok : SumOk Tryz.prog 352 [(.str 23 10956966084090815260342509131105871416374185281426186602), (.str 6 110425311047777), (.str 28 6260485019439425252614312435813236600861718953314767591699208821288)] S5271 := SumOk.of_run (K := K_SU1f) (n := 5000) (keep := []) mixed K_SU1f_ok (by kernel_rfl) (by as_aux_lemma => kernel_rfl)

noncomputable def S5173 : Sum := ⟨(.int .i64 18), 36, []⟩
theorem S5173_ok : SumOk Tryz.prog 352 [(.str 23 10956966084090815260342509131105871416374185281426186602), (.str 6 110425311047777), (.str 28 6260485019439425252614312435813236600861718953314767591699208815400)] S5173 := SumOk.of_run (K := K_SU1f) (n := 5000) (keep := []) mixed K_SU1f_ok (by kernel_rfl) (by as_aux_lemma => kernel_rfl)

noncomputable def S5076 : Sum := ⟨(.int .i64 17), 35, []⟩
theorem S5076_ok : SumOk Tryz.prog 352 [(.str 23 10956966084090815260342509131105871416374185281426186602), (.str 6 110425311047777), (.str 28 6260485019439425252614312435813236600861718953314767591699208817192)] S5076 := SumOk.of_run (K := K_SU1f) (n := 5000) (keep := []) mixed K_SU1f_ok (by kernel_rfl) (by as_aux_lemma => kernel_rfl)

noncomputable def S4980 : Sum := ⟨(.int .i64 16), 34, []⟩
theorem S4980_ok : SumOk Tryz.prog 352 [(.str 23 10956966084090815260342509131105871416374185281426186602), (.str 6 110425311047777), (.str 28 6260485019439425252614312435813236600861718953314767591699208816936)] S4980 := SumOk.of_run (K := K_SU1f) (n := 5000) (keep := []) mixed K_SU1f_ok (by kernel_rfl) (by as_aux_lemma => kernel_rfl)

noncomputable def S4916 : Sum := ⟨(.bool true), 50, []⟩
theorem S4916_ok : SumOk Tryz.prog 179 [(.str 23 10956966084090815260342509131105871416374185281426186602)] S4916 := SumOk.of_run (K := K_SU1f) (n := 5000) (keep := []) mixed K_SU1f_ok (by kernel_rfl) (by as_aux_lemma => kernel_rfl)

noncomputable def S4814 : Sum := ⟨(.int .i64 15), 33, []⟩
theorem S4814_ok : SumOk Tryz.prog 352 [(.str 23 10956966084090815260342509131105871416374185281426186602), (.str 6 110425311047777), (.str 45 545365161084908818682307871509240926086432362262523517738950247884810123871997999633158636370693479484509224)] S4814 := SumOk.of_run (K := K_SU1f) (n := 5000) (keep := []) mixed K_SU1f_ok (by kernel_rfl) (by as_aux_lemma => kernel_rfl)

noncomputable def S4796 : Sum := ⟨(.int .i64 14), 32, []⟩
theorem S4796_ok : SumOk Tryz.prog 352 [(.str 23 10956966084090815260342509131105871416374185281426186602), (.str 6 68669705972028), (.str 3 5646632)] S4796 := SumOk.of_run (K := K_SU1f) (n := 5000) (keep := []) mixed K_SU1f_ok (by kernel_rfl) (by as_aux_lemma => kernel_rfl)

noncomputable def S4689 : Sum := ⟨(.int .i64 13), 27, []⟩
theorem S4689_ok : SumOk Tryz.prog 352 [(.str 16 137483774941304901841256615957136564586), (.str 7 28797744804815222), (.str 21 86819084919626801046990092479340231442403959593512)] S4689 := SumOk.of_run (K := K_SU1f) (n := 5000) (keep := []) mixed K_SU1f_ok (by kernel_rfl) (by as_aux_lemma => kernel_rfl)

noncomputable def S4584 : Sum := ⟨(.int .i64 12), 26, []⟩
theorem S4584_ok : SumOk Tryz.prog 352 [(.str 16 137483774941304901841256615957136564586), (.str 7 28797744804815222), (.str 21 86819084919626801046990092479340231442403959587624)] S4584 := SumOk.of_run (K := K_SU1f) (n := 5000) (keep := []) mixed K_SU1f_ok (by kernel_rfl) (by as_aux_lemma => kernel_rfl)

noncomputable def S4480 : Sum := ⟨(.int .i64 11), 25, []⟩
theorem S4480_ok : SumOk Tryz.prog 352 [(.str 16 137483774941304901841256615957136564586), (.str 7 28797744804815222), (.str 21 86819084919626801046990092479340231442403959589416)] S4480 := SumOk.of_run (K := K_SU1f) (n := 5000) (keep := []) mixed K_SU1f_ok (by kernel_rfl) (by as_aux_lemma => kernel_rfl)

noncomputable def S4377 : Sum := ⟨(.int .i64 10), 24, []⟩
theorem S4377_ok : SumOk Tryz.prog 352 [(.str 16 137483774941304901841256615957136564586), (.str 7 28797744804815222), (.str 21 86819084919626801046990092479340231442403959589160)] S4377 := SumOk.of_run (K := K_SU1f) (n := 5000) (keep := []) mixed K_SU1f_ok (by kernel_rfl) (by as_aux_lemma => kernel_rfl)

noncomputable def S4280 : Sum := ⟨(.int .i64 9), 23, []⟩
theorem S4280_ok : SumOk Tryz.prog 352 [(.str 16 137483774941304901841256615957136564586), (.str 8 7453010373643562868), (.str 20 339137050467292191589805048747422779071890467112)] S4280 := SumOk.of_run (K := K_SU1f) (n := 5000) (keep := []) mixed K_SU1f_ok (by kernel_rfl) (by as_aux_lemma => kernel_rfl)

noncomputable def S4184 : Sum := ⟨(.int .i64 8), 22, []⟩
theorem S4184_ok : SumOk Tryz.prog 352 [(.str 16 137483774941304901841256615957136564586), (.str 6 121437607456361), (.str 20 339137050467292191589805048747422779071890467112)] S4184 := SumOk.of_run (K := K_SU1f) (n := 5000) (keep := []) mixed K_SU1f_ok (by kernel_rfl) (by as_aux_lemma => kernel_rfl)

noncomputable def S4084 : Sum := ⟨(.int .i64 7), 21, []⟩
theorem S4084_ok : SumOk Tryz.prog 352 [(.str 16 137483774941304901841256615957136564586), (.str 6 126909328748901), (.str 21 131770541864199680179943181369540662989170152197160)] S4084 := SumOk.of_run (K := K_SU1f) (n := 5000) (keep := []) mixed K_SU1f_ok (by kernel_rfl) (by as_aux_lemma => kernel_rfl)

noncomputable def S3914 : Sum := ⟨(.int .i64 6), 20, []⟩
theorem S3914_ok : SumOk Tryz.prog 352 [(.str 16 137483774941304901841256615957136564586), (.str 6 127961628831587), (.str 38 7563008949852303964789352941943798567979605024965410989119580465925847369046121658274434088)] S3914 := SumOk.of_run (K := K_SU1f) (n := 5000) (keep := []) mixed K_SU1f_ok (by kernel_rfl) (by as_aux_lemma => kernel_rfl)

noncomputable def S3887 : Sum := ⟨(.int .i64 5), 19, []⟩
theorem S3887_ok : SumOk Tryz.prog 352 [(.str 16 137483774941304901841256615957136564586), (.str 6 127824440682595), (.str 4 1126779176)] S3887 := SumOk.of_run (K := K_SU1f) (n := 5000) (keep := []) mixed K_SU1f_ok (by kernel_rfl) (by as_aux_lemma => kernel_rfl)

noncomputable def S3691 : Sum := ⟨(.tup [(.so 95 0 5 4), (.agg [(.int .u8 86), (.str 0 0), (.int .i64 0), (.int .u8 0)]), (.bool true)]), 96, [(95, (.cells 20 true [] (T.ofList 0 .leaf [(.int .u8 76), (.str 16 154706541852025644484233205990057992554), (.int .i64 0), (.int .u8 0), (.int .u8 73), (.str 0 0), (.int .i64 0), (.int .u8 0), (.int .u8 76), (.str 16 154706541852025644484233205990057992554), (.int .i64 0), (.int .u8 0), (.int .u8 73), (.str 0 0), (.int .i64 0), (.int .u8 0), (.int .u8 73), (.str 0 0), (.int .i64 0), (.int .u8 0)])))]⟩
theorem S3691_ok : SumOk Tryz.prog 78 [(.str 42 47114077528188198620056812491409661436452214172948092389280225155504520564545130501860034283798416424)] S3691 := SumOk.of_run (K := K_SU1f) (n := 5000) (keep := [95]) mixed K_SU1f_ok (by kernel_rfl) (by as_aux_lemma => kernel_rfl)

noncomputable def S3500 : Sum := ⟨(.int .i64 38), 144, []⟩
theorem S3500_ok : SumOk Tryz.prog 352 [(.str 19 2261816869159440624969593107871851903301607786), (.str 10 478866051492549179499879), (.str 20 339137050467292191589805048747422779071890467112)] S3500 := SumOk.of_run (K := K_SU1f) (n := 5000) (keep := []) mixed K_SU1f_ok (by kernel_rfl) (by as_aux_lemma => kernel_rfl)

noncomputable def S3417 : Sum := ⟨(.tup [(.so 40 0 1 4), (.agg [(.int .u8 86), (.str 0 0), (.int .i64 0), (.int .u8 0)]), (.bool true)]), 41, [(40, (.cells 4 true [] (T.ofList 0 .leaf [(.int .u8 76), (.str 16 137483774941304901841256615957136564586), (.int .i64 0), (.int .u8 0)])))]⟩
theorem S3417_ok : SumOk Tryz.prog 78 [(.str 21 125924534186164816246133852188561726513007718714408)] S3417 := SumOk.of_run (K := K_SU1f) (n := 5000) (keep := [40]) mixed K_SU1f_ok (by kernel_rfl) (by as_aux_lemma => kernel_rfl)

noncomputable def S3321 : Sum := ⟨(.int .i64 37), 143, []⟩
theorem S3321_ok : SumOk Tryz.prog 352 [(.str 19 2261816869159440624969593107871851903301607786), (.str 6 68669705972028), (.str 21 125924534186164816246133852188561726513007718714408)] S3321 := SumOk.of_run (K := K_SU1f) (n := 5000) (keep := []) mixed K_SU1f_ok (by kernel_rfl) (by as_aux_lemma => kernel_rfl)

noncomputable def S3219 : Sum := ⟨(.int .i64 36), 142, []⟩
theorem S3219_ok : SumOk Tryz.prog 352 [(.str 19 2261816869159440624969593107871851903301607786), (.str 6 68669705972028), (.str 3 5646632)] S3219 := SumOk.of_run (K := K_SU1f) (n := 5000) (keep := []) mixed K_SU1f_ok (by kernel_rfl) (by as_aux_lemma => kernel_rfl)

noncomputable def S3144 : Sum := ⟨(.tup [(.agg [(.int .u8 76), (.str 16 137483774941304901841256615957136564586), (.int .i64 0), (.int .u8 0)]), (.int .i64 18)]), 37, []⟩
theorem S3144_ok : SumOk Tryz.prog 114 [(.str 18 5174820716358828607022171764334454026365516)] S3144 := SumOk.of_run (K := K_SU1f) (n := 5000) (keep := []) mixed K_SU1f_ok (by kernel_rfl) (by as_aux_lemma => kernel_rfl)

noncomputable def S3042 : Sum := ⟨(.tup [(.so 40 0 1 4), (.agg [(.int .u8 90), (.str 0 0), (.int .i64 0), (.int .u8 0)]), (.bool true)]), 46, [(40, (.cells 4 true [] (T.ofList 0 .leaf [(.int .u8 76), (.str 16 154706541852025644484233205990057992554), (.int .i64 0), (.int .u8 0)])))]⟩
theorem S3042_ok : SumOk Tryz.prog 78 [(.str 21 131770541864199680179943181369540662989170152197160)] S3042 := SumOk.of_run (K := K_SU1f) (n := 5000) (keep := [40]) mixed K_SU1f_ok (by kernel_rfl) (by as_aux_lemma => kernel_rfl)

noncomputable def tab_SU1f : List (FuncId × SRows) := (114, [([(.str 18 5174820716358828607022171764334454026365516)], S3144)]) :: (179, [([(.str 23 10956966084090815260342509131105871416374185281426186602)], S4916)]) :: (78, [([(.str 21 125924535314876068507128442038675530910546422025256)], S5723), ([(.str 42 47114077528188198620056812491409661436452214172948092389280225155504520564545130501860034283798416424)], S3691), ([(.str 21 125924534186164816246133852188561726513007718714408)], S3417), ([(.str 21 131770541864199680179943181369540662989170152197160)], S3042)]) :: (352, [([(.str 19 2439265639030268300842157990401791553877467498), (.str 7 31081494762582640), (.str 3 5646632)], S6149), ([(.str 19 2439265639030268300842157990401791553877467498), (.str 7 31081494762582640), (.str 21 125924535314876068507128442038675530910546422025256)], S6042), ([(.str 19 2439265639030268300842157990401791553877467498), (.str 7 31081494762582640), (.str 4 1445550632)], S6007), ([(.str 19 2439265639030268300842157990401791553877467498), (.str 7 31081494762582640), (.str 4 1445544744)], S5973), ([(.str 19 2439265639030268300842157990401791553877467498), (.str 7 31081494762582640), (.str 4 1445546536)], S5940), ([(.str 19 2439265639030268300842157990401791553877467498), (.str 7 31081494762582640), (.str 4 1445546280)], S5908), ([(.str 19 2439265639030268300842157990401791553877467498), (.str 7 31081494762582640), (.str 21 125924534186164816246133852188561726513007718714408)], S5806), ([(.str 19 2439265639030268300842157990401791553877467498), (.str 5 500068610672), (.str 21 125924535314876068507128442038675530910546422025256)], S5705), ([(.str 19 2439265639030268300842157990401791553877467498), (.str 5 500068610672), (.str 4 1445550632)], S5676), ([(.str 19 2439265639030268300842157990401791553877467498), (.str 5 500068610672), (.str 4 1445544744)], S5648), ([(.str 19 2439265639030268300842157990401791553877467498), (.str 5 500068610672), (.str 4 1445546536)], S5621), ([(.str 19 2439265639030268300842157990401791553877467498), (.str 5 500068610672), (.str 4 1445546280)], S5595), ([(.str 19 2439265639030268300842157990401791553877467498), (.str 5 500068610672), (.str 21 125924534186164816246133852188561726513007718714408)], S5499), ([(.str 23 10956966084090815260342509131105871416374185281426186602), (.str 8 7453010373643562868), (.str 20 339137050467292191589805048747422779071890467112)], S5398), ([(.str 23 10956966084090815260342509131105871416374185281426186602), (.str 6 114849160783212), (.str 3 4794664)], S5370), ([(.str 23 10956966084090815260342509131105871416374185281426186602), (.str 6 110425311047777), (.str 28 6260485019439425252614312435813236600861718953314767591699208821288)], S5271), ([(.str 23 10956966084090815260342509131105871416374185281426186602), (.str 6 110425311047777), (.str 28 6260485019439425252614312435813236600861718953314767591699208815400)], S5173), ([(.str 23 10956966084090815260342509131105871416374185281426186602), (.str 6 110425311047777), (.str 28 6260485019439425252614312435813236600861718953314767591699208817192)], S5076), ([(.str 23 10956966084090815260342509131105871416374185281426186602), (.str 6 110425311047777), (.str 28 6260485019439425252614312435813236600861718953314767591699208816936)], S4980), ([(.str 23 10956966084090815260342509131105871416374185281426186602), (.str 6 110425311047777), (.str 45 545365161084908818682307871509240926086432362262523517738950247884810123871997999633158636370693479484509224)], S4814), ([(.str 23 10956966084090815260342509131105871416374185281426186602), (.str 6 68669705972028), (.str 3 5646632)], S4796), ([(.str 16 137483774941304901841256615957136564586), (.str 7 28797744804815222), (.str 21 86819084919626801046990092479340231442403959593512)], S4689), ([(.str 16 137483774941304901841256615957136564586), (.str 7 28797744804815222), (.str 21 86819084919626801046990092479340231442403959587624)], S4584), ([(.str 16 137483774941304901841256615957136564586), (.str 7 28797744804815222), (.str 21 86819084919626801046990092479340231442403959589416)], S4480), ([(.str 16 137483774941304901841256615957136564586), (.str 7 28797744804815222), (.str 21 86819084919626801046990092479340231442403959589160)], S4377), ([(.str 16 137483774941304901841256615957136564586), (.str 8 7453010373643562868), (.str 20 339137050467292191589805048747422779071890467112)], S4280), ([(.str 16 137483774941304901841256615957136564586), (.str 6 121437607456361), (.str 20 339137050467292191589805048747422779071890467112)], S4184), ([(.str 16 137483774941304901841256615957136564586), (.str 6 126909328748901), (.str 21 131770541864199680179943181369540662989170152197160)], S4084), ([(.str 16 137483774941304901841256615957136564586), (.str 6 127961628831587), (.str 38 7563008949852303964789352941943798567979605024965410989119580465925847369046121658274434088)], S3914), ([(.str 16 137483774941304901841256615957136564586), (.str 6 127824440682595), (.str 4 1126779176)], S3887), ([(.str 19 2261816869159440624969593107871851903301607786), (.str 10 478866051492549179499879), (.str 20 339137050467292191589805048747422779071890467112)], S3500), ([(.str 19 2261816869159440624969593107871851903301607786), (.str 6 68669705972028), (.str 21 125924534186164816246133852188561726513007718714408)], S3321), ([(.str 19 2261816869159440624969593107871851903301607786), (.str 6 68669705972028), (.str 3 5646632)], S3219)]) :: []
theorem tab_SU1f_ok : TabOk Tryz.prog tab_SU1f := (TabOk.cons (RowsOk.cons S3144_ok RowsOk.nil) (TabOk.cons (RowsOk.cons S4916_ok RowsOk.nil) (TabOk.cons (RowsOk.cons S5723_ok (RowsOk.cons S3691_ok (RowsOk.cons S3417_ok (RowsOk.cons S3042_ok RowsOk.nil)))) (TabOk.cons (RowsOk.cons S6149_ok (RowsOk.cons S6042_ok (RowsOk.cons S6007_ok (RowsOk.cons S5973_ok (RowsOk.cons S5940_ok (RowsOk.cons S5908_ok (RowsOk.cons S5806_ok (RowsOk.cons S5705_ok (RowsOk.cons S5676_ok (RowsOk.cons S5648_ok (RowsOk.cons S5621_ok (RowsOk.cons S5595_ok (RowsOk.cons S5499_ok (RowsOk.cons S5398_ok (RowsOk.cons S5370_ok (RowsOk.cons S5271_ok (RowsOk.cons S5173_ok (RowsOk.cons S5076_ok (RowsOk.cons S4980_ok (RowsOk.cons S4814_ok (RowsOk.cons S4796_ok (RowsOk.cons S4689_ok (RowsOk.cons S4584_ok (RowsOk.cons S4480_ok (RowsOk.cons S4377_ok (RowsOk.cons S4280_ok (RowsOk.cons S4184_ok (RowsOk.cons S4084_ok (RowsOk.cons S3914_ok (RowsOk.cons S3887_ok (RowsOk.cons S3500_ok (RowsOk.cons S3321_ok (RowsOk.cons S3219_ok RowsOk.nil))))))))))))))))))))))))))))))))) TabOk.nil))))
noncomputable def H_SU1f : Hand := (sumsHand tab_SU1f)
theorem H_SU1f_ok : HandOk Tryz.prog H_SU1f := (sumsHand_ok tab_SU1f_ok)
end Go.Proofs.YtedimikdpclpnaaGreatDoor.su
