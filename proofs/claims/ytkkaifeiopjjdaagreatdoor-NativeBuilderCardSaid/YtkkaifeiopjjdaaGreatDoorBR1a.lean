/-
  Contracts of calls, by the kernel.
-/
import Derived.Test.YtkkaifeiopjjdaaGreatDoorXN3
import Derived.Test.YtkkaifeiopjjdaaGreatDoorProg
import Derived.KernelRfl
import Derived.Test.YtkkaifeiopjjdaaGreatDoorBR0a
set_option linter.unusedSectionVars false
set_option linter.unusedVariables false
set_option maxRecDepth 1000000
set_option maxHeartbeats 0
namespace Go.Proofs.YtkkaifeiopjjdaaGreatDoor.br
open Go.X Go.RowKit
variable [Tab]
noncomputable def K_BR1a : Hand := H_BR0a
theorem K_BR1a_ok : HandOk Tryz.prog K_BR1a := H_BR0a_ok

noncomputable def I12475 : In := ⟨26, [(.ptr 9899 0), (.str 16 137483774941304901841256615957136564586)], 13302, [(6644, (.map [] 0)), q0, q1, q3, q2, q4, q5, q6], (.int .i64 1), 13317, [(6644, (.map [] 0)), q0, q1, q3, q2, (9898, (.map [((.str 23 10956966084090815260342509131105871416374185281426186602), (.int .i64 0), 0), ((.str 16 137483774941304901841256615957136564586), (.int .i64 1), 1)] 2)), (9899, (.cells 5 false [] (T.ofList 0 .leaf [(.ptr 6646 0), (.so 13258 0 3 1), (.so 13260 0 1 1), (.so 13316 0 2 3), (.map 9898)]))), (13316, (.cells 6 true [] (T.ofList 0 .leaf [(.str 23 10956966084090815260342509131105871416374185281426186602), (.sl 13250 0 1 1), (.int .u8 0), (.str 16 137483774941304901841256615957136564586), .nils, (.int .u8 67)])))]⟩
theorem I12475_ok : InOk Tryz.prog I12475 := InOk.of_run (K := K_BR1a) (n := 5000) mixed K_BR1a_ok (by kernel_rfl) (by as_aux_lemma => kernel_rfl)

noncomputable def I12463 : In := ⟨53, [(.ptr 6646 0), (.str 23 10956966084090815260342509131105871416374185281426186602), (.str 23 10956966084090815260342509131105871416374185281426186602)], 13295, [(6644, (.map [] 0)), q0, q1, q7], (.bool true), 13302, [(6644, (.map [] 0)), q0, q1, q7]⟩
theorem I12463_ok : InOk Tryz.prog I12463 := InOk.of_run (K := K_BR1a) (n := 5000) mixed K_BR1a_ok (by kernel_rfl) (by as_aux_lemma => kernel_rfl)

noncomputable def I12423 : In := ⟨26, [(.ptr 9899 0), (.str 23 10956966084090815260342509131105871416374185281426186602)], 13242, [(6644, (.map [] 0)), q0, q1, q3, q7, (9898, (.map [] 0)), q8], (.int .i64 0), 13258, [(6644, (.map [] 0)), q0, q1, q3, q7, q4, (9899, (.cells 5 false [] (T.ofList 0 .leaf [(.ptr 6646 0), .nils, .nils, (.so 13257 0 1 3), (.map 9898)]))), (13250, (.cells 1 false [] (T.ofList 0 .leaf [(.int .u8 76)]))), q6]⟩
theorem I12423_ok : InOk Tryz.prog I12423 := InOk.of_run (K := K_BR1a) (n := 5000) mixed K_BR1a_ok (by kernel_rfl) (by as_aux_lemma => kernel_rfl)

noncomputable def I10929 : In := ⟨11, [(.str 16 137483774941304901841256615957136564586), (.str 7 28797744804815222), (.str 21 86819084919626801046990092479340231442403959593512)], 11333, [], (.int .i64 13), 11360, []⟩
theorem I10929_ok : InOk Tryz.prog I10929 := InOk.of_run (K := K_BR1a) (n := 5000) mixed K_BR1a_ok (by kernel_rfl) (by as_aux_lemma => kernel_rfl)

noncomputable def I10824 : In := ⟨11, [(.str 16 137483774941304901841256615957136564586), (.str 7 28797744804815222), (.str 21 86819084919626801046990092479340231442403959587624)], 11258, [], (.int .i64 12), 11284, []⟩
theorem I10824_ok : InOk Tryz.prog I10824 := InOk.of_run (K := K_BR1a) (n := 5000) mixed K_BR1a_ok (by kernel_rfl) (by as_aux_lemma => kernel_rfl)

noncomputable def I10720 : In := ⟨11, [(.str 16 137483774941304901841256615957136564586), (.str 7 28797744804815222), (.str 21 86819084919626801046990092479340231442403959589416)], 11184, [], (.int .i64 11), 11209, []⟩
theorem I10720_ok : InOk Tryz.prog I10720 := InOk.of_run (K := K_BR1a) (n := 5000) mixed K_BR1a_ok (by kernel_rfl) (by as_aux_lemma => kernel_rfl)

noncomputable def I10617 : In := ⟨11, [(.str 16 137483774941304901841256615957136564586), (.str 7 28797744804815222), (.str 21 86819084919626801046990092479340231442403959589160)], 11111, [], (.int .i64 10), 11135, []⟩
theorem I10617_ok : InOk Tryz.prog I10617 := InOk.of_run (K := K_BR1a) (n := 5000) mixed K_BR1a_ok (by kernel_rfl) (by as_aux_lemma => kernel_rfl)

noncomputable def I10520 : In := ⟨11, [(.str 16 137483774941304901841256615957136564586), (.str 8 7453010373643562868), (.str 20 339137050467292191589805048747422779071890467112)], 11043, [], (.int .i64 9), 11066, []⟩
theorem I10520_ok : InOk Tryz.prog I10520 := InOk.of_run (K := K_BR1a) (n := 5000) mixed K_BR1a_ok (by kernel_rfl) (by as_aux_lemma => kernel_rfl)

noncomputable def I10424 : In := ⟨11, [(.str 16 137483774941304901841256615957136564586), (.str 6 121437607456361), (.str 20 339137050467292191589805048747422779071890467112)], 10978, [], (.int .i64 8), 11000, []⟩
theorem I10424_ok : InOk Tryz.prog I10424 := InOk.of_run (K := K_BR1a) (n := 5000) mixed K_BR1a_ok (by kernel_rfl) (by as_aux_lemma => kernel_rfl)

noncomputable def I10324 : In := ⟨11, [(.str 16 137483774941304901841256615957136564586), (.str 6 126909328748901), (.str 21 131770541864199680179943181369540662989170152197160)], 10909, [], (.int .i64 7), 10930, []⟩
theorem I10324_ok : InOk Tryz.prog I10324 := InOk.of_run (K := K_BR1a) (n := 5000) mixed K_BR1a_ok (by kernel_rfl) (by as_aux_lemma => kernel_rfl)

noncomputable def I10154 : In := ⟨11, [(.str 16 137483774941304901841256615957136564586), (.str 6 127961628831587), (.str 38 7563008949852303964789352941943798567979605024965410989119580465925847369046121658274434088)], 10806, [], (.int .i64 6), 10826, []⟩
theorem I10154_ok : InOk Tryz.prog I10154 := InOk.of_run (K := K_BR1a) (n := 5000) mixed K_BR1a_ok (by kernel_rfl) (by as_aux_lemma => kernel_rfl)

noncomputable def I10127 : In := ⟨11, [(.str 16 137483774941304901841256615957136564586), (.str 6 127824440682595), (.str 4 1126779176)], 10774, [], (.int .i64 5), 10793, []⟩
theorem I10127_ok : InOk Tryz.prog I10127 := InOk.of_run (K := K_BR1a) (n := 5000) mixed K_BR1a_ok (by kernel_rfl) (by as_aux_lemma => kernel_rfl)

noncomputable def I10106 : In := ⟨11, [(.str 16 137483774941304901841256615957136564586), (.str 6 114849160783212), (.str 3 4794664)], 10748, [], (.int .i64 4), 10766, []⟩
theorem I10106_ok : InOk Tryz.prog I10106 := InOk.of_run (K := K_BR1a) (n := 5000) mixed K_BR1a_ok (by kernel_rfl) (by as_aux_lemma => kernel_rfl)

noncomputable def I9919 : In := ⟨11, [(.str 16 145412635431568811361768410208787652970), (.str 9 2240157836546495640161), (.str 42 47114077528188198620056812491409661436452214172948092389280225155504520564545130501860034283798416424)], 10617, [], (.int .i64 22), 10650, []⟩
theorem I9919_ok : InOk Tryz.prog I9919 := InOk.of_run (K := K_BR1a) (n := 5000) mixed K_BR1a_ok (by kernel_rfl) (by as_aux_lemma => kernel_rfl)

noncomputable def I6226 : In := ⟨53, [(.ptr 2 0), (.str 16 137483774941304901841256615957136564586), (.str 16 137483774941304901841256615957136564586)], 6637, [(0, (.map [] 0)), q9, q10, q11], (.bool true), 6644, [(0, (.map [] 0)), q9, q10, q11]⟩
theorem I6226_ok : InOk Tryz.prog I6226 := InOk.of_run (K := K_BR1a) (n := 5000) mixed K_BR1a_ok (by kernel_rfl) (by as_aux_lemma => kernel_rfl)

noncomputable def I6209 : In := ⟨11, [(.str 16 137483774941304901841256615957136564586), (.str 6 114849160783212), (.str 3 4794664)], 6617, [], (.int .i64 4), 6635, []⟩
theorem I6209_ok : InOk Tryz.prog I6209 := InOk.of_run (K := K_BR1a) (n := 5000) mixed K_BR1a_ok (by kernel_rfl) (by as_aux_lemma => kernel_rfl)

noncomputable def I6177 : In := ⟨26, [(.ptr 3255 0), (.str 16 137483774941304901841256615957136564586)], 6599, [(0, (.map [] 0)), q9, q10, q12, q11, (3254, (.map [] 0)), q13], (.int .i64 0), 6614, [(0, (.map [] 0)), q9, q10, q12, q11, (3255, (.cells 5 false [] (T.ofList 0 .leaf [(.ptr 2 0), .nils, .nils, (.so 6613 0 1 3), (.map 3254)]))), (6613, (.cells 3 true [] (T.ofList 0 .leaf [(.str 16 137483774941304901841256615957136564586), .nils, (.int .u8 67)])))]⟩
theorem I6177_ok : InOk Tryz.prog I6177 := InOk.of_run (K := K_BR1a) (n := 5000) mixed K_BR1a_ok (by kernel_rfl) (by as_aux_lemma => kernel_rfl)

noncomputable def S4905 : Sum := ⟨(.tup [(.agg [(.int .u8 76), (.str 23 10956966084090815260342509131105871416374185281426186602), (.int .i64 0), (.int .u8 0)]), (.int .i64 25)]), 52, []⟩
theorem S4905_ok : SumOk Tryz.prog 89 [(.str 25 373153985705341413772959258306815421632630762655423140031052)] S4905 := SumOk.of_run (K := K_BR1a) (n := 5000) (keep := []) mixed K_BR1a_ok (by kernel_rfl) (by as_aux_lemma => kernel_rfl)

noncomputable def I4685 : In := ⟨11, [(.str 16 137483774941304901841256615957136564586), (.str 7 28797744804815222), (.str 21 86819084919626801046990092479340231442403959593512)], 4689, [], (.int .i64 13), 4716, []⟩
theorem I4685_ok : InOk Tryz.prog I4685 := InOk.of_run (K := K_BR1a) (n := 5000) mixed K_BR1a_ok (by kernel_rfl) (by as_aux_lemma => kernel_rfl)

noncomputable def I4580 : In := ⟨11, [(.str 16 137483774941304901841256615957136564586), (.str 7 28797744804815222), (.str 21 86819084919626801046990092479340231442403959587624)], 4614, [], (.int .i64 12), 4640, []⟩
theorem I4580_ok : InOk Tryz.prog I4580 := InOk.of_run (K := K_BR1a) (n := 5000) mixed K_BR1a_ok (by kernel_rfl) (by as_aux_lemma => kernel_rfl)

noncomputable def I4476 : In := ⟨11, [(.str 16 137483774941304901841256615957136564586), (.str 7 28797744804815222), (.str 21 86819084919626801046990092479340231442403959589416)], 4540, [], (.int .i64 11), 4565, []⟩
theorem I4476_ok : InOk Tryz.prog I4476 := InOk.of_run (K := K_BR1a) (n := 5000) mixed K_BR1a_ok (by kernel_rfl) (by as_aux_lemma => kernel_rfl)

noncomputable def I4373 : In := ⟨11, [(.str 16 137483774941304901841256615957136564586), (.str 7 28797744804815222), (.str 21 86819084919626801046990092479340231442403959589160)], 4467, [], (.int .i64 10), 4491, []⟩
theorem I4373_ok : InOk Tryz.prog I4373 := InOk.of_run (K := K_BR1a) (n := 5000) mixed K_BR1a_ok (by kernel_rfl) (by as_aux_lemma => kernel_rfl)

noncomputable def I4276 : In := ⟨11, [(.str 16 137483774941304901841256615957136564586), (.str 8 7453010373643562868), (.str 20 339137050467292191589805048747422779071890467112)], 4399, [], (.int .i64 9), 4422, []⟩
theorem I4276_ok : InOk Tryz.prog I4276 := InOk.of_run (K := K_BR1a) (n := 5000) mixed K_BR1a_ok (by kernel_rfl) (by as_aux_lemma => kernel_rfl)

noncomputable def I4180 : In := ⟨11, [(.str 16 137483774941304901841256615957136564586), (.str 6 121437607456361), (.str 20 339137050467292191589805048747422779071890467112)], 4334, [], (.int .i64 8), 4356, []⟩
theorem I4180_ok : InOk Tryz.prog I4180 := InOk.of_run (K := K_BR1a) (n := 5000) mixed K_BR1a_ok (by kernel_rfl) (by as_aux_lemma => kernel_rfl)

noncomputable def I4080 : In := ⟨11, [(.str 16 137483774941304901841256615957136564586), (.str 6 126909328748901), (.str 21 131770541864199680179943181369540662989170152197160)], 4265, [], (.int .i64 7), 4286, []⟩
theorem I4080_ok : InOk Tryz.prog I4080 := InOk.of_run (K := K_BR1a) (n := 5000) mixed K_BR1a_ok (by kernel_rfl) (by as_aux_lemma => kernel_rfl)

noncomputable def I3910 : In := ⟨11, [(.str 16 137483774941304901841256615957136564586), (.str 6 127961628831587), (.str 38 7563008949852303964789352941943798567979605024965410989119580465925847369046121658274434088)], 4162, [], (.int .i64 6), 4182, []⟩
theorem I3910_ok : InOk Tryz.prog I3910 := InOk.of_run (K := K_BR1a) (n := 5000) mixed K_BR1a_ok (by kernel_rfl) (by as_aux_lemma => kernel_rfl)

noncomputable def I3883 : In := ⟨11, [(.str 16 137483774941304901841256615957136564586), (.str 6 127824440682595), (.str 4 1126779176)], 4130, [], (.int .i64 5), 4149, []⟩
theorem I3883_ok : InOk Tryz.prog I3883 := InOk.of_run (K := K_BR1a) (n := 5000) mixed K_BR1a_ok (by kernel_rfl) (by as_aux_lemma => kernel_rfl)

noncomputable def I3862 : In := ⟨11, [(.str 16 137483774941304901841256615957136564586), (.str 6 114849160783212), (.str 3 4794664)], 4104, [], (.int .i64 4), 4122, []⟩
theorem I3862_ok : InOk Tryz.prog I3862 := InOk.of_run (K := K_BR1a) (n := 5000) mixed K_BR1a_ok (by kernel_rfl) (by as_aux_lemma => kernel_rfl)

noncomputable def I3675 : In := ⟨11, [(.str 16 145412635431568811361768410208787652970), (.str 9 2240157836546495640161), (.str 42 47114077528188198620056812491409661436452214172948092389280225155504520564545130501860034283798416424)], 3973, [], (.int .i64 22), 4006, []⟩
theorem I3675_ok : InOk Tryz.prog I3675 := InOk.of_run (K := K_BR1a) (n := 5000) mixed K_BR1a_ok (by kernel_rfl) (by as_aux_lemma => kernel_rfl)

noncomputable def S3147 : Sum := ⟨(.bool true), 35, []⟩
theorem S3147_ok : SumOk Tryz.prog 120 [(.str 16 137483774941304901841256615957136564586)] S3147 := SumOk.of_run (K := K_BR1a) (n := 5000) (keep := []) mixed K_BR1a_ok (by kernel_rfl) (by as_aux_lemma => kernel_rfl)

noncomputable def S3051 : Sum := ⟨(.bool true), 35, []⟩
theorem S3051_ok : SumOk Tryz.prog 120 [(.str 16 154706541852025644484233205990057992554)] S3051 := SumOk.of_run (K := K_BR1a) (n := 5000) (keep := []) mixed K_BR1a_ok (by kernel_rfl) (by as_aux_lemma => kernel_rfl)

noncomputable def S2744 : Sum := ⟨(.tup [(.str 16 154706541852025644484233205990057992554), (.so 80 0 3 3), (.bool true)]), 81, [(80, (.cells 9 true [] (T.ofList 0 .leaf [(.str 6 68669705972028), (.str 3 5646632), (.bool false), (.str 6 68669705972028), (.str 21 125924534186164816246133852188561726513007718714408), (.bool false), (.str 10 478866051492549179499879), (.str 20 339137050467292191589805048747422779071890467112), (.bool false)])))]⟩
theorem S2744_ok : SumOk Tryz.prog 30 [(.str 19 2261816869159440624969593107871851903301607786)] S2744 := SumOk.of_run (K := K_BR1a) (n := 5000) (keep := [80]) mixed K_BR1a_ok (by kernel_rfl) (by as_aux_lemma => kernel_rfl)

noncomputable def S2636 : Sum := ⟨(.tup [(.str 16 154706541852025644484233205990057992554), (.so 14 0 8 3), (.bool true)]), 15, [(14, (.cells 24 true [] (T.ofList 0 .leaf [(.str 6 68669705972028), (.str 3 5646632), (.bool false), (.str 6 110425311047777), (.str 45 545365161084908818682307871509240926086432362262523517738950247884810123871997999633158636370693479484509224), (.bool false), (.str 6 110425311047777), (.str 28 6260485019439425252614312435813236600861718953314767591699208816936), (.bool false), (.str 6 110425311047777), (.str 28 6260485019439425252614312435813236600861718953314767591699208817192), (.bool false), (.str 6 110425311047777), (.str 28 6260485019439425252614312435813236600861718953314767591699208815400), (.bool false), (.str 6 110425311047777), (.str 28 6260485019439425252614312435813236600861718953314767591699208821288), (.bool false), (.str 6 114849160783212), (.str 3 4794664), (.bool false), (.str 8 7453010373643562868), (.str 20 339137050467292191589805048747422779071890467112), (.bool false)])))]⟩
theorem S2636_ok : SumOk Tryz.prog 30 [(.str 23 10956966084090815260342509131105871416374185281426186602)] S2636 := SumOk.of_run (K := K_BR1a) (n := 5000) (keep := [14]) mixed K_BR1a_ok (by kernel_rfl) (by as_aux_lemma => kernel_rfl)

noncomputable def S455 : Sum := ⟨(.tup [(.str 16 154706541852025644484233205990057992554), (.so 29 0 13 3), (.bool true)]), 30, [(29, (.cells 39 true [] (T.ofList 0 .leaf [(.str 5 500068610672), (.str 21 125924534186164816246133852188561726513007718714408), (.bool false), (.str 5 500068610672), (.str 4 1445546280), (.bool false), (.str 5 500068610672), (.str 4 1445546536), (.bool false), (.str 5 500068610672), (.str 4 1445544744), (.bool false), (.str 5 500068610672), (.str 4 1445550632), (.bool false), (.str 5 500068610672), (.str 21 125924535314876068507128442038675530910546422025256), (.bool false), (.str 7 31081494762582640), (.str 21 125924534186164816246133852188561726513007718714408), (.bool false), (.str 7 31081494762582640), (.str 4 1445546280), (.bool false), (.str 7 31081494762582640), (.str 4 1445546536), (.bool false), (.str 7 31081494762582640), (.str 4 1445544744), (.bool false), (.str 7 31081494762582640), (.str 4 1445550632), (.bool false), (.str 7 31081494762582640), (.str 21 125924535314876068507128442038675530910546422025256), (.bool false), (.str 7 31081494762582640), (.str 3 5646632), (.bool false)])))]⟩
theorem S455_ok : SumOk Tryz.prog 30 [(.str 19 2439265639030268300842157990401791553877467498)] S455 := SumOk.of_run (K := K_BR1a) (n := 5000) (keep := [29]) mixed K_BR1a_ok (by kernel_rfl) (by as_aux_lemma => kernel_rfl)

noncomputable def tab_BR1a : List (FuncId × SRows) := (30, [([(.str 19 2261816869159440624969593107871851903301607786)], S2744), ([(.str 23 10956966084090815260342509131105871416374185281426186602)], S2636), ([(.str 19 2439265639030268300842157990401791553877467498)], S455)]) :: (120, [([(.str 16 137483774941304901841256615957136564586)], S3147), ([(.str 16 154706541852025644484233205990057992554)], S3051)]) :: (89, [([(.str 25 373153985705341413772959258306815421632630762655423140031052)], S4905)]) :: []
theorem tab_BR1a_ok : TabOk Tryz.prog tab_BR1a := (TabOk.cons (RowsOk.cons S2744_ok (RowsOk.cons S2636_ok (RowsOk.cons S455_ok RowsOk.nil))) (TabOk.cons (RowsOk.cons S3147_ok (RowsOk.cons S3051_ok RowsOk.nil)) (TabOk.cons (RowsOk.cons S4905_ok RowsOk.nil) TabOk.nil)))
noncomputable def H_BR1a : Hand := (((Hand.at 11 (Hand.sp 6617 (Hand.sp 4334 (Hand.sp 4130 ((inHand I3862).or (inHand I3675)) (Hand.sp 4162 (inHand I3883) ((inHand I4080).or (inHand I3910)))) (Hand.sp 4540 (Hand.sp 4399 (inHand I4180) ((inHand I4373).or (inHand I4276))) (Hand.sp 4614 (inHand I4476) ((inHand I4685).or (inHand I4580))))) (Hand.sp 10978 (Hand.sp 10774 (Hand.sp 10617 (inHand I6209) ((inHand I10106).or (inHand I9919))) (Hand.sp 10806 (inHand I10127) ((inHand I10324).or (inHand I10154)))) (Hand.sp 11184 (Hand.sp 11043 (inHand I10424) ((inHand I10617).or (inHand I10520))) (Hand.sp 11258 (inHand I10720) ((inHand I10929).or (inHand I10824))))))).or ((Hand.at 53 ((inHand I6226).or (inHand I12463))).or (Hand.at 26 (Hand.sp 13242 (inHand I6177) ((inHand I12475).or (inHand I12423)))))).or (sumsHand tab_BR1a))
theorem H_BR1a_ok : HandOk Tryz.prog H_BR1a := (HandOk.or (HandOk.or (HandOk.at 11 (HandOk.sp 6617 (HandOk.sp 4334 (HandOk.sp 4130 (HandOk.or (inHand_ok I3862_ok (by kernel_rfl)) (inHand_ok I3675_ok (by kernel_rfl))) (HandOk.sp 4162 (inHand_ok I3883_ok (by kernel_rfl)) (HandOk.or (inHand_ok I4080_ok (by kernel_rfl)) (inHand_ok I3910_ok (by kernel_rfl))))) (HandOk.sp 4540 (HandOk.sp 4399 (inHand_ok I4180_ok (by kernel_rfl)) (HandOk.or (inHand_ok I4373_ok (by kernel_rfl)) (inHand_ok I4276_ok (by kernel_rfl)))) (HandOk.sp 4614 (inHand_ok I4476_ok (by kernel_rfl)) (HandOk.or (inHand_ok I4685_ok (by kernel_rfl)) (inHand_ok I4580_ok (by kernel_rfl)))))) (HandOk.sp 10978 (HandOk.sp 10774 (HandOk.sp 10617 (inHand_ok I6209_ok (by kernel_rfl)) (HandOk.or (inHand_ok I10106_ok (by kernel_rfl)) (inHand_ok I9919_ok (by kernel_rfl)))) (HandOk.sp 10806 (inHand_ok I10127_ok (by kernel_rfl)) (HandOk.or (inHand_ok I10324_ok (by kernel_rfl)) (inHand_ok I10154_ok (by kernel_rfl))))) (HandOk.sp 11184 (HandOk.sp 11043 (inHand_ok I10424_ok (by kernel_rfl)) (HandOk.or (inHand_ok I10617_ok (by kernel_rfl)) (inHand_ok I10520_ok (by kernel_rfl)))) (HandOk.sp 11258 (inHand_ok I10720_ok (by kernel_rfl)) (HandOk.or (inHand_ok I10929_ok (by kernel_rfl)) (inHand_ok I10824_ok (by kernel_rfl)))))))) (HandOk.or (HandOk.at 53 (HandOk.or (inHand_ok I6226_ok (by kernel_rfl)) (inHand_ok I12463_ok (by kernel_rfl)))) (HandOk.at 26 (HandOk.sp 13242 (inHand_ok I6177_ok (by kernel_rfl)) (HandOk.or (inHand_ok I12475_ok (by kernel_rfl)) (inHand_ok I12423_ok (by kernel_rfl))))))) (sumsHand_ok tab_BR1a_ok))
end Go.Proofs.YtkkaifeiopjjdaaGreatDoor.br
