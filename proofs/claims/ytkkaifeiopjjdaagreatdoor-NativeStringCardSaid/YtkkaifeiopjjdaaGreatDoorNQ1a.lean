/-
  Contracts of calls, by the kernel.
-/
import Derived.Test.YtkkaifeiopjjdaaGreatDoorXN3
import Derived.Test.YtkkaifeiopjjdaaGreatDoorProg
import Derived.KernelRfl
import Derived.Test.YtkkaifeiopjjdaaGreatDoorNQ0a
set_option linter.unusedSectionVars false
set_option linter.unusedVariables false
set_option maxRecDepth 1000000
set_option maxHeartbeats 0
namespace Go.Proofs.YtkkaifeiopjjdaaGreatDoor.nq
open Go.X Go.RowKit
variable [Tab]
noncomputable def K_NQ1a : Hand := H_NQ0a
theorem K_NQ1a_ok : HandOk Tryz.prog K_NQ1a := H_NQ0a_ok

noncomputable def I13021 : In := ⟨53, [(.ptr 6646 0), (.str 16 137483774941304901841256615957136564586), (.str 16 137483774941304901841256615957136564586)], 13811, [(6644, (.map [] 0)), q0, q1, q2], (.bool true), 13818, [(6644, (.map [] 0)), q0, q1, q2]⟩
theorem I13021_ok : InOk Tryz.prog I13021 := InOk.of_run (K := K_NQ1a) (n := 5000) mixed K_NQ1a_ok (by kernel_rfl) (by as_aux_lemma => kernel_rfl)

noncomputable def I12954 : In := ⟨53, [(.ptr 6646 0), (.str 16 137483774941304901841256615957136564586), (.str 16 137483774941304901841256615957136564586)], 13690, [(6644, (.map [] 0)), q0, q1, q2], (.bool true), 13697, [(6644, (.map [] 0)), q0, q1, q2]⟩
theorem I12954_ok : InOk Tryz.prog I12954 := InOk.of_run (K := K_NQ1a) (n := 5000) mixed K_NQ1a_ok (by kernel_rfl) (by as_aux_lemma => kernel_rfl)

noncomputable def I12881 : In := ⟨53, [(.ptr 6646 0), (.str 16 137483774941304901841256615957136564586), (.str 16 137483774941304901841256615957136564586)], 13567, [(6644, (.map [] 0)), q0, q1, q2], (.bool true), 13574, [(6644, (.map [] 0)), q0, q1, q2]⟩
theorem I12881_ok : InOk Tryz.prog I12881 := InOk.of_run (K := K_NQ1a) (n := 5000) mixed K_NQ1a_ok (by kernel_rfl) (by as_aux_lemma => kernel_rfl)

noncomputable def I12793 : In := ⟨53, [(.ptr 6646 0), (.str 16 137483774941304901841256615957136564586), (.str 16 137483774941304901841256615957136564586)], 13516, [(6644, (.map [] 0)), q0, q1, q2], (.bool true), 13523, [(6644, (.map [] 0)), q0, q1, q2]⟩
theorem I12793_ok : InOk Tryz.prog I12793 := InOk.of_run (K := K_NQ1a) (n := 5000) mixed K_NQ1a_ok (by kernel_rfl) (by as_aux_lemma => kernel_rfl)

noncomputable def I12775 : In := ⟨53, [(.ptr 6646 0), (.str 16 137483774941304901841256615957136564586), (.str 16 137483774941304901841256615957136564586)], 13509, [(6644, (.map [] 0)), q0, q1, q2], (.bool true), 13516, [(6644, (.map [] 0)), q0, q1, q2]⟩
theorem I12775_ok : InOk Tryz.prog I12775 := InOk.of_run (K := K_NQ1a) (n := 5000) mixed K_NQ1a_ok (by kernel_rfl) (by as_aux_lemma => kernel_rfl)

noncomputable def I12634 : In := ⟨53, [(.ptr 6646 0), (.str 16 137483774941304901841256615957136564586), (.str 16 137483774941304901841256615957136564586)], 13416, [(6644, (.map [] 0)), q0, q1, q2], (.bool true), 13423, [(6644, (.map [] 0)), q0, q1, q2]⟩
theorem I12634_ok : InOk Tryz.prog I12634 := InOk.of_run (K := K_NQ1a) (n := 5000) mixed K_NQ1a_ok (by kernel_rfl) (by as_aux_lemma => kernel_rfl)

noncomputable def I12616 : In := ⟨53, [(.ptr 6646 0), (.str 16 137483774941304901841256615957136564586), (.str 16 137483774941304901841256615957136564586)], 13409, [(6644, (.map [] 0)), q0, q1, q2], (.bool true), 13416, [(6644, (.map [] 0)), q0, q1, q2]⟩
theorem I12616_ok : InOk Tryz.prog I12616 := InOk.of_run (K := K_NQ1a) (n := 5000) mixed K_NQ1a_ok (by kernel_rfl) (by as_aux_lemma => kernel_rfl)

noncomputable def I12556 : In := ⟨53, [(.ptr 6646 0), (.str 16 137483774941304901841256615957136564586), (.str 16 137483774941304901841256615957136564586)], 13370, [(6644, (.map [] 0)), q0, q1, q2], (.bool true), 13377, [(6644, (.map [] 0)), q0, q1, q2]⟩
theorem I12556_ok : InOk Tryz.prog I12556 := InOk.of_run (K := K_NQ1a) (n := 5000) mixed K_NQ1a_ok (by kernel_rfl) (by as_aux_lemma => kernel_rfl)

noncomputable def I12519 : In := ⟨53, [(.ptr 6646 0), (.str 16 137483774941304901841256615957136564586), (.str 16 137483774941304901841256615957136564586)], 13342, [(6644, (.map [] 0)), q0, q1, q2], (.bool true), 13349, [(6644, (.map [] 0)), q0, q1, q2]⟩
theorem I12519_ok : InOk Tryz.prog I12519 := InOk.of_run (K := K_NQ1a) (n := 5000) mixed K_NQ1a_ok (by kernel_rfl) (by as_aux_lemma => kernel_rfl)

noncomputable def I12423 : In := ⟨26, [(.ptr 9899 0), (.str 16 137483774941304901841256615957136564586)], 13242, [(6644, (.map [] 0)), q0, q1, q6, q2, (9898, (.map [] 0)), q7], (.int .i64 0), 13257, [(6644, (.map [] 0)), q0, q1, q6, q2, q3, (9899, (.cells 5 false [] (T.ofList 0 .leaf [(.ptr 6646 0), .nils, .nils, (.so 13256 0 1 3), (.map 9898)]))), (13256, (.cells 3 true [] (T.ofList 0 .leaf [(.str 16 137483774941304901841256615957136564586), .nils, (.int .u8 67)])))]⟩
theorem I12423_ok : InOk Tryz.prog I12423 := InOk.of_run (K := K_NQ1a) (n := 5000) mixed K_NQ1a_ok (by kernel_rfl) (by as_aux_lemma => kernel_rfl)

noncomputable def I6226 : In := ⟨53, [(.ptr 2 0), (.str 16 137483774941304901841256615957136564586), (.str 16 137483774941304901841256615957136564586)], 6637, [(0, (.map [] 0)), q8, q9, q10], (.bool true), 6644, [(0, (.map [] 0)), q8, q9, q10]⟩
theorem I6226_ok : InOk Tryz.prog I6226 := InOk.of_run (K := K_NQ1a) (n := 5000) mixed K_NQ1a_ok (by kernel_rfl) (by as_aux_lemma => kernel_rfl)

noncomputable def I6177 : In := ⟨26, [(.ptr 3255 0), (.str 16 137483774941304901841256615957136564586)], 6599, [(0, (.map [] 0)), q8, q9, q11, q10, (3254, (.map [] 0)), q12], (.int .i64 0), 6614, [(0, (.map [] 0)), q8, q9, q11, q10, (3255, (.cells 5 false [] (T.ofList 0 .leaf [(.ptr 2 0), .nils, .nils, (.so 6613 0 1 3), (.map 3254)]))), (6613, (.cells 3 true [] (T.ofList 0 .leaf [(.str 16 137483774941304901841256615957136564586), .nils, (.int .u8 67)])))]⟩
theorem I6177_ok : InOk Tryz.prog I6177 := InOk.of_run (K := K_NQ1a) (n := 5000) mixed K_NQ1a_ok (by kernel_rfl) (by as_aux_lemma => kernel_rfl)

noncomputable def S4905 : Sum := ⟨(.tup [(.agg [(.int .u8 76), (.str 23 10956966084090815260342509131105871416374185281426186602), (.int .i64 0), (.int .u8 0)]), (.int .i64 25)]), 52, []⟩
theorem S4905_ok : SumOk Tryz.prog 89 [(.str 25 373153985705341413772959258306815421632630762655423140031052)] S4905 := SumOk.of_run (K := K_NQ1a) (n := 5000) (keep := []) mixed K_NQ1a_ok (by kernel_rfl) (by as_aux_lemma => kernel_rfl)

noncomputable def S4685 : Sum := ⟨(.int .i64 13), 27, []⟩
theorem S4685_ok : SumOk Tryz.prog 11 [(.str 16 137483774941304901841256615957136564586), (.str 7 28797744804815222), (.str 21 86819084919626801046990092479340231442403959593512)] S4685 := SumOk.of_run (K := K_NQ1a) (n := 5000) (keep := []) mixed K_NQ1a_ok (by kernel_rfl) (by as_aux_lemma => kernel_rfl)

noncomputable def S4580 : Sum := ⟨(.int .i64 12), 26, []⟩
theorem S4580_ok : SumOk Tryz.prog 11 [(.str 16 137483774941304901841256615957136564586), (.str 7 28797744804815222), (.str 21 86819084919626801046990092479340231442403959587624)] S4580 := SumOk.of_run (K := K_NQ1a) (n := 5000) (keep := []) mixed K_NQ1a_ok (by kernel_rfl) (by as_aux_lemma => kernel_rfl)

noncomputable def S4476 : Sum := ⟨(.int .i64 11), 25, []⟩
theorem S4476_ok : SumOk Tryz.prog 11 [(.str 16 137483774941304901841256615957136564586), (.str 7 28797744804815222), (.str 21 86819084919626801046990092479340231442403959589416)] S4476 := SumOk.of_run (K := K_NQ1a) (n := 5000) (keep := []) mixed K_NQ1a_ok (by kernel_rfl) (by as_aux_lemma => kernel_rfl)

noncomputable def S4373 : Sum := ⟨(.int .i64 10), 24, []⟩
theorem S4373_ok : SumOk Tryz.prog 11 [(.str 16 137483774941304901841256615957136564586), (.str 7 28797744804815222), (.str 21 86819084919626801046990092479340231442403959589160)] S4373 := SumOk.of_run (K := K_NQ1a) (n := 5000) (keep := []) mixed K_NQ1a_ok (by kernel_rfl) (by as_aux_lemma => kernel_rfl)

noncomputable def S4276 : Sum := ⟨(.int .i64 9), 23, []⟩
theorem S4276_ok : SumOk Tryz.prog 11 [(.str 16 137483774941304901841256615957136564586), (.str 8 7453010373643562868), (.str 20 339137050467292191589805048747422779071890467112)] S4276 := SumOk.of_run (K := K_NQ1a) (n := 5000) (keep := []) mixed K_NQ1a_ok (by kernel_rfl) (by as_aux_lemma => kernel_rfl)

noncomputable def S4180 : Sum := ⟨(.int .i64 8), 22, []⟩
theorem S4180_ok : SumOk Tryz.prog 11 [(.str 16 137483774941304901841256615957136564586), (.str 6 121437607456361), (.str 20 339137050467292191589805048747422779071890467112)] S4180 := SumOk.of_run (K := K_NQ1a) (n := 5000) (keep := []) mixed K_NQ1a_ok (by kernel_rfl) (by as_aux_lemma => kernel_rfl)

noncomputable def S4080 : Sum := ⟨(.int .i64 7), 21, []⟩
theorem S4080_ok : SumOk Tryz.prog 11 [(.str 16 137483774941304901841256615957136564586), (.str 6 126909328748901), (.str 21 131770541864199680179943181369540662989170152197160)] S4080 := SumOk.of_run (K := K_NQ1a) (n := 5000) (keep := []) mixed K_NQ1a_ok (by kernel_rfl) (by as_aux_lemma => kernel_rfl)

noncomputable def S3910 : Sum := ⟨(.int .i64 6), 20, []⟩
theorem S3910_ok : SumOk Tryz.prog 11 [(.str 16 137483774941304901841256615957136564586), (.str 6 127961628831587), (.str 38 7563008949852303964789352941943798567979605024965410989119580465925847369046121658274434088)] S3910 := SumOk.of_run (K := K_NQ1a) (n := 5000) (keep := []) mixed K_NQ1a_ok (by kernel_rfl) (by as_aux_lemma => kernel_rfl)

noncomputable def S3883 : Sum := ⟨(.int .i64 5), 19, []⟩
theorem S3883_ok : SumOk Tryz.prog 11 [(.str 16 137483774941304901841256615957136564586), (.str 6 127824440682595), (.str 4 1126779176)] S3883 := SumOk.of_run (K := K_NQ1a) (n := 5000) (keep := []) mixed K_NQ1a_ok (by kernel_rfl) (by as_aux_lemma => kernel_rfl)

noncomputable def S3862 : Sum := ⟨(.int .i64 4), 18, []⟩
theorem S3862_ok : SumOk Tryz.prog 11 [(.str 16 137483774941304901841256615957136564586), (.str 6 114849160783212), (.str 3 4794664)] S3862 := SumOk.of_run (K := K_NQ1a) (n := 5000) (keep := []) mixed K_NQ1a_ok (by kernel_rfl) (by as_aux_lemma => kernel_rfl)

noncomputable def S3675 : Sum := ⟨(.int .i64 22), 33, []⟩
theorem S3675_ok : SumOk Tryz.prog 11 [(.str 16 145412635431568811361768410208787652970), (.str 9 2240157836546495640161), (.str 42 47114077528188198620056812491409661436452214172948092389280225155504520564545130501860034283798416424)] S3675 := SumOk.of_run (K := K_NQ1a) (n := 5000) (keep := []) mixed K_NQ1a_ok (by kernel_rfl) (by as_aux_lemma => kernel_rfl)

noncomputable def S3147 : Sum := ⟨(.bool true), 35, []⟩
theorem S3147_ok : SumOk Tryz.prog 120 [(.str 16 137483774941304901841256615957136564586)] S3147 := SumOk.of_run (K := K_NQ1a) (n := 5000) (keep := []) mixed K_NQ1a_ok (by kernel_rfl) (by as_aux_lemma => kernel_rfl)

noncomputable def S3051 : Sum := ⟨(.bool true), 35, []⟩
theorem S3051_ok : SumOk Tryz.prog 120 [(.str 16 154706541852025644484233205990057992554)] S3051 := SumOk.of_run (K := K_NQ1a) (n := 5000) (keep := []) mixed K_NQ1a_ok (by kernel_rfl) (by as_aux_lemma => kernel_rfl)

noncomputable def S2744 : Sum := ⟨(.tup [(.str 16 154706541852025644484233205990057992554), (.so 80 0 3 3), (.bool true)]), 81, [(80, (.cells 9 true [] (T.ofList 0 .leaf [(.str 6 68669705972028), (.str 3 5646632), (.bool false), (.str 6 68669705972028), (.str 21 125924534186164816246133852188561726513007718714408), (.bool false), (.str 10 478866051492549179499879), (.str 20 339137050467292191589805048747422779071890467112), (.bool false)])))]⟩
theorem S2744_ok : SumOk Tryz.prog 30 [(.str 19 2261816869159440624969593107871851903301607786)] S2744 := SumOk.of_run (K := K_NQ1a) (n := 5000) (keep := [80]) mixed K_NQ1a_ok (by kernel_rfl) (by as_aux_lemma => kernel_rfl)

noncomputable def S2636 : Sum := ⟨(.tup [(.str 16 154706541852025644484233205990057992554), (.so 14 0 8 3), (.bool true)]), 15, [(14, (.cells 24 true [] (T.ofList 0 .leaf [(.str 6 68669705972028), (.str 3 5646632), (.bool false), (.str 6 110425311047777), (.str 45 545365161084908818682307871509240926086432362262523517738950247884810123871997999633158636370693479484509224), (.bool false), (.str 6 110425311047777), (.str 28 6260485019439425252614312435813236600861718953314767591699208816936), (.bool false), (.str 6 110425311047777), (.str 28 6260485019439425252614312435813236600861718953314767591699208817192), (.bool false), (.str 6 110425311047777), (.str 28 6260485019439425252614312435813236600861718953314767591699208815400), (.bool false), (.str 6 110425311047777), (.str 28 6260485019439425252614312435813236600861718953314767591699208821288), (.bool false), (.str 6 114849160783212), (.str 3 4794664), (.bool false), (.str 8 7453010373643562868), (.str 20 339137050467292191589805048747422779071890467112), (.bool false)])))]⟩
theorem S2636_ok : SumOk Tryz.prog 30 [(.str 23 10956966084090815260342509131105871416374185281426186602)] S2636 := SumOk.of_run (K := K_NQ1a) (n := 5000) (keep := [14]) mixed K_NQ1a_ok (by kernel_rfl) (by as_aux_lemma => kernel_rfl)

noncomputable def S455 : Sum := ⟨(.tup [(.str 16 154706541852025644484233205990057992554), (.so 29 0 13 3), (.bool true)]), 30, [(29, (.cells 39 true [] (T.ofList 0 .leaf [(.str 5 500068610672), (.str 21 125924534186164816246133852188561726513007718714408), (.bool false), (.str 5 500068610672), (.str 4 1445546280), (.bool false), (.str 5 500068610672), (.str 4 1445546536), (.bool false), (.str 5 500068610672), (.str 4 1445544744), (.bool false), (.str 5 500068610672), (.str 4 1445550632), (.bool false), (.str 5 500068610672), (.str 21 125924535314876068507128442038675530910546422025256), (.bool false), (.str 7 31081494762582640), (.str 21 125924534186164816246133852188561726513007718714408), (.bool false), (.str 7 31081494762582640), (.str 4 1445546280), (.bool false), (.str 7 31081494762582640), (.str 4 1445546536), (.bool false), (.str 7 31081494762582640), (.str 4 1445544744), (.bool false), (.str 7 31081494762582640), (.str 4 1445550632), (.bool false), (.str 7 31081494762582640), (.str 21 125924535314876068507128442038675530910546422025256), (.bool false), (.str 7 31081494762582640), (.str 3 5646632), (.bool false)])))]⟩
theorem S455_ok : SumOk Tryz.prog 30 [(.str 19 2439265639030268300842157990401791553877467498)] S455 := SumOk.of_run (K := K_NQ1a) (n := 5000) (keep := [29]) mixed K_NQ1a_ok (by kernel_rfl) (by as_aux_lemma => kernel_rfl)

noncomputable def tab_NQ1a : List (FuncId × SRows) := (30, [([(.str 19 2261816869159440624969593107871851903301607786)], S2744), ([(.str 23 10956966084090815260342509131105871416374185281426186602)], S2636), ([(.str 19 2439265639030268300842157990401791553877467498)], S455)]) :: (120, [([(.str 16 137483774941304901841256615957136564586)], S3147), ([(.str 16 154706541852025644484233205990057992554)], S3051)]) :: (11, [([(.str 16 137483774941304901841256615957136564586), (.str 7 28797744804815222), (.str 21 86819084919626801046990092479340231442403959593512)], S4685), ([(.str 16 137483774941304901841256615957136564586), (.str 7 28797744804815222), (.str 21 86819084919626801046990092479340231442403959587624)], S4580), ([(.str 16 137483774941304901841256615957136564586), (.str 7 28797744804815222), (.str 21 86819084919626801046990092479340231442403959589416)], S4476), ([(.str 16 137483774941304901841256615957136564586), (.str 7 28797744804815222), (.str 21 86819084919626801046990092479340231442403959589160)], S4373), ([(.str 16 137483774941304901841256615957136564586), (.str 8 7453010373643562868), (.str 20 339137050467292191589805048747422779071890467112)], S4276), ([(.str 16 137483774941304901841256615957136564586), (.str 6 121437607456361), (.str 20 339137050467292191589805048747422779071890467112)], S4180), ([(.str 16 137483774941304901841256615957136564586), (.str 6 126909328748901), (.str 21 131770541864199680179943181369540662989170152197160)], S4080), ([(.str 16 137483774941304901841256615957136564586), (.str 6 127961628831587), (.str 38 7563008949852303964789352941943798567979605024965410989119580465925847369046121658274434088)], S3910), ([(.str 16 137483774941304901841256615957136564586), (.str 6 127824440682595), (.str 4 1126779176)], S3883), ([(.str 16 137483774941304901841256615957136564586), (.str 6 114849160783212), (.str 3 4794664)], S3862), ([(.str 16 145412635431568811361768410208787652970), (.str 9 2240157836546495640161), (.str 42 47114077528188198620056812491409661436452214172948092389280225155504520564545130501860034283798416424)], S3675)]) :: (89, [([(.str 25 373153985705341413772959258306815421632630762655423140031052)], S4905)]) :: []
theorem tab_NQ1a_ok : TabOk Tryz.prog tab_NQ1a := (TabOk.cons (RowsOk.cons S2744_ok (RowsOk.cons S2636_ok (RowsOk.cons S455_ok RowsOk.nil))) (TabOk.cons (RowsOk.cons S3147_ok (RowsOk.cons S3051_ok RowsOk.nil)) (TabOk.cons (RowsOk.cons S4685_ok (RowsOk.cons S4580_ok (RowsOk.cons S4476_ok (RowsOk.cons S4373_ok (RowsOk.cons S4276_ok (RowsOk.cons S4180_ok (RowsOk.cons S4080_ok (RowsOk.cons S3910_ok (RowsOk.cons S3883_ok (RowsOk.cons S3862_ok (RowsOk.cons S3675_ok RowsOk.nil))))))))))) (TabOk.cons (RowsOk.cons S4905_ok RowsOk.nil) TabOk.nil))))
noncomputable def H_NQ1a : Hand := (((Hand.at 26 ((inHand I6177).or (inHand I12423))).or (Hand.at 53 (Hand.sp 13509 (Hand.sp 13370 ((inHand I12519).or (inHand I6226)) (Hand.sp 13409 (inHand I12556) ((inHand I12634).or (inHand I12616)))) (Hand.sp 13567 ((inHand I12793).or (inHand I12775)) (Hand.sp 13690 (inHand I12881) ((inHand I13021).or (inHand I12954))))))).or (sumsHand tab_NQ1a))
theorem H_NQ1a_ok : HandOk Tryz.prog H_NQ1a := (HandOk.or (HandOk.or (HandOk.at 26 (HandOk.or (inHand_ok I6177_ok (by kernel_rfl)) (inHand_ok I12423_ok (by kernel_rfl)))) (HandOk.at 53 (HandOk.sp 13509 (HandOk.sp 13370 (HandOk.or (inHand_ok I12519_ok (by kernel_rfl)) (inHand_ok I6226_ok (by kernel_rfl))) (HandOk.sp 13409 (inHand_ok I12556_ok (by kernel_rfl)) (HandOk.or (inHand_ok I12634_ok (by kernel_rfl)) (inHand_ok I12616_ok (by kernel_rfl))))) (HandOk.sp 13567 (HandOk.or (inHand_ok I12793_ok (by kernel_rfl)) (inHand_ok I12775_ok (by kernel_rfl))) (HandOk.sp 13690 (inHand_ok I12881_ok (by kernel_rfl)) (HandOk.or (inHand_ok I13021_ok (by kernel_rfl)) (inHand_ok I12954_ok (by kernel_rfl)))))))) (sumsHand_ok tab_NQ1a_ok))
end Go.Proofs.YtkkaifeiopjjdaaGreatDoor.nq
