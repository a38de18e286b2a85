/-
  Contracts of calls, by the kernel.
-/
import Derived.Test.YtkckdnjocncnhaaGreatDoorXN3
import Derived.Test.YtkckdnjocncnhaaGreatDoorProg
import Derived.KernelRfl
set_option linter.unusedSectionVars false
set_option linter.unusedVariables false
set_option maxRecDepth 1000000
set_option maxHeartbeats 0
namespace Go.Proofs.YtkckdnjocncnhaaGreatDoor.st
open Go.X Go.RowKit
theorem mixed : Tryz.prog.follows .mixedOrders = true := by kernel_rfl
variable [Tab]
noncomputable def K_ST0a : Hand := Hand.none
theorem K_ST0a_ok : HandOk Tryz.prog K_ST0a := HandOk.none

noncomputable def S14313 : Sum := ⟨(.tup [(.int .u8 0), (.bool false)]), 13, []⟩
theorem S14313_ok : SumOk Tryz.prog 260 [(.int .i64 172)] S14313 := SumOk.of_run (K := K_ST0a) (n := 5000) (keep := []) mixed K_ST0a_ok (by kernel_rfl) (by as_aux_lemma => kernel_rfl)

noncomputable def S14307 : Sum := ⟨(.tup [(.int .u8 0), (.bool false)]), 13, []⟩
theorem S14307_ok : SumOk Tryz.prog 260 [(.int .i64 179)] S14307 := SumOk.of_run (K := K_ST0a) (n := 5000) (keep := []) mixed K_ST0a_ok (by kernel_rfl) (by as_aux_lemma => kernel_rfl)

noncomputable def S14302 : Sum := ⟨(.tup [(.int .u8 0), (.bool false)]), 13, []⟩
theorem S14302_ok : SumOk Tryz.prog 260 [(.int .i64 89)] S14302 := SumOk.of_run (K := K_ST0a) (n := 5000) (keep := []) mixed K_ST0a_ok (by kernel_rfl) (by as_aux_lemma => kernel_rfl)

noncomputable def S14297 : Sum := ⟨(.tup [(.int .u8 0), (.bool false)]), 13, []⟩
theorem S14297_ok : SumOk Tryz.prog 260 [(.int .i64 96)] S14297 := SumOk.of_run (K := K_ST0a) (n := 5000) (keep := []) mixed K_ST0a_ok (by kernel_rfl) (by as_aux_lemma => kernel_rfl)

noncomputable def S14286 : Sum := ⟨(.tup [(.int .u8 0), (.bool false)]), 13, []⟩
theorem S14286_ok : SumOk Tryz.prog 260 [(.int .i64 178)] S14286 := SumOk.of_run (K := K_ST0a) (n := 5000) (keep := []) mixed K_ST0a_ok (by kernel_rfl) (by as_aux_lemma => kernel_rfl)

noncomputable def S14278 : Sum := ⟨(.bool true), 19, []⟩
theorem S14278_ok : SumOk Tryz.prog 258 [(.int .i64 172)] S14278 := SumOk.of_run (K := K_ST0a) (n := 5000) (keep := []) mixed K_ST0a_ok (by kernel_rfl) (by as_aux_lemma => kernel_rfl)

noncomputable def S14271 : Sum := ⟨(.bool true), 20, []⟩
theorem S14271_ok : SumOk Tryz.prog 258 [(.int .i64 179)] S14271 := SumOk.of_run (K := K_ST0a) (n := 5000) (keep := []) mixed K_ST0a_ok (by kernel_rfl) (by as_aux_lemma => kernel_rfl)

noncomputable def S14265 : Sum := ⟨(.bool true), 9, []⟩
theorem S14265_ok : SumOk Tryz.prog 258 [(.int .i64 89)] S14265 := SumOk.of_run (K := K_ST0a) (n := 5000) (keep := []) mixed K_ST0a_ok (by kernel_rfl) (by as_aux_lemma => kernel_rfl)

noncomputable def S14259 : Sum := ⟨(.bool true), 9, []⟩
theorem S14259_ok : SumOk Tryz.prog 258 [(.int .i64 96)] S14259 := SumOk.of_run (K := K_ST0a) (n := 5000) (keep := []) mixed K_ST0a_ok (by kernel_rfl) (by as_aux_lemma => kernel_rfl)

noncomputable def S14248 : Sum := ⟨(.bool true), 20, []⟩
theorem S14248_ok : SumOk Tryz.prog 258 [(.int .i64 178)] S14248 := SumOk.of_run (K := K_ST0a) (n := 5000) (keep := []) mixed K_ST0a_ok (by kernel_rfl) (by as_aux_lemma => kernel_rfl)

noncomputable def S14154 : Sum := ⟨(.tup [(.so 5 0 1 4), (.agg [(.int .u8 73), (.str 0 0), (.int .i64 0), (.int .u8 0)]), (.bool true)]), 11, [(5, (.cells 4 true [] (T.ofList 0 .leaf [(.int .u8 73), (.str 0 0), (.int .i64 0), (.int .u8 0)])))]⟩
theorem S14154_ok : SumOk Tryz.prog 157 [(.str 4 1227442472)] S14154 := SumOk.of_run (K := K_ST0a) (n := 5000) (keep := [5]) mixed K_ST0a_ok (by kernel_rfl) (by as_aux_lemma => kernel_rfl)

noncomputable def S13829 : Sum := ⟨(.bool true), 5, []⟩
theorem S13829_ok : SumOk Tryz.prog 296 [(.str 1 77)] S13829 := SumOk.of_run (K := K_ST0a) (n := 5000) (keep := []) mixed K_ST0a_ok (by kernel_rfl) (by as_aux_lemma => kernel_rfl)

noncomputable def I6558 : In := ⟨99, [(.ptr 3256 0), (.so 6838 0 4 1)], 6841, [(3256, (.cells 5 false [] (T.ofList 0 .leaf [(.ptr 3 0), (.so 6824 0 8 1), (.so 6826 0 3 1), (.so 6823 0 3 3), (.map 3255)]))), (6725, (.cells 1 true [] (T.ofList 0 .leaf [(.int .u8 76)]))), (6821, (.cells 1 true [] (T.ofList 0 .leaf [(.int .u8 76)]))), (6823, (.cells 9 true [] (T.ofList 0 .leaf [(.str 19 2439265639030268300842157990401791553877467498), .nils, (.int .u8 0), (.str 28 12051447909911140811364177168575840195048631602135540194265359868266), (.so 6725 0 1 1), (.int .u8 0), (.str 26 183890501555043540957095622503328518117729969598634276033028458), (.so 6821 0 1 1), (.int .u8 0)]))), (6824, (.cells 8 true [] (T.ofList 0 .leaf [(.int .u64 0), (.int .u64 0), (.int .u64 1), (.int .u64 0), (.int .u64 0), (.int .u64 2), (.int .u64 0), (.int .u64 0)]))), (6826, (.cells 3 true [] (T.ofList 0 .leaf [(.int .i64 0), (.int .i64 2), (.int .i64 5)]))), (6838, (.cells 4 true [] (T.ofList 0 .leaf [(.int .i64 1), (.int .i64 3), (.int .i64 6), (.int .i64 0)])))], (.tup [(.map 6851), (.int .i64 8)]), 6859, [(6851, (.map [((.int .i64 1), (.int .i64 1), 0), ((.int .i64 3), (.int .i64 3), 1), ((.int .i64 6), (.int .i64 6), 2)] 3))]⟩
theorem I6558_ok : InOk Tryz.prog I6558 := InOk.of_run (K := K_ST0a) (n := 5000) mixed K_ST0a_ok (by kernel_rfl) (by as_aux_lemma => kernel_rfl)

noncomputable def S5693 : Sum := ⟨(.tup [(.so 5 0 1 4), (.agg [(.int .u8 86), (.str 0 0), (.int .i64 0), (.int .u8 0)]), (.bool true)]), 6, [(5, (.cells 4 true [] (T.ofList 0 .leaf [(.int .u8 90), (.str 0 0), (.int .i64 0), (.int .u8 0)])))]⟩
theorem S5693_ok : SumOk Tryz.prog 157 [(.str 4 1445550632)] S5693 := SumOk.of_run (K := K_ST0a) (n := 5000) (keep := [5]) mixed K_ST0a_ok (by kernel_rfl) (by as_aux_lemma => kernel_rfl)

noncomputable def S5664 : Sum := ⟨(.tup [(.so 5 0 1 4), (.agg [(.int .u8 86), (.str 0 0), (.int .i64 0), (.int .u8 0)]), (.bool true)]), 6, [(5, (.cells 4 true [] (T.ofList 0 .leaf [(.int .u8 67), (.str 0 0), (.int .i64 0), (.int .u8 0)])))]⟩
theorem S5664_ok : SumOk Tryz.prog 157 [(.str 4 1445544744)] S5664 := SumOk.of_run (K := K_ST0a) (n := 5000) (keep := [5]) mixed K_ST0a_ok (by kernel_rfl) (by as_aux_lemma => kernel_rfl)

noncomputable def S5636 : Sum := ⟨(.tup [(.so 5 0 1 4), (.agg [(.int .u8 86), (.str 0 0), (.int .i64 0), (.int .u8 0)]), (.bool true)]), 6, [(5, (.cells 4 true [] (T.ofList 0 .leaf [(.int .u8 74), (.str 0 0), (.int .i64 0), (.int .u8 0)])))]⟩
theorem S5636_ok : SumOk Tryz.prog 157 [(.str 4 1445546536)] S5636 := SumOk.of_run (K := K_ST0a) (n := 5000) (keep := [5]) mixed K_ST0a_ok (by kernel_rfl) (by as_aux_lemma => kernel_rfl)

noncomputable def S5609 : Sum := ⟨(.tup [(.so 5 0 1 4), (.agg [(.int .u8 86), (.str 0 0), (.int .i64 0), (.int .u8 0)]), (.bool true)]), 6, [(5, (.cells 4 true [] (T.ofList 0 .leaf [(.int .u8 73), (.str 0 0), (.int .i64 0), (.int .u8 0)])))]⟩
theorem S5609_ok : SumOk Tryz.prog 157 [(.str 4 1445546280)] S5609 := SumOk.of_run (K := K_ST0a) (n := 5000) (keep := [5]) mixed K_ST0a_ok (by kernel_rfl) (by as_aux_lemma => kernel_rfl)

noncomputable def S3898 : Sum := ⟨(.tup [(.so 5 0 1 4), (.agg [(.int .u8 67), (.str 0 0), (.int .i64 0), (.int .u8 0)]), (.bool true)]), 11, [(5, (.cells 4 true [] (T.ofList 0 .leaf [(.int .u8 73), (.str 0 0), (.int .i64 0), (.int .u8 0)])))]⟩
theorem S3898_ok : SumOk Tryz.prog 157 [(.str 4 1126779176)] S3898 := SumOk.of_run (K := K_ST0a) (n := 5000) (keep := [5]) mixed K_ST0a_ok (by kernel_rfl) (by as_aux_lemma => kernel_rfl)

noncomputable def S3876 : Sum := ⟨(.tup [.nils, (.agg [(.int .u8 73), (.str 0 0), (.int .i64 0), (.int .u8 0)]), (.bool true)]), 6, []⟩
theorem S3876_ok : SumOk Tryz.prog 157 [(.str 3 4794664)] S3876 := SumOk.of_run (K := K_ST0a) (n := 5000) (keep := []) mixed K_ST0a_ok (by kernel_rfl) (by as_aux_lemma => kernel_rfl)

noncomputable def S3679 : Sum := ⟨(.int .i64 22), 33, []⟩
theorem S3679_ok : SumOk Tryz.prog 195 [(.str 16 145412635431568811361768410208787652970), (.str 9 2240157836546495640161), (.str 42 47114077528188198620056812491409661436452214172948092389280225155504520564545130501860034283798416424)] S3679 := SumOk.of_run (K := K_ST0a) (n := 5000) (keep := []) mixed K_ST0a_ok (by kernel_rfl) (by as_aux_lemma => kernel_rfl)

noncomputable def S3198 : Sum := ⟨(.int .i64 (-1)), 1, []⟩
theorem S3198_ok : SumOk Tryz.prog 368 [(.str 6 113723913172051), (.str 4 794508078)] S3198 := SumOk.of_run (K := K_ST0a) (n := 5000) (keep := []) mixed K_ST0a_ok (by kernel_rfl) (by as_aux_lemma => kernel_rfl)

noncomputable def S3196 : Sum := ⟨(.tup [(.so 12 0 6 1), (.bool true)]), 13, [(12, (.cells 6 true [] (T.ofList 0 .leaf [(.int .u16 83), (.int .u16 116), (.int .u16 114), (.int .u16 105), (.int .u16 110), (.int .u16 103)])))]⟩
theorem S3196_ok : SumOk Tryz.prog 197 [(.str 6 113723913172051)] S3196 := SumOk.of_run (K := K_ST0a) (n := 5000) (keep := [12]) mixed K_ST0a_ok (by kernel_rfl) (by as_aux_lemma => kernel_rfl)

noncomputable def S3153 : Sum := ⟨(.sl 0 0 3 3), 1, [(0, (.cells 3 false [(.str 0 0)] (T.ofList 0 .leaf [(.str 4 1635148138), (.str 4 1735287148), (.str 6 113723913172051)])))]⟩
theorem S3153_ok : SumOk Tryz.prog 423 [(.str 16 137483774941304901841256615957136564586), (.str 1 47), (.int .i64 0), (.int .i64 (-1))] S3153 := SumOk.of_run (K := K_ST0a) (n := 5000) (keep := [0]) mixed K_ST0a_ok (by kernel_rfl) (by as_aux_lemma => kernel_rfl)

noncomputable def S3129 : Sum := ⟨(.int .i64 3), 9, []⟩
theorem S3129_ok : SumOk Tryz.prog 195 [(.str 16 154706541852025644484233205990057992554), (.str 8 7453010373643562868), (.str 20 339137050467292191589805048747422779071890467112)] S3129 := SumOk.of_run (K := K_ST0a) (n := 5000) (keep := []) mixed K_ST0a_ok (by kernel_rfl) (by as_aux_lemma => kernel_rfl)

noncomputable def S3102 : Sum := ⟨(.int .i64 (-1)), 1, []⟩
theorem S3102_ok : SumOk Tryz.prog 368 [(.str 6 127970252055119), (.str 4 794508078)] S3102 := SumOk.of_run (K := K_ST0a) (n := 5000) (keep := []) mixed K_ST0a_ok (by kernel_rfl) (by as_aux_lemma => kernel_rfl)

noncomputable def S3100 : Sum := ⟨(.tup [(.so 12 0 6 1), (.bool true)]), 13, [(12, (.cells 6 true [] (T.ofList 0 .leaf [(.int .u16 79), (.int .u16 98), (.int .u16 106), (.int .u16 101), (.int .u16 99), (.int .u16 116)])))]⟩
theorem S3100_ok : SumOk Tryz.prog 197 [(.str 6 127970252055119)] S3100 := SumOk.of_run (K := K_ST0a) (n := 5000) (keep := [12]) mixed K_ST0a_ok (by kernel_rfl) (by as_aux_lemma => kernel_rfl)

noncomputable def S3082 : Sum := ⟨(.bool true), 10, []⟩
theorem S3082_ok : SumOk Tryz.prog 225 [(.str 4 1735287148)] S3082 := SumOk.of_run (K := K_ST0a) (n := 5000) (keep := []) mixed K_ST0a_ok (by kernel_rfl) (by as_aux_lemma => kernel_rfl)

noncomputable def S3065 : Sum := ⟨(.bool true), 10, []⟩
theorem S3065_ok : SumOk Tryz.prog 225 [(.str 4 1635148138)] S3065 := SumOk.of_run (K := K_ST0a) (n := 5000) (keep := []) mixed K_ST0a_ok (by kernel_rfl) (by as_aux_lemma => kernel_rfl)

noncomputable def S3057 : Sum := ⟨(.sl 0 0 3 3), 1, [(0, (.cells 3 false [(.str 0 0)] (T.ofList 0 .leaf [(.str 4 1635148138), (.str 4 1735287148), (.str 6 127970252055119)])))]⟩
theorem S3057_ok : SumOk Tryz.prog 423 [(.str 16 154706541852025644484233205990057992554), (.str 1 47), (.int .i64 0), (.int .i64 (-1))] S3057 := SumOk.of_run (K := K_ST0a) (n := 5000) (keep := [0]) mixed K_ST0a_ok (by kernel_rfl) (by as_aux_lemma => kernel_rfl)

noncomputable def S3035 : Sum := ⟨(.int .i64 2), 8, []⟩
theorem S3035_ok : SumOk Tryz.prog 195 [(.str 16 154706541852025644484233205990057992554), (.str 6 126909328748901), (.str 21 131770541864199680179943181369540662989170152197160)] S3035 := SumOk.of_run (K := K_ST0a) (n := 5000) (keep := []) mixed K_ST0a_ok (by kernel_rfl) (by as_aux_lemma => kernel_rfl)

noncomputable def S2638 : Sum := ⟨(.tup [(.str 16 154706541852025644484233205990057992554), (.so 14 0 8 3), (.bool true)]), 15, [(14, (.cells 24 true [] (T.ofList 0 .leaf [(.str 6 68669705972028), (.str 3 5646632), (.bool false), (.str 6 110425311047777), (.str 45 545365161084908818682307871509240926086432362262523517738950247884810123871997999633158636370693479484509224), (.bool false), (.str 6 110425311047777), (.str 28 6260485019439425252614312435813236600861718953314767591699208816936), (.bool false), (.str 6 110425311047777), (.str 28 6260485019439425252614312435813236600861718953314767591699208817192), (.bool false), (.str 6 110425311047777), (.str 28 6260485019439425252614312435813236600861718953314767591699208815400), (.bool false), (.str 6 110425311047777), (.str 28 6260485019439425252614312435813236600861718953314767591699208821288), (.bool false), (.str 6 114849160783212), (.str 3 4794664), (.bool false), (.str 8 7453010373643562868), (.str 20 339137050467292191589805048747422779071890467112), (.bool false)])))]⟩
theorem S2638_ok : SumOk Tryz.prog 70 [(.str 23 10956966084090815260342509131105871416374185281426186602)] S2638 := SumOk.of_run (K := K_ST0a) (n := 5000) (keep := [14]) mixed K_ST0a_ok (by kernel_rfl) (by as_aux_lemma => kernel_rfl)

noncomputable def S2629 : Sum := ⟨(.tup [(.str 16 154706541852025644484233205990057992554), (.so 10 0 10 3), (.bool true)]), 11, [(10, (.cells 30 true [] (T.ofList 0 .leaf [(.str 6 114849160783212), (.str 3 4794664), (.bool false), (.str 6 127824440682595), (.str 4 1126779176), (.bool false), (.str 6 127961628831587), (.str 38 7563008949852303964789352941943798567979605024965410989119580465925847369046121658274434088), (.bool false), (.str 6 126909328748901), (.str 21 131770541864199680179943181369540662989170152197160), (.bool false), (.str 6 121437607456361), (.str 20 339137050467292191589805048747422779071890467112), (.bool false), (.str 8 7453010373643562868), (.str 20 339137050467292191589805048747422779071890467112), (.bool false), (.str 7 28797744804815222), (.str 21 86819084919626801046990092479340231442403959589160), (.bool true), (.str 7 28797744804815222), (.str 21 86819084919626801046990092479340231442403959589416), (.bool true), (.str 7 28797744804815222), (.str 21 86819084919626801046990092479340231442403959587624), (.bool true), (.str 7 28797744804815222), (.str 21 86819084919626801046990092479340231442403959593512), (.bool true)])))]⟩
theorem S2629_ok : SumOk Tryz.prog 70 [(.str 16 137483774941304901841256615957136564586)] S2629 := SumOk.of_run (K := K_ST0a) (n := 5000) (keep := [10]) mixed K_ST0a_ok (by kernel_rfl) (by as_aux_lemma => kernel_rfl)

noncomputable def S461 : Sum := ⟨(.so 28 0 13 3), 29, [(28, (.cells 39 true [] (T.ofList 0 .leaf [(.str 5 500068610672), (.str 21 125924534186164816246133852188561726513007718714408), (.bool false), (.str 5 500068610672), (.str 4 1445546280), (.bool false), (.str 5 500068610672), (.str 4 1445546536), (.bool false), (.str 5 500068610672), (.str 4 1445544744), (.bool false), (.str 5 500068610672), (.str 4 1445550632), (.bool false), (.str 5 500068610672), (.str 21 125924535314876068507128442038675530910546422025256), (.bool false), (.str 7 31081494762582640), (.str 21 125924534186164816246133852188561726513007718714408), (.bool false), (.str 7 31081494762582640), (.str 4 1445546280), (.bool false), (.str 7 31081494762582640), (.str 4 1445546536), (.bool false), (.str 7 31081494762582640), (.str 4 1445544744), (.bool false), (.str 7 31081494762582640), (.str 4 1445550632), (.bool false), (.str 7 31081494762582640), (.str 21 125924535314876068507128442038675530910546422025256), (.bool false), (.str 7 31081494762582640), (.str 3 5646632), (.bool false)])))]⟩
theorem S461_ok : SumOk Tryz.prog 107 [(.str 19 2439265639030268300842157990401791553877467498)] S461 := SumOk.of_run (K := K_ST0a) (n := 5000) (keep := [28]) mixed K_ST0a_ok (by kernel_rfl) (by as_aux_lemma => kernel_rfl)

noncomputable def S8 : Sum := ⟨(.so 75 0 28 2), 76, [(75, (.cells 56 true [] (T.ofList 0 .leaf [(.str 19 2261816869159440624969593107871851903301607786), (.str 16 154706541852025644484233205990057992554), (.str 19 2462787319999361794871408518597065734545105258), (.str 19 2261816869159440624969593107871851903301607786), (.str 15 594182256714433171583859471190221162), (.str 19 2261816869159440624969593107871851903301607786), (.str 26 177462528906270532328520934635542489792491443287338843928682858), (.str 19 2462787319999361794871408518597065734545105258), (.str 35 838043098472257520366253329360822735706660890049674080341799799296269125818196058474), (.str 26 177462528906270532328520934635542489792491443287338843928682858), (.str 26 183890501555036136351903328603364899342229922045770665733546346), (.str 22 42815343838886881203639546329033052610660173325164906), (.str 38 14569306542031293471471962209605688152784288289213751582725315083544705153644676387098222954), (.str 22 42815343838886881203639546329033052610660173325164906), (.str 30 789803690223817235625993454897404583541813632134065715887439951296881002), (.str 22 42815343838886881203639546329033052610660173325164906), (.str 31 202189744697330995387852485397630371027294446829100397077902765524415570282), (.str 22 42815343838886881203639546329033052610660173325164906), (.str 38 14569306542030247732875768419210667608278730874565438596096215620376147580735894642209743210), (.str 22 42815343838886881203639546329033052610660173325164906), (.str 22 42815343838886881203639546329033052610660173325164906), (.str 15 594182256714433171583859471190221162), (.str 21 167247436870678459232146883126634948762985622298986), (.str 22 42815343838886881203639546329033052610660173325164906), (.str 26 183890501555012814945400634590948384637649511452497603397575018), (.str 38 14569306542030247732875768419210667608278730874565438596096215620376147580735894642209743210), (.str 27 47075968398083285027902446257440240237115773113246055769402925418), (.str 38 14569306542030247732875768419210667608278730874565438596096215620376147580735894642209743210), (.str 28 12051447909910759173808661238977857107111767888823090726697178653034), (.str 38 14569306542030247732875768419210667608278730874565438596096215620376147580735894642209743210), (.str 29 3085170664936786167588614718972924591866388410301586339335837578584426), (.str 38 14569306542030247732875768419210667608278730874565438596096215620376147580735894642209743210), (.str 28 12051447909910278778317482300033197087305720853520054876288643916138), (.str 38 14569306542030247732875768419210667608278730874565438596096215620376147580735894642209743210), (.str 37 56911353679811531822920492603033782110087255578636309514658723732473720363105297718731114), (.str 22 42815343838886881203639546329033052610660173325164906), (.str 28 12051447909911140811364177168575840195048631602135540194265359868266), (.str 15 594182256714433171583859471190221162), (.str 26 183890501555043540957095622503328518117729969598634276033028458), (.str 15 594182256714433171583859471190221162), (.str 29 2977327179366744475310567174670984700336777289692309623825572795146602), (.str 26 177462528906270532328520934635542489792491443287338843928682858), (.str 30 762195757917886585679527096405151622096281774544538073876077408773628266), (.str 26 177462528906270532328520934635542489792491443287338843928682858), (.str 40 921438131347674524995356669863897659779420152864154109574888483886346161678995665599280333611370), (.str 35 838043098472257520366253329360822735706660890049674080341799799296269125818196058474), (.str 36 214539033208897925213755128370838752992305990670598911423725060199978812837976799076714), (.str 26 177462528906270532328520934635542489792491443287338843928682858), (.str 28 11630184294401345606682283003339240975915084228737354846334270988650), (.str 26 177462528906270532328520934635542489792491443287338843928682858), (.str 29 2977327179366744475310578792928741468592950331792981622238945052352874), (.str 26 177462528906270532328520934635542489792491443287338843928682858), (.str 38 14060030080378334426808655457799320232265086119729716606675995945190890063755479020322840938), (.str 26 177462528906270532328520934635542489792491443287338843928682858), (.str 41 235888161625004678398811307485157800903531559133223452051171428016118026562849321940164899390251370), (.str 35 838043098472257520366253329360822735706660890049674080341799799296269125818196058474)])))]⟩
theorem S8_ok : SumOk Tryz.prog 68 [] S8 := SumOk.of_run (K := K_ST0a) (n := 5000) (keep := [75]) mixed K_ST0a_ok (by kernel_rfl) (by as_aux_lemma => kernel_rfl)

noncomputable def tab_ST0a : List (FuncId × SRows) := (68, [([], S8)]) :: (107, [([(.str 19 2439265639030268300842157990401791553877467498)], S461)]) :: (70, [([(.str 23 10956966084090815260342509131105871416374185281426186602)], S2638), ([(.str 16 137483774941304901841256615957136564586)], S2629)]) :: (225, [([(.str 4 1735287148)], S3082), ([(.str 4 1635148138)], S3065)]) :: (423, [([(.str 16 137483774941304901841256615957136564586), (.str 1 47), (.int .i64 0), (.int .i64 (-1))], S3153), ([(.str 16 154706541852025644484233205990057992554), (.str 1 47), (.int .i64 0), (.int .i64 (-1))], S3057)]) :: (197, [([(.str 6 113723913172051)], S3196), ([(.str 6 127970252055119)], S3100)]) :: (368, [([(.str 6 113723913172051), (.str 4 794508078)], S3198), ([(.str 6 127970252055119), (.str 4 794508078)], S3102)]) :: (195, [([(.str 16 145412635431568811361768410208787652970), (.str 9 2240157836546495640161), (.str 42 47114077528188198620056812491409661436452214172948092389280225155504520564545130501860034283798416424)], S3679), ([(.str 16 154706541852025644484233205990057992554), (.str 8 7453010373643562868), (.str 20 339137050467292191589805048747422779071890467112)], S3129), ([(.str 16 154706541852025644484233205990057992554), (.str 6 126909328748901), (.str 21 131770541864199680179943181369540662989170152197160)], S3035)]) :: (296, [([(.str 1 77)], S13829)]) :: (157, [([(.str 4 1227442472)], S14154), ([(.str 4 1445550632)], S5693), ([(.str 4 1445544744)], S5664), ([(.str 4 1445546536)], S5636), ([(.str 4 1445546280)], S5609), ([(.str 4 1126779176)], S3898), ([(.str 3 4794664)], S3876)]) :: (258, [([(.int .i64 172)], S14278), ([(.int .i64 179)], S14271), ([(.int .i64 89)], S14265), ([(.int .i64 96)], S14259), ([(.int .i64 178)], S14248)]) :: (260, [([(.int .i64 172)], S14313), ([(.int .i64 179)], S14307), ([(.int .i64 89)], S14302), ([(.int .i64 96)], S14297), ([(.int .i64 178)], S14286)]) :: []
theorem tab_ST0a_ok : TabOk Tryz.prog tab_ST0a := (TabOk.cons (RowsOk.cons S8_ok RowsOk.nil) (TabOk.cons (RowsOk.cons S461_ok RowsOk.nil) (TabOk.cons (RowsOk.cons S2638_ok (RowsOk.cons S2629_ok RowsOk.nil)) (TabOk.cons (RowsOk.cons S3082_ok (RowsOk.cons S3065_ok RowsOk.nil)) (TabOk.cons (RowsOk.cons S3153_ok (RowsOk.cons S3057_ok RowsOk.nil)) (TabOk.cons (RowsOk.cons S3196_ok (RowsOk.cons S3100_ok RowsOk.nil)) (TabOk.cons (RowsOk.cons S3198_ok (RowsOk.cons S3102_ok RowsOk.nil)) (TabOk.cons (RowsOk.cons S3679_ok (RowsOk.cons S3129_ok (RowsOk.cons S3035_ok RowsOk.nil))) (TabOk.cons (RowsOk.cons S13829_ok RowsOk.nil) (TabOk.cons (RowsOk.cons S14154_ok (RowsOk.cons S5693_ok (RowsOk.cons S5664_ok (RowsOk.cons S5636_ok (RowsOk.cons S5609_ok (RowsOk.cons S3898_ok (RowsOk.cons S3876_ok RowsOk.nil))))))) (TabOk.cons (RowsOk.cons S14278_ok (RowsOk.cons S14271_ok (RowsOk.cons S14265_ok (RowsOk.cons S14259_ok (RowsOk.cons S14248_ok RowsOk.nil))))) (TabOk.cons (RowsOk.cons S14313_ok (RowsOk.cons S14307_ok (RowsOk.cons S14302_ok (RowsOk.cons S14297_ok (RowsOk.cons S14286_ok RowsOk.nil))))) TabOk.nil))))))))))))
noncomputable def H_ST0a : Hand := ((inHand I6558).or (sumsHand tab_ST0a))
theorem H_ST0a_ok : HandOk Tryz.prog H_ST0a := (HandOk.or (inHand_ok I6558_ok (by kernel_rfl)) (sumsHand_ok tab_ST0a_ok))
end Go.Proofs.YtkckdnjocncnhaaGreatDoor.st
