/-
  Contracts of calls, by the kernel.
-/
import Derived.Test.YtkckdnjocncnhaaGreatDoorXM3
import Derived.Test.YtkckdnjocncnhaaGreatDoorProg
import Derived.KernelRfl
set_option linter.unusedSectionVars false
set_option linter.unusedVariables false
set_option maxRecDepth 1000000
set_option maxHeartbeats 0
namespace Go.Proofs.YtkckdnjocncnhaaGreatDoor.ea
open Go.X Go.RowKit
theorem mixed : Tryz.prog.follows .mixedOrders = true := by kernel_rfl
variable [Tab]
noncomputable def K_EA0a : Hand := Hand.none
theorem K_EA0a_ok : HandOk Tryz.prog K_EA0a := HandOk.none

noncomputable def S45123 : Sum := ⟨(.tup [(.int .u8 0), (.bool false)]), 13, []⟩
theorem S45123_ok : SumOk Tryz.prog 260 [(.int .i64 189)] S45123 := SumOk.of_run (K := K_EA0a) (n := 5000) (keep := []) mixed K_EA0a_ok (by kernel_rfl) (by as_aux_lemma => kernel_rfl)

noncomputable def S45118 : Sum := ⟨(.tup [(.int .u8 0), (.bool false)]), 13, []⟩
theorem S45118_ok : SumOk Tryz.prog 260 [(.int .i64 4)] S45118 := SumOk.of_run (K := K_EA0a) (n := 5000) (keep := []) mixed K_EA0a_ok (by kernel_rfl) (by as_aux_lemma => kernel_rfl)

noncomputable def S45069 : Sum := ⟨(.bool true), 21, []⟩
theorem S45069_ok : SumOk Tryz.prog 258 [(.int .i64 189)] S45069 := SumOk.of_run (K := K_EA0a) (n := 5000) (keep := []) mixed K_EA0a_ok (by kernel_rfl) (by as_aux_lemma => kernel_rfl)

noncomputable def S14406 : Sum := ⟨(.tup [(.int .u8 0), (.bool false)]), 13, []⟩
theorem S14406_ok : SumOk Tryz.prog 260 [(.int .i64 172)] S14406 := SumOk.of_run (K := K_EA0a) (n := 5000) (keep := []) mixed K_EA0a_ok (by kernel_rfl) (by as_aux_lemma => kernel_rfl)

noncomputable def S14401 : Sum := ⟨(.tup [(.int .u8 0), (.bool false)]), 13, []⟩
theorem S14401_ok : SumOk Tryz.prog 260 [(.int .i64 3)] S14401 := SumOk.of_run (K := K_EA0a) (n := 5000) (keep := []) mixed K_EA0a_ok (by kernel_rfl) (by as_aux_lemma => kernel_rfl)

noncomputable def S14396 : Sum := ⟨(.tup [(.int .u8 0), (.bool false)]), 13, []⟩
theorem S14396_ok : SumOk Tryz.prog 260 [(.int .i64 83)] S14396 := SumOk.of_run (K := K_EA0a) (n := 5000) (keep := []) mixed K_EA0a_ok (by kernel_rfl) (by as_aux_lemma => kernel_rfl)

noncomputable def S14377 : Sum := ⟨(.tup [(.int .u8 0), (.bool false)]), 13, []⟩
theorem S14377_ok : SumOk Tryz.prog 260 [(.int .i64 183)] S14377 := SumOk.of_run (K := K_EA0a) (n := 5000) (keep := []) mixed K_EA0a_ok (by kernel_rfl) (by as_aux_lemma => kernel_rfl)

noncomputable def S14372 : Sum := ⟨(.tup [(.int .u8 0), (.bool false)]), 13, []⟩
theorem S14372_ok : SumOk Tryz.prog 260 [(.int .i64 89)] S14372 := SumOk.of_run (K := K_EA0a) (n := 5000) (keep := []) mixed K_EA0a_ok (by kernel_rfl) (by as_aux_lemma => kernel_rfl)

noncomputable def S14357 : Sum := ⟨(.tup [(.int .u8 0), (.bool false)]), 13, []⟩
theorem S14357_ok : SumOk Tryz.prog 260 [(.int .i64 187)] S14357 := SumOk.of_run (K := K_EA0a) (n := 5000) (keep := []) mixed K_EA0a_ok (by kernel_rfl) (by as_aux_lemma => kernel_rfl)

noncomputable def S14352 : Sum := ⟨(.tup [(.int .u8 0), (.bool false)]), 13, []⟩
theorem S14352_ok : SumOk Tryz.prog 260 [(.int .i64 8)] S14352 := SumOk.of_run (K := K_EA0a) (n := 5000) (keep := []) mixed K_EA0a_ok (by kernel_rfl) (by as_aux_lemma => kernel_rfl)

noncomputable def S14347 : Sum := ⟨(.tup [(.int .u8 0), (.bool false)]), 13, []⟩
theorem S14347_ok : SumOk Tryz.prog 260 [(.int .i64 1)] S14347 := SumOk.of_run (K := K_EA0a) (n := 5000) (keep := []) mixed K_EA0a_ok (by kernel_rfl) (by as_aux_lemma => kernel_rfl)

noncomputable def S14339 : Sum := ⟨(.bool true), 19, []⟩
theorem S14339_ok : SumOk Tryz.prog 258 [(.int .i64 172)] S14339 := SumOk.of_run (K := K_EA0a) (n := 5000) (keep := []) mixed K_EA0a_ok (by kernel_rfl) (by as_aux_lemma => kernel_rfl)

noncomputable def S14329 : Sum := ⟨(.bool true), 9, []⟩
theorem S14329_ok : SumOk Tryz.prog 258 [(.int .i64 83)] S14329 := SumOk.of_run (K := K_EA0a) (n := 5000) (keep := []) mixed K_EA0a_ok (by kernel_rfl) (by as_aux_lemma => kernel_rfl)

noncomputable def S14322 : Sum := ⟨(.bool true), 20, []⟩
theorem S14322_ok : SumOk Tryz.prog 258 [(.int .i64 183)] S14322 := SumOk.of_run (K := K_EA0a) (n := 5000) (keep := []) mixed K_EA0a_ok (by kernel_rfl) (by as_aux_lemma => kernel_rfl)

noncomputable def S14316 : Sum := ⟨(.bool true), 9, []⟩
theorem S14316_ok : SumOk Tryz.prog 258 [(.int .i64 89)] S14316 := SumOk.of_run (K := K_EA0a) (n := 5000) (keep := []) mixed K_EA0a_ok (by kernel_rfl) (by as_aux_lemma => kernel_rfl)

noncomputable def S14309 : Sum := ⟨(.bool true), 21, []⟩
theorem S14309_ok : SumOk Tryz.prog 258 [(.int .i64 187)] S14309 := SumOk.of_run (K := K_EA0a) (n := 5000) (keep := []) mixed K_EA0a_ok (by kernel_rfl) (by as_aux_lemma => kernel_rfl)

noncomputable def S14228 : Sum := ⟨(.bool true), 6, []⟩
theorem S14228_ok : SumOk Tryz.prog 225 [(.str 2 28519)] S14228 := SumOk.of_run (K := K_EA0a) (n := 5000) (keep := []) mixed K_EA0a_ok (by kernel_rfl) (by as_aux_lemma => kernel_rfl)

noncomputable def S14058 : Sum := ⟨(.bool true), 5, []⟩
theorem S14058_ok : SumOk Tryz.prog 296 [(.str 1 77)] S14058 := SumOk.of_run (K := K_EA0a) (n := 5000) (keep := []) mixed K_EA0a_ok (by kernel_rfl) (by as_aux_lemma => kernel_rfl)

noncomputable def S14034 : Sum := ⟨(.bool true), 2, []⟩
theorem S14034_ok : SumOk Tryz.prog 302 [(.str 6 68669705972028), (.str 3 5646632), (.int .i64 10)] S14034 := SumOk.of_run (K := K_EA0a) (n := 5000) (keep := []) mixed K_EA0a_ok (by kernel_rfl) (by as_aux_lemma => kernel_rfl)

noncomputable def S13989 : Sum := ⟨(.int .i64 (-1)), 1, []⟩
theorem S13989_ok : SumOk Tryz.prog 368 [(.str 6 68669705972028), (.str 4 794508078)] S13989 := SumOk.of_run (K := K_EA0a) (n := 5000) (keep := []) mixed K_EA0a_ok (by kernel_rfl) (by as_aux_lemma => kernel_rfl)

noncomputable def S13974 : Sum := ⟨(.tup [(.so 12 0 6 1), (.bool true)]), 13, [(12, (.cells 6 true [] (T.ofList 0 .leaf [(.int .u16 60), (.int .u16 105), (.int .u16 110), (.int .u16 105), (.int .u16 116), (.int .u16 62)])))]⟩
theorem S13974_ok : SumOk Tryz.prog 197 [(.str 6 68669705972028)] S13974 := SumOk.of_run (K := K_EA0a) (n := 5000) (keep := [12]) mixed K_EA0a_ok (by kernel_rfl) (by as_aux_lemma => kernel_rfl)

noncomputable def S13897 : Sum := ⟨(.tup [(.so 32 0 16 1), (.bool true)]), 33, [(32, (.cells 16 true [] (T.ofList 0 .leaf [(.int .u16 106), (.int .u16 97), (.int .u16 118), (.int .u16 97), (.int .u16 47), (.int .u16 108), (.int .u16 97), (.int .u16 110), (.int .u16 103), (.int .u16 47), (.int .u16 79), (.int .u16 98), (.int .u16 106), (.int .u16 101), (.int .u16 99), (.int .u16 116)])))]⟩
theorem S13897_ok : SumOk Tryz.prog 197 [(.str 16 154706541852025644484233205990057992554)] S13897 := SumOk.of_run (K := K_EA0a) (n := 5000) (keep := [32]) mixed K_EA0a_ok (by kernel_rfl) (by as_aux_lemma => kernel_rfl)

noncomputable def S13820 : Sum := ⟨(.tup [(.so 32 0 16 1), (.bool true)]), 33, [(32, (.cells 16 true [] (T.ofList 0 .leaf [(.int .u16 106), (.int .u16 97), (.int .u16 118), (.int .u16 97), (.int .u16 47), (.int .u16 108), (.int .u16 97), (.int .u16 110), (.int .u16 103), (.int .u16 47), (.int .u16 83), (.int .u16 116), (.int .u16 114), (.int .u16 105), (.int .u16 110), (.int .u16 103)])))]⟩
theorem S13820_ok : SumOk Tryz.prog 197 [(.str 16 137483774941304901841256615957136564586)] S13820 := SumOk.of_run (K := K_EA0a) (n := 5000) (keep := [32]) mixed K_EA0a_ok (by kernel_rfl) (by as_aux_lemma => kernel_rfl)

noncomputable def I6558 : In := ⟨99, [(.ptr 3256 0), (.so 6838 0 4 1)], 6841, [(3256, (.cells 5 false [] (T.ofList 0 .leaf [(.ptr 3 0), (.so 6824 0 8 1), (.so 6826 0 3 1), (.so 6823 0 3 3), (.map 3255)]))), (6725, (.cells 1 true [] (T.ofList 0 .leaf [(.int .u8 76)]))), (6821, (.cells 1 true [] (T.ofList 0 .leaf [(.int .u8 76)]))), (6823, (.cells 9 true [] (T.ofList 0 .leaf [(.str 19 2439265639030268300842157990401791553877467498), .nils, (.int .u8 0), (.str 28 12051447909911140811364177168575840195048631602135540194265359868266), (.so 6725 0 1 1), (.int .u8 0), (.str 26 183890501555043540957095622503328518117729969598634276033028458), (.so 6821 0 1 1), (.int .u8 0)]))), (6824, (.cells 8 true [] (T.ofList 0 .leaf [(.int .u64 0), (.int .u64 0), (.int .u64 1), (.int .u64 0), (.int .u64 0), (.int .u64 2), (.int .u64 0), (.int .u64 0)]))), (6826, (.cells 3 true [] (T.ofList 0 .leaf [(.int .i64 0), (.int .i64 2), (.int .i64 5)]))), (6838, (.cells 4 true [] (T.ofList 0 .leaf [(.int .i64 1), (.int .i64 3), (.int .i64 6), (.int .i64 0)])))], (.tup [(.map 6851), (.int .i64 8)]), 6859, [(6851, (.map [((.int .i64 1), (.int .i64 1), 0), ((.int .i64 3), (.int .i64 3), 1), ((.int .i64 6), (.int .i64 6), 2)] 3))]⟩
theorem I6558_ok : InOk Tryz.prog I6558 := InOk.of_run (K := K_EA0a) (n := 5000) mixed K_EA0a_ok (by kernel_rfl) (by as_aux_lemma => kernel_rfl)

noncomputable def S5693 : Sum := ⟨(.tup [(.so 5 0 1 4), (.agg [(.int .u8 86), (.str 0 0), (.int .i64 0), (.int .u8 0)]), (.bool true)]), 6, [(5, (.cells 4 true [] (T.ofList 0 .leaf [(.int .u8 90), (.str 0 0), (.int .i64 0), (.int .u8 0)])))]⟩
theorem S5693_ok : SumOk Tryz.prog 157 [(.str 4 1445550632)] S5693 := SumOk.of_run (K := K_EA0a) (n := 5000) (keep := [5]) mixed K_EA0a_ok (by kernel_rfl) (by as_aux_lemma => kernel_rfl)

noncomputable def S5664 : Sum := ⟨(.tup [(.so 5 0 1 4), (.agg [(.int .u8 86), (.str 0 0), (.int .i64 0), (.int .u8 0)]), (.bool true)]), 6, [(5, (.cells 4 true [] (T.ofList 0 .leaf [(.int .u8 67), (.str 0 0), (.int .i64 0), (.int .u8 0)])))]⟩
theorem S5664_ok : SumOk Tryz.prog 157 [(.str 4 1445544744)] S5664 := SumOk.of_run (K := K_EA0a) (n := 5000) (keep := [5]) mixed K_EA0a_ok (by kernel_rfl) (by as_aux_lemma => kernel_rfl)

noncomputable def S5636 : Sum := ⟨(.tup [(.so 5 0 1 4), (.agg [(.int .u8 86), (.str 0 0), (.int .i64 0), (.int .u8 0)]), (.bool true)]), 6, [(5, (.cells 4 true [] (T.ofList 0 .leaf [(.int .u8 74), (.str 0 0), (.int .i64 0), (.int .u8 0)])))]⟩
theorem S5636_ok : SumOk Tryz.prog 157 [(.str 4 1445546536)] S5636 := SumOk.of_run (K := K_EA0a) (n := 5000) (keep := [5]) mixed K_EA0a_ok (by kernel_rfl) (by as_aux_lemma => kernel_rfl)

noncomputable def S5609 : Sum := ⟨(.tup [(.so 5 0 1 4), (.agg [(.int .u8 86), (.str 0 0), (.int .i64 0), (.int .u8 0)]), (.bool true)]), 6, [(5, (.cells 4 true [] (T.ofList 0 .leaf [(.int .u8 73), (.str 0 0), (.int .i64 0), (.int .u8 0)])))]⟩
theorem S5609_ok : SumOk Tryz.prog 157 [(.str 4 1445546280)] S5609 := SumOk.of_run (K := K_EA0a) (n := 5000) (keep := [5]) mixed K_EA0a_ok (by kernel_rfl) (by as_aux_lemma => kernel_rfl)

noncomputable def S3898 : Sum := ⟨(.tup [(.so 5 0 1 4), (.agg [(.int .u8 67), (.str 0 0), (.int .i64 0), (.int .u8 0)]), (.bool true)]), 11, [(5, (.cells 4 true [] (T.ofList 0 .leaf [(.int .u8 73), (.str 0 0), (.int .i64 0), (.int .u8 0)])))]⟩
theorem S3898_ok : SumOk Tryz.prog 157 [(.str 4 1126779176)] S3898 := SumOk.of_run (K := K_EA0a) (n := 5000) (keep := [5]) mixed K_EA0a_ok (by kernel_rfl) (by as_aux_lemma => kernel_rfl)

noncomputable def S3876 : Sum := ⟨(.tup [.nils, (.agg [(.int .u8 73), (.str 0 0), (.int .i64 0), (.int .u8 0)]), (.bool true)]), 6, []⟩
theorem S3876_ok : SumOk Tryz.prog 157 [(.str 3 4794664)] S3876 := SumOk.of_run (K := K_EA0a) (n := 5000) (keep := []) mixed K_EA0a_ok (by kernel_rfl) (by as_aux_lemma => kernel_rfl)

noncomputable def S3679 : Sum := ⟨(.int .i64 22), 33, []⟩
theorem S3679_ok : SumOk Tryz.prog 195 [(.str 16 145412635431568811361768410208787652970), (.str 9 2240157836546495640161), (.str 42 47114077528188198620056812491409661436452214172948092389280225155504520564545130501860034283798416424)] S3679 := SumOk.of_run (K := K_EA0a) (n := 5000) (keep := []) mixed K_EA0a_ok (by kernel_rfl) (by as_aux_lemma => kernel_rfl)

noncomputable def S3198 : Sum := ⟨(.int .i64 (-1)), 1, []⟩
theorem S3198_ok : SumOk Tryz.prog 368 [(.str 6 113723913172051), (.str 4 794508078)] S3198 := SumOk.of_run (K := K_EA0a) (n := 5000) (keep := []) mixed K_EA0a_ok (by kernel_rfl) (by as_aux_lemma => kernel_rfl)

noncomputable def S3196 : Sum := ⟨(.tup [(.so 12 0 6 1), (.bool true)]), 13, [(12, (.cells 6 true [] (T.ofList 0 .leaf [(.int .u16 83), (.int .u16 116), (.int .u16 114), (.int .u16 105), (.int .u16 110), (.int .u16 103)])))]⟩
theorem S3196_ok : SumOk Tryz.prog 197 [(.str 6 113723913172051)] S3196 := SumOk.of_run (K := K_EA0a) (n := 5000) (keep := [12]) mixed K_EA0a_ok (by kernel_rfl) (by as_aux_lemma => kernel_rfl)

noncomputable def S3153 : Sum := ⟨(.sl 0 0 3 3), 1, [(0, (.cells 3 false [(.str 0 0)] (T.ofList 0 .leaf [(.str 4 1635148138), (.str 4 1735287148), (.str 6 113723913172051)])))]⟩
theorem S3153_ok : SumOk Tryz.prog 423 [(.str 16 137483774941304901841256615957136564586), (.str 1 47), (.int .i64 0), (.int .i64 (-1))] S3153 := SumOk.of_run (K := K_EA0a) (n := 5000) (keep := [0]) mixed K_EA0a_ok (by kernel_rfl) (by as_aux_lemma => kernel_rfl)

noncomputable def S3129 : Sum := ⟨(.int .i64 3), 9, []⟩
theorem S3129_ok : SumOk Tryz.prog 195 [(.str 16 154706541852025644484233205990057992554), (.str 8 7453010373643562868), (.str 20 339137050467292191589805048747422779071890467112)] S3129 := SumOk.of_run (K := K_EA0a) (n := 5000) (keep := []) mixed K_EA0a_ok (by kernel_rfl) (by as_aux_lemma => kernel_rfl)

noncomputable def S3102 : Sum := ⟨(.int .i64 (-1)), 1, []⟩
theorem S3102_ok : SumOk Tryz.prog 368 [(.str 6 127970252055119), (.str 4 794508078)] S3102 := SumOk.of_run (K := K_EA0a) (n := 5000) (keep := []) mixed K_EA0a_ok (by kernel_rfl) (by as_aux_lemma => kernel_rfl)

noncomputable def S3100 : Sum := ⟨(.tup [(.so 12 0 6 1), (.bool true)]), 13, [(12, (.cells 6 true [] (T.ofList 0 .leaf [(.int .u16 79), (.int .u16 98), (.int .u16 106), (.int .u16 101), (.int .u16 99), (.int .u16 116)])))]⟩
theorem S3100_ok : SumOk Tryz.prog 197 [(.str 6 127970252055119)] S3100 := SumOk.of_run (K := K_EA0a) (n := 5000) (keep := [12]) mixed K_EA0a_ok (by kernel_rfl) (by as_aux_lemma => kernel_rfl)

noncomputable def S3082 : Sum := ⟨(.bool true), 10, []⟩
theorem S3082_ok : SumOk Tryz.prog 225 [(.str 4 1735287148)] S3082 := SumOk.of_run (K := K_EA0a) (n := 5000) (keep := []) mixed K_EA0a_ok (by kernel_rfl) (by as_aux_lemma => kernel_rfl)

noncomputable def S3065 : Sum := ⟨(.bool true), 10, []⟩
theorem S3065_ok : SumOk Tryz.prog 225 [(.str 4 1635148138)] S3065 := SumOk.of_run (K := K_EA0a) (n := 5000) (keep := []) mixed K_EA0a_ok (by kernel_rfl) (by as_aux_lemma => kernel_rfl)

noncomputable def S3057 : Sum := ⟨(.sl 0 0 3 3), 1, [(0, (.cells 3 false [(.str 0 0)] (T.ofList 0 .leaf [(.str 4 1635148138), (.str 4 1735287148), (.str 6 127970252055119)])))]⟩
theorem S3057_ok : SumOk Tryz.prog 423 [(.str 16 154706541852025644484233205990057992554), (.str 1 47), (.int .i64 0), (.int .i64 (-1))] S3057 := SumOk.of_run (K := K_EA0a) (n := 5000) (keep := [0]) mixed K_EA0a_ok (by kernel_rfl) (by as_aux_lemma => kernel_rfl)

noncomputable def S3035 : Sum := ⟨(.int .i64 2), 8, []⟩
theorem S3035_ok : SumOk Tryz.prog 195 [(.str 16 154706541852025644484233205990057992554), (.str 6 126909328748901), (.str 21 131770541864199680179943181369540662989170152197160)] S3035 := SumOk.of_run (K := K_EA0a) (n := 5000) (keep := []) mixed K_EA0a_ok (by kernel_rfl) (by as_aux_lemma => kernel_rfl)

noncomputable def S2638 : Sum := ⟨(.tup [(.str 16 154706541852025644484233205990057992554), (.so 14 0 8 3), (.bool true)]), 15, [(14, (.cells 24 true [] (T.ofList 0 .leaf [(.str 6 68669705972028), (.str 3 5646632), (.bool false), (.str 6 110425311047777), (.str 45 545365161084908818682307871509240926086432362262523517738950247884810123871997999633158636370693479484509224), (.bool false), (.str 6 110425311047777), (.str 28 6260485019439425252614312435813236600861718953314767591699208816936), (.bool false), (.str 6 110425311047777), (.str 28 6260485019439425252614312435813236600861718953314767591699208817192), (.bool false), (.str 6 110425311047777), (.str 28 6260485019439425252614312435813236600861718953314767591699208815400), (.bool false), (.str 6 110425311047777), (.str 28 6260485019439425252614312435813236600861718953314767591699208821288), (.bool false), (.str 6 114849160783212), (.str 3 4794664), (.bool false), (.str 8 7453010373643562868), (.str 20 339137050467292191589805048747422779071890467112), (.bool false)])))]⟩
theorem S2638_ok : SumOk Tryz.prog 70 [(.str 23 10956966084090815260342509131105871416374185281426186602)] S2638 := SumOk.of_run (K := K_EA0a) (n := 5000) (keep := [14]) mixed K_EA0a_ok (by kernel_rfl) (by as_aux_lemma => kernel_rfl)

noncomputable def S2629 : Sum := ⟨(.tup [(.str 16 154706541852025644484233205990057992554), (.so 10 0 10 3), (.bool true)]), 11, [(10, (.cells 30 true [] (T.ofList 0 .leaf [(.str 6 114849160783212), (.str 3 4794664), (.bool false), (.str 6 127824440682595), (.str 4 1126779176), (.bool false), (.str 6 127961628831587), (.str 38 7563008949852303964789352941943798567979605024965410989119580465925847369046121658274434088), (.bool false), (.str 6 126909328748901), (.str 21 131770541864199680179943181369540662989170152197160), (.bool false), (.str 6 121437607456361), (.str 20 339137050467292191589805048747422779071890467112), (.bool false), (.str 8 7453010373643562868), (.str 20 339137050467292191589805048747422779071890467112), (.bool false), (.str 7 28797744804815222), (.str 21 86819084919626801046990092479340231442403959589160), (.bool true), (.str 7 28797744804815222), (.str 21 86819084919626801046990092479340231442403959589416), (.bool true), (.str 7 28797744804815222), (.str 21 86819084919626801046990092479340231442403959587624), (.bool true), (.str 7 28797744804815222), (.str 21 86819084919626801046990092479340231442403959593512), (.bool true)])))]⟩
theorem S2629_ok : SumOk Tryz.prog 70 [(.str 16 137483774941304901841256615957136564586)] S2629 := SumOk.of_run (K := K_EA0a) (n := 5000) (keep := [10]) mixed K_EA0a_ok (by kernel_rfl) (by as_aux_lemma => kernel_rfl)

noncomputable def S461 : Sum := ⟨(.so 28 0 13 3), 29, [(28, (.cells 39 true [] (T.ofList 0 .leaf [(.str 5 500068610672), (.str 21 125924534186164816246133852188561726513007718714408), (.bool false), (.str 5 500068610672), (.str 4 1445546280), (.bool false), (.str 5 500068610672), (.str 4 1445546536), (.bool false), (.str 5 500068610672), (.str 4 1445544744), (.bool false), (.str 5 500068610672), (.str 4 1445550632), (.bool false), (.str 5 500068610672), (.str 21 125924535314876068507128442038675530910546422025256), (.bool false), (.str 7 31081494762582640), (.str 21 125924534186164816246133852188561726513007718714408), (.bool false), (.str 7 31081494762582640), (.str 4 1445546280), (.bool false), (.str 7 31081494762582640), (.str 4 1445546536), (.bool false), (.str 7 31081494762582640), (.str 4 1445544744), (.bool false), (.str 7 31081494762582640), (.str 4 1445550632), (.bool false), (.str 7 31081494762582640), (.str 21 125924535314876068507128442038675530910546422025256), (.bool false), (.str 7 31081494762582640), (.str 3 5646632), (.bool false)])))]⟩
theorem S461_ok : SumOk Tryz.prog 107 [(.str 19 2439265639030268300842157990401791553877467498)] S461 := SumOk.of_run (K := K_EA0a) (n := 5000) (keep := [28]) mixed K_EA0a_ok (by kernel_rfl) (by as_aux_lemma => kernel_rfl)

noncomputable def tab_EA0a : List (FuncId × SRows) := (107, [([(.str 19 2439265639030268300842157990401791553877467498)], S461)]) :: (70, [([(.str 23 10956966084090815260342509131105871416374185281426186602)], S2638), ([(.str 16 137483774941304901841256615957136564586)], S2629)]) :: (423, [([(.str 16 137483774941304901841256615957136564586), (.str 1 47), (.int .i64 0), (.int .i64 (-1))], S3153), ([(.str 16 154706541852025644484233205990057992554), (.str 1 47), (.int .i64 0), (.int .i64 (-1))], S3057)]) :: (195, [([(.str 16 145412635431568811361768410208787652970), (.str 9 2240157836546495640161), (.str 42 47114077528188198620056812491409661436452214172948092389280225155504520564545130501860034283798416424)], S3679), ([(.str 16 154706541852025644484233205990057992554), (.str 8 7453010373643562868), (.str 20 339137050467292191589805048747422779071890467112)], S3129), ([(.str 16 154706541852025644484233205990057992554), (.str 6 126909328748901), (.str 21 131770541864199680179943181369540662989170152197160)], S3035)]) :: (157, [([(.str 4 1445550632)], S5693), ([(.str 4 1445544744)], S5664), ([(.str 4 1445546536)], S5636), ([(.str 4 1445546280)], S5609), ([(.str 4 1126779176)], S3898), ([(.str 3 4794664)], S3876)]) :: (197, [([(.str 6 68669705972028)], S13974), ([(.str 16 154706541852025644484233205990057992554)], S13897), ([(.str 16 137483774941304901841256615957136564586)], S13820), ([(.str 6 113723913172051)], S3196), ([(.str 6 127970252055119)], S3100)]) :: (368, [([(.str 6 68669705972028), (.str 4 794508078)], S13989), ([(.str 6 113723913172051), (.str 4 794508078)], S3198), ([(.str 6 127970252055119), (.str 4 794508078)], S3102)]) :: (302, [([(.str 6 68669705972028), (.str 3 5646632), (.int .i64 10)], S14034)]) :: (296, [([(.str 1 77)], S14058)]) :: (225, [([(.str 2 28519)], S14228), ([(.str 4 1735287148)], S3082), ([(.str 4 1635148138)], S3065)]) :: (258, [([(.int .i64 189)], S45069), ([(.int .i64 172)], S14339), ([(.int .i64 83)], S14329), ([(.int .i64 183)], S14322), ([(.int .i64 89)], S14316), ([(.int .i64 187)], S14309)]) :: (260, [([(.int .i64 189)], S45123), ([(.int .i64 4)], S45118), ([(.int .i64 172)], S14406), ([(.int .i64 3)], S14401), ([(.int .i64 83)], S14396), ([(.int .i64 183)], S14377), ([(.int .i64 89)], S14372), ([(.int .i64 187)], S14357), ([(.int .i64 8)], S14352), ([(.int .i64 1)], S14347)]) :: []
theorem tab_EA0a_ok : TabOk Tryz.prog tab_EA0a := (TabOk.cons (RowsOk.cons S461_ok RowsOk.nil) (TabOk.cons (RowsOk.cons S2638_ok (RowsOk.cons S2629_ok RowsOk.nil)) (TabOk.cons (RowsOk.cons S3153_ok (RowsOk.cons S3057_ok RowsOk.nil)) (TabOk.cons (RowsOk.cons S3679_ok (RowsOk.cons S3129_ok (RowsOk.cons S3035_ok RowsOk.nil))) (TabOk.cons (RowsOk.cons S5693_ok (RowsOk.cons S5664_ok (RowsOk.cons S5636_ok (RowsOk.cons S5609_ok (RowsOk.cons S3898_ok (RowsOk.cons S3876_ok RowsOk.nil)))))) (TabOk.cons (RowsOk.cons S13974_ok (RowsOk.cons S13897_ok (RowsOk.cons S13820_ok (RowsOk.cons S3196_ok (RowsOk.cons S3100_ok RowsOk.nil))))) (TabOk.cons (RowsOk.cons S13989_ok (RowsOk.cons S3198_ok (RowsOk.cons S3102_ok RowsOk.nil))) (TabOk.cons (RowsOk.cons S14034_ok RowsOk.nil) (TabOk.cons (RowsOk.cons S14058_ok RowsOk.nil) (TabOk.cons (RowsOk.cons S14228_ok (RowsOk.cons S3082_ok (RowsOk.cons S3065_ok RowsOk.nil))) (TabOk.cons (RowsOk.cons S45069_ok (RowsOk.cons S14339_ok (RowsOk.cons S14329_ok (RowsOk.cons S14322_ok (RowsOk.cons S14316_ok (RowsOk.cons S14309_ok RowsOk.nil)))))) (TabOk.cons (RowsOk.cons S45123_ok (RowsOk.cons S45118_ok (RowsOk.cons S14406_ok (RowsOk.cons S14401_ok (RowsOk.cons S14396_ok (RowsOk.cons S14377_ok (RowsOk.cons S14372_ok (RowsOk.cons S14357_ok (RowsOk.cons S14352_ok (RowsOk.cons S14347_ok RowsOk.nil)))))))))) TabOk.nil))))))))))))
noncomputable def H_EA0a : Hand := ((inHand I6558).or (sumsHand tab_EA0a))
theorem H_EA0a_ok : HandOk Tryz.prog H_EA0a := (HandOk.or (inHand_ok I6558_ok (by kernel_rfl)) (sumsHand_ok tab_EA0a_ok))
end Go.Proofs.YtkckdnjocncnhaaGreatDoor.ea
