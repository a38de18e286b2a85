/-
  Contracts of calls, by the kernel.
-/
import Derived.Test.YtgejhjencodinaaGreatDoorXN3
import Derived.Test.YtgejhjencodinaaGreatDoorProg
import Derived.KernelRfl
import Derived.Test.YtgejhjencodinaaGreatDoorNT0a
set_option linter.unusedSectionVars false
set_option linter.unusedVariables false
set_option maxRecDepth 1000000
set_option maxHeartbeats 0
namespace Go.Proofs.YtgejhjencodinaaGreatDoor.nt
open Go.X Go.RowKit
variable [Tab]
noncomputable def K_NT1a : Hand := H_NT0a
theorem K_NT1a_ok : HandOk Tryz.prog K_NT1a := H_NT0a_ok

noncomputable def I80048 : In := ⟨8, [(.ptr 9899 0), (.str 26 183890501555043540957095622503328518117729969598634276033028458)], 13807, [(6644, (.map [] 0)), q0, q1, q2, q3, q4, q5, q8, q6, q7, (13332, (.cells 1 true [] (T.ofList 0 .leaf [(.int .u8 76)]))), q9, q10, q11], (.int .i64 9), 13823, [(6644, (.map [] 0)), q0, q1, q2, q3, q4, q5, q8, q6, (9899, (.cells 5 false [] (T.ofList 0 .leaf [(.ptr 6646 0), (.so 13820 0 11 1), (.so 13822 0 3 1), (.so 13352 0 2 3), (.map 9898)]))), (13332, (.cells 1 true [] (T.ofList 0 .leaf [(.int .u8 76)]))), q9, (13820, (.cells 11 true [] (T.ofList 0 .leaf [(.int .u64 0), (.int .u64 0), (.int .u64 0), (.int .u64 1), (.int .u64 0), (.int .u64 7), (.oi 31), (.oi 54), (.int .u64 0), (.int .u64 0), (.int .u64 0)]))), (13822, (.cells 3 true [] (T.ofList 0 .leaf [(.int .i64 0), (.int .i64 3), (.int .i64 8)])))]⟩
theorem I80048_ok : InOk Tryz.prog I80048 := InOk.of_run (K := K_NT1a) (n := 5000) mixed K_NT1a_ok (by kernel_rfl) (by as_aux_lemma => kernel_rfl)

noncomputable def I66504 : In := ⟨8, [(.ptr 9899 0), (.str 26 183890501555043540957095622503328518117729969598634276033028458)], 13814, [(6644, (.map [] 0)), q0, q1, q2, q3, q4, q5, q8, q6, q7, (13332, (.cells 1 true [] (T.ofList 0 .leaf [(.int .u8 76)]))), q9, q12, q11], (.int .i64 9), 13830, [(6644, (.map [] 0)), q0, q1, q2, q3, q4, q5, q8, q6, (9899, (.cells 5 false [] (T.ofList 0 .leaf [(.ptr 6646 0), (.so 13827 0 11 1), (.so 13829 0 3 1), (.so 13352 0 2 3), (.map 9898)]))), (13332, (.cells 1 true [] (T.ofList 0 .leaf [(.int .u8 76)]))), q9, (13827, (.cells 11 true [] (T.ofList 0 .leaf [(.int .u64 0), (.int .u64 0), (.int .u64 4), (.int .u64 1), (.int .u64 0), (.int .u64 7), (.oi 31), (.oi 54), (.int .u64 0), (.int .u64 0), (.int .u64 0)]))), (13829, (.cells 3 true [] (T.ofList 0 .leaf [(.int .i64 0), (.int .i64 3), (.int .i64 8)])))]⟩
theorem I66504_ok : InOk Tryz.prog I66504 := InOk.of_run (K := K_NT1a) (n := 5000) mixed K_NT1a_ok (by kernel_rfl) (by as_aux_lemma => kernel_rfl)

noncomputable def I66254 : In := ⟨57, [(.ptr 6646 0), (.str 16 137483774941304901841256615957136564586), (.str 16 137483774941304901841256615957136564586)], 13590, [(6644, (.map [] 0)), q0, q1, q13], (.bool true), 13597, [(6644, (.map [] 0)), q0, q1, q13]⟩
theorem I66254_ok : InOk Tryz.prog I66254 := InOk.of_run (K := K_NT1a) (n := 5000) mixed K_NT1a_ok (by kernel_rfl) (by as_aux_lemma => kernel_rfl)

noncomputable def S66163 : Sum := ⟨(.bool true), 56, []⟩
theorem S66163_ok : SumOk Tryz.prog 119 [(.str 26 183890501555043540957095622503328518117729969598634276033028458)] S66163 := SumOk.of_run (K := K_NT1a) (n := 5000) (keep := []) mixed K_NT1a_ok (by kernel_rfl) (by as_aux_lemma => kernel_rfl)

noncomputable def I65994 : In := ⟨25, [(.ptr 9899 0), (.str 16 137483774941304901841256615957136564586)], 13338, [(6644, (.map [] 0)), q0, q1, q3, q13, q14, q15, q16], (.int .i64 1), 13353, [(6644, (.map [] 0)), q0, q1, q3, q13, q6, q17, q9]⟩
theorem I65994_ok : InOk Tryz.prog I65994 := InOk.of_run (K := K_NT1a) (n := 5000) mixed K_NT1a_ok (by kernel_rfl) (by as_aux_lemma => kernel_rfl)

noncomputable def I52973 : In := ⟨8, [(.ptr 9899 0), (.str 26 177462528906270532328520934635542489792491443287338843928682858)], 13791, [(6644, (.map [] 0)), q0, q1, q21, q3, q22, q5, q8, q23, q7, (13332, (.cells 1 true [] (T.ofList 0 .leaf [(.int .u8 76)]))), q24, q10, q11], (.int .i64 9), 13807, [(6644, (.map [] 0)), q0, q1, q21, q3, q22, q5, q8, q23, (9899, (.cells 5 false [] (T.ofList 0 .leaf [(.ptr 6646 0), (.so 13804 0 11 1), (.so 13806 0 3 1), (.so 13352 0 2 3), (.map 9898)]))), (13332, (.cells 1 true [] (T.ofList 0 .leaf [(.int .u8 76)]))), q24, (13804, (.cells 11 true [] (T.ofList 0 .leaf [(.int .u64 0), (.int .u64 0), (.int .u64 0), (.int .u64 1), (.int .u64 0), (.int .u64 7), (.oi 31), (.oi 54), (.int .u64 0), (.int .u64 0), (.int .u64 0)]))), (13806, (.cells 3 true [] (T.ofList 0 .leaf [(.int .i64 0), (.int .i64 3), (.int .i64 8)])))]⟩
theorem I52973_ok : InOk Tryz.prog I52973 := InOk.of_run (K := K_NT1a) (n := 5000) mixed K_NT1a_ok (by kernel_rfl) (by as_aux_lemma => kernel_rfl)

noncomputable def I39429 : In := ⟨8, [(.ptr 9899 0), (.str 26 177462528906270532328520934635542489792491443287338843928682858)], 13798, [(6644, (.map [] 0)), q0, q1, q21, q3, q22, q5, q8, q23, q7, (13332, (.cells 1 true [] (T.ofList 0 .leaf [(.int .u8 76)]))), q24, q12, q11], (.int .i64 9), 13814, [(6644, (.map [] 0)), q0, q1, q21, q3, q22, q5, q8, q23, (9899, (.cells 5 false [] (T.ofList 0 .leaf [(.ptr 6646 0), (.so 13811 0 11 1), (.so 13813 0 3 1), (.so 13352 0 2 3), (.map 9898)]))), (13332, (.cells 1 true [] (T.ofList 0 .leaf [(.int .u8 76)]))), q24, (13811, (.cells 11 true [] (T.ofList 0 .leaf [(.int .u64 0), (.int .u64 0), (.int .u64 4), (.int .u64 1), (.int .u64 0), (.int .u64 7), (.oi 31), (.oi 54), (.int .u64 0), (.int .u64 0), (.int .u64 0)]))), (13813, (.cells 3 true [] (T.ofList 0 .leaf [(.int .i64 0), (.int .i64 3), (.int .i64 8)])))]⟩
theorem I39429_ok : InOk Tryz.prog I39429 := InOk.of_run (K := K_NT1a) (n := 5000) mixed K_NT1a_ok (by kernel_rfl) (by as_aux_lemma => kernel_rfl)

noncomputable def I39179 : In := ⟨57, [(.ptr 6646 0), (.str 16 137483774941304901841256615957136564586), (.str 16 137483774941304901841256615957136564586)], 13574, [(6644, (.map [] 0)), q0, q1, q13], (.bool true), 13581, [(6644, (.map [] 0)), q0, q1, q13]⟩
theorem I39179_ok : InOk Tryz.prog I39179 := InOk.of_run (K := K_NT1a) (n := 5000) mixed K_NT1a_ok (by kernel_rfl) (by as_aux_lemma => kernel_rfl)

noncomputable def S39088 : Sum := ⟨(.bool true), 56, []⟩
theorem S39088_ok : SumOk Tryz.prog 119 [(.str 26 177462528906270532328520934635542489792491443287338843928682858)] S39088 := SumOk.of_run (K := K_NT1a) (n := 5000) (keep := []) mixed K_NT1a_ok (by kernel_rfl) (by as_aux_lemma => kernel_rfl)

noncomputable def I38919 : In := ⟨25, [(.ptr 9899 0), (.str 16 137483774941304901841256615957136564586)], 13338, [(6644, (.map [] 0)), q0, q1, q3, q13, q25, q15, q26], (.int .i64 1), 13353, [(6644, (.map [] 0)), q0, q1, q3, q13, q23, q17, q24]⟩
theorem I38919_ok : InOk Tryz.prog I38919 := InOk.of_run (K := K_NT1a) (n := 5000) mixed K_NT1a_ok (by kernel_rfl) (by as_aux_lemma => kernel_rfl)

noncomputable def I26312 : In := ⟨57, [(.ptr 6646 0), (.str 19 2261816869159440624969593107871851903301607786), (.str 19 2261816869159440624969593107871851903301607786)], 13958, [(6644, (.map [] 0)), q0, q1, q5], (.bool true), 13965, [(6644, (.map [] 0)), q0, q1, q5]⟩
theorem I26312_ok : InOk Tryz.prog I26312 := InOk.of_run (K := K_NT1a) (n := 5000) mixed K_NT1a_ok (by kernel_rfl) (by as_aux_lemma => kernel_rfl)

noncomputable def I26196 : In := ⟨57, [(.ptr 6646 0), (.str 19 2261816869159440624969593107871851903301607786), (.str 19 2261816869159440624969593107871851903301607786)], 13805, [(6644, (.map [] 0)), q0, q1, q5], (.bool true), 13812, [(6644, (.map [] 0)), q0, q1, q5]⟩
theorem I26196_ok : InOk Tryz.prog I26196 := InOk.of_run (K := K_NT1a) (n := 5000) mixed K_NT1a_ok (by kernel_rfl) (by as_aux_lemma => kernel_rfl)

noncomputable def I26073 : In := ⟨8, [(.ptr 9899 0), (.str 19 2261816869159440624969593107871851903301607786)], 13649, [(6644, (.map [] 0)), q0, q1, q3, q5, q8, q27, q28, (13320, (.cells 1 true [] (T.ofList 0 .leaf [(.int .u8 76)]))), q29, (13341, (.cells 8 true [] (T.ofList 0 .leaf [(.int .u64 0), (.int .u64 0), (.int .u64 0), (.int .u64 1), (.int .u64 0), (.int .u64 7), (.oi 31), (.oi 54)]))), q30], (.int .i64 9), 13661, [(6644, (.map [] 0)), q0, q1, q3, q5, q8, q27, (9899, (.cells 5 false [] (T.ofList 0 .leaf [(.ptr 6646 0), (.so 13658 0 11 1), (.so 13660 0 3 1), (.so 13340 0 2 3), (.map 9898)]))), (13320, (.cells 1 true [] (T.ofList 0 .leaf [(.int .u8 76)]))), q29, (13658, (.cells 11 true [] (T.ofList 0 .leaf [(.int .u64 0), (.int .u64 0), (.int .u64 0), (.int .u64 1), (.int .u64 0), (.int .u64 7), (.oi 31), (.oi 54), (.int .u64 0), (.int .u64 0), (.int .u64 0)]))), (13660, (.cells 3 true [] (T.ofList 0 .leaf [(.int .i64 0), (.int .i64 3), (.int .i64 8)])))]⟩
theorem I26073_ok : InOk Tryz.prog I26073 := InOk.of_run (K := K_NT1a) (n := 5000) mixed K_NT1a_ok (by kernel_rfl) (by as_aux_lemma => kernel_rfl)

noncomputable def I26042 : In := ⟨57, [(.ptr 6646 0), (.str 19 2261816869159440624969593107871851903301607786), (.str 19 2261816869159440624969593107871851903301607786)], 13642, [(6644, (.map [] 0)), q0, q1, q5], (.bool true), 13649, [(6644, (.map [] 0)), q0, q1, q5]⟩
theorem I26042_ok : InOk Tryz.prog I26042 := InOk.of_run (K := K_NT1a) (n := 5000) mixed K_NT1a_ok (by kernel_rfl) (by as_aux_lemma => kernel_rfl)

noncomputable def I13134 : In := ⟨57, [(.ptr 6646 0), (.str 19 2261816869159440624969593107871851903301607786), (.str 19 2261816869159440624969593107871851903301607786)], 13965, [(6644, (.map [] 0)), q0, q1, q5], (.bool true), 13972, [(6644, (.map [] 0)), q0, q1, q5]⟩
theorem I13134_ok : InOk Tryz.prog I13134 := InOk.of_run (K := K_NT1a) (n := 5000) mixed K_NT1a_ok (by kernel_rfl) (by as_aux_lemma => kernel_rfl)

noncomputable def I13018 : In := ⟨57, [(.ptr 6646 0), (.str 19 2261816869159440624969593107871851903301607786), (.str 19 2261816869159440624969593107871851903301607786)], 13812, [(6644, (.map [] 0)), q0, q1, q5], (.bool true), 13819, [(6644, (.map [] 0)), q0, q1, q5]⟩
theorem I13018_ok : InOk Tryz.prog I13018 := InOk.of_run (K := K_NT1a) (n := 5000) mixed K_NT1a_ok (by kernel_rfl) (by as_aux_lemma => kernel_rfl)

noncomputable def I12895 : In := ⟨8, [(.ptr 9899 0), (.str 19 2261816869159440624969593107871851903301607786)], 13656, [(6644, (.map [] 0)), q0, q1, q3, q5, q8, q27, q28, (13320, (.cells 1 true [] (T.ofList 0 .leaf [(.int .u8 76)]))), q29, (13341, (.cells 8 true [] (T.ofList 0 .leaf [(.int .u64 0), (.int .u64 0), (.int .u64 4), (.int .u64 1), (.int .u64 0), (.int .u64 7), (.oi 31), (.oi 54)]))), q30], (.int .i64 9), 13668, [(6644, (.map [] 0)), q0, q1, q3, q5, q8, q27, (9899, (.cells 5 false [] (T.ofList 0 .leaf [(.ptr 6646 0), (.so 13665 0 11 1), (.so 13667 0 3 1), (.so 13340 0 2 3), (.map 9898)]))), (13320, (.cells 1 true [] (T.ofList 0 .leaf [(.int .u8 76)]))), q29, (13665, (.cells 11 true [] (T.ofList 0 .leaf [(.int .u64 0), (.int .u64 0), (.int .u64 4), (.int .u64 1), (.int .u64 0), (.int .u64 7), (.oi 31), (.oi 54), (.int .u64 0), (.int .u64 0), (.int .u64 0)]))), (13667, (.cells 3 true [] (T.ofList 0 .leaf [(.int .i64 0), (.int .i64 3), (.int .i64 8)])))]⟩
theorem I12895_ok : InOk Tryz.prog I12895 := InOk.of_run (K := K_NT1a) (n := 5000) mixed K_NT1a_ok (by kernel_rfl) (by as_aux_lemma => kernel_rfl)

noncomputable def I12864 : In := ⟨57, [(.ptr 6646 0), (.str 19 2261816869159440624969593107871851903301607786), (.str 19 2261816869159440624969593107871851903301607786)], 13649, [(6644, (.map [] 0)), q0, q1, q5], (.bool true), 13656, [(6644, (.map [] 0)), q0, q1, q5]⟩
theorem I12864_ok : InOk Tryz.prog I12864 := InOk.of_run (K := K_NT1a) (n := 5000) mixed K_NT1a_ok (by kernel_rfl) (by as_aux_lemma => kernel_rfl)

noncomputable def I12727 : In := ⟨57, [(.ptr 6646 0), (.str 16 137483774941304901841256615957136564586), (.str 16 137483774941304901841256615957136564586)], 13496, [(6644, (.map [] 0)), q0, q1, q13], (.bool true), 13503, [(6644, (.map [] 0)), q0, q1, q13]⟩
theorem I12727_ok : InOk Tryz.prog I12727 := InOk.of_run (K := K_NT1a) (n := 5000) mixed K_NT1a_ok (by kernel_rfl) (by as_aux_lemma => kernel_rfl)

noncomputable def I12709 : In := ⟨57, [(.ptr 6646 0), (.str 19 2261816869159440624969593107871851903301607786), (.str 19 2261816869159440624969593107871851903301607786)], 13489, [(6644, (.map [] 0)), q0, q1, q5], (.bool true), 13496, [(6644, (.map [] 0)), q0, q1, q5]⟩
theorem I12709_ok : InOk Tryz.prog I12709 := InOk.of_run (K := K_NT1a) (n := 5000) mixed K_NT1a_ok (by kernel_rfl) (by as_aux_lemma => kernel_rfl)

noncomputable def I12552 : In := ⟨25, [(.ptr 9899 0), (.str 16 137483774941304901841256615957136564586)], 13326, [(6644, (.map [] 0)), q0, q1, q3, q13, q31, q32, q33], (.int .i64 1), 13341, [(6644, (.map [] 0)), q0, q1, q3, q13, q27, (9899, (.cells 5 false [] (T.ofList 0 .leaf [(.ptr 6646 0), (.so 13323 0 3 1), (.so 13325 0 1 1), (.so 13340 0 2 3), (.map 9898)]))), q29]⟩
theorem I12552_ok : InOk Tryz.prog I12552 := InOk.of_run (K := K_NT1a) (n := 5000) mixed K_NT1a_ok (by kernel_rfl) (by as_aux_lemma => kernel_rfl)

noncomputable def I6226 : In := ⟨57, [(.ptr 2 0), (.str 16 137483774941304901841256615957136564586), (.str 16 137483774941304901841256615957136564586)], 6637, [(0, (.map [] 0)), q34, q35, q36], (.bool true), 6644, [(0, (.map [] 0)), q34, q35, q36]⟩
theorem I6226_ok : InOk Tryz.prog I6226 := InOk.of_run (K := K_NT1a) (n := 5000) mixed K_NT1a_ok (by kernel_rfl) (by as_aux_lemma => kernel_rfl)

noncomputable def I6177 : In := ⟨25, [(.ptr 3255 0), (.str 16 137483774941304901841256615957136564586)], 6599, [(0, (.map [] 0)), q34, q35, q37, q36, (3254, (.map [] 0)), (3255, (.cells 5 false [] (T.ofList 0 .leaf [(.ptr 2 0), .nils, .nils, .nils, (.map 3254)])))], (.int .i64 0), 6614, [(0, (.map [] 0)), q34, q35, q37, q36, (3255, (.cells 5 false [] (T.ofList 0 .leaf [(.ptr 2 0), .nils, .nils, (.so 6613 0 1 3), (.map 3254)]))), (6613, (.cells 3 true [] (T.ofList 0 .leaf [(.str 16 137483774941304901841256615957136564586), .nils, (.int .u8 67)])))]⟩
theorem I6177_ok : InOk Tryz.prog I6177 := InOk.of_run (K := K_NT1a) (n := 5000) mixed K_NT1a_ok (by kernel_rfl) (by as_aux_lemma => kernel_rfl)

noncomputable def S4905 : Sum := ⟨(.tup [(.agg [(.int .u8 76), (.str 23 10956966084090815260342509131105871416374185281426186602), (.int .i64 0), (.int .u8 0)]), (.int .i64 25)]), 52, []⟩
theorem S4905_ok : SumOk Tryz.prog 90 [(.str 25 373153985705341413772959258306815421632630762655423140031052)] S4905 := SumOk.of_run (K := K_NT1a) (n := 5000) (keep := []) mixed K_NT1a_ok (by kernel_rfl) (by as_aux_lemma => kernel_rfl)

noncomputable def S3862 : Sum := ⟨(.int .i64 4), 18, []⟩
theorem S3862_ok : SumOk Tryz.prog 11 [(.str 16 137483774941304901841256615957136564586), (.str 6 114849160783212), (.str 3 4794664)] S3862 := SumOk.of_run (K := K_NT1a) (n := 5000) (keep := []) mixed K_NT1a_ok (by kernel_rfl) (by as_aux_lemma => kernel_rfl)

noncomputable def S3147 : Sum := ⟨(.bool true), 35, []⟩
theorem S3147_ok : SumOk Tryz.prog 119 [(.str 16 137483774941304901841256615957136564586)] S3147 := SumOk.of_run (K := K_NT1a) (n := 5000) (keep := []) mixed K_NT1a_ok (by kernel_rfl) (by as_aux_lemma => kernel_rfl)

noncomputable def S3051 : Sum := ⟨(.bool true), 35, []⟩
theorem S3051_ok : SumOk Tryz.prog 119 [(.str 16 154706541852025644484233205990057992554)] S3051 := SumOk.of_run (K := K_NT1a) (n := 5000) (keep := []) mixed K_NT1a_ok (by kernel_rfl) (by as_aux_lemma => kernel_rfl)

noncomputable def S2744 : Sum := ⟨(.tup [(.str 16 154706541852025644484233205990057992554), (.so 80 0 3 3), (.bool true)]), 81, [(80, (.cells 9 true [] (T.ofList 0 .leaf [(.str 6 68669705972028), (.str 3 5646632), (.bool false), (.str 6 68669705972028), (.str 21 125924534186164816246133852188561726513007718714408), (.bool false), (.str 10 478866051492549179499879), (.str 20 339137050467292191589805048747422779071890467112), (.bool false)])))]⟩
theorem S2744_ok : SumOk Tryz.prog 30 [(.str 19 2261816869159440624969593107871851903301607786)] S2744 := SumOk.of_run (K := K_NT1a) (n := 5000) (keep := [80]) mixed K_NT1a_ok (by kernel_rfl) (by as_aux_lemma => kernel_rfl)

noncomputable def S2636 : Sum := ⟨(.tup [(.str 16 154706541852025644484233205990057992554), (.so 14 0 8 3), (.bool true)]), 15, [(14, (.cells 24 true [] (T.ofList 0 .leaf [(.str 6 68669705972028), (.str 3 5646632), (.bool false), (.str 6 110425311047777), (.str 45 545365161084908818682307871509240926086432362262523517738950247884810123871997999633158636370693479484509224), (.bool false), (.str 6 110425311047777), (.str 28 6260485019439425252614312435813236600861718953314767591699208816936), (.bool false), (.str 6 110425311047777), (.str 28 6260485019439425252614312435813236600861718953314767591699208817192), (.bool false), (.str 6 110425311047777), (.str 28 6260485019439425252614312435813236600861718953314767591699208815400), (.bool false), (.str 6 110425311047777), (.str 28 6260485019439425252614312435813236600861718953314767591699208821288), (.bool false), (.str 6 114849160783212), (.str 3 4794664), (.bool false), (.str 8 7453010373643562868), (.str 20 339137050467292191589805048747422779071890467112), (.bool false)])))]⟩
theorem S2636_ok : SumOk Tryz.prog 30 [(.str 23 10956966084090815260342509131105871416374185281426186602)] S2636 := SumOk.of_run (K := K_NT1a) (n := 5000) (keep := [14]) mixed K_NT1a_ok (by kernel_rfl) (by as_aux_lemma => kernel_rfl)

noncomputable def S2447 : Sum := ⟨(.tup [(.str 19 2462787319999361794871408518597065734545105258), (.sl 81 0 2 2), (.bool true)]), 82, [(81, (.cells 6 false [] (T.ofList 0 .leaf [(.str 6 68669705972028), (.str 3 5646632), (.bool false), (.str 6 68669705972028), (.str 21 125924534186164816246133852188561726513007718714408), (.bool false)])))]⟩
theorem S2447_ok : SumOk Tryz.prog 30 [(.str 26 177462528906270532328520934635542489792491443287338843928682858)] S2447 := SumOk.of_run (K := K_NT1a) (n := 5000) (keep := [81]) mixed K_NT1a_ok (by kernel_rfl) (by as_aux_lemma => kernel_rfl)

noncomputable def S2357 : Sum := ⟨(.tup [(.str 15 594182256714433171583859471190221162), (.sl 97 0 2 2), (.bool true)]), 98, [(97, (.cells 6 false [] (T.ofList 0 .leaf [(.str 6 68669705972028), (.str 3 5646632), (.bool false), (.str 6 68669705972028), (.str 21 125924534186164816246133852188561726513007718714408), (.bool false)])))]⟩
theorem S2357_ok : SumOk Tryz.prog 30 [(.str 26 183890501555043540957095622503328518117729969598634276033028458)] S2357 := SumOk.of_run (K := K_NT1a) (n := 5000) (keep := [97]) mixed K_NT1a_ok (by kernel_rfl) (by as_aux_lemma => kernel_rfl)

noncomputable def S455 : Sum := ⟨(.tup [(.str 16 154706541852025644484233205990057992554), (.so 29 0 13 3), (.bool true)]), 30, [(29, (.cells 39 true [] (T.ofList 0 .leaf [(.str 5 500068610672), (.str 21 125924534186164816246133852188561726513007718714408), (.bool false), (.str 5 500068610672), (.str 4 1445546280), (.bool false), (.str 5 500068610672), (.str 4 1445546536), (.bool false), (.str 5 500068610672), (.str 4 1445544744), (.bool false), (.str 5 500068610672), (.str 4 1445550632), (.bool false), (.str 5 500068610672), (.str 21 125924535314876068507128442038675530910546422025256), (.bool false), (.str 7 31081494762582640), (.str 21 125924534186164816246133852188561726513007718714408), (.bool false), (.str 7 31081494762582640), (.str 4 1445546280), (.bool false), (.str 7 31081494762582640), (.str 4 1445546536), (.bool false), (.str 7 31081494762582640), (.str 4 1445544744), (.bool false), (.str 7 31081494762582640), (.str 4 1445550632), (.bool false), (.str 7 31081494762582640), (.str 21 125924535314876068507128442038675530910546422025256), (.bool false), (.str 7 31081494762582640), (.str 3 5646632), (.bool false)])))]⟩
theorem S455_ok : SumOk Tryz.prog 30 [(.str 19 2439265639030268300842157990401791553877467498)] S455 := SumOk.of_run (K := K_NT1a) (n := 5000) (keep := [29]) mixed K_NT1a_ok (by kernel_rfl) (by as_aux_lemma => kernel_rfl)

noncomputable def tab_NT1a : List (FuncId × SRows) := (30, [([(.str 19 2261816869159440624969593107871851903301607786)], S2744), ([(.str 23 10956966084090815260342509131105871416374185281426186602)], S2636), ([(.str 26 177462528906270532328520934635542489792491443287338843928682858)], S2447), ([(.str 26 183890501555043540957095622503328518117729969598634276033028458)], S2357), ([(.str 19 2439265639030268300842157990401791553877467498)], S455)]) :: (11, [([(.str 16 137483774941304901841256615957136564586), (.str 6 114849160783212), (.str 3 4794664)], S3862)]) :: (90, [([(.str 25 373153985705341413772959258306815421632630762655423140031052)], S4905)]) :: (119, [([(.str 26 183890501555043540957095622503328518117729969598634276033028458)], S66163), ([(.str 26 177462528906270532328520934635542489792491443287338843928682858)], S39088), ([(.str 16 137483774941304901841256615957136564586)], S3147), ([(.str 16 154706541852025644484233205990057992554)], S3051)]) :: []
theorem tab_NT1a_ok : TabOk Tryz.prog tab_NT1a := (TabOk.cons (RowsOk.cons S2744_ok (RowsOk.cons S2636_ok (RowsOk.cons S2447_ok (RowsOk.cons S2357_ok (RowsOk.cons S455_ok RowsOk.nil))))) (TabOk.cons (RowsOk.cons S3862_ok RowsOk.nil) (TabOk.cons (RowsOk.cons S4905_ok RowsOk.nil) (TabOk.cons (RowsOk.cons S66163_ok (RowsOk.cons S39088_ok (RowsOk.cons S3147_ok (RowsOk.cons S3051_ok RowsOk.nil)))) TabOk.nil))))
noncomputable def H_NT1a : Hand := (((Hand.at 25 (Hand.sp 13338 ((inHand I12552).or (inHand I6177)) ((inHand I38919).or (inHand I65994)))).or ((Hand.at 57 (Hand.sp 13642 (Hand.sp 13496 ((inHand I12709).or (inHand I6226)) (Hand.sp 13574 (inHand I12727) ((inHand I66254).or (inHand I39179)))) (Hand.sp 13812 (Hand.sp 13649 (inHand I26042) ((inHand I26196).or (inHand I12864))) (Hand.sp 13958 (inHand I13018) ((inHand I13134).or (inHand I26312)))))).or (Hand.at 8 (Hand.sp 13798 (Hand.sp 13656 (inHand I26073) ((inHand I52973).or (inHand I12895))) (Hand.sp 13807 (inHand I39429) ((inHand I66504).or (inHand I80048))))))).or (sumsHand tab_NT1a))
theorem H_NT1a_ok : HandOk Tryz.prog H_NT1a := (HandOk.or (HandOk.or (HandOk.at 25 (HandOk.sp 13338 (HandOk.or (inHand_ok I12552_ok (by kernel_rfl)) (inHand_ok I6177_ok (by kernel_rfl))) (HandOk.or (inHand_ok I38919_ok (by kernel_rfl)) (inHand_ok I65994_ok (by kernel_rfl))))) (HandOk.or (HandOk.at 57 (HandOk.sp 13642 (HandOk.sp 13496 (HandOk.or (inHand_ok I12709_ok (by kernel_rfl)) (inHand_ok I6226_ok (by kernel_rfl))) (HandOk.sp 13574 (inHand_ok I12727_ok (by kernel_rfl)) (HandOk.or (inHand_ok I66254_ok (by kernel_rfl)) (inHand_ok I39179_ok (by kernel_rfl))))) (HandOk.sp 13812 (HandOk.sp 13649 (inHand_ok I26042_ok (by kernel_rfl)) (HandOk.or (inHand_ok I26196_ok (by kernel_rfl)) (inHand_ok I12864_ok (by kernel_rfl)))) (HandOk.sp 13958 (inHand_ok I13018_ok (by kernel_rfl)) (HandOk.or (inHand_ok I13134_ok (by kernel_rfl)) (inHand_ok I26312_ok (by kernel_rfl))))))) (HandOk.at 8 (HandOk.sp 13798 (HandOk.sp 13656 (inHand_ok I26073_ok (by kernel_rfl)) (HandOk.or (inHand_ok I52973_ok (by kernel_rfl)) (inHand_ok I12895_ok (by kernel_rfl)))) (HandOk.sp 13807 (inHand_ok I39429_ok (by kernel_rfl)) (HandOk.or (inHand_ok I66504_ok (by kernel_rfl)) (inHand_ok I80048_ok (by kernel_rfl)))))))) (sumsHand_ok tab_NT1a_ok))
end Go.Proofs.YtgejhjencodinaaGreatDoor.nt
