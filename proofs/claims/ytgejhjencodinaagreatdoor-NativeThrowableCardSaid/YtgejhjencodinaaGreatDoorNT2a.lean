/-
  Contracts of calls, by the kernel.
-/
import Derived.Test.YtgejhjencodinaaGreatDoorXN3
import Derived.Test.YtgejhjencodinaaGreatDoorProg
import Derived.KernelRfl
import Derived.Test.YtgejhjencodinaaGreatDoorNT0a
import Derived.Test.YtgejhjencodinaaGreatDoorNT1a
set_option linter.unusedSectionVars false
set_option linter.unusedVariables false
set_option maxRecDepth 1000000
set_option maxHeartbeats 0
namespace Go.Proofs.YtgejhjencodinaaGreatDoor.nt
open Go.X Go.RowKit
variable [Tab]
noncomputable def K_NT2a : Hand := ((H_NT1a).or H_NT0a)
theorem K_NT2a_ok : HandOk Tryz.prog K_NT2a := (HandOk.or H_NT1a_ok H_NT0a_ok)

noncomputable def I80380 : In := ⟨57, [(.ptr 6646 0), (.str 26 183890501555043540957095622503328518117729969598634276033028458), (.str 19 2261816869159440624969593107871851903301607786)], 14202, [(6644, (.map [] 0)), q0, q1, q2, q3, q4, q5], (.bool true), 14273, [(6644, (.map [] 0)), q0, q1, q2, q3, q4, q5]⟩
theorem I80380_ok : InOk Tryz.prog I80380 := InOk.of_run (K := K_NT2a) (n := 5000) mixed K_NT2a_ok (by kernel_rfl) (by as_aux_lemma => kernel_rfl)

noncomputable def I80182 : In := ⟨57, [(.ptr 6646 0), (.str 26 183890501555043540957095622503328518117729969598634276033028458), (.str 19 2261816869159440624969593107871851903301607786)], 13985, [(6644, (.map [] 0)), q0, q1, q2, q3, q4, q5], (.bool true), 14056, [(6644, (.map [] 0)), q0, q1, q2, q3, q4, q5]⟩
theorem I80182_ok : InOk Tryz.prog I80182 := InOk.of_run (K := K_NT2a) (n := 5000) mixed K_NT2a_ok (by kernel_rfl) (by as_aux_lemma => kernel_rfl)

noncomputable def I79935 : In := ⟨57, [(.ptr 6646 0), (.str 26 183890501555043540957095622503328518117729969598634276033028458), (.str 19 2261816869159440624969593107871851903301607786)], 13736, [(6644, (.map [] 0)), q0, q1, q2, q3, q4, q5], (.bool true), 13807, [(6644, (.map [] 0)), q0, q1, q2, q3, q4, q5]⟩
theorem I79935_ok : InOk Tryz.prog I79935 := InOk.of_run (K := K_NT2a) (n := 5000) mixed K_NT2a_ok (by kernel_rfl) (by as_aux_lemma => kernel_rfl)

noncomputable def I66836 : In := ⟨57, [(.ptr 6646 0), (.str 26 183890501555043540957095622503328518117729969598634276033028458), (.str 19 2261816869159440624969593107871851903301607786)], 14209, [(6644, (.map [] 0)), q0, q1, q2, q3, q4, q5], (.bool true), 14280, [(6644, (.map [] 0)), q0, q1, q2, q3, q4, q5]⟩
theorem I66836_ok : InOk Tryz.prog I66836 := InOk.of_run (K := K_NT2a) (n := 5000) mixed K_NT2a_ok (by kernel_rfl) (by as_aux_lemma => kernel_rfl)

noncomputable def I66638 : In := ⟨57, [(.ptr 6646 0), (.str 26 183890501555043540957095622503328518117729969598634276033028458), (.str 19 2261816869159440624969593107871851903301607786)], 13992, [(6644, (.map [] 0)), q0, q1, q2, q3, q4, q5], (.bool true), 14063, [(6644, (.map [] 0)), q0, q1, q2, q3, q4, q5]⟩
theorem I66638_ok : InOk Tryz.prog I66638 := InOk.of_run (K := K_NT2a) (n := 5000) mixed K_NT2a_ok (by kernel_rfl) (by as_aux_lemma => kernel_rfl)

noncomputable def S66531 : Sum := ⟨(.int .i64 36), 160, []⟩
theorem S66531_ok : SumOk Tryz.prog 11 [(.str 26 183890501555043540957095622503328518117729969598634276033028458), (.str 6 68669705972028), (.str 3 5646632)] S66531 := SumOk.of_run (K := K_NT2a) (n := 5000) (keep := []) mixed K_NT2a_ok (by kernel_rfl) (by as_aux_lemma => kernel_rfl)

noncomputable def I66391 : In := ⟨57, [(.ptr 6646 0), (.str 26 183890501555043540957095622503328518117729969598634276033028458), (.str 19 2261816869159440624969593107871851903301607786)], 13743, [(6644, (.map [] 0)), q0, q1, q2, q3, q4, q5], (.bool true), 13814, [(6644, (.map [] 0)), q0, q1, q2, q3, q4, q5]⟩
theorem I66391_ok : InOk Tryz.prog I66391 := InOk.of_run (K := K_NT2a) (n := 5000) mixed K_NT2a_ok (by kernel_rfl) (by as_aux_lemma => kernel_rfl)

noncomputable def I66154 : In := ⟨57, [(.ptr 6646 0), (.str 26 183890501555043540957095622503328518117729969598634276033028458), (.str 19 2261816869159440624969593107871851903301607786)], 13519, [(6644, (.map [] 0)), q0, q1, q2, q3, q4, q5], (.bool true), 13590, [(6644, (.map [] 0)), q0, q1, q2, q3, q4, q5]⟩
theorem I66154_ok : InOk Tryz.prog I66154 := InOk.of_run (K := K_NT2a) (n := 5000) mixed K_NT2a_ok (by kernel_rfl) (by as_aux_lemma => kernel_rfl)

noncomputable def S66046 : Sum := ⟨(.int .i64 37), 161, []⟩
theorem S66046_ok : SumOk Tryz.prog 11 [(.str 26 183890501555043540957095622503328518117729969598634276033028458), (.str 6 68669705972028), (.str 21 125924534186164816246133852188561726513007718714408)] S66046 := SumOk.of_run (K := K_NT2a) (n := 5000) (keep := []) mixed K_NT2a_ok (by kernel_rfl) (by as_aux_lemma => kernel_rfl)

noncomputable def I53305 : In := ⟨57, [(.ptr 6646 0), (.str 26 177462528906270532328520934635542489792491443287338843928682858), (.str 19 2261816869159440624969593107871851903301607786)], 14170, [(6644, (.map [] 0)), q0, q1, q21, q3, q22, q5], (.bool true), 14241, [(6644, (.map [] 0)), q0, q1, q21, q3, q22, q5]⟩
theorem I53305_ok : InOk Tryz.prog I53305 := InOk.of_run (K := K_NT2a) (n := 5000) mixed K_NT2a_ok (by kernel_rfl) (by as_aux_lemma => kernel_rfl)

noncomputable def I53107 : In := ⟨57, [(.ptr 6646 0), (.str 26 177462528906270532328520934635542489792491443287338843928682858), (.str 19 2261816869159440624969593107871851903301607786)], 13953, [(6644, (.map [] 0)), q0, q1, q21, q3, q22, q5], (.bool true), 14024, [(6644, (.map [] 0)), q0, q1, q21, q3, q22, q5]⟩
theorem I53107_ok : InOk Tryz.prog I53107 := InOk.of_run (K := K_NT2a) (n := 5000) mixed K_NT2a_ok (by kernel_rfl) (by as_aux_lemma => kernel_rfl)

noncomputable def I52860 : In := ⟨57, [(.ptr 6646 0), (.str 26 177462528906270532328520934635542489792491443287338843928682858), (.str 19 2261816869159440624969593107871851903301607786)], 13720, [(6644, (.map [] 0)), q0, q1, q21, q3, q22, q5], (.bool true), 13791, [(6644, (.map [] 0)), q0, q1, q21, q3, q22, q5]⟩
theorem I52860_ok : InOk Tryz.prog I52860 := InOk.of_run (K := K_NT2a) (n := 5000) mixed K_NT2a_ok (by kernel_rfl) (by as_aux_lemma => kernel_rfl)

noncomputable def I39761 : In := ⟨57, [(.ptr 6646 0), (.str 26 177462528906270532328520934635542489792491443287338843928682858), (.str 19 2261816869159440624969593107871851903301607786)], 14177, [(6644, (.map [] 0)), q0, q1, q21, q3, q22, q5], (.bool true), 14248, [(6644, (.map [] 0)), q0, q1, q21, q3, q22, q5]⟩
theorem I39761_ok : InOk Tryz.prog I39761 := InOk.of_run (K := K_NT2a) (n := 5000) mixed K_NT2a_ok (by kernel_rfl) (by as_aux_lemma => kernel_rfl)

noncomputable def I39563 : In := ⟨57, [(.ptr 6646 0), (.str 26 177462528906270532328520934635542489792491443287338843928682858), (.str 19 2261816869159440624969593107871851903301607786)], 13960, [(6644, (.map [] 0)), q0, q1, q21, q3, q22, q5], (.bool true), 14031, [(6644, (.map [] 0)), q0, q1, q21, q3, q22, q5]⟩
theorem I39563_ok : InOk Tryz.prog I39563 := InOk.of_run (K := K_NT2a) (n := 5000) mixed K_NT2a_ok (by kernel_rfl) (by as_aux_lemma => kernel_rfl)

noncomputable def S39456 : Sum := ⟨(.int .i64 36), 144, []⟩
theorem S39456_ok : SumOk Tryz.prog 11 [(.str 26 177462528906270532328520934635542489792491443287338843928682858), (.str 6 68669705972028), (.str 3 5646632)] S39456 := SumOk.of_run (K := K_NT2a) (n := 5000) (keep := []) mixed K_NT2a_ok (by kernel_rfl) (by as_aux_lemma => kernel_rfl)

noncomputable def I39316 : In := ⟨57, [(.ptr 6646 0), (.str 26 177462528906270532328520934635542489792491443287338843928682858), (.str 19 2261816869159440624969593107871851903301607786)], 13727, [(6644, (.map [] 0)), q0, q1, q21, q3, q22, q5], (.bool true), 13798, [(6644, (.map [] 0)), q0, q1, q21, q3, q22, q5]⟩
theorem I39316_ok : InOk Tryz.prog I39316 := InOk.of_run (K := K_NT2a) (n := 5000) mixed K_NT2a_ok (by kernel_rfl) (by as_aux_lemma => kernel_rfl)

noncomputable def I39079 : In := ⟨57, [(.ptr 6646 0), (.str 26 177462528906270532328520934635542489792491443287338843928682858), (.str 19 2261816869159440624969593107871851903301607786)], 13503, [(6644, (.map [] 0)), q0, q1, q21, q3, q22, q5], (.bool true), 13574, [(6644, (.map [] 0)), q0, q1, q21, q3, q22, q5]⟩
theorem I39079_ok : InOk Tryz.prog I39079 := InOk.of_run (K := K_NT2a) (n := 5000) mixed K_NT2a_ok (by kernel_rfl) (by as_aux_lemma => kernel_rfl)

noncomputable def S38971 : Sum := ⟨(.int .i64 37), 145, []⟩
theorem S38971_ok : SumOk Tryz.prog 11 [(.str 26 177462528906270532328520934635542489792491443287338843928682858), (.str 6 68669705972028), (.str 21 125924534186164816246133852188561726513007718714408)] S38971 := SumOk.of_run (K := K_NT2a) (n := 5000) (keep := []) mixed K_NT2a_ok (by kernel_rfl) (by as_aux_lemma => kernel_rfl)

noncomputable def I6248 : In := ⟨20, [], 6644, [], (.ptr 6646 0), 9898, [(6644, (.map [] 0)), q0, q1, q2, q21, q3, q4, q22, q13, q5, q8]⟩
theorem I6248_ok : InOk Tryz.prog I6248 := InOk.of_run (K := K_NT2a) (n := 5000) mixed K_NT2a_ok (by kernel_rfl) (by as_aux_lemma => kernel_rfl)

noncomputable def S5719 : Sum := ⟨(.tup [(.so 40 0 1 4), (.agg [(.int .u8 86), (.str 0 0), (.int .i64 0), (.int .u8 0)]), (.bool true)]), 41, [q38]⟩
theorem S5719_ok : SumOk Tryz.prog 102 [(.str 21 125924535314876068507128442038675530910546422025256)] S5719 := SumOk.of_run (K := K_NT2a) (n := 5000) (keep := [40]) mixed K_NT2a_ok (by kernel_rfl) (by as_aux_lemma => kernel_rfl)

noncomputable def S3496 : Sum := ⟨(.int .i64 38), 144, []⟩
theorem S3496_ok : SumOk Tryz.prog 11 [(.str 19 2261816869159440624969593107871851903301607786), (.str 10 478866051492549179499879), (.str 20 339137050467292191589805048747422779071890467112)] S3496 := SumOk.of_run (K := K_NT2a) (n := 5000) (keep := []) mixed K_NT2a_ok (by kernel_rfl) (by as_aux_lemma => kernel_rfl)

noncomputable def S3413 : Sum := ⟨(.tup [(.so 40 0 1 4), (.agg [(.int .u8 86), (.str 0 0), (.int .i64 0), (.int .u8 0)]), (.bool true)]), 41, [(40, (.cells 4 true [] (T.ofList 0 .leaf [(.int .u8 76), (.str 16 137483774941304901841256615957136564586), (.int .i64 0), (.int .u8 0)])))]⟩
theorem S3413_ok : SumOk Tryz.prog 102 [(.str 21 125924534186164816246133852188561726513007718714408)] S3413 := SumOk.of_run (K := K_NT2a) (n := 5000) (keep := [40]) mixed K_NT2a_ok (by kernel_rfl) (by as_aux_lemma => kernel_rfl)

noncomputable def S3317 : Sum := ⟨(.int .i64 37), 143, []⟩
theorem S3317_ok : SumOk Tryz.prog 11 [(.str 19 2261816869159440624969593107871851903301607786), (.str 6 68669705972028), (.str 21 125924534186164816246133852188561726513007718714408)] S3317 := SumOk.of_run (K := K_NT2a) (n := 5000) (keep := []) mixed K_NT2a_ok (by kernel_rfl) (by as_aux_lemma => kernel_rfl)

noncomputable def S3215 : Sum := ⟨(.int .i64 36), 142, []⟩
theorem S3215_ok : SumOk Tryz.prog 11 [(.str 19 2261816869159440624969593107871851903301607786), (.str 6 68669705972028), (.str 3 5646632)] S3215 := SumOk.of_run (K := K_NT2a) (n := 5000) (keep := []) mixed K_NT2a_ok (by kernel_rfl) (by as_aux_lemma => kernel_rfl)

noncomputable def S3140 : Sum := ⟨(.tup [(.agg [(.int .u8 76), (.str 16 137483774941304901841256615957136564586), (.int .i64 0), (.int .u8 0)]), (.int .i64 18)]), 37, []⟩
theorem S3140_ok : SumOk Tryz.prog 90 [(.str 18 5174820716358828607022171764334454026365516)] S3140 := SumOk.of_run (K := K_NT2a) (n := 5000) (keep := []) mixed K_NT2a_ok (by kernel_rfl) (by as_aux_lemma => kernel_rfl)

noncomputable def S3038 : Sum := ⟨(.tup [(.so 40 0 1 4), (.agg [(.int .u8 90), (.str 0 0), (.int .i64 0), (.int .u8 0)]), (.bool true)]), 46, [q38]⟩
theorem S3038_ok : SumOk Tryz.prog 102 [(.str 21 131770541864199680179943181369540662989170152197160)] S3038 := SumOk.of_run (K := K_NT2a) (n := 5000) (keep := [40]) mixed K_NT2a_ok (by kernel_rfl) (by as_aux_lemma => kernel_rfl)

noncomputable def I3 : In := ⟨20, [], 0, [], (.ptr 2 0), 3254, [(0, (.map [] 0)), q34, q35, q37, q36]⟩
theorem I3_ok : InOk Tryz.prog I3 := InOk.of_run (K := K_NT2a) (n := 5000) mixed K_NT2a_ok (by kernel_rfl) (by as_aux_lemma => kernel_rfl)

noncomputable def tab_NT2a : List (FuncId × SRows) := (90, [([(.str 18 5174820716358828607022171764334454026365516)], S3140)]) :: (102, [([(.str 21 125924535314876068507128442038675530910546422025256)], S5719), ([(.str 21 125924534186164816246133852188561726513007718714408)], S3413), ([(.str 21 131770541864199680179943181369540662989170152197160)], S3038)]) :: (11, [([(.str 26 183890501555043540957095622503328518117729969598634276033028458), (.str 6 68669705972028), (.str 3 5646632)], S66531), ([(.str 26 183890501555043540957095622503328518117729969598634276033028458), (.str 6 68669705972028), (.str 21 125924534186164816246133852188561726513007718714408)], S66046), ([(.str 26 177462528906270532328520934635542489792491443287338843928682858), (.str 6 68669705972028), (.str 3 5646632)], S39456), ([(.str 26 177462528906270532328520934635542489792491443287338843928682858), (.str 6 68669705972028), (.str 21 125924534186164816246133852188561726513007718714408)], S38971), ([(.str 19 2261816869159440624969593107871851903301607786), (.str 10 478866051492549179499879), (.str 20 339137050467292191589805048747422779071890467112)], S3496), ([(.str 19 2261816869159440624969593107871851903301607786), (.str 6 68669705972028), (.str 21 125924534186164816246133852188561726513007718714408)], S3317), ([(.str 19 2261816869159440624969593107871851903301607786), (.str 6 68669705972028), (.str 3 5646632)], S3215)]) :: []
theorem tab_NT2a_ok : TabOk Tryz.prog tab_NT2a := (TabOk.cons (RowsOk.cons S3140_ok RowsOk.nil) (TabOk.cons (RowsOk.cons S5719_ok (RowsOk.cons S3413_ok (RowsOk.cons S3038_ok RowsOk.nil))) (TabOk.cons (RowsOk.cons S66531_ok (RowsOk.cons S66046_ok (RowsOk.cons S39456_ok (RowsOk.cons S38971_ok (RowsOk.cons S3496_ok (RowsOk.cons S3317_ok (RowsOk.cons S3215_ok RowsOk.nil))))))) TabOk.nil)))
noncomputable def H_NT2a : Hand := (((Hand.at 20 ((inHand I3).or (inHand I6248))).or (Hand.at 57 (Hand.sp 13960 (Hand.sp 13727 (Hand.sp 13519 (inHand I39079) ((inHand I52860).or (inHand I66154))) (Hand.sp 13743 ((inHand I79935).or (inHand I39316)) ((inHand I53107).or (inHand I66391)))) (Hand.sp 14170 (Hand.sp 13985 (inHand I39563) ((inHand I66638).or (inHand I80182))) (Hand.sp 14202 ((inHand I39761).or (inHand I53305)) ((inHand I66836).or (inHand I80380))))))).or (sumsHand tab_NT2a))
theorem H_NT2a_ok : HandOk Tryz.prog H_NT2a := (HandOk.or (HandOk.or (HandOk.at 20 (HandOk.or (inHand_ok I3_ok (by kernel_rfl)) (inHand_ok I6248_ok (by kernel_rfl)))) (HandOk.at 57 (HandOk.sp 13960 (HandOk.sp 13727 (HandOk.sp 13519 (inHand_ok I39079_ok (by kernel_rfl)) (HandOk.or (inHand_ok I52860_ok (by kernel_rfl)) (inHand_ok I66154_ok (by kernel_rfl)))) (HandOk.sp 13743 (HandOk.or (inHand_ok I79935_ok (by kernel_rfl)) (inHand_ok I39316_ok (by kernel_rfl))) (HandOk.or (inHand_ok I53107_ok (by kernel_rfl)) (inHand_ok I66391_ok (by kernel_rfl))))) (HandOk.sp 14170 (HandOk.sp 13985 (inHand_ok I39563_ok (by kernel_rfl)) (HandOk.or (inHand_ok I66638_ok (by kernel_rfl)) (inHand_ok I80182_ok (by kernel_rfl)))) (HandOk.sp 14202 (HandOk.or (inHand_ok I39761_ok (by kernel_rfl)) (inHand_ok I53305_ok (by kernel_rfl))) (HandOk.or (inHand_ok I66836_ok (by kernel_rfl)) (inHand_ok I80380_ok (by kernel_rfl)))))))) (sumsHand_ok tab_NT2a_ok))
end Go.Proofs.YtgejhjencodinaaGreatDoor.nt
