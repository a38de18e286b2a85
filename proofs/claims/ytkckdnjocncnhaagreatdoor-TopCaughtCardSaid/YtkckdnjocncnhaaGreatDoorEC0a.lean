/-
  Contracts of calls, by the kernel.
-/
import Derived.Test.YtkckdnjocncnhaaGreatDoorXN3
import Derived.Test.YtkckdnjocncnhaaGreatDoorProg
import Derived.KernelRfl
set_option linter.unusedSectionVars false
set_option linter.unusedVariables false
set_option maxRecDepth 1000000
set_option maxHeartbeats 0
namespace Go.Proofs.YtkckdnjocncnhaaGreatDoor.ec
open Go.X Go.RowKit
theorem mixed : Tryz.prog.follows .mixedOrders = true := by kernel_rfl
variable [Tab]
noncomputable def K_EC0a : Hand := Hand.none
theorem K_EC0a_ok : HandOk Tryz.prog K_EC0a := HandOk.none

noncomputable def S14618 : Sum := ⟨(.tup [(.int .u8 0), (.bool false)]), 13, []⟩
theorem S14618_ok : SumOk Tryz.prog 260 [(.int .i64 17)] S14618 := SumOk.of_run (K := K_EC0a) (n := 5000) (keep := []) mixed K_EC0a_ok (by kernel_rfl) (by as_aux_lemma => kernel_rfl)

noncomputable def S14613 : Sum := ⟨(.tup [(.int .u8 0), (.bool false)]), 13, []⟩
theorem S14613_ok : SumOk Tryz.prog 260 [(.int .i64 87)] S14613 := SumOk.of_run (K := K_EC0a) (n := 5000) (keep := []) mixed K_EC0a_ok (by kernel_rfl) (by as_aux_lemma => kernel_rfl)

noncomputable def S14589 : Sum := ⟨(.tup [(.int .u8 0), (.bool false)]), 13, []⟩
theorem S14589_ok : SumOk Tryz.prog 260 [(.int .i64 184)] S14589 := SumOk.of_run (K := K_EC0a) (n := 5000) (keep := []) mixed K_EC0a_ok (by kernel_rfl) (by as_aux_lemma => kernel_rfl)

noncomputable def S14565 : Sum := ⟨(.bool true), 9, []⟩
theorem S14565_ok : SumOk Tryz.prog 258 [(.int .i64 87)] S14565 := SumOk.of_run (K := K_EC0a) (n := 5000) (keep := []) mixed K_EC0a_ok (by kernel_rfl) (by as_aux_lemma => kernel_rfl)

noncomputable def S14552 : Sum := ⟨(.bool true), 20, []⟩
theorem S14552_ok : SumOk Tryz.prog 258 [(.int .i64 184)] S14552 := SumOk.of_run (K := K_EC0a) (n := 5000) (keep := []) mixed K_EC0a_ok (by kernel_rfl) (by as_aux_lemma => kernel_rfl)

noncomputable def S14483 : Sum := ⟨(.int .i64 (-1)), 1, []⟩
theorem S14483_ok : SumOk Tryz.prog 368 [(.str 4 1701208435), (.str 2 15932)] S14483 := SumOk.of_run (K := K_EC0a) (n := 5000) (keep := []) mixed K_EC0a_ok (by kernel_rfl) (by as_aux_lemma => kernel_rfl)

noncomputable def S14465 : Sum := ⟨(.bool true), 10, []⟩
theorem S14465_ok : SumOk Tryz.prog 225 [(.str 4 1701208435)] S14465 := SumOk.of_run (K := K_EC0a) (n := 5000) (keep := []) mixed K_EC0a_ok (by kernel_rfl) (by as_aux_lemma => kernel_rfl)

noncomputable def S14406 : Sum := ⟨(.tup [(.int .u8 0), (.bool false)]), 13, []⟩
theorem S14406_ok : SumOk Tryz.prog 260 [(.int .i64 172)] S14406 := SumOk.of_run (K := K_EC0a) (n := 5000) (keep := []) mixed K_EC0a_ok (by kernel_rfl) (by as_aux_lemma => kernel_rfl)

noncomputable def S14401 : Sum := ⟨(.tup [(.int .u8 0), (.bool false)]), 13, []⟩
theorem S14401_ok : SumOk Tryz.prog 260 [(.int .i64 108)] S14401 := SumOk.of_run (K := K_EC0a) (n := 5000) (keep := []) mixed K_EC0a_ok (by kernel_rfl) (by as_aux_lemma => kernel_rfl)

noncomputable def S14391 : Sum := ⟨(.tup [(.int .u8 0), (.bool false)]), 13, []⟩
theorem S14391_ok : SumOk Tryz.prog 260 [(.int .i64 16)] S14391 := SumOk.of_run (K := K_EC0a) (n := 5000) (keep := []) mixed K_EC0a_ok (by kernel_rfl) (by as_aux_lemma => kernel_rfl)

noncomputable def S14383 : Sum := ⟨(.bool true), 19, []⟩
theorem S14383_ok : SumOk Tryz.prog 258 [(.int .i64 172)] S14383 := SumOk.of_run (K := K_EC0a) (n := 5000) (keep := []) mixed K_EC0a_ok (by kernel_rfl) (by as_aux_lemma => kernel_rfl)

noncomputable def S14377 : Sum := ⟨(.bool true), 12, []⟩
theorem S14377_ok : SumOk Tryz.prog 258 [(.int .i64 108)] S14377 := SumOk.of_run (K := K_EC0a) (n := 5000) (keep := []) mixed K_EC0a_ok (by kernel_rfl) (by as_aux_lemma => kernel_rfl)

noncomputable def S14051 : Sum := ⟨(.tup [(.so 32 0 16 1), (.bool true)]), 33, [(32, (.cells 16 true [] (T.ofList 0 .leaf [(.int .u16 106), (.int .u16 97), (.int .u16 118), (.int .u16 97), (.int .u16 47), (.int .u16 108), (.int .u16 97), (.int .u16 110), (.int .u16 103), (.int .u16 47), (.int .u16 79), (.int .u16 98), (.int .u16 106), (.int .u16 101), (.int .u16 99), (.int .u16 116)])))]⟩
theorem S14051_ok : SumOk Tryz.prog 197 [(.str 16 154706541852025644484233205990057992554)] S14051 := SumOk.of_run (K := K_EC0a) (n := 5000) (keep := [32]) mixed K_EC0a_ok (by kernel_rfl) (by as_aux_lemma => kernel_rfl)

noncomputable def S14049 : Sum := ⟨(.tup [(.so 26 0 13 1), (.bool true)]), 27, [(26, (.cells 13 true [] (T.ofList 0 .leaf [(.int .u16 83), (.int .u16 116), (.int .u16 97), (.int .u16 99), (.int .u16 107), (.int .u16 77), (.int .u16 97), (.int .u16 112), (.int .u16 84), (.int .u16 97), (.int .u16 98), (.int .u16 108), (.int .u16 101)])))]⟩
theorem S14049_ok : SumOk Tryz.prog 197 [(.str 13 8035587729358898777305137640531)] S14049 := SumOk.of_run (K := K_EC0a) (n := 5000) (keep := [26]) mixed K_EC0a_ok (by kernel_rfl) (by as_aux_lemma => kernel_rfl)

noncomputable def S14024 : Sum := ⟨(.int .i64 (-1)), 2, []⟩
theorem S14024_ok : SumOk Tryz.prog 368 [(.str 19 2462787319999361794871654118981135912292414017), (.str 4 794508078)] S14024 := SumOk.of_run (K := K_EC0a) (n := 5000) (keep := []) mixed K_EC0a_ok (by kernel_rfl) (by as_aux_lemma => kernel_rfl)

noncomputable def S14022 : Sum := ⟨(.tup [(.so 38 0 19 1), (.bool true)]), 39, [(38, (.cells 19 true [] (T.ofList 0 .leaf [(.int .u16 65), (.int .u16 114), (.int .u16 105), (.int .u16 116), (.int .u16 104), (.int .u16 109), (.int .u16 101), (.int .u16 116), (.int .u16 105), (.int .u16 99), (.int .u16 69), (.int .u16 120), (.int .u16 99), (.int .u16 101), (.int .u16 112), (.int .u16 116), (.int .u16 105), (.int .u16 111), (.int .u16 110)])))]⟩
theorem S14022_ok : SumOk Tryz.prog 197 [(.str 19 2462787319999361794871654118981135912292414017)] S14022 := SumOk.of_run (K := K_EC0a) (n := 5000) (keep := [38]) mixed K_EC0a_ok (by kernel_rfl) (by as_aux_lemma => kernel_rfl)

noncomputable def S13979 : Sum := ⟨(.sl 0 0 3 3), 1, [(0, (.cells 3 false [(.str 0 0)] (T.ofList 0 .leaf [(.str 4 1635148138), (.str 4 1735287148), (.str 19 2462787319999361794871654118981135912292414017)])))]⟩
theorem S13979_ok : SumOk Tryz.prog 423 [(.str 29 2977327179366744475310567174670984700336777289692309623825572795146602), (.str 1 47), (.int .i64 0), (.int .i64 (-1))] S13979 := SumOk.of_run (K := K_EC0a) (n := 5000) (keep := [0]) mixed K_EC0a_ok (by kernel_rfl) (by as_aux_lemma => kernel_rfl)

noncomputable def S13968 : Sum := ⟨(.tup [(.so 58 0 29 1), (.bool true)]), 59, [(58, (.cells 29 true [] (T.ofList 0 .leaf [(.int .u16 106), (.int .u16 97), (.int .u16 118), (.int .u16 97), (.int .u16 47), (.int .u16 108), (.int .u16 97), (.int .u16 110), (.int .u16 103), (.int .u16 47), (.int .u16 65), (.int .u16 114), (.int .u16 105), (.int .u16 116), (.int .u16 104), (.int .u16 109), (.int .u16 101), (.int .u16 116), (.int .u16 105), (.int .u16 99), (.int .u16 69), (.int .u16 120), (.int .u16 99), (.int .u16 101), (.int .u16 112), (.int .u16 116), (.int .u16 105), (.int .u16 111), (.int .u16 110)])))]⟩
theorem S13968_ok : SumOk Tryz.prog 197 [(.str 29 2977327179366744475310567174670984700336777289692309623825572795146602)] S13968 := SumOk.of_run (K := K_EC0a) (n := 5000) (keep := [58]) mixed K_EC0a_ok (by kernel_rfl) (by as_aux_lemma => kernel_rfl)

noncomputable def S13890 : Sum := ⟨(.tup [(.so 5 0 1 4), (.agg [(.int .u8 73), (.str 0 0), (.int .i64 0), (.int .u8 0)]), (.bool true)]), 11, [(5, (.cells 4 true [] (T.ofList 0 .leaf [(.int .u8 73), (.str 0 0), (.int .i64 0), (.int .u8 0)])))]⟩
theorem S13890_ok : SumOk Tryz.prog 157 [(.str 4 1227442472)] S13890 := SumOk.of_run (K := K_EC0a) (n := 5000) (keep := [5]) mixed K_EC0a_ok (by kernel_rfl) (by as_aux_lemma => kernel_rfl)

noncomputable def S13877 : Sum := ⟨(.bool false), 1, []⟩
theorem S13877_ok : SumOk Tryz.prog 303 [(.str 3 7760228), (.str 4 794508078)] S13877 := SumOk.of_run (K := K_EC0a) (n := 5000) (keep := []) mixed K_EC0a_ok (by kernel_rfl) (by as_aux_lemma => kernel_rfl)

noncomputable def S13854 : Sum := ⟨(.bool true), 5, []⟩
theorem S13854_ok : SumOk Tryz.prog 296 [(.str 1 77)] S13854 := SumOk.of_run (K := K_EC0a) (n := 5000) (keep := []) mixed K_EC0a_ok (by kernel_rfl) (by as_aux_lemma => kernel_rfl)

noncomputable def tab_EC0a : List (FuncId × SRows) := (296, [([(.str 1 77)], S13854)]) :: (303, [([(.str 3 7760228), (.str 4 794508078)], S13877)]) :: (157, [([(.str 4 1227442472)], S13890)]) :: (423, [([(.str 29 2977327179366744475310567174670984700336777289692309623825572795146602), (.str 1 47), (.int .i64 0), (.int .i64 (-1))], S13979)]) :: (197, [([(.str 16 154706541852025644484233205990057992554)], S14051), ([(.str 13 8035587729358898777305137640531)], S14049), ([(.str 19 2462787319999361794871654118981135912292414017)], S14022), ([(.str 29 2977327179366744475310567174670984700336777289692309623825572795146602)], S13968)]) :: (225, [([(.str 4 1701208435)], S14465)]) :: (368, [([(.str 4 1701208435), (.str 2 15932)], S14483), ([(.str 19 2462787319999361794871654118981135912292414017), (.str 4 794508078)], S14024)]) :: (258, [([(.int .i64 87)], S14565), ([(.int .i64 184)], S14552), ([(.int .i64 172)], S14383), ([(.int .i64 108)], S14377)]) :: (260, [([(.int .i64 17)], S14618), ([(.int .i64 87)], S14613), ([(.int .i64 184)], S14589), ([(.int .i64 172)], S14406), ([(.int .i64 108)], S14401), ([(.int .i64 16)], S14391)]) :: []
theorem tab_EC0a_ok : TabOk Tryz.prog tab_EC0a := (TabOk.cons (RowsOk.cons S13854_ok RowsOk.nil) (TabOk.cons (RowsOk.cons S13877_ok RowsOk.nil) (TabOk.cons (RowsOk.cons S13890_ok RowsOk.nil) (TabOk.cons (RowsOk.cons S13979_ok RowsOk.nil) (TabOk.cons (RowsOk.cons S14051_ok (RowsOk.cons S14049_ok (RowsOk.cons S14022_ok (RowsOk.cons S13968_ok RowsOk.nil)))) (TabOk.cons (RowsOk.cons S14465_ok RowsOk.nil) (TabOk.cons (RowsOk.cons S14483_ok (RowsOk.cons S14024_ok RowsOk.nil)) (TabOk.cons (RowsOk.cons S14565_ok (RowsOk.cons S14552_ok (RowsOk.cons S14383_ok (RowsOk.cons S14377_ok RowsOk.nil)))) (TabOk.cons (RowsOk.cons S14618_ok (RowsOk.cons S14613_ok (RowsOk.cons S14589_ok (RowsOk.cons S14406_ok (RowsOk.cons S14401_ok (RowsOk.cons S14391_ok RowsOk.nil)))))) TabOk.nil)))))))))
noncomputable def H_EC0a : Hand := (sumsHand tab_EC0a)
theorem H_EC0a_ok : HandOk Tryz.prog H_EC0a := (sumsHand_ok tab_EC0a_ok)
end Go.Proofs.YtkckdnjocncnhaaGreatDoor.ec
