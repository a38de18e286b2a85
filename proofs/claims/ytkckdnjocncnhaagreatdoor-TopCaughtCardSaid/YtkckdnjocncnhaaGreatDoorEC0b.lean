/-
  Contracts of calls, by the kernel.
-/
import Derived.Test.YtkckdnjocncnhaaGreatDoorXN3
import Derived.Test.YtkckdnjocncnhaaGreatDoorProg
import Derived.KernelRfl
import Derived.Test.YtkckdnjocncnhaaGreatDoorEC0a
set_option linter.unusedSectionVars false
set_option linter.unusedVariables false
set_option maxRecDepth 1000000
set_option maxHeartbeats 0
namespace Go.Proofs.YtkckdnjocncnhaaGreatDoor.ec
open Go.X Go.RowKit
variable [Tab]
noncomputable def K_EC0b : Hand := Hand.none
theorem K_EC0b_ok : HandOk Tryz.prog K_EC0b := HandOk.none

noncomputable def I6558 : In := ⟨99, [(.ptr 3256 0), (.so 6838 0 4 1)], 6841, [(3256, (.cells 5 false [] (T.ofList 0 .leaf [(.ptr 3 0), (.so 6824 0 8 1), (.so 6826 0 3 1), (.so 6823 0 3 3), (.map 3255)]))), (6725, (.cells 1 true [] (T.ofList 0 .leaf [(.int .u8 76)]))), (6821, (.cells 1 true [] (T.ofList 0 .leaf [(.int .u8 76)]))), (6823, (.cells 9 true [] (T.ofList 0 .leaf [(.str 19 2439265639030268300842157990401791553877467498), .nils, (.int .u8 0), (.str 28 12051447909911140811364177168575840195048631602135540194265359868266), (.so 6725 0 1 1), (.int .u8 0), (.str 26 183890501555043540957095622503328518117729969598634276033028458), (.so 6821 0 1 1), (.int .u8 0)]))), (6824, (.cells 8 true [] (T.ofList 0 .leaf [(.int .u64 0), (.int .u64 0), (.int .u64 1), (.int .u64 0), (.int .u64 0), (.int .u64 2), (.int .u64 0), (.int .u64 0)]))), (6826, (.cells 3 true [] (T.ofList 0 .leaf [(.int .i64 0), (.int .i64 2), (.int .i64 5)]))), (6838, (.cells 4 true [] (T.ofList 0 .leaf [(.int .i64 1), (.int .i64 3), (.int .i64 6), (.int .i64 0)])))], (.tup [(.map 6851), (.int .i64 8)]), 6859, [(6851, (.map [((.int .i64 1), (.int .i64 1), 0), ((.int .i64 3), (.int .i64 3), 1), ((.int .i64 6), (.int .i64 6), 2)] 3))]⟩
theorem I6558_ok : InOk Tryz.prog I6558 := InOk.of_run (K := K_EC0b) (n := 5000) mixed K_EC0b_ok (by kernel_rfl) (by as_aux_lemma => kernel_rfl)

noncomputable def S5693 : Sum := ⟨(.tup [(.so 5 0 1 4), (.agg [(.int .u8 86), (.str 0 0), (.int .i64 0), (.int .u8 0)]), (.bool true)]), 6, [(5, (.cells 4 true [] (T.ofList 0 .leaf [(.int .u8 90), (.str 0 0), (.int .i64 0), (.int .u8 0)])))]⟩
theorem S5693_ok : SumOk Tryz.prog 157 [(.str 4 1445550632)] S5693 := SumOk.of_run (K := K_EC0b) (n := 5000) (keep := [5]) mixed K_EC0b_ok (by kernel_rfl) (by as_aux_lemma => kernel_rfl)

noncomputable def S5664 : Sum := ⟨(.tup [(.so 5 0 1 4), (.agg [(.int .u8 86), (.str 0 0), (.int .i64 0), (.int .u8 0)]), (.bool true)]), 6, [(5, (.cells 4 true [] (T.ofList 0 .leaf [(.int .u8 67), (.str 0 0), (.int .i64 0), (.int .u8 0)])))]⟩
theorem S5664_ok : SumOk Tryz.prog 157 [(.str 4 1445544744)] S5664 := SumOk.of_run (K := K_EC0b) (n := 5000) (keep := [5]) mixed K_EC0b_ok (by kernel_rfl) (by as_aux_lemma => kernel_rfl)

noncomputable def S5636 : Sum := ⟨(.tup [(.so 5 0 1 4), (.agg [(.int .u8 86), (.str 0 0), (.int .i64 0), (.int .u8 0)]), (.bool true)]), 6, [(5, (.cells 4 true [] (T.ofList 0 .leaf [(.int .u8 74), (.str 0 0), (.int .i64 0), (.int .u8 0)])))]⟩
theorem S5636_ok : SumOk Tryz.prog 157 [(.str 4 1445546536)] S5636 := SumOk.of_run (K := K_EC0b) (n := 5000) (keep := [5]) mixed K_EC0b_ok (by kernel_rfl) (by as_aux_lemma => kernel_rfl)

noncomputable def S5609 : Sum := ⟨(.tup [(.so 5 0 1 4), (.agg [(.int .u8 86), (.str 0 0), (.int .i64 0), (.int .u8 0)]), (.bool true)]), 6, [(5, (.cells 4 true [] (T.ofList 0 .leaf [(.int .u8 73), (.str 0 0), (.int .i64 0), (.int .u8 0)])))]⟩
theorem S5609_ok : SumOk Tryz.prog 157 [(.str 4 1445546280)] S5609 := SumOk.of_run (K := K_EC0b) (n := 5000) (keep := [5]) mixed K_EC0b_ok (by kernel_rfl) (by as_aux_lemma => kernel_rfl)

noncomputable def S3898 : Sum := ⟨(.tup [(.so 5 0 1 4), (.agg [(.int .u8 67), (.str 0 0), (.int .i64 0), (.int .u8 0)]), (.bool true)]), 11, [(5, (.cells 4 true [] (T.ofList 0 .leaf [(.int .u8 73), (.str 0 0), (.int .i64 0), (.int .u8 0)])))]⟩
theorem S3898_ok : SumOk Tryz.prog 157 [(.str 4 1126779176)] S3898 := SumOk.of_run (K := K_EC0b) (n := 5000) (keep := [5]) mixed K_EC0b_ok (by kernel_rfl) (by as_aux_lemma => kernel_rfl)

noncomputable def S3876 : Sum := ⟨(.tup [.nils, (.agg [(.int .u8 73), (.str 0 0), (.int .i64 0), (.int .u8 0)]), (.bool true)]), 6, []⟩
theorem S3876_ok : SumOk Tryz.prog 157 [(.str 3 4794664)] S3876 := SumOk.of_run (K := K_EC0b) (n := 5000) (keep := []) mixed K_EC0b_ok (by kernel_rfl) (by as_aux_lemma => kernel_rfl)

noncomputable def S3679 : Sum := ⟨(.int .i64 22), 33, []⟩
theorem S3679_ok : SumOk Tryz.prog 195 [(.str 16 145412635431568811361768410208787652970), (.str 9 2240157836546495640161), (.str 42 47114077528188198620056812491409661436452214172948092389280225155504520564545130501860034283798416424)] S3679 := SumOk.of_run (K := K_EC0b) (n := 5000) (keep := []) mixed K_EC0b_ok (by kernel_rfl) (by as_aux_lemma => kernel_rfl)

noncomputable def S3198 : Sum := ⟨(.int .i64 (-1)), 1, []⟩
theorem S3198_ok : SumOk Tryz.prog 368 [(.str 6 113723913172051), (.str 4 794508078)] S3198 := SumOk.of_run (K := K_EC0b) (n := 5000) (keep := []) mixed K_EC0b_ok (by kernel_rfl) (by as_aux_lemma => kernel_rfl)

noncomputable def S3196 : Sum := ⟨(.tup [(.so 12 0 6 1), (.bool true)]), 13, [(12, (.cells 6 true [] (T.ofList 0 .leaf [(.int .u16 83), (.int .u16 116), (.int .u16 114), (.int .u16 105), (.int .u16 110), (.int .u16 103)])))]⟩
theorem S3196_ok : SumOk Tryz.prog 197 [(.str 6 113723913172051)] S3196 := SumOk.of_run (K := K_EC0b) (n := 5000) (keep := [12]) mixed K_EC0b_ok (by kernel_rfl) (by as_aux_lemma => kernel_rfl)

noncomputable def S3153 : Sum := ⟨(.sl 0 0 3 3), 1, [(0, (.cells 3 false [(.str 0 0)] (T.ofList 0 .leaf [(.str 4 1635148138), (.str 4 1735287148), (.str 6 113723913172051)])))]⟩
theorem S3153_ok : SumOk Tryz.prog 423 [(.str 16 137483774941304901841256615957136564586), (.str 1 47), (.int .i64 0), (.int .i64 (-1))] S3153 := SumOk.of_run (K := K_EC0b) (n := 5000) (keep := [0]) mixed K_EC0b_ok (by kernel_rfl) (by as_aux_lemma => kernel_rfl)

noncomputable def S3129 : Sum := ⟨(.int .i64 3), 9, []⟩
theorem S3129_ok : SumOk Tryz.prog 195 [(.str 16 154706541852025644484233205990057992554), (.str 8 7453010373643562868), (.str 20 339137050467292191589805048747422779071890467112)] S3129 := SumOk.of_run (K := K_EC0b) (n := 5000) (keep := []) mixed K_EC0b_ok (by kernel_rfl) (by as_aux_lemma => kernel_rfl)

noncomputable def tab_EC0b : List (FuncId × SRows) := (423, [([(.str 16 137483774941304901841256615957136564586), (.str 1 47), (.int .i64 0), (.int .i64 (-1))], S3153)]) :: (197, [([(.str 6 113723913172051)], S3196)]) :: (368, [([(.str 6 113723913172051), (.str 4 794508078)], S3198)]) :: (195, [([(.str 16 145412635431568811361768410208787652970), (.str 9 2240157836546495640161), (.str 42 47114077528188198620056812491409661436452214172948092389280225155504520564545130501860034283798416424)], S3679), ([(.str 16 154706541852025644484233205990057992554), (.str 8 7453010373643562868), (.str 20 339137050467292191589805048747422779071890467112)], S3129)]) :: (157, [([(.str 4 1445550632)], S5693), ([(.str 4 1445544744)], S5664), ([(.str 4 1445546536)], S5636), ([(.str 4 1445546280)], S5609), ([(.str 4 1126779176)], S3898), ([(.str 3 4794664)], S3876)]) :: []
theorem tab_EC0b_ok : TabOk Tryz.prog tab_EC0b := (TabOk.cons (RowsOk.cons S3153_ok RowsOk.nil) (TabOk.cons (RowsOk.cons S3196_ok RowsOk.nil) (TabOk.cons (RowsOk.cons S3198_ok RowsOk.nil) (TabOk.cons (RowsOk.cons S3679_ok (RowsOk.cons S3129_ok RowsOk.nil)) (TabOk.cons (RowsOk.cons S5693_ok (RowsOk.cons S5664_ok (RowsOk.cons S5636_ok (RowsOk.cons S5609_ok (RowsOk.cons S3898_ok (RowsOk.cons S3876_ok RowsOk.nil)))))) TabOk.nil)))))
noncomputable def H_EC0b : Hand := ((inHand I6558).or (sumsHand tab_EC0b))
theorem H_EC0b_ok : HandOk Tryz.prog H_EC0b := (HandOk.or (inHand_ok I6558_ok (by kernel_rfl)) (sumsHand_ok tab_EC0b_ok))
end Go.Proofs.YtkckdnjocncnhaaGreatDoor.ec
