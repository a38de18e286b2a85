/-
  Contracts of calls, by the kernel.
-/
import Derived.Test.YtbgkinjicnnkiaaGreatDoorXN3
import Derived.Test.YtbgkinjicnnkiaaGreatDoorProg
import Derived.KernelRfl
import Derived.Test.YtbgkinjicnnkiaaGreatDoorHQ0a
import Derived.Test.YtbgkinjicnnkiaaGreatDoorHQ1a
set_option linter.unusedSectionVars false
set_option linter.unusedVariables false
set_option maxRecDepth 1000000
set_option maxHeartbeats 0
namespace Go.Proofs.YtbgkinjicnnkiaaGreatDoor.hq
open Go.X Go.RowKit
variable [Tab]
noncomputable def K_HQ2a : Hand := ((H_HQ1a).or H_HQ0a)
theorem K_HQ2a_ok : HandOk Tryz.prog K_HQ2a := (HandOk.or H_HQ1a_ok H_HQ0a_ok)

noncomputable def I18472 : In := ⟨66, [(.ptr 14073 0)], 19202, [(7468, (.map [((.str 1 77), (.ptr 14405 0), 0)] 1)), q11, q12, q25, q13, q27, q28, q43, q44, q16, q29, q10, q45, q46, q3, q32, q4, q5, q47, q48, (18958, (.cells 1 true [] (T.ofList 0 .leaf [(.ptr 18956 0)]))), (19108, (.cells 1 false [] (T.ofList 0 .leaf [(.int .u8 76)]))), q49, q50, q51, q40, q9], (.bool true), 19366, [(7468, (.map [((.str 1 77), (.ptr 14405 0), 0)] 1)), q11, q12, q25, q13, q27, q28, q14, q35, q16, q29, q0, q36, q37, q3, q32, q4, q5, q38, q39, (18958, (.cells 1 true [] (T.ofList 0 .leaf [(.ptr 18956 0)]))), (19108, (.cells 1 false [] (T.ofList 0 .leaf [(.int .u8 76)]))), q40, q9, q18, q41, q42]⟩
theorem I18472_ok : InOk Tryz.prog I18472 := InOk.of_run (K := K_HQ2a) (n := 5000) mixed K_HQ2a_ok (by kernel_rfl) (by as_aux_lemma => kernel_rfl)

noncomputable def I16493 : In := ⟨310, [(.ptr 16390 0)], 16393, [q32, (16389, (.map [] 0)), q74, q4], (.bool true), 17042, [q32, q74, q4]⟩
theorem I16493_ok : InOk Tryz.prog I16493 := InOk.of_run (K := K_HQ2a) (n := 5000) mixed K_HQ2a_ok (by kernel_rfl) (by as_aux_lemma => kernel_rfl)

noncomputable def I15875 : In := ⟨225, [(.sl 14407 0 46 46), (.agg [(.int .i64 10), (.str 0 0), (.int .i64 0), (.int .i64 29), (.int .i64 32)])], 16049, [q32], (.bool true), 16115, [q32]⟩
theorem I15875_ok : InOk Tryz.prog I15875 := InOk.of_run (K := K_HQ2a) (n := 5000) mixed K_HQ2a_ok (by kernel_rfl) (by as_aux_lemma => kernel_rfl)

noncomputable def I15756 : In := ⟨225, [(.sl 14407 0 46 46), (.agg [(.int .i64 12), (.str 0 0), (.int .i64 0), (.int .i64 30), (.int .i64 31)])], 15982, [q32], (.bool true), 16048, [q32]⟩
theorem I15756_ok : InOk Tryz.prog I15756 := InOk.of_run (K := K_HQ2a) (n := 5000) mixed K_HQ2a_ok (by kernel_rfl) (by as_aux_lemma => kernel_rfl)

noncomputable def I15530 : In := ⟨225, [(.sl 14407 0 46 46), (.agg [(.int .i64 10), (.str 0 0), (.int .i64 0), (.int .i64 8), (.int .i64 26)])], 15759, [q32], (.bool true), 15827, [q32]⟩
theorem I15530_ok : InOk Tryz.prog I15530 := InOk.of_run (K := K_HQ2a) (n := 5000) mixed K_HQ2a_ok (by kernel_rfl) (by as_aux_lemma => kernel_rfl)

noncomputable def S15448 : Sum := ⟨(.int .i64 0), 42, []⟩
theorem S15448_ok : SumOk Tryz.prog 234 [(.str 20 339137050467292191589805048747422779071890467112)] S15448 := SumOk.of_run (K := K_HQ2a) (n := 5000) (keep := []) mixed K_HQ2a_ok (by kernel_rfl) (by as_aux_lemma => kernel_rfl)

noncomputable def I14508 : In := ⟨225, [(.sl 14407 0 46 46), (.agg [(.int .i64 9), (.str 0 0), (.int .i64 0), (.int .i64 2), (.int .i64 5)])], 14822, [q32], (.bool true), 14871, [q32]⟩
theorem I14508_ok : InOk Tryz.prog I14508 := InOk.of_run (K := K_HQ2a) (n := 5000) mixed K_HQ2a_ok (by kernel_rfl) (by as_aux_lemma => kernel_rfl)

noncomputable def I14426 : In := ⟨225, [(.sl 14407 0 46 46), (.agg [(.int .i64 12), (.str 0 0), (.int .i64 0), (.int .i64 3), (.int .i64 4)])], 14765, [q32], (.bool true), 14821, [q32]⟩
theorem I14426_ok : InOk Tryz.prog I14426 := InOk.of_run (K := K_HQ2a) (n := 5000) mixed K_HQ2a_ok (by kernel_rfl) (by as_aux_lemma => kernel_rfl)

noncomputable def I13684 : In := ⟨61, [(.ptr 10723 0), (.str 26 183890501555043540957095622503328518117729969598634276033028458)], 14199, [(7468, (.map [] 0)), q11, q78, q79, q25, q80, q81, q82, q83, q84, q85, q86, q87], (.int .i64 6), 14294, [(7468, (.map [] 0)), q11, q78, q79, q25, q80, q81, q82, q59, q60, q65, q66, q67]⟩
theorem I13684_ok : InOk Tryz.prog I13684 := InOk.of_run (K := K_HQ2a) (n := 5000) mixed K_HQ2a_ok (by kernel_rfl) (by as_aux_lemma => kernel_rfl)

noncomputable def I13528 : In := ⟨61, [(.ptr 10723 0), (.str 28 12051447909911140811364177168575840195048631602135540194265359868266)], 14103, [(7468, (.map [] 0)), q11, q78, q79, q25, q88, q81, q82, (10722, (.map [((.str 19 2439265639030268300842157990401791553877467498), (.int .i64 0), 0)] 1)), (10723, (.cells 5 false [] (T.ofList 0 .leaf [(.ptr 7470 0), (.so 14099 0 2 1), (.so 14101 0 1 1), (.so 14098 0 1 3), (.map 10722)]))), (14098, (.cells 3 true [] (T.ofList 0 .leaf [(.str 19 2439265639030268300842157990401791553877467498), .nils, (.int .u8 0)]))), (14099, (.cells 2 true [] (T.ofList 0 .leaf [(.int .u64 0), (.int .u64 0)]))), (14101, (.cells 1 true [] (T.ofList 0 .leaf [(.int .i64 0)])))], (.int .i64 3), 14198, [(7468, (.map [] 0)), q11, q78, q79, q25, q88, q81, q82, q83, q84, q85, q86, q87]⟩
theorem I13528_ok : InOk Tryz.prog I13528 := InOk.of_run (K := K_HQ2a) (n := 5000) mixed K_HQ2a_ok (by kernel_rfl) (by as_aux_lemma => kernel_rfl)

noncomputable def I10314 : In := ⟨75, [(.ptr 10729 0)], 10730, [(10729, (.cells 7 false [] (T.ofList 0 .leaf [(.ptr 10723 0), (.ptr 10725 0), (.ptr 7470 0), .nils, .nils, (.bool false), (.bool false)])))], (.tup []), 11575, [q16, (11443, (.cells 117 true [] (T.ofList 0 .leaf [(.str 0 0), (.int .i64 0), .nilf, (.str 16 154706541852025644484233205990057992554), (.int .i64 1), (.fn (.func 114) [] []), (.str 16 154706541852025644484233205990057992554), (.int .i64 2), (.fn (.func 115) [] []), (.str 16 154706541852025644484233205990057992554), (.int .i64 1), (.fn (.func 116) [] []), (.str 0 0), (.int .i64 0), .nilf, (.str 0 0), (.int .i64 0), .nilf, (.str 0 0), (.int .i64 0), .nilf, (.str 0 0), (.int .i64 0), .nilf, (.str 0 0), (.int .i64 0), .nilf, (.str 0 0), (.int .i64 0), .nilf, (.str 0 0), (.int .i64 0), .nilf, (.str 0 0), (.int .i64 0), .nilf, (.str 0 0), (.int .i64 0), .nilf, (.str 0 0), (.int .i64 0), .nilf, (.str 0 0), (.int .i64 0), .nilf, (.str 0 0), (.int .i64 0), .nilf, (.str 0 0), (.int .i64 0), .nilf, (.str 0 0), (.int .i64 0), .nilf, (.str 0 0), (.int .i64 0), .nilf, (.str 0 0), (.int .i64 0), .nilf, (.str 0 0), (.int .i64 0), .nilf, (.str 0 0), (.int .i64 0), .nilf, (.str 0 0), (.int .i64 5), (.fn (.func 119) [] []), (.str 0 0), (.int .i64 0), .nilf, (.str 0 0), (.int .i64 0), .nilf, (.str 0 0), (.int .i64 0), .nilf, (.str 0 0), (.int .i64 0), .nilf, (.str 0 0), (.int .i64 0), .nilf, (.str 0 0), (.int .i64 0), .nilf, (.str 0 0), (.int .i64 0), .nilf, (.str 0 0), (.int .i64 0), .nilf, (.str 0 0), (.int .i64 0), .nilf, (.str 0 0), (.int .i64 0), .nilf, (.str 0 0), (.int .i64 0), .nilf, (.str 0 0), (.int .i64 0), .nilf, (.str 0 0), (.int .i64 0), .nilf, (.str 19 2261816869159440624969593107871851903301607786), (.int .i64 1), (.fn (.func 114) [] []), (.str 19 2261816869159440624969593107871851903301607786), (.int .i64 2), (.fn (.func 117) [] []), (.str 19 2261816869159440624969593107871851903301607786), (.int .i64 1), (.fn (.func 118) [] [])])))]⟩
theorem I10314_ok : InOk Tryz.prog I10314 := InOk.of_run (K := K_HQ2a) (n := 5000) mixed K_HQ2a_ok (by kernel_rfl) (by as_aux_lemma => kernel_rfl)

noncomputable def I6390 : In := ⟨61, [(.ptr 3256 0), (.str 26 183890501555043540957095622503328518117729969598634276033028458)], 6732, [(1, (.map [] 0)), q107, q108, q109, q110, q111, q112, q113, q114, q115, q116, q117, q118], (.int .i64 6), 6827, [(1, (.map [] 0)), q107, q108, q109, q110, q111, q112, q113, q100, (6821, (.cells 1 true [] (T.ofList 0 .leaf [(.int .u8 76)]))), q101, q102, q103]⟩
theorem I6390_ok : InOk Tryz.prog I6390 := InOk.of_run (K := K_HQ2a) (n := 5000) mixed K_HQ2a_ok (by kernel_rfl) (by as_aux_lemma => kernel_rfl)

noncomputable def I6234 : In := ⟨61, [(.ptr 3256 0), (.str 28 12051447909911140811364177168575840195048631602135540194265359868266)], 6636, [(1, (.map [] 0)), q107, q108, q109, q110, q119, q112, q113, (3255, (.map [((.str 19 2439265639030268300842157990401791553877467498), (.int .i64 0), 0)] 1)), (3256, (.cells 5 false [] (T.ofList 0 .leaf [(.ptr 3 0), (.so 6632 0 2 1), (.so 6634 0 1 1), (.so 6631 0 1 3), (.map 3255)]))), (6631, (.cells 3 true [] (T.ofList 0 .leaf [(.str 19 2439265639030268300842157990401791553877467498), .nils, (.int .u8 0)]))), (6632, (.cells 2 true [] (T.ofList 0 .leaf [(.int .u64 0), (.int .u64 0)]))), (6634, (.cells 1 true [] (T.ofList 0 .leaf [(.int .i64 0)])))], (.int .i64 3), 6731, [(1, (.map [] 0)), q107, q108, q109, q110, q119, q112, q113, q114, q115, (6725, (.cells 1 true [] (T.ofList 0 .leaf [(.int .u8 76)]))), q116, q117, q118]⟩
theorem I6234_ok : InOk Tryz.prog I6234 := InOk.of_run (K := K_HQ2a) (n := 5000) mixed K_HQ2a_ok (by kernel_rfl) (by as_aux_lemma => kernel_rfl)

noncomputable def S5287 : Sum := ⟨(.tup [(.so 5 0 1 4), (.agg [(.int .u8 76), (.str 23 10956966084090815260342509131105871416374185281426186602), (.int .i64 0), (.int .u8 0)]), (.bool true)]), 61, [q121]⟩
theorem S5287_ok : SumOk Tryz.prog 160 [(.str 28 6260485019439425252614312435813236600861718953314767591699208821288)] S5287 := SumOk.of_run (K := K_HQ2a) (n := 5000) (keep := [5]) mixed K_HQ2a_ok (by kernel_rfl) (by as_aux_lemma => kernel_rfl)

noncomputable def S5188 : Sum := ⟨(.tup [(.so 5 0 1 4), (.agg [(.int .u8 76), (.str 23 10956966084090815260342509131105871416374185281426186602), (.int .i64 0), (.int .u8 0)]), (.bool true)]), 61, [q122]⟩
theorem S5188_ok : SumOk Tryz.prog 160 [(.str 28 6260485019439425252614312435813236600861718953314767591699208815400)] S5188 := SumOk.of_run (K := K_HQ2a) (n := 5000) (keep := [5]) mixed K_HQ2a_ok (by kernel_rfl) (by as_aux_lemma => kernel_rfl)

noncomputable def S5090 : Sum := ⟨(.tup [(.so 5 0 1 4), (.agg [(.int .u8 76), (.str 23 10956966084090815260342509131105871416374185281426186602), (.int .i64 0), (.int .u8 0)]), (.bool true)]), 61, [q123]⟩
theorem S5090_ok : SumOk Tryz.prog 160 [(.str 28 6260485019439425252614312435813236600861718953314767591699208817192)] S5090 := SumOk.of_run (K := K_HQ2a) (n := 5000) (keep := [5]) mixed K_HQ2a_ok (by kernel_rfl) (by as_aux_lemma => kernel_rfl)

noncomputable def S4993 : Sum := ⟨(.tup [(.so 5 0 1 4), (.agg [(.int .u8 76), (.str 23 10956966084090815260342509131105871416374185281426186602), (.int .i64 0), (.int .u8 0)]), (.bool true)]), 61, [q124]⟩
theorem S4993_ok : SumOk Tryz.prog 160 [(.str 28 6260485019439425252614312435813236600861718953314767591699208816936)] S4993 := SumOk.of_run (K := K_HQ2a) (n := 5000) (keep := [5]) mixed K_HQ2a_ok (by kernel_rfl) (by as_aux_lemma => kernel_rfl)

noncomputable def S4826 : Sum := ⟨(.tup [(.so 40 0 1 4), (.agg [(.int .u8 76), (.str 23 10956966084090815260342509131105871416374185281426186602), (.int .i64 0), (.int .u8 0)]), (.bool true)]), 96, [q125]⟩
theorem S4826_ok : SumOk Tryz.prog 160 [(.str 45 545365161084908818682307871509240926086432362262523517738950247884810123871997999633158636370693479484509224)] S4826 := SumOk.of_run (K := K_HQ2a) (n := 5000) (keep := [40]) mixed K_HQ2a_ok (by kernel_rfl) (by as_aux_lemma => kernel_rfl)

noncomputable def S4708 : Sum := ⟨(.tup [(.so 5 0 1 4), (.agg [(.int .u8 76), (.str 16 137483774941304901841256615957136564586), (.int .i64 0), (.int .u8 0)]), (.bool true)]), 46, [q121]⟩
theorem S4708_ok : SumOk Tryz.prog 160 [(.str 21 86819084919626801046990092479340231442403959593512)] S4708 := SumOk.of_run (K := K_HQ2a) (n := 5000) (keep := [5]) mixed K_HQ2a_ok (by kernel_rfl) (by as_aux_lemma => kernel_rfl)

noncomputable def S4602 : Sum := ⟨(.tup [(.so 5 0 1 4), (.agg [(.int .u8 76), (.str 16 137483774941304901841256615957136564586), (.int .i64 0), (.int .u8 0)]), (.bool true)]), 46, [q122]⟩
theorem S4602_ok : SumOk Tryz.prog 160 [(.str 21 86819084919626801046990092479340231442403959587624)] S4602 := SumOk.of_run (K := K_HQ2a) (n := 5000) (keep := [5]) mixed K_HQ2a_ok (by kernel_rfl) (by as_aux_lemma => kernel_rfl)

noncomputable def S4497 : Sum := ⟨(.tup [(.so 5 0 1 4), (.agg [(.int .u8 76), (.str 16 137483774941304901841256615957136564586), (.int .i64 0), (.int .u8 0)]), (.bool true)]), 46, [q123]⟩
theorem S4497_ok : SumOk Tryz.prog 160 [(.str 21 86819084919626801046990092479340231442403959589416)] S4497 := SumOk.of_run (K := K_HQ2a) (n := 5000) (keep := [5]) mixed K_HQ2a_ok (by kernel_rfl) (by as_aux_lemma => kernel_rfl)

noncomputable def S4393 : Sum := ⟨(.tup [(.so 5 0 1 4), (.agg [(.int .u8 76), (.str 16 137483774941304901841256615957136564586), (.int .i64 0), (.int .u8 0)]), (.bool true)]), 46, [q124]⟩
theorem S4393_ok : SumOk Tryz.prog 160 [(.str 21 86819084919626801046990092479340231442403959589160)] S4393 := SumOk.of_run (K := K_HQ2a) (n := 5000) (keep := [5]) mixed K_HQ2a_ok (by kernel_rfl) (by as_aux_lemma => kernel_rfl)

noncomputable def S3926 : Sum := ⟨(.tup [(.so 40 0 1 4), (.agg [(.int .u8 76), (.str 16 137483774941304901841256615957136564586), (.int .i64 0), (.int .u8 0)]), (.bool true)]), 81, [q125]⟩
theorem S3926_ok : SumOk Tryz.prog 160 [(.str 38 7563008949852303964789352941943798567979605024965410989119580465925847369046121658274434088)] S3926 := SumOk.of_run (K := K_HQ2a) (n := 5000) (keep := [40]) mixed K_HQ2a_ok (by kernel_rfl) (by as_aux_lemma => kernel_rfl)

noncomputable def I3020 : In := ⟨75, [(.ptr 3262 0)], 3263, [(3262, (.cells 7 false [] (T.ofList 0 .leaf [(.ptr 3256 0), (.ptr 3258 0), (.ptr 3 0), .nils, .nils, (.bool false), (.bool false)])))], (.tup []), 4108, [q126, (3976, (.cells 117 true [] (T.ofList 0 .leaf [(.str 0 0), (.int .i64 0), .nilf, (.str 16 154706541852025644484233205990057992554), (.int .i64 1), (.fn (.func 114) [] []), (.str 16 154706541852025644484233205990057992554), (.int .i64 2), (.fn (.func 115) [] []), (.str 16 154706541852025644484233205990057992554), (.int .i64 1), (.fn (.func 116) [] []), (.str 0 0), (.int .i64 0), .nilf, (.str 0 0), (.int .i64 0), .nilf, (.str 0 0), (.int .i64 0), .nilf, (.str 0 0), (.int .i64 0), .nilf, (.str 0 0), (.int .i64 0), .nilf, (.str 0 0), (.int .i64 0), .nilf, (.str 0 0), (.int .i64 0), .nilf, (.str 0 0), (.int .i64 0), .nilf, (.str 0 0), (.int .i64 0), .nilf, (.str 0 0), (.int .i64 0), .nilf, (.str 0 0), (.int .i64 0), .nilf, (.str 0 0), (.int .i64 0), .nilf, (.str 0 0), (.int .i64 0), .nilf, (.str 0 0), (.int .i64 0), .nilf, (.str 0 0), (.int .i64 0), .nilf, (.str 0 0), (.int .i64 0), .nilf, (.str 0 0), (.int .i64 0), .nilf, (.str 0 0), (.int .i64 0), .nilf, (.str 0 0), (.int .i64 5), (.fn (.func 119) [] []), (.str 0 0), (.int .i64 0), .nilf, (.str 0 0), (.int .i64 0), .nilf, (.str 0 0), (.int .i64 0), .nilf, (.str 0 0), (.int .i64 0), .nilf, (.str 0 0), (.int .i64 0), .nilf, (.str 0 0), (.int .i64 0), .nilf, (.str 0 0), (.int .i64 0), .nilf, (.str 0 0), (.int .i64 0), .nilf, (.str 0 0), (.int .i64 0), .nilf, (.str 0 0), (.int .i64 0), .nilf, (.str 0 0), (.int .i64 0), .nilf, (.str 0 0), (.int .i64 0), .nilf, (.str 0 0), (.int .i64 0), .nilf, (.str 19 2261816869159440624969593107871851903301607786), (.int .i64 1), (.fn (.func 114) [] []), (.str 19 2261816869159440624969593107871851903301607786), (.int .i64 2), (.fn (.func 117) [] []), (.str 19 2261816869159440624969593107871851903301607786), (.int .i64 1), (.fn (.func 118) [] [])])))]⟩
theorem I3020_ok : InOk Tryz.prog I3020 := InOk.of_run (K := K_HQ2a) (n := 5000) mixed K_HQ2a_ok (by kernel_rfl) (by as_aux_lemma => kernel_rfl)

noncomputable def tab_HQ2a : List (FuncId × SRows) := (160, [([(.str 28 6260485019439425252614312435813236600861718953314767591699208821288)], S5287), ([(.str 28 6260485019439425252614312435813236600861718953314767591699208815400)], S5188), ([(.str 28 6260485019439425252614312435813236600861718953314767591699208817192)], S5090), ([(.str 28 6260485019439425252614312435813236600861718953314767591699208816936)], S4993), ([(.str 45 545365161084908818682307871509240926086432362262523517738950247884810123871997999633158636370693479484509224)], S4826), ([(.str 21 86819084919626801046990092479340231442403959593512)], S4708), ([(.str 21 86819084919626801046990092479340231442403959587624)], S4602), ([(.str 21 86819084919626801046990092479340231442403959589416)], S4497), ([(.str 21 86819084919626801046990092479340231442403959589160)], S4393), ([(.str 38 7563008949852303964789352941943798567979605024965410989119580465925847369046121658274434088)], S3926)]) :: (234, [([(.str 20 339137050467292191589805048747422779071890467112)], S15448)]) :: []
theorem tab_HQ2a_ok : TabOk Tryz.prog tab_HQ2a := (TabOk.cons (RowsOk.cons S5287_ok (RowsOk.cons S5188_ok (RowsOk.cons S5090_ok (RowsOk.cons S4993_ok (RowsOk.cons S4826_ok (RowsOk.cons S4708_ok (RowsOk.cons S4602_ok (RowsOk.cons S4497_ok (RowsOk.cons S4393_ok (RowsOk.cons S3926_ok RowsOk.nil)))))))))) (TabOk.cons (RowsOk.cons S15448_ok RowsOk.nil) TabOk.nil))
noncomputable def H_HQ2a : Hand := (((Hand.at 75 ((inHand I3020).or (inHand I10314))).or ((Hand.at 61 (Hand.sp 14103 ((inHand I6390).or (inHand I6234)) ((inHand I13684).or (inHand I13528)))).or ((Hand.at 225 (Hand.sp 15759 ((inHand I14508).or (inHand I14426)) (Hand.sp 15982 (inHand I15530) ((inHand I15875).or (inHand I15756))))).or ((Hand.at 310 (inHand I16493)).or (Hand.at 66 (inHand I18472)))))).or (sumsHand tab_HQ2a))
theorem H_HQ2a_ok : HandOk Tryz.prog H_HQ2a := (HandOk.or (HandOk.or (HandOk.at 75 (HandOk.or (inHand_ok I3020_ok (by kernel_rfl)) (inHand_ok I10314_ok (by kernel_rfl)))) (HandOk.or (HandOk.at 61 (HandOk.sp 14103 (HandOk.or (inHand_ok I6390_ok (by kernel_rfl)) (inHand_ok I6234_ok (by kernel_rfl))) (HandOk.or (inHand_ok I13684_ok (by kernel_rfl)) (inHand_ok I13528_ok (by kernel_rfl))))) (HandOk.or (HandOk.at 225 (HandOk.sp 15759 (HandOk.or (inHand_ok I14508_ok (by kernel_rfl)) (inHand_ok I14426_ok (by kernel_rfl))) (HandOk.sp 15982 (inHand_ok I15530_ok (by kernel_rfl)) (HandOk.or (inHand_ok I15875_ok (by kernel_rfl)) (inHand_ok I15756_ok (by kernel_rfl)))))) (HandOk.or (HandOk.at 310 (inHand_ok I16493_ok (by kernel_rfl))) (HandOk.at 66 (inHand_ok I18472_ok (by kernel_rfl))))))) (sumsHand_ok tab_HQ2a_ok))
end Go.Proofs.YtbgkinjicnnkiaaGreatDoor.hq
