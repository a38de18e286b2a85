/-
  Contracts of calls, by the kernel.
-/
import Derived.Test.YtnjpgmajapfjeaaGreatDoorXN3
import Derived.Test.YtnjpgmajapfjeaaGreatDoorProg
import Derived.KernelRfl
import Derived.Test.YtnjpgmajapfjeaaGreatDoorTA0a
set_option linter.unusedSectionVars false
set_option linter.unusedVariables false
set_option maxRecDepth 1000000
set_option maxHeartbeats 0
namespace Go.Proofs.YtnjpgmajapfjeaaGreatDoor.ta
open Go.X Go.RowKit
variable [Tab]
noncomputable def K_TA1c : Hand := H_TA0a
theorem K_TA1c_ok : HandOk Tryz.prog K_TA1c := H_TA0a_ok

noncomputable def I4041044 : In := ⟨18, [(.so 11247 0 174 1)], 11248, [q36], (.tup [(.ptr 11254 0), (.int .i64 0)]), 11945, [q36, (11254, (.cells 8 false [] (T.ofList 0 .leaf [(.int .i64 52), (.sl 11256 0 27 27), (.int .i64 33), (.str 1 120), (.str 16 154706541852025644484233205990057992554), (.so 11944 0 11 1), .nils, .nils]))), (11944, (.cells 11 true [] (T.ofList 0 .leaf [(.str 3 7299427), (.str 3 7233891), (.str 3 7168355), (.str 3 7102819), (.str 3 7037283), (.str 3 6971747), (.str 3 6906211), (.str 3 6840675), (.str 3 6775139), (.str 3 6709603), (.str 3 6644067)])))]⟩
theorem I4041044_ok : InOk Tryz.prog I4041044 := InOk.of_run (K := K_TA1c) (n := 5000) mixed K_TA1c_ok (by kernel_rfl) (by as_aux_lemma => kernel_rfl)

noncomputable def I4026923 : In := ⟨18, [(.so 11240 0 163 1)], 11241, [q37], (.tup [(.ptr 11247 0), (.int .i64 0)]), 11890, [q37, (11247, (.cells 8 false [] (T.ofList 0 .leaf [(.int .i64 52), (.sl 11249 0 25 25), (.int .i64 33), (.str 1 120), (.str 16 154706541852025644484233205990057992554), (.so 11889 0 10 1), .nils, .nils]))), (11889, (.cells 10 true [] (T.ofList 0 .leaf [(.str 3 7299427), (.str 3 7233891), (.str 3 7168355), (.str 3 7102819), (.str 3 7037283), (.str 3 6971747), (.str 3 6906211), (.str 3 6840675), (.str 3 6775139), (.str 3 6709603)])))]⟩
theorem I4026923_ok : InOk Tryz.prog I4026923 := InOk.of_run (K := K_TA1c) (n := 5000) mixed K_TA1c_ok (by kernel_rfl) (by as_aux_lemma => kernel_rfl)

noncomputable def I4012884 : In := ⟨18, [(.so 11233 0 152 1)], 11234, [q38], (.tup [(.ptr 11240 0), (.int .i64 0)]), 11835, [q38, (11240, (.cells 8 false [] (T.ofList 0 .leaf [(.int .i64 52), (.sl 11242 0 23 23), (.int .i64 33), (.str 1 120), (.str 16 154706541852025644484233205990057992554), (.so 11834 0 9 1), .nils, .nils]))), (11834, (.cells 9 true [] (T.ofList 0 .leaf [(.str 3 7299427), (.str 3 7233891), (.str 3 7168355), (.str 3 7102819), (.str 3 7037283), (.str 3 6971747), (.str 3 6906211), (.str 3 6840675), (.str 3 6775139)])))]⟩
theorem I4012884_ok : InOk Tryz.prog I4012884 := InOk.of_run (K := K_TA1c) (n := 5000) mixed K_TA1c_ok (by kernel_rfl) (by as_aux_lemma => kernel_rfl)

noncomputable def I5116703 : In := ⟨18, [(.so 11603 0 229 1)], 11604, [q39], (.tup [(.ptr 11610 0), (.int .i64 0)]), 12541, [q39, (11610, (.cells 8 false [] (T.ofList 0 .leaf [(.int .i64 52), (.sl 11612 0 37 37), (.int .i64 33), (.str 1 120), (.str 16 154706541852025644484233205990057992554), (.so 12540 0 16 1), .nils, .nils]))), (12540, (.cells 16 true [] (T.ofList 0 .leaf [(.str 3 7364963), (.str 3 7299427), (.str 3 7233891), (.str 3 7168355), (.str 3 7102819), (.str 3 7037283), (.str 3 6971747), (.str 3 6906211), (.str 3 6840675), (.str 3 6775139), (.str 3 6709603), (.str 3 6644067), (.str 3 6578531), (.str 3 6512995), (.str 3 6447459), (.str 3 6381923)])))]⟩
theorem I5116703_ok : InOk Tryz.prog I5116703 := InOk.of_run (K := K_TA1c) (n := 5000) mixed K_TA1c_ok (by kernel_rfl) (by as_aux_lemma => kernel_rfl)

noncomputable def I5101693 : In := ⟨18, [(.so 11596 0 218 1)], 11597, [q40], (.tup [(.ptr 11603 0), (.int .i64 0)]), 12486, [q40, (11603, (.cells 8 false [] (T.ofList 0 .leaf [(.int .i64 52), (.sl 11605 0 35 35), (.int .i64 33), (.str 1 120), (.str 16 154706541852025644484233205990057992554), (.so 12485 0 15 1), .nils, .nils]))), (12485, (.cells 15 true [] (T.ofList 0 .leaf [(.str 3 7364963), (.str 3 7299427), (.str 3 7233891), (.str 3 7168355), (.str 3 7102819), (.str 3 7037283), (.str 3 6971747), (.str 3 6906211), (.str 3 6840675), (.str 3 6775139), (.str 3 6709603), (.str 3 6644067), (.str 3 6578531), (.str 3 6512995), (.str 3 6447459)])))]⟩
theorem I5101693_ok : InOk Tryz.prog I5101693 := InOk.of_run (K := K_TA1c) (n := 5000) mixed K_TA1c_ok (by kernel_rfl) (by as_aux_lemma => kernel_rfl)

noncomputable def I5086765 : In := ⟨18, [(.so 11589 0 207 1)], 11590, [q41], (.tup [(.ptr 11596 0), (.int .i64 0)]), 12431, [q41, (11596, (.cells 8 false [] (T.ofList 0 .leaf [(.int .i64 52), (.sl 11598 0 33 33), (.int .i64 33), (.str 1 120), (.str 16 154706541852025644484233205990057992554), (.so 12430 0 14 1), .nils, .nils]))), (12430, (.cells 14 true [] (T.ofList 0 .leaf [(.str 3 7364963), (.str 3 7299427), (.str 3 7233891), (.str 3 7168355), (.str 3 7102819), (.str 3 7037283), (.str 3 6971747), (.str 3 6906211), (.str 3 6840675), (.str 3 6775139), (.str 3 6709603), (.str 3 6644067), (.str 3 6578531), (.str 3 6512995)])))]⟩
theorem I5086765_ok : InOk Tryz.prog I5086765 := InOk.of_run (K := K_TA1c) (n := 5000) mixed K_TA1c_ok (by kernel_rfl) (by as_aux_lemma => kernel_rfl)

noncomputable def I5071919 : In := ⟨18, [(.so 11582 0 196 1)], 11583, [q42], (.tup [(.ptr 11589 0), (.int .i64 0)]), 12376, [q42, (11589, (.cells 8 false [] (T.ofList 0 .leaf [(.int .i64 52), (.sl 11591 0 31 31), (.int .i64 33), (.str 1 120), (.str 16 154706541852025644484233205990057992554), (.so 12375 0 13 1), .nils, .nils]))), (12375, (.cells 13 true [] (T.ofList 0 .leaf [(.str 3 7364963), (.str 3 7299427), (.str 3 7233891), (.str 3 7168355), (.str 3 7102819), (.str 3 7037283), (.str 3 6971747), (.str 3 6906211), (.str 3 6840675), (.str 3 6775139), (.str 3 6709603), (.str 3 6644067), (.str 3 6578531)])))]⟩
theorem I5071919_ok : InOk Tryz.prog I5071919 := InOk.of_run (K := K_TA1c) (n := 5000) mixed K_TA1c_ok (by kernel_rfl) (by as_aux_lemma => kernel_rfl)

noncomputable def I5057155 : In := ⟨18, [(.so 11575 0 185 1)], 11576, [q43], (.tup [(.ptr 11582 0), (.int .i64 0)]), 12321, [q43, (11582, (.cells 8 false [] (T.ofList 0 .leaf [(.int .i64 52), (.sl 11584 0 29 29), (.int .i64 33), (.str 1 120), (.str 16 154706541852025644484233205990057992554), (.so 12320 0 12 1), .nils, .nils]))), (12320, (.cells 12 true [] (T.ofList 0 .leaf [(.str 3 7364963), (.str 3 7299427), (.str 3 7233891), (.str 3 7168355), (.str 3 7102819), (.str 3 7037283), (.str 3 6971747), (.str 3 6906211), (.str 3 6840675), (.str 3 6775139), (.str 3 6709603), (.str 3 6644067)])))]⟩
theorem I5057155_ok : InOk Tryz.prog I5057155 := InOk.of_run (K := K_TA1c) (n := 5000) mixed K_TA1c_ok (by kernel_rfl) (by as_aux_lemma => kernel_rfl)

noncomputable def I5042473 : In := ⟨18, [(.so 11568 0 174 1)], 11569, [q44], (.tup [(.ptr 11575 0), (.int .i64 0)]), 12266, [q44, (11575, (.cells 8 false [] (T.ofList 0 .leaf [(.int .i64 52), (.sl 11577 0 27 27), (.int .i64 33), (.str 1 120), (.str 16 154706541852025644484233205990057992554), (.so 12265 0 11 1), .nils, .nils]))), (12265, (.cells 11 true [] (T.ofList 0 .leaf [(.str 3 7364963), (.str 3 7299427), (.str 3 7233891), (.str 3 7168355), (.str 3 7102819), (.str 3 7037283), (.str 3 6971747), (.str 3 6906211), (.str 3 6840675), (.str 3 6775139), (.str 3 6709603)])))]⟩
theorem I5042473_ok : InOk Tryz.prog I5042473 := InOk.of_run (K := K_TA1c) (n := 5000) mixed K_TA1c_ok (by kernel_rfl) (by as_aux_lemma => kernel_rfl)

noncomputable def I5027873 : In := ⟨18, [(.so 11561 0 163 1)], 11562, [q45], (.tup [(.ptr 11568 0), (.int .i64 0)]), 12211, [q45, (11568, (.cells 8 false [] (T.ofList 0 .leaf [(.int .i64 52), (.sl 11570 0 25 25), (.int .i64 33), (.str 1 120), (.str 16 154706541852025644484233205990057992554), (.so 12210 0 10 1), .nils, .nils]))), (12210, (.cells 10 true [] (T.ofList 0 .leaf [(.str 3 7364963), (.str 3 7299427), (.str 3 7233891), (.str 3 7168355), (.str 3 7102819), (.str 3 7037283), (.str 3 6971747), (.str 3 6906211), (.str 3 6840675), (.str 3 6775139)])))]⟩
theorem I5027873_ok : InOk Tryz.prog I5027873 := InOk.of_run (K := K_TA1c) (n := 5000) mixed K_TA1c_ok (by kernel_rfl) (by as_aux_lemma => kernel_rfl)

noncomputable def I5013355 : In := ⟨18, [(.so 11554 0 152 1)], 11555, [q46], (.tup [(.ptr 11561 0), (.int .i64 0)]), 12156, [q46, (11561, (.cells 8 false [] (T.ofList 0 .leaf [(.int .i64 52), (.sl 11563 0 23 23), (.int .i64 33), (.str 1 120), (.str 16 154706541852025644484233205990057992554), (.so 12155 0 9 1), .nils, .nils]))), (12155, (.cells 9 true [] (T.ofList 0 .leaf [(.str 3 7364963), (.str 3 7299427), (.str 3 7233891), (.str 3 7168355), (.str 3 7102819), (.str 3 7037283), (.str 3 6971747), (.str 3 6906211), (.str 3 6840675)])))]⟩
theorem I5013355_ok : InOk Tryz.prog I5013355 := InOk.of_run (K := K_TA1c) (n := 5000) mixed K_TA1c_ok (by kernel_rfl) (by as_aux_lemma => kernel_rfl)
noncomputable def H_TA1c : Hand := (Hand.at 18 (Hand.sp 11569 (Hand.sp 11248 ((inHand I4026923).or (inHand I4012884)) (Hand.sp 11555 (inHand I4041044) ((inHand I5027873).or (inHand I5013355)))) (Hand.sp 11590 (Hand.sp 11576 (inHand I5042473) ((inHand I5071919).or (inHand I5057155))) (Hand.sp 11597 (inHand I5086765) ((inHand I5116703).or (inHand I5101693))))))
theorem H_TA1c_ok : HandOk Tryz.prog H_TA1c := (HandOk.at 18 (HandOk.sp 11569 (HandOk.sp 11248 (HandOk.or (inHand_ok I4026923_ok (by kernel_rfl)) (inHand_ok I4012884_ok (by kernel_rfl))) (HandOk.sp 11555 (inHand_ok I4041044_ok (by kernel_rfl)) (HandOk.or (inHand_ok I5027873_ok (by kernel_rfl)) (inHand_ok I5013355_ok (by kernel_rfl))))) (HandOk.sp 11590 (HandOk.sp 11576 (inHand_ok I5042473_ok (by kernel_rfl)) (HandOk.or (inHand_ok I5071919_ok (by kernel_rfl)) (inHand_ok I5057155_ok (by kernel_rfl)))) (HandOk.sp 11597 (inHand_ok I5086765_ok (by kernel_rfl)) (HandOk.or (inHand_ok I5116703_ok (by kernel_rfl)) (inHand_ok I5101693_ok (by kernel_rfl)))))))
end Go.Proofs.YtnjpgmajapfjeaaGreatDoor.ta
