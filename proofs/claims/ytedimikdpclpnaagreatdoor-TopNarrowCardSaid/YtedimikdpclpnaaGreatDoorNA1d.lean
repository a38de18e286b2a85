/-
  Contracts of calls, by the kernel.
-/
import Derived.Test.YtedimikdpclpnaaGreatDoorXN3
import Derived.Test.YtedimikdpclpnaaGreatDoorProg
import Derived.KernelRfl
import Derived.Test.YtedimikdpclpnaaGreatDoorNA0a
import Derived.Test.YtedimikdpclpnaaGreatDoorNA0b
set_option linter.unusedSectionVars false
set_option linter.unusedVariables false
set_option maxRecDepth 1000000
set_option maxHeartbeats 0
namespace Go.Proofs.YtedimikdpclpnaaGreatDoor.na
open Go.X Go.RowKit
variable [Tab]
noncomputable def K_NA1d : Hand := ((H_NA0b).or H_NA0a)
theorem K_NA1d_ok : HandOk Tryz.prog K_NA1d := (HandOk.or H_NA0b_ok H_NA0a_ok)

noncomputable def I22310 : In := ⟨293, [(.so 20473 0 8 1)], 26205, [q4], (.tup [(.so 26295 0 4 8), zI]), 26296, [q4, (26295, (.cells 32 true [] (T.ofList 0 .leaf [zA, zC, zCY, zE, zA, zA, .nils, .nils, zC, zD, (.int .i64 179), zE, zAG, zA, .nils, .nils, zF, zD, (.int .i64 178), zE, zAG, zA, .nils, .nils, zAL, zC, zFK, zE, zA, zA, .nils, .nils])))]⟩
theorem I22310_ok : InOk Tryz.prog I22310 := InOk.of_run (K := K_NA1d) (n := 5000) mixed K_NA1d_ok (by kernel_rfl) (by as_aux_lemma => kernel_rfl)

noncomputable def I22064 : In := ⟨397, [(.ptr 25371 0), (.agg [zF, zD, zED, zE, zJ, zA, .nils, .nils])], 25759, [q3, q25, q40, q5, (25371, (.cells 12 false [] (T.ofList 0 .leaf [(.ptr 8659 0), (.ptr 16510 0), (.ptr 20642 72), zBY, zH, zA, zB, zF, (.so 25721 0 2 3), (.so 25724 0 2 3), (.map 25370), zE]))), q519, q520], (.tup []), 25808, [q3, q25, q40, q5, (25371, (.cells 12 false [] (T.ofList 0 .leaf [(.ptr 8659 0), (.ptr 16510 0), (.ptr 20642 72), zBY, zH, zA, zB, zF, (.so 25806 0 2 3), (.so 25807 0 1 3), (.map 25370), zE]))), q519, q520, (25806, (.cells 6 true [] (T.ofList 0 .leaf [zC, zH, zA, zA, zH, zA]))), (25807, (.cells 3 true [] (T.ofList 0 .leaf [zAL, zDA, zA])))]⟩
theorem I22064_ok : InOk Tryz.prog I22064 := InOk.of_run (K := K_NA1d) (n := 5000) mixed K_NA1d_ok (by kernel_rfl) (by as_aux_lemma => kernel_rfl)

noncomputable def I21894 : In := ⟨293, [(.so 20038 0 18 1)], 25372, [q40], (.tup [(.so 25572 0 10 8), zI]), 25573, [q40, (25572, (.cells 80 true [] (T.ofList 0 .leaf [zA, zD, (.int .i64 187), zE, zK, zA, .nils, .nils, zD, zC, (.int .i64 89), zE, zA, zA, .nils, .nils, zF, zD, zED, zE, zJ, zA, .nils, .nils, zAL, zC, (.int .i64 76), zE, zC, zA, .nils, .nils, zAH, zC, zCZ, zE, zC, zA, .nils, .nils, zT, zC, zCY, zE, zA, zA, .nils, .nils, zJ, zD, (.int .i64 181), zE, (.int .i64 48), zA, .nils, .nils, zAZ, zC, zCZ, zE, zC, zA, .nils, .nils, zBT, zD, (.int .i64 180), zE, (.int .i64 48), zA, .nils, .nils, zBX, zC, zFK, zE, zA, zA, .nils, .nils])))]⟩
theorem I21894_ok : InOk Tryz.prog I21894 := InOk.of_run (K := K_NA1d) (n := 5000) mixed K_NA1d_ok (by kernel_rfl) (by as_aux_lemma => kernel_rfl)

noncomputable def I21719 : In := ⟨293, [(.so 19830 0 8 1)], 25031, [q133], (.tup [(.so 25121 0 4 8), zI]), 25122, [q133, (25121, (.cells 32 true [] (T.ofList 0 .leaf [zA, zC, zCY, zE, zA, zA, .nils, .nils, zC, zD, (.int .i64 179), zE, zCZ, zA, .nils, .nils, zF, zD, (.int .i64 178), zE, zCZ, zA, .nils, .nils, zAL, zC, zFK, zE, zA, zA, .nils, .nils])))]⟩
theorem I21719_ok : InOk Tryz.prog I21719 := InOk.of_run (K := K_NA1d) (n := 5000) mixed K_NA1d_ok (by kernel_rfl) (by as_aux_lemma => kernel_rfl)

noncomputable def I21473 : In := ⟨397, [(.ptr 24197 0), (.agg [zF, zD, zED, zE, zJ, zA, .nils, .nils])], 24585, [q3, q25, q154, q5, (24197, (.cells 12 false [] (T.ofList 0 .leaf [(.ptr 8659 0), (.ptr 16510 0), (.ptr 20642 54), zBY, zH, zA, zB, zF, (.so 24547 0 2 3), (.so 24550 0 2 3), (.map 24196), zE]))), q521, q522], (.tup []), 24634, [q3, q25, q154, q5, (24197, (.cells 12 false [] (T.ofList 0 .leaf [(.ptr 8659 0), (.ptr 16510 0), (.ptr 20642 54), zBY, zH, zA, zB, zF, (.so 24632 0 2 3), (.so 24633 0 1 3), (.map 24196), zE]))), q521, q522, (24632, (.cells 6 true [] (T.ofList 0 .leaf [zC, zH, zA, zA, zH, zA]))), (24633, (.cells 3 true [] (T.ofList 0 .leaf [zAL, zDA, zA])))]⟩
theorem I21473_ok : InOk Tryz.prog I21473 := InOk.of_run (K := K_NA1d) (n := 5000) mixed K_NA1d_ok (by kernel_rfl) (by as_aux_lemma => kernel_rfl)

noncomputable def I21303 : In := ⟨293, [(.so 19397 0 18 1)], 24198, [q154], (.tup [(.so 24398 0 10 8), zI]), 24399, [q154, (24398, (.cells 80 true [] (T.ofList 0 .leaf [zA, zD, (.int .i64 187), zE, zK, zA, .nils, .nils, zD, zC, (.int .i64 89), zE, zA, zA, .nils, .nils, zF, zD, zED, zE, zJ, zA, .nils, .nils, zAL, zC, (.int .i64 76), zE, zC, zA, .nils, .nils, zAH, zC, zCZ, zE, zC, zA, .nils, .nils, zT, zC, zCY, zE, zA, zA, .nils, .nils, zJ, zD, (.int .i64 181), zE, (.int .i64 39), zA, .nils, .nils, zAZ, zC, zCZ, zE, zC, zA, .nils, .nils, zBT, zD, (.int .i64 180), zE, (.int .i64 39), zA, .nils, .nils, zBX, zC, zFK, zE, zA, zA, .nils, .nils])))]⟩
theorem I21303_ok : InOk Tryz.prog I21303 := InOk.of_run (K := K_NA1d) (n := 5000) mixed K_NA1d_ok (by kernel_rfl) (by as_aux_lemma => kernel_rfl)

noncomputable def I21128 : In := ⟨293, [(.so 19191 0 8 1)], 23857, [q227], (.tup [(.so 23947 0 4 8), zI]), 23948, [q227, (23947, (.cells 32 true [] (T.ofList 0 .leaf [zA, zC, zCY, zE, zA, zA, .nils, .nils, zC, zD, (.int .i64 179), zE, zFJ, zA, .nils, .nils, zF, zD, (.int .i64 178), zE, zFJ, zA, .nils, .nils, zAL, zC, zFK, zE, zA, zA, .nils, .nils])))]⟩
theorem I21128_ok : InOk Tryz.prog I21128 := InOk.of_run (K := K_NA1d) (n := 5000) mixed K_NA1d_ok (by kernel_rfl) (by as_aux_lemma => kernel_rfl)

noncomputable def I20882 : In := ⟨397, [(.ptr 23023 0), (.agg [zF, zD, zED, zE, zJ, zA, .nils, .nils])], 23411, [q3, q25, q248, q5, (23023, (.cells 12 false [] (T.ofList 0 .leaf [(.ptr 8659 0), (.ptr 16510 0), (.ptr 20642 36), zBY, zH, zA, zB, zF, (.so 23373 0 2 3), (.so 23376 0 2 3), (.map 23022), zE]))), q523, q524], (.tup []), 23460, [q3, q25, q248, q5, (23023, (.cells 12 false [] (T.ofList 0 .leaf [(.ptr 8659 0), (.ptr 16510 0), (.ptr 20642 36), zBY, zH, zA, zB, zF, (.so 23458 0 2 3), (.so 23459 0 1 3), (.map 23022), zE]))), q523, q524, (23458, (.cells 6 true [] (T.ofList 0 .leaf [zC, zH, zA, zA, zH, zA]))), (23459, (.cells 3 true [] (T.ofList 0 .leaf [zAL, zDA, zA])))]⟩
theorem I20882_ok : InOk Tryz.prog I20882 := InOk.of_run (K := K_NA1d) (n := 5000) mixed K_NA1d_ok (by kernel_rfl) (by as_aux_lemma => kernel_rfl)

noncomputable def I20712 : In := ⟨293, [(.so 18760 0 18 1)], 23024, [q248], (.tup [(.so 23224 0 10 8), zI]), 23225, [q248, (23224, (.cells 80 true [] (T.ofList 0 .leaf [zA, zD, (.int .i64 187), zE, zK, zA, .nils, .nils, zD, zC, (.int .i64 89), zE, zA, zA, .nils, .nils, zF, zD, zED, zE, zJ, zA, .nils, .nils, zAL, zC, (.int .i64 76), zE, zC, zA, .nils, .nils, zAH, zC, zCZ, zE, zC, zA, .nils, .nils, zT, zC, zCY, zE, zA, zA, .nils, .nils, zJ, zD, (.int .i64 181), zE, zS, zA, .nils, .nils, zAZ, zC, zCZ, zE, zC, zA, .nils, .nils, zBT, zD, (.int .i64 180), zE, zS, zA, .nils, .nils, zBX, zC, zFK, zE, zA, zA, .nils, .nils])))]⟩
theorem I20712_ok : InOk Tryz.prog I20712 := InOk.of_run (K := K_NA1d) (n := 5000) mixed K_NA1d_ok (by kernel_rfl) (by as_aux_lemma => kernel_rfl)

noncomputable def I20537 : In := ⟨293, [(.so 18556 0 8 1)], 22683, [q321], (.tup [(.so 22773 0 4 8), zI]), 22774, [q321, (22773, (.cells 32 true [] (T.ofList 0 .leaf [zA, zC, zCY, zE, zA, zA, .nils, .nils, zC, zD, (.int .i64 179), zE, zEA, zA, .nils, .nils, zF, zD, (.int .i64 178), zE, zEA, zA, .nils, .nils, zAL, zC, zFK, zE, zA, zA, .nils, .nils])))]⟩
theorem I20537_ok : InOk Tryz.prog I20537 := InOk.of_run (K := K_NA1d) (n := 5000) mixed K_NA1d_ok (by kernel_rfl) (by as_aux_lemma => kernel_rfl)

noncomputable def I20291 : In := ⟨397, [(.ptr 21849 0), (.agg [zF, zD, zED, zE, zJ, zA, .nils, .nils])], 22237, [q3, q25, q341, q5, (21849, (.cells 12 false [] (T.ofList 0 .leaf [(.ptr 8659 0), (.ptr 16510 0), (.ptr 20642 18), zBY, zH, zA, zB, zF, (.so 22199 0 2 3), (.so 22202 0 2 3), (.map 21848), zE]))), q525, q526], (.tup []), 22286, [q3, q25, q341, q5, (21849, (.cells 12 false [] (T.ofList 0 .leaf [(.ptr 8659 0), (.ptr 16510 0), (.ptr 20642 18), zBY, zH, zA, zB, zF, (.so 22284 0 2 3), (.so 22285 0 1 3), (.map 21848), zE]))), q525, q526, (22284, (.cells 6 true [] (T.ofList 0 .leaf [zC, zH, zA, zA, zH, zA]))), (22285, (.cells 3 true [] (T.ofList 0 .leaf [zAL, zDA, zA])))]⟩
theorem I20291_ok : InOk Tryz.prog I20291 := InOk.of_run (K := K_NA1d) (n := 5000) mixed K_NA1d_ok (by kernel_rfl) (by as_aux_lemma => kernel_rfl)

noncomputable def I20121 : In := ⟨293, [(.so 18127 0 18 1)], 21850, [q341], (.tup [(.so 22050 0 10 8), zI]), 22051, [q341, (22050, (.cells 80 true [] (T.ofList 0 .leaf [zA, zD, (.int .i64 187), zE, zK, zA, .nils, .nils, zD, zC, (.int .i64 89), zE, zA, zA, .nils, .nils, zF, zD, zED, zE, zJ, zA, .nils, .nils, zAL, zC, (.int .i64 76), zE, zC, zA, .nils, .nils, zAH, zC, zCZ, zE, zC, zA, .nils, .nils, zT, zC, zCY, zE, zA, zA, .nils, .nils, zJ, zD, (.int .i64 181), zE, zEH, zA, .nils, .nils, zAZ, zC, zCZ, zE, zC, zA, .nils, .nils, zBT, zD, (.int .i64 180), zE, zEH, zA, .nils, .nils, zBX, zC, zFK, zE, zA, zA, .nils, .nils])))]⟩
theorem I20121_ok : InOk Tryz.prog I20121 := InOk.of_run (K := K_NA1d) (n := 5000) mixed K_NA1d_ok (by kernel_rfl) (by as_aux_lemma => kernel_rfl)
noncomputable def H_NA1d : Hand := ((Hand.at 397 (Hand.sp 24585 ((inHand I20882).or (inHand I20291)) ((inHand I22064).or (inHand I21473)))).or (Hand.at 293 (Hand.sp 24198 (Hand.sp 23024 ((inHand I20537).or (inHand I20121)) ((inHand I21128).or (inHand I20712))) (Hand.sp 25372 ((inHand I21719).or (inHand I21303)) ((inHand I22310).or (inHand I21894))))))
theorem H_NA1d_ok : HandOk Tryz.prog H_NA1d := (HandOk.or (HandOk.at 397 (HandOk.sp 24585 (HandOk.or (inHand_ok I20882_ok (by kernel_rfl)) (inHand_ok I20291_ok (by kernel_rfl))) (HandOk.or (inHand_ok I22064_ok (by kernel_rfl)) (inHand_ok I21473_ok (by kernel_rfl))))) (HandOk.at 293 (HandOk.sp 24198 (HandOk.sp 23024 (HandOk.or (inHand_ok I20537_ok (by kernel_rfl)) (inHand_ok I20121_ok (by kernel_rfl))) (HandOk.or (inHand_ok I21128_ok (by kernel_rfl)) (inHand_ok I20712_ok (by kernel_rfl)))) (HandOk.sp 25372 (HandOk.or (inHand_ok I21719_ok (by kernel_rfl)) (inHand_ok I21303_ok (by kernel_rfl))) (HandOk.or (inHand_ok I22310_ok (by kernel_rfl)) (inHand_ok I21894_ok (by kernel_rfl)))))))
end Go.Proofs.YtedimikdpclpnaaGreatDoor.na
