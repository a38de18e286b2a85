/-
  Contracts of calls, by the kernel.
-/
import Derived.Test.YtedimikdpclpnaaGreatDoorXN3
import Derived.Test.YtedimikdpclpnaaGreatDoorProg
import Derived.KernelRfl
import Derived.Test.YtedimikdpclpnaaGreatDoorNA0a
import Derived.Test.YtedimikdpclpnaaGreatDoorNA0b
set_option linter.unusedSectionVars false
set_option linter.unusedVariables false
set_option maxRecDepth 1000000
set_option maxHeartbeats 0
namespace Go.Proofs.YtedimikdpclpnaaGreatDoor.na
open Go.X Go.RowKit
variable [Tab]
noncomputable def K_NA1e : Hand := ((H_NA0b).or H_NA0a)
theorem K_NA1e_ok : HandOk Tryz.prog K_NA1e := (HandOk.or H_NA0b_ok H_NA0a_ok)

noncomputable def I19946 : In := ⟨293, [(.so 17925 0 8 1)], 21509, [q414], (.tup [(.so 21599 0 4 8), zI]), 21600, [q414, (21599, (.cells 32 true [] (T.ofList 0 .leaf [zA, zC, zCY, zE, zA, zA, .nils, .nils, zC, zD, (.int .i64 179), zE, zBZ, zA, .nils, .nils, zF, zD, (.int .i64 178), zE, zBZ, zA, .nils, .nils, zAL, zC, zFK, zE, zA, zA, .nils, .nils])))]⟩
theorem I19946_ok : InOk Tryz.prog I19946 := InOk.of_run (K := K_NA1e) (n := 5000) mixed K_NA1e_ok (by kernel_rfl) (by as_aux_lemma => kernel_rfl)

noncomputable def I19700 : In := ⟨397, [(.ptr 20675 0), (.agg [zF, zD, zED, zE, zJ, zA, .nils, .nils])], 21063, [q3, q25, q434, q5, (20675, (.cells 12 false [] (T.ofList 0 .leaf [(.ptr 8659 0), (.ptr 16510 0), (.ptr 20642 0), zBY, zH, zA, zB, zF, (.so 21025 0 2 3), (.so 21028 0 2 3), (.map 20674), zE]))), q527, q528], (.tup []), 21112, [q3, q25, q434, q5, (20675, (.cells 12 false [] (T.ofList 0 .leaf [(.ptr 8659 0), (.ptr 16510 0), (.ptr 20642 0), zBY, zH, zA, zB, zF, (.so 21110 0 2 3), (.so 21111 0 1 3), (.map 20674), zE]))), q527, q528, (21110, (.cells 6 true [] (T.ofList 0 .leaf [zC, zH, zA, zA, zH, zA]))), (21111, (.cells 3 true [] (T.ofList 0 .leaf [zAL, zDA, zA])))]⟩
theorem I19700_ok : InOk Tryz.prog I19700 := InOk.of_run (K := K_NA1e) (n := 5000) mixed K_NA1e_ok (by kernel_rfl) (by as_aux_lemma => kernel_rfl)

noncomputable def I19530 : In := ⟨293, [(.so 17498 0 18 1)], 20676, [q434], (.tup [(.so 20876 0 10 8), zI]), 20877, [q434, (20876, (.cells 80 true [] (T.ofList 0 .leaf [zA, zD, (.int .i64 187), zE, zK, zA, .nils, .nils, zD, zC, (.int .i64 89), zE, zA, zA, .nils, .nils, zF, zD, zED, zE, zJ, zA, .nils, .nils, zAL, zC, (.int .i64 76), zE, zC, zA, .nils, .nils, zAH, zC, zCZ, zE, zC, zA, .nils, .nils, zT, zC, zCY, zE, zA, zA, .nils, .nils, zJ, zD, (.int .i64 181), zE, zN, zA, .nils, .nils, zAZ, zC, zCZ, zE, zC, zA, .nils, .nils, zBT, zD, (.int .i64 180), zE, zN, zA, .nils, .nils, zBX, zC, zFK, zE, zA, zA, .nils, .nils])))]⟩
theorem I19530_ok : InOk Tryz.prog I19530 := InOk.of_run (K := K_NA1e) (n := 5000) mixed K_NA1e_ok (by kernel_rfl) (by as_aux_lemma => kernel_rfl)

noncomputable def I19416 : In := ⟨293, [(.so 20473 0 8 1)], 20474, [q4], (.tup [(.so 20564 0 4 8), zI]), 20565, [q4, (20564, (.cells 32 true [] (T.ofList 0 .leaf [zA, zC, zCY, zE, zA, zA, .nils, .nils, zC, zD, (.int .i64 179), zE, zAG, zA, .nils, .nils, zF, zD, (.int .i64 178), zE, zAG, zA, .nils, .nils, zAL, zC, zFK, zE, zA, zA, .nils, .nils])))]⟩
theorem I19416_ok : InOk Tryz.prog I19416 := InOk.of_run (K := K_NA1e) (n := 5000) mixed K_NA1e_ok (by kernel_rfl) (by as_aux_lemma => kernel_rfl)

noncomputable def I19137 : In := ⟨293, [(.so 20038 0 18 1)], 20039, [q40], (.tup [(.so 20239 0 10 8), zI]), 20240, [q40, (20239, (.cells 80 true [] (T.ofList 0 .leaf [zA, zD, (.int .i64 187), zE, zK, zA, .nils, .nils, zD, zC, (.int .i64 89), zE, zA, zA, .nils, .nils, zF, zD, zED, zE, zJ, zA, .nils, .nils, zAL, zC, (.int .i64 76), zE, zC, zA, .nils, .nils, zAH, zC, zCZ, zE, zC, zA, .nils, .nils, zT, zC, zCY, zE, zA, zA, .nils, .nils, zJ, zD, (.int .i64 181), zE, (.int .i64 48), zA, .nils, .nils, zAZ, zC, zCZ, zE, zC, zA, .nils, .nils, zBT, zD, (.int .i64 180), zE, (.int .i64 48), zA, .nils, .nils, zBX, zC, zFK, zE, zA, zA, .nils, .nils])))]⟩
theorem I19137_ok : InOk Tryz.prog I19137 := InOk.of_run (K := K_NA1e) (n := 5000) mixed K_NA1e_ok (by kernel_rfl) (by as_aux_lemma => kernel_rfl)

noncomputable def I18945 : In := ⟨293, [(.so 19830 0 8 1)], 19831, [q133], (.tup [(.so 19921 0 4 8), zI]), 19922, [q133, (19921, (.cells 32 true [] (T.ofList 0 .leaf [zA, zC, zCY, zE, zA, zA, .nils, .nils, zC, zD, (.int .i64 179), zE, zCZ, zA, .nils, .nils, zF, zD, (.int .i64 178), zE, zCZ, zA, .nils, .nils, zAL, zC, zFK, zE, zA, zA, .nils, .nils])))]⟩
theorem I18945_ok : InOk Tryz.prog I18945 := InOk.of_run (K := K_NA1e) (n := 5000) mixed K_NA1e_ok (by kernel_rfl) (by as_aux_lemma => kernel_rfl)

noncomputable def I18668 : In := ⟨293, [(.so 19397 0 18 1)], 19398, [q154], (.tup [(.so 19598 0 10 8), zI]), 19599, [q154, (19598, (.cells 80 true [] (T.ofList 0 .leaf [zA, zD, (.int .i64 187), zE, zK, zA, .nils, .nils, zD, zC, (.int .i64 89), zE, zA, zA, .nils, .nils, zF, zD, zED, zE, zJ, zA, .nils, .nils, zAL, zC, (.int .i64 76), zE, zC, zA, .nils, .nils, zAH, zC, zCZ, zE, zC, zA, .nils, .nils, zT, zC, zCY, zE, zA, zA, .nils, .nils, zJ, zD, (.int .i64 181), zE, (.int .i64 39), zA, .nils, .nils, zAZ, zC, zCZ, zE, zC, zA, .nils, .nils, zBT, zD, (.int .i64 180), zE, (.int .i64 39), zA, .nils, .nils, zBX, zC, zFK, zE, zA, zA, .nils, .nils])))]⟩
theorem I18668_ok : InOk Tryz.prog I18668 := InOk.of_run (K := K_NA1e) (n := 5000) mixed K_NA1e_ok (by kernel_rfl) (by as_aux_lemma => kernel_rfl)

noncomputable def I18478 : In := ⟨293, [(.so 19191 0 8 1)], 19192, [q227], (.tup [(.so 19282 0 4 8), zI]), 19283, [q227, (19282, (.cells 32 true [] (T.ofList 0 .leaf [zA, zC, zCY, zE, zA, zA, .nils, .nils, zC, zD, (.int .i64 179), zE, zFJ, zA, .nils, .nils, zF, zD, (.int .i64 178), zE, zFJ, zA, .nils, .nils, zAL, zC, zFK, zE, zA, zA, .nils, .nils])))]⟩
theorem I18478_ok : InOk Tryz.prog I18478 := InOk.of_run (K := K_NA1e) (n := 5000) mixed K_NA1e_ok (by kernel_rfl) (by as_aux_lemma => kernel_rfl)

noncomputable def I18203 : In := ⟨293, [(.so 18760 0 18 1)], 18761, [q248], (.tup [(.so 18961 0 10 8), zI]), 18962, [q248, (18961, (.cells 80 true [] (T.ofList 0 .leaf [zA, zD, (.int .i64 187), zE, zK, zA, .nils, .nils, zD, zC, (.int .i64 89), zE, zA, zA, .nils, .nils, zF, zD, zED, zE, zJ, zA, .nils, .nils, zAL, zC, (.int .i64 76), zE, zC, zA, .nils, .nils, zAH, zC, zCZ, zE, zC, zA, .nils, .nils, zT, zC, zCY, zE, zA, zA, .nils, .nils, zJ, zD, (.int .i64 181), zE, zS, zA, .nils, .nils, zAZ, zC, zCZ, zE, zC, zA, .nils, .nils, zBT, zD, (.int .i64 180), zE, zS, zA, .nils, .nils, zBX, zC, zFK, zE, zA, zA, .nils, .nils])))]⟩
theorem I18203_ok : InOk Tryz.prog I18203 := InOk.of_run (K := K_NA1e) (n := 5000) mixed K_NA1e_ok (by kernel_rfl) (by as_aux_lemma => kernel_rfl)

noncomputable def I18015 : In := ⟨293, [(.so 18556 0 8 1)], 18557, [q321], (.tup [(.so 18647 0 4 8), zI]), 18648, [q321, (18647, (.cells 32 true [] (T.ofList 0 .leaf [zA, zC, zCY, zE, zA, zA, .nils, .nils, zC, zD, (.int .i64 179), zE, zEA, zA, .nils, .nils, zF, zD, (.int .i64 178), zE, zEA, zA, .nils, .nils, zAL, zC, zFK, zE, zA, zA, .nils, .nils])))]⟩
theorem I18015_ok : InOk Tryz.prog I18015 := InOk.of_run (K := K_NA1e) (n := 5000) mixed K_NA1e_ok (by kernel_rfl) (by as_aux_lemma => kernel_rfl)
noncomputable def H_NA1e : Hand := ((Hand.at 397 (inHand I19700)).or (Hand.at 293 (Hand.sp 19831 (Hand.sp 19192 ((inHand I18203).or (inHand I18015)) ((inHand I18668).or (inHand I18478))) (Hand.sp 20474 ((inHand I19137).or (inHand I18945)) (Hand.sp 20676 (inHand I19416) ((inHand I19946).or (inHand I19530)))))))
theorem H_NA1e_ok : HandOk Tryz.prog H_NA1e := (HandOk.or (HandOk.at 397 (inHand_ok I19700_ok (by kernel_rfl))) (HandOk.at 293 (HandOk.sp 19831 (HandOk.sp 19192 (HandOk.or (inHand_ok I18203_ok (by kernel_rfl)) (inHand_ok I18015_ok (by kernel_rfl))) (HandOk.or (inHand_ok I18668_ok (by kernel_rfl)) (inHand_ok I18478_ok (by kernel_rfl)))) (HandOk.sp 20474 (HandOk.or (inHand_ok I19137_ok (by kernel_rfl)) (inHand_ok I18945_ok (by kernel_rfl))) (HandOk.sp 20676 (inHand_ok I19416_ok (by kernel_rfl)) (HandOk.or (inHand_ok I19946_ok (by kernel_rfl)) (inHand_ok I19530_ok (by kernel_rfl))))))))
end Go.Proofs.YtedimikdpclpnaaGreatDoor.na
