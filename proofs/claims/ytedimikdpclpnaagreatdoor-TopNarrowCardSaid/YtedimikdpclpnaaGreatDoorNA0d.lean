/-
  Contracts of calls, by the kernel.
-/
import Derived.Test.YtedimikdpclpnaaGreatDoorXN3
import Derived.Test.YtedimikdpclpnaaGreatDoorProg
import Derived.KernelRfl
import Derived.Test.YtedimikdpclpnaaGreatDoorNA0a
set_option linter.unusedSectionVars false
set_option linter.unusedVariables false
set_option maxRecDepth 1000000
set_option maxHeartbeats 0
namespace Go.Proofs.YtedimikdpclpnaaGreatDoor.na
open Go.X Go.RowKit
variable [Tab]
noncomputable def K_NA0d : Hand := Hand.none
theorem K_NA0d_ok : HandOk Tryz.prog K_NA0d := HandOk.none

noncomputable def I7577 : In := ⟨29, [(.ptr 6982 0), zT, zDA, (.str 2 23160), (.str 1 90)], 8056, [q737, q738, q739, q740], (.int .i64 39), 8106, [q731, q615, q616, q617, q618, q733, q734, q735]⟩
theorem I7577_ok : InOk Tryz.prog I7577 := InOk.of_run (K := K_NA0d) (n := 5000) mixed K_NA0d_ok (by kernel_rfl) (by as_aux_lemma => kernel_rfl)

noncomputable def I7538 : In := ⟨25, [(.ptr 6982 0), zT, (.str 4 1131313007), zCC, zC, zC, (.so 7964 0 8 1), .nils, .nils], 7965, [q741, q742, q743, q744, q745, q746], (.tup []), 8006, [q737, q746, q614, q738, q739, q740, q732]⟩
theorem I7538_ok : InOk Tryz.prog I7538 := InOk.of_run (K := K_NA0d) (n := 5000) mixed K_NA0d_ok (by kernel_rfl) (by as_aux_lemma => kernel_rfl)

noncomputable def I7516 : In := ⟨29, [(.ptr 6982 0), zT, zDA, (.str 2 17267), (.str 1 67)], 7932, [q741, q743, q745], zFJ, 7958, [q741, q743, q745]⟩
theorem I7516_ok : InOk Tryz.prog I7516 := InOk.of_run (K := K_NA0d) (n := 5000) mixed K_NA0d_ok (by kernel_rfl) (by as_aux_lemma => kernel_rfl)

noncomputable def I7494 : In := ⟨29, [(.ptr 6982 0), zT, zDA, (.str 2 17267), (.str 1 67)], 7885, [q747, q748, q749, q750], zFJ, 7929, [q741, q611, q612, q613, q743, q744, q745]⟩
theorem I7494_ok : InOk Tryz.prog I7494 := InOk.of_run (K := K_NA0d) (n := 5000) mixed K_NA0d_ok (by kernel_rfl) (by as_aux_lemma => kernel_rfl)

noncomputable def I7474 : In := ⟨25, [(.ptr 6982 0), zT, (.str 4 1131045487), zCC, zD, zK, (.so 7840 0 18 1), .nils, .nils], 7841, [q751, q752, q753, q754, q755, q756], (.tup []), 7882, [q747, q756, q610, q748, q749, q750, q742]⟩
theorem I7474_ok : InOk Tryz.prog I7474 := InOk.of_run (K := K_NA0d) (n := 5000) mixed K_NA0d_ok (by kernel_rfl) (by as_aux_lemma => kernel_rfl)

noncomputable def I7447 : In := ⟨29, [(.ptr 6982 0), zJ, zDA, zAB, zBS], 7796, [q751, q753, q755], zJ, 7822, [q751, q753, q755]⟩
theorem I7447_ok : InOk Tryz.prog I7447 := InOk.of_run (K := K_NA0d) (n := 5000) mixed K_NA0d_ok (by kernel_rfl) (by as_aux_lemma => kernel_rfl)

noncomputable def I7419 : In := ⟨29, [(.ptr 6982 0), zT, zDA, (.str 2 17272), (.str 1 67)], 7731, [q757, q758, q759, q760], zS, 7781, [q751, q606, q607, q608, q609, q753, q754, q755]⟩
theorem I7419_ok : InOk Tryz.prog I7419 := InOk.of_run (K := K_NA0d) (n := 5000) mixed K_NA0d_ok (by kernel_rfl) (by as_aux_lemma => kernel_rfl)

noncomputable def I7380 : In := ⟨25, [(.ptr 6982 0), zT, (.str 4 1399748463), zCC, zC, zC, (.so 7639 0 8 1), .nils, .nils], 7640, [q761, q762, q763, q764, q765, q766], (.tup []), 7681, [q757, q766, q605, q758, q759, q760, q752]⟩
theorem I7380_ok : InOk Tryz.prog I7380 := InOk.of_run (K := K_NA0d) (n := 5000) mixed K_NA0d_ok (by kernel_rfl) (by as_aux_lemma => kernel_rfl)

noncomputable def I7358 : In := ⟨29, [(.ptr 6982 0), zT, zDA, (.str 2 21363), (.str 1 83)], 7607, [q761, q763, q765], zEA, 7633, [q761, q763, q765]⟩
theorem I7358_ok : InOk Tryz.prog I7358 := InOk.of_run (K := K_NA0d) (n := 5000) mixed K_NA0d_ok (by kernel_rfl) (by as_aux_lemma => kernel_rfl)

noncomputable def I7336 : In := ⟨29, [(.ptr 6982 0), zT, zDA, (.str 2 21363), (.str 1 83)], 7560, [q767, q768, q769, q770], zEA, 7604, [q761, q602, q603, q604, q763, q764, q765]⟩
theorem I7336_ok : InOk Tryz.prog I7336 := InOk.of_run (K := K_NA0d) (n := 5000) mixed K_NA0d_ok (by kernel_rfl) (by as_aux_lemma => kernel_rfl)

noncomputable def I7316 : In := ⟨25, [(.ptr 6982 0), zT, (.str 4 1399480943), zCC, zD, zK, (.so 7515 0 18 1), .nils, .nils], 7516, [q771, q772, q773, q774, q775, q776], (.tup []), 7557, [q767, q776, q601, q768, q769, q770, q762]⟩
theorem I7316_ok : InOk Tryz.prog I7316 := InOk.of_run (K := K_NA0d) (n := 5000) mixed K_NA0d_ok (by kernel_rfl) (by as_aux_lemma => kernel_rfl)
noncomputable def H_NA0d : Hand := ((Hand.at 25 (Hand.sp 7841 ((inHand I7380).or (inHand I7316)) ((inHand I7538).or (inHand I7474)))).or (Hand.at 29 (Hand.sp 7796 (Hand.sp 7607 (inHand I7336) ((inHand I7419).or (inHand I7358))) (Hand.sp 7932 ((inHand I7494).or (inHand I7447)) ((inHand I7577).or (inHand I7516))))))
theorem H_NA0d_ok : HandOk Tryz.prog H_NA0d := (HandOk.or (HandOk.at 25 (HandOk.sp 7841 (HandOk.or (inHand_ok I7380_ok (by kernel_rfl)) (inHand_ok I7316_ok (by kernel_rfl))) (HandOk.or (inHand_ok I7538_ok (by kernel_rfl)) (inHand_ok I7474_ok (by kernel_rfl))))) (HandOk.at 29 (HandOk.sp 7796 (HandOk.sp 7607 (inHand_ok I7336_ok (by kernel_rfl)) (HandOk.or (inHand_ok I7419_ok (by kernel_rfl)) (inHand_ok I7358_ok (by kernel_rfl)))) (HandOk.sp 7932 (HandOk.or (inHand_ok I7494_ok (by kernel_rfl)) (inHand_ok I7447_ok (by kernel_rfl))) (HandOk.or (inHand_ok I7577_ok (by kernel_rfl)) (inHand_ok I7516_ok (by kernel_rfl)))))))
end Go.Proofs.YtedimikdpclpnaaGreatDoor.na
