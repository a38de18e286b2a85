/-
  Contracts of calls, by the kernel.
-/
import Derived.Test.YtedimikdpclpnaaGreatDoorXN3
import Derived.Test.YtedimikdpclpnaaGreatDoorProg
import Derived.KernelRfl
import Derived.Test.YtedimikdpclpnaaGreatDoorNA0a
import Derived.Test.YtedimikdpclpnaaGreatDoorNA0b
import Derived.Test.YtedimikdpclpnaaGreatDoorNA0e
import Derived.Test.YtedimikdpclpnaaGreatDoorNA0f
set_option linter.unusedSectionVars false
set_option linter.unusedVariables false
set_option maxRecDepth 1000000
set_option maxHeartbeats 0
namespace Go.Proofs.YtedimikdpclpnaaGreatDoor.na
open Go.X Go.RowKit
variable [Tab]
noncomputable def K_NA1f : Hand := ((H_NA0f).or ((H_NA0e).or ((H_NA0b).or H_NA0a)))
theorem K_NA1f_ok : HandOk Tryz.prog K_NA1f := (HandOk.or H_NA0f_ok (HandOk.or H_NA0e_ok (HandOk.or H_NA0b_ok H_NA0a_ok)))

noncomputable def I17742 : In := ⟨293, [(.so 18127 0 18 1)], 18128, [q341], (.tup [(.so 18328 0 10 8), zI]), 18329, [q341, (18328, (.cells 80 true [] (T.ofList 0 .leaf [zA, zD, (.int .i64 187), zE, zK, zA, .nils, .nils, zD, zC, (.int .i64 89), zE, zA, zA, .nils, .nils, zF, zD, zED, zE, zJ, zA, .nils, .nils, zAL, zC, (.int .i64 76), zE, zC, zA, .nils, .nils, zAH, zC, zCZ, zE, zC, zA, .nils, .nils, zT, zC, zCY, zE, zA, zA, .nils, .nils, zJ, zD, (.int .i64 181), zE, zEH, zA, .nils, .nils, zAZ, zC, zCZ, zE, zC, zA, .nils, .nils, zBT, zD, (.int .i64 180), zE, zEH, zA, .nils, .nils, zBX, zC, zFK, zE, zA, zA, .nils, .nils])))]⟩
theorem I17742_ok : InOk Tryz.prog I17742 := InOk.of_run (K := K_NA1f) (n := 5000) mixed K_NA1f_ok (by kernel_rfl) (by as_aux_lemma => kernel_rfl)

noncomputable def I17556 : In := ⟨293, [(.so 17925 0 8 1)], 17926, [q414], (.tup [(.so 18016 0 4 8), zI]), 18017, [q414, (18016, (.cells 32 true [] (T.ofList 0 .leaf [zA, zC, zCY, zE, zA, zA, .nils, .nils, zC, zD, (.int .i64 179), zE, zBZ, zA, .nils, .nils, zF, zD, (.int .i64 178), zE, zBZ, zA, .nils, .nils, zAL, zC, zFK, zE, zA, zA, .nils, .nils])))]⟩
theorem I17556_ok : InOk Tryz.prog I17556 := InOk.of_run (K := K_NA1f) (n := 5000) mixed K_NA1f_ok (by kernel_rfl) (by as_aux_lemma => kernel_rfl)

noncomputable def I17285 : In := ⟨293, [(.so 17498 0 18 1)], 17499, [q434], (.tup [(.so 17699 0 10 8), zI]), 17700, [q434, (17699, (.cells 80 true [] (T.ofList 0 .leaf [zA, zD, (.int .i64 187), zE, zK, zA, .nils, .nils, zD, zC, (.int .i64 89), zE, zA, zA, .nils, .nils, zF, zD, zED, zE, zJ, zA, .nils, .nils, zAL, zC, (.int .i64 76), zE, zC, zA, .nils, .nils, zAH, zC, zCZ, zE, zC, zA, .nils, .nils, zT, zC, zCY, zE, zA, zA, .nils, .nils, zJ, zD, (.int .i64 181), zE, zN, zA, .nils, .nils, zAZ, zC, zCZ, zE, zC, zA, .nils, .nils, zBT, zD, (.int .i64 180), zE, zN, zA, .nils, .nils, zBX, zC, zFK, zE, zA, zA, .nils, .nils])))]⟩
theorem I17285_ok : InOk Tryz.prog I17285 := InOk.of_run (K := K_NA1f) (n := 5000) mixed K_NA1f_ok (by kernel_rfl) (by as_aux_lemma => kernel_rfl)

noncomputable def I17042 : In := ⟨277, [(.ptr 16511 0)], 17418, [q530, q561, (16510, (.cells 8 false [] (T.ofList 0 .leaf [zAG, (.sl 16512 0 58 58), zA, zH, zH, .nils, .nils, .nils]))), q533, q25], (.tup []), 17458, [q530, (16509, (.cells 3 false [] (T.ofList 0 .leaf [(.so 16508 0 721 1), (.int .i64 325), zE]))), q559, q533, q25]⟩
theorem I17042_ok : InOk Tryz.prog I17042 := InOk.of_run (K := K_NA1f) (n := 5000) mixed K_NA1f_ok (by kernel_rfl) (by as_aux_lemma => kernel_rfl)
noncomputable def H_NA1f : Hand := ((Hand.at 277 (inHand I17042)).or (Hand.at 293 (Hand.sp 17926 (inHand I17285) ((inHand I17742).or (inHand I17556)))))
theorem H_NA1f_ok : HandOk Tryz.prog H_NA1f := (HandOk.or (HandOk.at 277 (inHand_ok I17042_ok (by kernel_rfl))) (HandOk.at 293 (HandOk.sp 17926 (inHand_ok I17285_ok (by kernel_rfl)) (HandOk.or (inHand_ok I17742_ok (by kernel_rfl)) (inHand_ok I17556_ok (by kernel_rfl))))))
end Go.Proofs.YtedimikdpclpnaaGreatDoor.na
