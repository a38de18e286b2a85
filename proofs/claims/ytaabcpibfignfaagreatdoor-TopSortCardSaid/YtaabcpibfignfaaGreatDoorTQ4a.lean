/-
  Contracts of calls, by the kernel.
-/
import Derived.Test.YtaabcpibfignfaaGreatDoorSONN
import Derived.Test.YtaabcpibfignfaaGreatDoorXN3
import Derived.Test.YtaabcpibfignfaaGreatDoorProg
import Derived.KernelRfl
import Derived.Test.YtaabcpibfignfaaGreatDoorTQ0a
import Derived.Test.YtaabcpibfignfaaGreatDoorTQ1a
import Derived.Test.YtaabcpibfignfaaGreatDoorTQ2a
import Derived.Test.YtaabcpibfignfaaGreatDoorTQ3a
set_option linter.unusedSectionVars false
set_option linter.unusedVariables false
set_option maxRecDepth 1000000
set_option maxHeartbeats 0
namespace Go.Proofs.YtaabcpibfignfaaGreatDoor.tq
open Go.X Go.RowKit
variable [Tab]
noncomputable def K_TQ4a : Hand := ((H_TQ3a).or ((H_TQ2a).or ((H_TQ1a).or H_TQ0a)))
theorem K_TQ4a_ok : HandOk Tryz.prog K_TQ4a := (HandOk.or H_TQ3a_ok (HandOk.or H_TQ2a_ok (HandOk.or H_TQ1a_ok H_TQ0a_ok)))

noncomputable def I10154 : In := ⟨32, [(pN 7334)], 10586, [(7332, (.map [] 0)), q160, q161, q162, q163, q164, q165, q166, q167, q168], (pN 13937), 14158, [(7332, (.map [] 0)), q160, q161, q162, q163, q164, q165, q166, q167, q168, (10586, (.map [(tx2, z0, 0), (tx11, z1, 1), (tx13, z2, 2)] 3)), (10587, (.cells 5 false [] (T.ofList 0 .leaf [(pN 7334), (.so 14155 0 8 1), (.so 14157 0 3 1), (.so 14154 0 3 3), (.map 10586)]))), (10590, (.map [] 0)), (10591, (.map [] 0)), (10592, (.cells 3 false [] (T.ofList 0 .leaf [(pN 7334), (.map 10590), (.map 10591)]))), (10593, (.cells 7 false [] (T.ofList 0 .leaf [(pN 10587), (pN 10589), (pN 7334), (.so 11307 0 39 3), .nils, bF, bF]))), (13933, (.cells 4 false [] (T.ofList 0 .leaf [.nils, .nils, .nils, z0]))), (13934, (.map [] 0)), (13935, (.map [] 0)), (13936, (.map [] 0)), (13937, (.cells 32 false [] (T.ofList 0 .leaf [(pN 7334), (pN 10592), (pN 10587), (pN 10589), (pN 10593), (pN 13933), .nils, (.map 13934), (.map 13935), .nils, z1, (iN 3), (iN 6), z0, .nilp, bF, z0, z0, z0, z0, z0, z0, (uN 0), z0, tx0, tx0, bF, z0, .nils, z0, z0, (.map 13936)]))), (14154, (.cells 9 true [] (T.ofList 0 .leaf [tx2, .nils, (uN 0), tx11, (.so 14056 0 1 1), (uN 0), tx13, (.so 14152 0 1 1), (uN 0)]))), (14155, (.cells 8 true [] (T.ofList 0 .leaf [(.int .u64 0), (.int .u64 0), (.int .u64 1), (.int .u64 0), (.int .u64 0), (.int .u64 2), (.int .u64 0), (.int .u64 0)]))), (14157, (.cells 3 true [] (T.ofList 0 .leaf [z0, z2, (iN 5)])))]⟩
theorem I10154_ok : InOk Tryz.prog I10154 := InOk.of_run (K := K_TQ4a) (n := 5000) mixed K_TQ4a_ok (by kernel_rfl) (by as_aux_lemma => kernel_rfl)

noncomputable def I3015 : In := ⟨32, [(pN 3)], 3255, [(1, (.map [] 0)), q185, q186, q187, q188, q189, q190, q191, q192, q193], (pN 6606), 6827, [(1, (.map [] 0)), q185, q186, q187, q188, q189, q190, q191, q192, q193, q174, (3258, (.cells 3 false [] (T.ofList 0 .leaf [(pN 3256), .nils, (.map 3257)]))), (3262, (.cells 7 false [] (T.ofList 0 .leaf [(pN 3256), (pN 3258), (pN 3), (.so 3976 0 39 3), .nils, bF, bF]))), (6602, (.cells 4 false [] (T.ofList 0 .leaf [.nils, .nils, .nils, z0]))), (6603, (.map [] 0)), (6606, (.cells 32 false [] (T.ofList 0 .leaf [(pN 3), (pN 3261), (pN 3256), (pN 3258), (pN 3262), (pN 6602), .nils, (.map 6603), (.map 6604), .nils, z1, (iN 3), (iN 6), z0, .nilp, bF, z0, z0, z0, z0, z0, z0, (uN 0), z0, tx0, tx0, bF, z0, .nils, z0, z0, (.map 6605)]))), (6725, (.cells 1 true [] (T.ofList 0 .leaf [(uN 76)]))), (6821, (.cells 1 true [] (T.ofList 0 .leaf [(uN 76)]))), q175, q176, q177]⟩
theorem I3015_ok : InOk Tryz.prog I3015 := InOk.of_run (K := K_TQ4a) (n := 5000) mixed K_TQ4a_ok (by kernel_rfl) (by as_aux_lemma => kernel_rfl)
noncomputable def H_TQ4a : Hand := (Hand.at 32 ((inHand I3015).or (inHand I10154)))
theorem H_TQ4a_ok : HandOk Tryz.prog H_TQ4a := (HandOk.at 32 (HandOk.or (inHand_ok I3015_ok (by kernel_rfl)) (inHand_ok I10154_ok (by kernel_rfl))))
end Go.Proofs.YtaabcpibfignfaaGreatDoor.tq
