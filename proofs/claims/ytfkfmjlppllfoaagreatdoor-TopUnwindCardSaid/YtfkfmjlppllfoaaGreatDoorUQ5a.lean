/-
  Contracts of calls, by the kernel.
-/
import Derived.Test.YtfkfmjlppllfoaaGreatDoorUNN
import Derived.Test.YtfkfmjlppllfoaaGreatDoorXN3
import Derived.Test.YtfkfmjlppllfoaaGreatDoorProg
import Derived.KernelRfl
import Derived.Test.YtfkfmjlppllfoaaGreatDoorUQ0a
import Derived.Test.YtfkfmjlppllfoaaGreatDoorUQ1a
import Derived.Test.YtfkfmjlppllfoaaGreatDoorUQ2a
import Derived.Test.YtfkfmjlppllfoaaGreatDoorUQ4a
set_option linter.unusedSectionVars false
set_option linter.unusedVariables false
set_option maxRecDepth 1000000
set_option maxHeartbeats 0
namespace Go.Proofs.YtfkfmjlppllfoaaGreatDoor.uq
open Go.X Go.RowKit
variable [Tab]
noncomputable def K_UQ5a : Hand := ((H_UQ4a).or ((H_UQ2a).or ((H_UQ1a).or H_UQ0a)))
theorem K_UQ5a_ok : HandOk Tryz.prog K_UQ5a := (HandOk.or H_UQ4a_ok (HandOk.or H_UQ2a_ok (HandOk.or H_UQ1a_ok H_UQ0a_ok)))

noncomputable def I7196 : In := ⟨18, [(.sl 7240 0 1 1)], 7241, [(6868, (.cells 13 false [] (T.ofList 0 .leaf [(.so 7229 0 14 1), (.so 7231 0 14 1), (.so 7233 0 14 1), (iN 15), tx51, tx3, (iN 33), (iN 52), .nils, .nils, z0, (.so 7239 0 108 1), z1]))), q34, q35, q36, q37, q38, q39, q40, q41, q42, q43, q44, q45, q46, q47, (7229, (.cells 14 true [] (T.ofList 0 .leaf [(.str 27 45430407400005256276101359266698877386877809481558744045742811765), (.str 27 45430407400005256276101359266698877386877809481558744045742811747), (.str 7 17579444728839285), (.str 4 1445537909), (.str 11 104161979579338611789216878), (.str 38 10969536774233605500730641210075259226778150389484724426426711032056526147976039997930302010), (.str 2 19829), (.str 2 19811), (.str 3 7300981), (.str 6 80441672018037), (.str 9 1349587306846780090222), (.str 11 88446553741510579988614458), (.str 14 2057110458715878086990115235976053), (.str 5 435476710261)]))), (7231, (.cells 14 true [] (T.ofList 0 .leaf [(.so 6902 0 29 1), (.so 6911 0 3 1), (.so 6932 0 9 1), (.so 6942 0 6 1), (.so 6953 0 5 1), (.so 6965 0 5 1), (.so 6988 0 4 1), (.so 6997 0 3 1), (.so 7007 0 5 1), (.so 7017 0 8 1), (.so 7028 0 5 1), (.so 7040 0 5 1), (.so 7210 0 16 1), (.so 7227 0 7 1)]))), (7233, (.cells 14 true [] (T.ofList 0 .leaf [z1, z2, (iN 3), (iN 4), (iN 5), (iN 6), (iN 7), (iN 8), (iN 9), (iN 10), (iN 11), (iN 12), (iN 13), (iN 14)]))), q48, (7240, (.cells 1 false [] (T.ofList 0 .leaf [(pN 6868)])))], (pN 14068), 15584, [q34, q35, q36, q37, q38, q39, q40, q41, q42, q43, q44, q45, q46, q47, q48, (7240, (.cells 1 false [] (T.ofList 0 .leaf [(pN 6868)]))), (7241, (.map [(tx51, (pN 14138), 0)] 1)), q0, q1, q2, q3, q4, (9869, (.cells 18 true [] (T.ofList 0 .leaf [z1, tx8, tx32, bF, z0, z0, .nils, .nils, .nils, z1, tx8, tx5, bF, z0, z0, .nils, .nils, .nils]))), q5, q23, q24, q25, (10499, (.map [] 0)), (10500, (.map [] 0)), q26, q27, q28, q29, (13843, (.map [] 0)), (13844, (.map [] 0)), (13845, (.map [] 0)), q30, q31, q32, q33, (14067, (.cells 2 false [] (T.ofList 0 .leaf [(pN 7243), (pN 13846)]))), (14068, (.cells 2 false [] (T.ofList 0 .leaf [(pN 14067), bT]))), q6, q7, q8, q9, q10, q11, q12, q13, q14, q15]⟩
theorem I7196_ok : InOk Tryz.prog I7196 := InOk.of_run (K := K_UQ5a) (n := 5000) mixed K_UQ5a_ok (by kernel_rfl) (by as_aux_lemma => kernel_rfl)
noncomputable def H_UQ5a : Hand := (Hand.at 18 (inHand I7196))
theorem H_UQ5a_ok : HandOk Tryz.prog H_UQ5a := (HandOk.at 18 (inHand_ok I7196_ok (by kernel_rfl)))
end Go.Proofs.YtfkfmjlppllfoaaGreatDoor.uq
