/-
  Contracts of calls, by the kernel.
-/
import Derived.Test.YtedimikdpclpnaaGreatDoorXN3
import Derived.Test.YtedimikdpclpnaaGreatDoorProg
import Derived.KernelRfl
import Derived.Test.YtedimikdpclpnaaGreatDoorNA0a
import Derived.Test.YtedimikdpclpnaaGreatDoorNA0b
import Derived.Test.YtedimikdpclpnaaGreatDoorNA0e
import Derived.Test.YtedimikdpclpnaaGreatDoorNA0f
import Derived.Test.YtedimikdpclpnaaGreatDoorNA1f
import Derived.Test.YtedimikdpclpnaaGreatDoorNA1h
import Derived.Test.YtedimikdpclpnaaGreatDoorNA1i
set_option linter.unusedSectionVars false
set_option linter.unusedVariables false
set_option maxRecDepth 1000000
set_option maxHeartbeats 0
namespace Go.Proofs.YtedimikdpclpnaaGreatDoor.na
open Go.X Go.RowKit
variable [Tab]
noncomputable def K_NA2e : Hand := ((H_NA1i).or ((H_NA1h).or ((H_NA1f).or ((H_NA0f).or ((H_NA0e).or H_NA0b)))))
theorem K_NA2e_ok : HandOk Tryz.prog K_NA2e := (HandOk.or H_NA1i_ok (HandOk.or H_NA1h_ok (HandOk.or H_NA1f_ok (HandOk.or H_NA0f_ok (HandOk.or H_NA0e_ok H_NA0b_ok)))))

noncomputable def I17284 : In := ⟨438, [(.ptr 17496 0)], 17499, [q25, (17495, (.map [] 0)), q558, q434], zI, 17880, [q25, (17495, (.map [(zA, zC, 0), (zD, zC, 1), (zF, zC, 2), (zAL, zC, 3), (zAH, zC, 4), (zT, zC, 5), (zJ, zC, 6), (zAZ, zC, 7), (zBT, zC, 8), (zBX, zC, 9)] 10)), q558, q434]⟩
theorem I17284_ok : InOk Tryz.prog I17284 := InOk.of_run (K := K_NA2e) (n := 5000) mixed K_NA2e_ok (by kernel_rfl) (by as_aux_lemma => kernel_rfl)

noncomputable def I15671 : In := ⟨379, [(.so 16250 0 17 1), (.sl 15565 0 25 25), zAG, zC], 16252, [q103, q634], (.tup [(.agg [zC, zC, (.so 16259 0 5 1), .nils, .nils]), zI]), 16381, [q103, q634, q89]⟩
theorem I15671_ok : InOk Tryz.prog I15671 := InOk.of_run (K := K_NA2e) (n := 5000) mixed K_NA2e_ok (by kernel_rfl) (by as_aux_lemma => kernel_rfl)

noncomputable def I14285 : In := ⟨156, [(.ptr 11912 0), zAK], 15401, [(8657, (.map [] 0)), q18, q645, q646, q20, q647, q648, q649, q650, (11912, (.cells 5 false [] (T.ofList 0 .leaf [(.ptr 8659 0), (.so 15384 0 5 1), (.so 15386 0 2 1), (.so 15383 0 2 3), (.map 11911)]))), q651], zK, 15480, [(8657, (.map [] 0)), q18, q645, q646, q20, q647, q648, q649, q505, (11912, (.cells 5 false [] (T.ofList 0 .leaf [(.ptr 8659 0), (.so 15384 0 5 1), (.so 15386 0 2 1), (.so 15479 0 3 3), (.map 11911)]))), (15477, (.cells 1 true [] (T.ofList 0 .leaf [zBQ]))), q507]⟩
theorem I14285_ok : InOk Tryz.prog I14285 := InOk.of_run (K := K_NA2e) (n := 5000) mixed K_NA2e_ok (by kernel_rfl) (by as_aux_lemma => kernel_rfl)

noncomputable def I14129 : In := ⟨156, [(.ptr 11912 0), zZ], 15305, [(8657, (.map [] 0)), q18, q645, q646, q20, q652, q648, q649, q653, q654, q655], zC, 15384, [(8657, (.map [] 0)), q18, q645, q646, q20, q652, q648, q649, q650, (11912, (.cells 5 false [] (T.ofList 0 .leaf [(.ptr 8659 0), (.so 15288 0 2 1), (.so 15290 0 1 1), (.so 15383 0 2 3), (.map 11911)]))), (15381, (.cells 1 true [] (T.ofList 0 .leaf [zBQ]))), q651]⟩
theorem I14129_ok : InOk Tryz.prog I14129 := InOk.of_run (K := K_NA2e) (n := 5000) mixed K_NA2e_ok (by kernel_rfl) (by as_aux_lemma => kernel_rfl)

noncomputable def I10890 : In := ⟨151, [(.ptr 11918 0)], 11919, [(11918, (.cells 7 false [] (T.ofList 0 .leaf [(.ptr 11912 0), (.ptr 11914 0), (.ptr 8659 0), .nils, .nils, zE, zE])))], (.tup []), 12764, [q0, (12632, (.cells 117 true [] (T.ofList 0 .leaf [zH, zA, .nilf, zG, zC, (.fn (.func 247) [] []), zG, zK, (.fn (.func 248) [] []), zG, zC, (.fn (.func 249) [] []), zH, zA, .nilf, zH, zA, .nilf, zH, zA, .nilf, zH, zA, .nilf, zH, zA, .nilf, zH, zA, .nilf, zH, zA, .nilf, zH, zA, .nilf, zH, zA, .nilf, zH, zA, .nilf, zH, zA, .nilf, zH, zA, .nilf, zH, zA, .nilf, zH, zA, .nilf, zH, zA, .nilf, zH, zA, .nilf, zH, zA, .nilf, zH, zA, .nilf, zH, zBG, (.fn (.func 252) [] []), zH, zA, .nilf, zH, zA, .nilf, zH, zA, .nilf, zH, zA, .nilf, zH, zA, .nilf, zH, zA, .nilf, zH, zA, .nilf, zH, zA, .nilf, zH, zA, .nilf, zH, zA, .nilf, zH, zA, .nilf, zH, zA, .nilf, zH, zA, .nilf, zAC, zC, (.fn (.func 247) [] []), zAC, zK, (.fn (.func 250) [] []), zAC, zC, (.fn (.func 251) [] [])])))]⟩
theorem I10890_ok : InOk Tryz.prog I10890 := InOk.of_run (K := K_NA2e) (n := 5000) mixed K_NA2e_ok (by kernel_rfl) (by as_aux_lemma => kernel_rfl)

noncomputable def I6415 : In := ⟨156, [(.ptr 3256 0), zAK], 6745, [(1, (.map [] 0)), q804, q805, q806, q807, q808, q809, q810, q811, (3256, (.cells 5 false [] (T.ofList 0 .leaf [(.ptr 3 0), (.so 6728 0 5 1), (.so 6730 0 2 1), (.so 6727 0 2 3), (.map 3255)]))), q812], zK, 6824, [(1, (.map [] 0)), q804, q805, q806, q807, q808, q809, q810, (3255, (.map [(zL, zA, 0), (zZ, zC, 1), (zAK, zK, 2)] 3)), (3256, (.cells 5 false [] (T.ofList 0 .leaf [(.ptr 3 0), (.so 6728 0 5 1), (.so 6730 0 2 1), (.so 6823 0 3 3), (.map 3255)]))), (6821, (.cells 1 true [] (T.ofList 0 .leaf [zBQ]))), q797]⟩
theorem I6415_ok : InOk Tryz.prog I6415 := InOk.of_run (K := K_NA2e) (n := 5000) mixed K_NA2e_ok (by kernel_rfl) (by as_aux_lemma => kernel_rfl)

noncomputable def I6259 : In := ⟨156, [(.ptr 3256 0), zZ], 6649, [(1, (.map [] 0)), q804, q805, q806, q807, q813, q809, q810, q814, q815, q816], zC, 6728, [(1, (.map [] 0)), q804, q805, q806, q807, q813, q809, q810, q811, (3256, (.cells 5 false [] (T.ofList 0 .leaf [(.ptr 3 0), (.so 6632 0 2 1), (.so 6634 0 1 1), (.so 6727 0 2 3), (.map 3255)]))), (6725, (.cells 1 true [] (T.ofList 0 .leaf [zBQ]))), q812]⟩
theorem I6259_ok : InOk Tryz.prog I6259 := InOk.of_run (K := K_NA2e) (n := 5000) mixed K_NA2e_ok (by kernel_rfl) (by as_aux_lemma => kernel_rfl)

noncomputable def S4909 : Sum := ⟨(.tup [(.agg [zBQ, zR, zA, zB]), zEA]), 52, []⟩
theorem S4909_ok : SumOk Tryz.prog 114 [(.str 25 373153985705341413772959258306815421632630762655423140031052)] S4909 := SumOk.of_run (K := K_NA2e) (n := 5000) (keep := []) mixed K_NA2e_ok (by kernel_rfl) (by as_aux_lemma => kernel_rfl)

noncomputable def S4708 : Sum := ⟨(.tup [(.so 5 0 1 4), (.agg [zBQ, zX, zA, zB]), zI]), 46, [q819]⟩
theorem S4708_ok : SumOk Tryz.prog 78 [zFO] S4708 := SumOk.of_run (K := K_NA2e) (n := 5000) (keep := [5]) mixed K_NA2e_ok (by kernel_rfl) (by as_aux_lemma => kernel_rfl)

noncomputable def S4602 : Sum := ⟨(.tup [(.so 5 0 1 4), (.agg [zBQ, zX, zA, zB]), zI]), 46, [q820]⟩
theorem S4602_ok : SumOk Tryz.prog 78 [zFN] S4602 := SumOk.of_run (K := K_NA2e) (n := 5000) (keep := [5]) mixed K_NA2e_ok (by kernel_rfl) (by as_aux_lemma => kernel_rfl)

noncomputable def S4497 : Sum := ⟨(.tup [(.so 5 0 1 4), (.agg [zBQ, zX, zA, zB]), zI]), 46, [q821]⟩
theorem S4497_ok : SumOk Tryz.prog 78 [zFM] S4497 := SumOk.of_run (K := K_NA2e) (n := 5000) (keep := [5]) mixed K_NA2e_ok (by kernel_rfl) (by as_aux_lemma => kernel_rfl)

noncomputable def S4393 : Sum := ⟨(.tup [(.so 5 0 1 4), (.agg [zBQ, zX, zA, zB]), zI]), 46, [q560]⟩
theorem S4393_ok : SumOk Tryz.prog 78 [zFL] S4393 := SumOk.of_run (K := K_NA2e) (n := 5000) (keep := [5]) mixed K_NA2e_ok (by kernel_rfl) (by as_aux_lemma => kernel_rfl)

noncomputable def S3926 : Sum := ⟨(.tup [(.so 40 0 1 4), (.agg [zBQ, zX, zA, zB]), zI]), 81, [q822]⟩
theorem S3926_ok : SumOk Tryz.prog 78 [zCX] S3926 := SumOk.of_run (K := K_NA2e) (n := 5000) (keep := [40]) mixed K_NA2e_ok (by kernel_rfl) (by as_aux_lemma => kernel_rfl)

noncomputable def I3020 : In := ⟨151, [(.ptr 3262 0)], 3263, [(3262, (.cells 7 false [] (T.ofList 0 .leaf [(.ptr 3256 0), (.ptr 3258 0), (.ptr 3 0), .nils, .nils, zE, zE])))], (.tup []), 4108, [q823, (3976, (.cells 117 true [] (T.ofList 0 .leaf [zH, zA, .nilf, zG, zC, (.fn (.func 247) [] []), zG, zK, (.fn (.func 248) [] []), zG, zC, (.fn (.func 249) [] []), zH, zA, .nilf, zH, zA, .nilf, zH, zA, .nilf, zH, zA, .nilf, zH, zA, .nilf, zH, zA, .nilf, zH, zA, .nilf, zH, zA, .nilf, zH, zA, .nilf, zH, zA, .nilf, zH, zA, .nilf, zH, zA, .nilf, zH, zA, .nilf, zH, zA, .nilf, zH, zA, .nilf, zH, zA, .nilf, zH, zA, .nilf, zH, zA, .nilf, zH, zBG, (.fn (.func 252) [] []), zH, zA, .nilf, zH, zA, .nilf, zH, zA, .nilf, zH, zA, .nilf, zH, zA, .nilf, zH, zA, .nilf, zH, zA, .nilf, zH, zA, .nilf, zH, zA, .nilf, zH, zA, .nilf, zH, zA, .nilf, zH, zA, .nilf, zH, zA, .nilf, zAC, zC, (.fn (.func 247) [] []), zAC, zK, (.fn (.func 250) [] []), zAC, zC, (.fn (.func 251) [] [])])))]⟩
theorem I3020_ok : InOk Tryz.prog I3020 := InOk.of_run (K := K_NA2e) (n := 5000) mixed K_NA2e_ok (by kernel_rfl) (by as_aux_lemma => kernel_rfl)

noncomputable def tab_NA2e : List (FuncId × SRows) := (78, [([zFO], S4708), ([zFN], S4602), ([zFM], S4497), ([zFL], S4393), ([zCX], S3926)]) :: (114, [([(.str 25 373153985705341413772959258306815421632630762655423140031052)], S4909)]) :: []
theorem tab_NA2e_ok : TabOk Tryz.prog tab_NA2e := (TabOk.cons (RowsOk.cons S4708_ok (RowsOk.cons S4602_ok (RowsOk.cons S4497_ok (RowsOk.cons S4393_ok (RowsOk.cons S3926_ok RowsOk.nil))))) (TabOk.cons (RowsOk.cons S4909_ok RowsOk.nil) TabOk.nil))
noncomputable def H_NA2e : Hand := (((Hand.at 151 ((inHand I3020).or (inHand I10890))).or ((Hand.at 156 (Hand.sp 15305 ((inHand I6415).or (inHand I6259)) ((inHand I14285).or (inHand I14129)))).or ((Hand.at 379 (inHand I15671)).or (Hand.at 438 (inHand I17284))))).or (sumsHand tab_NA2e))
theorem H_NA2e_ok : HandOk Tryz.prog H_NA2e := (HandOk.or (HandOk.or (HandOk.at 151 (HandOk.or (inHand_ok I3020_ok (by kernel_rfl)) (inHand_ok I10890_ok (by kernel_rfl)))) (HandOk.or (HandOk.at 156 (HandOk.sp 15305 (HandOk.or (inHand_ok I6415_ok (by kernel_rfl)) (inHand_ok I6259_ok (by kernel_rfl))) (HandOk.or (inHand_ok I14285_ok (by kernel_rfl)) (inHand_ok I14129_ok (by kernel_rfl))))) (HandOk.or (HandOk.at 379 (inHand_ok I15671_ok (by kernel_rfl))) (HandOk.at 438 (inHand_ok I17284_ok (by kernel_rfl)))))) (sumsHand_ok tab_NA2e_ok))
end Go.Proofs.YtedimikdpclpnaaGreatDoor.na
