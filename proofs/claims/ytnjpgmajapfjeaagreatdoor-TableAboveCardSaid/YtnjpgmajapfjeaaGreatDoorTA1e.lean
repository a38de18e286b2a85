/-
  Contracts of calls, by the kernel.
-/
import Derived.Test.YtnjpgmajapfjeaaGreatDoorXN3
import Derived.Test.YtnjpgmajapfjeaaGreatDoorProg
import Derived.KernelRfl
import Derived.Test.YtnjpgmajapfjeaaGreatDoorTA0a
set_option linter.unusedSectionVars false
set_option linter.unusedVariables false
set_option maxRecDepth 1000000
set_option maxHeartbeats 0
namespace Go.Proofs.YtnjpgmajapfjeaaGreatDoor.ta
open Go.X Go.RowKit
variable [Tab]
noncomputable def K_TA1e : Hand := H_TA0a
theorem K_TA1e_ok : HandOk Tryz.prog K_TA1e := H_TA0a_ok

noncomputable def I8123777 : In := ⟨18, [(.so 12238 0 218 1)], 12239, [q57], (.tup [(.ptr 12245 0), (.int .i64 0)]), 13128, [q57, (12245, (.cells 8 false [] (T.ofList 0 .leaf [(.int .i64 52), (.sl 12247 0 35 35), (.int .i64 33), (.str 1 120), (.str 16 154706541852025644484233205990057992554), (.so 13127 0 15 1), .nils, .nils]))), (13127, (.cells 15 true [] (T.ofList 0 .leaf [(.str 3 7496035), (.str 3 7430499), (.str 3 7364963), (.str 3 7299427), (.str 3 7233891), (.str 3 7168355), (.str 3 7102819), (.str 3 7037283), (.str 3 6971747), (.str 3 6906211), (.str 3 6840675), (.str 3 6775139), (.str 3 6709603), (.str 3 6644067), (.str 3 6578531)])))]⟩
theorem I8123777_ok : InOk Tryz.prog I8123777 := InOk.of_run (K := K_TA1e) (n := 5000) mixed K_TA1e_ok (by kernel_rfl) (by as_aux_lemma => kernel_rfl)

noncomputable def I8107891 : In := ⟨18, [(.so 12231 0 207 1)], 12232, [q58], (.tup [(.ptr 12238 0), (.int .i64 0)]), 13073, [q58, (12238, (.cells 8 false [] (T.ofList 0 .leaf [(.int .i64 52), (.sl 12240 0 33 33), (.int .i64 33), (.str 1 120), (.str 16 154706541852025644484233205990057992554), (.so 13072 0 14 1), .nils, .nils]))), (13072, (.cells 14 true [] (T.ofList 0 .leaf [(.str 3 7496035), (.str 3 7430499), (.str 3 7364963), (.str 3 7299427), (.str 3 7233891), (.str 3 7168355), (.str 3 7102819), (.str 3 7037283), (.str 3 6971747), (.str 3 6906211), (.str 3 6840675), (.str 3 6775139), (.str 3 6709603), (.str 3 6644067)])))]⟩
theorem I8107891_ok : InOk Tryz.prog I8107891 := InOk.of_run (K := K_TA1e) (n := 5000) mixed K_TA1e_ok (by kernel_rfl) (by as_aux_lemma => kernel_rfl)

noncomputable def I8092087 : In := ⟨18, [(.so 12224 0 196 1)], 12225, [q59], (.tup [(.ptr 12231 0), (.int .i64 0)]), 13018, [q59, (12231, (.cells 8 false [] (T.ofList 0 .leaf [(.int .i64 52), (.sl 12233 0 31 31), (.int .i64 33), (.str 1 120), (.str 16 154706541852025644484233205990057992554), (.so 13017 0 13 1), .nils, .nils]))), (13017, (.cells 13 true [] (T.ofList 0 .leaf [(.str 3 7496035), (.str 3 7430499), (.str 3 7364963), (.str 3 7299427), (.str 3 7233891), (.str 3 7168355), (.str 3 7102819), (.str 3 7037283), (.str 3 6971747), (.str 3 6906211), (.str 3 6840675), (.str 3 6775139), (.str 3 6709603)])))]⟩
theorem I8092087_ok : InOk Tryz.prog I8092087 := InOk.of_run (K := K_TA1e) (n := 5000) mixed K_TA1e_ok (by kernel_rfl) (by as_aux_lemma => kernel_rfl)

noncomputable def I8076365 : In := ⟨18, [(.so 12217 0 185 1)], 12218, [q60], (.tup [(.ptr 12224 0), (.int .i64 0)]), 12963, [q60, (12224, (.cells 8 false [] (T.ofList 0 .leaf [(.int .i64 52), (.sl 12226 0 29 29), (.int .i64 33), (.str 1 120), (.str 16 154706541852025644484233205990057992554), (.so 12962 0 12 1), .nils, .nils]))), (12962, (.cells 12 true [] (T.ofList 0 .leaf [(.str 3 7496035), (.str 3 7430499), (.str 3 7364963), (.str 3 7299427), (.str 3 7233891), (.str 3 7168355), (.str 3 7102819), (.str 3 7037283), (.str 3 6971747), (.str 3 6906211), (.str 3 6840675), (.str 3 6775139)])))]⟩
theorem I8076365_ok : InOk Tryz.prog I8076365 := InOk.of_run (K := K_TA1e) (n := 5000) mixed K_TA1e_ok (by kernel_rfl) (by as_aux_lemma => kernel_rfl)

noncomputable def I8060725 : In := ⟨18, [(.so 12210 0 174 1)], 12211, [q61], (.tup [(.ptr 12217 0), (.int .i64 0)]), 12908, [q61, (12217, (.cells 8 false [] (T.ofList 0 .leaf [(.int .i64 52), (.sl 12219 0 27 27), (.int .i64 33), (.str 1 120), (.str 16 154706541852025644484233205990057992554), (.so 12907 0 11 1), .nils, .nils]))), (12907, (.cells 11 true [] (T.ofList 0 .leaf [(.str 3 7496035), (.str 3 7430499), (.str 3 7364963), (.str 3 7299427), (.str 3 7233891), (.str 3 7168355), (.str 3 7102819), (.str 3 7037283), (.str 3 6971747), (.str 3 6906211), (.str 3 6840675)])))]⟩
theorem I8060725_ok : InOk Tryz.prog I8060725 := InOk.of_run (K := K_TA1e) (n := 5000) mixed K_TA1e_ok (by kernel_rfl) (by as_aux_lemma => kernel_rfl)

noncomputable def I8045167 : In := ⟨18, [(.so 12203 0 163 1)], 12204, [q62], (.tup [(.ptr 12210 0), (.int .i64 0)]), 12853, [q62, (12210, (.cells 8 false [] (T.ofList 0 .leaf [(.int .i64 52), (.sl 12212 0 25 25), (.int .i64 33), (.str 1 120), (.str 16 154706541852025644484233205990057992554), (.so 12852 0 10 1), .nils, .nils]))), (12852, (.cells 10 true [] (T.ofList 0 .leaf [(.str 3 7496035), (.str 3 7430499), (.str 3 7364963), (.str 3 7299427), (.str 3 7233891), (.str 3 7168355), (.str 3 7102819), (.str 3 7037283), (.str 3 6971747), (.str 3 6906211)])))]⟩
theorem I8045167_ok : InOk Tryz.prog I8045167 := InOk.of_run (K := K_TA1e) (n := 5000) mixed K_TA1e_ok (by kernel_rfl) (by as_aux_lemma => kernel_rfl)

noncomputable def I8029691 : In := ⟨18, [(.so 12196 0 152 1)], 12197, [q63], (.tup [(.ptr 12203 0), (.int .i64 0)]), 12798, [q63, (12203, (.cells 8 false [] (T.ofList 0 .leaf [(.int .i64 52), (.sl 12205 0 23 23), (.int .i64 33), (.str 1 120), (.str 16 154706541852025644484233205990057992554), (.so 12797 0 9 1), .nils, .nils]))), (12797, (.cells 9 true [] (T.ofList 0 .leaf [(.str 3 7496035), (.str 3 7430499), (.str 3 7364963), (.str 3 7299427), (.str 3 7233891), (.str 3 7168355), (.str 3 7102819), (.str 3 7037283), (.str 3 6971747)])))]⟩
theorem I8029691_ok : InOk Tryz.prog I8029691 := InOk.of_run (K := K_TA1e) (n := 5000) mixed K_TA1e_ok (by kernel_rfl) (by as_aux_lemma => kernel_rfl)

noncomputable def I8014297 : In := ⟨18, [(.so 12189 0 141 1)], 12190, [q64], (.tup [(.ptr 12196 0), (.int .i64 0)]), 12743, [q64, (12196, (.cells 8 false [] (T.ofList 0 .leaf [(.int .i64 52), (.sl 12198 0 21 21), (.int .i64 33), (.str 1 120), (.str 16 154706541852025644484233205990057992554), (.so 12742 0 8 1), .nils, .nils]))), (12742, (.cells 8 true [] (T.ofList 0 .leaf [(.str 3 7496035), (.str 3 7430499), (.str 3 7364963), (.str 3 7299427), (.str 3 7233891), (.str 3 7168355), (.str 3 7102819), (.str 3 7037283)])))]⟩
theorem I8014297_ok : InOk Tryz.prog I8014297 := InOk.of_run (K := K_TA1e) (n := 5000) mixed K_TA1e_ok (by kernel_rfl) (by as_aux_lemma => kernel_rfl)

noncomputable def I9046479 : In := ⟨18, [(.so 12259 0 251 1)], 12260, [q65], (.tup [(.ptr 12266 0), (.int .i64 0)]), 13293, [q65, (12266, (.cells 8 false [] (T.ofList 0 .leaf [(.int .i64 52), (.sl 12268 0 41 41), (.int .i64 33), (.str 1 120), (.str 16 154706541852025644484233205990057992554), (.so 13292 0 18 1), .nils, .nils]))), (13292, (.cells 18 true [] (T.ofList 0 .leaf [(.str 3 7496035), (.str 3 7430499), (.str 3 7364963), (.str 3 7299427), (.str 3 7233891), (.str 3 7168355), (.str 3 7102819), (.str 3 7037283), (.str 3 6971747), (.str 3 6906211), (.str 3 6840675), (.str 3 6775139), (.str 3 6709603), (.str 3 6644067), (.str 3 6578531), (.str 3 6512995), (.str 3 6447459), (.str 3 6381923)])))]⟩
theorem I9046479_ok : InOk Tryz.prog I9046479 := InOk.of_run (K := K_TA1e) (n := 5000) mixed K_TA1e_ok (by kernel_rfl) (by as_aux_lemma => kernel_rfl)

noncomputable def I9030347 : In := ⟨18, [(.so 12252 0 240 1)], 12253, [q66], (.tup [(.ptr 12259 0), (.int .i64 0)]), 13238, [q66, (12259, (.cells 8 false [] (T.ofList 0 .leaf [(.int .i64 52), (.sl 12261 0 39 39), (.int .i64 33), (.str 1 120), (.str 16 154706541852025644484233205990057992554), (.so 13237 0 17 1), .nils, .nils]))), (13237, (.cells 17 true [] (T.ofList 0 .leaf [(.str 3 7496035), (.str 3 7430499), (.str 3 7364963), (.str 3 7299427), (.str 3 7233891), (.str 3 7168355), (.str 3 7102819), (.str 3 7037283), (.str 3 6971747), (.str 3 6906211), (.str 3 6840675), (.str 3 6775139), (.str 3 6709603), (.str 3 6644067), (.str 3 6578531), (.str 3 6512995), (.str 3 6447459)])))]⟩
theorem I9030347_ok : InOk Tryz.prog I9030347 := InOk.of_run (K := K_TA1e) (n := 5000) mixed K_TA1e_ok (by kernel_rfl) (by as_aux_lemma => kernel_rfl)
noncomputable def H_TA1e : Hand := (Hand.at 18 (Hand.sp 12225 (Hand.sp 12204 ((inHand I8029691).or (inHand I8014297)) (Hand.sp 12211 (inHand I8045167) ((inHand I8076365).or (inHand I8060725)))) (Hand.sp 12239 ((inHand I8107891).or (inHand I8092087)) (Hand.sp 12253 (inHand I8123777) ((inHand I9046479).or (inHand I9030347))))))
theorem H_TA1e_ok : HandOk Tryz.prog H_TA1e := (HandOk.at 18 (HandOk.sp 12225 (HandOk.sp 12204 (HandOk.or (inHand_ok I8029691_ok (by kernel_rfl)) (inHand_ok I8014297_ok (by kernel_rfl))) (HandOk.sp 12211 (inHand_ok I8045167_ok (by kernel_rfl)) (HandOk.or (inHand_ok I8076365_ok (by kernel_rfl)) (inHand_ok I8060725_ok (by kernel_rfl))))) (HandOk.sp 12239 (HandOk.or (inHand_ok I8107891_ok (by kernel_rfl)) (inHand_ok I8092087_ok (by kernel_rfl))) (HandOk.sp 12253 (inHand_ok I8123777_ok (by kernel_rfl)) (HandOk.or (inHand_ok I9046479_ok (by kernel_rfl)) (inHand_ok I9030347_ok (by kernel_rfl)))))))
end Go.Proofs.YtnjpgmajapfjeaaGreatDoor.ta
