/-
  Contracts of calls, by the kernel.
-/
import Derived.Test.YtnjpgmajapfjeaaGreatDoorXN3
import Derived.Test.YtnjpgmajapfjeaaGreatDoorProg
import Derived.KernelRfl
import Derived.Test.YtnjpgmajapfjeaaGreatDoorTC0a
import Derived.Test.YtnjpgmajapfjeaaGreatDoorTC1a
set_option linter.unusedSectionVars false
set_option linter.unusedVariables false
set_option maxRecDepth 1000000
set_option maxHeartbeats 0
namespace Go.Proofs.YtnjpgmajapfjeaaGreatDoor.tc
open Go.X Go.RowKit
variable [Tab]
noncomputable def K_TC2a : Hand := ((H_TC1a).or H_TC0a)
theorem K_TC2a_ok : HandOk Tryz.prog K_TC2a := (HandOk.or H_TC1a_ok H_TC0a_ok)

noncomputable def S18795 : Sum := ⟨(.bool true), 9, []⟩
theorem S18795_ok : SumOk Tryz.prog 100 [(.str 3 6841187)] S18795 := SumOk.of_run (K := K_TC2a) (n := 5000) (keep := []) mixed K_TC2a_ok (by kernel_rfl) (by as_aux_lemma => kernel_rfl)

noncomputable def S18582 : Sum := ⟨(.bool true), 9, []⟩
theorem S18582_ok : SumOk Tryz.prog 100 [(.str 3 6775651)] S18582 := SumOk.of_run (K := K_TC2a) (n := 5000) (keep := []) mixed K_TC2a_ok (by kernel_rfl) (by as_aux_lemma => kernel_rfl)

noncomputable def S18369 : Sum := ⟨(.bool true), 9, []⟩
theorem S18369_ok : SumOk Tryz.prog 100 [(.str 3 6710115)] S18369 := SumOk.of_run (K := K_TC2a) (n := 5000) (keep := []) mixed K_TC2a_ok (by kernel_rfl) (by as_aux_lemma => kernel_rfl)

noncomputable def S18156 : Sum := ⟨(.bool true), 9, []⟩
theorem S18156_ok : SumOk Tryz.prog 100 [(.str 3 6644579)] S18156 := SumOk.of_run (K := K_TC2a) (n := 5000) (keep := []) mixed K_TC2a_ok (by kernel_rfl) (by as_aux_lemma => kernel_rfl)

noncomputable def S17943 : Sum := ⟨(.bool true), 9, []⟩
theorem S17943_ok : SumOk Tryz.prog 100 [(.str 3 6579043)] S17943 := SumOk.of_run (K := K_TC2a) (n := 5000) (keep := []) mixed K_TC2a_ok (by kernel_rfl) (by as_aux_lemma => kernel_rfl)

noncomputable def S17730 : Sum := ⟨(.bool true), 9, []⟩
theorem S17730_ok : SumOk Tryz.prog 100 [(.str 3 6513507)] S17730 := SumOk.of_run (K := K_TC2a) (n := 5000) (keep := []) mixed K_TC2a_ok (by kernel_rfl) (by as_aux_lemma => kernel_rfl)

noncomputable def S17517 : Sum := ⟨(.bool true), 9, []⟩
theorem S17517_ok : SumOk Tryz.prog 100 [(.str 3 6447971)] S17517 := SumOk.of_run (K := K_TC2a) (n := 5000) (keep := []) mixed K_TC2a_ok (by kernel_rfl) (by as_aux_lemma => kernel_rfl)

noncomputable def S17304 : Sum := ⟨(.bool true), 9, []⟩
theorem S17304_ok : SumOk Tryz.prog 100 [(.str 3 6382435)] S17304 := SumOk.of_run (K := K_TC2a) (n := 5000) (keep := []) mixed K_TC2a_ok (by kernel_rfl) (by as_aux_lemma => kernel_rfl)

noncomputable def S17091 : Sum := ⟨(.bool true), 9, []⟩
theorem S17091_ok : SumOk Tryz.prog 100 [(.str 3 8020579)] S17091 := SumOk.of_run (K := K_TC2a) (n := 5000) (keep := []) mixed K_TC2a_ok (by kernel_rfl) (by as_aux_lemma => kernel_rfl)

noncomputable def S16878 : Sum := ⟨(.bool true), 9, []⟩
theorem S16878_ok : SumOk Tryz.prog 100 [(.str 3 7955043)] S16878 := SumOk.of_run (K := K_TC2a) (n := 5000) (keep := []) mixed K_TC2a_ok (by kernel_rfl) (by as_aux_lemma => kernel_rfl)

noncomputable def S16665 : Sum := ⟨(.bool true), 9, []⟩
theorem S16665_ok : SumOk Tryz.prog 100 [(.str 3 7889507)] S16665 := SumOk.of_run (K := K_TC2a) (n := 5000) (keep := []) mixed K_TC2a_ok (by kernel_rfl) (by as_aux_lemma => kernel_rfl)

noncomputable def S16452 : Sum := ⟨(.bool true), 9, []⟩
theorem S16452_ok : SumOk Tryz.prog 100 [(.str 3 7823971)] S16452 := SumOk.of_run (K := K_TC2a) (n := 5000) (keep := []) mixed K_TC2a_ok (by kernel_rfl) (by as_aux_lemma => kernel_rfl)

noncomputable def S16239 : Sum := ⟨(.bool true), 9, []⟩
theorem S16239_ok : SumOk Tryz.prog 100 [(.str 3 7758435)] S16239 := SumOk.of_run (K := K_TC2a) (n := 5000) (keep := []) mixed K_TC2a_ok (by kernel_rfl) (by as_aux_lemma => kernel_rfl)

noncomputable def S16026 : Sum := ⟨(.bool true), 9, []⟩
theorem S16026_ok : SumOk Tryz.prog 100 [(.str 3 7692899)] S16026 := SumOk.of_run (K := K_TC2a) (n := 5000) (keep := []) mixed K_TC2a_ok (by kernel_rfl) (by as_aux_lemma => kernel_rfl)

noncomputable def S15813 : Sum := ⟨(.bool true), 9, []⟩
theorem S15813_ok : SumOk Tryz.prog 100 [(.str 3 7627363)] S15813 := SumOk.of_run (K := K_TC2a) (n := 5000) (keep := []) mixed K_TC2a_ok (by kernel_rfl) (by as_aux_lemma => kernel_rfl)

noncomputable def S15600 : Sum := ⟨(.bool true), 9, []⟩
theorem S15600_ok : SumOk Tryz.prog 100 [(.str 3 7561827)] S15600 := SumOk.of_run (K := K_TC2a) (n := 5000) (keep := []) mixed K_TC2a_ok (by kernel_rfl) (by as_aux_lemma => kernel_rfl)

noncomputable def S15387 : Sum := ⟨(.bool true), 9, []⟩
theorem S15387_ok : SumOk Tryz.prog 100 [(.str 3 7496291)] S15387 := SumOk.of_run (K := K_TC2a) (n := 5000) (keep := []) mixed K_TC2a_ok (by kernel_rfl) (by as_aux_lemma => kernel_rfl)

noncomputable def S15174 : Sum := ⟨(.bool true), 9, []⟩
theorem S15174_ok : SumOk Tryz.prog 100 [(.str 3 7430755)] S15174 := SumOk.of_run (K := K_TC2a) (n := 5000) (keep := []) mixed K_TC2a_ok (by kernel_rfl) (by as_aux_lemma => kernel_rfl)

noncomputable def S14961 : Sum := ⟨(.bool true), 9, []⟩
theorem S14961_ok : SumOk Tryz.prog 100 [(.str 3 7365219)] S14961 := SumOk.of_run (K := K_TC2a) (n := 5000) (keep := []) mixed K_TC2a_ok (by kernel_rfl) (by as_aux_lemma => kernel_rfl)

noncomputable def S14748 : Sum := ⟨(.bool true), 9, []⟩
theorem S14748_ok : SumOk Tryz.prog 100 [(.str 3 7299683)] S14748 := SumOk.of_run (K := K_TC2a) (n := 5000) (keep := []) mixed K_TC2a_ok (by kernel_rfl) (by as_aux_lemma => kernel_rfl)

noncomputable def S14535 : Sum := ⟨(.bool true), 9, []⟩
theorem S14535_ok : SumOk Tryz.prog 100 [(.str 3 7234147)] S14535 := SumOk.of_run (K := K_TC2a) (n := 5000) (keep := []) mixed K_TC2a_ok (by kernel_rfl) (by as_aux_lemma => kernel_rfl)

noncomputable def S14322 : Sum := ⟨(.bool true), 9, []⟩
theorem S14322_ok : SumOk Tryz.prog 100 [(.str 3 7168611)] S14322 := SumOk.of_run (K := K_TC2a) (n := 5000) (keep := []) mixed K_TC2a_ok (by kernel_rfl) (by as_aux_lemma => kernel_rfl)

noncomputable def S14109 : Sum := ⟨(.bool true), 9, []⟩
theorem S14109_ok : SumOk Tryz.prog 100 [(.str 3 7103075)] S14109 := SumOk.of_run (K := K_TC2a) (n := 5000) (keep := []) mixed K_TC2a_ok (by kernel_rfl) (by as_aux_lemma => kernel_rfl)

noncomputable def S13896 : Sum := ⟨(.bool true), 9, []⟩
theorem S13896_ok : SumOk Tryz.prog 100 [(.str 3 7037539)] S13896 := SumOk.of_run (K := K_TC2a) (n := 5000) (keep := []) mixed K_TC2a_ok (by kernel_rfl) (by as_aux_lemma => kernel_rfl)

noncomputable def S13683 : Sum := ⟨(.bool true), 9, []⟩
theorem S13683_ok : SumOk Tryz.prog 100 [(.str 3 6972003)] S13683 := SumOk.of_run (K := K_TC2a) (n := 5000) (keep := []) mixed K_TC2a_ok (by kernel_rfl) (by as_aux_lemma => kernel_rfl)

noncomputable def S13470 : Sum := ⟨(.bool true), 9, []⟩
theorem S13470_ok : SumOk Tryz.prog 100 [(.str 3 6906467)] S13470 := SumOk.of_run (K := K_TC2a) (n := 5000) (keep := []) mixed K_TC2a_ok (by kernel_rfl) (by as_aux_lemma => kernel_rfl)

noncomputable def S13257 : Sum := ⟨(.bool true), 9, []⟩
theorem S13257_ok : SumOk Tryz.prog 100 [(.str 3 6840931)] S13257 := SumOk.of_run (K := K_TC2a) (n := 5000) (keep := []) mixed K_TC2a_ok (by kernel_rfl) (by as_aux_lemma => kernel_rfl)

noncomputable def S13044 : Sum := ⟨(.bool true), 9, []⟩
theorem S13044_ok : SumOk Tryz.prog 100 [(.str 3 6775395)] S13044 := SumOk.of_run (K := K_TC2a) (n := 5000) (keep := []) mixed K_TC2a_ok (by kernel_rfl) (by as_aux_lemma => kernel_rfl)

noncomputable def S12831 : Sum := ⟨(.bool true), 9, []⟩
theorem S12831_ok : SumOk Tryz.prog 100 [(.str 3 6709859)] S12831 := SumOk.of_run (K := K_TC2a) (n := 5000) (keep := []) mixed K_TC2a_ok (by kernel_rfl) (by as_aux_lemma => kernel_rfl)

noncomputable def S12618 : Sum := ⟨(.bool true), 9, []⟩
theorem S12618_ok : SumOk Tryz.prog 100 [(.str 3 6644323)] S12618 := SumOk.of_run (K := K_TC2a) (n := 5000) (keep := []) mixed K_TC2a_ok (by kernel_rfl) (by as_aux_lemma => kernel_rfl)

noncomputable def S12405 : Sum := ⟨(.bool true), 9, []⟩
theorem S12405_ok : SumOk Tryz.prog 100 [(.str 3 6578787)] S12405 := SumOk.of_run (K := K_TC2a) (n := 5000) (keep := []) mixed K_TC2a_ok (by kernel_rfl) (by as_aux_lemma => kernel_rfl)

noncomputable def S12192 : Sum := ⟨(.bool true), 9, []⟩
theorem S12192_ok : SumOk Tryz.prog 100 [(.str 3 6513251)] S12192 := SumOk.of_run (K := K_TC2a) (n := 5000) (keep := []) mixed K_TC2a_ok (by kernel_rfl) (by as_aux_lemma => kernel_rfl)

noncomputable def S11979 : Sum := ⟨(.bool true), 9, []⟩
theorem S11979_ok : SumOk Tryz.prog 100 [(.str 3 6447715)] S11979 := SumOk.of_run (K := K_TC2a) (n := 5000) (keep := []) mixed K_TC2a_ok (by kernel_rfl) (by as_aux_lemma => kernel_rfl)

noncomputable def S11766 : Sum := ⟨(.bool true), 9, []⟩
theorem S11766_ok : SumOk Tryz.prog 100 [(.str 3 6382179)] S11766 := SumOk.of_run (K := K_TC2a) (n := 5000) (keep := []) mixed K_TC2a_ok (by kernel_rfl) (by as_aux_lemma => kernel_rfl)

noncomputable def S11553 : Sum := ⟨(.bool true), 9, []⟩
theorem S11553_ok : SumOk Tryz.prog 100 [(.str 3 8020323)] S11553 := SumOk.of_run (K := K_TC2a) (n := 5000) (keep := []) mixed K_TC2a_ok (by kernel_rfl) (by as_aux_lemma => kernel_rfl)

noncomputable def S11340 : Sum := ⟨(.bool true), 9, []⟩
theorem S11340_ok : SumOk Tryz.prog 100 [(.str 3 7954787)] S11340 := SumOk.of_run (K := K_TC2a) (n := 5000) (keep := []) mixed K_TC2a_ok (by kernel_rfl) (by as_aux_lemma => kernel_rfl)

noncomputable def S11127 : Sum := ⟨(.bool true), 9, []⟩
theorem S11127_ok : SumOk Tryz.prog 100 [(.str 3 7889251)] S11127 := SumOk.of_run (K := K_TC2a) (n := 5000) (keep := []) mixed K_TC2a_ok (by kernel_rfl) (by as_aux_lemma => kernel_rfl)

noncomputable def S10914 : Sum := ⟨(.bool true), 9, []⟩
theorem S10914_ok : SumOk Tryz.prog 100 [(.str 3 7823715)] S10914 := SumOk.of_run (K := K_TC2a) (n := 5000) (keep := []) mixed K_TC2a_ok (by kernel_rfl) (by as_aux_lemma => kernel_rfl)

noncomputable def S10701 : Sum := ⟨(.bool true), 9, []⟩
theorem S10701_ok : SumOk Tryz.prog 100 [(.str 3 7758179)] S10701 := SumOk.of_run (K := K_TC2a) (n := 5000) (keep := []) mixed K_TC2a_ok (by kernel_rfl) (by as_aux_lemma => kernel_rfl)

noncomputable def S10488 : Sum := ⟨(.bool true), 9, []⟩
theorem S10488_ok : SumOk Tryz.prog 100 [(.str 3 7692643)] S10488 := SumOk.of_run (K := K_TC2a) (n := 5000) (keep := []) mixed K_TC2a_ok (by kernel_rfl) (by as_aux_lemma => kernel_rfl)

noncomputable def S10275 : Sum := ⟨(.bool true), 9, []⟩
theorem S10275_ok : SumOk Tryz.prog 100 [(.str 3 7627107)] S10275 := SumOk.of_run (K := K_TC2a) (n := 5000) (keep := []) mixed K_TC2a_ok (by kernel_rfl) (by as_aux_lemma => kernel_rfl)

noncomputable def S10062 : Sum := ⟨(.bool true), 9, []⟩
theorem S10062_ok : SumOk Tryz.prog 100 [(.str 3 7561571)] S10062 := SumOk.of_run (K := K_TC2a) (n := 5000) (keep := []) mixed K_TC2a_ok (by kernel_rfl) (by as_aux_lemma => kernel_rfl)

noncomputable def S9849 : Sum := ⟨(.bool true), 9, []⟩
theorem S9849_ok : SumOk Tryz.prog 100 [(.str 3 7496035)] S9849 := SumOk.of_run (K := K_TC2a) (n := 5000) (keep := []) mixed K_TC2a_ok (by kernel_rfl) (by as_aux_lemma => kernel_rfl)

noncomputable def S9636 : Sum := ⟨(.bool true), 9, []⟩
theorem S9636_ok : SumOk Tryz.prog 100 [(.str 3 7430499)] S9636 := SumOk.of_run (K := K_TC2a) (n := 5000) (keep := []) mixed K_TC2a_ok (by kernel_rfl) (by as_aux_lemma => kernel_rfl)

noncomputable def S9423 : Sum := ⟨(.bool true), 9, []⟩
theorem S9423_ok : SumOk Tryz.prog 100 [(.str 3 7364963)] S9423 := SumOk.of_run (K := K_TC2a) (n := 5000) (keep := []) mixed K_TC2a_ok (by kernel_rfl) (by as_aux_lemma => kernel_rfl)

noncomputable def S9210 : Sum := ⟨(.bool true), 9, []⟩
theorem S9210_ok : SumOk Tryz.prog 100 [(.str 3 7299427)] S9210 := SumOk.of_run (K := K_TC2a) (n := 5000) (keep := []) mixed K_TC2a_ok (by kernel_rfl) (by as_aux_lemma => kernel_rfl)

noncomputable def S8997 : Sum := ⟨(.bool true), 9, []⟩
theorem S8997_ok : SumOk Tryz.prog 100 [(.str 3 7233891)] S8997 := SumOk.of_run (K := K_TC2a) (n := 5000) (keep := []) mixed K_TC2a_ok (by kernel_rfl) (by as_aux_lemma => kernel_rfl)

noncomputable def S8784 : Sum := ⟨(.bool true), 9, []⟩
theorem S8784_ok : SumOk Tryz.prog 100 [(.str 3 7168355)] S8784 := SumOk.of_run (K := K_TC2a) (n := 5000) (keep := []) mixed K_TC2a_ok (by kernel_rfl) (by as_aux_lemma => kernel_rfl)

noncomputable def S8571 : Sum := ⟨(.bool true), 9, []⟩
theorem S8571_ok : SumOk Tryz.prog 100 [(.str 3 7102819)] S8571 := SumOk.of_run (K := K_TC2a) (n := 5000) (keep := []) mixed K_TC2a_ok (by kernel_rfl) (by as_aux_lemma => kernel_rfl)

noncomputable def S8358 : Sum := ⟨(.bool true), 9, []⟩
theorem S8358_ok : SumOk Tryz.prog 100 [(.str 3 7037283)] S8358 := SumOk.of_run (K := K_TC2a) (n := 5000) (keep := []) mixed K_TC2a_ok (by kernel_rfl) (by as_aux_lemma => kernel_rfl)

noncomputable def S8145 : Sum := ⟨(.bool true), 9, []⟩
theorem S8145_ok : SumOk Tryz.prog 100 [(.str 3 6971747)] S8145 := SumOk.of_run (K := K_TC2a) (n := 5000) (keep := []) mixed K_TC2a_ok (by kernel_rfl) (by as_aux_lemma => kernel_rfl)

noncomputable def S7932 : Sum := ⟨(.bool true), 9, []⟩
theorem S7932_ok : SumOk Tryz.prog 100 [(.str 3 6906211)] S7932 := SumOk.of_run (K := K_TC2a) (n := 5000) (keep := []) mixed K_TC2a_ok (by kernel_rfl) (by as_aux_lemma => kernel_rfl)

noncomputable def S7719 : Sum := ⟨(.bool true), 9, []⟩
theorem S7719_ok : SumOk Tryz.prog 100 [(.str 3 6840675)] S7719 := SumOk.of_run (K := K_TC2a) (n := 5000) (keep := []) mixed K_TC2a_ok (by kernel_rfl) (by as_aux_lemma => kernel_rfl)

noncomputable def S7506 : Sum := ⟨(.bool true), 9, []⟩
theorem S7506_ok : SumOk Tryz.prog 100 [(.str 3 6775139)] S7506 := SumOk.of_run (K := K_TC2a) (n := 5000) (keep := []) mixed K_TC2a_ok (by kernel_rfl) (by as_aux_lemma => kernel_rfl)

noncomputable def S7293 : Sum := ⟨(.bool true), 9, []⟩
theorem S7293_ok : SumOk Tryz.prog 100 [(.str 3 6709603)] S7293 := SumOk.of_run (K := K_TC2a) (n := 5000) (keep := []) mixed K_TC2a_ok (by kernel_rfl) (by as_aux_lemma => kernel_rfl)

noncomputable def S7080 : Sum := ⟨(.bool true), 9, []⟩
theorem S7080_ok : SumOk Tryz.prog 100 [(.str 3 6644067)] S7080 := SumOk.of_run (K := K_TC2a) (n := 5000) (keep := []) mixed K_TC2a_ok (by kernel_rfl) (by as_aux_lemma => kernel_rfl)

noncomputable def S6867 : Sum := ⟨(.bool true), 9, []⟩
theorem S6867_ok : SumOk Tryz.prog 100 [(.str 3 6578531)] S6867 := SumOk.of_run (K := K_TC2a) (n := 5000) (keep := []) mixed K_TC2a_ok (by kernel_rfl) (by as_aux_lemma => kernel_rfl)

noncomputable def S6654 : Sum := ⟨(.bool true), 9, []⟩
theorem S6654_ok : SumOk Tryz.prog 100 [(.str 3 6512995)] S6654 := SumOk.of_run (K := K_TC2a) (n := 5000) (keep := []) mixed K_TC2a_ok (by kernel_rfl) (by as_aux_lemma => kernel_rfl)

noncomputable def S6441 : Sum := ⟨(.bool true), 9, []⟩
theorem S6441_ok : SumOk Tryz.prog 100 [(.str 3 6447459)] S6441 := SumOk.of_run (K := K_TC2a) (n := 5000) (keep := []) mixed K_TC2a_ok (by kernel_rfl) (by as_aux_lemma => kernel_rfl)

noncomputable def S6130 : Sum := ⟨(.bool true), 9, []⟩
theorem S6130_ok : SumOk Tryz.prog 100 [(.str 3 6381923)] S6130 := SumOk.of_run (K := K_TC2a) (n := 5000) (keep := []) mixed K_TC2a_ok (by kernel_rfl) (by as_aux_lemma => kernel_rfl)

noncomputable def S1 : Sum := ⟨(.bool true), 3261, []⟩
theorem S1_ok : SumOk Tryz.prog 5 [] S1 := SumOk.of_run (K := K_TC2a) (n := 5000) (keep := []) mixed K_TC2a_ok (by kernel_rfl) (by as_aux_lemma => kernel_rfl)

noncomputable def tab_TC2a : List (FuncId × SRows) := (5, [([], S1)]) :: (100, [([(.str 3 6841187)], S18795), ([(.str 3 6775651)], S18582), ([(.str 3 6710115)], S18369), ([(.str 3 6644579)], S18156), ([(.str 3 6579043)], S17943), ([(.str 3 6513507)], S17730), ([(.str 3 6447971)], S17517), ([(.str 3 6382435)], S17304), ([(.str 3 8020579)], S17091), ([(.str 3 7955043)], S16878), ([(.str 3 7889507)], S16665), ([(.str 3 7823971)], S16452), ([(.str 3 7758435)], S16239), ([(.str 3 7692899)], S16026), ([(.str 3 7627363)], S15813), ([(.str 3 7561827)], S15600), ([(.str 3 7496291)], S15387), ([(.str 3 7430755)], S15174), ([(.str 3 7365219)], S14961), ([(.str 3 7299683)], S14748), ([(.str 3 7234147)], S14535), ([(.str 3 7168611)], S14322), ([(.str 3 7103075)], S14109), ([(.str 3 7037539)], S13896), ([(.str 3 6972003)], S13683), ([(.str 3 6906467)], S13470), ([(.str 3 6840931)], S13257), ([(.str 3 6775395)], S13044), ([(.str 3 6709859)], S12831), ([(.str 3 6644323)], S12618), ([(.str 3 6578787)], S12405), ([(.str 3 6513251)], S12192), ([(.str 3 6447715)], S11979), ([(.str 3 6382179)], S11766), ([(.str 3 8020323)], S11553), ([(.str 3 7954787)], S11340), ([(.str 3 7889251)], S11127), ([(.str 3 7823715)], S10914), ([(.str 3 7758179)], S10701), ([(.str 3 7692643)], S10488), ([(.str 3 7627107)], S10275), ([(.str 3 7561571)], S10062), ([(.str 3 7496035)], S9849), ([(.str 3 7430499)], S9636), ([(.str 3 7364963)], S9423), ([(.str 3 7299427)], S9210), ([(.str 3 7233891)], S8997), ([(.str 3 7168355)], S8784), ([(.str 3 7102819)], S8571), ([(.str 3 7037283)], S8358), ([(.str 3 6971747)], S8145), ([(.str 3 6906211)], S7932), ([(.str 3 6840675)], S7719), ([(.str 3 6775139)], S7506), ([(.str 3 6709603)], S7293), ([(.str 3 6644067)], S7080), ([(.str 3 6578531)], S6867), ([(.str 3 6512995)], S6654), ([(.str 3 6447459)], S6441), ([(.str 3 6381923)], S6130)]) :: []
theorem tab_TC2a_ok : TabOk Tryz.prog tab_TC2a := (TabOk.cons (RowsOk.cons S1_ok RowsOk.nil) (TabOk.cons (RowsOk.cons S18795_ok (RowsOk.cons S18582_ok (RowsOk.cons S18369_ok (RowsOk.cons S18156_ok (RowsOk.cons S17943_ok (RowsOk.cons S17730_ok (RowsOk.cons S17517_ok (RowsOk.cons S17304_ok (RowsOk.cons S17091_ok (RowsOk.cons S16878_ok (RowsOk.cons S16665_ok (RowsOk.cons S16452_ok (RowsOk.cons S16239_ok (RowsOk.cons S16026_ok (RowsOk.cons S15813_ok (RowsOk.cons S15600_ok (RowsOk.cons S15387_ok (RowsOk.cons S15174_ok (RowsOk.cons S14961_ok (RowsOk.cons S14748_ok (RowsOk.cons S14535_ok (RowsOk.cons S14322_ok (RowsOk.cons S14109_ok (RowsOk.cons S13896_ok (RowsOk.cons S13683_ok (RowsOk.cons S13470_ok (RowsOk.cons S13257_ok (RowsOk.cons S13044_ok (RowsOk.cons S12831_ok (RowsOk.cons S12618_ok (RowsOk.cons S12405_ok (RowsOk.cons S12192_ok (RowsOk.cons S11979_ok (RowsOk.cons S11766_ok (RowsOk.cons S11553_ok (RowsOk.cons S11340_ok (RowsOk.cons S11127_ok (RowsOk.cons S10914_ok (RowsOk.cons S10701_ok (RowsOk.cons S10488_ok (RowsOk.cons S10275_ok (RowsOk.cons S10062_ok (RowsOk.cons S9849_ok (RowsOk.cons S9636_ok (RowsOk.cons S9423_ok (RowsOk.cons S9210_ok (RowsOk.cons S8997_ok (RowsOk.cons S8784_ok (RowsOk.cons S8571_ok (RowsOk.cons S8358_ok (RowsOk.cons S8145_ok (RowsOk.cons S7932_ok (RowsOk.cons S7719_ok (RowsOk.cons S7506_ok (RowsOk.cons S7293_ok (RowsOk.cons S7080_ok (RowsOk.cons S6867_ok (RowsOk.cons S6654_ok (RowsOk.cons S6441_ok (RowsOk.cons S6130_ok RowsOk.nil)))))))))))))))))))))))))))))))))))))))))))))))))))))))))))) TabOk.nil))
noncomputable def H_TC2a : Hand := (sumsHand tab_TC2a)
theorem H_TC2a_ok : HandOk Tryz.prog H_TC2a := (sumsHand_ok tab_TC2a_ok)
end Go.Proofs.YtnjpgmajapfjeaaGreatDoor.tc
