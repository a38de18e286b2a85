/-
  What the law NativeThrowable gives: its runs.
-/
import Derived.Test.YtgejhjencodinaaGreatDoorNTA
set_option linter.unusedSectionVars false
set_option linter.unusedVariables false
set_option maxRecDepth 1000000
set_option maxHeartbeats 0
namespace Go.Proofs.YtgejhjencodinaaGreatDoor.nt
open Go.X Go.RowKit Go.X.chars
abbrev cs5 : List (Nat × Nat × Bool) := [(0, 2, true), (2, 0, true), (3, 1, true), (4, 2, true), (6, 0, true), (7, 1, true), (8, 2, true), (10, 0, true), (11, 1, true), (12, 2, true), (14, 0, true), (15, 1, true), (16, 2, true), (18, 0, true), (19, 1, true), (20, 2, true), (22, 0, true), (23, 1, true), (24, 2, true), (26, 0, true), (27, 1, true), (28, 2, true), (30, 0, true), (31, 1, true), (32, 2, true), (34, 0, true), (35, 1, true), (36, 2, true), (38, 0, true), (39, 1, true), (40, 2, true), (42, 0, true), (43, 1, true), (44, 2, true), (46, 0, true), (47, 1, true), (48, 2, true), (50, 0, true), (51, 1, true), (52, 2, true), (54, 0, true), (55, 1, true), (56, 2, true), (58, 0, true), (59, 1, true), (60, 2, true)]
theorem s0_2_1 : GS 0 2 true := fun p h => (by as_aux_lemma => kernel_rfl)
theorem s2_0_1 : GS 2 0 true := fun p h => (by as_aux_lemma => kernel_rfl)
theorem s3_1_1 : GS 3 1 true := fun p h => (by as_aux_lemma => kernel_rfl)
theorem s4_2_1 : GS 4 2 true := fun p h => (by as_aux_lemma => kernel_rfl)
theorem s6_0_1 : GS 6 0 true := fun p h => (by as_aux_lemma => kernel_rfl)
theorem s7_1_1 : GS 7 1 true := fun p h => (by as_aux_lemma => kernel_rfl)
theorem s8_2_1 : GS 8 2 true := fun p h => (by as_aux_lemma => kernel_rfl)
theorem s10_0_1 : GS 10 0 true := fun p h => (by as_aux_lemma => kernel_rfl)
theorem s11_1_1 : GS 11 1 true := fun p h => (by as_aux_lemma => kernel_rfl)
theorem s12_2_1 : GS 12 2 true := fun p h => (by as_aux_lemma => kernel_rfl)
theorem s14_0_1 : GS 14 0 true := fun p h => (by as_aux_lemma => kernel_rfl)
theorem s15_1_1 : GS 15 1 true := fun p h => (by as_aux_lemma => kernel_rfl)
theorem s16_2_1 : GS 16 2 true := fun p h => (by as_aux_lemma => kernel_rfl)
theorem s18_0_1 : GS 18 0 true := fun p h => (by as_aux_lemma => kernel_rfl)
theorem s19_1_1 : GS 19 1 true := fun p h => (by as_aux_lemma => kernel_rfl)
theorem s20_2_1 : GS 20 2 true := fun p h => (by as_aux_lemma => kernel_rfl)
theorem s22_0_1 : GS 22 0 true := fun p h => (by as_aux_lemma => kernel_rfl)
theorem s23_1_1 : GS 23 1 true := fun p h => (by as_aux_lemma => kernel_rfl)
theorem s24_2_1 : GS 24 2 true := fun p h => (by as_aux_lemma => kernel_rfl)
theorem s26_0_1 : GS 26 0 true := fun p h => (by as_aux_lemma => kernel_rfl)
theorem s27_1_1 : GS 27 1 true := fun p h => (by as_aux_lemma => kernel_rfl)
theorem s28_2_1 : GS 28 2 true := fun p h => (by as_aux_lemma => kernel_rfl)
theorem s30_0_1 : GS 30 0 true := fun p h => (by as_aux_lemma => kernel_rfl)
theorem s31_1_1 : GS 31 1 true := fun p h => (by as_aux_lemma => kernel_rfl)
theorem s32_2_1 : GS 32 2 true := fun p h => (by as_aux_lemma => kernel_rfl)
theorem s34_0_1 : GS 34 0 true := fun p h => (by as_aux_lemma => kernel_rfl)
theorem s35_1_1 : GS 35 1 true := fun p h => (by as_aux_lemma => kernel_rfl)
theorem s36_2_1 : GS 36 2 true := fun p h => (by as_aux_lemma => kernel_rfl)
theorem s38_0_1 : GS 38 0 true := fun p h => (by as_aux_lemma => kernel_rfl)
theorem s39_1_1 : GS 39 1 true := fun p h => (by as_aux_lemma => kernel_rfl)
theorem s40_2_1 : GS 40 2 true := fun p h => (by as_aux_lemma => kernel_rfl)
theorem s42_0_1 : GS 42 0 true := fun p h => (by as_aux_lemma => kernel_rfl)
theorem s43_1_1 : GS 43 1 true := fun p h => (by as_aux_lemma => kernel_rfl)
theorem s44_2_1 : GS 44 2 true := fun p h => (by as_aux_lemma => kernel_rfl)
theorem s46_0_1 : GS 46 0 true := fun p h => (by as_aux_lemma => kernel_rfl)
theorem s47_1_1 : GS 47 1 true := fun p h => (by as_aux_lemma => kernel_rfl)
theorem s48_2_1 : GS 48 2 true := fun p h => (by as_aux_lemma => kernel_rfl)
theorem s50_0_1 : GS 50 0 true := fun p h => (by as_aux_lemma => kernel_rfl)
theorem s51_1_1 : GS 51 1 true := fun p h => (by as_aux_lemma => kernel_rfl)
theorem s52_2_1 : GS 52 2 true := fun p h => (by as_aux_lemma => kernel_rfl)
theorem s54_0_1 : GS 54 0 true := fun p h => (by as_aux_lemma => kernel_rfl)
theorem s55_1_1 : GS 55 1 true := fun p h => (by as_aux_lemma => kernel_rfl)
theorem s56_2_1 : GS 56 2 true := fun p h => (by as_aux_lemma => kernel_rfl)
theorem s58_0_1 : GS 58 0 true := fun p h => (by as_aux_lemma => kernel_rfl)
theorem s59_1_1 : GS 59 1 true := fun p h => (by as_aux_lemma => kernel_rfl)
theorem s60_2_1 : GS 60 2 true := fun p h => (by as_aux_lemma => kernel_rfl)
theorem all5 : ∀ q ∈ cs5, GS q.1 q.2.1 q.2.2 := allC (G := fun q : Nat × Nat × Bool => GS q.1 q.2.1 q.2.2) s0_2_1 (allC (G := fun q : Nat × Nat × Bool => GS q.1 q.2.1 q.2.2) s2_0_1 (allC (G := fun q : Nat × Nat × Bool => GS q.1 q.2.1 q.2.2) s3_1_1 (allC (G := fun q : Nat × Nat × Bool => GS q.1 q.2.1 q.2.2) s4_2_1 (allC (G := fun q : Nat × Nat × Bool => GS q.1 q.2.1 q.2.2) s6_0_1 (allC (G := fun q : Nat × Nat × Bool => GS q.1 q.2.1 q.2.2) s7_1_1 (allC (G := fun q : Nat × Nat × Bool => GS q.1 q.2.1 q.2.2) s8_2_1 (allC (G := fun q : Nat × Nat × Bool => GS q.1 q.2.1 q.2.2) s10_0_1 (allC (G := fun q : Nat × Nat × Bool => GS q.1 q.2.1 q.2.2) s11_1_1 (allC (G := fun q : Nat × Nat × Bool => GS q.1 q.2.1 q.2.2) s12_2_1 (allC (G := fun q : Nat × Nat × Bool => GS q.1 q.2.1 q.2.2) s14_0_1 (allC (G := fun q : Nat × Nat × Bool => GS q.1 q.2.1 q.2.2) s15_1_1 (allC (G := fun q : Nat × Nat × Bool => GS q.1 q.2.1 q.2.2) s16_2_1 (allC (G := fun q : Nat × Nat × Bool => GS q.1 q.2.1 q.2.2) s18_0_1 (allC (G := fun q : Nat × Nat × Bool => GS q.1 q.2.1 q.2.2) s19_1_1 (allC (G := fun q : Nat × Nat × Bool => GS q.1 q.2.1 q.2.2) s20_2_1 (allC (G := fun q : Nat × Nat × Bool => GS q.1 q.2.1 q.2.2) s22_0_1 (allC (G := fun q : Nat × Nat × Bool => GS q.1 q.2.1 q.2.2) s23_1_1 (allC (G := fun q : Nat × Nat × Bool => GS q.1 q.2.1 q.2.2) s24_2_1 (allC (G := fun q : Nat × Nat × Bool => GS q.1 q.2.1 q.2.2) s26_0_1 (allC (G := fun q : Nat × Nat × Bool => GS q.1 q.2.1 q.2.2) s27_1_1 (allC (G := fun q : Nat × Nat × Bool => GS q.1 q.2.1 q.2.2) s28_2_1 (allC (G := fun q : Nat × Nat × Bool => GS q.1 q.2.1 q.2.2) s30_0_1 (allC (G := fun q : Nat × Nat × Bool => GS q.1 q.2.1 q.2.2) s31_1_1 (allC (G := fun q : Nat × Nat × Bool => GS q.1 q.2.1 q.2.2) s32_2_1 (allC (G := fun q : Nat × Nat × Bool => GS q.1 q.2.1 q.2.2) s34_0_1 (allC (G := fun q : Nat × Nat × Bool => GS q.1 q.2.1 q.2.2) s35_1_1 (allC (G := fun q : Nat × Nat × Bool => GS q.1 q.2.1 q.2.2) s36_2_1 (allC (G := fun q : Nat × Nat × Bool => GS q.1 q.2.1 q.2.2) s38_0_1 (allC (G := fun q : Nat × Nat × Bool => GS q.1 q.2.1 q.2.2) s39_1_1 (allC (G := fun q : Nat × Nat × Bool => GS q.1 q.2.1 q.2.2) s40_2_1 (allC (G := fun q : Nat × Nat × Bool => GS q.1 q.2.1 q.2.2) s42_0_1 (allC (G := fun q : Nat × Nat × Bool => GS q.1 q.2.1 q.2.2) s43_1_1 (allC (G := fun q : Nat × Nat × Bool => GS q.1 q.2.1 q.2.2) s44_2_1 (allC (G := fun q : Nat × Nat × Bool => GS q.1 q.2.1 q.2.2) s46_0_1 (allC (G := fun q : Nat × Nat × Bool => GS q.1 q.2.1 q.2.2) s47_1_1 (allC (G := fun q : Nat × Nat × Bool => GS q.1 q.2.1 q.2.2) s48_2_1 (allC (G := fun q : Nat × Nat × Bool => GS q.1 q.2.1 q.2.2) s50_0_1 (allC (G := fun q : Nat × Nat × Bool => GS q.1 q.2.1 q.2.2) s51_1_1 (allC (G := fun q : Nat × Nat × Bool => GS q.1 q.2.1 q.2.2) s52_2_1 (allC (G := fun q : Nat × Nat × Bool => GS q.1 q.2.1 q.2.2) s54_0_1 (allC (G := fun q : Nat × Nat × Bool => GS q.1 q.2.1 q.2.2) s55_1_1 (allC (G := fun q : Nat × Nat × Bool => GS q.1 q.2.1 q.2.2) s56_2_1 (allC (G := fun q : Nat × Nat × Bool => GS q.1 q.2.1 q.2.2) s58_0_1 (allC (G := fun q : Nat × Nat × Bool => GS q.1 q.2.1 q.2.2) s59_1_1 (allC (G := fun q : Nat × Nat × Bool => GS q.1 q.2.1 q.2.2) s60_2_1 (allNil))))))))))))))))))))))))))))))))))))))))))))))
end Go.Proofs.YtgejhjencodinaaGreatDoor.nt
