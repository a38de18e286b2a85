/-
  What the law NativeThrowable gives: its runs.
-/
import Derived.Test.YtgejhjencodinaaGreatDoorNTA
set_option linter.unusedSectionVars false
set_option linter.unusedVariables false
set_option maxRecDepth 1000000
set_option maxHeartbeats 0
namespace Go.Proofs.YtgejhjencodinaaGreatDoor.nt
open Go.X Go.RowKit Go.X.chars
abbrev cs1 : List (Nat × Nat × Bool) := [(0, 0, true), (1, 1, true), (2, 2, true), (4, 0, true), (5, 1, true), (6, 2, true), (8, 0, true), (9, 1, true), (10, 2, true), (12, 0, true), (13, 1, true), (14, 2, true), (16, 0, true), (17, 1, true), (18, 2, true), (20, 0, true), (21, 1, true), (22, 2, true), (24, 0, true), (25, 1, true), (26, 2, true), (28, 0, true), (29, 1, true), (30, 2, true), (32, 0, true), (33, 1, true), (34, 2, true), (36, 0, true), (37, 1, true), (38, 2, true), (40, 0, true), (41, 1, true), (42, 2, true), (44, 0, true), (45, 1, true), (46, 2, true), (48, 0, true), (49, 1, true), (50, 2, true), (52, 0, true), (53, 1, true), (54, 2, true), (56, 0, true), (57, 1, true), (58, 2, true), (60, 0, true)]
theorem s0_0_1 : GS 0 0 true := fun p h => (by as_aux_lemma => kernel_rfl)
theorem s1_1_1 : GS 1 1 true := fun p h => (by as_aux_lemma => kernel_rfl)
theorem s2_2_1 : GS 2 2 true := fun p h => (by as_aux_lemma => kernel_rfl)
theorem s4_0_1 : GS 4 0 true := fun p h => (by as_aux_lemma => kernel_rfl)
theorem s5_1_1 : GS 5 1 true := fun p h => (by as_aux_lemma => kernel_rfl)
theorem s6_2_1 : GS 6 2 true := fun p h => (by as_aux_lemma => kernel_rfl)
theorem s8_0_1 : GS 8 0 true := fun p h => (by as_aux_lemma => kernel_rfl)
theorem s9_1_1 : GS 9 1 true := fun p h => (by as_aux_lemma => kernel_rfl)
theorem s10_2_1 : GS 10 2 true := fun p h => (by as_aux_lemma => kernel_rfl)
theorem s12_0_1 : GS 12 0 true := fun p h => (by as_aux_lemma => kernel_rfl)
theorem s13_1_1 : GS 13 1 true := fun p h => (by as_aux_lemma => kernel_rfl)
theorem s14_2_1 : GS 14 2 true := fun p h => (by as_aux_lemma => kernel_rfl)
theorem s16_0_1 : GS 16 0 true := fun p h => (by as_aux_lemma => kernel_rfl)
theorem s17_1_1 : GS 17 1 true := fun p h => (by as_aux_lemma => kernel_rfl)
theorem s18_2_1 : GS 18 2 true := fun p h => (by as_aux_lemma => kernel_rfl)
theorem s20_0_1 : GS 20 0 true := fun p h => (by as_aux_lemma => kernel_rfl)
theorem s21_1_1 : GS 21 1 true := fun p h => (by as_aux_lemma => kernel_rfl)
theorem s22_2_1 : GS 22 2 true := fun p h => (by as_aux_lemma => kernel_rfl)
theorem s24_0_1 : GS 24 0 true := fun p h => (by as_aux_lemma => kernel_rfl)
theorem s25_1_1 : GS 25 1 true := fun p h => (by as_aux_lemma => kernel_rfl)
theorem s26_2_1 : GS 26 2 true := fun p h => (by as_aux_lemma => kernel_rfl)
theorem s28_0_1 : GS 28 0 true := fun p h => (by as_aux_lemma => kernel_rfl)
theorem s29_1_1 : GS 29 1 true := fun p h => (by as_aux_lemma => kernel_rfl)
theorem s30_2_1 : GS 30 2 true := fun p h => (by as_aux_lemma => kernel_rfl)
theorem s32_0_1 : GS 32 0 true := fun p h => (by as_aux_lemma => kernel_rfl)
theorem s33_1_1 : GS 33 1 true := fun p h => (by as_aux_lemma => kernel_rfl)
theorem s34_2_1 : GS 34 2 true := fun p h => (by as_aux_lemma => kernel_rfl)
theorem s36_0_1 : GS 36 0 true := fun p h => (by as_aux_lemma => kernel_rfl)
theorem s37_1_1 : GS 37 1 true := fun p h => (by as_aux_lemma => kernel_rfl)
theorem s38_2_1 : GS 38 2 true := fun p h => (by as_aux_lemma => kernel_rfl)
theorem s40_0_1 : GS 40 0 true := fun p h => (by as_aux_lemma => kernel_rfl)
theorem s41_1_1 : GS 41 1 true := fun p h => (by as_aux_lemma => kernel_rfl)
theorem s42_2_1 : GS 42 2 true := fun p h => (by as_aux_lemma => kernel_rfl)
theorem s44_0_1 : GS 44 0 true := fun p h => (by as_aux_lemma => kernel_rfl)
theorem s45_1_1 : GS 45 1 true := fun p h => (by as_aux_lemma => kernel_rfl)
theorem s46_2_1 : GS 46 2 true := fun p h => (by as_aux_lemma => kernel_rfl)
theorem s48_0_1 : GS 48 0 true := fun p h => (by as_aux_lemma => kernel_rfl)
theorem s49_1_1 : GS 49 1 true := fun p h => (by as_aux_lemma => kernel_rfl)
theorem s50_2_1 : GS 50 2 true := fun p h => (by as_aux_lemma => kernel_rfl)
theorem s52_0_1 : GS 52 0 true := fun p h => (by as_aux_lemma => kernel_rfl)
theorem s53_1_1 : GS 53 1 true := fun p h => (by as_aux_lemma => kernel_rfl)
theorem s54_2_1 : GS 54 2 true := fun p h => (by as_aux_lemma => kernel_rfl)
theorem s56_0_1 : GS 56 0 true := fun p h => (by as_aux_lemma => kernel_rfl)
theorem s57_1_1 : GS 57 1 true := fun p h => (by as_aux_lemma => kernel_rfl)
theorem s58_2_1 : GS 58 2 true := fun p h => (by as_aux_lemma => kernel_rfl)
theorem s60_0_1 : GS 60 0 true := fun p h => (by as_aux_lemma => kernel_rfl)
theorem all1 : ∀ q ∈ cs1, GS q.1 q.2.1 q.2.2 := allC (G := fun q : Nat × Nat × Bool => GS q.1 q.2.1 q.2.2) s0_0_1 (allC (G := fun q : Nat × Nat × Bool => GS q.1 q.2.1 q.2.2) s1_1_1 (allC (G := fun q : Nat × Nat × Bool => GS q.1 q.2.1 q.2.2) s2_2_1 (allC (G := fun q : Nat × Nat × Bool => GS q.1 q.2.1 q.2.2) s4_0_1 (allC (G := fun q : Nat × Nat × Bool => GS q.1 q.2.1 q.2.2) s5_1_1 (allC (G := fun q : Nat × Nat × Bool => GS q.1 q.2.1 q.2.2) s6_2_1 (allC (G := fun q : Nat × Nat × Bool => GS q.1 q.2.1 q.2.2) s8_0_1 (allC (G := fun q : Nat × Nat × Bool => GS q.1 q.2.1 q.2.2) s9_1_1 (allC (G := fun q : Nat × Nat × Bool => GS q.1 q.2.1 q.2.2) s10_2_1 (allC (G := fun q : Nat × Nat × Bool => GS q.1 q.2.1 q.2.2) s12_0_1 (allC (G := fun q : Nat × Nat × Bool => GS q.1 q.2.1 q.2.2) s13_1_1 (allC (G := fun q : Nat × Nat × Bool => GS q.1 q.2.1 q.2.2) s14_2_1 (allC (G := fun q : Nat × Nat × Bool => GS q.1 q.2.1 q.2.2) s16_0_1 (allC (G := fun q : Nat × Nat × Bool => GS q.1 q.2.1 q.2.2) s17_1_1 (allC (G := fun q : Nat × Nat × Bool => GS q.1 q.2.1 q.2.2) s18_2_1 (allC (G := fun q : Nat × Nat × Bool => GS q.1 q.2.1 q.2.2) s20_0_1 (allC (G := fun q : Nat × Nat × Bool => GS q.1 q.2.1 q.2.2) s21_1_1 (allC (G := fun q : Nat × Nat × Bool => GS q.1 q.2.1 q.2.2) s22_2_1 (allC (G := fun q : Nat × Nat × Bool => GS q.1 q.2.1 q.2.2) s24_0_1 (allC (G := fun q : Nat × Nat × Bool => GS q.1 q.2.1 q.2.2) s25_1_1 (allC (G := fun q : Nat × Nat × Bool => GS q.1 q.2.1 q.2.2) s26_2_1 (allC (G := fun q : Nat × Nat × Bool => GS q.1 q.2.1 q.2.2) s28_0_1 (allC (G := fun q : Nat × Nat × Bool => GS q.1 q.2.1 q.2.2) s29_1_1 (allC (G := fun q : Nat × Nat × Bool => GS q.1 q.2.1 q.2.2) s30_2_1 (allC (G := fun q : Nat × Nat × Bool => GS q.1 q.2.1 q.2.2) s32_0_1 (allC (G := fun q : Nat × Nat × Bool => GS q.1 q.2.1 q.2.2) s33_1_1 (allC (G := fun q : Nat × Nat × Bool => GS q.1 q.2.1 q.2.2) s34_2_1 (allC (G := fun q : Nat × Nat × Bool => GS q.1 q.2.1 q.2.2) s36_0_1 (allC (G := fun q : Nat × Nat × Bool => GS q.1 q.2.1 q.2.2) s37_1_1 (allC (G := fun q : Nat × Nat × Bool => GS q.1 q.2.1 q.2.2) s38_2_1 (allC (G := fun q : Nat × Nat × Bool => GS q.1 q.2.1 q.2.2) s40_0_1 (allC (G := fun q : Nat × Nat × Bool => GS q.1 q.2.1 q.2.2) s41_1_1 (allC (G := fun q : Nat × Nat × Bool => GS q.1 q.2.1 q.2.2) s42_2_1 (allC (G := fun q : Nat × Nat × Bool => GS q.1 q.2.1 q.2.2) s44_0_1 (allC (G := fun q : Nat × Nat × Bool => GS q.1 q.2.1 q.2.2) s45_1_1 (allC (G := fun q : Nat × Nat × Bool => GS q.1 q.2.1 q.2.2) s46_2_1 (allC (G := fun q : Nat × Nat × Bool => GS q.1 q.2.1 q.2.2) s48_0_1 (allC (G := fun q : Nat × Nat × Bool => GS q.1 q.2.1 q.2.2) s49_1_1 (allC (G := fun q : Nat × Nat × Bool => GS q.1 q.2.1 q.2.2) s50_2_1 (allC (G := fun q : Nat × Nat × Bool => GS q.1 q.2.1 q.2.2) s52_0_1 (allC (G := fun q : Nat × Nat × Bool => GS q.1 q.2.1 q.2.2) s53_1_1 (allC (G := fun q : Nat × Nat × Bool => GS q.1 q.2.1 q.2.2) s54_2_1 (allC (G := fun q : Nat × Nat × Bool => GS q.1 q.2.1 q.2.2) s56_0_1 (allC (G := fun q : Nat × Nat × Bool => GS q.1 q.2.1 q.2.2) s57_1_1 (allC (G := fun q : Nat × Nat × Bool => GS q.1 q.2.1 q.2.2) s58_2_1 (allC (G := fun q : Nat × Nat × Bool => GS q.1 q.2.1 q.2.2) s60_0_1 (allNil))))))))))))))))))))))))))))))))))))))))))))))
end Go.Proofs.YtgejhjencodinaaGreatDoor.nt
