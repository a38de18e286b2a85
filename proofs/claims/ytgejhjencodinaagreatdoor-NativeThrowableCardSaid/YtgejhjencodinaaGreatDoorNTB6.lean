/-
  What the law NativeThrowable gives: its runs.
-/
import Derived.Test.YtgejhjencodinaaGreatDoorNTA
set_option linter.unusedSectionVars false
set_option linter.unusedVariables false
set_option maxRecDepth 1000000
set_option maxHeartbeats 0
namespace Go.Proofs.YtgejhjencodinaaGreatDoor.nt
open Go.X Go.RowKit Go.X.chars
abbrev cs6 : List (Nat × Nat × Bool) := [(1, 0, false), (2, 1, false), (3, 2, false), (5, 0, false), (6, 1, false), (7, 2, false), (9, 0, false), (10, 1, false), (11, 2, false), (13, 0, false), (14, 1, false), (15, 2, false), (17, 0, false), (18, 1, false), (19, 2, false), (21, 0, false), (22, 1, false), (23, 2, false), (25, 0, false), (26, 1, false), (27, 2, false), (29, 0, false), (30, 1, false), (31, 2, false), (33, 0, false), (34, 1, false), (35, 2, false), (37, 0, false), (38, 1, false), (39, 2, false), (41, 0, false), (42, 1, false), (43, 2, false), (45, 0, false), (46, 1, false), (47, 2, false), (49, 0, false), (50, 1, false), (51, 2, false), (53, 0, false), (54, 1, false), (55, 2, false), (57, 0, false), (58, 1, false), (59, 2, false)]
theorem s1_0_0 : GS 1 0 false := fun p h => (by as_aux_lemma => kernel_rfl)
theorem s2_1_0 : GS 2 1 false := fun p h => (by as_aux_lemma => kernel_rfl)
theorem s3_2_0 : GS 3 2 false := fun p h => (by as_aux_lemma => kernel_rfl)
theorem s5_0_0 : GS 5 0 false := fun p h => (by as_aux_lemma => kernel_rfl)
theorem s6_1_0 : GS 6 1 false := fun p h => (by as_aux_lemma => kernel_rfl)
theorem s7_2_0 : GS 7 2 false := fun p h => (by as_aux_lemma => kernel_rfl)
theorem s9_0_0 : GS 9 0 false := fun p h => (by as_aux_lemma => kernel_rfl)
theorem s10_1_0 : GS 10 1 false := fun p h => (by as_aux_lemma => kernel_rfl)
theorem s11_2_0 : GS 11 2 false := fun p h => (by as_aux_lemma => kernel_rfl)
theorem s13_0_0 : GS 13 0 false := fun p h => (by as_aux_lemma => kernel_rfl)
theorem s14_1_0 : GS 14 1 false := fun p h => (by as_aux_lemma => kernel_rfl)
theorem s15_2_0 : GS 15 2 false := fun p h => (by as_aux_lemma => kernel_rfl)
theorem s17_0_0 : GS 17 0 false := fun p h => (by as_aux_lemma => kernel_rfl)
theorem s18_1_0 : GS 18 1 false := fun p h => (by as_aux_lemma => kernel_rfl)
theorem s19_2_0 : GS 19 2 false := fun p h => (by as_aux_lemma => kernel_rfl)
theorem s21_0_0 : GS 21 0 false := fun p h => (by as_aux_lemma => kernel_rfl)
theorem s22_1_0 : GS 22 1 false := fun p h => (by as_aux_lemma => kernel_rfl)
theorem s23_2_0 : GS 23 2 false := fun p h => (by as_aux_lemma => kernel_rfl)
theorem s25_0_0 : GS 25 0 false := fun p h => (by as_aux_lemma => kernel_rfl)
theorem s26_1_0 : GS 26 1 false := fun p h => (by as_aux_lemma => kernel_rfl)
theorem s27_2_0 : GS 27 2 false := fun p h => (by as_aux_lemma => kernel_rfl)
theorem s29_0_0 : GS 29 0 false := fun p h => (by as_aux_lemma => kernel_rfl)
theorem s30_1_0 : GS 30 1 false := fun p h => (by as_aux_lemma => kernel_rfl)
theorem s31_2_0 : GS 31 2 false := fun p h => (by as_aux_lemma => kernel_rfl)
theorem s33_0_0 : GS 33 0 false := fun p h => (by as_aux_lemma => kernel_rfl)
theorem s34_1_0 : GS 34 1 false := fun p h => (by as_aux_lemma => kernel_rfl)
theorem s35_2_0 : GS 35 2 false := fun p h => (by as_aux_lemma => kernel_rfl)
theorem s37_0_0 : GS 37 0 false := fun p h => (by as_aux_lemma => kernel_rfl)
theorem s38_1_0 : GS 38 1 false := fun p h => (by as_aux_lemma => kernel_rfl)
theorem s39_2_0 : GS 39 2 false := fun p h => (by as_aux_lemma => kernel_rfl)
theorem s41_0_0 : GS 41 0 false := fun p h => (by as_aux_lemma => kernel_rfl)
theorem s42_1_0 : GS 42 1 false := fun p h => (by as_aux_lemma => kernel_rfl)
theorem s43_2_0 : GS 43 2 false := fun p h => (by as_aux_lemma => kernel_rfl)
theorem s45_0_0 : GS 45 0 false := fun p h => (by as_aux_lemma => kernel_rfl)
theorem s46_1_0 : GS 46 1 false := fun p h => (by as_aux_lemma => kernel_rfl)
theorem s47_2_0 : GS 47 2 false := fun p h => (by as_aux_lemma => kernel_rfl)
theorem s49_0_0 : GS 49 0 false := fun p h => (by as_aux_lemma => kernel_rfl)
theorem s50_1_0 : GS 50 1 false := fun p h => (by as_aux_lemma => kernel_rfl)
theorem s51_2_0 : GS 51 2 false := fun p h => (by as_aux_lemma => kernel_rfl)
theorem s53_0_0 : GS 53 0 false := fun p h => (by as_aux_lemma => kernel_rfl)
theorem s54_1_0 : GS 54 1 false := fun p h => (by as_aux_lemma => kernel_rfl)
theorem s55_2_0 : GS 55 2 false := fun p h => (by as_aux_lemma => kernel_rfl)
theorem s57_0_0 : GS 57 0 false := fun p h => (by as_aux_lemma => kernel_rfl)
theorem s58_1_0 : GS 58 1 false := fun p h => (by as_aux_lemma => kernel_rfl)
theorem s59_2_0 : GS 59 2 false := fun p h => (by as_aux_lemma => kernel_rfl)
theorem all6 : ∀ q ∈ cs6, GS q.1 q.2.1 q.2.2 := allC (G := fun q : Nat × Nat × Bool => GS q.1 q.2.1 q.2.2) s1_0_0 (allC (G := fun q : Nat × Nat × Bool => GS q.1 q.2.1 q.2.2) s2_1_0 (allC (G := fun q : Nat × Nat × Bool => GS q.1 q.2.1 q.2.2) s3_2_0 (allC (G := fun q : Nat × Nat × Bool => GS q.1 q.2.1 q.2.2) s5_0_0 (allC (G := fun q : Nat × Nat × Bool => GS q.1 q.2.1 q.2.2) s6_1_0 (allC (G := fun q : Nat × Nat × Bool => GS q.1 q.2.1 q.2.2) s7_2_0 (allC (G := fun q : Nat × Nat × Bool => GS q.1 q.2.1 q.2.2) s9_0_0 (allC (G := fun q : Nat × Nat × Bool => GS q.1 q.2.1 q.2.2) s10_1_0 (allC (G := fun q : Nat × Nat × Bool => GS q.1 q.2.1 q.2.2) s11_2_0 (allC (G := fun q : Nat × Nat × Bool => GS q.1 q.2.1 q.2.2) s13_0_0 (allC (G := fun q : Nat × Nat × Bool => GS q.1 q.2.1 q.2.2) s14_1_0 (allC (G := fun q : Nat × Nat × Bool => GS q.1 q.2.1 q.2.2) s15_2_0 (allC (G := fun q : Nat × Nat × Bool => GS q.1 q.2.1 q.2.2) s17_0_0 (allC (G := fun q : Nat × Nat × Bool => GS q.1 q.2.1 q.2.2) s18_1_0 (allC (G := fun q : Nat × Nat × Bool => GS q.1 q.2.1 q.2.2) s19_2_0 (allC (G := fun q : Nat × Nat × Bool => GS q.1 q.2.1 q.2.2) s21_0_0 (allC (G := fun q : Nat × Nat × Bool => GS q.1 q.2.1 q.2.2) s22_1_0 (allC (G := fun q : Nat × Nat × Bool => GS q.1 q.2.1 q.2.2) s23_2_0 (allC (G := fun q : Nat × Nat × Bool => GS q.1 q.2.1 q.2.2) s25_0_0 (allC (G := fun q : Nat × Nat × Bool => GS q.1 q.2.1 q.2.2) s26_1_0 (allC (G := fun q : Nat × Nat × Bool => GS q.1 q.2.1 q.2.2) s27_2_0 (allC (G := fun q : Nat × Nat × Bool => GS q.1 q.2.1 q.2.2) s29_0_0 (allC (G := fun q : Nat × Nat × Bool => GS q.1 q.2.1 q.2.2) s30_1_0 (allC (G := fun q : Nat × Nat × Bool => GS q.1 q.2.1 q.2.2) s31_2_0 (allC (G := fun q : Nat × Nat × Bool => GS q.1 q.2.1 q.2.2) s33_0_0 (allC (G := fun q : Nat × Nat × Bool => GS q.1 q.2.1 q.2.2) s34_1_0 (allC (G := fun q : Nat × Nat × Bool => GS q.1 q.2.1 q.2.2) s35_2_0 (allC (G := fun q : Nat × Nat × Bool => GS q.1 q.2.1 q.2.2) s37_0_0 (allC (G := fun q : Nat × Nat × Bool => GS q.1 q.2.1 q.2.2) s38_1_0 (allC (G := fun q : Nat × Nat × Bool => GS q.1 q.2.1 q.2.2) s39_2_0 (allC (G := fun q : Nat × Nat × Bool => GS q.1 q.2.1 q.2.2) s41_0_0 (allC (G := fun q : Nat × Nat × Bool => GS q.1 q.2.1 q.2.2) s42_1_0 (allC (G := fun q : Nat × Nat × Bool => GS q.1 q.2.1 q.2.2) s43_2_0 (allC (G := fun q : Nat × Nat × Bool => GS q.1 q.2.1 q.2.2) s45_0_0 (allC (G := fun q : Nat × Nat × Bool => GS q.1 q.2.1 q.2.2) s46_1_0 (allC (G := fun q : Nat × Nat × Bool => GS q.1 q.2.1 q.2.2) s47_2_0 (allC (G := fun q : Nat × Nat × Bool => GS q.1 q.2.1 q.2.2) s49_0_0 (allC (G := fun q : Nat × Nat × Bool => GS q.1 q.2.1 q.2.2) s50_1_0 (allC (G := fun q : Nat × Nat × Bool => GS q.1 q.2.1 q.2.2) s51_2_0 (allC (G := fun q : Nat × Nat × Bool => GS q.1 q.2.1 q.2.2) s53_0_0 (allC (G := fun q : Nat × Nat × Bool => GS q.1 q.2.1 q.2.2) s54_1_0 (allC (G := fun q : Nat × Nat × Bool => GS q.1 q.2.1 q.2.2) s55_2_0 (allC (G := fun q : Nat × Nat × Bool => GS q.1 q.2.1 q.2.2) s57_0_0 (allC (G := fun q : Nat × Nat × Bool => GS q.1 q.2.1 q.2.2) s58_1_0 (allC (G := fun q : Nat × Nat × Bool => GS q.1 q.2.1 q.2.2) s59_2_0 (allNil)))))))))))))))))))))))))))))))))))))))))))))
end Go.Proofs.YtgejhjencodinaaGreatDoor.nt
