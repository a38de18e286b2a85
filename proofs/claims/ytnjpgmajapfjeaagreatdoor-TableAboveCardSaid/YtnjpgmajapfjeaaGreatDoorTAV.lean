/-
  What the law TableAbove gives.
-/
import Derived.Test.YtnjpgmajapfjeaaGreatDoorTAT1
import Derived.Test.YtnjpgmajapfjeaaGreatDoorTAT2
import Derived.Test.YtnjpgmajapfjeaaGreatDoorTAT3
import Derived.Test.YtnjpgmajapfjeaaGreatDoorTAT4
import Derived.Test.YtnjpgmajapfjeaaGreatDoorTAR0
import Derived.Test.YtnjpgmajapfjeaaGreatDoorTAR1
import Derived.Test.YtnjpgmajapfjeaaGreatDoorTAR2
import Derived.Test.YtnjpgmajapfjeaaGreatDoorTAR3
import Derived.Test.YtnjpgmajapfjeaaGreatDoorTAR4
import Derived.Test.YtnjpgmajapfjeaaGreatDoorTAR5
import Derived.Test.YtnjpgmajapfjeaaGreatDoorTAR6
import Derived.Test.YtnjpgmajapfjeaaGreatDoorTAR7
import Derived.Test.YtnjpgmajapfjeaaGreatDoorTAR8
import Derived.Test.YtnjpgmajapfjeaaGreatDoorTAR9
import Derived.Test.YtnjpgmajapfjeaaGreatDoorTAR10
import Derived.Test.YtnjpgmajapfjeaaGreatDoorTAR11
import Derived.Test.YtnjpgmajapfjeaaGreatDoorTAR12
import Derived.Test.YtnjpgmajapfjeaaGreatDoorTAR13
set_option linter.unusedVariables false
set_option maxRecDepth 1000000
set_option maxHeartbeats 0
namespace Go.Proofs.YtnjpgmajapfjeaaGreatDoor.ta
open Go.X Go.RowKit
theorem yesOf {n k : Int} (e : okTrue (@call Tab.empty Tryz.prog K_top0 5000 4 [.int .i64 n, .int .i64 k] H.empty) = true) (w : World) : Calls Tryz.prog 4 #[.int .i64 n, .int .i64 k] w fun e w' => e = .returned (.bool true) ∧ Below w.heap.size w w' := by
  letI : Tab := Tab.empty
  obtain ⟨q_, hq_⟩ := CallOk.of_okTrue (P := Tryz.prog) mixed K_top0_ok e
  exact CallOk.yes hq_ (vrels_cons (by simp only [vrel]) (vrels_cons (by simp only [vrel]) (by simp [vrels]))) w ⟨fun g o a h => (by cases h), fun i m a h => (by cases h)⟩
theorem all1 (w : World) : ∀ k : Nat, k < 2 → Calls Tryz.prog 4 #[.int .i64 1, .int .i64 (k : Int)] w fun e w' => e = .returned (.bool true) ∧ Below w.heap.size w w'
  | 0, _ => yesOf (n := 1) (k := 0) r1_0 w
  | 1, _ => yesOf (n := 1) (k := 1) r1_1 w
  | k + 2, h => absurd h (by omega)
theorem all2 (w : World) : ∀ k : Nat, k < 3 → Calls Tryz.prog 4 #[.int .i64 2, .int .i64 (k : Int)] w fun e w' => e = .returned (.bool true) ∧ Below w.heap.size w w'
  | 0, _ => yesOf (n := 2) (k := 0) r2_0 w
  | 1, _ => yesOf (n := 2) (k := 1) r2_1 w
  | 2, _ => yesOf (n := 2) (k := 2) r2_2 w
  | k + 3, h => absurd h (by omega)
theorem all3 (w : World) : ∀ k : Nat, k < 4 → Calls Tryz.prog 4 #[.int .i64 3, .int .i64 (k : Int)] w fun e w' => e = .returned (.bool true) ∧ Below w.heap.size w w'
  | 0, _ => yesOf (n := 3) (k := 0) r3_0 w
  | 1, _ => yesOf (n := 3) (k := 1) r3_1 w
  | 2, _ => yesOf (n := 3) (k := 2) r3_2 w
  | 3, _ => yesOf (n := 3) (k := 3) r3_3 w
  | k + 4, h => absurd h (by omega)
theorem all4 (w : World) : ∀ k : Nat, k < 5 → Calls Tryz.prog 4 #[.int .i64 4, .int .i64 (k : Int)] w fun e w' => e = .returned (.bool true) ∧ Below w.heap.size w w'
  | 0, _ => yesOf (n := 4) (k := 0) r4_0 w
  | 1, _ => yesOf (n := 4) (k := 1) r4_1 w
  | 2, _ => yesOf (n := 4) (k := 2) r4_2 w
  | 3, _ => yesOf (n := 4) (k := 3) r4_3 w
  | 4, _ => yesOf (n := 4) (k := 4) r4_4 w
  | k + 5, h => absurd h (by omega)
theorem all5 (w : World) : ∀ k : Nat, k < 6 → Calls Tryz.prog 4 #[.int .i64 5, .int .i64 (k : Int)] w fun e w' => e = .returned (.bool true) ∧ Below w.heap.size w w'
  | 0, _ => yesOf (n := 5) (k := 0) r5_0 w
  | 1, _ => yesOf (n := 5) (k := 1) r5_1 w
  | 2, _ => yesOf (n := 5) (k := 2) r5_2 w
  | 3, _ => yesOf (n := 5) (k := 3) r5_3 w
  | 4, _ => yesOf (n := 5) (k := 4) r5_4 w
  | 5, _ => yesOf (n := 5) (k := 5) r5_5 w
  | k + 6, h => absurd h (by omega)
theorem all6 (w : World) : ∀ k : Nat, k < 7 → Calls Tryz.prog 4 #[.int .i64 6, .int .i64 (k : Int)] w fun e w' => e = .returned (.bool true) ∧ Below w.heap.size w w'
  | 0, _ => yesOf (n := 6) (k := 0) r6_0 w
  | 1, _ => yesOf (n := 6) (k := 1) r6_1 w
  | 2, _ => yesOf (n := 6) (k := 2) r6_2 w
  | 3, _ => yesOf (n := 6) (k := 3) r6_3 w
  | 4, _ => yesOf (n := 6) (k := 4) r6_4 w
  | 5, _ => yesOf (n := 6) (k := 5) r6_5 w
  | 6, _ => yesOf (n := 6) (k := 6) r6_6 w
  | k + 7, h => absurd h (by omega)
theorem all7 (w : World) : ∀ k : Nat, k < 8 → Calls Tryz.prog 4 #[.int .i64 7, .int .i64 (k : Int)] w fun e w' => e = .returned (.bool true) ∧ Below w.heap.size w w'
  | 0, _ => yesOf (n := 7) (k := 0) r7_0 w
  | 1, _ => yesOf (n := 7) (k := 1) r7_1 w
  | 2, _ => yesOf (n := 7) (k := 2) r7_2 w
  | 3, _ => yesOf (n := 7) (k := 3) r7_3 w
  | 4, _ => yesOf (n := 7) (k := 4) r7_4 w
  | 5, _ => yesOf (n := 7) (k := 5) r7_5 w
  | 6, _ => yesOf (n := 7) (k := 6) r7_6 w
  | 7, _ => yesOf (n := 7) (k := 7) r7_7 w
  | k + 8, h => absurd h (by omega)
theorem all8 (w : World) : ∀ k : Nat, k < 9 → Calls Tryz.prog 4 #[.int .i64 8, .int .i64 (k : Int)] w fun e w' => e = .returned (.bool true) ∧ Below w.heap.size w w'
  | 0, _ => yesOf (n := 8) (k := 0) r8_0 w
  | 1, _ => yesOf (n := 8) (k := 1) r8_1 w
  | 2, _ => yesOf (n := 8) (k := 2) r8_2 w
  | 3, _ => yesOf (n := 8) (k := 3) r8_3 w
  | 4, _ => yesOf (n := 8) (k := 4) r8_4 w
  | 5, _ => yesOf (n := 8) (k := 5) r8_5 w
  | 6, _ => yesOf (n := 8) (k := 6) r8_6 w
  | 7, _ => yesOf (n := 8) (k := 7) r8_7 w
  | 8, _ => yesOf (n := 8) (k := 8) r8_8 w
  | k + 9, h => absurd h (by omega)
theorem all9 (w : World) : ∀ k : Nat, k < 10 → Calls Tryz.prog 4 #[.int .i64 9, .int .i64 (k : Int)] w fun e w' => e = .returned (.bool true) ∧ Below w.heap.size w w'
  | 0, _ => yesOf (n := 9) (k := 0) r9_0 w
  | 1, _ => yesOf (n := 9) (k := 1) r9_1 w
  | 2, _ => yesOf (n := 9) (k := 2) r9_2 w
  | 3, _ => yesOf (n := 9) (k := 3) r9_3 w
  | 4, _ => yesOf (n := 9) (k := 4) r9_4 w
  | 5, _ => yesOf (n := 9) (k := 5) r9_5 w
  | 6, _ => yesOf (n := 9) (k := 6) r9_6 w
  | 7, _ => yesOf (n := 9) (k := 7) r9_7 w
  | 8, _ => yesOf (n := 9) (k := 8) r9_8 w
  | 9, _ => yesOf (n := 9) (k := 9) r9_9 w
  | k + 10, h => absurd h (by omega)
theorem all10 (w : World) : ∀ k : Nat, k < 11 → Calls Tryz.prog 4 #[.int .i64 10, .int .i64 (k : Int)] w fun e w' => e = .returned (.bool true) ∧ Below w.heap.size w w'
  | 0, _ => yesOf (n := 10) (k := 0) r10_0 w
  | 1, _ => yesOf (n := 10) (k := 1) r10_1 w
  | 2, _ => yesOf (n := 10) (k := 2) r10_2 w
  | 3, _ => yesOf (n := 10) (k := 3) r10_3 w
  | 4, _ => yesOf (n := 10) (k := 4) r10_4 w
  | 5, _ => yesOf (n := 10) (k := 5) r10_5 w
  | 6, _ => yesOf (n := 10) (k := 6) r10_6 w
  | 7, _ => yesOf (n := 10) (k := 7) r10_7 w
  | 8, _ => yesOf (n := 10) (k := 8) r10_8 w
  | 9, _ => yesOf (n := 10) (k := 9) r10_9 w
  | 10, _ => yesOf (n := 10) (k := 10) r10_10 w
  | k + 11, h => absurd h (by omega)
theorem all11 (w : World) : ∀ k : Nat, k < 12 → Calls Tryz.prog 4 #[.int .i64 11, .int .i64 (k : Int)] w fun e w' => e = .returned (.bool true) ∧ Below w.heap.size w w'
  | 0, _ => yesOf (n := 11) (k := 0) r11_0 w
  | 1, _ => yesOf (n := 11) (k := 1) r11_1 w
  | 2, _ => yesOf (n := 11) (k := 2) r11_2 w
  | 3, _ => yesOf (n := 11) (k := 3) r11_3 w
  | 4, _ => yesOf (n := 11) (k := 4) r11_4 w
  | 5, _ => yesOf (n := 11) (k := 5) r11_5 w
  | 6, _ => yesOf (n := 11) (k := 6) r11_6 w
  | 7, _ => yesOf (n := 11) (k := 7) r11_7 w
  | 8, _ => yesOf (n := 11) (k := 8) r11_8 w
  | 9, _ => yesOf (n := 11) (k := 9) r11_9 w
  | 10, _ => yesOf (n := 11) (k := 10) r11_10 w
  | 11, _ => yesOf (n := 11) (k := 11) r11_11 w
  | k + 12, h => absurd h (by omega)
theorem all12 (w : World) : ∀ k : Nat, k < 13 → Calls Tryz.prog 4 #[.int .i64 12, .int .i64 (k : Int)] w fun e w' => e = .returned (.bool true) ∧ Below w.heap.size w w'
  | 0, _ => yesOf (n := 12) (k := 0) r12_0 w
  | 1, _ => yesOf (n := 12) (k := 1) r12_1 w
  | 2, _ => yesOf (n := 12) (k := 2) r12_2 w
  | 3, _ => yesOf (n := 12) (k := 3) r12_3 w
  | 4, _ => yesOf (n := 12) (k := 4) r12_4 w
  | 5, _ => yesOf (n := 12) (k := 5) r12_5 w
  | 6, _ => yesOf (n := 12) (k := 6) r12_6 w
  | 7, _ => yesOf (n := 12) (k := 7) r12_7 w
  | 8, _ => yesOf (n := 12) (k := 8) r12_8 w
  | 9, _ => yesOf (n := 12) (k := 9) r12_9 w
  | 10, _ => yesOf (n := 12) (k := 10) r12_10 w
  | 11, _ => yesOf (n := 12) (k := 11) r12_11 w
  | 12, _ => yesOf (n := 12) (k := 12) r12_12 w
  | k + 13, h => absurd h (by omega)
theorem all13 (w : World) : ∀ k : Nat, k < 14 → Calls Tryz.prog 4 #[.int .i64 13, .int .i64 (k : Int)] w fun e w' => e = .returned (.bool true) ∧ Below w.heap.size w w'
  | 0, _ => yesOf (n := 13) (k := 0) r13_0 w
  | 1, _ => yesOf (n := 13) (k := 1) r13_1 w
  | 2, _ => yesOf (n := 13) (k := 2) r13_2 w
  | 3, _ => yesOf (n := 13) (k := 3) r13_3 w
  | 4, _ => yesOf (n := 13) (k := 4) r13_4 w
  | 5, _ => yesOf (n := 13) (k := 5) r13_5 w
  | 6, _ => yesOf (n := 13) (k := 6) r13_6 w
  | 7, _ => yesOf (n := 13) (k := 7) r13_7 w
  | 8, _ => yesOf (n := 13) (k := 8) r13_8 w
  | 9, _ => yesOf (n := 13) (k := 9) r13_9 w
  | 10, _ => yesOf (n := 13) (k := 10) r13_10 w
  | 11, _ => yesOf (n := 13) (k := 11) r13_11 w
  | 12, _ => yesOf (n := 13) (k := 12) r13_12 w
  | 13, _ => yesOf (n := 13) (k := 13) r13_13 w
  | k + 14, h => absurd h (by omega)
theorem all14 (w : World) : ∀ k : Nat, k < 15 → Calls Tryz.prog 4 #[.int .i64 14, .int .i64 (k : Int)] w fun e w' => e = .returned (.bool true) ∧ Below w.heap.size w w'
  | 0, _ => yesOf (n := 14) (k := 0) r14_0 w
  | 1, _ => yesOf (n := 14) (k := 1) r14_1 w
  | 2, _ => yesOf (n := 14) (k := 2) r14_2 w
  | 3, _ => yesOf (n := 14) (k := 3) r14_3 w
  | 4, _ => yesOf (n := 14) (k := 4) r14_4 w
  | 5, _ => yesOf (n := 14) (k := 5) r14_5 w
  | 6, _ => yesOf (n := 14) (k := 6) r14_6 w
  | 7, _ => yesOf (n := 14) (k := 7) r14_7 w
  | 8, _ => yesOf (n := 14) (k := 8) r14_8 w
  | 9, _ => yesOf (n := 14) (k := 9) r14_9 w
  | 10, _ => yesOf (n := 14) (k := 10) r14_10 w
  | 11, _ => yesOf (n := 14) (k := 11) r14_11 w
  | 12, _ => yesOf (n := 14) (k := 12) r14_12 w
  | 13, _ => yesOf (n := 14) (k := 13) r14_13 w
  | 14, _ => yesOf (n := 14) (k := 14) r14_14 w
  | k + 15, h => absurd h (by omega)
theorem all15 (w : World) : ∀ k : Nat, k < 16 → Calls Tryz.prog 4 #[.int .i64 15, .int .i64 (k : Int)] w fun e w' => e = .returned (.bool true) ∧ Below w.heap.size w w'
  | 0, _ => yesOf (n := 15) (k := 0) r15_0 w
  | 1, _ => yesOf (n := 15) (k := 1) r15_1 w
  | 2, _ => yesOf (n := 15) (k := 2) r15_2 w
  | 3, _ => yesOf (n := 15) (k := 3) r15_3 w
  | 4, _ => yesOf (n := 15) (k := 4) r15_4 w
  | 5, _ => yesOf (n := 15) (k := 5) r15_5 w
  | 6, _ => yesOf (n := 15) (k := 6) r15_6 w
  | 7, _ => yesOf (n := 15) (k := 7) r15_7 w
  | 8, _ => yesOf (n := 15) (k := 8) r15_8 w
  | 9, _ => yesOf (n := 15) (k := 9) r15_9 w
  | 10, _ => yesOf (n := 15) (k := 10) r15_10 w
  | 11, _ => yesOf (n := 15) (k := 11) r15_11 w
  | 12, _ => yesOf (n := 15) (k := 12) r15_12 w
  | 13, _ => yesOf (n := 15) (k := 13) r15_13 w
  | 14, _ => yesOf (n := 15) (k := 14) r15_14 w
  | 15, _ => yesOf (n := 15) (k := 15) r15_15 w
  | k + 16, h => absurd h (by omega)
theorem all16 (w : World) : ∀ k : Nat, k < 17 → Calls Tryz.prog 4 #[.int .i64 16, .int .i64 (k : Int)] w fun e w' => e = .returned (.bool true) ∧ Below w.heap.size w w'
  | 0, _ => yesOf (n := 16) (k := 0) r16_0 w
  | 1, _ => yesOf (n := 16) (k := 1) r16_1 w
  | 2, _ => yesOf (n := 16) (k := 2) r16_2 w
  | 3, _ => yesOf (n := 16) (k := 3) r16_3 w
  | 4, _ => yesOf (n := 16) (k := 4) r16_4 w
  | 5, _ => yesOf (n := 16) (k := 5) r16_5 w
  | 6, _ => yesOf (n := 16) (k := 6) r16_6 w
  | 7, _ => yesOf (n := 16) (k := 7) r16_7 w
  | 8, _ => yesOf (n := 16) (k := 8) r16_8 w
  | 9, _ => yesOf (n := 16) (k := 9) r16_9 w
  | 10, _ => yesOf (n := 16) (k := 10) r16_10 w
  | 11, _ => yesOf (n := 16) (k := 11) r16_11 w
  | 12, _ => yesOf (n := 16) (k := 12) r16_12 w
  | 13, _ => yesOf (n := 16) (k := 13) r16_13 w
  | 14, _ => yesOf (n := 16) (k := 14) r16_14 w
  | 15, _ => yesOf (n := 16) (k := 15) r16_15 w
  | 16, _ => yesOf (n := 16) (k := 16) r16_16 w
  | k + 17, h => absurd h (by omega)
theorem all17 (w : World) : ∀ k : Nat, k < 18 → Calls Tryz.prog 4 #[.int .i64 17, .int .i64 (k : Int)] w fun e w' => e = .returned (.bool true) ∧ Below w.heap.size w w'
  | 0, _ => yesOf (n := 17) (k := 0) r17_0 w
  | 1, _ => yesOf (n := 17) (k := 1) r17_1 w
  | 2, _ => yesOf (n := 17) (k := 2) r17_2 w
  | 3, _ => yesOf (n := 17) (k := 3) r17_3 w
  | 4, _ => yesOf (n := 17) (k := 4) r17_4 w
  | 5, _ => yesOf (n := 17) (k := 5) r17_5 w
  | 6, _ => yesOf (n := 17) (k := 6) r17_6 w
  | 7, _ => yesOf (n := 17) (k := 7) r17_7 w
  | 8, _ => yesOf (n := 17) (k := 8) r17_8 w
  | 9, _ => yesOf (n := 17) (k := 9) r17_9 w
  | 10, _ => yesOf (n := 17) (k := 10) r17_10 w
  | 11, _ => yesOf (n := 17) (k := 11) r17_11 w
  | 12, _ => yesOf (n := 17) (k := 12) r17_12 w
  | 13, _ => yesOf (n := 17) (k := 13) r17_13 w
  | 14, _ => yesOf (n := 17) (k := 14) r17_14 w
  | 15, _ => yesOf (n := 17) (k := 15) r17_15 w
  | 16, _ => yesOf (n := 17) (k := 16) r17_16 w
  | 17, _ => yesOf (n := 17) (k := 17) r17_17 w
  | k + 18, h => absurd h (by omega)
theorem all18 (w : World) : ∀ k : Nat, k < 19 → Calls Tryz.prog 4 #[.int .i64 18, .int .i64 (k : Int)] w fun e w' => e = .returned (.bool true) ∧ Below w.heap.size w w'
  | 0, _ => yesOf (n := 18) (k := 0) r18_0 w
  | 1, _ => yesOf (n := 18) (k := 1) r18_1 w
  | 2, _ => yesOf (n := 18) (k := 2) r18_2 w
  | 3, _ => yesOf (n := 18) (k := 3) r18_3 w
  | 4, _ => yesOf (n := 18) (k := 4) r18_4 w
  | 5, _ => yesOf (n := 18) (k := 5) r18_5 w
  | 6, _ => yesOf (n := 18) (k := 6) r18_6 w
  | 7, _ => yesOf (n := 18) (k := 7) r18_7 w
  | 8, _ => yesOf (n := 18) (k := 8) r18_8 w
  | 9, _ => yesOf (n := 18) (k := 9) r18_9 w
  | 10, _ => yesOf (n := 18) (k := 10) r18_10 w
  | 11, _ => yesOf (n := 18) (k := 11) r18_11 w
  | 12, _ => yesOf (n := 18) (k := 12) r18_12 w
  | 13, _ => yesOf (n := 18) (k := 13) r18_13 w
  | 14, _ => yesOf (n := 18) (k := 14) r18_14 w
  | 15, _ => yesOf (n := 18) (k := 15) r18_15 w
  | 16, _ => yesOf (n := 18) (k := 16) r18_16 w
  | 17, _ => yesOf (n := 18) (k := 17) r18_17 w
  | 18, _ => yesOf (n := 18) (k := 18) r18_18 w
  | k + 19, h => absurd h (by omega)
theorem all19 (w : World) : ∀ k : Nat, k < 20 → Calls Tryz.prog 4 #[.int .i64 19, .int .i64 (k : Int)] w fun e w' => e = .returned (.bool true) ∧ Below w.heap.size w w'
  | 0, _ => yesOf (n := 19) (k := 0) r19_0 w
  | 1, _ => yesOf (n := 19) (k := 1) r19_1 w
  | 2, _ => yesOf (n := 19) (k := 2) r19_2 w
  | 3, _ => yesOf (n := 19) (k := 3) r19_3 w
  | 4, _ => yesOf (n := 19) (k := 4) r19_4 w
  | 5, _ => yesOf (n := 19) (k := 5) r19_5 w
  | 6, _ => yesOf (n := 19) (k := 6) r19_6 w
  | 7, _ => yesOf (n := 19) (k := 7) r19_7 w
  | 8, _ => yesOf (n := 19) (k := 8) r19_8 w
  | 9, _ => yesOf (n := 19) (k := 9) r19_9 w
  | 10, _ => yesOf (n := 19) (k := 10) r19_10 w
  | 11, _ => yesOf (n := 19) (k := 11) r19_11 w
  | 12, _ => yesOf (n := 19) (k := 12) r19_12 w
  | 13, _ => yesOf (n := 19) (k := 13) r19_13 w
  | 14, _ => yesOf (n := 19) (k := 14) r19_14 w
  | 15, _ => yesOf (n := 19) (k := 15) r19_15 w
  | 16, _ => yesOf (n := 19) (k := 16) r19_16 w
  | 17, _ => yesOf (n := 19) (k := 17) r19_17 w
  | 18, _ => yesOf (n := 19) (k := 18) r19_18 w
  | 19, _ => yesOf (n := 19) (k := 19) r19_19 w
  | k + 20, h => absurd h (by omega)
theorem all20 (w : World) : ∀ k : Nat, k < 21 → Calls Tryz.prog 4 #[.int .i64 20, .int .i64 (k : Int)] w fun e w' => e = .returned (.bool true) ∧ Below w.heap.size w w'
  | 0, _ => yesOf (n := 20) (k := 0) r20_0 w
  | 1, _ => yesOf (n := 20) (k := 1) r20_1 w
  | 2, _ => yesOf (n := 20) (k := 2) r20_2 w
  | 3, _ => yesOf (n := 20) (k := 3) r20_3 w
  | 4, _ => yesOf (n := 20) (k := 4) r20_4 w
  | 5, _ => yesOf (n := 20) (k := 5) r20_5 w
  | 6, _ => yesOf (n := 20) (k := 6) r20_6 w
  | 7, _ => yesOf (n := 20) (k := 7) r20_7 w
  | 8, _ => yesOf (n := 20) (k := 8) r20_8 w
  | 9, _ => yesOf (n := 20) (k := 9) r20_9 w
  | 10, _ => yesOf (n := 20) (k := 10) r20_10 w
  | 11, _ => yesOf (n := 20) (k := 11) r20_11 w
  | 12, _ => yesOf (n := 20) (k := 12) r20_12 w
  | 13, _ => yesOf (n := 20) (k := 13) r20_13 w
  | 14, _ => yesOf (n := 20) (k := 14) r20_14 w
  | 15, _ => yesOf (n := 20) (k := 15) r20_15 w
  | 16, _ => yesOf (n := 20) (k := 16) r20_16 w
  | 17, _ => yesOf (n := 20) (k := 17) r20_17 w
  | 18, _ => yesOf (n := 20) (k := 18) r20_18 w
  | 19, _ => yesOf (n := 20) (k := 19) r20_19 w
  | 20, _ => yesOf (n := 20) (k := 20) r20_20 w
  | k + 21, h => absurd h (by omega)
theorem walk0 (a0 a1 : Int) (w : World) : Calls Tryz.prog 4 #[.int .i64 a0, .int .i64 a1] w fun e w' => e = .returned (.bool true) ∧ Below w.heap.size w w' := by
  by_cases c0 : a0 < 1
  · exact yes1 c0 (b := a1) rfl w
  by_cases c1 : 20 < a0
  · exact yes2 c1 (b := a1) rfl w
  by_cases c2 : a1 < 0
  · exact yes3 (by omega) (by omega) c2 w
  by_cases c3 : a0 < a1
  · exact yes4 (by omega) (by omega) (by omega) c3 w
  obtain ⟨k, hk⟩ : ∃ k : Nat, a1 = (k : Int) := ⟨a1.toNat, by omega⟩
  subst hk
  have h20 : a0 = 1 ∨ a0 = 2 ∨ a0 = 3 ∨ a0 = 4 ∨ a0 = 5 ∨ a0 = 6 ∨ a0 = 7 ∨ a0 = 8 ∨ a0 = 9 ∨ a0 = 10 ∨ a0 = 11 ∨ a0 = 12 ∨ a0 = 13 ∨ a0 = 14 ∨ a0 = 15 ∨ a0 = 16 ∨ a0 = 17 ∨ a0 = 18 ∨ a0 = 19 ∨ a0 = 20 := by omega
  rcases h20 with rfl | rfl | rfl | rfl | rfl | rfl | rfl | rfl | rfl | rfl | rfl | rfl | rfl | rfl | rfl | rfl | rfl | rfl | rfl | rfl
  · exact all1 w k (by omega)
  · exact all2 w k (by omega)
  · exact all3 w k (by omega)
  · exact all4 w k (by omega)
  · exact all5 w k (by omega)
  · exact all6 w k (by omega)
  · exact all7 w k (by omega)
  · exact all8 w k (by omega)
  · exact all9 w k (by omega)
  · exact all10 w k (by omega)
  · exact all11 w k (by omega)
  · exact all12 w k (by omega)
  · exact all13 w k (by omega)
  · exact all14 w k (by omega)
  · exact all15 w k (by omega)
  · exact all16 w k (by omega)
  · exact all17 w k (by omega)
  · exact all18 w k (by omega)
  · exact all19 w k (by omega)
  · exact all20 w k (by omega)
end Go.Proofs.YtnjpgmajapfjeaaGreatDoor.ta
