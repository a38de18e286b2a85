/-
  What the law TopHello gives: all its runs.
-/
import Derived.Test.YtbgkinjicnnkiaaGreatDoorHLR0
import Derived.Test.YtbgkinjicnnkiaaGreatDoorHLR1
import Derived.Test.YtbgkinjicnnkiaaGreatDoorHLR2
import Derived.Test.YtbgkinjicnnkiaaGreatDoorHLR3
import Derived.Test.YtbgkinjicnnkiaaGreatDoorHLR4
import Derived.Test.YtbgkinjicnnkiaaGreatDoorHLR5
import Derived.Test.YtbgkinjicnnkiaaGreatDoorHLR6
import Derived.Test.YtbgkinjicnnkiaaGreatDoorHLR7
import Derived.Test.YtbgkinjicnnkiaaGreatDoorHLR8
import Derived.Test.YtbgkinjicnnkiaaGreatDoorHLR9
import Derived.Test.YtbgkinjicnnkiaaGreatDoorHLR10
import Derived.Test.YtbgkinjicnnkiaaGreatDoorHLR11
set_option linter.unusedSectionVars false
set_option linter.unusedVariables false
set_option maxRecDepth 1000000
set_option maxHeartbeats 0
namespace Go.Proofs.YtbgkinjicnnkiaaGreatDoor.hl
open Go.X Go.RowKit Go.X.chars8 Go.Proofs.YtbgkinjicnnkiaaGreatDoor.hq
theorem all1 : ∀ M : Nat, 1 ≤ M → M ≤ 21 → JG 4 M ∧ LG1 M
  | 1, _, _ => ⟨j1_1, g1_1⟩
  | 2, _, _ => ⟨j1_2, g1_2⟩
  | 3, _, _ => ⟨j1_3, g1_3⟩
  | 4, _, _ => ⟨j1_4, g1_4⟩
  | 5, _, _ => ⟨j1_5, g1_5⟩
  | 6, _, _ => ⟨j1_6, g1_6⟩
  | 7, _, _ => ⟨j1_7, g1_7⟩
  | 8, _, _ => ⟨j1_8, g1_8⟩
  | 9, _, _ => ⟨j1_9, g1_9⟩
  | 10, _, _ => ⟨j1_10, g1_10⟩
  | 11, _, _ => ⟨j1_11, g1_11⟩
  | 12, _, _ => ⟨j1_12, g1_12⟩
  | 13, _, _ => ⟨j1_13, g1_13⟩
  | 14, _, _ => ⟨j1_14, g1_14⟩
  | 15, _, _ => ⟨j1_15, g1_15⟩
  | 16, _, _ => ⟨j1_16, g1_16⟩
  | 17, _, _ => ⟨j1_17, g1_17⟩
  | 18, _, _ => ⟨j1_18, g1_18⟩
  | 19, _, _ => ⟨j1_19, g1_19⟩
  | 20, _, _ => ⟨j1_20, g1_20⟩
  | 21, _, _ => ⟨j1_21, g1_21⟩
  | 0, h, _ => absurd h (by decide)
  | M + 22, _, h => absurd h (by omega)
theorem all2 : ∀ M : Nat, 1 ≤ M → M ≤ 21 → JG2 5 M ∧ LM2 M
  | 1, _, _ => ⟨j2_1, g2_1⟩
  | 2, _, _ => ⟨j2_2, g2_2⟩
  | 3, _, _ => ⟨j2_3, g2_3⟩
  | 4, _, _ => ⟨j2_4, g2_4⟩
  | 5, _, _ => ⟨j2_5, g2_5⟩
  | 6, _, _ => ⟨j2_6, g2_6⟩
  | 7, _, _ => ⟨j2_7, g2_7⟩
  | 8, _, _ => ⟨j2_8, g2_8⟩
  | 9, _, _ => ⟨j2_9, g2_9⟩
  | 10, _, _ => ⟨j2_10, g2_10⟩
  | 11, _, _ => ⟨j2_11, g2_11⟩
  | 12, _, _ => ⟨j2_12, g2_12⟩
  | 13, _, _ => ⟨j2_13, g2_13⟩
  | 14, _, _ => ⟨j2_14, g2_14⟩
  | 15, _, _ => ⟨j2_15, g2_15⟩
  | 16, _, _ => ⟨j2_16, g2_16⟩
  | 17, _, _ => ⟨j2_17, g2_17⟩
  | 18, _, _ => ⟨j2_18, g2_18⟩
  | 19, _, _ => ⟨j2_19, g2_19⟩
  | 20, _, _ => ⟨j2_20, g2_20⟩
  | 21, _, _ => ⟨j2_21, g2_21⟩
  | 0, h, _ => absurd h (by decide)
  | M + 22, _, h => absurd h (by omega)
theorem all3 : ∀ M : Nat, 1 ≤ M → M ≤ 21 → JG 6 M ∧ LG3 M
  | 1, _, _ => ⟨j3_1, g3_1⟩
  | 2, _, _ => ⟨j3_2, g3_2⟩
  | 3, _, _ => ⟨j3_3, g3_3⟩
  | 4, _, _ => ⟨j3_4, g3_4⟩
  | 5, _, _ => ⟨j3_5, g3_5⟩
  | 6, _, _ => ⟨j3_6, g3_6⟩
  | 7, _, _ => ⟨j3_7, g3_7⟩
  | 8, _, _ => ⟨j3_8, g3_8⟩
  | 9, _, _ => ⟨j3_9, g3_9⟩
  | 10, _, _ => ⟨j3_10, g3_10⟩
  | 11, _, _ => ⟨j3_11, g3_11⟩
  | 12, _, _ => ⟨j3_12, g3_12⟩
  | 13, _, _ => ⟨j3_13, g3_13⟩
  | 14, _, _ => ⟨j3_14, g3_14⟩
  | 15, _, _ => ⟨j3_15, g3_15⟩
  | 16, _, _ => ⟨j3_16, g3_16⟩
  | 17, _, _ => ⟨j3_17, g3_17⟩
  | 18, _, _ => ⟨j3_18, g3_18⟩
  | 19, _, _ => ⟨j3_19, g3_19⟩
  | 20, _, _ => ⟨j3_20, g3_20⟩
  | 21, _, _ => ⟨j3_21, g3_21⟩
  | 0, h, _ => absurd h (by decide)
  | M + 22, _, h => absurd h (by omega)
theorem all4 : ∀ M : Nat, 1 ≤ M → M ≤ 21 → JG 7 M ∧ LG4 M
  | 1, _, _ => ⟨j4_1, g4_1⟩
  | 2, _, _ => ⟨j4_2, g4_2⟩
  | 3, _, _ => ⟨j4_3, g4_3⟩
  | 4, _, _ => ⟨j4_4, g4_4⟩
  | 5, _, _ => ⟨j4_5, g4_5⟩
  | 6, _, _ => ⟨j4_6, g4_6⟩
  | 7, _, _ => ⟨j4_7, g4_7⟩
  | 8, _, _ => ⟨j4_8, g4_8⟩
  | 9, _, _ => ⟨j4_9, g4_9⟩
  | 10, _, _ => ⟨j4_10, g4_10⟩
  | 11, _, _ => ⟨j4_11, g4_11⟩
  | 12, _, _ => ⟨j4_12, g4_12⟩
  | 13, _, _ => ⟨j4_13, g4_13⟩
  | 14, _, _ => ⟨j4_14, g4_14⟩
  | 15, _, _ => ⟨j4_15, g4_15⟩
  | 16, _, _ => ⟨j4_16, g4_16⟩
  | 17, _, _ => ⟨j4_17, g4_17⟩
  | 18, _, _ => ⟨j4_18, g4_18⟩
  | 19, _, _ => ⟨j4_19, g4_19⟩
  | 20, _, _ => ⟨j4_20, g4_20⟩
  | 21, _, _ => ⟨j4_21, g4_21⟩
  | 0, h, _ => absurd h (by decide)
  | M + 22, _, h => absurd h (by omega)
theorem all5 : ∀ M : Nat, 1 ≤ M → M ≤ 21 → JG 8 M ∧ LG5 M
  | 1, _, _ => ⟨j5_1, g5_1⟩
  | 2, _, _ => ⟨j5_2, g5_2⟩
  | 3, _, _ => ⟨j5_3, g5_3⟩
  | 4, _, _ => ⟨j5_4, g5_4⟩
  | 5, _, _ => ⟨j5_5, g5_5⟩
  | 6, _, _ => ⟨j5_6, g5_6⟩
  | 7, _, _ => ⟨j5_7, g5_7⟩
  | 8, _, _ => ⟨j5_8, g5_8⟩
  | 9, _, _ => ⟨j5_9, g5_9⟩
  | 10, _, _ => ⟨j5_10, g5_10⟩
  | 11, _, _ => ⟨j5_11, g5_11⟩
  | 12, _, _ => ⟨j5_12, g5_12⟩
  | 13, _, _ => ⟨j5_13, g5_13⟩
  | 14, _, _ => ⟨j5_14, g5_14⟩
  | 15, _, _ => ⟨j5_15, g5_15⟩
  | 16, _, _ => ⟨j5_16, g5_16⟩
  | 17, _, _ => ⟨j5_17, g5_17⟩
  | 18, _, _ => ⟨j5_18, g5_18⟩
  | 19, _, _ => ⟨j5_19, g5_19⟩
  | 20, _, _ => ⟨j5_20, g5_20⟩
  | 21, _, _ => ⟨j5_21, g5_21⟩
  | 0, h, _ => absurd h (by decide)
  | M + 22, _, h => absurd h (by omega)
theorem all6 : ∀ M : Nat, 1 ≤ M → M ≤ 21 → JG2 9 M ∧ LM6 M
  | 1, _, _ => ⟨j6_1, g6_1⟩
  | 2, _, _ => ⟨j6_2, g6_2⟩
  | 3, _, _ => ⟨j6_3, g6_3⟩
  | 4, _, _ => ⟨j6_4, g6_4⟩
  | 5, _, _ => ⟨j6_5, g6_5⟩
  | 6, _, _ => ⟨j6_6, g6_6⟩
  | 7, _, _ => ⟨j6_7, g6_7⟩
  | 8, _, _ => ⟨j6_8, g6_8⟩
  | 9, _, _ => ⟨j6_9, g6_9⟩
  | 10, _, _ => ⟨j6_10, g6_10⟩
  | 11, _, _ => ⟨j6_11, g6_11⟩
  | 12, _, _ => ⟨j6_12, g6_12⟩
  | 13, _, _ => ⟨j6_13, g6_13⟩
  | 14, _, _ => ⟨j6_14, g6_14⟩
  | 15, _, _ => ⟨j6_15, g6_15⟩
  | 16, _, _ => ⟨j6_16, g6_16⟩
  | 17, _, _ => ⟨j6_17, g6_17⟩
  | 18, _, _ => ⟨j6_18, g6_18⟩
  | 19, _, _ => ⟨j6_19, g6_19⟩
  | 20, _, _ => ⟨j6_20, g6_20⟩
  | 21, _, _ => ⟨j6_21, g6_21⟩
  | 0, h, _ => absurd h (by decide)
  | M + 22, _, h => absurd h (by omega)
theorem any {n0 l : Int} (h0 : -9223372036854775808 ≤ l) (h1 : l ≤ 9223372036854775807) (w : World) (ht : Lib.TabIs Tryz.prog w "internal/strconv.uint64pow10" .u64 Lib.pow10Tab) : Calls Tryz.prog 4 #[.int .i64 n0, .int .i64 l] w fun e w' => e = .returned (.bool true) ∧ Below w.heap.size w w' := by
  have n1 : -100000 < n0.tmod 100000 := tmod_lo (by decide)
  have n2 : n0.tmod 100000 < 100000 := tmod_hi (by decide)
  have a1 := itoa_len1 (n0.tmod 100000)
  have a2 := itoa_len6 n1 n2
  have b1 := itoa_len1 l
  have b2 := Lib.itoa_length_le l h0 h1
  have hz : (strOf 2 15726 ++ (itb (n0.tmod 100000) ++ strOf 1 33)).size = (Lib.itoa (n0.tmod 100000)).length + 3 := by
    rw [ByteArray.size_append, ByteArray.size_append, itb_size]
    show 2 + ((Lib.itoa (n0.tmod 100000)).length + 1) = _
    omega
  have key : ∀ L M, (Lib.itoa (n0.tmod 100000)).length + 3 = L → (Lib.itoa l).length = M → Ok (n0.tmod 100000) l (strOf 2 15726 ++ (itb (n0.tmod 100000) ++ strOf 1 33)) (itb l) L M := fun L M hL hM => ⟨rfl, rfl, by rw [hz]; exact hL, by rw [itb_size]; exact hM, n1, n2, h0, h1⟩
  obtain ⟨d, hd⟩ : ∃ d, (Lib.itoa (n0.tmod 100000)).length = d := ⟨_, rfl⟩
  have k := key (d + 3) _ (by rw [hd]) rfl
  match d, hd, k with
  | 1, _, k => exact yes1 (all1 _ b1 b2).1 (all1 _ b1 b2).2 rfl k w ht
  | 2, _, k => exact ye2 (all2 _ b1 b2).1 (all2 _ b1 b2).2 rfl k w ht
  | 3, _, k => exact yes3 (all3 _ b1 b2).1 (all3 _ b1 b2).2 rfl k w ht
  | 4, _, k => exact yes4 (all4 _ b1 b2).1 (all4 _ b1 b2).2 rfl k w ht
  | 5, _, k => exact yes5 (all5 _ b1 b2).1 (all5 _ b1 b2).2 rfl k w ht
  | 6, _, k => exact ye6 (all6 _ b1 b2).1 (all6 _ b1 b2).2 rfl k w ht
  | 0, hd, _ => omega
  | d + 7, hd, _ => omega
end Go.Proofs.YtbgkinjicnnkiaaGreatDoor.hl
