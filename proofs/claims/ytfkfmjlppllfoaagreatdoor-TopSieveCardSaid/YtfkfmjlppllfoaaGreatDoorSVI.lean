/-
  Steps of the inner loop.
-/
import Derived.Test.YtfkfmjlppllfoaaGreatDoorSVS
import Derived.Test.YtfkfmjlppllfoaaGreatDoorXN3
import Derived.Test.YtfkfmjlppllfoaaGreatDoorProg
import Derived.KernelRfl
set_option linter.unusedSectionVars false
set_option linter.unusedVariables false
set_option maxRecDepth 1000000
set_option maxHeartbeats 0
namespace Go.Proofs.YtfkfmjlppllfoaaGreatDoor.sv
open Go.X Go.RowKit Go.Proofs.YtfkfmjlppllfoaaGreatDoor
section
variable {B : Kp} {w0 : World} {μ : M} {a : Act} {w : World}
theorem ibI {n : Nat} {i : Nat} {j : Nat} {c : Nat} {r : Nat} {W : Nat → BitVec 64} (h1 : n < 400) (h2 : j ≤ n) (h3 : 2 ≤ i) (h4 : c ≤ 1000) (h5 : r < 90000) (h6 : i ≤ n) (h7 : 2 ≤ j) : ∀ x_ ∈ ([(14, .oi 4, .int .i64 100000, .bool false), (0, .oi 4, .int .i64 1, .oi 9), (14, .oi 9, .int .i64 100000, .bool false), (0, .oi 9, .int .i64 1, .oi 10), (14, .oi 10, .int .i64 100000, .bool false), (0, .oi 10, .int .i64 1, .oi 11), (13, .oi 3, .oi 0, .bool false), (14, .oi 11, .int .i64 100000, .bool false), (0, .oi 11, .int .i64 1, .oi 12), (14, .oi 12, .int .i64 100000, .bool false), (0, .oi 12, .int .i64 1, .oi 13), (14, .oi 13, .int .i64 100000, .bool false), (0, .oi 13, .int .i64 1, .oi 14), (14, .oi 14, .int .i64 100000, .bool false), (0, .oi 14, .int .i64 1, .oi 15), (9, .oi 7, .int .i64 0, .bool false), (11, .oi 3, .int .i64 0, .bool false), (1, .oi 7, .int .i64 1, .oi 6), (11, .int .i64 5, .oi 6, .bool true), (10, .oi 6, .oi 6, .bool false), (11, .oi 6, .oi 6, .bool false), (9, .oi 6, .oi 6, .bool true), (11, .oi 6, .oi 8, .bool true), (14, .oi 6, .int .i64 0, .bool true), (0, .oi 7, .int .i64 1, .oi 16), (11, .oi 16, .oi 8, .bool true), (14, .oi 16, .int .i64 0, .bool true), (14, .oi 3, .oi 17, .bool false), (0, .oi 6, .int .i64 3, .oi 18), (3, .oi 3, .int .i64 8, .oi 19), (0, .oi 18, .oi 19, .oi 20), (4, .oi 3, .int .i64 8, .oi 21), (2, .oi 21, .int .i64 1, .oi 21), (2, .oi 21, .int .i64 8, .oi 22), (15, .int .u64 255, .oi 22, .oi 23), (11, .oi 20, .oi 8, .bool true), (14, .oi 20, .int .i64 0, .bool true), (8, .oi 24, .oi 23, .oi 25), (15, .int .u64 1, .oi 22, .oi 26), (5, .oi 26, .oi 23, .oi 27), (6, .oi 25, .oi 27, .oi 28), (14, .oi 15, .int .i64 100000, .bool false), (0, .oi 15, .int .i64 1, .oi 29), (14, .oi 29, .int .i64 100000, .bool false), (0, .oi 29, .int .i64 1, .oi 30), (14, .oi 30, .int .i64 100000, .bool false), (0, .oi 30, .int .i64 1, .oi 31), (0, .oi 3, .oi 1, .oi 34), (14, .oi 31, .int .i64 100000, .bool false), (0, .oi 31, .int .i64 1, .oi 36), (14, .oi 36, .int .i64 100000, .bool false), (0, .oi 36, .int .i64 1, .oi 37)] : List BRow), IbOk (ivI n i j c r W) x_ := by
  letI := Tab.empty
  exact (ibCons (ibGe (a := (((r : Nat) : Int))) (b := (100000)) rfl rfl (decide_eq_false (by omega)))
    (ibCons (ibAdd (a := (((r : Nat) : Int))) (b := (1)) (c := (((r + 1 : Nat) : Int))) rfl rfl rfl (by first | assumption | omega) (by omega) (by omega))
    (ibCons (ibGe (a := (((r + 1 : Nat) : Int))) (b := (100000)) rfl rfl (decide_eq_false (by omega)))
    (ibCons (ibAdd (a := (((r + 1 : Nat) : Int))) (b := (1)) (c := (((r + 2 : Nat) : Int))) rfl rfl rfl (by first | assumption | omega) (by omega) (by omega))
    (ibCons (ibGe (a := (((r + 2 : Nat) : Int))) (b := (100000)) rfl rfl (decide_eq_false (by omega)))
    (ibCons (ibAdd (a := (((r + 2 : Nat) : Int))) (b := (1)) (c := (((r + 3 : Nat) : Int))) rfl rfl rfl (by first | assumption | omega) (by omega) (by omega))
    (ibCons (ibGt (a := (((j : Nat) : Int))) (b := (((n : Nat) : Int))) rfl rfl (decide_eq_false (by omega)))
    (ibCons (ibGe (a := (((r + 3 : Nat) : Int))) (b := (100000)) rfl rfl (decide_eq_false (by omega)))
    (ibCons (ibAdd (a := (((r + 3 : Nat) : Int))) (b := (1)) (c := (((r + 4 : Nat) : Int))) rfl rfl rfl (by first | assumption | omega) (by omega) (by omega))
    (ibCons (ibGe (a := (((r + 4 : Nat) : Int))) (b := (100000)) rfl rfl (decide_eq_false (by omega)))
    (ibCons (ibAdd (a := (((r + 4 : Nat) : Int))) (b := (1)) (c := (((r + 5 : Nat) : Int))) rfl rfl rfl (by first | assumption | omega) (by omega) (by omega))
    (ibCons (ibGe (a := (((r + 5 : Nat) : Int))) (b := (100000)) rfl rfl (decide_eq_false (by omega)))
    (ibCons (ibAdd (a := (((r + 5 : Nat) : Int))) (b := (1)) (c := (((r + 6 : Nat) : Int))) rfl rfl rfl (by first | assumption | omega) (by omega) (by omega))
    (ibCons (ibGe (a := (((r + 6 : Nat) : Int))) (b := (100000)) rfl rfl (decide_eq_false (by omega)))
    (ibCons (ibAdd (a := (((r + 6 : Nat) : Int))) (b := (1)) (c := (((r + 7 : Nat) : Int))) rfl rfl rfl (by first | assumption | omega) (by omega) (by omega))
    (ibCons (ibEq (a := (((9 : Nat) : Int))) (b := (0)) rfl rfl (decide_eq_false (by omega)))
    (ibCons (ibLt (a := (((j : Nat) : Int))) (b := (0)) rfl rfl (decide_eq_false (by omega)))
    (ibCons (ibSub (a := (((9 : Nat) : Int))) (b := (1)) (c := (((8 : Nat) : Int))) rfl rfl rfl (by first | assumption | omega) (by omega) (by omega))
    (ibCons (ibLt (a := (5)) (b := (((8 : Nat) : Int))) rfl rfl (decide_eq_true (by omega)))
    (ibCons (ibNe (a := (((8 : Nat) : Int))) (b := (((8 : Nat) : Int))) rfl rfl (decide_eq_true rfl))
    (ibCons (ibLt (a := (((8 : Nat) : Int))) (b := (((8 : Nat) : Int))) rfl rfl (decide_eq_false (by omega)))
    (ibCons (ibEq (a := (((8 : Nat) : Int))) (b := (((8 : Nat) : Int))) rfl rfl (decide_eq_true rfl))
    (ibCons (ibLt (a := (((8 : Nat) : Int))) (b := (((11 + (n + 8) / 8 : Nat) : Int))) rfl rfl (decide_eq_true (by omega)))
    (ibCons (ibGe (a := (((8 : Nat) : Int))) (b := (0)) rfl rfl (decide_eq_true (by omega)))
    (ibCons (ibAdd (a := (((9 : Nat) : Int))) (b := (1)) (c := (((10 : Nat) : Int))) rfl rfl rfl (by first | assumption | omega) (by omega) (by omega))
    (ibCons (ibLt (a := (((10 : Nat) : Int))) (b := (((11 + (n + 8) / 8 : Nat) : Int))) rfl rfl (decide_eq_true (by omega)))
    (ibCons (ibGe (a := (((10 : Nat) : Int))) (b := (0)) rfl rfl (decide_eq_true (by omega)))
    (ibCons (ibGe (a := (((j : Nat) : Int))) (b := (((n + 1 : Nat) : Int))) rfl rfl (decide_eq_false (by omega)))
    (ibCons (ibAdd (a := (((8 : Nat) : Int))) (b := (3)) (c := (((11 : Nat) : Int))) rfl rfl rfl (by first | assumption | omega) (by omega) (by omega))
    (ibCons (ibQuo (a := (((j : Nat) : Int))) (b := (8)) (c := (((j / 8 : Nat) : Int))) rfl rfl rfl (by omega) (by rw [Int.tdiv_eq_ediv_of_nonneg (by omega)]; omega) (by omega) (by omega))
    (ibCons (ibAdd (a := (((11 : Nat) : Int))) (b := (((j / 8 : Nat) : Int))) (c := (((11 + j / 8 : Nat) : Int))) rfl rfl rfl (by first | assumption | omega) (by omega) (by omega))
    (ibCons (ibRem (a := (((j : Nat) : Int))) (b := (8)) (c := (((j % 8 : Nat) : Int))) rfl rfl rfl (by omega) (by rw [Int.tmod_eq_emod_of_nonneg (by omega)]; omega))
    (ibCons (ibMul (a := (((j % 8 : Nat) : Int))) (b := (1)) (c := (((j % 8 : Nat) : Int))) rfl rfl rfl (by first | assumption | omega) (by omega) (by omega))
    (ibCons (ibMul (a := (((j % 8 : Nat) : Int))) (b := (8)) (c := (((j % 8 * 8 : Nat) : Int))) rfl rfl rfl (by first | assumption | omega) (by omega) (by omega))
    (ibCons (ibShlW (W := BitVec.ofNat 64 255) (V := (msk 8 (j % 8 * 8))) (s := j % 8 * 8) rfl rfl rfl (by omega) rfl)
    (ibCons (ibLt (a := (((11 + j / 8 : Nat) : Int))) (b := (((11 + (n + 8) / 8 : Nat) : Int))) rfl rfl (decide_eq_true (by omega)))
    (ibCons (ibGe (a := (((11 + j / 8 : Nat) : Int))) (b := (0)) rfl rfl (decide_eq_true (by omega)))
    (ibCons (ibAndNotW (W := (W (j / 8))) (U := (msk 8 (j % 8 * 8))) (V := (W (j / 8) &&& ~~~msk 8 (j % 8 * 8))) rfl rfl rfl rfl)
    (ibCons (ibShlW (W := BitVec.ofNat 64 1) (V := (1#64 <<< (j % 8 * 8))) (s := j % 8 * 8) rfl rfl rfl (by omega) rfl)
    (ibCons (ibAndW (W := (1#64 <<< (j % 8 * 8))) (U := (msk 8 (j % 8 * 8))) (V := ((1#64 <<< (j % 8 * 8)) &&& msk 8 (j % 8 * 8))) rfl rfl rfl rfl)
    (ibCons (ibOrW (W := (W (j / 8) &&& ~~~msk 8 (j % 8 * 8))) (U := ((1#64 <<< (j % 8 * 8)) &&& msk 8 (j % 8 * 8))) (V := (setW 8 (j % 8 * 8) (W (j / 8)) 1#64)) rfl rfl rfl rfl)
    (ibCons (ibGe (a := (((r + 7 : Nat) : Int))) (b := (100000)) rfl rfl (decide_eq_false (by omega)))
    (ibCons (ibAdd (a := (((r + 7 : Nat) : Int))) (b := (1)) (c := (((r + 8 : Nat) : Int))) rfl rfl rfl (by first | assumption | omega) (by omega) (by omega))
    (ibCons (ibGe (a := (((r + 8 : Nat) : Int))) (b := (100000)) rfl rfl (decide_eq_false (by omega)))
    (ibCons (ibAdd (a := (((r + 8 : Nat) : Int))) (b := (1)) (c := (((r + 9 : Nat) : Int))) rfl rfl rfl (by first | assumption | omega) (by omega) (by omega))
    (ibCons (ibGe (a := (((r + 9 : Nat) : Int))) (b := (100000)) rfl rfl (decide_eq_false (by omega)))
    (ibCons (ibAdd (a := (((r + 9 : Nat) : Int))) (b := (1)) (c := (((r + 10 : Nat) : Int))) rfl rfl rfl (by first | assumption | omega) (by omega) (by omega))
    (ibCons (ibAdd (a := (((j : Nat) : Int))) (b := (((i : Nat) : Int))) (c := (((j + i : Nat) : Int))) rfl rfl rfl (by first | assumption | omega) (by omega) (by omega))
    (ibCons (ibGe (a := (((r + 10 : Nat) : Int))) (b := (100000)) rfl rfl (decide_eq_false (by omega)))
    (ibCons (ibAdd (a := (((r + 10 : Nat) : Int))) (b := (1)) (c := (((r + 11 : Nat) : Int))) rfl rfl rfl (by first | assumption | omega) (by omega) (by omega))
    (ibCons (ibGe (a := (((r + 11 : Nat) : Int))) (b := (100000)) rfl rfl (decide_eq_false (by omega)))
    (ibCons (ibAdd (a := (((r + 11 : Nat) : Int))) (b := (1)) (c := (((r + 12 : Nat) : Int))) rfl rfl rfl (by first | assumption | omega) (by omega) (by omega))
    ibNil))))))))))))))))))))))))))))))))))))))))))))))))))))
theorem icI {n : Nat} {i : Nat} {j : Nat} {c : Nat} {r : Nat} {W : Nat → BitVec 64} (h1 : n < 400) (h2 : j ≤ n) (h3 : 2 ≤ i) (h4 : c ≤ 1000) (h5 : r < 90000) (h6 : i ≤ n) (h7 : 2 ≤ j) : ∀ x_ ∈ ([(.i64, .oi 5, .oi 17), (.i32, .oi 3, .oi 32), (.i32, .oi 1, .oi 33), (.i64, .oi 32, .oi 3), (.i64, .oi 33, .oi 1), (.i32, .oi 34, .oi 35), (.i64, .oi 35, .oi 34)] : List (IntKind × AV × AV)), IcOk' (ivI n i j c r W) x_ := (icCons (ic64 (n := (((n + 1 : Nat) : Int))) rfl rfl (by omega) (by omega)) (icCons (ic32 (n := (((j : Nat) : Int))) rfl rfl (by omega) (by omega)) (icCons (ic32 (n := (((i : Nat) : Int))) rfl rfl (by omega) (by omega)) (icCons (ic64 (n := (((j : Nat) : Int))) rfl rfl (by omega) (by omega)) (icCons (ic64 (n := (((i : Nat) : Int))) rfl rfl (by omega) (by omega)) (icCons (ic32 (n := (((j + i : Nat) : Int))) rfl rfl (by omega) (by omega)) (icCons (ic64 (n := (((j + i : Nat) : Int))) rfl rfl (by omega) (by omega)) icNil)))))))
theorem vlI {n : Nat} {i : Nat} {j : Nat} {c : Nat} {r : Nat} {W : Nat → BitVec 64} (h1 : n < 400) (h2 : j ≤ n) (h3 : 2 ≤ i) (h4 : c ≤ 1000) (h5 : r < 90000) (h6 : i ≤ n) (h7 : 2 ≤ j) : ∀ x_ ∈ ([⟨0, 6, 1, 0, [(.int .u64 3)]⟩, ⟨0, 16, 1, 0, [(.oi 5)]⟩, ⟨0, 20, 1, 0, [.oi 24]⟩] : List VL), VlOk (ivI n i j c r W) (vvI n i j c r W) x_ :=
  (allCons (vlW1 (L := [(.int .u64 0), (.int .u64 0), (.int .u64 1), (.int .u64 0), (.int .u64 0), (.int .u64 2), (.int .u64 0), (.int .u64 0), (.int .u64 3), (.int .u64 0), (.oi 5)]) (n := 11 + (n + 8) / 8) (W := W) (k := 8) rfl rfl rfl rfl rfl rfl)
    (allCons (vlW1 (L := [(.int .u64 0), (.int .u64 0), (.int .u64 1), (.int .u64 0), (.int .u64 0), (.int .u64 2), (.int .u64 0), (.int .u64 0), (.int .u64 3), (.int .u64 0), (.oi 5)]) (n := 11 + (n + 8) / 8) (W := W) (k := 10) rfl rfl rfl rfl rfl rfl)
    (allCons (vlW2 (L := [(.int .u64 0), (.int .u64 0), (.int .u64 1), (.int .u64 0), (.int .u64 0), (.int .u64 2), (.int .u64 0), (.int .u64 0), (.int .u64 3), (.int .u64 0), (.oi 5)]) (n := 11 + (n + 8) / 8) (W := W) (k := 11 + j / 8) (q := j / 8) (y := 24) rfl rfl rfl rfl rfl rfl (by omega) rfl)
    allNil)))
theorem vsI {n : Nat} {i : Nat} {j : Nat} {c : Nat} {r : Nat} {W : Nat → BitVec 64} (h1 : n < 400) (h2 : j ≤ n) (h3 : 2 ≤ i) (h4 : c ≤ 1000) (h5 : r < 90000) (h6 : i ≤ n) (h7 : 2 ≤ j) : ∀ x_ ∈ ([⟨0, 20, 1, 0, [(.oi 28)], 1⟩] : List VS), VsOk (ivI n i j c r W) (vvI n i j c r W) (vkI n i j c r W) x_ :=
  (allCons (vsW2 (L := [(.int .u64 0), (.int .u64 0), (.int .u64 1), (.int .u64 0), (.int .u64 0), (.int .u64 2), (.int .u64 0), (.int .u64 0), (.int .u64 3), (.int .u64 0), (.oi 5)]) (n := 11 + (n + 8) / 8) (W := W) (W' := upd 8 8 W j 1#64) (k := 11 + j / 8) (q := j / 8) (x := (.oi 28)) rfl rfl rfl rfl rfl rfl rfl rfl rfl (by omega) (by show some (IntKind.u64, wI (setW 8 (j % 8 * 8) (W (j / 8)) 1#64)) = some (IntKind.u64, wI (upd 8 8 W j 1#64 (j / 8))); unfold upd; rw [if_pos rfl]) (fun _ h_ => if_neg h_))
    allNil)
theorem vzI {n : Nat} {i : Nat} {j : Nat} {c : Nat} {r : Nat} {W : Nat → BitVec 64} (h1 : n < 400) (h2 : j ≤ n) (h3 : 2 ≤ i) (h4 : c ≤ 1000) (h5 : r < 90000) (h6 : i ≤ n) (h7 : 2 ≤ j) : ∀ x_ ∈ ([] : List VZ), VzOk (ivI n i j c r W) (vvI n i j c r W) (vkI n i j c r W) x_ :=
  allNil
abbrev RI {n : Nat} {i : Nat} {j : Nat} {c : Nat} {r : Nat} {W : Nat → BitVec 64} (h1 : n < 400) (h2 : j ≤ n) (h3 : 2 ≤ i) (h4 : c ≤ 1000) (h5 : r < 90000) (h6 : i ≤ n) (h7 : 2 ≤ j) : VRows (ivI n i j c r W) (vvI n i j c r W) (vkI n i j c r W) where
  vvp := vpI n i j c r W
  ib := [(14, .oi 4, .int .i64 100000, .bool false), (0, .oi 4, .int .i64 1, .oi 9), (14, .oi 9, .int .i64 100000, .bool false), (0, .oi 9, .int .i64 1, .oi 10), (14, .oi 10, .int .i64 100000, .bool false), (0, .oi 10, .int .i64 1, .oi 11), (13, .oi 3, .oi 0, .bool false), (14, .oi 11, .int .i64 100000, .bool false), (0, .oi 11, .int .i64 1, .oi 12), (14, .oi 12, .int .i64 100000, .bool false), (0, .oi 12, .int .i64 1, .oi 13), (14, .oi 13, .int .i64 100000, .bool false), (0, .oi 13, .int .i64 1, .oi 14), (14, .oi 14, .int .i64 100000, .bool false), (0, .oi 14, .int .i64 1, .oi 15), (9, .oi 7, .int .i64 0, .bool false), (11, .oi 3, .int .i64 0, .bool false), (1, .oi 7, .int .i64 1, .oi 6), (11, .int .i64 5, .oi 6, .bool true), (10, .oi 6, .oi 6, .bool false), (11, .oi 6, .oi 6, .bool false), (9, .oi 6, .oi 6, .bool true), (11, .oi 6, .oi 8, .bool true), (14, .oi 6, .int .i64 0, .bool true), (0, .oi 7, .int .i64 1, .oi 16), (11, .oi 16, .oi 8, .bool true), (14, .oi 16, .int .i64 0, .bool true), (14, .oi 3, .oi 17, .bool false), (0, .oi 6, .int .i64 3, .oi 18), (3, .oi 3, .int .i64 8, .oi 19), (0, .oi 18, .oi 19, .oi 20), (4, .oi 3, .int .i64 8, .oi 21), (2, .oi 21, .int .i64 1, .oi 21), (2, .oi 21, .int .i64 8, .oi 22), (15, .int .u64 255, .oi 22, .oi 23), (11, .oi 20, .oi 8, .bool true), (14, .oi 20, .int .i64 0, .bool true), (8, .oi 24, .oi 23, .oi 25), (15, .int .u64 1, .oi 22, .oi 26), (5, .oi 26, .oi 23, .oi 27), (6, .oi 25, .oi 27, .oi 28), (14, .oi 15, .int .i64 100000, .bool false), (0, .oi 15, .int .i64 1, .oi 29), (14, .oi 29, .int .i64 100000, .bool false), (0, .oi 29, .int .i64 1, .oi 30), (14, .oi 30, .int .i64 100000, .bool false), (0, .oi 30, .int .i64 1, .oi 31), (0, .oi 3, .oi 1, .oi 34), (14, .oi 31, .int .i64 100000, .bool false), (0, .oi 31, .int .i64 1, .oi 36), (14, .oi 36, .int .i64 100000, .bool false), (0, .oi 36, .int .i64 1, .oi 37)]
  ibok := ibI h1 h2 h3 h4 h5 h6 h7
  ic := [(.i64, .oi 5, .oi 17), (.i32, .oi 3, .oi 32), (.i32, .oi 1, .oi 33), (.i64, .oi 32, .oi 3), (.i64, .oi 33, .oi 1), (.i32, .oi 34, .oi 35), (.i64, .oi 35, .oi 34)]
  icok := icI h1 h2 h3 h4 h5 h6 h7
  vl := [⟨0, 6, 1, 0, [(.int .u64 3)]⟩, ⟨0, 16, 1, 0, [(.oi 5)]⟩, ⟨0, 20, 1, 0, [.oi 24]⟩]
  vlok := vlI h1 h2 h3 h4 h5 h6 h7
  vs := [⟨0, 20, 1, 0, [(.oi 28)], 1⟩]
  vsok := vsI h1 h2 h3 h4 h5 h6 h7
  vz := []
  vzok := vzI h1 h2 h3 h4 h5 h6 h7
  vc := []
  vcok := allNil
noncomputable abbrev rl_goI : List (Nat × Nat) := [(20000, 20000), (20001, 20247), (20002, 20248), (20003, 20003), (20004, 20004), (20005, 20005), (20006, 20006), (20007, 20007), (20008, 20008), (20010, 20010), (20011, 20011)]
noncomputable abbrev bs_goI : BS := [(10417, 10417, kb16), (10423, 10423, kb3), (13763, 13763, kb4), (13764, 13764, kb5), (13766, 13766, (.map [((.str 9 1349587270641094438477), (.oi 4), 0)] 1)), (13767, 13767, kb17), (14065, 14065, kb8), (14379, 14379, kb10), (15654, 15654, kb11), (15659, 15659, kb12), (20000, 20000, kb13), (20001, 20247, kb21), (20002, 20248, kb22), (20003, 20003, (.vec 0)), (20004, 20004, kb20), (20005, 20005, kb19), (20006, 20006, kb18), (20007, 20007, (.cells 1 true [] (T.ofList 0 .leaf [(.ptr 20008 0)]))), (20008, 20008, (.cells 6 false [] (T.ofList 0 .leaf [(.int .i64 0), (.int .i64 0), (.ptr 14065 0), (.int .i64 0), (.int .i64 32), .nilp]))), (20010, 20010, kb14), (20011, 20011, kb15)]
noncomputable abbrev ip_goI : IP := [(.oi 8, 8), (.oi 37, 4), (.oi 0, 0), (.oi 1, 1), (.oi 34, 3), (.oi 2, 2), (.oi 7, 7), (.oi 5, 5), (.oi 6, 6)]
theorem bq_goI : hOf 20040 bs_goI = hOf 20040 bsI := hOf_congr (by kernel_rfl)
theorem goI {n : Nat} {i : Nat} {j : Nat} {c : Nat} {r : Nat} {W : Nat → BitVec 64} (h1 : n < 400) (h2 : j ≤ n) (h3 : 2 ≤ i) (h4 : c ≤ 1000) (h5 : r < 90000) (h6 : i ≤ n) (h7 : 2 ≤ j) (hb : Base B μ 20000) {Q : Exit → Act → World → Prop} {j_ : Nat} (s_ : SI n i j c r W B w0 μ a w) (hQ : ∀ a' w', SI (n) (i) (j + i) (c) (r + 12) (upd 8 8 W j 1#64) B w0 μ a' w' → Code.rounds Tryz.prog la Q j_ a' w') : Code.rounds Tryz.prog la Q (j_ + 12) a w := by
  have hip : IpOk ((RI (n := n) (i := i) (j := j) (c := c) (r := r) (W := W) h1 h2 h3 h4 h5 h6 h7).tab) (PI (n) (i) (j + i) (c) (r + 12) (upd 8 8 W j 1#64)) ip_goI := (ipCons (ipN (.i64, ((11 + (n + 8) / 8 : Nat) : Int)) rfl rfl) (ipCons (ipN (.i64, ((r + 12 : Nat) : Int)) rfl (show (IntKind.i64, (((r + 12) : Nat) : Int)) = (IntKind.i64, ((r + 12 : Nat) : Int)) from Prod.ext rfl (show ((((r + 12) : Nat) : Int) : Int) = ((r + 12 : Nat) : Int) by omega))) (ipCons (ipN (.i64, ((n : Nat) : Int)) rfl rfl) (ipCons (ipN (.i64, ((i : Nat) : Int)) rfl rfl) (ipCons (ipN (.i64, ((j + i : Nat) : Int)) rfl (show (IntKind.i64, (((j + i) : Nat) : Int)) = (IntKind.i64, ((j + i : Nat) : Int)) from Prod.ext rfl (show ((((j + i) : Nat) : Int) : Int) = ((j + i : Nat) : Int) by omega))) (ipCons (ipN (.i64, ((c : Nat) : Int)) rfl rfl) (ipCons (ipN (.i64, ((9 : Nat) : Int)) rfl rfl) (ipCons (ipN (.u64, ((n + 1 : Nat) : Int)) rfl rfl) (ipCons (ipN (.i64, ((8 : Nat) : Int)) rfl rfl) ipNil)))))))))
  have hvp : VpOk ((RI (n := n) (i := i) (j := j) (c := c) (r := r) (W := W) h1 h2 h3 h4 h5 h6 h7).tab) (PI (n) (i) (j + i) (c) (r + 12) (upd 8 8 W j 1#64)) ⟨20000, 20040, ofPairs rl_goI, ip_goI⟩ [(20003, .vec 1, 0)] := (vpCons (vpW (T := ((RI (n := n) (i := i) (j := j) (c := c) (r := r) (W := W) h1 h2 h3 h4 h5 h6 h7).tab)) (T' := (PI (n) (i) (j + i) (c) (r + 12) (upd 8 8 W j 1#64))) (i := 1) (i' := 0) hip (L := [(.int .u64 0), (.int .u64 0), (.int .u64 1), (.int .u64 0), (.int .u64 0), (.int .u64 2), (.int .u64 0), (.int .u64 0), (.int .u64 3), (.int .u64 0), (.oi 5)]) (L' := [(.int .u64 0), (.int .u64 0), (.int .u64 1), (.int .u64 0), (.int .u64 0), (.int .u64 2), (.int .u64 0), (.int .u64 0), (.int .u64 3), (.int .u64 0), (.oi 5)]) (n := 11 + (n + 8) / 8) (n' := 11 + (n + 8) / 8) (W := upd 8 8 W j 1#64) (W' := (upd 8 8 W j 1#64)) rfl rfl (Nat.le_refl _) (Nat.le_refl _) (by decide) (show 11 ≤ 11 + (n + 8) / 8 by omega) (by kernel_rfl) (fun _ _ h_ => vw_none (Nat.le_add_right _ _) h_) (fun q_ _ => congrArg ((upd 8 8 W j 1#64)) (show q_ = 0 + q_ from (Nat.zero_add q_).symm)))
    vpNil)
  exact stepsTo_sound (T := ((RI (n := n) (i := i) (j := j) (c := c) (r := r) (W := W) h1 h2 h3 h4 h5 h6 h7).tab)) (T' := (PI (n) (i) (j + i) (c) (r + 12) (upd 8 8 W j 1#64))) (K := Hand.none) (m := 5000) mixed (@HandOk.none ((RI (n := n) (i := i) (j := j) (c := c) (r := r) (W := W) h1 h2 h3 h4 h5 h6 h7).tab) Tryz.prog) (C := ⟨20000, 20040, ofPairs rl_goI, ip_goI⟩) (ex := .normal) (rl := rl_goI) (vp := [(20003, .vec 1, 0)]) (fs := fsR) (bs := bs_goI)
    hb (by decide) rfl (by kernel_rfl) hip hvp (glNone rfl rfl) (by as_aux_lemma => kernel_rfl) (St.same (VRows.same _ _) s_) (fun a' w' q => hQ a' w' (by rw [bq_goI] at q; exact q))
theorem ibJ {n : Nat} {i : Nat} {j : Nat} {c : Nat} {r : Nat} {W : Nat → BitVec 64} (h1 : n < 400) (h2 : n < j) (h3 : 2 ≤ i) (h4 : c ≤ 1000) (h5 : r < 90000) (h6 : i ≤ n) (h7 : j ≤ 1000) : ∀ x_ ∈ ([(14, .oi 4, .int .i64 100000, .bool false), (0, .oi 4, .int .i64 1, .oi 9), (14, .oi 9, .int .i64 100000, .bool false), (0, .oi 9, .int .i64 1, .oi 10), (14, .oi 10, .int .i64 100000, .bool false), (0, .oi 10, .int .i64 1, .oi 11), (13, .oi 3, .oi 0, .bool true), (14, .oi 11, .int .i64 100000, .bool false), (0, .oi 11, .int .i64 1, .oi 12), (0, .oi 1, .int .i64 1, .oi 38), (14, .oi 12, .int .i64 100000, .bool false), (0, .oi 12, .int .i64 1, .oi 13)] : List BRow), IbOk (ivI n i j c r W) x_ := by
  letI := Tab.empty
  exact (ibCons (ibGe (a := (((r : Nat) : Int))) (b := (100000)) rfl rfl (decide_eq_false (by omega)))
    (ibCons (ibAdd (a := (((r : Nat) : Int))) (b := (1)) (c := (((r + 1 : Nat) : Int))) rfl rfl rfl (by first | assumption | omega) (by omega) (by omega))
    (ibCons (ibGe (a := (((r + 1 : Nat) : Int))) (b := (100000)) rfl rfl (decide_eq_false (by omega)))
    (ibCons (ibAdd (a := (((r + 1 : Nat) : Int))) (b := (1)) (c := (((r + 2 : Nat) : Int))) rfl rfl rfl (by first | assumption | omega) (by omega) (by omega))
    (ibCons (ibGe (a := (((r + 2 : Nat) : Int))) (b := (100000)) rfl rfl (decide_eq_false (by omega)))
    (ibCons (ibAdd (a := (((r + 2 : Nat) : Int))) (b := (1)) (c := (((r + 3 : Nat) : Int))) rfl rfl rfl (by first | assumption | omega) (by omega) (by omega))
    (ibCons (ibGt (a := (((j : Nat) : Int))) (b := (((n : Nat) : Int))) rfl rfl (decide_eq_true (by omega)))
    (ibCons (ibGe (a := (((r + 3 : Nat) : Int))) (b := (100000)) rfl rfl (decide_eq_false (by omega)))
    (ibCons (ibAdd (a := (((r + 3 : Nat) : Int))) (b := (1)) (c := (((r + 4 : Nat) : Int))) rfl rfl rfl (by first | assumption | omega) (by omega) (by omega))
    (ibCons (ibAdd (a := (((i : Nat) : Int))) (b := (1)) (c := (((i + 1 : Nat) : Int))) rfl rfl rfl (by first | assumption | omega) (by omega) (by omega))
    (ibCons (ibGe (a := (((r + 4 : Nat) : Int))) (b := (100000)) rfl rfl (decide_eq_false (by omega)))
    (ibCons (ibAdd (a := (((r + 4 : Nat) : Int))) (b := (1)) (c := (((r + 5 : Nat) : Int))) rfl rfl rfl (by first | assumption | omega) (by omega) (by omega))
    ibNil))))))))))))
theorem icJ {n : Nat} {i : Nat} {j : Nat} {c : Nat} {r : Nat} {W : Nat → BitVec 64} (h1 : n < 400) (h2 : n < j) (h3 : 2 ≤ i) (h4 : c ≤ 1000) (h5 : r < 90000) (h6 : i ≤ n) (h7 : j ≤ 1000) : ∀ x_ ∈ ([(.i32, .oi 38, .oi 39), (.i64, .oi 39, .oi 38)] : List (IntKind × AV × AV)), IcOk' (ivI n i j c r W) x_ := (icCons (ic32 (n := (((i + 1 : Nat) : Int))) rfl rfl (by omega) (by omega)) (icCons (ic64 (n := (((i + 1 : Nat) : Int))) rfl rfl (by omega) (by omega)) icNil))
theorem vlJ {n : Nat} {i : Nat} {j : Nat} {c : Nat} {r : Nat} {W : Nat → BitVec 64} (h1 : n < 400) (h2 : n < j) (h3 : 2 ≤ i) (h4 : c ≤ 1000) (h5 : r < 90000) (h6 : i ≤ n) (h7 : j ≤ 1000) : ∀ x_ ∈ ([] : List VL), VlOk (ivI n i j c r W) (vvI n i j c r W) x_ :=
  allNil
theorem vsJ {n : Nat} {i : Nat} {j : Nat} {c : Nat} {r : Nat} {W : Nat → BitVec 64} (h1 : n < 400) (h2 : n < j) (h3 : 2 ≤ i) (h4 : c ≤ 1000) (h5 : r < 90000) (h6 : i ≤ n) (h7 : j ≤ 1000) : ∀ x_ ∈ ([] : List VS), VsOk (ivI n i j c r W) (vvI n i j c r W) (vkI n i j c r W) x_ :=
  allNil
theorem vzJ {n : Nat} {i : Nat} {j : Nat} {c : Nat} {r : Nat} {W : Nat → BitVec 64} (h1 : n < 400) (h2 : n < j) (h3 : 2 ≤ i) (h4 : c ≤ 1000) (h5 : r < 90000) (h6 : i ≤ n) (h7 : j ≤ 1000) : ∀ x_ ∈ ([] : List VZ), VzOk (ivI n i j c r W) (vvI n i j c r W) (vkI n i j c r W) x_ :=
  allNil
abbrev RJ {n : Nat} {i : Nat} {j : Nat} {c : Nat} {r : Nat} {W : Nat → BitVec 64} (h1 : n < 400) (h2 : n < j) (h3 : 2 ≤ i) (h4 : c ≤ 1000) (h5 : r < 90000) (h6 : i ≤ n) (h7 : j ≤ 1000) : VRows (ivI n i j c r W) (vvI n i j c r W) (vkI n i j c r W) where
  vvp := vpI n i j c r W
  ib := [(14, .oi 4, .int .i64 100000, .bool false), (0, .oi 4, .int .i64 1, .oi 9), (14, .oi 9, .int .i64 100000, .bool false), (0, .oi 9, .int .i64 1, .oi 10), (14, .oi 10, .int .i64 100000, .bool false), (0, .oi 10, .int .i64 1, .oi 11), (13, .oi 3, .oi 0, .bool true), (14, .oi 11, .int .i64 100000, .bool false), (0, .oi 11, .int .i64 1, .oi 12), (0, .oi 1, .int .i64 1, .oi 38), (14, .oi 12, .int .i64 100000, .bool false), (0, .oi 12, .int .i64 1, .oi 13)]
  ibok := ibJ h1 h2 h3 h4 h5 h6 h7
  ic := [(.i32, .oi 38, .oi 39), (.i64, .oi 39, .oi 38)]
  icok := icJ h1 h2 h3 h4 h5 h6 h7
  vl := []
  vlok := vlJ h1 h2 h3 h4 h5 h6 h7
  vs := []
  vsok := vsJ h1 h2 h3 h4 h5 h6 h7
  vz := []
  vzok := vzJ h1 h2 h3 h4 h5 h6 h7
  vc := []
  vcok := allNil
noncomputable abbrev rl_goJ : List (Nat × Nat) := [(20000, 20000), (20001, 20087), (20002, 20088), (20003, 20003), (20004, 20004), (20005, 20005), (20006, 20006), (20007, 20007), (20008, 20008), (20010, 20010), (20011, 20011)]
noncomputable abbrev bs_goJ : BS := [(10417, 10417, kb16), (10423, 10423, kb3), (13763, 13763, kb4), (13764, 13764, kb5), (13766, 13766, (.map [((.str 9 1349587270641094438477), (.oi 4), 0)] 1)), (13767, 13767, kb17), (14065, 14065, kb8), (14379, 14379, kb10), (15654, 15654, kb11), (15659, 15659, kb12), (20000, 20000, kb13), (20001, 20087, kb21), (20002, 20088, kb22), (20003, 20003, (.vec 0)), (20004, 20004, kb20), (20005, 20005, kb19), (20006, 20006, kb18), (20007, 20007, (.cells 1 true [] (T.ofList 0 .leaf [(.ptr 20008 0)]))), (20008, 20008, (.cells 6 false [] (T.ofList 0 .leaf [(.int .i64 0), (.int .i64 0), (.ptr 14065 0), (.int .i64 0), (.int .i64 15), .nilp]))), (20010, 20010, kb14), (20011, 20011, kb15)]
noncomputable abbrev ip_goJ : IP := [(.oi 8, 8), (.oi 13, 4), (.oi 0, 0), (.oi 38, 1), (.oi 3, 3), (.oi 2, 2), (.oi 7, 7), (.oi 5, 5), (.oi 6, 6)]
theorem bq_goJ : hOf 20040 bs_goJ = hOf 20040 bsT := hOf_congr (by kernel_rfl)
theorem goJ {n : Nat} {i : Nat} {j : Nat} {c : Nat} {r : Nat} {W : Nat → BitVec 64} (h1 : n < 400) (h2 : n < j) (h3 : 2 ≤ i) (h4 : c ≤ 1000) (h5 : r < 90000) (h6 : i ≤ n) (h7 : j ≤ 1000) (hb : Base B μ 20000) {Q : Exit → Act → World → Prop} {j_ : Nat} (s_ : SI n i j c r W B w0 μ a w) (hQ : ∀ a' w', ST (n) (i + 1) (j) (c) (r + 5) (W) B w0 μ a' w' → Code.rounds Tryz.prog la Q j_ a' w') : Code.rounds Tryz.prog la Q (j_ + 5) a w := by
  have hip : IpOk ((RJ (n := n) (i := i) (j := j) (c := c) (r := r) (W := W) h1 h2 h3 h4 h5 h6 h7).tab) (PT (n) (i + 1) (j) (c) (r + 5) (W)) ip_goJ := (ipCons (ipN (.i64, ((11 + (n + 8) / 8 : Nat) : Int)) rfl rfl) (ipCons (ipN (.i64, ((r + 5 : Nat) : Int)) rfl (show (IntKind.i64, (((r + 5) : Nat) : Int)) = (IntKind.i64, ((r + 5 : Nat) : Int)) from Prod.ext rfl (show ((((r + 5) : Nat) : Int) : Int) = ((r + 5 : Nat) : Int) by omega))) (ipCons (ipN (.i64, ((n : Nat) : Int)) rfl rfl) (ipCons (ipN (.i64, ((i + 1 : Nat) : Int)) rfl (show (IntKind.i64, (((i + 1) : Nat) : Int)) = (IntKind.i64, ((i + 1 : Nat) : Int)) from Prod.ext rfl (show ((((i + 1) : Nat) : Int) : Int) = ((i + 1 : Nat) : Int) by omega))) (ipCons (ipN (.i64, ((j : Nat) : Int)) rfl rfl) (ipCons (ipN (.i64, ((c : Nat) : Int)) rfl rfl) (ipCons (ipN (.i64, ((9 : Nat) : Int)) rfl rfl) (ipCons (ipN (.u64, ((n + 1 : Nat) : Int)) rfl rfl) (ipCons (ipN (.i64, ((8 : Nat) : Int)) rfl rfl) ipNil)))))))))
  have hvp : VpOk ((RJ (n := n) (i := i) (j := j) (c := c) (r := r) (W := W) h1 h2 h3 h4 h5 h6 h7).tab) (PT (n) (i + 1) (j) (c) (r + 5) (W)) ⟨20000, 20040, ofPairs rl_goJ, ip_goJ⟩ [(20003, .vec 0, 0)] := (vpCons (vpW (T := ((RJ (n := n) (i := i) (j := j) (c := c) (r := r) (W := W) h1 h2 h3 h4 h5 h6 h7).tab)) (T' := (PT (n) (i + 1) (j) (c) (r + 5) (W))) (i := 0) (i' := 0) hip (L := [(.int .u64 0), (.int .u64 0), (.int .u64 1), (.int .u64 0), (.int .u64 0), (.int .u64 2), (.int .u64 0), (.int .u64 0), (.int .u64 3), (.int .u64 0), (.oi 5)]) (L' := [(.int .u64 0), (.int .u64 0), (.int .u64 1), (.int .u64 0), (.int .u64 0), (.int .u64 2), (.int .u64 0), (.int .u64 0), (.int .u64 3), (.int .u64 0), (.oi 5)]) (n := 11 + (n + 8) / 8) (n' := 11 + (n + 8) / 8) (W := W) (W' := W) rfl rfl (Nat.le_refl _) (Nat.le_refl _) (by decide) (show 11 ≤ 11 + (n + 8) / 8 by omega) (by kernel_rfl) (fun _ _ h_ => vw_none (Nat.le_add_right _ _) h_) (fun q_ _ => congrArg (W) (show q_ = 0 + q_ from (Nat.zero_add q_).symm)))
    vpNil)
  exact stepsTo_sound (T := ((RJ (n := n) (i := i) (j := j) (c := c) (r := r) (W := W) h1 h2 h3 h4 h5 h6 h7).tab)) (T' := (PT (n) (i + 1) (j) (c) (r + 5) (W))) (K := Hand.none) (m := 5000) mixed (@HandOk.none ((RJ (n := n) (i := i) (j := j) (c := c) (r := r) (W := W) h1 h2 h3 h4 h5 h6 h7).tab) Tryz.prog) (C := ⟨20000, 20040, ofPairs rl_goJ, ip_goJ⟩) (ex := .normal) (rl := rl_goJ) (vp := [(20003, .vec 0, 0)]) (fs := fsR) (bs := bs_goJ)
    hb (by decide) rfl (by kernel_rfl) hip hvp (glNone rfl rfl) (by as_aux_lemma => kernel_rfl) (St.same (VRows.same _ _) s_) (fun a' w' q => hQ a' w' (by rw [bq_goJ] at q; exact q))
end
end Go.Proofs.YtfkfmjlppllfoaaGreatDoor.sv
