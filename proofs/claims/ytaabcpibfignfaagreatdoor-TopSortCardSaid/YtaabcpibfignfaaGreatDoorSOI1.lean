/-
  Steps of the machine within the law TopSort.
-/
import Derived.Test.YtaabcpibfignfaaGreatDoorSONN
import Derived.Test.YtaabcpibfignfaaGreatDoorSOS
import Derived.Test.YtaabcpibfignfaaGreatDoorXN3
import Derived.Test.YtaabcpibfignfaaGreatDoorProg
import Derived.KernelRfl
set_option linter.unusedSectionVars false
set_option linter.unusedVariables false
set_option maxRecDepth 1000000
set_option maxHeartbeats 0
namespace Go.Proofs.YtaabcpibfignfaaGreatDoor.so
open Go.X Go.RowKit Go.Proofs.YtaabcpibfignfaaGreatDoor
section
variable {B : Kp} {w0 : World} {μ : M} {a : Act} {w : World}
theorem ibI1 {n : Nat} {s : Nat} {i : Nat} {j : Nat} {r : Nat} {W : Nat → BitVec 64} (h1 : n < 25) (h2 : s < 1009) (h3 : i < n) (h4 : r < 90000) (h5 : j < i) (h6 : 0 ≤ rd W (j)) (h7 : rd W (j) < 1009) (h8 : 0 ≤ rd W (j + 1)) (h9 : rd W (j + 1) < 1009) (h10 : rd W (j) ≤ rd W (j + 1)) : ∀ x_ ∈ ([(14, .oi 4, .int .i64 100000, .bool false), (0, .oi 4, .int .i64 1, .oi 9), (14, .oi 9, .int .i64 100000, .bool false), (0, .oi 9, .int .i64 1, .oi 10), (14, .oi 10, .int .i64 100000, .bool false), (0, .oi 10, .int .i64 1, .oi 11), (14, .oi 3, .oi 2, .bool false), (14, .oi 11, .int .i64 100000, .bool false), (0, .oi 11, .int .i64 1, .oi 12), (14, .oi 12, .int .i64 100000, .bool false), (0, .oi 12, .int .i64 1, .oi 13), (14, .oi 13, .int .i64 100000, .bool false), (0, .oi 13, .int .i64 1, .oi 14), (9, .oi 7, .int .i64 0, .bool false), (11, .oi 3, .int .i64 0, .bool false), (1, .oi 7, .int .i64 1, .oi 6), (11, .int .i64 5, .oi 6, .bool true), (10, .oi 6, .oi 6, .bool false), (11, .oi 6, .oi 6, .bool false), (9, .oi 6, .oi 6, .bool true), (11, .oi 6, .oi 8, .bool true), (14, .oi 6, .int .i64 0, .bool true), (0, .oi 7, .int .i64 1, .oi 15), (11, .oi 15, .oi 8, .bool true), (14, .oi 15, .int .i64 0, .bool true), (14, .oi 3, .oi 0, .bool false), (0, .oi 6, .int .i64 3, .oi 16), (3, .oi 3, .int .i64 2, .oi 17), (0, .oi 16, .oi 17, .oi 18), (4, .oi 3, .int .i64 2, .oi 19), (2, .oi 19, .int .i64 4, .oi 20), (2, .oi 20, .int .i64 8, .oi 21), (11, .oi 18, .oi 8, .bool true), (14, .oi 18, .int .i64 0, .bool true), (16, .oi 22, .oi 21, .oi 23), (14, .oi 14, .int .i64 100000, .bool false), (0, .oi 14, .int .i64 1, .oi 27), (14, .oi 27, .int .i64 100000, .bool false), (0, .oi 27, .int .i64 1, .oi 28), (14, .oi 28, .int .i64 100000, .bool false), (0, .oi 28, .int .i64 1, .oi 29), (14, .oi 29, .int .i64 100000, .bool false), (0, .oi 29, .int .i64 1, .oi 30), (0, .oi 3, .int .i64 1, .oi 32), (14, .oi 30, .int .i64 100000, .bool false), (0, .oi 30, .int .i64 1, .oi 34), (11, .oi 32, .int .i64 0, .bool false), (14, .oi 32, .oi 0, .bool false), (3, .oi 32, .int .i64 2, .oi 35), (0, .oi 16, .oi 35, .oi 36), (4, .oi 32, .int .i64 2, .oi 37), (2, .oi 37, .int .i64 4, .oi 38), (2, .oi 38, .int .i64 8, .oi 39), (11, .oi 36, .oi 8, .bool true), (14, .oi 36, .int .i64 0, .bool true), (16, .oi 40, .oi 39, .oi 41), (14, .oi 34, .int .i64 100000, .bool false), (0, .oi 34, .int .i64 1, .oi 45), (12, .oi 26, .oi 44, .bool true), (14, .oi 45, .int .i64 100000, .bool false), (0, .oi 45, .int .i64 1, .oi 46), (14, .oi 46, .int .i64 100000, .bool false), (0, .oi 46, .int .i64 1, .oi 47)] : List BRow), IbOk (ivI n s i j r W) x_ := by
  letI := Tab.empty
  exact (ibCons (ibGe (a := (((r : Nat) : Int))) (b := (100000)) rfl rfl (decide_eq_false (by omega)))
    (ibCons (ibAdd (a := (((r : Nat) : Int))) (b := (1)) (c := (((r + 1 : Nat) : Int))) rfl rfl rfl (by first | assumption | omega) (by omega) (by omega))
    (ibCons (ibGe (a := (((r + 1 : Nat) : Int))) (b := (100000)) rfl rfl (decide_eq_false (by omega)))
    (ibCons (ibAdd (a := (((r + 1 : Nat) : Int))) (b := (1)) (c := (((r + 2 : Nat) : Int))) rfl rfl rfl (by first | assumption | omega) (by omega) (by omega))
    (ibCons (ibGe (a := (((r + 2 : Nat) : Int))) (b := (100000)) rfl rfl (decide_eq_false (by omega)))
    (ibCons (ibAdd (a := (((r + 2 : Nat) : Int))) (b := (1)) (c := (((r + 3 : Nat) : Int))) rfl rfl rfl (by first | assumption | omega) (by omega) (by omega))
    (ibCons (ibGe (a := (((j : Nat) : Int))) (b := (((i : Nat) : Int))) rfl rfl (decide_eq_false (by omega)))
    (ibCons (ibGe (a := (((r + 3 : Nat) : Int))) (b := (100000)) rfl rfl (decide_eq_false (by omega)))
    (ibCons (ibAdd (a := (((r + 3 : Nat) : Int))) (b := (1)) (c := (((r + 4 : Nat) : Int))) rfl rfl rfl (by first | assumption | omega) (by omega) (by omega))
    (ibCons (ibGe (a := (((r + 4 : Nat) : Int))) (b := (100000)) rfl rfl (decide_eq_false (by omega)))
    (ibCons (ibAdd (a := (((r + 4 : Nat) : Int))) (b := (1)) (c := (((r + 5 : Nat) : Int))) rfl rfl rfl (by first | assumption | omega) (by omega) (by omega))
    (ibCons (ibGe (a := (((r + 5 : Nat) : Int))) (b := (100000)) rfl rfl (decide_eq_false (by omega)))
    (ibCons (ibAdd (a := (((r + 5 : Nat) : Int))) (b := (1)) (c := (((r + 6 : Nat) : Int))) rfl rfl rfl (by first | assumption | omega) (by omega) (by omega))
    (ibCons (ibEq (a := (((9 : Nat) : Int))) (b := (0)) rfl rfl (decide_eq_false (by omega)))
    (ibCons (ibLt (a := (((j : Nat) : Int))) (b := (0)) rfl rfl (decide_eq_false (by omega)))
    (ibCons (ibSub (a := (((9 : Nat) : Int))) (b := (1)) (c := (((8 : Nat) : Int))) rfl rfl rfl (by first | assumption | omega) (by omega) (by omega))
    (ibCons (ibLt (a := (5)) (b := (((8 : Nat) : Int))) rfl rfl (decide_eq_true (by omega)))
    (ibCons (ibNe (a := (((8 : Nat) : Int))) (b := (((8 : Nat) : Int))) rfl rfl (decide_eq_true rfl))
    (ibCons (ibLt (a := (((8 : Nat) : Int))) (b := (((8 : Nat) : Int))) rfl rfl (decide_eq_false (by omega)))
    (ibCons (ibEq (a := (((8 : Nat) : Int))) (b := (((8 : Nat) : Int))) rfl rfl (decide_eq_true rfl))
    (ibCons (ibLt (a := (((8 : Nat) : Int))) (b := (((11 + (n * 4 + 7) / 8 : Nat) : Int))) rfl rfl (decide_eq_true (by omega)))
    (ibCons (ibGe (a := (((8 : Nat) : Int))) (b := (0)) rfl rfl (decide_eq_true (by omega)))
    (ibCons (ibAdd (a := (((9 : Nat) : Int))) (b := (1)) (c := (((10 : Nat) : Int))) rfl rfl rfl (by first | assumption | omega) (by omega) (by omega))
    (ibCons (ibLt (a := (((10 : Nat) : Int))) (b := (((11 + (n * 4 + 7) / 8 : Nat) : Int))) rfl rfl (decide_eq_true (by omega)))
    (ibCons (ibGe (a := (((10 : Nat) : Int))) (b := (0)) rfl rfl (decide_eq_true (by omega)))
    (ibCons (ibGe (a := (((j : Nat) : Int))) (b := (((n : Nat) : Int))) rfl rfl (decide_eq_false (by omega)))
    (ibCons (ibAdd (a := (((8 : Nat) : Int))) (b := (3)) (c := (((11 : Nat) : Int))) rfl rfl rfl (by first | assumption | omega) (by omega) (by omega))
    (ibCons (ibQuo (a := (((j : Nat) : Int))) (b := (2)) (c := (((j / 2 : Nat) : Int))) rfl rfl rfl (by omega) (by rw [Int.tdiv_eq_ediv_of_nonneg (by omega)]; omega) (by omega) (by omega))
    (ibCons (ibAdd (a := (((11 : Nat) : Int))) (b := (((j / 2 : Nat) : Int))) (c := (((11 + j / 2 : Nat) : Int))) rfl rfl rfl (by first | assumption | omega) (by omega) (by omega))
    (ibCons (ibRem (a := (((j : Nat) : Int))) (b := (2)) (c := (((j % 2 : Nat) : Int))) rfl rfl rfl (by omega) (by rw [Int.tmod_eq_emod_of_nonneg (by omega)]; omega))
    (ibCons (ibMul (a := (((j % 2 : Nat) : Int))) (b := (4)) (c := (((j % 2 * 4 : Nat) : Int))) rfl rfl rfl (by omega) (by omega) (by omega))
    (ibCons (ibMul (a := (((j % 2 * 4 : Nat) : Int))) (b := (8)) (c := (((j % 2 * 32 : Nat) : Int))) rfl rfl rfl (by omega) (by omega) (by omega))
    (ibCons (ibLt (a := (((11 + j / 2 : Nat) : Int))) (b := (((11 + (n * 4 + 7) / 8 : Nat) : Int))) rfl rfl (decide_eq_true (by omega)))
    (ibCons (ibGe (a := (((11 + j / 2 : Nat) : Int))) (b := (0)) rfl rfl (decide_eq_true (by omega)))
    (ibCons (ibShrW (W := (W (j / 2))) (V := (W (j / 2) >>> (j % 2 * 32))) (s := j % 2 * 32) rfl rfl rfl (by omega) rfl)
    (ibCons (ibGe (a := (((r + 6 : Nat) : Int))) (b := (100000)) rfl rfl (decide_eq_false (by omega)))
    (ibCons (ibAdd (a := (((r + 6 : Nat) : Int))) (b := (1)) (c := (((r + 7 : Nat) : Int))) rfl rfl rfl (by first | assumption | omega) (by omega) (by omega))
    (ibCons (ibGe (a := (((r + 7 : Nat) : Int))) (b := (100000)) rfl rfl (decide_eq_false (by omega)))
    (ibCons (ibAdd (a := (((r + 7 : Nat) : Int))) (b := (1)) (c := (((r + 8 : Nat) : Int))) rfl rfl rfl (by first | assumption | omega) (by omega) (by omega))
    (ibCons (ibGe (a := (((r + 8 : Nat) : Int))) (b := (100000)) rfl rfl (decide_eq_false (by omega)))
    (ibCons (ibAdd (a := (((r + 8 : Nat) : Int))) (b := (1)) (c := (((r + 9 : Nat) : Int))) rfl rfl rfl (by first | assumption | omega) (by omega) (by omega))
    (ibCons (ibGe (a := (((r + 9 : Nat) : Int))) (b := (100000)) rfl rfl (decide_eq_false (by omega)))
    (ibCons (ibAdd (a := (((r + 9 : Nat) : Int))) (b := (1)) (c := (((r + 10 : Nat) : Int))) rfl rfl rfl (by first | assumption | omega) (by omega) (by omega))
    (ibCons (ibAdd (a := (((j : Nat) : Int))) (b := (1)) (c := (((j + 1 : Nat) : Int))) rfl rfl rfl (by first | assumption | omega) (by omega) (by omega))
    (ibCons (ibGe (a := (((r + 10 : Nat) : Int))) (b := (100000)) rfl rfl (decide_eq_false (by omega)))
    (ibCons (ibAdd (a := (((r + 10 : Nat) : Int))) (b := (1)) (c := (((r + 11 : Nat) : Int))) rfl rfl rfl (by first | assumption | omega) (by omega) (by omega))
    (ibCons (ibLt (a := (((j + 1 : Nat) : Int))) (b := (0)) rfl rfl (decide_eq_false (by omega)))
    (ibCons (ibGe (a := (((j + 1 : Nat) : Int))) (b := (((n : Nat) : Int))) rfl rfl (decide_eq_false (by omega)))
    (ibCons (ibQuo (a := (((j + 1 : Nat) : Int))) (b := (2)) (c := ((((j + 1) / 2 : Nat) : Int))) rfl rfl rfl (by omega) (by rw [Int.tdiv_eq_ediv_of_nonneg (by omega)]; omega) (by omega) (by omega))
    (ibCons (ibAdd (a := (((11 : Nat) : Int))) (b := ((((j + 1) / 2 : Nat) : Int))) (c := (((11 + (j + 1) / 2 : Nat) : Int))) rfl rfl rfl (by first | assumption | omega) (by omega) (by omega))
    (ibCons (ibRem (a := (((j + 1 : Nat) : Int))) (b := (2)) (c := ((((j + 1) % 2 : Nat) : Int))) rfl rfl rfl (by omega) (by rw [Int.tmod_eq_emod_of_nonneg (by omega)]; omega))
    (ibCons (ibMul (a := ((((j + 1) % 2 : Nat) : Int))) (b := (4)) (c := ((((j + 1) % 2 * 4 : Nat) : Int))) rfl rfl rfl (by omega) (by omega) (by omega))
    (ibCons (ibMul (a := ((((j + 1) % 2 * 4 : Nat) : Int))) (b := (8)) (c := ((((j + 1) % 2 * 32 : Nat) : Int))) rfl rfl rfl (by omega) (by omega) (by omega))
    (ibCons (ibLt (a := (((11 + (j + 1) / 2 : Nat) : Int))) (b := (((11 + (n * 4 + 7) / 8 : Nat) : Int))) rfl rfl (decide_eq_true (by omega)))
    (ibCons (ibGe (a := (((11 + (j + 1) / 2 : Nat) : Int))) (b := (0)) rfl rfl (decide_eq_true (by omega)))
    (ibCons (ibShrW (W := (W ((j + 1) / 2))) (V := (W ((j + 1) / 2) >>> ((j + 1) % 2 * 32))) (s := (j + 1) % 2 * 32) rfl rfl rfl (by omega) rfl)
    (ibCons (ibGe (a := (((r + 11 : Nat) : Int))) (b := (100000)) rfl rfl (decide_eq_false (by omega)))
    (ibCons (ibAdd (a := (((r + 11 : Nat) : Int))) (b := (1)) (c := (((r + 12 : Nat) : Int))) rfl rfl rfl (by first | assumption | omega) (by omega) (by omega))
    (ibCons (ibLe (a := (rd W (j))) (b := (rd W ((j + 1)))) rfl rfl (decide_eq_true (by omega)))
    (ibCons (ibGe (a := (((r + 12 : Nat) : Int))) (b := (100000)) rfl rfl (decide_eq_false (by omega)))
    (ibCons (ibAdd (a := (((r + 12 : Nat) : Int))) (b := (1)) (c := (((r + 13 : Nat) : Int))) rfl rfl rfl (by first | assumption | omega) (by omega) (by omega))
    (ibCons (ibGe (a := (((r + 13 : Nat) : Int))) (b := (100000)) rfl rfl (decide_eq_false (by omega)))
    (ibCons (ibAdd (a := (((r + 13 : Nat) : Int))) (b := (1)) (c := (((r + 14 : Nat) : Int))) rfl rfl rfl (by first | assumption | omega) (by omega) (by omega))
    ibNil)))))))))))))))))))))))))))))))))))))))))))))))))))))))))))))))
theorem icI1 {n : Nat} {s : Nat} {i : Nat} {j : Nat} {r : Nat} {W : Nat → BitVec 64} (h1 : n < 25) (h2 : s < 1009) (h3 : i < n) (h4 : r < 90000) (h5 : j < i) (h6 : 0 ≤ rd W (j)) (h7 : rd W (j) < 1009) (h8 : 0 ≤ rd W (j + 1)) (h9 : rd W (j + 1) < 1009) (h10 : rd W (j) ≤ rd W (j + 1)) : ∀ x_ ∈ ([(.i64, .oi 5, .oi 0), (.i64, .oi 23, .oi 24), (.i32, .oi 24, .oi 25), (.i64, .oi 25, .oi 26), (.i32, .oi 3, .oi 31), (.i64, .oi 31, .oi 3), (.i32, .oi 32, .oi 33), (.i64, .oi 33, .oi 32), (.i64, .oi 41, .oi 42), (.i32, .oi 42, .oi 43), (.i64, .oi 43, .oi 44)] : List (IntKind × AV × AV)), IcOk' (ivI n s i j r W) x_ := (icCons (ic64 (n := (((n : Nat) : Int))) rfl rfl (by omega) (by omega)) (icCons (icOf (k := .i64) (n := (wI (W (j / 2) >>> (j % 2 * 32)))) (c := (IntKind.i64.wrap (wI (W (j / 2) >>> (j % 2 * 32))))) rfl rfl (by first | assumption | rfl | exact wrap64 (by omega) (by omega) | exact wrapU64 (by omega) (by omega))) (icCons (icOf (k := .i32) (n := (IntKind.i64.wrap (wI (W (j / 2) >>> (j % 2 * 32))))) (c := (rd W (j))) rfl rfl (rd_conv _)) (icCons (ic64 (n := (rd W (j))) rfl rfl (by omega) (by omega)) (icCons (ic32 (n := (((j : Nat) : Int))) rfl rfl (by omega) (by omega)) (icCons (ic64 (n := (((j : Nat) : Int))) rfl rfl (by omega) (by omega)) (icCons (ic32 (n := (((j + 1 : Nat) : Int))) rfl rfl (by omega) (by omega)) (icCons (ic64 (n := (((j + 1 : Nat) : Int))) rfl rfl (by omega) (by omega)) (icCons (icOf (k := .i64) (n := (wI (W ((j + 1) / 2) >>> ((j + 1) % 2 * 32)))) (c := (IntKind.i64.wrap (wI (W ((j + 1) / 2) >>> ((j + 1) % 2 * 32))))) rfl rfl (by first | assumption | rfl | exact wrap64 (by omega) (by omega) | exact wrapU64 (by omega) (by omega))) (icCons (icOf (k := .i32) (n := (IntKind.i64.wrap (wI (W ((j + 1) / 2) >>> ((j + 1) % 2 * 32))))) (c := (rd W ((j + 1)))) rfl rfl (rd_conv _)) (icCons (ic64 (n := (rd W ((j + 1)))) rfl rfl (by omega) (by omega)) icNil)))))))))))
theorem vlI1 {n : Nat} {s : Nat} {i : Nat} {j : Nat} {r : Nat} {W : Nat → BitVec 64} (h1 : n < 25) (h2 : s < 1009) (h3 : i < n) (h4 : r < 90000) (h5 : j < i) (h6 : 0 ≤ rd W (j)) (h7 : rd W (j) < 1009) (h8 : 0 ≤ rd W (j + 1)) (h9 : rd W (j + 1) < 1009) (h10 : rd W (j) ≤ rd W (j + 1)) : ∀ x_ ∈ ([⟨0, 6, 1, 0, [(.int .u64 3)]⟩, ⟨0, 15, 1, 0, [(oN 5)]⟩, ⟨0, 18, 1, 0, [.oi 22]⟩, ⟨0, 36, 1, 0, [.oi 40]⟩] : List VL), VlOk (ivI n s i j r W) (vvI n s i j r W) x_ :=
  (allCons (vlW1 (L := [(.int .u64 0), (.int .u64 0), (.int .u64 1), (.int .u64 0), (.int .u64 0), (.int .u64 2), (.int .u64 0), (.int .u64 0), (.int .u64 3), (.int .u64 0), (oN 5)]) (n := 11 + (n * 4 + 7) / 8) (W := W) (k := 8) rfl rfl rfl rfl rfl rfl)
    (allCons (vlW1 (L := [(.int .u64 0), (.int .u64 0), (.int .u64 1), (.int .u64 0), (.int .u64 0), (.int .u64 2), (.int .u64 0), (.int .u64 0), (.int .u64 3), (.int .u64 0), (oN 5)]) (n := 11 + (n * 4 + 7) / 8) (W := W) (k := 10) rfl rfl rfl rfl rfl rfl)
    (allCons (vlW2 (L := [(.int .u64 0), (.int .u64 0), (.int .u64 1), (.int .u64 0), (.int .u64 0), (.int .u64 2), (.int .u64 0), (.int .u64 0), (.int .u64 3), (.int .u64 0), (oN 5)]) (n := 11 + (n * 4 + 7) / 8) (W := W) (k := 11 + j / 2) (q := j / 2) (y := 22) rfl rfl rfl rfl rfl rfl (by omega) rfl)
    (allCons (vlW2 (L := [(.int .u64 0), (.int .u64 0), (.int .u64 1), (.int .u64 0), (.int .u64 0), (.int .u64 2), (.int .u64 0), (.int .u64 0), (.int .u64 3), (.int .u64 0), (oN 5)]) (n := 11 + (n * 4 + 7) / 8) (W := W) (k := 11 + (j + 1) / 2) (q := (j + 1) / 2) (y := 40) rfl rfl rfl rfl rfl rfl (by omega) rfl)
    allNil))))
theorem vsI1 {n : Nat} {s : Nat} {i : Nat} {j : Nat} {r : Nat} {W : Nat → BitVec 64} (h1 : n < 25) (h2 : s < 1009) (h3 : i < n) (h4 : r < 90000) (h5 : j < i) (h6 : 0 ≤ rd W (j)) (h7 : rd W (j) < 1009) (h8 : 0 ≤ rd W (j + 1)) (h9 : rd W (j + 1) < 1009) (h10 : rd W (j) ≤ rd W (j + 1)) : ∀ x_ ∈ ([] : List VS), VsOk (ivI n s i j r W) (vvI n s i j r W) (vkI n s i j r W) x_ :=
  allNil
theorem vzI1 {n : Nat} {s : Nat} {i : Nat} {j : Nat} {r : Nat} {W : Nat → BitVec 64} (h1 : n < 25) (h2 : s < 1009) (h3 : i < n) (h4 : r < 90000) (h5 : j < i) (h6 : 0 ≤ rd W (j)) (h7 : rd W (j) < 1009) (h8 : 0 ≤ rd W (j + 1)) (h9 : rd W (j + 1) < 1009) (h10 : rd W (j) ≤ rd W (j + 1)) : ∀ x_ ∈ ([] : List VZ), VzOk (ivI n s i j r W) (vvI n s i j r W) (vkI n s i j r W) x_ :=
  allNil
abbrev RI1 {n : Nat} {s : Nat} {i : Nat} {j : Nat} {r : Nat} {W : Nat → BitVec 64} (h1 : n < 25) (h2 : s < 1009) (h3 : i < n) (h4 : r < 90000) (h5 : j < i) (h6 : 0 ≤ rd W (j)) (h7 : rd W (j) < 1009) (h8 : 0 ≤ rd W (j + 1)) (h9 : rd W (j + 1) < 1009) (h10 : rd W (j) ≤ rd W (j + 1)) : VRows (ivI n s i j r W) (vvI n s i j r W) (vkI n s i j r W) where
  vvp := vpI n s i j r W
  ib := [(14, .oi 4, .int .i64 100000, .bool false), (0, .oi 4, .int .i64 1, .oi 9), (14, .oi 9, .int .i64 100000, .bool false), (0, .oi 9, .int .i64 1, .oi 10), (14, .oi 10, .int .i64 100000, .bool false), (0, .oi 10, .int .i64 1, .oi 11), (14, .oi 3, .oi 2, .bool false), (14, .oi 11, .int .i64 100000, .bool false), (0, .oi 11, .int .i64 1, .oi 12), (14, .oi 12, .int .i64 100000, .bool false), (0, .oi 12, .int .i64 1, .oi 13), (14, .oi 13, .int .i64 100000, .bool false), (0, .oi 13, .int .i64 1, .oi 14), (9, .oi 7, .int .i64 0, .bool false), (11, .oi 3, .int .i64 0, .bool false), (1, .oi 7, .int .i64 1, .oi 6), (11, .int .i64 5, .oi 6, .bool true), (10, .oi 6, .oi 6, .bool false), (11, .oi 6, .oi 6, .bool false), (9, .oi 6, .oi 6, .bool true), (11, .oi 6, .oi 8, .bool true), (14, .oi 6, .int .i64 0, .bool true), (0, .oi 7, .int .i64 1, .oi 15), (11, .oi 15, .oi 8, .bool true), (14, .oi 15, .int .i64 0, .bool true), (14, .oi 3, .oi 0, .bool false), (0, .oi 6, .int .i64 3, .oi 16), (3, .oi 3, .int .i64 2, .oi 17), (0, .oi 16, .oi 17, .oi 18), (4, .oi 3, .int .i64 2, .oi 19), (2, .oi 19, .int .i64 4, .oi 20), (2, .oi 20, .int .i64 8, .oi 21), (11, .oi 18, .oi 8, .bool true), (14, .oi 18, .int .i64 0, .bool true), (16, .oi 22, .oi 21, .oi 23), (14, .oi 14, .int .i64 100000, .bool false), (0, .oi 14, .int .i64 1, .oi 27), (14, .oi 27, .int .i64 100000, .bool false), (0, .oi 27, .int .i64 1, .oi 28), (14, .oi 28, .int .i64 100000, .bool false), (0, .oi 28, .int .i64 1, .oi 29), (14, .oi 29, .int .i64 100000, .bool false), (0, .oi 29, .int .i64 1, .oi 30), (0, .oi 3, .int .i64 1, .oi 32), (14, .oi 30, .int .i64 100000, .bool false), (0, .oi 30, .int .i64 1, .oi 34), (11, .oi 32, .int .i64 0, .bool false), (14, .oi 32, .oi 0, .bool false), (3, .oi 32, .int .i64 2, .oi 35), (0, .oi 16, .oi 35, .oi 36), (4, .oi 32, .int .i64 2, .oi 37), (2, .oi 37, .int .i64 4, .oi 38), (2, .oi 38, .int .i64 8, .oi 39), (11, .oi 36, .oi 8, .bool true), (14, .oi 36, .int .i64 0, .bool true), (16, .oi 40, .oi 39, .oi 41), (14, .oi 34, .int .i64 100000, .bool false), (0, .oi 34, .int .i64 1, .oi 45), (12, .oi 26, .oi 44, .bool true), (14, .oi 45, .int .i64 100000, .bool false), (0, .oi 45, .int .i64 1, .oi 46), (14, .oi 46, .int .i64 100000, .bool false), (0, .oi 46, .int .i64 1, .oi 47)]
  ibok := ibI1 h1 h2 h3 h4 h5 h6 h7 h8 h9 h10
  ic := [(.i64, .oi 5, .oi 0), (.i64, .oi 23, .oi 24), (.i32, .oi 24, .oi 25), (.i64, .oi 25, .oi 26), (.i32, .oi 3, .oi 31), (.i64, .oi 31, .oi 3), (.i32, .oi 32, .oi 33), (.i64, .oi 33, .oi 32), (.i64, .oi 41, .oi 42), (.i32, .oi 42, .oi 43), (.i64, .oi 43, .oi 44)]
  icok := icI1 h1 h2 h3 h4 h5 h6 h7 h8 h9 h10
  vl := [⟨0, 6, 1, 0, [(.int .u64 3)]⟩, ⟨0, 15, 1, 0, [(oN 5)]⟩, ⟨0, 18, 1, 0, [.oi 22]⟩, ⟨0, 36, 1, 0, [.oi 40]⟩]
  vlok := vlI1 h1 h2 h3 h4 h5 h6 h7 h8 h9 h10
  vs := []
  vsok := vsI1 h1 h2 h3 h4 h5 h6 h7 h8 h9 h10
  vz := []
  vzok := vzI1 h1 h2 h3 h4 h5 h6 h7 h8 h9 h10
  vc := []
  vcok := allNil
noncomputable abbrev rl_goI1 : List (Nat × Nat) := [(20000, 20000), (20001, 20348), (20002, 20349), (20003, 20003), (20004, 20004), (20005, 20005), (20006, 20006), (20007, 20007), (20008, 20008), (20010, 20010), (20011, 20011), (20012, 20012)]
noncomputable abbrev bs_goI1 : BS := [(10587, 10587, kb23), (10593, 10593, kb3), (13933, 13933, kb4), (13934, 13934, kb5), (13936, 13936, (.map [(tx24, (oN 4), 0)] 1)), (13937, 13937, kb24), (14235, 14235, kb8), (14558, 14558, kb10), (17203, 17203, kb11), (17208, 17208, kb12), (20000, 20000, kb13), (20001, 20348, kb26), (20002, 20349, kb22), (20003, 20003, (.vec 0)), (20004, 20004, kb25), (20005, 20005, kb19), (20006, 20006, kb18), (20007, 20007, (.cells 1 true [] (T.ofList 0 .leaf [(pN 20008)]))), (20008, 20008, (.cells 6 false [] (T.ofList 0 .leaf [z0, z0, (pN 14235), z0, (iN 47), .nilp]))), (20010, 20010, kb14), (20011, 20011, kb15)]
noncomputable abbrev ip_goI1 : IP := [(.oi 8, 8), (.oi 47, 4), (.oi 0, 0), (.oi 1, 1), (.oi 2, 2), (.oi 32, 3), (.oi 7, 7), (.oi 5, 5), (.oi 6, 6)]
theorem bq_goI1 : hOf 20040 bs_goI1 = hOf 20040 bsI := hOf_congr (by kernel_rfl)
theorem goI1 {n : Nat} {s : Nat} {i : Nat} {j : Nat} {r : Nat} {W : Nat → BitVec 64} (h1 : n < 25) (h2 : s < 1009) (h3 : i < n) (h4 : r < 90000) (h5 : j < i) (h6 : 0 ≤ rd W (j)) (h7 : rd W (j) < 1009) (h8 : 0 ≤ rd W (j + 1)) (h9 : rd W (j + 1) < 1009) (h10 : rd W (j) ≤ rd W (j + 1)) (hb : Base B μ 20000) {Q : Exit → Act → World → Prop} {j_ : Nat} (s_ : SI n s i j r W B w0 μ a w) (hQ : ∀ a' w', SI (n) (s) (i) (j + 1) (r + 14) (W) B w0 μ a' w' → Code.rounds Tryz.prog la Q j_ a' w') : Code.rounds Tryz.prog la Q (j_ + 14) a w := by
  have hip : IpOk ((RI1 (n := n) (s := s) (i := i) (j := j) (r := r) (W := W) h1 h2 h3 h4 h5 h6 h7 h8 h9 h10).tab) (PI (n) (s) (i) (j + 1) (r + 14) (W)) ip_goI1 := (ipCons (ipN (.i64, ((11 + (n * 4 + 7) / 8 : Nat) : Int)) rfl rfl) (ipCons (ipN (.i64, ((r + 14 : Nat) : Int)) rfl (show (IntKind.i64, (((r + 14) : Nat) : Int)) = (IntKind.i64, ((r + 14 : Nat) : Int)) from Prod.ext rfl (show ((((r + 14) : Nat) : Int) : Int) = ((r + 14 : Nat) : Int) by omega))) (ipCons (ipN (.i64, ((n : Nat) : Int)) rfl rfl) (ipCons (ipN (.i64, ((s : Nat) : Int)) rfl rfl) (ipCons (ipN (.i64, ((i : Nat) : Int)) rfl rfl) (ipCons (ipN (.i64, ((j + 1 : Nat) : Int)) rfl (show (IntKind.i64, (((j + 1) : Nat) : Int)) = (IntKind.i64, ((j + 1 : Nat) : Int)) from Prod.ext rfl (show ((((j + 1) : Nat) : Int) : Int) = ((j + 1 : Nat) : Int) by omega))) (ipCons (ipN (.i64, ((9 : Nat) : Int)) rfl rfl) (ipCons (ipN (.u64, ((n : Nat) : Int)) rfl rfl) (ipCons (ipN (.i64, ((8 : Nat) : Int)) rfl rfl) ipNil)))))))))
  have hvp : VpOk ((RI1 (n := n) (s := s) (i := i) (j := j) (r := r) (W := W) h1 h2 h3 h4 h5 h6 h7 h8 h9 h10).tab) (PI (n) (s) (i) (j + 1) (r + 14) (W)) ⟨20000, 20040, ofPairs rl_goI1, ip_goI1⟩ [(20003, .vec 0, 0)] := (vpCons (vpW (T := ((RI1 (n := n) (s := s) (i := i) (j := j) (r := r) (W := W) h1 h2 h3 h4 h5 h6 h7 h8 h9 h10).tab)) (T' := (PI (n) (s) (i) (j + 1) (r + 14) (W))) (i := 0) (i' := 0) hip (L := [(.int .u64 0), (.int .u64 0), (.int .u64 1), (.int .u64 0), (.int .u64 0), (.int .u64 2), (.int .u64 0), (.int .u64 0), (.int .u64 3), (.int .u64 0), (oN 5)]) (L' := [(.int .u64 0), (.int .u64 0), (.int .u64 1), (.int .u64 0), (.int .u64 0), (.int .u64 2), (.int .u64 0), (.int .u64 0), (.int .u64 3), (.int .u64 0), (oN 5)]) (n := 11 + (n * 4 + 7) / 8) (n' := 11 + (n * 4 + 7) / 8) (W := W) (W' := W) rfl rfl (Nat.le_refl _) (Nat.le_refl _) (by decide) (show 11 ≤ 11 + (n * 4 + 7) / 8 by omega) (by kernel_rfl) (fun _ _ h_ => vw_none (Nat.le_add_right _ _) h_) (fun q_ _ => congrArg (W) (show q_ = 0 + q_ from (Nat.zero_add q_).symm)))
    vpNil)
  exact stepsTo_sound (T := ((RI1 (n := n) (s := s) (i := i) (j := j) (r := r) (W := W) h1 h2 h3 h4 h5 h6 h7 h8 h9 h10).tab)) (T' := (PI (n) (s) (i) (j + 1) (r + 14) (W))) (K := Hand.none) (m := 5000) mixed (@HandOk.none ((RI1 (n := n) (s := s) (i := i) (j := j) (r := r) (W := W) h1 h2 h3 h4 h5 h6 h7 h8 h9 h10).tab) Tryz.prog) (C := ⟨20000, 20040, ofPairs rl_goI1, ip_goI1⟩) (ex := .normal) (rl := rl_goI1) (vp := [(20003, .vec 0, 0)]) (fs := fsR) (bs := bs_goI1)
    hb (by decide) rfl (by kernel_rfl) hip hvp (glNone rfl rfl) (by as_aux_lemma => kernel_rfl) (St.same (VRows.same _ _) s_) (fun a' w' q => hQ a' w' (by rw [bq_goI1] at q; exact q))
end
end Go.Proofs.YtaabcpibfignfaaGreatDoor.so
