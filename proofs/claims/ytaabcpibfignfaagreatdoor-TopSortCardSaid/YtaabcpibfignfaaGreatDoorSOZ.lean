/-
  Steps of the machine within the law TopSort.
-/
import Derived.Test.YtaabcpibfignfaaGreatDoorSONN
import Derived.Test.YtaabcpibfignfaaGreatDoorSOS
import Derived.Test.YtaabcpibfignfaaGreatDoorXN3
import Derived.Test.YtaabcpibfignfaaGreatDoorProg
import Derived.KernelRfl
set_option linter.unusedSectionVars false
set_option linter.unusedVariables false
set_option maxRecDepth 1000000
set_option maxHeartbeats 0
namespace Go.Proofs.YtaabcpibfignfaaGreatDoor.so
open Go.X Go.RowKit Go.Proofs.YtaabcpibfignfaaGreatDoor
section
variable {B : Kp} {w0 : World} {μ : M} {a : Act} {w : World}
theorem ibZ {n : Nat} {s : Nat} {i : Nat} {j : Nat} {r : Nat} {W : Nat → BitVec 64} (h1 : n < 25) (h2 : s < 1009) (h3 : i < n) (h4 : r < 90000) (h5 : j < i) : ∀ x_ ∈ ([(14, .oi 4, .int .i64 100000, .bool false), (0, .oi 4, .int .i64 1, .oi 9), (14, .oi 9, .int .i64 100000, .bool false), (0, .oi 9, .int .i64 1, .oi 10), (14, .oi 10, .int .i64 100000, .bool false), (0, .oi 10, .int .i64 1, .oi 11), (14, .oi 11, .int .i64 100000, .bool false), (0, .oi 11, .int .i64 1, .oi 12), (0, .oi 3, .int .i64 1, .oi 14), (14, .oi 12, .int .i64 100000, .bool false), (0, .oi 12, .int .i64 1, .oi 16), (14, .oi 16, .int .i64 100000, .bool false), (0, .oi 16, .int .i64 1, .oi 17), (9, .oi 7, .int .i64 0, .bool false), (11, .oi 14, .int .i64 0, .bool false), (1, .oi 7, .int .i64 1, .oi 6), (11, .int .i64 5, .oi 6, .bool true), (10, .oi 6, .oi 6, .bool false), (11, .oi 6, .oi 6, .bool false), (9, .oi 6, .oi 6, .bool true), (11, .oi 6, .oi 8, .bool true), (14, .oi 6, .int .i64 0, .bool true), (0, .oi 7, .int .i64 1, .oi 18), (11, .oi 18, .oi 8, .bool true), (14, .oi 18, .int .i64 0, .bool true), (14, .oi 14, .oi 0, .bool false), (0, .oi 6, .int .i64 3, .oi 20), (3, .oi 14, .int .i64 2, .oi 21), (0, .oi 20, .oi 21, .oi 22), (4, .oi 14, .int .i64 2, .oi 23), (2, .oi 23, .int .i64 4, .oi 24), (2, .oi 24, .int .i64 8, .oi 25), (15, .int .u64 4294967295, .oi 25, .oi 26), (11, .oi 22, .oi 8, .bool true), (14, .oi 22, .int .i64 0, .bool true), (8, .oi 27, .oi 26, .oi 28), (15, .oi 29, .oi 25, .oi 30), (5, .oi 30, .oi 26, .oi 31), (6, .oi 28, .oi 31, .oi 32), (14, .oi 17, .int .i64 100000, .bool false), (0, .oi 17, .int .i64 1, .oi 33), (14, .oi 33, .int .i64 100000, .bool false), (0, .oi 33, .int .i64 1, .oi 34)] : List BRow), IbOk (ivZ n s i j r W) x_ := by
  letI := Tab.empty
  exact (ibCons (ibGe (a := (((r : Nat) : Int))) (b := (100000)) rfl rfl (decide_eq_false (by omega)))
    (ibCons (ibAdd (a := (((r : Nat) : Int))) (b := (1)) (c := (((r + 1 : Nat) : Int))) rfl rfl rfl (by first | assumption | omega) (by omega) (by omega))
    (ibCons (ibGe (a := (((r + 1 : Nat) : Int))) (b := (100000)) rfl rfl (decide_eq_false (by omega)))
    (ibCons (ibAdd (a := (((r + 1 : Nat) : Int))) (b := (1)) (c := (((r + 2 : Nat) : Int))) rfl rfl rfl (by first | assumption | omega) (by omega) (by omega))
    (ibCons (ibGe (a := (((r + 2 : Nat) : Int))) (b := (100000)) rfl rfl (decide_eq_false (by omega)))
    (ibCons (ibAdd (a := (((r + 2 : Nat) : Int))) (b := (1)) (c := (((r + 3 : Nat) : Int))) rfl rfl rfl (by first | assumption | omega) (by omega) (by omega))
    (ibCons (ibGe (a := (((r + 3 : Nat) : Int))) (b := (100000)) rfl rfl (decide_eq_false (by omega)))
    (ibCons (ibAdd (a := (((r + 3 : Nat) : Int))) (b := (1)) (c := (((r + 4 : Nat) : Int))) rfl rfl rfl (by first | assumption | omega) (by omega) (by omega))
    (ibCons (ibAdd (a := (((j : Nat) : Int))) (b := (1)) (c := (((j + 1 : Nat) : Int))) rfl rfl rfl (by first | assumption | omega) (by omega) (by omega))
    (ibCons (ibGe (a := (((r + 4 : Nat) : Int))) (b := (100000)) rfl rfl (decide_eq_false (by omega)))
    (ibCons (ibAdd (a := (((r + 4 : Nat) : Int))) (b := (1)) (c := (((r + 5 : Nat) : Int))) rfl rfl rfl (by first | assumption | omega) (by omega) (by omega))
    (ibCons (ibGe (a := (((r + 5 : Nat) : Int))) (b := (100000)) rfl rfl (decide_eq_false (by omega)))
    (ibCons (ibAdd (a := (((r + 5 : Nat) : Int))) (b := (1)) (c := (((r + 6 : Nat) : Int))) rfl rfl rfl (by first | assumption | omega) (by omega) (by omega))
    (ibCons (ibEq (a := (((9 : Nat) : Int))) (b := (0)) rfl rfl (decide_eq_false (by omega)))
    (ibCons (ibLt (a := (((j + 1 : Nat) : Int))) (b := (0)) rfl rfl (decide_eq_false (by omega)))
    (ibCons (ibSub (a := (((9 : Nat) : Int))) (b := (1)) (c := (((8 : Nat) : Int))) rfl rfl rfl (by first | assumption | omega) (by omega) (by omega))
    (ibCons (ibLt (a := (5)) (b := (((8 : Nat) : Int))) rfl rfl (decide_eq_true (by omega)))
    (ibCons (ibNe (a := (((8 : Nat) : Int))) (b := (((8 : Nat) : Int))) rfl rfl (decide_eq_true rfl))
    (ibCons (ibLt (a := (((8 : Nat) : Int))) (b := (((8 : Nat) : Int))) rfl rfl (decide_eq_false (by omega)))
    (ibCons (ibEq (a := (((8 : Nat) : Int))) (b := (((8 : Nat) : Int))) rfl rfl (decide_eq_true rfl))
    (ibCons (ibLt (a := (((8 : Nat) : Int))) (b := (((11 + (n * 4 + 7) / 8 : Nat) : Int))) rfl rfl (decide_eq_true (by omega)))
    (ibCons (ibGe (a := (((8 : Nat) : Int))) (b := (0)) rfl rfl (decide_eq_true (by omega)))
    (ibCons (ibAdd (a := (((9 : Nat) : Int))) (b := (1)) (c := (((10 : Nat) : Int))) rfl rfl rfl (by first | assumption | omega) (by omega) (by omega))
    (ibCons (ibLt (a := (((10 : Nat) : Int))) (b := (((11 + (n * 4 + 7) / 8 : Nat) : Int))) rfl rfl (decide_eq_true (by omega)))
    (ibCons (ibGe (a := (((10 : Nat) : Int))) (b := (0)) rfl rfl (decide_eq_true (by omega)))
    (ibCons (ibGe (a := (((j + 1 : Nat) : Int))) (b := (((n : Nat) : Int))) rfl rfl (decide_eq_false (by omega)))
    (ibCons (ibAdd (a := (((8 : Nat) : Int))) (b := (3)) (c := (((11 : Nat) : Int))) rfl rfl rfl (by first | assumption | omega) (by omega) (by omega))
    (ibCons (ibQuo (a := (((j + 1 : Nat) : Int))) (b := (2)) (c := ((((j + 1) / 2 : Nat) : Int))) rfl rfl rfl (by omega) (by rw [Int.tdiv_eq_ediv_of_nonneg (by omega)]; omega) (by omega) (by omega))
    (ibCons (ibAdd (a := (((11 : Nat) : Int))) (b := ((((j + 1) / 2 : Nat) : Int))) (c := (((11 + (j + 1) / 2 : Nat) : Int))) rfl rfl rfl (by first | assumption | omega) (by omega) (by omega))
    (ibCons (ibRem (a := (((j + 1 : Nat) : Int))) (b := (2)) (c := ((((j + 1) % 2 : Nat) : Int))) rfl rfl rfl (by omega) (by rw [Int.tmod_eq_emod_of_nonneg (by omega)]; omega))
    (ibCons (ibMul (a := ((((j + 1) % 2 : Nat) : Int))) (b := (4)) (c := ((((j + 1) % 2 * 4 : Nat) : Int))) rfl rfl rfl (by omega) (by omega) (by omega))
    (ibCons (ibMul (a := ((((j + 1) % 2 * 4 : Nat) : Int))) (b := (8)) (c := ((((j + 1) % 2 * 32 : Nat) : Int))) rfl rfl rfl (by omega) (by omega) (by omega))
    (ibCons (ibShlW (W := BitVec.ofNat 64 4294967295) (V := (msk 32 ((j + 1) % 2 * 32))) (s := (j + 1) % 2 * 32) rfl rfl rfl (by omega) rfl)
    (ibCons (ibLt (a := (((11 + (j + 1) / 2 : Nat) : Int))) (b := (((11 + (n * 4 + 7) / 8 : Nat) : Int))) rfl rfl (decide_eq_true (by omega)))
    (ibCons (ibGe (a := (((11 + (j + 1) / 2 : Nat) : Int))) (b := (0)) rfl rfl (decide_eq_true (by omega)))
    (ibCons (ibAndNotW (W := (W ((j + 1) / 2))) (U := (msk 32 ((j + 1) % 2 * 32))) (V := (W ((j + 1) / 2) &&& ~~~msk 32 ((j + 1) % 2 * 32))) rfl rfl rfl rfl)
    (ibCons (ibShlW (W := (BitVec.ofInt 64 (s))) (V := ((BitVec.ofInt 64 (s)) <<< ((j + 1) % 2 * 32))) (s := (j + 1) % 2 * 32) rfl rfl rfl (by omega) rfl)
    (ibCons (ibAndW (W := ((BitVec.ofInt 64 (s)) <<< ((j + 1) % 2 * 32))) (U := (msk 32 ((j + 1) % 2 * 32))) (V := (((BitVec.ofInt 64 (s)) <<< ((j + 1) % 2 * 32)) &&& msk 32 ((j + 1) % 2 * 32))) rfl rfl rfl rfl)
    (ibCons (ibOrW (W := (W ((j + 1) / 2) &&& ~~~msk 32 ((j + 1) % 2 * 32))) (U := (((BitVec.ofInt 64 (s)) <<< ((j + 1) % 2 * 32)) &&& msk 32 ((j + 1) % 2 * 32))) (V := (setW 32 ((j + 1) % 2 * 32) (W ((j + 1) / 2)) (BitVec.ofInt 64 (s)))) rfl rfl rfl rfl)
    (ibCons (ibGe (a := (((r + 6 : Nat) : Int))) (b := (100000)) rfl rfl (decide_eq_false (by omega)))
    (ibCons (ibAdd (a := (((r + 6 : Nat) : Int))) (b := (1)) (c := (((r + 7 : Nat) : Int))) rfl rfl rfl (by first | assumption | omega) (by omega) (by omega))
    (ibCons (ibGe (a := (((r + 7 : Nat) : Int))) (b := (100000)) rfl rfl (decide_eq_false (by omega)))
    (ibCons (ibAdd (a := (((r + 7 : Nat) : Int))) (b := (1)) (c := (((r + 8 : Nat) : Int))) rfl rfl rfl (by first | assumption | omega) (by omega) (by omega))
    ibNil)))))))))))))))))))))))))))))))))))))))))))
theorem icZ {n : Nat} {s : Nat} {i : Nat} {j : Nat} {r : Nat} {W : Nat → BitVec 64} (h1 : n < 25) (h2 : s < 1009) (h3 : i < n) (h4 : r < 90000) (h5 : j < i) : ∀ x_ ∈ ([(.i32, .oi 3, .oi 13), (.i64, .oi 13, .oi 3), (.i32, .oi 14, .oi 15), (.i64, .oi 15, .oi 14), (.i64, .oi 5, .oi 0), (.i32, .oi 1, .oi 19), (.i64, .oi 19, .oi 1), (.u64, .oi 1, .oi 29)] : List (IntKind × AV × AV)), IcOk' (ivZ n s i j r W) x_ := (icCons (ic32 (n := (((j : Nat) : Int))) rfl rfl (by omega) (by omega)) (icCons (ic64 (n := (((j : Nat) : Int))) rfl rfl (by omega) (by omega)) (icCons (ic32 (n := (((j + 1 : Nat) : Int))) rfl rfl (by omega) (by omega)) (icCons (ic64 (n := (((j + 1 : Nat) : Int))) rfl rfl (by omega) (by omega)) (icCons (ic64 (n := (((n : Nat) : Int))) rfl rfl (by omega) (by omega)) (icCons (ic32 (n := (((s : Nat) : Int))) rfl rfl (by omega) (by omega)) (icCons (ic64 (n := (((s : Nat) : Int))) rfl rfl (by omega) (by omega)) (icCons (icOf (k := .u64) (n := (((s : Nat) : Int))) (c := (wI (BitVec.ofInt 64 (s)))) rfl rfl (wI_ofInt _).symm) icNil))))))))
theorem vlZ {n : Nat} {s : Nat} {i : Nat} {j : Nat} {r : Nat} {W : Nat → BitVec 64} (h1 : n < 25) (h2 : s < 1009) (h3 : i < n) (h4 : r < 90000) (h5 : j < i) : ∀ x_ ∈ ([⟨0, 6, 1, 0, [(.int .u64 3)]⟩, ⟨0, 18, 1, 0, [(oN 5)]⟩, ⟨0, 22, 1, 0, [.oi 27]⟩] : List VL), VlOk (ivZ n s i j r W) (vvZ n s i j r W) x_ :=
  (allCons (vlW1 (L := [(.int .u64 0), (.int .u64 0), (.int .u64 1), (.int .u64 0), (.int .u64 0), (.int .u64 2), (.int .u64 0), (.int .u64 0), (.int .u64 3), (.int .u64 0), (oN 5)]) (n := 11 + (n * 4 + 7) / 8) (W := W) (k := 8) rfl rfl rfl rfl rfl rfl)
    (allCons (vlW1 (L := [(.int .u64 0), (.int .u64 0), (.int .u64 1), (.int .u64 0), (.int .u64 0), (.int .u64 2), (.int .u64 0), (.int .u64 0), (.int .u64 3), (.int .u64 0), (oN 5)]) (n := 11 + (n * 4 + 7) / 8) (W := W) (k := 10) rfl rfl rfl rfl rfl rfl)
    (allCons (vlW2 (L := [(.int .u64 0), (.int .u64 0), (.int .u64 1), (.int .u64 0), (.int .u64 0), (.int .u64 2), (.int .u64 0), (.int .u64 0), (.int .u64 3), (.int .u64 0), (oN 5)]) (n := 11 + (n * 4 + 7) / 8) (W := W) (k := 11 + (j + 1) / 2) (q := (j + 1) / 2) (y := 27) rfl rfl rfl rfl rfl rfl (by omega) rfl)
    allNil)))
theorem vsZ {n : Nat} {s : Nat} {i : Nat} {j : Nat} {r : Nat} {W : Nat → BitVec 64} (h1 : n < 25) (h2 : s < 1009) (h3 : i < n) (h4 : r < 90000) (h5 : j < i) : ∀ x_ ∈ ([⟨0, 22, 1, 0, [(oN 32)], 1⟩] : List VS), VsOk (ivZ n s i j r W) (vvZ n s i j r W) (vkZ n s i j r W) x_ :=
  (allCons (vsW2 (L := [(.int .u64 0), (.int .u64 0), (.int .u64 1), (.int .u64 0), (.int .u64 0), (.int .u64 2), (.int .u64 0), (.int .u64 0), (.int .u64 3), (.int .u64 0), (oN 5)]) (n := 11 + (n * 4 + 7) / 8) (W := W) (W' := upd 2 32 W (j + 1) (BitVec.ofInt 64 (s))) (k := 11 + (j + 1) / 2) (q := (j + 1) / 2) (x := (oN 32)) rfl rfl rfl rfl rfl rfl rfl rfl rfl (by omega) (by show some (IntKind.u64, wI (setW 32 ((j + 1) % 2 * 32) (W ((j + 1) / 2)) (BitVec.ofInt 64 (s)))) = some (IntKind.u64, wI ((upd 2 32 W (j + 1) (BitVec.ofInt 64 (s))) ((j + 1) / 2))); unfold upd; rw [if_pos rfl]) (fun _ h_ => if_neg h_))
    allNil)
theorem vzZ {n : Nat} {s : Nat} {i : Nat} {j : Nat} {r : Nat} {W : Nat → BitVec 64} (h1 : n < 25) (h2 : s < 1009) (h3 : i < n) (h4 : r < 90000) (h5 : j < i) : ∀ x_ ∈ ([] : List VZ), VzOk (ivZ n s i j r W) (vvZ n s i j r W) (vkZ n s i j r W) x_ :=
  allNil
abbrev RZ {n : Nat} {s : Nat} {i : Nat} {j : Nat} {r : Nat} {W : Nat → BitVec 64} (h1 : n < 25) (h2 : s < 1009) (h3 : i < n) (h4 : r < 90000) (h5 : j < i) : VRows (ivZ n s i j r W) (vvZ n s i j r W) (vkZ n s i j r W) where
  vvp := vpZ n s i j r W
  ib := [(14, .oi 4, .int .i64 100000, .bool false), (0, .oi 4, .int .i64 1, .oi 9), (14, .oi 9, .int .i64 100000, .bool false), (0, .oi 9, .int .i64 1, .oi 10), (14, .oi 10, .int .i64 100000, .bool false), (0, .oi 10, .int .i64 1, .oi 11), (14, .oi 11, .int .i64 100000, .bool false), (0, .oi 11, .int .i64 1, .oi 12), (0, .oi 3, .int .i64 1, .oi 14), (14, .oi 12, .int .i64 100000, .bool false), (0, .oi 12, .int .i64 1, .oi 16), (14, .oi 16, .int .i64 100000, .bool false), (0, .oi 16, .int .i64 1, .oi 17), (9, .oi 7, .int .i64 0, .bool false), (11, .oi 14, .int .i64 0, .bool false), (1, .oi 7, .int .i64 1, .oi 6), (11, .int .i64 5, .oi 6, .bool true), (10, .oi 6, .oi 6, .bool false), (11, .oi 6, .oi 6, .bool false), (9, .oi 6, .oi 6, .bool true), (11, .oi 6, .oi 8, .bool true), (14, .oi 6, .int .i64 0, .bool true), (0, .oi 7, .int .i64 1, .oi 18), (11, .oi 18, .oi 8, .bool true), (14, .oi 18, .int .i64 0, .bool true), (14, .oi 14, .oi 0, .bool false), (0, .oi 6, .int .i64 3, .oi 20), (3, .oi 14, .int .i64 2, .oi 21), (0, .oi 20, .oi 21, .oi 22), (4, .oi 14, .int .i64 2, .oi 23), (2, .oi 23, .int .i64 4, .oi 24), (2, .oi 24, .int .i64 8, .oi 25), (15, .int .u64 4294967295, .oi 25, .oi 26), (11, .oi 22, .oi 8, .bool true), (14, .oi 22, .int .i64 0, .bool true), (8, .oi 27, .oi 26, .oi 28), (15, .oi 29, .oi 25, .oi 30), (5, .oi 30, .oi 26, .oi 31), (6, .oi 28, .oi 31, .oi 32), (14, .oi 17, .int .i64 100000, .bool false), (0, .oi 17, .int .i64 1, .oi 33), (14, .oi 33, .int .i64 100000, .bool false), (0, .oi 33, .int .i64 1, .oi 34)]
  ibok := ibZ h1 h2 h3 h4 h5
  ic := [(.i32, .oi 3, .oi 13), (.i64, .oi 13, .oi 3), (.i32, .oi 14, .oi 15), (.i64, .oi 15, .oi 14), (.i64, .oi 5, .oi 0), (.i32, .oi 1, .oi 19), (.i64, .oi 19, .oi 1), (.u64, .oi 1, .oi 29)]
  icok := icZ h1 h2 h3 h4 h5
  vl := [⟨0, 6, 1, 0, [(.int .u64 3)]⟩, ⟨0, 18, 1, 0, [(oN 5)]⟩, ⟨0, 22, 1, 0, [.oi 27]⟩]
  vlok := vlZ h1 h2 h3 h4 h5
  vs := [⟨0, 22, 1, 0, [(oN 32)], 1⟩]
  vsok := vsZ h1 h2 h3 h4 h5
  vz := []
  vzok := vzZ h1 h2 h3 h4 h5
  vc := []
  vcok := allNil
noncomputable abbrev rl_goZ : List (Nat × Nat) := [(20000, 20000), (20001, 20131), (20002, 20132), (20003, 20003), (20004, 20004), (20005, 20005), (20006, 20006), (20007, 20007), (20008, 20008), (20010, 20010), (20011, 20011), (20012, 20012)]
noncomputable abbrev bs_goZ : BS := [(10587, 10587, kb23), (10593, 10593, kb3), (13933, 13933, kb4), (13934, 13934, kb5), (13936, 13936, (.map [(tx24, (oN 4), 0)] 1)), (13937, 13937, kb24), (14235, 14235, kb8), (14558, 14558, kb10), (17203, 17203, kb11), (17208, 17208, kb12), (20000, 20000, kb13), (20001, 20131, kb26), (20002, 20132, kb22), (20003, 20003, (.vec 0)), (20004, 20004, kb25), (20005, 20005, kb19), (20006, 20006, kb18), (20007, 20007, (.cells 1 true [] (T.ofList 0 .leaf [(pN 20008)]))), (20008, 20008, (.cells 6 false [] (T.ofList 0 .leaf [z0, z0, (pN 14235), z0, (iN 47), .nilp]))), (20010, 20010, kb14), (20011, 20011, kb15)]
noncomputable abbrev ip_goZ : IP := [(.oi 8, 8), (.oi 34, 4), (.oi 0, 0), (.oi 1, 1), (.oi 2, 2), (.oi 14, 3), (.oi 7, 7), (.oi 5, 5), (.oi 6, 6)]
theorem bq_goZ : hOf 20040 bs_goZ = hOf 20040 bsI := hOf_congr (by kernel_rfl)
theorem goZ {n : Nat} {s : Nat} {i : Nat} {j : Nat} {r : Nat} {W : Nat → BitVec 64} (h1 : n < 25) (h2 : s < 1009) (h3 : i < n) (h4 : r < 90000) (h5 : j < i) (hb : Base B μ 20000) {Q : Exit → Act → World → Prop} {j_ : Nat} (s_ : SZ n s i j r W B w0 μ a w) (hQ : ∀ a' w', SI (n) (s) (i) (j + 1) (r + 8) (upd 2 32 W (j + 1) (BitVec.ofInt 64 (s))) B w0 μ a' w' → Code.rounds Tryz.prog la Q j_ a' w') : Code.rounds Tryz.prog la Q (j_ + 8) a w := by
  have hip : IpOk ((RZ (n := n) (s := s) (i := i) (j := j) (r := r) (W := W) h1 h2 h3 h4 h5).tab) (PI (n) (s) (i) (j + 1) (r + 8) (upd 2 32 W (j + 1) (BitVec.ofInt 64 (s)))) ip_goZ := (ipCons (ipN (.i64, ((11 + (n * 4 + 7) / 8 : Nat) : Int)) rfl rfl) (ipCons (ipN (.i64, ((r + 8 : Nat) : Int)) rfl (show (IntKind.i64, (((r + 8) : Nat) : Int)) = (IntKind.i64, ((r + 8 : Nat) : Int)) from Prod.ext rfl (show ((((r + 8) : Nat) : Int) : Int) = ((r + 8 : Nat) : Int) by omega))) (ipCons (ipN (.i64, ((n : Nat) : Int)) rfl rfl) (ipCons (ipN (.i64, ((s : Nat) : Int)) rfl rfl) (ipCons (ipN (.i64, ((i : Nat) : Int)) rfl rfl) (ipCons (ipN (.i64, ((j + 1 : Nat) : Int)) rfl (show (IntKind.i64, (((j + 1) : Nat) : Int)) = (IntKind.i64, ((j + 1 : Nat) : Int)) from Prod.ext rfl (show ((((j + 1) : Nat) : Int) : Int) = ((j + 1 : Nat) : Int) by omega))) (ipCons (ipN (.i64, ((9 : Nat) : Int)) rfl rfl) (ipCons (ipN (.u64, ((n : Nat) : Int)) rfl rfl) (ipCons (ipN (.i64, ((8 : Nat) : Int)) rfl rfl) ipNil)))))))))
  have hvp : VpOk ((RZ (n := n) (s := s) (i := i) (j := j) (r := r) (W := W) h1 h2 h3 h4 h5).tab) (PI (n) (s) (i) (j + 1) (r + 8) (upd 2 32 W (j + 1) (BitVec.ofInt 64 (s)))) ⟨20000, 20040, ofPairs rl_goZ, ip_goZ⟩ [(20003, .vec 1, 0)] := (vpCons (vpW (T := ((RZ (n := n) (s := s) (i := i) (j := j) (r := r) (W := W) h1 h2 h3 h4 h5).tab)) (T' := (PI (n) (s) (i) (j + 1) (r + 8) (upd 2 32 W (j + 1) (BitVec.ofInt 64 (s))))) (i := 1) (i' := 0) hip (L := [(.int .u64 0), (.int .u64 0), (.int .u64 1), (.int .u64 0), (.int .u64 0), (.int .u64 2), (.int .u64 0), (.int .u64 0), (.int .u64 3), (.int .u64 0), (oN 5)]) (L' := [(.int .u64 0), (.int .u64 0), (.int .u64 1), (.int .u64 0), (.int .u64 0), (.int .u64 2), (.int .u64 0), (.int .u64 0), (.int .u64 3), (.int .u64 0), (oN 5)]) (n := 11 + (n * 4 + 7) / 8) (n' := 11 + (n * 4 + 7) / 8) (W := upd 2 32 W (j + 1) (BitVec.ofInt 64 (s))) (W' := (upd 2 32 W (j + 1) (BitVec.ofInt 64 (s)))) rfl rfl (Nat.le_refl _) (Nat.le_refl _) (by decide) (show 11 ≤ 11 + (n * 4 + 7) / 8 by omega) (by kernel_rfl) (fun _ _ h_ => vw_none (Nat.le_add_right _ _) h_) (fun q_ _ => congrArg ((upd 2 32 W (j + 1) (BitVec.ofInt 64 (s)))) (show q_ = 0 + q_ from (Nat.zero_add q_).symm)))
    vpNil)
  exact stepsTo_sound (T := ((RZ (n := n) (s := s) (i := i) (j := j) (r := r) (W := W) h1 h2 h3 h4 h5).tab)) (T' := (PI (n) (s) (i) (j + 1) (r + 8) (upd 2 32 W (j + 1) (BitVec.ofInt 64 (s))))) (K := Hand.none) (m := 5000) mixed (@HandOk.none ((RZ (n := n) (s := s) (i := i) (j := j) (r := r) (W := W) h1 h2 h3 h4 h5).tab) Tryz.prog) (C := ⟨20000, 20040, ofPairs rl_goZ, ip_goZ⟩) (ex := .normal) (rl := rl_goZ) (vp := [(20003, .vec 1, 0)]) (fs := fsR) (bs := bs_goZ)
    hb (by decide) rfl (by kernel_rfl) hip hvp (glNone rfl rfl) (by as_aux_lemma => kernel_rfl) (St.same (VRows.same _ _) s_) (fun a' w' q => hQ a' w' (by rw [bq_goZ] at q; exact q))
end
end Go.Proofs.YtaabcpibfignfaaGreatDoor.so
