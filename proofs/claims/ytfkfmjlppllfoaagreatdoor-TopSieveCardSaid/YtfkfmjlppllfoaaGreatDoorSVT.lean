/-
  Steps of the outer loop.
-/
import Derived.Test.YtfkfmjlppllfoaaGreatDoorSVS
import Derived.Test.YtfkfmjlppllfoaaGreatDoorXN3
import Derived.Test.YtfkfmjlppllfoaaGreatDoorProg
import Derived.KernelRfl
set_option linter.unusedSectionVars false
set_option linter.unusedVariables false
set_option maxRecDepth 1000000
set_option maxHeartbeats 0
namespace Go.Proofs.YtfkfmjlppllfoaaGreatDoor.sv
open Go.X Go.RowKit Go.Proofs.YtfkfmjlppllfoaaGreatDoor
section
variable {B : Kp} {w0 : World} {μ : M} {a : Act} {w : World}
theorem ibC {n : Nat} {i : Nat} {j : Nat} {c : Nat} {r : Nat} {W : Nat → BitVec 64} (h1 : n < 400) (h2 : i ≤ n) (h3 : 2 ≤ i) (h4 : c ≤ 1000) (h5 : r < 90000) (h6 : j ≤ 1000) (h7 : IntKind.i64.wrap (wI (W (i / 8) >>> (i % 8 * 8))) % 2 = 1) : ∀ x_ ∈ ([(14, .oi 4, .int .i64 100000, .bool false), (0, .oi 4, .int .i64 1, .oi 9), (14, .oi 9, .int .i64 100000, .bool false), (0, .oi 9, .int .i64 1, .oi 10), (14, .oi 10, .int .i64 100000, .bool false), (0, .oi 10, .int .i64 1, .oi 11), (13, .oi 1, .oi 0, .bool false), (14, .oi 11, .int .i64 100000, .bool false), (0, .oi 11, .int .i64 1, .oi 12), (14, .oi 12, .int .i64 100000, .bool false), (0, .oi 12, .int .i64 1, .oi 13), (14, .oi 13, .int .i64 100000, .bool false), (0, .oi 13, .int .i64 1, .oi 14), (9, .oi 7, .int .i64 0, .bool false), (11, .oi 1, .int .i64 0, .bool false), (1, .oi 7, .int .i64 1, .oi 6), (11, .int .i64 5, .oi 6, .bool true), (10, .oi 6, .oi 6, .bool false), (11, .oi 6, .oi 6, .bool false), (9, .oi 6, .oi 6, .bool true), (11, .oi 6, .oi 8, .bool true), (14, .oi 6, .int .i64 0, .bool true), (0, .oi 7, .int .i64 1, .oi 15), (11, .oi 15, .oi 8, .bool true), (14, .oi 15, .int .i64 0, .bool true), (14, .oi 1, .oi 16, .bool false), (0, .oi 6, .int .i64 3, .oi 17), (3, .oi 1, .int .i64 8, .oi 18), (0, .oi 17, .oi 18, .oi 19), (4, .oi 1, .int .i64 8, .oi 20), (2, .oi 20, .int .i64 1, .oi 20), (2, .oi 20, .int .i64 8, .oi 21), (11, .oi 19, .oi 8, .bool true), (14, .oi 19, .int .i64 0, .bool true), (16, .oi 22, .oi 21, .oi 23), (5, .oi 24, .int .i64 1, .oi 25), (14, .oi 14, .int .i64 100000, .bool false), (0, .oi 14, .int .i64 1, .oi 26), (10, .oi 25, .int .i64 0, .bool true), (14, .oi 26, .int .i64 100000, .bool false), (0, .oi 26, .int .i64 1, .oi 27), (0, .oi 1, .int .i64 1, .oi 28), (14, .oi 27, .int .i64 100000, .bool false), (0, .oi 27, .int .i64 1, .oi 30)] : List BRow), IbOk (ivT n i j c r W) x_ := by
  letI := Tab.empty
  exact (ibCons (ibGe (a := (((r : Nat) : Int))) (b := (100000)) rfl rfl (decide_eq_false (by omega)))
    (ibCons (ibAdd (a := (((r : Nat) : Int))) (b := (1)) (c := (((r + 1 : Nat) : Int))) rfl rfl rfl (by first | assumption | omega) (by omega) (by omega))
    (ibCons (ibGe (a := (((r + 1 : Nat) : Int))) (b := (100000)) rfl rfl (decide_eq_false (by omega)))
    (ibCons (ibAdd (a := (((r + 1 : Nat) : Int))) (b := (1)) (c := (((r + 2 : Nat) : Int))) rfl rfl rfl (by first | assumption | omega) (by omega) (by omega))
    (ibCons (ibGe (a := (((r + 2 : Nat) : Int))) (b := (100000)) rfl rfl (decide_eq_false (by omega)))
    (ibCons (ibAdd (a := (((r + 2 : Nat) : Int))) (b := (1)) (c := (((r + 3 : Nat) : Int))) rfl rfl rfl (by first | assumption | omega) (by omega) (by omega))
    (ibCons (ibGt (a := (((i : Nat) : Int))) (b := (((n : Nat) : Int))) rfl rfl (decide_eq_false (by omega)))
    (ibCons (ibGe (a := (((r + 3 : Nat) : Int))) (b := (100000)) rfl rfl (decide_eq_false (by omega)))
    (ibCons (ibAdd (a := (((r + 3 : Nat) : Int))) (b := (1)) (c := (((r + 4 : Nat) : Int))) rfl rfl rfl (by first | assumption | omega) (by omega) (by omega))
    (ibCons (ibGe (a := (((r + 4 : Nat) : Int))) (b := (100000)) rfl rfl (decide_eq_false (by omega)))
    (ibCons (ibAdd (a := (((r + 4 : Nat) : Int))) (b := (1)) (c := (((r + 5 : Nat) : Int))) rfl rfl rfl (by first | assumption | omega) (by omega) (by omega))
    (ibCons (ibGe (a := (((r + 5 : Nat) : Int))) (b := (100000)) rfl rfl (decide_eq_false (by omega)))
    (ibCons (ibAdd (a := (((r + 5 : Nat) : Int))) (b := (1)) (c := (((r + 6 : Nat) : Int))) rfl rfl rfl (by first | assumption | omega) (by omega) (by omega))
    (ibCons (ibEq (a := (((9 : Nat) : Int))) (b := (0)) rfl rfl (decide_eq_false (by omega)))
    (ibCons (ibLt (a := (((i : Nat) : Int))) (b := (0)) rfl rfl (decide_eq_false (by omega)))
    (ibCons (ibSub (a := (((9 : Nat) : Int))) (b := (1)) (c := (((8 : Nat) : Int))) rfl rfl rfl (by first | assumption | omega) (by omega) (by omega))
    (ibCons (ibLt (a := (5)) (b := (((8 : Nat) : Int))) rfl rfl (decide_eq_true (by omega)))
    (ibCons (ibNe (a := (((8 : Nat) : Int))) (b := (((8 : Nat) : Int))) rfl rfl (decide_eq_true rfl))
    (ibCons (ibLt (a := (((8 : Nat) : Int))) (b := (((8 : Nat) : Int))) rfl rfl (decide_eq_false (by omega)))
    (ibCons (ibEq (a := (((8 : Nat) : Int))) (b := (((8 : Nat) : Int))) rfl rfl (decide_eq_true rfl))
    (ibCons (ibLt (a := (((8 : Nat) : Int))) (b := (((11 + (n + 8) / 8 : Nat) : Int))) rfl rfl (decide_eq_true (by omega)))
    (ibCons (ibGe (a := (((8 : Nat) : Int))) (b := (0)) rfl rfl (decide_eq_true (by omega)))
    (ibCons (ibAdd (a := (((9 : Nat) : Int))) (b := (1)) (c := (((10 : Nat) : Int))) rfl rfl rfl (by first | assumption | omega) (by omega) (by omega))
    (ibCons (ibLt (a := (((10 : Nat) : Int))) (b := (((11 + (n + 8) / 8 : Nat) : Int))) rfl rfl (decide_eq_true (by omega)))
    (ibCons (ibGe (a := (((10 : Nat) : Int))) (b := (0)) rfl rfl (decide_eq_true (by omega)))
    (ibCons (ibGe (a := (((i : Nat) : Int))) (b := (((n + 1 : Nat) : Int))) rfl rfl (decide_eq_false (by omega)))
    (ibCons (ibAdd (a := (((8 : Nat) : Int))) (b := (3)) (c := (((11 : Nat) : Int))) rfl rfl rfl (by first | assumption | omega) (by omega) (by omega))
    (ibCons (ibQuo (a := (((i : Nat) : Int))) (b := (8)) (c := (((i / 8 : Nat) : Int))) rfl rfl rfl (by omega) (by rw [Int.tdiv_eq_ediv_of_nonneg (by omega)]; omega) (by omega) (by omega))
    (ibCons (ibAdd (a := (((11 : Nat) : Int))) (b := (((i / 8 : Nat) : Int))) (c := (((11 + i / 8 : Nat) : Int))) rfl rfl rfl (by first | assumption | omega) (by omega) (by omega))
    (ibCons (ibRem (a := (((i : Nat) : Int))) (b := (8)) (c := (((i % 8 : Nat) : Int))) rfl rfl rfl (by omega) (by rw [Int.tmod_eq_emod_of_nonneg (by omega)]; omega))
    (ibCons (ibMul (a := (((i % 8 : Nat) : Int))) (b := (1)) (c := (((i % 8 : Nat) : Int))) rfl rfl rfl (by first | assumption | omega) (by omega) (by omega))
    (ibCons (ibMul (a := (((i % 8 : Nat) : Int))) (b := (8)) (c := (((i % 8 * 8 : Nat) : Int))) rfl rfl rfl (by first | assumption | omega) (by omega) (by omega))
    (ibCons (ibLt (a := (((11 + i / 8 : Nat) : Int))) (b := (((11 + (n + 8) / 8 : Nat) : Int))) rfl rfl (decide_eq_true (by omega)))
    (ibCons (ibGe (a := (((11 + i / 8 : Nat) : Int))) (b := (0)) rfl rfl (decide_eq_true (by omega)))
    (ibCons (ibShrW (W := (W (i / 8))) (V := (W (i / 8) >>> (i % 8 * 8))) (s := i % 8 * 8) rfl rfl rfl (by omega) rfl)
    (ibCons (ibAnd (k := .i64) (a := (IntKind.i64.wrap (wI (W (i / 8) >>> (i % 8 * 8))))) (b := 1) (c := (IntKind.i64.wrap (wI (W (i / 8) >>> (i % 8 * 8))) % 2)) rfl rfl rfl (and1 _))
    (ibCons (ibGe (a := (((r + 6 : Nat) : Int))) (b := (100000)) rfl rfl (decide_eq_false (by omega)))
    (ibCons (ibAdd (a := (((r + 6 : Nat) : Int))) (b := (1)) (c := (((r + 7 : Nat) : Int))) rfl rfl rfl (by first | assumption | omega) (by omega) (by omega))
    (ibCons (ibNe (a := (IntKind.i64.wrap (wI (W (i / 8) >>> (i % 8 * 8))) % 2)) (b := (0)) rfl rfl (decide_eq_false (by omega)))
    (ibCons (ibGe (a := (((r + 7 : Nat) : Int))) (b := (100000)) rfl rfl (decide_eq_false (by omega)))
    (ibCons (ibAdd (a := (((r + 7 : Nat) : Int))) (b := (1)) (c := (((r + 8 : Nat) : Int))) rfl rfl rfl (by first | assumption | omega) (by omega) (by omega))
    (ibCons (ibAdd (a := (((i : Nat) : Int))) (b := (1)) (c := (((i + 1 : Nat) : Int))) rfl rfl rfl (by first | assumption | omega) (by omega) (by omega))
    (ibCons (ibGe (a := (((r + 8 : Nat) : Int))) (b := (100000)) rfl rfl (decide_eq_false (by omega)))
    (ibCons (ibAdd (a := (((r + 8 : Nat) : Int))) (b := (1)) (c := (((r + 9 : Nat) : Int))) rfl rfl rfl (by first | assumption | omega) (by omega) (by omega))
    ibNil))))))))))))))))))))))))))))))))))))))))))))
theorem icC {n : Nat} {i : Nat} {j : Nat} {c : Nat} {r : Nat} {W : Nat → BitVec 64} (h1 : n < 400) (h2 : i ≤ n) (h3 : 2 ≤ i) (h4 : c ≤ 1000) (h5 : r < 90000) (h6 : j ≤ 1000) (h7 : IntKind.i64.wrap (wI (W (i / 8) >>> (i % 8 * 8))) % 2 = 1) : ∀ x_ ∈ ([(.i64, .oi 5, .oi 16), (.i64, .oi 23, .oi 24), (.i32, .oi 28, .oi 29), (.i64, .oi 29, .oi 28)] : List (IntKind × AV × AV)), IcOk' (ivT n i j c r W) x_ := (icCons (ic64 (n := (((n + 1 : Nat) : Int))) rfl rfl (by omega) (by omega)) (icCons (icOf (k := .i64) (n := (wI (W (i / 8) >>> (i % 8 * 8)))) (c := (IntKind.i64.wrap (wI (W (i / 8) >>> (i % 8 * 8))))) rfl rfl (by first | assumption | rfl | exact wrap64 (by omega) (by omega) | exact wrapU64 (by omega) (by omega))) (icCons (ic32 (n := (((i + 1 : Nat) : Int))) rfl rfl (by omega) (by omega)) (icCons (ic64 (n := (((i + 1 : Nat) : Int))) rfl rfl (by omega) (by omega)) icNil))))
theorem vlC {n : Nat} {i : Nat} {j : Nat} {c : Nat} {r : Nat} {W : Nat → BitVec 64} (h1 : n < 400) (h2 : i ≤ n) (h3 : 2 ≤ i) (h4 : c ≤ 1000) (h5 : r < 90000) (h6 : j ≤ 1000) (h7 : IntKind.i64.wrap (wI (W (i / 8) >>> (i % 8 * 8))) % 2 = 1) : ∀ x_ ∈ ([⟨0, 6, 1, 0, [(.int .u64 3)]⟩, ⟨0, 15, 1, 0, [(.oi 5)]⟩, ⟨0, 19, 1, 0, [.oi 22]⟩] : List VL), VlOk (ivT n i j c r W) (vvT n i j c r W) x_ :=
  (allCons (vlW1 (L := [(.int .u64 0), (.int .u64 0), (.int .u64 1), (.int .u64 0), (.int .u64 0), (.int .u64 2), (.int .u64 0), (.int .u64 0), (.int .u64 3), (.int .u64 0), (.oi 5)]) (n := 11 + (n + 8) / 8) (W := W) (k := 8) rfl rfl rfl rfl rfl rfl)
    (allCons (vlW1 (L := [(.int .u64 0), (.int .u64 0), (.int .u64 1), (.int .u64 0), (.int .u64 0), (.int .u64 2), (.int .u64 0), (.int .u64 0), (.int .u64 3), (.int .u64 0), (.oi 5)]) (n := 11 + (n + 8) / 8) (W := W) (k := 10) rfl rfl rfl rfl rfl rfl)
    (allCons (vlW2 (L := [(.int .u64 0), (.int .u64 0), (.int .u64 1), (.int .u64 0), (.int .u64 0), (.int .u64 2), (.int .u64 0), (.int .u64 0), (.int .u64 3), (.int .u64 0), (.oi 5)]) (n := 11 + (n + 8) / 8) (W := W) (k := 11 + i / 8) (q := i / 8) (y := 22) rfl rfl rfl rfl rfl rfl (by omega) rfl)
    allNil)))
theorem vsC {n : Nat} {i : Nat} {j : Nat} {c : Nat} {r : Nat} {W : Nat → BitVec 64} (h1 : n < 400) (h2 : i ≤ n) (h3 : 2 ≤ i) (h4 : c ≤ 1000) (h5 : r < 90000) (h6 : j ≤ 1000) (h7 : IntKind.i64.wrap (wI (W (i / 8) >>> (i % 8 * 8))) % 2 = 1) : ∀ x_ ∈ ([] : List VS), VsOk (ivT n i j c r W) (vvT n i j c r W) (vkT n i j c r W) x_ :=
  allNil
theorem vzC {n : Nat} {i : Nat} {j : Nat} {c : Nat} {r : Nat} {W : Nat → BitVec 64} (h1 : n < 400) (h2 : i ≤ n) (h3 : 2 ≤ i) (h4 : c ≤ 1000) (h5 : r < 90000) (h6 : j ≤ 1000) (h7 : IntKind.i64.wrap (wI (W (i / 8) >>> (i % 8 * 8))) % 2 = 1) : ∀ x_ ∈ ([] : List VZ), VzOk (ivT n i j c r W) (vvT n i j c r W) (vkT n i j c r W) x_ :=
  allNil
abbrev RC {n : Nat} {i : Nat} {j : Nat} {c : Nat} {r : Nat} {W : Nat → BitVec 64} (h1 : n < 400) (h2 : i ≤ n) (h3 : 2 ≤ i) (h4 : c ≤ 1000) (h5 : r < 90000) (h6 : j ≤ 1000) (h7 : IntKind.i64.wrap (wI (W (i / 8) >>> (i % 8 * 8))) % 2 = 1) : VRows (ivT n i j c r W) (vvT n i j c r W) (vkT n i j c r W) where
  vvp := vpT n i j c r W
  ib := [(14, .oi 4, .int .i64 100000, .bool false), (0, .oi 4, .int .i64 1, .oi 9), (14, .oi 9, .int .i64 100000, .bool false), (0, .oi 9, .int .i64 1, .oi 10), (14, .oi 10, .int .i64 100000, .bool false), (0, .oi 10, .int .i64 1, .oi 11), (13, .oi 1, .oi 0, .bool false), (14, .oi 11, .int .i64 100000, .bool false), (0, .oi 11, .int .i64 1, .oi 12), (14, .oi 12, .int .i64 100000, .bool false), (0, .oi 12, .int .i64 1, .oi 13), (14, .oi 13, .int .i64 100000, .bool false), (0, .oi 13, .int .i64 1, .oi 14), (9, .oi 7, .int .i64 0, .bool false), (11, .oi 1, .int .i64 0, .bool false), (1, .oi 7, .int .i64 1, .oi 6), (11, .int .i64 5, .oi 6, .bool true), (10, .oi 6, .oi 6, .bool false), (11, .oi 6, .oi 6, .bool false), (9, .oi 6, .oi 6, .bool true), (11, .oi 6, .oi 8, .bool true), (14, .oi 6, .int .i64 0, .bool true), (0, .oi 7, .int .i64 1, .oi 15), (11, .oi 15, .oi 8, .bool true), (14, .oi 15, .int .i64 0, .bool true), (14, .oi 1, .oi 16, .bool false), (0, .oi 6, .int .i64 3, .oi 17), (3, .oi 1, .int .i64 8, .oi 18), (0, .oi 17, .oi 18, .oi 19), (4, .oi 1, .int .i64 8, .oi 20), (2, .oi 20, .int .i64 1, .oi 20), (2, .oi 20, .int .i64 8, .oi 21), (11, .oi 19, .oi 8, .bool true), (14, .oi 19, .int .i64 0, .bool true), (16, .oi 22, .oi 21, .oi 23), (5, .oi 24, .int .i64 1, .oi 25), (14, .oi 14, .int .i64 100000, .bool false), (0, .oi 14, .int .i64 1, .oi 26), (10, .oi 25, .int .i64 0, .bool true), (14, .oi 26, .int .i64 100000, .bool false), (0, .oi 26, .int .i64 1, .oi 27), (0, .oi 1, .int .i64 1, .oi 28), (14, .oi 27, .int .i64 100000, .bool false), (0, .oi 27, .int .i64 1, .oi 30)]
  ibok := ibC h1 h2 h3 h4 h5 h6 h7
  ic := [(.i64, .oi 5, .oi 16), (.i64, .oi 23, .oi 24), (.i32, .oi 28, .oi 29), (.i64, .oi 29, .oi 28)]
  icok := icC h1 h2 h3 h4 h5 h6 h7
  vl := [⟨0, 6, 1, 0, [(.int .u64 3)]⟩, ⟨0, 15, 1, 0, [(.oi 5)]⟩, ⟨0, 19, 1, 0, [.oi 22]⟩]
  vlok := vlC h1 h2 h3 h4 h5 h6 h7
  vs := []
  vsok := vsC h1 h2 h3 h4 h5 h6 h7
  vz := []
  vzok := vzC h1 h2 h3 h4 h5 h6 h7
  vc := []
  vcok := allNil
noncomputable abbrev rl_goC : List (Nat × Nat) := [(20000, 20000), (20001, 20087), (20002, 20088), (20003, 20003), (20004, 20004), (20005, 20005), (20006, 20006), (20007, 20007), (20008, 20008), (20010, 20010), (20011, 20011)]
noncomputable abbrev bs_goC : BS := [(10417, 10417, kb16), (10423, 10423, kb3), (13763, 13763, kb4), (13764, 13764, kb5), (13766, 13766, (.map [((.str 9 1349587270641094438477), (.oi 4), 0)] 1)), (13767, 13767, kb17), (14065, 14065, kb8), (14379, 14379, kb10), (15654, 15654, kb11), (15659, 15659, kb12), (20000, 20000, kb13), (20001, 20087, kb21), (20002, 20088, kb22), (20003, 20003, (.vec 0)), (20004, 20004, kb20), (20005, 20005, kb19), (20006, 20006, kb18), (20007, 20007, (.cells 1 true [] (T.ofList 0 .leaf [(.ptr 20008 0)]))), (20008, 20008, (.cells 6 false [] (T.ofList 0 .leaf [(.int .i64 0), (.int .i64 0), (.ptr 14065 0), (.int .i64 0), (.int .i64 15), .nilp]))), (20010, 20010, kb14), (20011, 20011, kb15)]
noncomputable abbrev ip_goC : IP := [(.oi 8, 8), (.oi 30, 4), (.oi 0, 0), (.oi 28, 1), (.oi 3, 3), (.oi 2, 2), (.oi 7, 7), (.oi 5, 5), (.oi 6, 6)]
theorem bq_goC : hOf 20040 bs_goC = hOf 20040 bsT := hOf_congr (by kernel_rfl)
theorem goC {n : Nat} {i : Nat} {j : Nat} {c : Nat} {r : Nat} {W : Nat → BitVec 64} (h1 : n < 400) (h2 : i ≤ n) (h3 : 2 ≤ i) (h4 : c ≤ 1000) (h5 : r < 90000) (h6 : j ≤ 1000) (h7 : IntKind.i64.wrap (wI (W (i / 8) >>> (i % 8 * 8))) % 2 = 1) (hb : Base B μ 20000) {Q : Exit → Act → World → Prop} {j_ : Nat} (s_ : ST n i j c r W B w0 μ a w) (hQ : ∀ a' w', ST (n) (i + 1) (j) (c) (r + 9) (W) B w0 μ a' w' → Code.rounds Tryz.prog la Q j_ a' w') : Code.rounds Tryz.prog la Q (j_ + 9) a w := by
  have hip : IpOk ((RC (n := n) (i := i) (j := j) (c := c) (r := r) (W := W) h1 h2 h3 h4 h5 h6 h7).tab) (PT (n) (i + 1) (j) (c) (r + 9) (W)) ip_goC := (ipCons (ipN (.i64, ((11 + (n + 8) / 8 : Nat) : Int)) rfl rfl) (ipCons (ipN (.i64, ((r + 9 : Nat) : Int)) rfl (show (IntKind.i64, (((r + 9) : Nat) : Int)) = (IntKind.i64, ((r + 9 : Nat) : Int)) from Prod.ext rfl (show ((((r + 9) : Nat) : Int) : Int) = ((r + 9 : Nat) : Int) by omega))) (ipCons (ipN (.i64, ((n : Nat) : Int)) rfl rfl) (ipCons (ipN (.i64, ((i + 1 : Nat) : Int)) rfl (show (IntKind.i64, (((i + 1) : Nat) : Int)) = (IntKind.i64, ((i + 1 : Nat) : Int)) from Prod.ext rfl (show ((((i + 1) : Nat) : Int) : Int) = ((i + 1 : Nat) : Int) by omega))) (ipCons (ipN (.i64, ((j : Nat) : Int)) rfl rfl) (ipCons (ipN (.i64, ((c : Nat) : Int)) rfl rfl) (ipCons (ipN (.i64, ((9 : Nat) : Int)) rfl rfl) (ipCons (ipN (.u64, ((n + 1 : Nat) : Int)) rfl rfl) (ipCons (ipN (.i64, ((8 : Nat) : Int)) rfl rfl) ipNil)))))))))
  have hvp : VpOk ((RC (n := n) (i := i) (j := j) (c := c) (r := r) (W := W) h1 h2 h3 h4 h5 h6 h7).tab) (PT (n) (i + 1) (j) (c) (r + 9) (W)) ⟨20000, 20040, ofPairs rl_goC, ip_goC⟩ [(20003, .vec 0, 0)] := (vpCons (vpW (T := ((RC (n := n) (i := i) (j := j) (c := c) (r := r) (W := W) h1 h2 h3 h4 h5 h6 h7).tab)) (T' := (PT (n) (i + 1) (j) (c) (r + 9) (W))) (i := 0) (i' := 0) hip (L := [(.int .u64 0), (.int .u64 0), (.int .u64 1), (.int .u64 0), (.int .u64 0), (.int .u64 2), (.int .u64 0), (.int .u64 0), (.int .u64 3), (.int .u64 0), (.oi 5)]) (L' := [(.int .u64 0), (.int .u64 0), (.int .u64 1), (.int .u64 0), (.int .u64 0), (.int .u64 2), (.int .u64 0), (.int .u64 0), (.int .u64 3), (.int .u64 0), (.oi 5)]) (n := 11 + (n + 8) / 8) (n' := 11 + (n + 8) / 8) (W := W) (W' := W) rfl rfl (Nat.le_refl _) (Nat.le_refl _) (by decide) (show 11 ≤ 11 + (n + 8) / 8 by omega) (by kernel_rfl) (fun _ _ h_ => vw_none (Nat.le_add_right _ _) h_) (fun q_ _ => congrArg (W) (show q_ = 0 + q_ from (Nat.zero_add q_).symm)))
    vpNil)
  exact stepsTo_sound (T := ((RC (n := n) (i := i) (j := j) (c := c) (r := r) (W := W) h1 h2 h3 h4 h5 h6 h7).tab)) (T' := (PT (n) (i + 1) (j) (c) (r + 9) (W))) (K := Hand.none) (m := 5000) mixed (@HandOk.none ((RC (n := n) (i := i) (j := j) (c := c) (r := r) (W := W) h1 h2 h3 h4 h5 h6 h7).tab) Tryz.prog) (C := ⟨20000, 20040, ofPairs rl_goC, ip_goC⟩) (ex := .normal) (rl := rl_goC) (vp := [(20003, .vec 0, 0)]) (fs := fsR) (bs := bs_goC)
    hb (by decide) rfl (by kernel_rfl) hip hvp (glNone rfl rfl) (by as_aux_lemma => kernel_rfl) (St.same (VRows.same _ _) s_) (fun a' w' q => hQ a' w' (by rw [bq_goC] at q; exact q))
theorem ibP {n : Nat} {i : Nat} {j : Nat} {c : Nat} {r : Nat} {W : Nat → BitVec 64} (h1 : n < 400) (h2 : i ≤ n) (h3 : 2 ≤ i) (h4 : c ≤ 1000) (h5 : r < 90000) (h6 : j ≤ 1000) (h7 : IntKind.i64.wrap (wI (W (i / 8) >>> (i % 8 * 8))) % 2 = 0) : ∀ x_ ∈ ([(14, .oi 4, .int .i64 100000, .bool false), (0, .oi 4, .int .i64 1, .oi 9), (14, .oi 9, .int .i64 100000, .bool false), (0, .oi 9, .int .i64 1, .oi 10), (14, .oi 10, .int .i64 100000, .bool false), (0, .oi 10, .int .i64 1, .oi 11), (13, .oi 1, .oi 0, .bool false), (14, .oi 11, .int .i64 100000, .bool false), (0, .oi 11, .int .i64 1, .oi 12), (14, .oi 12, .int .i64 100000, .bool false), (0, .oi 12, .int .i64 1, .oi 13), (14, .oi 13, .int .i64 100000, .bool false), (0, .oi 13, .int .i64 1, .oi 14), (9, .oi 7, .int .i64 0, .bool false), (11, .oi 1, .int .i64 0, .bool false), (1, .oi 7, .int .i64 1, .oi 6), (11, .int .i64 5, .oi 6, .bool true), (10, .oi 6, .oi 6, .bool false), (11, .oi 6, .oi 6, .bool false), (9, .oi 6, .oi 6, .bool true), (11, .oi 6, .oi 8, .bool true), (14, .oi 6, .int .i64 0, .bool true), (0, .oi 7, .int .i64 1, .oi 15), (11, .oi 15, .oi 8, .bool true), (14, .oi 15, .int .i64 0, .bool true), (14, .oi 1, .oi 16, .bool false), (0, .oi 6, .int .i64 3, .oi 17), (3, .oi 1, .int .i64 8, .oi 18), (0, .oi 17, .oi 18, .oi 19), (4, .oi 1, .int .i64 8, .oi 20), (2, .oi 20, .int .i64 1, .oi 20), (2, .oi 20, .int .i64 8, .oi 21), (11, .oi 19, .oi 8, .bool true), (14, .oi 19, .int .i64 0, .bool true), (16, .oi 22, .oi 21, .oi 23), (5, .oi 24, .int .i64 1, .oi 25), (14, .oi 14, .int .i64 100000, .bool false), (0, .oi 14, .int .i64 1, .oi 26), (10, .oi 25, .int .i64 0, .bool false), (14, .oi 26, .int .i64 100000, .bool false), (0, .oi 26, .int .i64 1, .oi 27), (0, .oi 2, .int .i64 1, .oi 31), (14, .oi 27, .int .i64 100000, .bool false), (0, .oi 27, .int .i64 1, .oi 30), (14, .oi 30, .int .i64 100000, .bool false), (0, .oi 30, .int .i64 1, .oi 33)] : List BRow), IbOk (ivT n i j c r W) x_ := by
  letI := Tab.empty
  exact (ibCons (ibGe (a := (((r : Nat) : Int))) (b := (100000)) rfl rfl (decide_eq_false (by omega)))
    (ibCons (ibAdd (a := (((r : Nat) : Int))) (b := (1)) (c := (((r + 1 : Nat) : Int))) rfl rfl rfl (by first | assumption | omega) (by omega) (by omega))
    (ibCons (ibGe (a := (((r + 1 : Nat) : Int))) (b := (100000)) rfl rfl (decide_eq_false (by omega)))
    (ibCons (ibAdd (a := (((r + 1 : Nat) : Int))) (b := (1)) (c := (((r + 2 : Nat) : Int))) rfl rfl rfl (by first | assumption | omega) (by omega) (by omega))
    (ibCons (ibGe (a := (((r + 2 : Nat) : Int))) (b := (100000)) rfl rfl (decide_eq_false (by omega)))
    (ibCons (ibAdd (a := (((r + 2 : Nat) : Int))) (b := (1)) (c := (((r + 3 : Nat) : Int))) rfl rfl rfl (by first | assumption | omega) (by omega) (by omega))
    (ibCons (ibGt (a := (((i : Nat) : Int))) (b := (((n : Nat) : Int))) rfl rfl (decide_eq_false (by omega)))
    (ibCons (ibGe (a := (((r + 3 : Nat) : Int))) (b := (100000)) rfl rfl (decide_eq_false (by omega)))
    (ibCons (ibAdd (a := (((r + 3 : Nat) : Int))) (b := (1)) (c := (((r + 4 : Nat) : Int))) rfl rfl rfl (by first | assumption | omega) (by omega) (by omega))
    (ibCons (ibGe (a := (((r + 4 : Nat) : Int))) (b := (100000)) rfl rfl (decide_eq_false (by omega)))
    (ibCons (ibAdd (a := (((r + 4 : Nat) : Int))) (b := (1)) (c := (((r + 5 : Nat) : Int))) rfl rfl rfl (by first | assumption | omega) (by omega) (by omega))
    (ibCons (ibGe (a := (((r + 5 : Nat) : Int))) (b := (100000)) rfl rfl (decide_eq_false (by omega)))
    (ibCons (ibAdd (a := (((r + 5 : Nat) : Int))) (b := (1)) (c := (((r + 6 : Nat) : Int))) rfl rfl rfl (by first | assumption | omega) (by omega) (by omega))
    (ibCons (ibEq (a := (((9 : Nat) : Int))) (b := (0)) rfl rfl (decide_eq_false (by omega)))
    (ibCons (ibLt (a := (((i : Nat) : Int))) (b := (0)) rfl rfl (decide_eq_false (by omega)))
    (ibCons (ibSub (a := (((9 : Nat) : Int))) (b := (1)) (c := (((8 : Nat) : Int))) rfl rfl rfl (by first | assumption | omega) (by omega) (by omega))
    (ibCons (ibLt (a := (5)) (b := (((8 : Nat) : Int))) rfl rfl (decide_eq_true (by omega)))
    (ibCons (ibNe (a := (((8 : Nat) : Int))) (b := (((8 : Nat) : Int))) rfl rfl (decide_eq_true rfl))
    (ibCons (ibLt (a := (((8 : Nat) : Int))) (b := (((8 : Nat) : Int))) rfl rfl (decide_eq_false (by omega)))
    (ibCons (ibEq (a := (((8 : Nat) : Int))) (b := (((8 : Nat) : Int))) rfl rfl (decide_eq_true rfl))
    (ibCons (ibLt (a := (((8 : Nat) : Int))) (b := (((11 + (n + 8) / 8 : Nat) : Int))) rfl rfl (decide_eq_true (by omega)))
    (ibCons (ibGe (a := (((8 : Nat) : Int))) (b := (0)) rfl rfl (decide_eq_true (by omega)))
    (ibCons (ibAdd (a := (((9 : Nat) : Int))) (b := (1)) (c := (((10 : Nat) : Int))) rfl rfl rfl (by first | assumption | omega) (by omega) (by omega))
    (ibCons (ibLt (a := (((10 : Nat) : Int))) (b := (((11 + (n + 8) / 8 : Nat) : Int))) rfl rfl (decide_eq_true (by omega)))
    (ibCons (ibGe (a := (((10 : Nat) : Int))) (b := (0)) rfl rfl (decide_eq_true (by omega)))
    (ibCons (ibGe (a := (((i : Nat) : Int))) (b := (((n + 1 : Nat) : Int))) rfl rfl (decide_eq_false (by omega)))
    (ibCons (ibAdd (a := (((8 : Nat) : Int))) (b := (3)) (c := (((11 : Nat) : Int))) rfl rfl rfl (by first | assumption | omega) (by omega) (by omega))
    (ibCons (ibQuo (a := (((i : Nat) : Int))) (b := (8)) (c := (((i / 8 : Nat) : Int))) rfl rfl rfl (by omega) (by rw [Int.tdiv_eq_ediv_of_nonneg (by omega)]; omega) (by omega) (by omega))
    (ibCons (ibAdd (a := (((11 : Nat) : Int))) (b := (((i / 8 : Nat) : Int))) (c := (((11 + i / 8 : Nat) : Int))) rfl rfl rfl (by first | assumption | omega) (by omega) (by omega))
    (ibCons (ibRem (a := (((i : Nat) : Int))) (b := (8)) (c := (((i % 8 : Nat) : Int))) rfl rfl rfl (by omega) (by rw [Int.tmod_eq_emod_of_nonneg (by omega)]; omega))
    (ibCons (ibMul (a := (((i % 8 : Nat) : Int))) (b := (1)) (c := (((i % 8 : Nat) : Int))) rfl rfl rfl (by first | assumption | omega) (by omega) (by omega))
    (ibCons (ibMul (a := (((i % 8 : Nat) : Int))) (b := (8)) (c := (((i % 8 * 8 : Nat) : Int))) rfl rfl rfl (by first | assumption | omega) (by omega) (by omega))
    (ibCons (ibLt (a := (((11 + i / 8 : Nat) : Int))) (b := (((11 + (n + 8) / 8 : Nat) : Int))) rfl rfl (decide_eq_true (by omega)))
    (ibCons (ibGe (a := (((11 + i / 8 : Nat) : Int))) (b := (0)) rfl rfl (decide_eq_true (by omega)))
    (ibCons (ibShrW (W := (W (i / 8))) (V := (W (i / 8) >>> (i % 8 * 8))) (s := i % 8 * 8) rfl rfl rfl (by omega) rfl)
    (ibCons (ibAnd (k := .i64) (a := (IntKind.i64.wrap (wI (W (i / 8) >>> (i % 8 * 8))))) (b := 1) (c := (IntKind.i64.wrap (wI (W (i / 8) >>> (i % 8 * 8))) % 2)) rfl rfl rfl (and1 _))
    (ibCons (ibGe (a := (((r + 6 : Nat) : Int))) (b := (100000)) rfl rfl (decide_eq_false (by omega)))
    (ibCons (ibAdd (a := (((r + 6 : Nat) : Int))) (b := (1)) (c := (((r + 7 : Nat) : Int))) rfl rfl rfl (by first | assumption | omega) (by omega) (by omega))
    (ibCons (ibNe (a := (IntKind.i64.wrap (wI (W (i / 8) >>> (i % 8 * 8))) % 2)) (b := (0)) rfl rfl (decide_eq_true (by omega)))
    (ibCons (ibGe (a := (((r + 7 : Nat) : Int))) (b := (100000)) rfl rfl (decide_eq_false (by omega)))
    (ibCons (ibAdd (a := (((r + 7 : Nat) : Int))) (b := (1)) (c := (((r + 8 : Nat) : Int))) rfl rfl rfl (by first | assumption | omega) (by omega) (by omega))
    (ibCons (ibAdd (a := (((c : Nat) : Int))) (b := (1)) (c := (((c + 1 : Nat) : Int))) rfl rfl rfl (by first | assumption | omega) (by omega) (by omega))
    (ibCons (ibGe (a := (((r + 8 : Nat) : Int))) (b := (100000)) rfl rfl (decide_eq_false (by omega)))
    (ibCons (ibAdd (a := (((r + 8 : Nat) : Int))) (b := (1)) (c := (((r + 9 : Nat) : Int))) rfl rfl rfl (by first | assumption | omega) (by omega) (by omega))
    (ibCons (ibGe (a := (((r + 9 : Nat) : Int))) (b := (100000)) rfl rfl (decide_eq_false (by omega)))
    (ibCons (ibAdd (a := (((r + 9 : Nat) : Int))) (b := (1)) (c := (((r + 10 : Nat) : Int))) rfl rfl rfl (by first | assumption | omega) (by omega) (by omega))
    ibNil))))))))))))))))))))))))))))))))))))))))))))))
theorem icP {n : Nat} {i : Nat} {j : Nat} {c : Nat} {r : Nat} {W : Nat → BitVec 64} (h1 : n < 400) (h2 : i ≤ n) (h3 : 2 ≤ i) (h4 : c ≤ 1000) (h5 : r < 90000) (h6 : j ≤ 1000) (h7 : IntKind.i64.wrap (wI (W (i / 8) >>> (i % 8 * 8))) % 2 = 0) : ∀ x_ ∈ ([(.i64, .oi 5, .oi 16), (.i64, .oi 23, .oi 24), (.i32, .oi 31, .oi 32), (.i64, .oi 32, .oi 31)] : List (IntKind × AV × AV)), IcOk' (ivT n i j c r W) x_ := (icCons (ic64 (n := (((n + 1 : Nat) : Int))) rfl rfl (by omega) (by omega)) (icCons (icOf (k := .i64) (n := (wI (W (i / 8) >>> (i % 8 * 8)))) (c := (IntKind.i64.wrap (wI (W (i / 8) >>> (i % 8 * 8))))) rfl rfl (by first | assumption | rfl | exact wrap64 (by omega) (by omega) | exact wrapU64 (by omega) (by omega))) (icCons (ic32 (n := (((c + 1 : Nat) : Int))) rfl rfl (by omega) (by omega)) (icCons (ic64 (n := (((c + 1 : Nat) : Int))) rfl rfl (by omega) (by omega)) icNil))))
theorem vlP {n : Nat} {i : Nat} {j : Nat} {c : Nat} {r : Nat} {W : Nat → BitVec 64} (h1 : n < 400) (h2 : i ≤ n) (h3 : 2 ≤ i) (h4 : c ≤ 1000) (h5 : r < 90000) (h6 : j ≤ 1000) (h7 : IntKind.i64.wrap (wI (W (i / 8) >>> (i % 8 * 8))) % 2 = 0) : ∀ x_ ∈ ([⟨0, 6, 1, 0, [(.int .u64 3)]⟩, ⟨0, 15, 1, 0, [(.oi 5)]⟩, ⟨0, 19, 1, 0, [.oi 22]⟩] : List VL), VlOk (ivT n i j c r W) (vvT n i j c r W) x_ :=
  (allCons (vlW1 (L := [(.int .u64 0), (.int .u64 0), (.int .u64 1), (.int .u64 0), (.int .u64 0), (.int .u64 2), (.int .u64 0), (.int .u64 0), (.int .u64 3), (.int .u64 0), (.oi 5)]) (n := 11 + (n + 8) / 8) (W := W) (k := 8) rfl rfl rfl rfl rfl rfl)
    (allCons (vlW1 (L := [(.int .u64 0), (.int .u64 0), (.int .u64 1), (.int .u64 0), (.int .u64 0), (.int .u64 2), (.int .u64 0), (.int .u64 0), (.int .u64 3), (.int .u64 0), (.oi 5)]) (n := 11 + (n + 8) / 8) (W := W) (k := 10) rfl rfl rfl rfl rfl rfl)
    (allCons (vlW2 (L := [(.int .u64 0), (.int .u64 0), (.int .u64 1), (.int .u64 0), (.int .u64 0), (.int .u64 2), (.int .u64 0), (.int .u64 0), (.int .u64 3), (.int .u64 0), (.oi 5)]) (n := 11 + (n + 8) / 8) (W := W) (k := 11 + i / 8) (q := i / 8) (y := 22) rfl rfl rfl rfl rfl rfl (by omega) rfl)
    allNil)))
theorem vsP {n : Nat} {i : Nat} {j : Nat} {c : Nat} {r : Nat} {W : Nat → BitVec 64} (h1 : n < 400) (h2 : i ≤ n) (h3 : 2 ≤ i) (h4 : c ≤ 1000) (h5 : r < 90000) (h6 : j ≤ 1000) (h7 : IntKind.i64.wrap (wI (W (i / 8) >>> (i % 8 * 8))) % 2 = 0) : ∀ x_ ∈ ([] : List VS), VsOk (ivT n i j c r W) (vvT n i j c r W) (vkT n i j c r W) x_ :=
  allNil
theorem vzP {n : Nat} {i : Nat} {j : Nat} {c : Nat} {r : Nat} {W : Nat → BitVec 64} (h1 : n < 400) (h2 : i ≤ n) (h3 : 2 ≤ i) (h4 : c ≤ 1000) (h5 : r < 90000) (h6 : j ≤ 1000) (h7 : IntKind.i64.wrap (wI (W (i / 8) >>> (i % 8 * 8))) % 2 = 0) : ∀ x_ ∈ ([] : List VZ), VzOk (ivT n i j c r W) (vvT n i j c r W) (vkT n i j c r W) x_ :=
  allNil
abbrev RP {n : Nat} {i : Nat} {j : Nat} {c : Nat} {r : Nat} {W : Nat → BitVec 64} (h1 : n < 400) (h2 : i ≤ n) (h3 : 2 ≤ i) (h4 : c ≤ 1000) (h5 : r < 90000) (h6 : j ≤ 1000) (h7 : IntKind.i64.wrap (wI (W (i / 8) >>> (i % 8 * 8))) % 2 = 0) : VRows (ivT n i j c r W) (vvT n i j c r W) (vkT n i j c r W) where
  vvp := vpT n i j c r W
  ib := [(14, .oi 4, .int .i64 100000, .bool false), (0, .oi 4, .int .i64 1, .oi 9), (14, .oi 9, .int .i64 100000, .bool false), (0, .oi 9, .int .i64 1, .oi 10), (14, .oi 10, .int .i64 100000, .bool false), (0, .oi 10, .int .i64 1, .oi 11), (13, .oi 1, .oi 0, .bool false), (14, .oi 11, .int .i64 100000, .bool false), (0, .oi 11, .int .i64 1, .oi 12), (14, .oi 12, .int .i64 100000, .bool false), (0, .oi 12, .int .i64 1, .oi 13), (14, .oi 13, .int .i64 100000, .bool false), (0, .oi 13, .int .i64 1, .oi 14), (9, .oi 7, .int .i64 0, .bool false), (11, .oi 1, .int .i64 0, .bool false), (1, .oi 7, .int .i64 1, .oi 6), (11, .int .i64 5, .oi 6, .bool true), (10, .oi 6, .oi 6, .bool false), (11, .oi 6, .oi 6, .bool false), (9, .oi 6, .oi 6, .bool true), (11, .oi 6, .oi 8, .bool true), (14, .oi 6, .int .i64 0, .bool true), (0, .oi 7, .int .i64 1, .oi 15), (11, .oi 15, .oi 8, .bool true), (14, .oi 15, .int .i64 0, .bool true), (14, .oi 1, .oi 16, .bool false), (0, .oi 6, .int .i64 3, .oi 17), (3, .oi 1, .int .i64 8, .oi 18), (0, .oi 17, .oi 18, .oi 19), (4, .oi 1, .int .i64 8, .oi 20), (2, .oi 20, .int .i64 1, .oi 20), (2, .oi 20, .int .i64 8, .oi 21), (11, .oi 19, .oi 8, .bool true), (14, .oi 19, .int .i64 0, .bool true), (16, .oi 22, .oi 21, .oi 23), (5, .oi 24, .int .i64 1, .oi 25), (14, .oi 14, .int .i64 100000, .bool false), (0, .oi 14, .int .i64 1, .oi 26), (10, .oi 25, .int .i64 0, .bool false), (14, .oi 26, .int .i64 100000, .bool false), (0, .oi 26, .int .i64 1, .oi 27), (0, .oi 2, .int .i64 1, .oi 31), (14, .oi 27, .int .i64 100000, .bool false), (0, .oi 27, .int .i64 1, .oi 30), (14, .oi 30, .int .i64 100000, .bool false), (0, .oi 30, .int .i64 1, .oi 33)]
  ibok := ibP h1 h2 h3 h4 h5 h6 h7
  ic := [(.i64, .oi 5, .oi 16), (.i64, .oi 23, .oi 24), (.i32, .oi 31, .oi 32), (.i64, .oi 32, .oi 31)]
  icok := icP h1 h2 h3 h4 h5 h6 h7
  vl := [⟨0, 6, 1, 0, [(.int .u64 3)]⟩, ⟨0, 15, 1, 0, [(.oi 5)]⟩, ⟨0, 19, 1, 0, [.oi 22]⟩]
  vlok := vlP h1 h2 h3 h4 h5 h6 h7
  vs := []
  vsok := vsP h1 h2 h3 h4 h5 h6 h7
  vz := []
  vzok := vzP h1 h2 h3 h4 h5 h6 h7
  vc := []
  vcok := allNil
noncomputable abbrev rl_goP : List (Nat × Nat) := [(20000, 20000), (20001, 20087), (20002, 20088), (20003, 20003), (20004, 20004), (20005, 20005), (20006, 20006), (20007, 20007), (20008, 20008), (20010, 20010), (20011, 20011)]
noncomputable abbrev bs_goP : BS := [(10417, 10417, kb16), (10423, 10423, kb3), (13763, 13763, kb4), (13764, 13764, kb5), (13766, 13766, (.map [((.str 9 1349587270641094438477), (.oi 4), 0)] 1)), (13767, 13767, kb17), (14065, 14065, kb8), (14379, 14379, kb10), (15654, 15654, kb11), (15659, 15659, kb12), (20000, 20000, kb13), (20001, 20087, kb21), (20002, 20088, kb22), (20003, 20003, (.vec 0)), (20004, 20004, kb20), (20005, 20005, kb19), (20006, 20006, kb18), (20007, 20007, (.cells 1 true [] (T.ofList 0 .leaf [(.ptr 20008 0)]))), (20008, 20008, (.cells 6 false [] (T.ofList 0 .leaf [(.int .i64 0), (.int .i64 0), (.ptr 14065 0), (.int .i64 0), (.int .i64 32), .nilp]))), (20010, 20010, kb14), (20011, 20011, kb15)]
noncomputable abbrev ip_goP : IP := [(.oi 8, 8), (.oi 33, 4), (.oi 0, 0), (.oi 1, 1), (.oi 1, 3), (.oi 31, 2), (.oi 7, 7), (.oi 5, 5), (.oi 6, 6)]
theorem bq_goP : hOf 20040 bs_goP = hOf 20040 bsI := hOf_congr (by kernel_rfl)
theorem goP {n : Nat} {i : Nat} {j : Nat} {c : Nat} {r : Nat} {W : Nat → BitVec 64} (h1 : n < 400) (h2 : i ≤ n) (h3 : 2 ≤ i) (h4 : c ≤ 1000) (h5 : r < 90000) (h6 : j ≤ 1000) (h7 : IntKind.i64.wrap (wI (W (i / 8) >>> (i % 8 * 8))) % 2 = 0) (hb : Base B μ 20000) {Q : Exit → Act → World → Prop} {j_ : Nat} (s_ : ST n i j c r W B w0 μ a w) (hQ : ∀ a' w', SI (n) (i) (i) (c + 1) (r + 10) (W) B w0 μ a' w' → Code.rounds Tryz.prog la Q j_ a' w') : Code.rounds Tryz.prog la Q (j_ + 10) a w := by
  have hip : IpOk ((RP (n := n) (i := i) (j := j) (c := c) (r := r) (W := W) h1 h2 h3 h4 h5 h6 h7).tab) (PI (n) (i) (i) (c + 1) (r + 10) (W)) ip_goP := (ipCons (ipN (.i64, ((11 + (n + 8) / 8 : Nat) : Int)) rfl rfl) (ipCons (ipN (.i64, ((r + 10 : Nat) : Int)) rfl (show (IntKind.i64, (((r + 10) : Nat) : Int)) = (IntKind.i64, ((r + 10 : Nat) : Int)) from Prod.ext rfl (show ((((r + 10) : Nat) : Int) : Int) = ((r + 10 : Nat) : Int) by omega))) (ipCons (ipN (.i64, ((n : Nat) : Int)) rfl rfl) (ipCons (ipN (.i64, ((i : Nat) : Int)) rfl rfl) (ipCons (ipN (.i64, ((i : Nat) : Int)) rfl rfl) (ipCons (ipN (.i64, ((c + 1 : Nat) : Int)) rfl (show (IntKind.i64, (((c + 1) : Nat) : Int)) = (IntKind.i64, ((c + 1 : Nat) : Int)) from Prod.ext rfl (show ((((c + 1) : Nat) : Int) : Int) = ((c + 1 : Nat) : Int) by omega))) (ipCons (ipN (.i64, ((9 : Nat) : Int)) rfl rfl) (ipCons (ipN (.u64, ((n + 1 : Nat) : Int)) rfl rfl) (ipCons (ipN (.i64, ((8 : Nat) : Int)) rfl rfl) ipNil)))))))))
  have hvp : VpOk ((RP (n := n) (i := i) (j := j) (c := c) (r := r) (W := W) h1 h2 h3 h4 h5 h6 h7).tab) (PI (n) (i) (i) (c + 1) (r + 10) (W)) ⟨20000, 20040, ofPairs rl_goP, ip_goP⟩ [(20003, .vec 0, 0)] := (vpCons (vpW (T := ((RP (n := n) (i := i) (j := j) (c := c) (r := r) (W := W) h1 h2 h3 h4 h5 h6 h7).tab)) (T' := (PI (n) (i) (i) (c + 1) (r + 10) (W))) (i := 0) (i' := 0) hip (L := [(.int .u64 0), (.int .u64 0), (.int .u64 1), (.int .u64 0), (.int .u64 0), (.int .u64 2), (.int .u64 0), (.int .u64 0), (.int .u64 3), (.int .u64 0), (.oi 5)]) (L' := [(.int .u64 0), (.int .u64 0), (.int .u64 1), (.int .u64 0), (.int .u64 0), (.int .u64 2), (.int .u64 0), (.int .u64 0), (.int .u64 3), (.int .u64 0), (.oi 5)]) (n := 11 + (n + 8) / 8) (n' := 11 + (n + 8) / 8) (W := W) (W' := W) rfl rfl (Nat.le_refl _) (Nat.le_refl _) (by decide) (show 11 ≤ 11 + (n + 8) / 8 by omega) (by kernel_rfl) (fun _ _ h_ => vw_none (Nat.le_add_right _ _) h_) (fun q_ _ => congrArg (W) (show q_ = 0 + q_ from (Nat.zero_add q_).symm)))
    vpNil)
  exact stepsTo_sound (T := ((RP (n := n) (i := i) (j := j) (c := c) (r := r) (W := W) h1 h2 h3 h4 h5 h6 h7).tab)) (T' := (PI (n) (i) (i) (c + 1) (r + 10) (W))) (K := Hand.none) (m := 5000) mixed (@HandOk.none ((RP (n := n) (i := i) (j := j) (c := c) (r := r) (W := W) h1 h2 h3 h4 h5 h6 h7).tab) Tryz.prog) (C := ⟨20000, 20040, ofPairs rl_goP, ip_goP⟩) (ex := .normal) (rl := rl_goP) (vp := [(20003, .vec 0, 0)]) (fs := fsR) (bs := bs_goP)
    hb (by decide) rfl (by kernel_rfl) hip hvp (glNone rfl rfl) (by as_aux_lemma => kernel_rfl) (St.same (VRows.same _ _) s_) (fun a' w' q => hQ a' w' (by rw [bq_goP] at q; exact q))
end
end Go.Proofs.YtfkfmjlppllfoaaGreatDoor.sv
