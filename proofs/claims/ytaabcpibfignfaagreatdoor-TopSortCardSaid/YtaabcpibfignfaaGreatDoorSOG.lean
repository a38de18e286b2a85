/-
  Steps of the machine within the law TopSort.
-/
import Derived.Test.YtaabcpibfignfaaGreatDoorSONN
import Derived.Test.YtaabcpibfignfaaGreatDoorSOS
import Derived.Test.YtaabcpibfignfaaGreatDoorXN3
import Derived.Test.YtaabcpibfignfaaGreatDoorProg
import Derived.KernelRfl
set_option linter.unusedSectionVars false
set_option linter.unusedVariables false
set_option maxRecDepth 1000000
set_option maxHeartbeats 0
namespace Go.Proofs.YtaabcpibfignfaaGreatDoor.so
open Go.X Go.RowKit Go.Proofs.YtaabcpibfignfaaGreatDoor
section
variable {B : Kp} {w0 : World} {μ : M} {a : Act} {w : World}
theorem ibE {n : Nat} {s : Nat} {i : Nat} {r : Nat} {W : Nat → BitVec 64} (h1 : n < 25) (h2 : s < 1009) (h3 : i ≤ n) (h4 : r < 90000) (h5 : i < n) : ∀ x_ ∈ ([(14, .oi 3, .int .i64 100000, .bool false), (0, .oi 3, .int .i64 1, .oi 8), (14, .oi 8, .int .i64 100000, .bool false), (0, .oi 8, .int .i64 1, .oi 9), (14, .oi 9, .int .i64 100000, .bool false), (0, .oi 9, .int .i64 1, .oi 10), (14, .oi 10, .int .i64 100000, .bool false), (0, .oi 10, .int .i64 1, .oi 11), (9, .oi 6, .int .i64 0, .bool false), (11, .oi 2, .int .i64 0, .bool false), (1, .oi 6, .int .i64 1, .oi 5), (11, .int .i64 5, .oi 5, .bool true), (10, .oi 5, .oi 5, .bool false), (11, .oi 5, .oi 5, .bool false), (9, .oi 5, .oi 5, .bool true), (11, .oi 5, .oi 7, .bool true), (14, .oi 5, .int .i64 0, .bool true), (0, .oi 6, .int .i64 1, .oi 12), (11, .oi 12, .oi 7, .bool true), (14, .oi 12, .int .i64 0, .bool true), (14, .oi 2, .oi 0, .bool false), (0, .oi 5, .int .i64 3, .oi 14), (3, .oi 2, .int .i64 2, .oi 15), (0, .oi 14, .oi 15, .oi 16), (4, .oi 2, .int .i64 2, .oi 17), (2, .oi 17, .int .i64 4, .oi 18), (2, .oi 18, .int .i64 8, .oi 19), (15, .int .u64 4294967295, .oi 19, .oi 20), (11, .oi 16, .oi 7, .bool true), (14, .oi 16, .int .i64 0, .bool true), (8, .oi 21, .oi 20, .oi 22), (15, .oi 23, .oi 19, .oi 24), (5, .oi 24, .oi 20, .oi 25), (6, .oi 22, .oi 25, .oi 26), (14, .oi 11, .int .i64 100000, .bool false), (0, .oi 11, .int .i64 1, .oi 27), (0, .oi 2, .int .i64 1, .oi 28), (14, .oi 27, .int .i64 100000, .bool false), (0, .oi 27, .int .i64 1, .oi 30)] : List BRow), IbOk (ivE n s i r W) x_ := by
  letI := Tab.empty
  exact (ibCons (ibGe (a := (((r : Nat) : Int))) (b := (100000)) rfl rfl (decide_eq_false (by omega)))
    (ibCons (ibAdd (a := (((r : Nat) : Int))) (b := (1)) (c := (((r + 1 : Nat) : Int))) rfl rfl rfl (by first | assumption | omega) (by omega) (by omega))
    (ibCons (ibGe (a := (((r + 1 : Nat) : Int))) (b := (100000)) rfl rfl (decide_eq_false (by omega)))
    (ibCons (ibAdd (a := (((r + 1 : Nat) : Int))) (b := (1)) (c := (((r + 2 : Nat) : Int))) rfl rfl rfl (by first | assumption | omega) (by omega) (by omega))
    (ibCons (ibGe (a := (((r + 2 : Nat) : Int))) (b := (100000)) rfl rfl (decide_eq_false (by omega)))
    (ibCons (ibAdd (a := (((r + 2 : Nat) : Int))) (b := (1)) (c := (((r + 3 : Nat) : Int))) rfl rfl rfl (by first | assumption | omega) (by omega) (by omega))
    (ibCons (ibGe (a := (((r + 3 : Nat) : Int))) (b := (100000)) rfl rfl (decide_eq_false (by omega)))
    (ibCons (ibAdd (a := (((r + 3 : Nat) : Int))) (b := (1)) (c := (((r + 4 : Nat) : Int))) rfl rfl rfl (by first | assumption | omega) (by omega) (by omega))
    (ibCons (ibEq (a := (((9 : Nat) : Int))) (b := (0)) rfl rfl (decide_eq_false (by omega)))
    (ibCons (ibLt (a := (((i : Nat) : Int))) (b := (0)) rfl rfl (decide_eq_false (by omega)))
    (ibCons (ibSub (a := (((9 : Nat) : Int))) (b := (1)) (c := (((8 : Nat) : Int))) rfl rfl rfl (by first | assumption | omega) (by omega) (by omega))
    (ibCons (ibLt (a := (5)) (b := (((8 : Nat) : Int))) rfl rfl (decide_eq_true (by omega)))
    (ibCons (ibNe (a := (((8 : Nat) : Int))) (b := (((8 : Nat) : Int))) rfl rfl (decide_eq_true rfl))
    (ibCons (ibLt (a := (((8 : Nat) : Int))) (b := (((8 : Nat) : Int))) rfl rfl (decide_eq_false (by omega)))
    (ibCons (ibEq (a := (((8 : Nat) : Int))) (b := (((8 : Nat) : Int))) rfl rfl (decide_eq_true rfl))
    (ibCons (ibLt (a := (((8 : Nat) : Int))) (b := (((11 + (n * 4 + 7) / 8 : Nat) : Int))) rfl rfl (decide_eq_true (by omega)))
    (ibCons (ibGe (a := (((8 : Nat) : Int))) (b := (0)) rfl rfl (decide_eq_true (by omega)))
    (ibCons (ibAdd (a := (((9 : Nat) : Int))) (b := (1)) (c := (((10 : Nat) : Int))) rfl rfl rfl (by first | assumption | omega) (by omega) (by omega))
    (ibCons (ibLt (a := (((10 : Nat) : Int))) (b := (((11 + (n * 4 + 7) / 8 : Nat) : Int))) rfl rfl (decide_eq_true (by omega)))
    (ibCons (ibGe (a := (((10 : Nat) : Int))) (b := (0)) rfl rfl (decide_eq_true (by omega)))
    (ibCons (ibGe (a := (((i : Nat) : Int))) (b := (((n : Nat) : Int))) rfl rfl (decide_eq_false (by omega)))
    (ibCons (ibAdd (a := (((8 : Nat) : Int))) (b := (3)) (c := (((11 : Nat) : Int))) rfl rfl rfl (by first | assumption | omega) (by omega) (by omega))
    (ibCons (ibQuo (a := (((i : Nat) : Int))) (b := (2)) (c := (((i / 2 : Nat) : Int))) rfl rfl rfl (by omega) (by rw [Int.tdiv_eq_ediv_of_nonneg (by omega)]; omega) (by omega) (by omega))
    (ibCons (ibAdd (a := (((11 : Nat) : Int))) (b := (((i / 2 : Nat) : Int))) (c := (((11 + i / 2 : Nat) : Int))) rfl rfl rfl (by first | assumption | omega) (by omega) (by omega))
    (ibCons (ibRem (a := (((i : Nat) : Int))) (b := (2)) (c := (((i % 2 : Nat) : Int))) rfl rfl rfl (by omega) (by rw [Int.tmod_eq_emod_of_nonneg (by omega)]; omega))
    (ibCons (ibMul (a := (((i % 2 : Nat) : Int))) (b := (4)) (c := (((i % 2 * 4 : Nat) : Int))) rfl rfl rfl (by omega) (by omega) (by omega))
    (ibCons (ibMul (a := (((i % 2 * 4 : Nat) : Int))) (b := (8)) (c := (((i % 2 * 32 : Nat) : Int))) rfl rfl rfl (by omega) (by omega) (by omega))
    (ibCons (ibShlW (W := BitVec.ofNat 64 4294967295) (V := (msk 32 (i % 2 * 32))) (s := i % 2 * 32) rfl rfl rfl (by omega) rfl)
    (ibCons (ibLt (a := (((11 + i / 2 : Nat) : Int))) (b := (((11 + (n * 4 + 7) / 8 : Nat) : Int))) rfl rfl (decide_eq_true (by omega)))
    (ibCons (ibGe (a := (((11 + i / 2 : Nat) : Int))) (b := (0)) rfl rfl (decide_eq_true (by omega)))
    (ibCons (ibAndNotW (W := (W (i / 2))) (U := (msk 32 (i % 2 * 32))) (V := (W (i / 2) &&& ~~~msk 32 (i % 2 * 32))) rfl rfl rfl rfl)
    (ibCons (ibShlW (W := (BitVec.ofInt 64 (s))) (V := ((BitVec.ofInt 64 (s)) <<< (i % 2 * 32))) (s := i % 2 * 32) rfl rfl rfl (by omega) rfl)
    (ibCons (ibAndW (W := ((BitVec.ofInt 64 (s)) <<< (i % 2 * 32))) (U := (msk 32 (i % 2 * 32))) (V := (((BitVec.ofInt 64 (s)) <<< (i % 2 * 32)) &&& msk 32 (i % 2 * 32))) rfl rfl rfl rfl)
    (ibCons (ibOrW (W := (W (i / 2) &&& ~~~msk 32 (i % 2 * 32))) (U := (((BitVec.ofInt 64 (s)) <<< (i % 2 * 32)) &&& msk 32 (i % 2 * 32))) (V := (setW 32 (i % 2 * 32) (W (i / 2)) (BitVec.ofInt 64 (s)))) rfl rfl rfl rfl)
    (ibCons (ibGe (a := (((r + 4 : Nat) : Int))) (b := (100000)) rfl rfl (decide_eq_false (by omega)))
    (ibCons (ibAdd (a := (((r + 4 : Nat) : Int))) (b := (1)) (c := (((r + 5 : Nat) : Int))) rfl rfl rfl (by first | assumption | omega) (by omega) (by omega))
    (ibCons (ibAdd (a := (((i : Nat) : Int))) (b := (1)) (c := (((i + 1 : Nat) : Int))) rfl rfl rfl (by first | assumption | omega) (by omega) (by omega))
    (ibCons (ibGe (a := (((r + 5 : Nat) : Int))) (b := (100000)) rfl rfl (decide_eq_false (by omega)))
    (ibCons (ibAdd (a := (((r + 5 : Nat) : Int))) (b := (1)) (c := (((r + 6 : Nat) : Int))) rfl rfl rfl (by first | assumption | omega) (by omega) (by omega))
    ibNil)))))))))))))))))))))))))))))))))))))))
theorem icE {n : Nat} {s : Nat} {i : Nat} {r : Nat} {W : Nat → BitVec 64} (h1 : n < 25) (h2 : s < 1009) (h3 : i ≤ n) (h4 : r < 90000) (h5 : i < n) : ∀ x_ ∈ ([(.i64, .oi 4, .oi 0), (.i32, .oi 1, .oi 13), (.i64, .oi 13, .oi 1), (.u64, .oi 1, .oi 23), (.i32, .oi 28, .oi 29), (.i64, .oi 29, .oi 28)] : List (IntKind × AV × AV)), IcOk' (ivE n s i r W) x_ := (icCons (ic64 (n := (((n : Nat) : Int))) rfl rfl (by omega) (by omega)) (icCons (ic32 (n := (((s : Nat) : Int))) rfl rfl (by omega) (by omega)) (icCons (ic64 (n := (((s : Nat) : Int))) rfl rfl (by omega) (by omega)) (icCons (icOf (k := .u64) (n := (((s : Nat) : Int))) (c := (wI (BitVec.ofInt 64 (s)))) rfl rfl (wI_ofInt _).symm) (icCons (ic32 (n := (((i + 1 : Nat) : Int))) rfl rfl (by omega) (by omega)) (icCons (ic64 (n := (((i + 1 : Nat) : Int))) rfl rfl (by omega) (by omega)) icNil))))))
theorem vlE {n : Nat} {s : Nat} {i : Nat} {r : Nat} {W : Nat → BitVec 64} (h1 : n < 25) (h2 : s < 1009) (h3 : i ≤ n) (h4 : r < 90000) (h5 : i < n) : ∀ x_ ∈ ([⟨0, 5, 1, 0, [(.int .u64 3)]⟩, ⟨0, 12, 1, 0, [(oN 4)]⟩, ⟨0, 16, 1, 0, [.oi 21]⟩] : List VL), VlOk (ivE n s i r W) (vvE n s i r W) x_ :=
  (allCons (vlW1 (L := [(.int .u64 0), (.int .u64 0), (.int .u64 1), (.int .u64 0), (.int .u64 0), (.int .u64 2), (.int .u64 0), (.int .u64 0), (.int .u64 3), (.int .u64 0), (oN 4)]) (n := 11 + (n * 4 + 7) / 8) (W := W) (k := 8) rfl rfl rfl rfl rfl rfl)
    (allCons (vlW1 (L := [(.int .u64 0), (.int .u64 0), (.int .u64 1), (.int .u64 0), (.int .u64 0), (.int .u64 2), (.int .u64 0), (.int .u64 0), (.int .u64 3), (.int .u64 0), (oN 4)]) (n := 11 + (n * 4 + 7) / 8) (W := W) (k := 10) rfl rfl rfl rfl rfl rfl)
    (allCons (vlW2 (L := [(.int .u64 0), (.int .u64 0), (.int .u64 1), (.int .u64 0), (.int .u64 0), (.int .u64 2), (.int .u64 0), (.int .u64 0), (.int .u64 3), (.int .u64 0), (oN 4)]) (n := 11 + (n * 4 + 7) / 8) (W := W) (k := 11 + i / 2) (q := i / 2) (y := 21) rfl rfl rfl rfl rfl rfl (by omega) rfl)
    allNil)))
theorem vsE {n : Nat} {s : Nat} {i : Nat} {r : Nat} {W : Nat → BitVec 64} (h1 : n < 25) (h2 : s < 1009) (h3 : i ≤ n) (h4 : r < 90000) (h5 : i < n) : ∀ x_ ∈ ([⟨0, 16, 1, 0, [(oN 26)], 1⟩] : List VS), VsOk (ivE n s i r W) (vvE n s i r W) (vkE n s i r W) x_ :=
  (allCons (vsW2 (L := [(.int .u64 0), (.int .u64 0), (.int .u64 1), (.int .u64 0), (.int .u64 0), (.int .u64 2), (.int .u64 0), (.int .u64 0), (.int .u64 3), (.int .u64 0), (oN 4)]) (n := 11 + (n * 4 + 7) / 8) (W := W) (W' := upd 2 32 W i (BitVec.ofInt 64 (s))) (k := 11 + i / 2) (q := i / 2) (x := (oN 26)) rfl rfl rfl rfl rfl rfl rfl rfl rfl (by omega) (by show some (IntKind.u64, wI (setW 32 (i % 2 * 32) (W (i / 2)) (BitVec.ofInt 64 (s)))) = some (IntKind.u64, wI ((upd 2 32 W i (BitVec.ofInt 64 (s))) (i / 2))); unfold upd; rw [if_pos rfl]) (fun _ h_ => if_neg h_))
    allNil)
theorem vzE {n : Nat} {s : Nat} {i : Nat} {r : Nat} {W : Nat → BitVec 64} (h1 : n < 25) (h2 : s < 1009) (h3 : i ≤ n) (h4 : r < 90000) (h5 : i < n) : ∀ x_ ∈ ([] : List VZ), VzOk (ivE n s i r W) (vvE n s i r W) (vkE n s i r W) x_ :=
  allNil
abbrev RE {n : Nat} {s : Nat} {i : Nat} {r : Nat} {W : Nat → BitVec 64} (h1 : n < 25) (h2 : s < 1009) (h3 : i ≤ n) (h4 : r < 90000) (h5 : i < n) : VRows (ivE n s i r W) (vvE n s i r W) (vkE n s i r W) where
  vvp := vpE n s i r W
  ib := [(14, .oi 3, .int .i64 100000, .bool false), (0, .oi 3, .int .i64 1, .oi 8), (14, .oi 8, .int .i64 100000, .bool false), (0, .oi 8, .int .i64 1, .oi 9), (14, .oi 9, .int .i64 100000, .bool false), (0, .oi 9, .int .i64 1, .oi 10), (14, .oi 10, .int .i64 100000, .bool false), (0, .oi 10, .int .i64 1, .oi 11), (9, .oi 6, .int .i64 0, .bool false), (11, .oi 2, .int .i64 0, .bool false), (1, .oi 6, .int .i64 1, .oi 5), (11, .int .i64 5, .oi 5, .bool true), (10, .oi 5, .oi 5, .bool false), (11, .oi 5, .oi 5, .bool false), (9, .oi 5, .oi 5, .bool true), (11, .oi 5, .oi 7, .bool true), (14, .oi 5, .int .i64 0, .bool true), (0, .oi 6, .int .i64 1, .oi 12), (11, .oi 12, .oi 7, .bool true), (14, .oi 12, .int .i64 0, .bool true), (14, .oi 2, .oi 0, .bool false), (0, .oi 5, .int .i64 3, .oi 14), (3, .oi 2, .int .i64 2, .oi 15), (0, .oi 14, .oi 15, .oi 16), (4, .oi 2, .int .i64 2, .oi 17), (2, .oi 17, .int .i64 4, .oi 18), (2, .oi 18, .int .i64 8, .oi 19), (15, .int .u64 4294967295, .oi 19, .oi 20), (11, .oi 16, .oi 7, .bool true), (14, .oi 16, .int .i64 0, .bool true), (8, .oi 21, .oi 20, .oi 22), (15, .oi 23, .oi 19, .oi 24), (5, .oi 24, .oi 20, .oi 25), (6, .oi 22, .oi 25, .oi 26), (14, .oi 11, .int .i64 100000, .bool false), (0, .oi 11, .int .i64 1, .oi 27), (0, .oi 2, .int .i64 1, .oi 28), (14, .oi 27, .int .i64 100000, .bool false), (0, .oi 27, .int .i64 1, .oi 30)]
  ibok := ibE h1 h2 h3 h4 h5
  ic := [(.i64, .oi 4, .oi 0), (.i32, .oi 1, .oi 13), (.i64, .oi 13, .oi 1), (.u64, .oi 1, .oi 23), (.i32, .oi 28, .oi 29), (.i64, .oi 29, .oi 28)]
  icok := icE h1 h2 h3 h4 h5
  vl := [⟨0, 5, 1, 0, [(.int .u64 3)]⟩, ⟨0, 12, 1, 0, [(oN 4)]⟩, ⟨0, 16, 1, 0, [.oi 21]⟩]
  vlok := vlE h1 h2 h3 h4 h5
  vs := [⟨0, 16, 1, 0, [(oN 26)], 1⟩]
  vsok := vsE h1 h2 h3 h4 h5
  vz := []
  vzok := vzE h1 h2 h3 h4 h5
  vc := []
  vcok := allNil
noncomputable abbrev rl_goG : List (Nat × Nat) := [(20000, 20000), (20001, 20124), (20002, 20125), (20003, 20003), (20004, 20004), (20005, 20005), (20006, 20006), (20007, 20007), (20008, 20008), (20010, 20010), (20011, 20011), (20012, 20012)]
noncomputable abbrev bs_goG : BS := [(10587, 10587, kb16), (10593, 10593, kb3), (13933, 13933, kb4), (13934, 13934, kb5), (13936, 13936, (.map [(tx24, (oN 3), 0)] 1)), (13937, 13937, kb17), (14235, 14235, kb8), (14558, 14558, kb10), (17203, 17203, kb11), (17208, 17208, kb12), (20000, 20000, kb13), (20001, 20124, kb21), (20002, 20125, kb22), (20003, 20003, (.vec 0)), (20004, 20004, kb20), (20005, 20005, kb19), (20006, 20006, kb18), (20007, 20007, (.cells 1 true [] (T.ofList 0 .leaf [(pN 20008)]))), (20008, 20008, (.cells 6 false [] (T.ofList 0 .leaf [z0, z0, (pN 14235), z0, (iN 9), .nilp]))), (20010, 20010, kb14), (20011, 20011, kb15)]
noncomputable abbrev ip_goG : IP := [(.oi 7, 7), (.oi 30, 3), (.oi 0, 0), (.oi 1, 1), (.oi 28, 2), (.oi 6, 6), (.oi 4, 4), (.oi 5, 5)]
theorem bq_goG : hOf 20040 bs_goG = hOf 20040 bsF := hOf_congr (by kernel_rfl)
theorem goG {n : Nat} {s : Nat} {i : Nat} {r : Nat} {W : Nat → BitVec 64} (h1 : n < 25) (h2 : s < 1009) (h3 : i ≤ n) (h4 : r < 90000) (h5 : i < n) (hb : Base B μ 20000) {Q : Exit → Act → World → Prop} {j_ : Nat} (s_ : SE n s i r W B w0 μ a w) (hQ : ∀ a' w', SF (n) (s) (i + 1) (r + 6) (upd 2 32 W i (BitVec.ofInt 64 (s))) B w0 μ a' w' → Code.rounds Tryz.prog la Q j_ a' w') : Code.rounds Tryz.prog la Q (j_ + 6) a w := by
  have hip : IpOk ((RE (n := n) (s := s) (i := i) (r := r) (W := W) h1 h2 h3 h4 h5).tab) (PF (n) (s) (i + 1) (r + 6) (upd 2 32 W i (BitVec.ofInt 64 (s)))) ip_goG := (ipCons (ipN (.i64, ((11 + (n * 4 + 7) / 8 : Nat) : Int)) rfl rfl) (ipCons (ipN (.i64, ((r + 6 : Nat) : Int)) rfl (show (IntKind.i64, (((r + 6) : Nat) : Int)) = (IntKind.i64, ((r + 6 : Nat) : Int)) from Prod.ext rfl (show ((((r + 6) : Nat) : Int) : Int) = ((r + 6 : Nat) : Int) by omega))) (ipCons (ipN (.i64, ((n : Nat) : Int)) rfl rfl) (ipCons (ipN (.i64, ((s : Nat) : Int)) rfl rfl) (ipCons (ipN (.i64, ((i + 1 : Nat) : Int)) rfl (show (IntKind.i64, (((i + 1) : Nat) : Int)) = (IntKind.i64, ((i + 1 : Nat) : Int)) from Prod.ext rfl (show ((((i + 1) : Nat) : Int) : Int) = ((i + 1 : Nat) : Int) by omega))) (ipCons (ipN (.i64, ((9 : Nat) : Int)) rfl rfl) (ipCons (ipN (.u64, ((n : Nat) : Int)) rfl rfl) (ipCons (ipN (.i64, ((8 : Nat) : Int)) rfl rfl) ipNil))))))))
  have hvp : VpOk ((RE (n := n) (s := s) (i := i) (r := r) (W := W) h1 h2 h3 h4 h5).tab) (PF (n) (s) (i + 1) (r + 6) (upd 2 32 W i (BitVec.ofInt 64 (s)))) ⟨20000, 20040, ofPairs rl_goG, ip_goG⟩ [(20003, .vec 1, 0)] := (vpCons (vpW (T := ((RE (n := n) (s := s) (i := i) (r := r) (W := W) h1 h2 h3 h4 h5).tab)) (T' := (PF (n) (s) (i + 1) (r + 6) (upd 2 32 W i (BitVec.ofInt 64 (s))))) (i := 1) (i' := 0) hip (L := [(.int .u64 0), (.int .u64 0), (.int .u64 1), (.int .u64 0), (.int .u64 0), (.int .u64 2), (.int .u64 0), (.int .u64 0), (.int .u64 3), (.int .u64 0), (oN 4)]) (L' := [(.int .u64 0), (.int .u64 0), (.int .u64 1), (.int .u64 0), (.int .u64 0), (.int .u64 2), (.int .u64 0), (.int .u64 0), (.int .u64 3), (.int .u64 0), (oN 4)]) (n := 11 + (n * 4 + 7) / 8) (n' := 11 + (n * 4 + 7) / 8) (W := upd 2 32 W i (BitVec.ofInt 64 (s))) (W' := (upd 2 32 W i (BitVec.ofInt 64 (s)))) rfl rfl (Nat.le_refl _) (Nat.le_refl _) (by decide) (show 11 ≤ 11 + (n * 4 + 7) / 8 by omega) (by kernel_rfl) (fun _ _ h_ => vw_none (Nat.le_add_right _ _) h_) (fun q_ _ => congrArg ((upd 2 32 W i (BitVec.ofInt 64 (s)))) (show q_ = 0 + q_ from (Nat.zero_add q_).symm)))
    vpNil)
  exact stepsTo_sound (T := ((RE (n := n) (s := s) (i := i) (r := r) (W := W) h1 h2 h3 h4 h5).tab)) (T' := (PF (n) (s) (i + 1) (r + 6) (upd 2 32 W i (BitVec.ofInt 64 (s))))) (K := Hand.none) (m := 5000) mixed (@HandOk.none ((RE (n := n) (s := s) (i := i) (r := r) (W := W) h1 h2 h3 h4 h5).tab) Tryz.prog) (C := ⟨20000, 20040, ofPairs rl_goG, ip_goG⟩) (ex := .normal) (rl := rl_goG) (vp := [(20003, .vec 1, 0)]) (fs := fsR) (bs := bs_goG)
    hb (by decide) rfl (by kernel_rfl) hip hvp (glNone rfl rfl) (by as_aux_lemma => kernel_rfl) (St.same (VRows.same _ _) s_) (fun a' w' q => hQ a' w' (by rw [bq_goG] at q; exact q))
end
end Go.Proofs.YtaabcpibfignfaaGreatDoor.so
