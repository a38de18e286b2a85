/-
  The instruction that makes an array of arrays: its rows hold.
-/
import Derived.Test.YthgncmohimdbmaaGreatDoorMXN
import Derived.Test.YthgncmohimdbmaaGreatDoorXN3
import Derived.Test.YthgncmohimdbmaaGreatDoorMBM
import Derived.Test.YthgncmohimdbmaaGreatDoorProg
import Derived.KernelRfl
set_option linter.unusedSectionVars false
set_option linter.unusedVariables false
set_option maxRecDepth 1000000
set_option maxHeartbeats 0
namespace Go.Proofs.YthgncmohimdbmaaGreatDoor.mx
open Go.X Go.RowKit Go.Proofs.YthgncmohimdbmaaGreatDoor
abbrev rkN (k : Nat) : List BRow := [(11, .int .i64 (k : Int), .oi 0, .bool true), (1, .int .i64 2048, .oi (eN k), .oi (Nn k 0)), (13, .oi 19, .oi (Nn k 0), .bool false), (11, .oi (eN k), .oi (Nn k 1), .bool true), (14, .oi (eN k), .int .i64 0, .bool true), (0, .oi (eN k), .int .i64 1, .oi (Nn k 3)), (13, .oi (Nn k 3), .int .i64 0, .bool true), (0, .oi (Nn k 3), .int .i64 1, .oi (Nn k 4)), (11, .oi (Nn k 4), .oi (Nn k 1), .bool true), (14, .oi (Nn k 4), .int .i64 0, .bool true), (9, .oi (Nn k 3), .int .i64 0, .bool false), (11, .oi 26, .oi (Nn k 1), .bool true), (14, .oi 26, .int .i64 0, .bool true), (11, .oi 13, .oi (Nn k 1), .bool true), (14, .oi 13, .int .i64 0, .bool true), (14, .int .i64 (k : Int), .oi (Nn k 6), .bool false), (0, .oi 30, .int .i64 (k : Int), .oi (Nn k 7)), (11, .oi (Nn k 7), .oi (Nn k 1), .bool true), (14, .oi (Nn k 7), .int .i64 0, .bool true), (8, .oi (Nn k 8), .int .u64 18446744073709551615, .oi (Nn k 9)), (15, .oi (Nn k 10), .int .i64 0, .oi (Nn k 11)), (5, .oi (Nn k 11), .int .u64 18446744073709551615, .oi (Nn k 12)), (6, .oi (Nn k 9), .oi (Nn k 12), .oi (Nn k 13))]
abbrev r0N (n : Nat) : List BRow := [(11, .oi 0, .int .i64 0, .bool false), (11, .oi 1, .int .i64 0, .bool false), (13, .oi 0, .int .i64 2147483647, .bool false), (2, .oi 0, .int .i64 8, .oi 4), (0, .oi 4, .int .i64 8, .oi 5), (1, .oi 5, .int .i64 1, .oi 6), (3, .oi 6, .int .i64 8, .oi 7), (0, .int .i64 3, .oi 7, .oi 8), (11, .oi 8, .int .i64 0, .bool false), (1, .int .i64 2048, .oi 2, .oi 9), (13, .oi 8, .oi 9, .bool false), (11, .oi 2, .oi 10, .bool true), (14, .oi 2, .int .i64 0, .bool true), (0, .oi 2, .int .i64 1, .oi 12), (13, .oi 12, .int .i64 0, .bool true), (0, .oi 12, .int .i64 1, .oi 13), (11, .oi 13, .oi 10, .bool true), (14, .oi 13, .int .i64 0, .bool true), (9, .oi 12, .int .i64 0, .bool false), (13, .oi 1, .int .i64 2147483647, .bool false), (2, .oi 1, .int .i64 4, .oi 15), (0, .oi 15, .int .i64 8, .oi 16), (1, .oi 16, .int .i64 1, .oi 17), (3, .oi 17, .int .i64 8, .oi 18), (0, .int .i64 3, .oi 18, .oi 19), (11, .oi 19, .int .i64 0, .bool false), (1, .oi 12, .int .i64 1, .oi 26), (0, .oi 26, .int .i64 3, .oi 30), (11, .int .i64 (n : Int), .oi 0, .bool false)]
def rbN (n : Nat) : Nat → List BRow
  | 0 => r0N n
  | k + 1 => rkN k ++ rbN n k
theorem den_at (n m k c : Nat) (hc : c < 16) : denI (ivN n m) (.oi (Nn k c)) = some (cellN n m k c) := congrArg some (ivN_at n m k c hc)
theorem den_e (n m k : Nat) : denI (ivN n m) (.oi (eN k)) = some (.i64, ((en n m k : Nat) : Int)) := congrArg some (eN_at n m k)
theorem sw_bd {m : Nat} (hm : m < 20) : 3 ≤ sw m ∧ sw m ≤ 13 := by unfold sw; omega
theorem rkN_ok {n m k : Nat} (hn : n < 20) (hm : m < 20) (hk : k < n) : ∀ r ∈ rkN k, IbOk (ivN n m) r := by
  letI := Tab.empty
  have h1 := en_lo n m k
  have h2 := en_hi hn hm (show k + 1 ≤ n from hk)
  have h3 := enS n m k
  have h4 := sw_bd hm
  exact (ibCons (ibLt (a := ((k : Nat) : Int)) (b := ((n : Nat) : Int)) rfl rfl (decide_eq_true (by omega)))
    (ibCons (ibSub (a := 2048) (b := ((en n m k : Nat) : Int)) (c := 2048 - ((en n m k : Nat) : Int)) rfl (den_e n m k) (den_at n m k 0 (by decide)) (by omega) (by omega) (by omega))
    (ibCons (ibGt (a := ((sw m : Nat) : Int)) (b := 2048 - ((en n m k : Nat) : Int)) rfl (den_at n m k 0 (by decide)) (decide_eq_false (by omega)))
    (ibCons (ibLt (a := ((en n m k : Nat) : Int)) (b := ((en n m (k + 1) : Nat) : Int)) (den_e n m k) (den_at n m k 1 (by decide)) (decide_eq_true (by omega)))
    (ibCons (ibGe (a := ((en n m k : Nat) : Int)) (b := 0) (den_e n m k) rfl (decide_eq_true (by omega)))
    (ibCons (ibAdd (a := ((en n m k : Nat) : Int)) (b := 1) (c := ((en n m k + 1 : Nat) : Int)) (den_e n m k) rfl (den_at n m k 3 (by decide)) (by omega) (by omega) (by omega))
    (ibCons (ibGt (a := ((en n m k + 1 : Nat) : Int)) (b := 0) (den_at n m k 3 (by decide)) rfl (decide_eq_true (by omega)))
    (ibCons (ibAdd (a := ((en n m k + 1 : Nat) : Int)) (b := 1) (c := ((en n m k + 2 : Nat) : Int)) (den_at n m k 3 (by decide)) rfl (den_at n m k 4 (by decide)) (by omega) (by omega) (by omega))
    (ibCons (ibLt (a := ((en n m k + 2 : Nat) : Int)) (b := ((en n m (k + 1) : Nat) : Int)) (den_at n m k 4 (by decide)) (den_at n m k 1 (by decide)) (decide_eq_true (by omega)))
    (ibCons (ibGe (a := ((en n m k + 2 : Nat) : Int)) (b := 0) (den_at n m k 4 (by decide)) rfl (decide_eq_true (by omega)))
    (ibCons (ibEq (a := ((en n m k + 1 : Nat) : Int)) (b := 0) (den_at n m k 3 (by decide)) rfl (decide_eq_false (by omega)))
    (ibCons (ibLt (a := ((8 : Nat) : Int)) (b := ((en n m (k + 1) : Nat) : Int)) rfl (den_at n m k 1 (by decide)) (decide_eq_true (by omega)))
    (ibCons (ibGe (a := ((8 : Nat) : Int)) (b := 0) rfl rfl (decide_eq_true (by omega)))
    (ibCons (ibLt (a := ((10 : Nat) : Int)) (b := ((en n m (k + 1) : Nat) : Int)) rfl (den_at n m k 1 (by decide)) (decide_eq_true (by omega)))
    (ibCons (ibGe (a := ((10 : Nat) : Int)) (b := 0) rfl rfl (decide_eq_true (by omega)))
    (ibCons (ibGe (a := ((k : Nat) : Int)) (b := ((n : Nat) : Int)) rfl (den_at n m k 6 (by decide)) (decide_eq_false (by omega)))
    (ibCons (ibAdd (a := ((11 : Nat) : Int)) (b := ((k : Nat) : Int)) (c := ((11 + k : Nat) : Int)) rfl rfl (den_at n m k 7 (by decide)) (by omega) (by omega) (by omega))
    (ibCons (ibLt (a := ((11 + k : Nat) : Int)) (b := ((en n m (k + 1) : Nat) : Int)) (den_at n m k 7 (by decide)) (den_at n m k 1 (by decide)) (decide_eq_true (by omega)))
    (ibCons (ibGe (a := ((11 + k : Nat) : Int)) (b := 0) (den_at n m k 7 (by decide)) rfl (decide_eq_true (by omega)))
    (ibCons (ibAndNotW (W := 0#64) (U := full) (V := 0#64 &&& ~~~full) (den_at n m k 8 (by decide)) rfl (den_at n m k 9 (by decide)) rfl)
    (ibCons (ibShlW (W := BitVec.ofNat 64 (en n m k + 1)) (V := BitVec.ofNat 64 (en n m k + 1) <<< 0) (s := 0) (den_at n m k 10 (by decide)) rfl (den_at n m k 11 (by decide)) (by decide) rfl)
    (ibCons (ibAndW (W := BitVec.ofNat 64 (en n m k + 1) <<< 0) (U := full) (V := (BitVec.ofNat 64 (en n m k + 1) <<< 0) &&& full) (den_at n m k 11 (by decide)) rfl (den_at n m k 12 (by decide)) rfl)
    (ibCons (ibOrW (W := 0#64 &&& ~~~full) (U := (BitVec.ofNat 64 (en n m k + 1) <<< 0) &&& full) (V := xw n m k) (den_at n m k 9 (by decide)) (den_at n m k 12 (by decide)) (den_at n m k 13 (by decide)) rfl)
    ibNil)))))))))))))))))))))))
theorem r0N_ok {n m : Nat} (hn : n < 20) (hm : m < 20) : ∀ r ∈ r0N n, IbOk (ivN n m) r := by
  letI := Tab.empty
  have h4 := sw_bd hm
  have h5 : sw m = 3 + (m * 4 + 7) / 8 := rfl
  exact (ibCons (ibLt (a := ((n : Nat) : Int)) (b := 0) rfl rfl (decide_eq_false (by omega)))
    (ibCons (ibLt (a := ((m : Nat) : Int)) (b := 0) rfl rfl (decide_eq_false (by omega)))
    (ibCons (ibGt (a := ((n : Nat) : Int)) (b := 2147483647) rfl rfl (decide_eq_false (by omega)))
    (ibCons (ibMul (a := ((n : Nat) : Int)) (b := 8) (c := ((n * 8 : Nat) : Int)) rfl rfl rfl (by omega) (by omega) (by omega))
    (ibCons (ibAdd (a := ((n * 8 : Nat) : Int)) (b := 8) (c := ((n * 8 + 8 : Nat) : Int)) rfl rfl rfl (by omega) (by omega) (by omega))
    (ibCons (ibSub (a := ((n * 8 + 8 : Nat) : Int)) (b := 1) (c := ((n * 8 + 7 : Nat) : Int)) rfl rfl rfl (by omega) (by omega) (by omega))
    (ibCons (ibQuo (a := ((n * 8 + 7 : Nat) : Int)) (b := 8) (c := ((n : Nat) : Int)) rfl rfl rfl (by omega) (by rw [Int.tdiv_eq_ediv_of_nonneg (by omega)]; omega) (by omega) (by omega))
    (ibCons (ibAdd (a := 3) (b := ((n : Nat) : Int)) (c := ((3 + n : Nat) : Int)) rfl rfl rfl (by omega) (by omega) (by omega))
    (ibCons (ibLt (a := ((3 + n : Nat) : Int)) (b := 0) rfl rfl (decide_eq_false (by omega)))
    (ibCons (ibSub (a := 2048) (b := ((8 : Nat) : Int)) (c := 2040) rfl rfl rfl (by omega) (by omega) (by omega))
    (ibCons (ibGt (a := ((3 + n : Nat) : Int)) (b := 2040) rfl rfl (decide_eq_false (by omega)))
    (ibCons (ibLt (a := ((8 : Nat) : Int)) (b := ((11 + n : Nat) : Int)) rfl rfl (decide_eq_true (by omega)))
    (ibCons (ibGe (a := ((8 : Nat) : Int)) (b := 0) rfl rfl (decide_eq_true (by omega)))
    (ibCons (ibAdd (a := ((8 : Nat) : Int)) (b := 1) (c := ((9 : Nat) : Int)) rfl rfl rfl (by omega) (by omega) (by omega))
    (ibCons (ibGt (a := ((9 : Nat) : Int)) (b := 0) rfl rfl (decide_eq_true (by omega)))
    (ibCons (ibAdd (a := ((9 : Nat) : Int)) (b := 1) (c := ((10 : Nat) : Int)) rfl rfl rfl (by omega) (by omega) (by omega))
    (ibCons (ibLt (a := ((10 : Nat) : Int)) (b := ((11 + n : Nat) : Int)) rfl rfl (decide_eq_true (by omega)))
    (ibCons (ibGe (a := ((10 : Nat) : Int)) (b := 0) rfl rfl (decide_eq_true (by omega)))
    (ibCons (ibEq (a := ((9 : Nat) : Int)) (b := 0) rfl rfl (decide_eq_false (by omega)))
    (ibCons (ibGt (a := ((m : Nat) : Int)) (b := 2147483647) rfl rfl (decide_eq_false (by omega)))
    (ibCons (ibMul (a := ((m : Nat) : Int)) (b := 4) (c := ((m * 4 : Nat) : Int)) rfl rfl rfl (by omega) (by omega) (by omega))
    (ibCons (ibAdd (a := ((m * 4 : Nat) : Int)) (b := 8) (c := ((m * 4 + 8 : Nat) : Int)) rfl rfl rfl (by omega) (by omega) (by omega))
    (ibCons (ibSub (a := ((m * 4 + 8 : Nat) : Int)) (b := 1) (c := ((m * 4 + 7 : Nat) : Int)) rfl rfl rfl (by omega) (by omega) (by omega))
    (ibCons (ibQuo (a := ((m * 4 + 7 : Nat) : Int)) (b := 8) (c := (((m * 4 + 7) / 8 : Nat) : Int)) rfl rfl rfl (by omega) (by rw [Int.tdiv_eq_ediv_of_nonneg (by omega)]; omega) (by omega) (by omega))
    (ibCons (ibAdd (a := 3) (b := (((m * 4 + 7) / 8 : Nat) : Int)) (c := ((sw m : Nat) : Int)) rfl rfl rfl (by omega) (by omega) (by omega))
    (ibCons (ibLt (a := ((sw m : Nat) : Int)) (b := 0) rfl rfl (decide_eq_false (by omega)))
    (ibCons (ibSub (a := ((9 : Nat) : Int)) (b := 1) (c := ((8 : Nat) : Int)) rfl rfl rfl (by omega) (by omega) (by omega))
    (ibCons (ibAdd (a := ((8 : Nat) : Int)) (b := 3) (c := ((11 : Nat) : Int)) rfl rfl rfl (by omega) (by omega) (by omega))
    (ibCons (ibLt (a := ((n : Nat) : Int)) (b := ((n : Nat) : Int)) rfl rfl (decide_eq_false (by omega)))
    ibNil)))))))))))))))))))))))))))))
theorem app_all {α : Type} {p : α → Prop} {l k : List α} (h1 : ∀ x ∈ l, p x) (h2 : ∀ x ∈ k, p x) : ∀ x ∈ l ++ k, p x := fun x hx => (List.mem_append.1 hx).elim (h1 x) (h2 x)
theorem rbN_ok {n m : Nat} (hn : n < 20) (hm : m < 20) : ∀ k, k ≤ n → ∀ r ∈ rbN n k, IbOk (ivN n m) r
  | 0, _ => r0N_ok hn hm
  | k + 1, h => app_all (rkN_ok hn hm h) (rbN_ok hn hm k (by omega))
/- conversions -/
def rcN : Nat → List (IntKind × AV × AV)
  | 0 => [(.u64, .oi 0, .oi 14), (.u64, .oi 1, .oi 25)]
  | k + 1 => (.i64, .oi (Nn k 5), .oi (Nn k 6)) :: (.u64, .oi (Nn k 3), .oi (Nn k 10)) :: rcN k
theorem wrapU_of {a : Nat} (h : a < 100000) : IntKind.u64.wrap (a : Int) = wI (BitVec.ofNat 64 a) := by
  rw [wI_ofNat (by omega)]
  unfold IntKind.wrap IntKind.bits IntKind.signed
  simp
  omega
theorem rcN_ok {n m : Nat} (hn : n < 20) (hm : m < 20) : ∀ k, k ≤ n → ∀ r ∈ rcN k, IcOk' (ivN n m) r
  | 0, _ => icCons (icOf (k := .u64) (n := ((n : Nat) : Int)) (c := wI (BitVec.ofNat 64 n)) rfl rfl (wrapU_of (by omega))) (icCons (icOf (k := .u64) (n := ((m : Nat) : Int)) (c := wI (BitVec.ofNat 64 m)) rfl rfl (wrapU_of (by omega))) icNil)
  | k + 1, h => by
    have h2 := en_hi hn hm (show k + 1 ≤ n from h)
    have h3 := enS n m k
    exact icCons (icOf (k := .i64) (n := wI (BitVec.ofNat 64 n)) (c := ((n : Nat) : Int)) (den_at n m k 5 (by decide)) (den_at n m k 6 (by decide)) (by rw [wI_ofNat (by omega)]; exact wrap64 (by omega) (by omega))) (icCons (icOf (k := .u64) (n := ((en n m k + 1 : Nat) : Int)) (c := wI (BitVec.ofNat 64 (en n m k + 1))) (den_at n m k 3 (by decide)) (den_at n m k 10 (by decide)) (wrapU_of (by omega))) (rcN_ok hn hm k (by omega)))
/- vectors -/
def rzN : Nat → List VZ
  | 0 => [⟨0, 2, 1, 8, [.int .u64 0], 2, 10⟩]
  | k + 1 => ⟨pwN k, eN k, 1, 19, [.int .u64 0], Vn k 0, Nn k 1⟩ :: rzN k
def rsN : Nat → List VS
  | 0 => [⟨2, 2, 1, 0, [.int .u64 3], 3⟩, ⟨3, 13, 1, 0, [.oi 14], 5⟩]
  | k + 1 => ⟨Vn k 0, eN k, 1, 0, [.int .u64 4], Vn k 1⟩ :: ⟨Vn k 1, Nn k 4, 1, 0, [.oi 25], Vn k 2⟩ :: ⟨Vn k 2, Nn k 7, 1, 0, [.oi (Nn k 13)], Vn k 3⟩ :: rsN k
def raN : Nat → List VA
  | 0 => [⟨1, 3, 1, [.oi 2], 4, 11⟩]
  | k + 1 => ⟨psN k, sN k, 1, [.oi (eN k)], Sn k, Nn k 2⟩ :: raN k
def rlN : Nat → List VL
  | 0 => []
  | k + 1 => ⟨Vn k 2, 26, 1, 0, [.int .u64 3]⟩ :: ⟨Vn k 2, 13, 1, 0, [.oi (Nn k 5)]⟩ :: ⟨Vn k 2, Nn k 7, 1, 0, [.oi (Nn k 8)]⟩ :: rlN k
theorem rzN_ok {n m : Nat} (hn : n < 20) (hm : m < 20) : ∀ k, k ≤ n → ∀ r ∈ rzN k, VzOk (ivN n m) (vvN n m) (vkN n m) r
  | 0, _ => allCons (vzW (L := l8) (a := 8) (b := 11 + n) (c := 3 + n) (W := fun _ => 0#64) (W' := fun _ => 0#64) rfl rfl rfl rfl rfl rfl rfl rfl (by omega) (by omega) (by decide) (fun _ _ => rfl) (fun _ _ => rfl)) allNil
  | k + 1, h => by
    have h1 := en_lo n m k
    have h2 := en_hi hn hm (show k + 1 ≤ n from h)
    have h3 := enS n m k
    exact allCons (vzW (L := l8) (a := en n m k) (b := en n m (k + 1)) (c := sw m) (W := wp n m k) (W' := wv n m k 0) (eN_at n m k) rfl (ivN_at n m k 1 (by decide)) (pw_v n m k (by omega)) (vvN_v n m k 0 (by decide) (by omega)) (vkN_v n m k 0 (by decide) (by omega)) rfl rfl h3 (by omega) (show 8 ≤ _ by omega) (fun _ _ => rfl) (fun x hx => wp_zero k (by omega) x (by have : en n m k ≤ 8 + x := hx; omega))) (rzN_ok hn hm k (by omega))
theorem rsN_ok {n m : Nat} (hn : n < 20) (hm : m < 20) : ∀ k, k ≤ n → ∀ r ∈ rsN k, VsOk (ivN n m) (vvN n m) (vkN n m) r
  | 0, _ => allCons (vsW2 (L := l8) (n := 11 + n) (W := fun _ => 0#64) (W' := fun x => if x = 0 then 3#64 else 0#64) (k := 8) (q := 0) (x := .int .u64 3) rfl rfl rfl rfl rfl rfl rfl rfl rfl (by omega) rfl (fun _ h_ => if_neg h_)) (allCons (vsW2 (L := l8) (n := 11 + n) (W := fun x => if x = 0 then 3#64 else 0#64) (W' := wp n m 0) (k := 10) (q := 2) (x := .oi 14) rfl rfl rfl rfl rfl rfl rfl rfl rfl (by omega) rfl (fun _ h_ => if_neg h_)) allNil)
  | k + 1, h => by
    have h1 := en_lo n m k
    have h2 := en_hi hn hm (show k + 1 ≤ n from h)
    have h3 := enS n m k
    have h4 := sw_bd hm
    have v0 := vvN_v n m k 0 (by decide) (by omega)
    have v1 := vvN_v n m k 1 (by decide) (by omega)
    have v2 := vvN_v n m k 2 (by decide) (by omega)
    have v3 := vvN_v n m k 3 (by decide) (by omega)
    have k0 := vkN_v n m k 0 (by decide) (by omega)
    have k1 := vkN_v n m k 1 (by decide) (by omega)
    have k2 := vkN_v n m k 2 (by decide) (by omega)
    have k3 := vkN_v n m k 3 (by decide) (by omega)
    refine allCons (vsW2 (L := l8) (n := en n m (k + 1)) (W := wv n m k 0) (W' := wv n m k 1) (k := en n m k) (q := en n m k - 8) (x := .int .u64 4) (eN_at n m k) v0 v1 k0 k1 rfl rfl rfl (show en n m k = 8 + (en n m k - 8) by omega) (by omega) (by show some (IntKind.u64, (4 : Int)) = some (IntKind.u64, wI (if en n m k - 8 = en n m k - 8 then 4#64 else wp n m k (en n m k - 8))); rw [if_pos rfl]; rfl) (fun _ h_ => if_neg h_)) ?_
    refine allCons (vsW2 (L := l8) (n := en n m (k + 1)) (W := wv n m k 1) (W' := wv n m k 2) (k := en n m k + 2) (q := en n m k - 6) (x := .oi 25) (ivN_at n m k 4 (by decide)) v1 v2 k1 k2 rfl rfl rfl (show en n m k + 2 = 8 + (en n m k - 6) by omega) (by omega) (by show some (IntKind.u64, wI (BitVec.ofNat 64 m)) = some (IntKind.u64, wI (if en n m k - 6 = en n m k - 6 then BitVec.ofNat 64 m else _)); rw [if_pos rfl]) (fun _ h_ => if_neg h_)) ?_
    exact allCons (vsW2 (L := l8) (n := en n m (k + 1)) (W := wv n m k 2) (W' := wv n m k 3) (k := 11 + k) (q := 3 + k) (x := .oi (Nn k 13)) (ivN_at n m k 7 (by decide)) v2 v3 k2 k3 rfl rfl rfl (show 11 + k = 8 + (3 + k) by omega) (by omega) (by rw [den_at n m k 13 (by decide)]; show some (IntKind.u64, wI (xw n m k)) = some (IntKind.u64, wI (if 3 + k = 3 + k then xw n m k else _)); rw [if_pos rfl]) (fun _ h_ => if_neg h_)) (rsN_ok hn hm k (by omega))
theorem raN_ok {n m : Nat} (hn : n < 20) (hm : m < 20) : ∀ k, k ≤ n → ∀ r ∈ raN k, VaOk (ivN n m) (vvN n m) (vkN n m) r
  | 0, _ => allCons (vaN1 (L := l3) (n := 3) (F := fb n m) (k := 0) (x := .oi 2) rfl rfl rfl rfl (by show 4 ≤ _; omega) rfl rfl rfl (by omega) rfl) allNil
  | k + 1, h => allCons (vaN1 (L := l3) (n := k + 4) (F := fb n m) (k := k + 1) (x := .oi (eN k)) (sN_at n m k) (ivN_at n m k 2 (by decide)) (ps_v n m k) (vvN_s n m k) (by show vkN n m (Sn k) ≤ _; rw [vkN_s]; omega) rfl rfl (show k + 4 = 3 + (k + 1) by omega) (by omega) (den_e n m k)) (raN_ok hn hm k (by omega))
theorem rlN_ok {n m : Nat} (hn : n < 20) (hm : m < 20) : ∀ k, k ≤ n → ∀ r ∈ rlN k, VlOk (ivN n m) (vvN n m) r
  | 0, _ => allNil
  | k + 1, h => by
    have h1 := en_lo n m k
    have h2 := en_hi hn hm (show k + 1 ≤ n from h)
    have h3 := enS n m k
    have h4 := sw_bd hm
    have v2 := vvN_v n m k 2 (by decide) (by omega)
    have e0 : wv n m k 2 0 = 3#64 := by
      show (if 0 = en n m k - 6 then _ else if 0 = en n m k - 8 then _ else wp n m k 0) = _
      rw [if_neg (by omega), if_neg (by omega), wp_row k (by omega) 0 (by omega)]
      rfl
    have e2 : wv n m k 2 2 = BitVec.ofNat 64 n := by
      show (if 2 = en n m k - 6 then _ else if 2 = en n m k - 8 then _ else wp n m k 2) = _
      rw [if_neg (by omega), if_neg (by omega), wp_row k (by omega) 2 (by omega)]
      rfl
    have e3 : wv n m k 2 (3 + k) = 0#64 := by
      show (if 3 + k = en n m k - 6 then _ else if 3 + k = en n m k - 8 then _ else wp n m k (3 + k)) = _
      rw [if_neg (by omega), if_neg (by omega), wp_later k (by omega) k (by omega) (by omega)]
    refine allCons (vlW3 (L := l8) (n := en n m (k + 1)) (W := wv n m k 2) (k := 8) (q := 0) (c := 3) rfl v2 rfl rfl rfl rfl (by omega) (by rw [e0]; rfl)) ?_
    refine allCons (vlW2 (L := l8) (n := en n m (k + 1)) (W := wv n m k 2) (k := 10) (q := 2) (y := Nn k 5) rfl v2 rfl rfl rfl rfl (by omega) (by rw [ivN_at n m k 5 (by decide), e2]; rfl)) ?_
    exact allCons (vlW2 (L := l8) (n := en n m (k + 1)) (W := wv n m k 2) (k := 11 + k) (q := 3 + k) (y := Nn k 8) (ivN_at n m k 7 (by decide)) v2 rfl rfl rfl (show 11 + k = 8 + (3 + k) by omega) (by omega) (by rw [ivN_at n m k 8 (by decide), e3]; rfl)) (rlN_ok hn hm k (by omega))
abbrev RN {n m : Nat} (hn : n < 20) (hm : m < 20) : VRows (ivN n m) (vvN n m) (vkN n m) where
  vvp := vpN_ok n m
  ib := rbN n n
  ibok := rbN_ok hn hm n (Nat.le_refl _)
  ic := rcN n
  icok := rcN_ok hn hm n (Nat.le_refl _)
  vz := rzN n
  vzok := rzN_ok hn hm n (Nat.le_refl _)
  vs := rsN n
  vsok := rsN_ok hn hm n (Nat.le_refl _)
  va := raN n
  vaok := raN_ok hn hm n (Nat.le_refl _)
  vl := rlN n
  vlok := rlN_ok hn hm n (Nat.le_refl _)
/- searches -/
def fsN (n m : Nat) : Nat → Int
  | 0 => 0
  | 1 => 2
  | 2 => 5
  | q + 3 => fb n m q
theorem fsN_hi {n m q : Nat} : fb n m q = fsN n m (3 + q) := by rw [Nat.add_comm]; rfl
theorem l3_is {n m : Nat} : ∀ q x, l3[q]? = some x → x = AV.int .i64 (fsN n m q) := fun q x h => by
  match q, h with
  | 0, h => cases h; rfl
  | 1, h => cases h; rfl
  | 2, h => cases h; rfl
  | q + 3, h => rw [List.getElem?_eq_none (by simp)] at h; cases h
theorem fb_step (n m : Nat) : ∀ q, fb n m q + 3 ≤ fb n m (q + 1)
  | 0 => by show (8 : Int) + 3 ≤ ((en n m 0 : Nat) : Int); rw [en0]; omega
  | q + 1 => by
    have h := enS n m q
    have h2 : 3 ≤ sw m := by unfold sw; omega
    show ((en n m q : Nat) : Int) + 3 ≤ ((en n m (q + 1) : Nat) : Int)
    omega
theorem fb_add (n m : Nat) : ∀ d q, fb n m q + 3 * d ≤ fb n m (q + d)
  | 0, q => by simp
  | d + 1, q => by
    have h1 := fb_add n m d q
    have h2 := fb_step n m (q + d)
    rw [show q + (d + 1) = q + d + 1 by omega]
    omega
theorem fb_lo (n m q : Nat) : 8 ≤ fb n m q := by
  have h := fb_add n m q 0
  rw [Nat.zero_add] at h
  have : fb n m 0 = 8 := rfl
  omega
theorem fsN_inc {n m c : Nat} : ∀ a k, a < k → k < c → fsN n m a < fsN n m k := by
  intro a k ha _
  match a, k with
  | 0, 0 => omega
  | 0, 1 => exact (show (0 : Int) < 2 by decide)
  | 0, 2 => exact (show (0 : Int) < 5 by decide)
  | 0, k + 3 => have := fb_lo n m k; show (0 : Int) < fb n m k; omega
  | 1, 0 => omega
  | 1, 1 => omega
  | 1, 2 => exact (show (2 : Int) < 5 by decide)
  | 1, k + 3 => have := fb_lo n m k; show (2 : Int) < fb n m k; omega
  | 2, 0 => omega
  | 2, 1 => omega
  | 2, 2 => omega
  | 2, k + 3 => have := fb_lo n m k; show (5 : Int) < fb n m k; omega
  | a + 3, 0 => omega
  | a + 3, 1 => omega
  | a + 3, 2 => omega
  | a + 3, k + 3 =>
    have h := fb_add n m (k - a) a
    rw [show a + (k - a) = k by omega] at h
    show fb n m a < fb n m k
    omega
noncomputable def hkN : Nat → Hand
  | 0 => Hand.none
  | k + 1 => (bs.bsHand (Sn k) (Nn k 2) 26 27).or (hkN k)
theorem hkN_ok {n m : Nat} (hn : n < 20) (hm : m < 20) : ∀ k, k ≤ n → @HandOk (RN hn hm).tab Tryz.prog (hkN k)
  | 0, _ => @HandOk.none (RN hn hm).tab Tryz.prog
  | k + 1, h => by
    letI : Tab := (RN hn hm).tab
    exact HandOk.or (bs.bsHand_ok (T := (RN hn hm).tab) (i := Sn k) (j := Nn k 2) (t := 26) (r := 27) (n := k + 5) (p := 3) (F := fsN n m) (ivN_at n m k 2 (by decide)) rfl rfl (pvnHs (T := (RN hn hm).tab) (L := l3) (F := fb n m) (G := fsN n m) (vvN_s n m k) l3_is (fun q _ => fsN_hi)) (by omega) (by omega) fsN_inc) (hkN_ok hn hm k (by omega))
end Go.Proofs.YthgncmohimdbmaaGreatDoor.mx
