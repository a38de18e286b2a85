/-
  What the law HeapKinds gives where the kind is Z: true.
-/
import Derived.Test.YtdknapjpeegooaaGreatDoorXCall
import Derived.Test.YtdknapjpeegooaaGreatDoorXKind
import Derived.Test.YtdknapjpeegooaaGreatDoorHQG
import Derived.KernelRfl
set_option linter.unusedVariables false
set_option linter.unusedSimpArgs false
set_option maxRecDepth 100000
namespace Go.Proofs.YtdknapjpeegooaaGreatDoor.kind3
open Go.X Go.RowKit

abbrev cI (n : Int) : AV := .int .i64 n
abbrev z64 : AV := .int .u64 0
noncomputable def codeOf (f : Func) : Code := f.body.getD .skip
noncomputable def hd : Code → Code
  | .seq c _ => c
  | _ => .skip
noncomputable def tl : Code → Code
  | .seq _ c => c
  | _ => .skip
noncomputable def lpIn : Code → Code
  | .block _ (.loop c) => c
  | _ => .skip
noncomputable def body : Code := codeOf Tryz.f3
noncomputable def r8 : Code := restn 8 body
noncomputable def a0 : Code := hd (hd r8)
noncomputable def la : Code := lpIn (tl (hd r8))
noncomputable def r9 : Code := tl r8
noncomputable def rB : Code := restn 3 r9
noncomputable def b0 : Code := hd (hd rB)
noncomputable def lb : Code := lpIn (tl (hd rB))
noncomputable def last : Code := tl rB
theorem body_eq : Tryz.f3.body = some body := by kernel_rfl
theorem r8_eq : restn 8 body = .seq (.seq a0 (.block 0 (.loop la))) r9 := by kernel_rfl
theorem rB_eq : restn 3 r9 = .seq (.seq b0 (.block 2 (.loop lb))) last := by kernel_rfl
theorem mx : Tryz.prog.follows .mixedOrders = true := by kernel_rfl
noncomputable abbrev KH : Hand := sumsHand tabG
abbrev fvB : BitVec 64 := BitVec.ofNat 64 1
abbrev pvB (v : Int) : BitVec 64 := BitVec.ofInt 64 (v % 2)
abbrev cP (i : Nat) : Nat → BitVec 64 := putsTo 8 8 (fun _ => fvB) i
abbrev cF (n t : Nat) (v : Int) : Nat → BitVec 64 := upd 8 8 (cP n) t (pvB v)
/-- the words: the shape, the count, the length, the elements -/
def eW (n : Nat) (c : Nat → BitVec 64) : Nat → Int := fun m => if m < 3 then (if m = 2 then (n : Int) else 0) else wI (c (m - 3))
theorem eW_at (n : Nat) (c : Nat → BitVec 64) (q : Nat) : eW n c ((3 + q) * 1 + 0) = wI (c q) := by
  unfold eW
  rw [if_neg (by omega)]
  congr 3
  omega
abbrev wN (n : Nat) : Nat := 3 + (n * 1 + 7) / 8
abbrev ivP (n t : Nat) (v : Int) (i : Nat) : Nat → IntKind × Int := fun i0 => match i0 with
  | 1 => (.i64, (n : Int)) | 2 => (.i64, (t : Int)) | 3 => (.i64, v) | 4 => (.i64, (i : Int)) | 5 => (.i64, ((i / 8 : Nat) : Int)) | 6 => (.i64, ((3 + i / 8 : Nat) : Int)) | 7 => (.i64, ((i % 8 : Nat) : Int)) | 8 => (.i64, ((i % 8 * 1 : Nat) : Int)) | 9 => (.i64, ((i % 8 * 8 : Nat) : Int)) | 10 => (.u64, wI (msk 8 (i % 8 * 8))) | 11 => (.u64, wI (cP i (i / 8))) | 12 => (.u64, wI (cP i (i / 8) &&& ~~~msk 8 (i % 8 * 8))) | 13 => (.u64, wI (fvB <<< (i % 8 * 8))) | 14 => (.u64, wI ((fvB <<< (i % 8 * 8)) &&& msk 8 (i % 8 * 8))) | 15 => (.u64, wI (setW 8 (i % 8 * 8) (cP i (i / 8)) fvB)) | 16 => (.i64, ((i + 1 : Nat) : Int)) | 17 => (.u64, (n : Int)) | 18 => (.i64, ((3 + (n * 1 + 7) / 8 : Nat) : Int)) | 19 => (.i64, ((2 : Nat) : Int)) | 20 => (.i64, ((0 : Nat) : Int)) | 40 => (.i8, IntKind.i8.wrap v) | 41 => (.i64, IntKind.i64.wrap (IntKind.i8.wrap v)) | 42 => (.i16, IntKind.i16.wrap v) | 43 => (.i64, IntKind.i64.wrap (IntKind.i16.wrap v)) | 44 => (.u16, IntKind.u16.wrap v) | 45 => (.i64, IntKind.i64.wrap (IntKind.u16.wrap v)) | 46 => (.i64, v % 2) | 47 => (.i32, IntKind.i32.wrap v) | 48 => (.i64, IntKind.i64.wrap (IntKind.i32.wrap v)) | _ => (.i64, 0)
abbrev ivV (n t : Nat) (v : Int) : Nat → IntKind × Int := fun i0 => match i0 with
  | 1 => (.i64, (n : Int)) | 2 => (.i64, (t : Int)) | 3 => (.i64, v) | 17 => (.u64, (n : Int)) | 18 => (.i64, ((3 + (n * 1 + 7) / 8 : Nat) : Int)) | 19 => (.i64, ((2 : Nat) : Int)) | 20 => (.i64, ((0 : Nat) : Int)) | 25 => (.i64, ((t / 8 : Nat) : Int)) | 26 => (.i64, ((3 + t / 8 : Nat) : Int)) | 27 => (.i64, ((t % 8 : Nat) : Int)) | 28 => (.i64, ((t % 8 * 1 : Nat) : Int)) | 29 => (.i64, ((t % 8 * 8 : Nat) : Int)) | 30 => (.u64, wI (msk 8 (t % 8 * 8))) | 31 => (.u64, wI (cP n (t / 8))) | 32 => (.u64, wI (cP n (t / 8) &&& ~~~msk 8 (t % 8 * 8))) | 33 => (.u64, wI (pvB v <<< (t % 8 * 8))) | 34 => (.u64, wI ((pvB v <<< (t % 8 * 8)) &&& msk 8 (t % 8 * 8))) | 35 => (.u64, wI (setW 8 (t % 8 * 8) (cP n (t / 8)) (pvB v))) | 38 => (.u64, wI (pvB v)) | 40 => (.i8, IntKind.i8.wrap v) | 41 => (.i64, IntKind.i64.wrap (IntKind.i8.wrap v)) | 42 => (.i16, IntKind.i16.wrap v) | 43 => (.i64, IntKind.i64.wrap (IntKind.i16.wrap v)) | 44 => (.u16, IntKind.u16.wrap v) | 45 => (.i64, IntKind.i64.wrap (IntKind.u16.wrap v)) | 46 => (.i64, v % 2) | 47 => (.i32, IntKind.i32.wrap v) | 48 => (.i64, IntKind.i64.wrap (IntKind.i32.wrap v)) | _ => (.i64, 0)
abbrev ivG (n t : Nat) (v : Int) (i : Nat) : Nat → IntKind × Int := fun i0 => match i0 with
  | 1 => (.i64, (n : Int)) | 2 => (.i64, (t : Int)) | 3 => (.i64, v) | 4 => (.i64, (i : Int)) | 5 => (.i64, ((i / 8 : Nat) : Int)) | 6 => (.i64, ((3 + i / 8 : Nat) : Int)) | 7 => (.i64, ((i % 8 : Nat) : Int)) | 8 => (.i64, ((i % 8 * 1 : Nat) : Int)) | 9 => (.i64, ((i % 8 * 8 : Nat) : Int)) | 11 => (.u64, wI (cF n t v (i / 8))) | 12 => (.u64, wI (cF n t v (i / 8) >>> (i % 8 * 8))) | 13 => (.i64, IntKind.i64.wrap (wI (cF n t v (i / 8) >>> (i % 8 * 8)))) | 16 => (.i64, ((i + 1 : Nat) : Int)) | 17 => (.u64, (n : Int)) | 18 => (.i64, ((3 + (n * 1 + 7) / 8 : Nat) : Int)) | 19 => (.i64, ((2 : Nat) : Int)) | 20 => (.i64, ((0 : Nat) : Int)) | 40 => (.i8, IntKind.i8.wrap v) | 41 => (.i64, IntKind.i64.wrap (IntKind.i8.wrap v)) | 42 => (.i16, IntKind.i16.wrap v) | 43 => (.i64, IntKind.i64.wrap (IntKind.i16.wrap v)) | 44 => (.u16, IntKind.u16.wrap v) | 45 => (.i64, IntKind.i64.wrap (IntKind.u16.wrap v)) | 46 => (.i64, v % 2) | 47 => (.i32, IntKind.i32.wrap v) | 48 => (.i64, IntKind.i64.wrap (IntKind.i32.wrap v)) | _ => (.i64, 0)
abbrev ivB (x : Int) (n t : Nat) (v : Int) : Nat → IntKind × Int := fun i0 => match i0 with
  | 0 => (.i64, x) | 1 => (.i64, (n : Int)) | 2 => (.i64, (t : Int)) | 3 => (.i64, v) | 17 => (.u64, (n : Int)) | 18 => (.i64, ((3 + (n * 1 + 7) / 8 : Nat) : Int)) | 19 => (.i64, ((2 : Nat) : Int)) | 20 => (.i64, ((0 : Nat) : Int)) | 21 => (.i64, x.tmod 6) | 22 => (.i64, x.tmod 6 + 6) | 23 => (.i64, ((n * 1 : Nat) : Int)) | 24 => (.i64, ((n * 1 + 8 : Nat) : Int)) | 25 => (.i64, ((n * 1 + 7 : Nat) : Int)) | 26 => (.i64, (((n * 1 + 7) / 8 : Nat) : Int)) | _ => (.i64, 0)
abbrev vvP (n i : Nat) : Nat → Nat → Option AV := fun j => match j with | 0 => numV .u64 (wN n) (fun _ => 0) | 1 => numV .u64 (wN n) (eW n (cP i)) | 2 => numV .u64 (wN n) (eW n (cP (i + 1))) | _ => fun _ => none
abbrev vvV (n t : Nat) (v : Int) : Nat → Nat → Option AV := fun j => match j with | 0 => numV .u64 (wN n) (fun _ => 0) | 1 => numV .u64 (wN n) (eW n (cP n)) | 2 => numV .u64 (wN n) (eW n (cF n t v)) | _ => fun _ => none
abbrev vvG (n t : Nat) (v : Int) : Nat → Nat → Option AV := fun j => match j with | 0 => numV .u64 (wN n) (fun _ => 0) | 1 => numV .u64 (wN n) (eW n (cF n t v)) | 2 => numV .u64 (wN n) (fun _ => 0) | _ => fun _ => none
abbrev vkA (n : Nat) : Nat → Nat := fun j => match j with | 0 => wN n | 1 => wN n | 2 => wN n | _ => 0
theorem vvPp {n i : Nat} : ∀ j m x, vvP n i j m = some x → plain x = true := fun j m x h => by
  match j, h with
  | 0, h => exact numV_plain m x h
  | 1, h => exact numV_plain m x h
  | 2, h => exact numV_plain m x h
  | (j + 3), h => cases h
theorem vvVp {n t : Nat} {v : Int} : ∀ j m x, vvV n t v j m = some x → plain x = true := fun j m x h => by
  match j, h with
  | 0, h => exact numV_plain m x h
  | 1, h => exact numV_plain m x h
  | 2, h => exact numV_plain m x h
  | (j + 3), h => cases h
theorem vvGp {n t : Nat} {v : Int} : ∀ j m x, vvG n t v j m = some x → plain x = true := fun j m x h => by
  match j, h with
  | 0, h => exact numV_plain m x h
  | 1, h => exact numV_plain m x h
  | 2, h => exact numV_plain m x h
  | (j + 3), h => cases h
abbrev rA : List BRow := [(11, .oi 4, .oi 1, .bool true), (11, .oi 4, cI 0, .bool false), (14, .oi 4, .oi 1, .bool false), (3, .oi 4, cI 8, .oi 5), (0, cI 3, .oi 5, .oi 6), (4, .oi 4, cI 8, .oi 7), (2, .oi 7, cI 1, .oi 8), (2, .oi 8, cI 8, .oi 9), (15, .int .u64 255, .oi 9, .oi 10), (8, .oi 11, .oi 10, .oi 12), (15, .int .u64 1, .oi 9, .oi 13), (5, .oi 13, .oi 10, .oi 14), (6, .oi 12, .oi 14, .oi 15), (11, .oi 6, .oi 18, .bool true), (14, .oi 6, cI 0, .bool true), (11, .oi 20, .oi 18, .bool true), (14, .oi 20, cI 0, .bool true), (11, .oi 19, .oi 18, .bool true), (14, .oi 19, cI 0, .bool true), (0, .oi 4, cI 1, .oi 16)]
theorem rA_ok {n t : Nat} {v : Int} {i : Nat} (hn : n ≤ 100) (hi : i < n) : ∀ r ∈ rA, IbOk (ivP n t v i) r := by
  letI := Tab.empty
  exact (ibCons (ibLt (a := ((i : Int))) (b := ((n : Int))) rfl rfl (decide_eq_true (by omega)))
    (ibCons (ibLt (a := ((i : Int))) (b := (0)) rfl rfl (decide_eq_false (by omega)))
    (ibCons (ibGe (a := ((i : Int))) (b := ((n : Int))) rfl rfl (decide_eq_false (by omega)))
    (ibCons (ibQuo (a := ((i : Int))) (b := (8)) (c := (((i / 8 : Nat) : Int))) rfl rfl rfl (by omega) (by rw [Int.tdiv_eq_ediv_of_nonneg (by omega)]; omega) (by omega) (by omega))
    (ibCons (ibAdd (a := (3)) (b := (((i / 8 : Nat) : Int))) (c := (((3 + i / 8 : Nat) : Int))) rfl rfl rfl (by omega) (by omega) (by omega))
    (ibCons (ibRem (a := ((i : Int))) (b := (8)) (c := (((i % 8 : Nat) : Int))) rfl rfl rfl (by omega) (by rw [Int.tmod_eq_emod_of_nonneg (by omega)]; omega))
    (ibCons (ibMul (a := (((i % 8 : Nat) : Int))) (b := (1)) (c := (((i % 8 * 1 : Nat) : Int))) rfl rfl rfl (by omega) (by omega) (by omega))
    (ibCons (ibMul (a := (((i % 8 * 1 : Nat) : Int))) (b := (8)) (c := (((i % 8 * 8 : Nat) : Int))) rfl rfl rfl (by omega) (by omega) (by omega))
    (ibCons (ibShlW (W := BitVec.ofNat 64 255) (V := (msk 8 (i % 8 * 8))) (s := (i % 8 * 8)) rfl rfl rfl (by omega) rfl)
    (ibCons (ibAndNotW (W := (cP i (i / 8))) (U := (msk 8 (i % 8 * 8))) (V := (cP i (i / 8) &&& ~~~msk 8 (i % 8 * 8))) rfl rfl rfl rfl)
    (ibCons (ibShlW (W := BitVec.ofNat 64 1) (V := (fvB <<< (i % 8 * 8))) (s := (i % 8 * 8)) rfl rfl rfl (by omega) rfl)
    (ibCons (ibAndW (W := (fvB <<< (i % 8 * 8))) (U := (msk 8 (i % 8 * 8))) (V := ((fvB <<< (i % 8 * 8)) &&& msk 8 (i % 8 * 8))) rfl rfl rfl rfl)
    (ibCons (ibOrW (W := (cP i (i / 8) &&& ~~~msk 8 (i % 8 * 8))) (U := ((fvB <<< (i % 8 * 8)) &&& msk 8 (i % 8 * 8))) (V := (setW 8 (i % 8 * 8) (cP i (i / 8)) fvB)) rfl rfl rfl rfl)
    (ibCons (ibLt (a := (((3 + i / 8 : Nat) : Int))) (b := (((3 + (n * 1 + 7) / 8 : Nat) : Int))) rfl rfl (decide_eq_true (by omega)))
    (ibCons (ibGe (a := (((3 + i / 8 : Nat) : Int))) (b := (0)) rfl rfl (decide_eq_true (by omega)))
    (ibCons (ibLt (a := (((0 : Nat) : Int))) (b := (((3 + (n * 1 + 7) / 8 : Nat) : Int))) rfl rfl (decide_eq_true (by omega)))
    (ibCons (ibGe (a := (((0 : Nat) : Int))) (b := (0)) rfl rfl (decide_eq_true (by omega)))
    (ibCons (ibLt (a := (((2 : Nat) : Int))) (b := (((3 + (n * 1 + 7) / 8 : Nat) : Int))) rfl rfl (decide_eq_true (by omega)))
    (ibCons (ibGe (a := (((2 : Nat) : Int))) (b := (0)) rfl rfl (decide_eq_true (by omega)))
    (ibCons (ibAdd (a := ((i : Int))) (b := (1)) (c := (((i + 1 : Nat) : Int))) rfl rfl rfl (by omega) (by omega) (by omega))
    ibNil))))))))))))))))))))

abbrev rAe : List BRow := [(11, .oi 4, .oi 1, .bool false)]
theorem rAe_ok {n t : Nat} {v : Int} : ∀ r ∈ rAe, IbOk (ivP n t v n) r := by
  letI := Tab.empty
  exact (ibCons (ibLt (a := ((n : Int))) (b := ((n : Int))) rfl rfl (decide_eq_false (by omega)))
    ibNil)

abbrev rV : List BRow := [(11, .oi 2, cI 0, .bool false), (14, .oi 2, .oi 1, .bool false), (3, .oi 2, cI 8, .oi 25), (0, cI 3, .oi 25, .oi 26), (4, .oi 2, cI 8, .oi 27), (2, .oi 27, cI 1, .oi 28), (2, .oi 28, cI 8, .oi 29), (15, .int .u64 255, .oi 29, .oi 30), (8, .oi 31, .oi 30, .oi 32), (15, .oi 38, .oi 29, .oi 33), (5, .oi 33, .oi 30, .oi 34), (6, .oi 32, .oi 34, .oi 35), (11, .oi 26, .oi 18, .bool true), (14, .oi 26, cI 0, .bool true), (11, .oi 20, .oi 18, .bool true), (14, .oi 20, cI 0, .bool true), (11, .oi 19, .oi 18, .bool true), (14, .oi 19, cI 0, .bool true), (5, .oi 3, cI 1, .oi 46)]
theorem rV_ok {n t : Nat} {v : Int} (hn : n ≤ 100) (hi : t < n) : ∀ r ∈ rV, IbOk (ivV n t v) r := by
  letI := Tab.empty
  exact (ibCons (ibLt (a := ((t : Int))) (b := (0)) rfl rfl (decide_eq_false (by omega)))
    (ibCons (ibGe (a := ((t : Int))) (b := ((n : Int))) rfl rfl (decide_eq_false (by omega)))
    (ibCons (ibQuo (a := ((t : Int))) (b := (8)) (c := (((t / 8 : Nat) : Int))) rfl rfl rfl (by omega) (by rw [Int.tdiv_eq_ediv_of_nonneg (by omega)]; omega) (by omega) (by omega))
    (ibCons (ibAdd (a := (3)) (b := (((t / 8 : Nat) : Int))) (c := (((3 + t / 8 : Nat) : Int))) rfl rfl rfl (by omega) (by omega) (by omega))
    (ibCons (ibRem (a := ((t : Int))) (b := (8)) (c := (((t % 8 : Nat) : Int))) rfl rfl rfl (by omega) (by rw [Int.tmod_eq_emod_of_nonneg (by omega)]; omega))
    (ibCons (ibMul (a := (((t % 8 : Nat) : Int))) (b := (1)) (c := (((t % 8 * 1 : Nat) : Int))) rfl rfl rfl (by omega) (by omega) (by omega))
    (ibCons (ibMul (a := (((t % 8 * 1 : Nat) : Int))) (b := (8)) (c := (((t % 8 * 8 : Nat) : Int))) rfl rfl rfl (by omega) (by omega) (by omega))
    (ibCons (ibShlW (W := BitVec.ofNat 64 255) (V := (msk 8 (t % 8 * 8))) (s := (t % 8 * 8)) rfl rfl rfl (by omega) rfl)
    (ibCons (ibAndNotW (W := (cP n (t / 8))) (U := (msk 8 (t % 8 * 8))) (V := (cP n (t / 8) &&& ~~~msk 8 (t % 8 * 8))) rfl rfl rfl rfl)
    (ibCons (ibShlW (W := (pvB v)) (V := (pvB v <<< (t % 8 * 8))) (s := (t % 8 * 8)) rfl rfl rfl (by omega) rfl)
    (ibCons (ibAndW (W := (pvB v <<< (t % 8 * 8))) (U := (msk 8 (t % 8 * 8))) (V := ((pvB v <<< (t % 8 * 8)) &&& msk 8 (t % 8 * 8))) rfl rfl rfl rfl)
    (ibCons (ibOrW (W := (cP n (t / 8) &&& ~~~msk 8 (t % 8 * 8))) (U := ((pvB v <<< (t % 8 * 8)) &&& msk 8 (t % 8 * 8))) (V := (setW 8 (t % 8 * 8) (cP n (t / 8)) (pvB v))) rfl rfl rfl rfl)
    (ibCons (ibLt (a := (((3 + t / 8 : Nat) : Int))) (b := (((3 + (n * 1 + 7) / 8 : Nat) : Int))) rfl rfl (decide_eq_true (by omega)))
    (ibCons (ibGe (a := (((3 + t / 8 : Nat) : Int))) (b := (0)) rfl rfl (decide_eq_true (by omega)))
    (ibCons (ibLt (a := (((0 : Nat) : Int))) (b := (((3 + (n * 1 + 7) / 8 : Nat) : Int))) rfl rfl (decide_eq_true (by omega)))
    (ibCons (ibGe (a := (((0 : Nat) : Int))) (b := (0)) rfl rfl (decide_eq_true (by omega)))
    (ibCons (ibLt (a := (((2 : Nat) : Int))) (b := (((3 + (n * 1 + 7) / 8 : Nat) : Int))) rfl rfl (decide_eq_true (by omega)))
    (ibCons (ibGe (a := (((2 : Nat) : Int))) (b := (0)) rfl rfl (decide_eq_true (by omega)))
    (ibCons (ibAnd (k := .i64) (a := (v)) (b := (1)) (c := (v % 2)) rfl rfl rfl (and1 _))
    ibNil)))))))))))))))))))

abbrev rB0 : List BRow := [(4, .oi 0, cI 6, .oi 21), (0, .oi 21, cI 6, .oi 22), (4, .oi 22, cI 6, cI 3), (11, .oi 1, cI 1, .bool false), (13, .oi 1, cI 100, .bool false), (11, .oi 2, cI 0, .bool false), (14, .oi 2, .oi 1, .bool false), (11, .oi 1, cI 0, .bool false), (2, .oi 1, cI 1, .oi 23), (0, .oi 23, cI 8, .oi 24), (1, .oi 24, cI 1, .oi 25), (3, .oi 25, cI 8, .oi 26), (0, cI 3, .oi 26, .oi 18), (11, .oi 18, cI 0, .bool false), (13, .oi 1, cI 2147483647, .bool false), (13, .oi 18, cI 2048, .bool false), (11, .oi 20, .oi 18, .bool true), (14, .oi 20, cI 0, .bool true), (11, .oi 19, .oi 18, .bool true), (14, .oi 19, cI 0, .bool true), (0, cI 0, .oi 18, .oi 18), (12, .oi 18, cI 2048, .bool true)]
theorem rB0_ok {x : Int} {n t : Nat} {v : Int} (hx : (x.tmod 6 + 6).tmod 6 = 3) (hn : n ≤ 100) (hi : t < n) : ∀ r ∈ rB0, IbOk (ivB x n t v) r := by
  letI := Tab.empty
  have h1 : x.tmod 6 < 6 := Int.tmod_lt_of_pos _ (by decide)
  have h2 : -6 < x.tmod 6 := Int.lt_tmod_of_pos _ (by decide)
  exact (ibCons (ibRem (a := (x)) (b := (6)) (c := (x.tmod 6)) rfl rfl rfl (by omega) rfl)
    (ibCons (ibAdd (a := (x.tmod 6)) (b := (6)) (c := (x.tmod 6 + 6)) rfl rfl rfl (by omega) (by omega) (by omega))
    (ibCons (ibRem (a := (x.tmod 6 + 6)) (b := (6)) (c := (3)) rfl rfl rfl (by omega) hx)
    (ibCons (ibLt (a := ((n : Int))) (b := (1)) rfl rfl (decide_eq_false (by omega)))
    (ibCons (ibGt (a := ((n : Int))) (b := (100)) rfl rfl (decide_eq_false (by omega)))
    (ibCons (ibLt (a := ((t : Int))) (b := (0)) rfl rfl (decide_eq_false (by omega)))
    (ibCons (ibGe (a := ((t : Int))) (b := ((n : Int))) rfl rfl (decide_eq_false (by omega)))
    (ibCons (ibLt (a := ((n : Int))) (b := (0)) rfl rfl (decide_eq_false (by omega)))
    (ibCons (ibMul (a := ((n : Int))) (b := (1)) (c := (((n * 1 : Nat) : Int))) rfl rfl rfl (by omega) (by omega) (by omega))
    (ibCons (ibAdd (a := (((n * 1 : Nat) : Int))) (b := (8)) (c := (((n * 1 + 8 : Nat) : Int))) rfl rfl rfl (by omega) (by omega) (by omega))
    (ibCons (ibSub (a := (((n * 1 + 8 : Nat) : Int))) (b := (1)) (c := (((n * 1 + 7 : Nat) : Int))) rfl rfl rfl (by omega) (by omega) (by omega))
    (ibCons (ibQuo (a := (((n * 1 + 7 : Nat) : Int))) (b := (8)) (c := ((((n * 1 + 7) / 8 : Nat) : Int))) rfl rfl rfl (by omega) (by rw [Int.tdiv_eq_ediv_of_nonneg (by omega)]; omega) (by omega) (by omega))
    (ibCons (ibAdd (a := (3)) (b := ((((n * 1 + 7) / 8 : Nat) : Int))) (c := (((3 + (n * 1 + 7) / 8 : Nat) : Int))) rfl rfl rfl (by omega) (by omega) (by omega))
    (ibCons (ibLt (a := (((3 + (n * 1 + 7) / 8 : Nat) : Int))) (b := (0)) rfl rfl (decide_eq_false (by omega)))
    (ibCons (ibGt (a := ((n : Int))) (b := (2147483647)) rfl rfl (decide_eq_false (by omega)))
    (ibCons (ibGt (a := (((3 + (n * 1 + 7) / 8 : Nat) : Int))) (b := (2048)) rfl rfl (decide_eq_false (by omega)))
    (ibCons (ibLt (a := (((0 : Nat) : Int))) (b := (((3 + (n * 1 + 7) / 8 : Nat) : Int))) rfl rfl (decide_eq_true (by omega)))
    (ibCons (ibGe (a := (((0 : Nat) : Int))) (b := (0)) rfl rfl (decide_eq_true (by omega)))
    (ibCons (ibLt (a := (((2 : Nat) : Int))) (b := (((3 + (n * 1 + 7) / 8 : Nat) : Int))) rfl rfl (decide_eq_true (by omega)))
    (ibCons (ibGe (a := (((2 : Nat) : Int))) (b := (0)) rfl rfl (decide_eq_true (by omega)))
    (ibCons (ibAdd (a := (0)) (b := (((3 + (n * 1 + 7) / 8 : Nat) : Int))) (c := (((3 + (n * 1 + 7) / 8 : Nat) : Int))) rfl rfl rfl (by omega) (by omega) (by omega))
    (ibCons (ibLe (a := (((3 + (n * 1 + 7) / 8 : Nat) : Int))) (b := (2048)) rfl rfl (decide_eq_true (by omega)))
    ibNil))))))))))))))))))))))

theorem loA {n t i : Nat} {v : Int} (hi : i < n) (ht : i = t) : wI (cF n t v (i / 8) >>> (i % 8 * 8)) % 2 ^ 8 = (v % 2) % 2 ^ 8 := by
  have := lowIs (per := 8) (S := 8) (by decide) (fun _ => fvB) (n := n) (k := t) (j := i) (v := v % 2) hi
  rw [if_pos ht] at this
  exact this
theorem loN {n t i : Nat} {v : Int} (hi : i < n) (ht : ¬ i = t) : wI (cF n t v (i / 8) >>> (i % 8 * 8)) % 2 ^ 8 = (1) % 2 ^ 8 := by
  have := lowIs (per := 8) (S := 8) (by decide) (fun _ => fvB) (n := n) (k := t) (j := i) (v := v % 2) hi
  rw [if_neg ht] at this
  exact this.trans (by decide)
theorem rdA {n t i : Nat} {v : Int} (hi : i < n) (ht : i = t) : IntKind.i64.wrap (wI (cF n t v (i / 8) >>> (i % 8 * 8))) % 2 = v % 2 :=
  (readZ (v := v) ((loA hi ht (v := v)).trans (by first | rfl | decide))).trans (by first | rfl | decide)
theorem rdN {n t i : Nat} {v : Int} (hi : i < n) (ht : ¬ i = t) : IntKind.i64.wrap (wI (cF n t v (i / 8) >>> (i % 8 * 8))) % 2 = (1) :=
  (readZ (v := (1)) ((loN hi ht (v := v)).trans (by first | rfl | decide))).trans (by first | rfl | decide)
abbrev rGA : List BRow := [(11, .oi 4, .oi 1, .bool true), (9, .oi 4, .oi 2, .bool true), (11, .oi 4, cI 0, .bool false), (14, .oi 4, .oi 1, .bool false), (3, .oi 4, cI 8, .oi 5), (0, cI 3, .oi 5, .oi 6), (4, .oi 4, cI 8, .oi 7), (2, .oi 7, cI 1, .oi 8), (2, .oi 8, cI 8, .oi 9), (11, .oi 6, .oi 18, .bool true), (14, .oi 6, cI 0, .bool true), (11, .oi 20, .oi 18, .bool true), (14, .oi 20, cI 0, .bool true), (11, .oi 19, .oi 18, .bool true), (14, .oi 19, cI 0, .bool true), (16, .oi 11, .oi 9, .oi 12), (0, .oi 4, cI 1, .oi 16), (5, .oi 13, cI 1, .oi 46), (10, .oi 46, .oi 46, .bool false)]
theorem rGA_ok {n t : Nat} {v : Int} {i : Nat} (hn : n ≤ 100) (hi : i < n) (ht : i = t) : ∀ r ∈ rGA, IbOk (ivG n t v i) r := by
  letI := Tab.empty
  have hz := rdA (v := v) hi ht
  exact (ibCons (ibLt (a := ((i : Int))) (b := ((n : Int))) rfl rfl (decide_eq_true (by omega)))
    (ibCons (ibEqK (a := ((i : Int))) (b := ((t : Int))) rfl rfl (decide_eq_true (by omega)))
    (ibCons (ibLt (a := ((i : Int))) (b := (0)) rfl rfl (decide_eq_false (by omega)))
    (ibCons (ibGe (a := ((i : Int))) (b := ((n : Int))) rfl rfl (decide_eq_false (by omega)))
    (ibCons (ibQuo (a := ((i : Int))) (b := (8)) (c := (((i / 8 : Nat) : Int))) rfl rfl rfl (by omega) (by rw [Int.tdiv_eq_ediv_of_nonneg (by omega)]; omega) (by omega) (by omega))
    (ibCons (ibAdd (a := (3)) (b := (((i / 8 : Nat) : Int))) (c := (((3 + i / 8 : Nat) : Int))) rfl rfl rfl (by omega) (by omega) (by omega))
    (ibCons (ibRem (a := ((i : Int))) (b := (8)) (c := (((i % 8 : Nat) : Int))) rfl rfl rfl (by omega) (by rw [Int.tmod_eq_emod_of_nonneg (by omega)]; omega))
    (ibCons (ibMul (a := (((i % 8 : Nat) : Int))) (b := (1)) (c := (((i % 8 * 1 : Nat) : Int))) rfl rfl rfl (by omega) (by omega) (by omega))
    (ibCons (ibMul (a := (((i % 8 * 1 : Nat) : Int))) (b := (8)) (c := (((i % 8 * 8 : Nat) : Int))) rfl rfl rfl (by omega) (by omega) (by omega))
    (ibCons (ibLt (a := (((3 + i / 8 : Nat) : Int))) (b := (((3 + (n * 1 + 7) / 8 : Nat) : Int))) rfl rfl (decide_eq_true (by omega)))
    (ibCons (ibGe (a := (((3 + i / 8 : Nat) : Int))) (b := (0)) rfl rfl (decide_eq_true (by omega)))
    (ibCons (ibLt (a := (((0 : Nat) : Int))) (b := (((3 + (n * 1 + 7) / 8 : Nat) : Int))) rfl rfl (decide_eq_true (by omega)))
    (ibCons (ibGe (a := (((0 : Nat) : Int))) (b := (0)) rfl rfl (decide_eq_true (by omega)))
    (ibCons (ibLt (a := (((2 : Nat) : Int))) (b := (((3 + (n * 1 + 7) / 8 : Nat) : Int))) rfl rfl (decide_eq_true (by omega)))
    (ibCons (ibGe (a := (((2 : Nat) : Int))) (b := (0)) rfl rfl (decide_eq_true (by omega)))
    (ibCons (ibShrW (W := (cF n t v (i / 8))) (V := (cF n t v (i / 8) >>> (i % 8 * 8))) (s := (i % 8 * 8)) rfl rfl rfl (by omega) rfl)
    (ibCons (ibAdd (a := ((i : Int))) (b := (1)) (c := (((i + 1 : Nat) : Int))) rfl rfl rfl (by omega) (by omega) (by omega))
    (ibCons (ibAnd (k := .i64) (a := (IntKind.i64.wrap (wI (cF n t v (i / 8) >>> (i % 8 * 8))))) (b := (1)) (c := (v % 2)) rfl rfl rfl ((and1 _).trans hz))
    (ibCons (ibNeK (a := (v % 2)) (b := (v % 2)) rfl rfl (decide_eq_true rfl))
    ibNil)))))))))))))))))))

theorem rGA_ic {n t : Nat} {v : Int} {i : Nat} (hv1 : -9223372036854775808 ≤ v) (hv2 : v ≤ 9223372036854775807) (hn : n ≤ 100) (hi : i < n) (ht : i = t) : ∀ r ∈ ([(.i64, .oi 17, .oi 1), (.i64, .oi 12, .oi 13)] : List (IntKind × AV × AV)), IcOk (ivG n t v i) r := (allCons (icOf (k := .i64) (n := ((n : Int))) (c := ((n : Int))) rfl rfl (wrap64 (by omega) (by omega))) (allCons (icOf (k := .i64) (n := (wI (cF n t v (i / 8) >>> (i % 8 * 8)))) (c := (IntKind.i64.wrap (wI (cF n t v (i / 8) >>> (i % 8 * 8))))) rfl rfl rfl) allNil))
abbrev rGN : List BRow := [(11, .oi 4, .oi 1, .bool true), (9, .oi 4, .oi 2, .bool false), (11, .oi 4, cI 0, .bool false), (14, .oi 4, .oi 1, .bool false), (3, .oi 4, cI 8, .oi 5), (0, cI 3, .oi 5, .oi 6), (4, .oi 4, cI 8, .oi 7), (2, .oi 7, cI 1, .oi 8), (2, .oi 8, cI 8, .oi 9), (11, .oi 6, .oi 18, .bool true), (14, .oi 6, cI 0, .bool true), (11, .oi 20, .oi 18, .bool true), (14, .oi 20, cI 0, .bool true), (11, .oi 19, .oi 18, .bool true), (14, .oi 19, cI 0, .bool true), (16, .oi 11, .oi 9, .oi 12), (0, .oi 4, cI 1, .oi 16), (5, .oi 13, cI 1, cI 1)]
theorem rGN_ok {n t : Nat} {v : Int} {i : Nat} (hn : n ≤ 100) (hi : i < n) (ht : ¬ i = t) : ∀ r ∈ rGN, IbOk (ivG n t v i) r := by
  letI := Tab.empty
  have hz := rdN (v := v) hi ht
  exact (ibCons (ibLt (a := ((i : Int))) (b := ((n : Int))) rfl rfl (decide_eq_true (by omega)))
    (ibCons (ibEqK (a := ((i : Int))) (b := ((t : Int))) rfl rfl (decide_eq_false (by omega)))
    (ibCons (ibLt (a := ((i : Int))) (b := (0)) rfl rfl (decide_eq_false (by omega)))
    (ibCons (ibGe (a := ((i : Int))) (b := ((n : Int))) rfl rfl (decide_eq_false (by omega)))
    (ibCons (ibQuo (a := ((i : Int))) (b := (8)) (c := (((i / 8 : Nat) : Int))) rfl rfl rfl (by omega) (by rw [Int.tdiv_eq_ediv_of_nonneg (by omega)]; omega) (by omega) (by omega))
    (ibCons (ibAdd (a := (3)) (b := (((i / 8 : Nat) : Int))) (c := (((3 + i / 8 : Nat) : Int))) rfl rfl rfl (by omega) (by omega) (by omega))
    (ibCons (ibRem (a := ((i : Int))) (b := (8)) (c := (((i % 8 : Nat) : Int))) rfl rfl rfl (by omega) (by rw [Int.tmod_eq_emod_of_nonneg (by omega)]; omega))
    (ibCons (ibMul (a := (((i % 8 : Nat) : Int))) (b := (1)) (c := (((i % 8 * 1 : Nat) : Int))) rfl rfl rfl (by omega) (by omega) (by omega))
    (ibCons (ibMul (a := (((i % 8 * 1 : Nat) : Int))) (b := (8)) (c := (((i % 8 * 8 : Nat) : Int))) rfl rfl rfl (by omega) (by omega) (by omega))
    (ibCons (ibLt (a := (((3 + i / 8 : Nat) : Int))) (b := (((3 + (n * 1 + 7) / 8 : Nat) : Int))) rfl rfl (decide_eq_true (by omega)))
    (ibCons (ibGe (a := (((3 + i / 8 : Nat) : Int))) (b := (0)) rfl rfl (decide_eq_true (by omega)))
    (ibCons (ibLt (a := (((0 : Nat) : Int))) (b := (((3 + (n * 1 + 7) / 8 : Nat) : Int))) rfl rfl (decide_eq_true (by omega)))
    (ibCons (ibGe (a := (((0 : Nat) : Int))) (b := (0)) rfl rfl (decide_eq_true (by omega)))
    (ibCons (ibLt (a := (((2 : Nat) : Int))) (b := (((3 + (n * 1 + 7) / 8 : Nat) : Int))) rfl rfl (decide_eq_true (by omega)))
    (ibCons (ibGe (a := (((2 : Nat) : Int))) (b := (0)) rfl rfl (decide_eq_true (by omega)))
    (ibCons (ibShrW (W := (cF n t v (i / 8))) (V := (cF n t v (i / 8) >>> (i % 8 * 8))) (s := (i % 8 * 8)) rfl rfl rfl (by omega) rfl)
    (ibCons (ibAdd (a := ((i : Int))) (b := (1)) (c := (((i + 1 : Nat) : Int))) rfl rfl rfl (by omega) (by omega) (by omega))
    (ibCons (ibAnd (k := .i64) (a := (IntKind.i64.wrap (wI (cF n t v (i / 8) >>> (i % 8 * 8))))) (b := (1)) (c := (1)) rfl rfl rfl ((and1 _).trans hz))
    ibNil))))))))))))))))))

theorem rGN_ic {n t : Nat} {v : Int} {i : Nat} (hv1 : -9223372036854775808 ≤ v) (hv2 : v ≤ 9223372036854775807) (hn : n ≤ 100) (hi : i < n) (ht : ¬ i = t) : ∀ r ∈ ([(.i64, .oi 17, .oi 1), (.i64, .oi 12, .oi 13)] : List (IntKind × AV × AV)), IcOk (ivG n t v i) r := (allCons (icOf (k := .i64) (n := ((n : Int))) (c := ((n : Int))) rfl rfl (wrap64 (by omega) (by omega))) (allCons (icOf (k := .i64) (n := (wI (cF n t v (i / 8) >>> (i % 8 * 8)))) (c := (IntKind.i64.wrap (wI (cF n t v (i / 8) >>> (i % 8 * 8))))) rfl rfl rfl) allNil))
abbrev rGe : List BRow := [(11, .oi 4, .oi 1, .bool false)]
theorem rGe_ok {n t : Nat} {v : Int} : ∀ r ∈ rGe, IbOk (ivG n t v n) r := by
  letI := Tab.empty
  exact (ibCons (ibLt (a := ((n : Int))) (b := ((n : Int))) rfl rfl (decide_eq_false (by omega)))
    ibNil)

abbrev rL : List BRow := [(11, .oi 1, cI 0, .bool false), (14, .oi 1, .oi 1, .bool true), (9, .oi 1, .oi 1, .bool true), (11, .oi 20, .oi 18, .bool true), (14, .oi 20, cI 0, .bool true), (11, .oi 19, .oi 18, .bool true), (14, .oi 19, cI 0, .bool true)]
theorem rL_ok {n t : Nat} {v : Int} (hn : n ≤ 100) : ∀ r ∈ rL, IbOk (ivG n t v 0) r := by
  letI := Tab.empty
  exact (ibCons (ibLt (a := ((n : Int))) (b := (0)) rfl rfl (decide_eq_false (by omega)))
    (ibCons (ibGe (a := ((n : Int))) (b := ((n : Int))) rfl rfl (decide_eq_true (by omega)))
    (ibCons (ibEqK (a := ((n : Int))) (b := ((n : Int))) rfl rfl (decide_eq_true rfl))
    (ibCons (ibLt (a := (((0 : Nat) : Int))) (b := (((3 + (n * 1 + 7) / 8 : Nat) : Int))) rfl rfl (decide_eq_true (by omega)))
    (ibCons (ibGe (a := (((0 : Nat) : Int))) (b := (0)) rfl rfl (decide_eq_true (by omega)))
    (ibCons (ibLt (a := (((2 : Nat) : Int))) (b := (((3 + (n * 1 + 7) / 8 : Nat) : Int))) rfl rfl (decide_eq_true (by omega)))
    (ibCons (ibGe (a := (((2 : Nat) : Int))) (b := (0)) rfl rfl (decide_eq_true (by omega)))
    ibNil)))))))

theorem rV_ic {n t : Nat} {v : Int} (hn : n ≤ 100) : ∀ r ∈ ([(.i64, .oi 17, .oi 1), (.i8, .oi 3, .oi 40), (.i64, .oi 40, .oi 41), (.i16, .oi 3, .oi 42), (.i64, .oi 42, .oi 43), (.u16, .oi 3, .oi 44), (.i64, .oi 44, .oi 45), (.i32, .oi 3, .oi 47), (.i64, .oi 47, .oi 48), (.u64, .oi 46, .oi 38)] : List (IntKind × AV × AV)), IcOk (ivV n t v) r := (allCons (icOf (k := .i64) (n := ((n : Int))) (c := ((n : Int))) rfl rfl (wrap64 (by omega) (by omega))) (allCons (icOf (k := .i8) (n := (v)) (c := (IntKind.i8.wrap v)) rfl rfl rfl) (allCons (icOf (k := .i64) (n := (IntKind.i8.wrap v)) (c := (IntKind.i64.wrap (IntKind.i8.wrap v))) rfl rfl rfl) (allCons (icOf (k := .i16) (n := (v)) (c := (IntKind.i16.wrap v)) rfl rfl rfl) (allCons (icOf (k := .i64) (n := (IntKind.i16.wrap v)) (c := (IntKind.i64.wrap (IntKind.i16.wrap v))) rfl rfl rfl) (allCons (icOf (k := .u16) (n := (v)) (c := (IntKind.u16.wrap v)) rfl rfl rfl) (allCons (icOf (k := .i64) (n := (IntKind.u16.wrap v)) (c := (IntKind.i64.wrap (IntKind.u16.wrap v))) rfl rfl rfl) (allCons (icOf (k := .i32) (n := (v)) (c := (IntKind.i32.wrap v)) rfl rfl rfl) (allCons (icOf (k := .i64) (n := (IntKind.i32.wrap v)) (c := (IntKind.i64.wrap (IntKind.i32.wrap v))) rfl rfl rfl) (allCons (icOf (k := .u64) (n := (v % 2)) (c := (wI (pvB v))) rfl rfl (u64OfInt _)) allNil))))))))))
theorem rB_ic {x : Int} {n t : Nat} {v : Int} (hn : n ≤ 100) : ∀ r ∈ ([(.i64, .oi 1, .oi 1), (.u64, .oi 1, .oi 17), (.i64, .oi 18, .oi 18), (.i64, .oi 26, .oi 26)] : List (IntKind × AV × AV)), IcOk (ivB x n t v) r := (allCons (icOf (k := .i64) (n := ((n : Int))) (c := ((n : Int))) rfl rfl (wrap64 (by omega) (by omega))) (allCons (icOf (k := .u64) (n := ((n : Int))) (c := ((n : Int))) rfl rfl (wrapU64 (by omega) (by omega))) (allCons (icOf (k := .i64) (n := (((3 + (n * 1 + 7) / 8 : Nat) : Int))) (c := (((3 + (n * 1 + 7) / 8 : Nat) : Int))) rfl rfl (wrap64 (by omega) (by omega))) (allCons (icOf (k := .i64) (n := ((((n * 1 + 7) / 8 : Nat) : Int))) (c := ((((n * 1 + 7) / 8 : Nat) : Int))) rfl rfl (wrap64 (by omega) (by omega))) allNil))))
section
variable {n t i : Nat} {v : Int} {w0 w : World} {a : Act}
abbrev shp : AV := .str 2 23131
noncomputable abbrev fsK (l : List (Nat × AV)) : List (Nat × AV) := (1, .oi 1) :: (2, .oi 2) :: (3, .oi 3) :: (9, .bool true) :: (11, cI 3) :: (12, .ptr 0 0) :: (13, cI 1) :: l
noncomputable abbrev bsK (x0 x1 x2 x3 : Nat) : BS := [(0, x0, .cells 5 false [] (ofPairs [(1, .ov 1 18 1), (2, .so 2 0 1 1), (3, .so 3 0 1 3)])), (1, x1, .vec 1), (2, x2, rowOf [cI 0] true), (3, x3, rowOf [shp, .nils, .int .u8 90] true)]
noncomputable abbrev rlK (x0 x1 x2 x3 : Nat) : List (Nat × Nat) := [(0, x0), (1, x1), (2, x2), (3, x3)]
abbrev plP (n t : Nat) (v : Int) (i : Nat) : Tab := (bare (ivP n t v i) (vvP n i) (vkA n) vvPp).tab
abbrev plG (n t : Nat) (v : Int) (i : Nat) : Tab := (bare (ivG n t v i) (vvG n t v) (vkA n) vvGp).tab
def SA0 (n t : Nat) (v : Int) (w0 : World) (a : Act) (w : World) : Prop := St (plP n t v 0) (Kp.below w0.heap.size) w0 (fun _ => none) 120 (frOf (fsK [])) (hOf 4 (bsK 0 1 2 3)) a w
def SA (n t : Nat) (v : Int) (i : Nat) (w0 : World) (a : Act) (w : World) : Prop := St (plP n t v i) (Kp.below w0.heap.size) w0 (fun _ => none) 120 (frOf (fsK [(14, .oi 4)])) (hOf 4 (bsK 0 1 2 3)) a w
def SG0 (n t : Nat) (v : Int) (w0 : World) (a : Act) (w : World) : Prop := St (plG n t v 0) (Kp.below w0.heap.size) w0 (fun _ => none) 120 (frOf (fsK [(15, cI 1), (16, .oi 46)])) (hOf 4 (bsK 0 1 2 3)) a w
def SG (n t : Nat) (v : Int) (i : Nat) (w0 : World) (a : Act) (w : World) : Prop := St (plG n t v i) (Kp.below w0.heap.size) w0 (fun _ => none) 120 (frOf (fsK [(15, cI 1), (16, .oi 46), (17, .oi 4)])) (hOf 4 (bsK 0 1 2 3)) a w
noncomputable abbrev cvK (x0 x1 x2 x3 : Nat) (l : IP) : Cv := ⟨0, 4, ofPairs (rlK x0 x1 x2 x3), (.oi 1, 1) :: (.oi 2, 2) :: (.oi 3, 3) :: (.oi 18, 18) :: l⟩

/- the words -/
theorem w3 {n : Nat} : 3 ≤ wN n := Nat.le_add_right _ _
theorem len_ok {iv : Nat → IntKind × Int} {vv : Nat → Nat → Option AV} {c : Nat → BitVec 64} (h : iv 19 = (.i64, ((2 : Nat) : Int))) (h17 : iv 17 = (.u64, (n : Int))) (h1 : vv 1 = numV .u64 (wN n) (eW n c)) : VlOk iv vv ⟨1, 19, 1, 0, [.oi 17]⟩ :=
  vlN (k := 2) (A := wN n) (e := eW n c) h h1 rfl (Nat.lt_of_lt_of_le (by decide) w3) (by show some (iv 17) = _; rw [h17]; rfl)
theorem shape_ok {iv : Nat → IntKind × Int} {vv : Nat → Nat → Option AV} {c : Nat → BitVec 64} (h : iv 20 = (.i64, ((0 : Nat) : Int))) (h1 : vv 1 = numV .u64 (wN n) (eW n c)) : VlOk iv vv ⟨1, 20, 1, 0, [z64]⟩ :=
  vlN (k := 0) (A := wN n) (e := eW n c) h h1 rfl (Nat.lt_of_lt_of_le (by decide) w3) rfl
theorem word_ok {iv : Nat → IntKind × Int} {vv : Nat → Nat → Option AV} {c : Nat → BitVec 64} {q j r : Nat} (h : iv j = (.i64, ((3 + q : Nat) : Int))) (hr : iv r = (.u64, wI (c q))) (h1 : vv 1 = numV .u64 (wN n) (eW n c)) (hq : 3 + q < wN n) : VlOk iv vv ⟨1, j, 1, 0, [.oi r]⟩ :=
  vlN (k := 3 + q) (A := wN n) (e := eW n c) h h1 rfl (by show (3 + q) * 1 + 0 < wN n; omega) (by show some (iv r) = _; rw [hr, eW_at])
theorem store_ok {iv : Nat → IntKind × Int} {vv : Nat → Nat → Option AV} {c : Nat → BitVec 64} {p : BitVec 64} {u j r : Nat} (h : iv j = (.i64, ((3 + u / 8 : Nat) : Int))) (hr : iv r = (.u64, wI (setW 8 (u % 8 * 8) (c (u / 8)) p)))
    (h1 : vv 1 = numV .u64 (wN n) (eW n c)) (h2 : vv 2 = numV .u64 (wN n) (eW n (upd 8 8 c u p))) (hq : 3 + u / 8 < wN n) : VsOk iv vv (vkA n) ⟨1, j, 1, 0, [.oi r], 2⟩ :=
  vsN (k := 3 + u / 8) (A := wN n) (e := eW n c) (e' := eW n (upd 8 8 c u p)) h h1 h2 rfl rfl rfl (by show (3 + u / 8) * 1 + 0 < wN n; omega) (by
    show some (iv r) = _
    rw [hr, eW_at]
    unfold upd
    rw [if_pos rfl]) (fun m hm hne => by
    have hne : m ≠ (3 + u / 8) * 1 + 0 := hne
    unfold eW upd
    by_cases h3 : m < 3
    · rw [if_pos h3, if_pos h3]
    · rw [if_neg h3, if_neg h3, if_neg (by omega)])

/- put -1 -/
abbrev RA (hn : n ≤ 100) (hi : i < n) : VRows (ivP n t v i) (vvP n i) (vkA n) where
  vvp := vvPp
  ib := rA
  ibok := rA_ok hn hi
  ic := [(.i64, .oi 17, .oi 1)]
  icok := allCons (icOf (k := .i64) (n := (n : Int)) (c := (n : Int)) rfl rfl (wrap64 (by omega) (by omega))) allNil
  vl := [⟨1, 19, 1, 0, [.oi 17]⟩, ⟨1, 20, 1, 0, [z64]⟩, ⟨1, 6, 1, 0, [.oi 11]⟩]
  vlok := allCons (len_ok rfl rfl rfl) (allCons (shape_ok rfl rfl) (allCons (word_ok (q := i / 8) rfl rfl rfl (by show 3 + i / 8 < 3 + (n * 1 + 7) / 8; omega)) allNil))
  vs := [⟨1, 6, 1, 0, [.oi 15], 2⟩]
  vsok := allCons (store_ok (u := i) (p := fvB) rfl rfl rfl rfl (by show 3 + i / 8 < 3 + (n * 1 + 7) / 8; omega)) allNil
  vc := [(0, 20), (2, 19)]
  vcok := allCons rfl (allCons rfl allNil)
theorem goA1 (hn : n ≤ 100) (hi : i < n) (s : SA n t v i w0 a w) : la.wp Tryz.prog (fun e a' w' => e = .normal ∧ SA n t v (i + 1) w0 a' w') a w :=
  runTo_sound (T := (RA (t := t) (v := v) hn hi).tab) (T' := plP n t v (i + 1)) (K := KH) (n := 1000) mx (@sumsHand_ok (RA (t := t) (v := v) hn hi).tab Tryz.prog _ (@tabG_ok (RA (t := t) (v := v) hn hi).tab)) (C := cvK 0 1 2 3 [(.oi 16, 4)]) (rl := rlK 0 1 2 3) (ex := .normal) (vp := [(1, .vec 2, 1)]) (fs := fsK [(14, .oi 4)]) (bs := bsK 0 1 2 3)
    (Base.none _) (Nat.zero_le _) rfl (by kernel_rfl) (ipCons (ipO (.i64, (n : Int)) rfl rfl) (ipCons (ipO (.i64, (t : Int)) rfl rfl) (ipCons (ipO (.i64, v) rfl rfl) (ipCons (ipO (.i64, ((wN n : Nat) : Int)) rfl rfl) (ipCons (ipO (.i64, ((i + 1 : Nat) : Int)) rfl rfl) ipNil))))) (vpCons (vecSubN (numSame .u64 (wN n) (eW n (cP (i + 1)))) (leK (c := wN n) rfl rfl)) vpNil) (glNone rfl rfl) (by as_aux_lemma => kernel_rfl) (St.same (VRows.same _ _) s)
abbrev RAe (n t : Nat) (v : Int) : VRows (ivP n t v n) (vvP n n) (vkA n) where
  vvp := vvPp
  ib := rAe
  ibok := rAe_ok
theorem goAe (s : SA n t v n w0 a w) : la.wp Tryz.prog (fun e a' w' => e = .exit 0 ∧ SA n t v n w0 a' w') a w :=
  runTo_sound (T := (RAe n t v).tab) (T' := plP n t v n) (K := Hand.none) (n := 100) mx (@HandOk.none (RAe n t v).tab Tryz.prog) (C := cvK 0 1 2 3 [(.oi 4, 4)]) (rl := rlK 0 1 2 3) (ex := .exit 0) (vp := [(1, .vec 1, 1)]) (fs := fsK [(14, .oi 4)]) (bs := bsK 0 1 2 3)
    (Base.none _) (Nat.zero_le _) rfl (by kernel_rfl) (ipCons (ipO (.i64, (n : Int)) rfl rfl) (ipCons (ipO (.i64, (t : Int)) rfl rfl) (ipCons (ipO (.i64, v) rfl rfl) (ipCons (ipO (.i64, ((wN n : Nat) : Int)) rfl rfl) (ipCons (ipO (.i64, (n : Int)) rfl rfl) ipNil))))) (vpCons (vecSubN (numSame .u64 (wN n) (eW n (cP n))) (leK (c := wN n) rfl rfl)) vpNil) (glNone rfl rfl) (by as_aux_lemma => kernel_rfl) (St.same (VRows.same _ _) s)
theorem goA0 (s : SA0 n t v w0 a w) : a0.wp Tryz.prog (fun e a' w' => e = .normal ∧ SA n t v 0 w0 a' w') a w :=
  runTo_sound (T := plP n t v 0) (T' := plP n t v 0) (K := Hand.none) (n := 100) mx (@HandOk.none (plP n t v 0) Tryz.prog) (C := cvK 0 1 2 3 [(cI 0, 4)]) (rl := rlK 0 1 2 3) (ex := .normal) (vp := [(1, .vec 1, 1)]) (fs := fsK [(14, .oi 4)]) (bs := bsK 0 1 2 3)
    (Base.none _) (Nat.zero_le _) rfl (by kernel_rfl) (ipCons (ipO (.i64, (n : Int)) rfl rfl) (ipCons (ipO (.i64, (t : Int)) rfl rfl) (ipCons (ipO (.i64, v) rfl rfl) (ipCons (ipO (.i64, ((wN n : Nat) : Int)) rfl rfl) (ipCons (ipC rfl) ipNil))))) (vpCons (vecSubN (numSame .u64 (wN n) (eW n (cP 0))) (leK (c := wN n) rfl rfl)) vpNil) (glNone rfl rfl) (by as_aux_lemma => kernel_rfl) s
theorem roundsA (hn : n ≤ 100) : ∀ (j i : Nat) (a : Act) (w : World), i + j = n + 1 → i ≤ n → SA n t v i w0 a w → Code.rounds Tryz.prog la (fun e a w => e = .exit 0 ∧ SA n t v n w0 a w) j a w
  | 0, i, a, w, h1, h2, s => by omega
  | j + 1, i, a, w, h1, h2, s => by
    by_cases hi : i < n
    · refine rounds_of (wp_mono (goA1 hn hi s) ?_)
      rintro e a' w' ⟨rfl, s'⟩
      exact roundsA hn j (i + 1) a' w' (by omega) (by omega) s'
    · obtain rfl : i = n := by omega
      refine rounds_of (wp_mono (goAe s) ?_)
      rintro e a' w' ⟨rfl, s'⟩
      exact ⟨rfl, s'⟩

/- put v -/
abbrev RV (hn : n ≤ 100) (hi : t < n) : VRows (ivV n t v) (vvV n t v) (vkA n) where
  vvp := vvVp
  ib := rV
  ibok := rV_ok hn hi
  ic := [(.i64, .oi 17, .oi 1), (.i8, .oi 3, .oi 40), (.i64, .oi 40, .oi 41), (.i16, .oi 3, .oi 42), (.i64, .oi 42, .oi 43), (.u16, .oi 3, .oi 44), (.i64, .oi 44, .oi 45), (.i32, .oi 3, .oi 47), (.i64, .oi 47, .oi 48), (.u64, .oi 46, .oi 38)]
  icok := rV_ic hn
  vl := [⟨1, 19, 1, 0, [.oi 17]⟩, ⟨1, 20, 1, 0, [z64]⟩, ⟨1, 26, 1, 0, [.oi 31]⟩]
  vlok := allCons (len_ok rfl rfl rfl) (allCons (shape_ok rfl rfl) (allCons (word_ok (q := t / 8) rfl rfl rfl (by show 3 + t / 8 < 3 + (n * 1 + 7) / 8; omega)) allNil))
  vs := [⟨1, 26, 1, 0, [.oi 35], 2⟩]
  vsok := allCons (store_ok (u := t) (p := pvB v) rfl rfl rfl rfl (by show 3 + t / 8 < 3 + (n * 1 + 7) / 8; omega)) allNil
  vc := [(0, 20), (2, 19)]
  vcok := allCons rfl (allCons rfl allNil)
theorem toV (s : SA n t v n w0 a w) : St ((bare (ivV n t v) (vvV n t v) (vkA n) vvVp).tab) (Kp.below w0.heap.size) w0 (fun _ => none) 120 (frOf (fsK [])) (hOf 4 (bsK 0 1 2 3)) a w :=
  St.weak (T := plP n t v n) (T' := (bare (ivV n t v) (vvV n t v) (vkA n) vvVp).tab) (C := cvK 0 1 2 3 []) (Base.none _) (Nat.zero_le _) (rl := rlK 0 1 2 3) rfl (by kernel_rfl) (ipCons (ipO (.i64, (n : Int)) rfl rfl) (ipCons (ipO (.i64, (t : Int)) rfl rfl) (ipCons (ipO (.i64, v) rfl rfl) (ipCons (ipO (.i64, ((wN n : Nat) : Int)) rfl rfl) (ipNil))))) (vp := [(1, .vec 1, 1)]) (vpCons (vecSubN (numSame .u64 (wN n) (eW n (cP n))) (leK (c := wN n) rfl rfl)) vpNil) (glNone rfl rfl) (fs := fsK []) (bs := bsK 0 1 2 3) (by kernel_rfl) (by kernel_rfl) s
theorem goV (hn : n ≤ 100) (hi : t < n) {Q : Exit → Act → World → Prop} (s : SA n t v n w0 a w) (k : ∀ a' w', SG0 n t v w0 a' w' → rB.wp Tryz.prog Q a' w') : r9.wp Tryz.prog Q a w :=
  firstTo_sound (T := (RV (v := v) hn hi).tab) (T' := plG n t v 0) (K := KH) (m := 1000) (n := 3) mx (@sumsHand_ok (RV (v := v) hn hi).tab Tryz.prog _ (@tabG_ok (RV (v := v) hn hi).tab)) (C := cvK 0 1 2 3 [(.oi 46, 46)]) (rl := rlK 0 1 2 3) (vp := [(1, .vec 2, 1)]) (fs := fsK [(15, cI 1), (16, .oi 46)]) (bs := bsK 0 1 2 3)
    (Base.none _) (Nat.zero_le _) rfl (by kernel_rfl) (ipCons (ipO (.i64, (n : Int)) rfl rfl) (ipCons (ipO (.i64, (t : Int)) rfl rfl) (ipCons (ipO (.i64, v) rfl rfl) (ipCons (ipO (.i64, ((wN n : Nat) : Int)) rfl rfl) (ipCons (ipO (.i64, (v % 2)) rfl rfl) ipNil))))) (vpCons (vecSubN (numSame .u64 (wN n) (eW n (cF n t v))) (leK (c := wN n) rfl rfl)) vpNil) (glNone rfl rfl) (by as_aux_lemma => kernel_rfl) (St.same (VRows.same _ _) (toV s)) k

/- look -/
abbrev RGA (hv1 : -9223372036854775808 ≤ v) (hv2 : v ≤ 9223372036854775807) (hn : n ≤ 100) (hi : i < n) (ht : i = t) : VRows (ivG n t v i) (vvG n t v) (vkA n) where
  vvp := vvGp
  ib := rGA
  ibok := rGA_ok hn hi ht
  ic := [(.i64, .oi 17, .oi 1), (.i64, .oi 12, .oi 13)]
  icok := rGA_ic hv1 hv2 hn hi ht
  vl := [⟨1, 19, 1, 0, [.oi 17]⟩, ⟨1, 20, 1, 0, [z64]⟩, ⟨1, 6, 1, 0, [.oi 11]⟩]
  vlok := allCons (len_ok rfl rfl rfl) (allCons (shape_ok rfl rfl) (allCons (word_ok (q := i / 8) rfl rfl rfl (by show 3 + i / 8 < 3 + (n * 1 + 7) / 8; omega)) allNil))
  vc := [(0, 20), (2, 19)]
  vcok := allCons rfl (allCons rfl allNil)
abbrev RGN (hv1 : -9223372036854775808 ≤ v) (hv2 : v ≤ 9223372036854775807) (hn : n ≤ 100) (hi : i < n) (ht : ¬ i = t) : VRows (ivG n t v i) (vvG n t v) (vkA n) where
  vvp := vvGp
  ib := rGN
  ibok := rGN_ok hn hi ht
  ic := [(.i64, .oi 17, .oi 1), (.i64, .oi 12, .oi 13)]
  icok := rGN_ic hv1 hv2 hn hi ht
  vl := [⟨1, 19, 1, 0, [.oi 17]⟩, ⟨1, 20, 1, 0, [z64]⟩, ⟨1, 6, 1, 0, [.oi 11]⟩]
  vlok := allCons (len_ok rfl rfl rfl) (allCons (shape_ok rfl rfl) (allCons (word_ok (q := i / 8) rfl rfl rfl (by show 3 + i / 8 < 3 + (n * 1 + 7) / 8; omega)) allNil))
  vc := [(0, 20), (2, 19)]
  vcok := allCons rfl (allCons rfl allNil)
theorem goGA (hv1 : -9223372036854775808 ≤ v) (hv2 : v ≤ 9223372036854775807) (hn : n ≤ 100) (hi : i < n) (ht : i = t) (s : SG n t v i w0 a w) : lb.wp Tryz.prog (fun e a' w' => e = .normal ∧ SG n t v (i + 1) w0 a' w') a w :=
  runTo_sound (T := (RGA hv1 hv2 hn hi ht).tab) (T' := plG n t v (i + 1)) (K := KH) (n := 1000) mx (@sumsHand_ok (RGA hv1 hv2 hn hi ht).tab Tryz.prog _ (@tabG_ok (RGA hv1 hv2 hn hi ht).tab)) (C := cvK 0 1 2 3 [(.oi 16, 4), (.oi 46, 46)]) (rl := rlK 0 1 2 3) (ex := .normal) (vp := [(1, .vec 1, 1)]) (fs := fsK [(15, cI 1), (16, .oi 46), (17, .oi 4)]) (bs := bsK 0 1 2 3)
    (Base.none _) (Nat.zero_le _) rfl (by kernel_rfl) (ipCons (ipO (.i64, (n : Int)) rfl rfl) (ipCons (ipO (.i64, (t : Int)) rfl rfl) (ipCons (ipO (.i64, v) rfl rfl) (ipCons (ipO (.i64, ((wN n : Nat) : Int)) rfl rfl) (ipCons (ipO (.i64, ((i + 1 : Nat) : Int)) rfl rfl) (ipCons (ipO (.i64, (v % 2)) rfl rfl) ipNil)))))) (vpCons (vecSubN (numSame .u64 (wN n) (eW n (cF n t v))) (leK (c := wN n) rfl rfl)) vpNil) (glNone rfl rfl) (by as_aux_lemma => kernel_rfl) (St.same (VRows.same _ _) s)
theorem goGN (hv1 : -9223372036854775808 ≤ v) (hv2 : v ≤ 9223372036854775807) (hn : n ≤ 100) (hi : i < n) (ht : ¬ i = t) (s : SG n t v i w0 a w) : lb.wp Tryz.prog (fun e a' w' => e = .normal ∧ SG n t v (i + 1) w0 a' w') a w :=
  runTo_sound (T := (RGN hv1 hv2 hn hi ht).tab) (T' := plG n t v (i + 1)) (K := KH) (n := 1000) mx (@sumsHand_ok (RGN hv1 hv2 hn hi ht).tab Tryz.prog _ (@tabG_ok (RGN hv1 hv2 hn hi ht).tab)) (C := cvK 0 1 2 3 [(.oi 16, 4), (.oi 46, 46)]) (rl := rlK 0 1 2 3) (ex := .normal) (vp := [(1, .vec 1, 1)]) (fs := fsK [(15, cI 1), (16, .oi 46), (17, .oi 4)]) (bs := bsK 0 1 2 3)
    (Base.none _) (Nat.zero_le _) rfl (by kernel_rfl) (ipCons (ipO (.i64, (n : Int)) rfl rfl) (ipCons (ipO (.i64, (t : Int)) rfl rfl) (ipCons (ipO (.i64, v) rfl rfl) (ipCons (ipO (.i64, ((wN n : Nat) : Int)) rfl rfl) (ipCons (ipO (.i64, ((i + 1 : Nat) : Int)) rfl rfl) (ipCons (ipO (.i64, (v % 2)) rfl rfl) ipNil)))))) (vpCons (vecSubN (numSame .u64 (wN n) (eW n (cF n t v))) (leK (c := wN n) rfl rfl)) vpNil) (glNone rfl rfl) (by as_aux_lemma => kernel_rfl) (St.same (VRows.same _ _) s)
abbrev RGe (n t : Nat) (v : Int) : VRows (ivG n t v n) (vvG n t v) (vkA n) where
  vvp := vvGp
  ib := rGe
  ibok := rGe_ok
theorem goGe (s : SG n t v n w0 a w) : lb.wp Tryz.prog (fun e a' w' => e = .exit 2 ∧ SG n t v n w0 a' w') a w :=
  runTo_sound (T := (RGe n t v).tab) (T' := plG n t v n) (K := Hand.none) (n := 100) mx (@HandOk.none (RGe n t v).tab Tryz.prog) (C := cvK 0 1 2 3 [(.oi 4, 4), (.oi 46, 46)]) (rl := rlK 0 1 2 3) (ex := .exit 2) (vp := [(1, .vec 1, 1)]) (fs := fsK [(15, cI 1), (16, .oi 46), (17, .oi 4)]) (bs := bsK 0 1 2 3)
    (Base.none _) (Nat.zero_le _) rfl (by kernel_rfl) (ipCons (ipO (.i64, (n : Int)) rfl rfl) (ipCons (ipO (.i64, (t : Int)) rfl rfl) (ipCons (ipO (.i64, v) rfl rfl) (ipCons (ipO (.i64, ((wN n : Nat) : Int)) rfl rfl) (ipCons (ipO (.i64, (n : Int)) rfl rfl) (ipCons (ipO (.i64, (v % 2)) rfl rfl) ipNil)))))) (vpCons (vecSubN (numSame .u64 (wN n) (eW n (cF n t v))) (leK (c := wN n) rfl rfl)) vpNil) (glNone rfl rfl) (by as_aux_lemma => kernel_rfl) (St.same (VRows.same _ _) s)
theorem goG0 (s : SG0 n t v w0 a w) : b0.wp Tryz.prog (fun e a' w' => e = .normal ∧ SG n t v 0 w0 a' w') a w :=
  runTo_sound (T := plG n t v 0) (T' := plG n t v 0) (K := Hand.none) (n := 100) mx (@HandOk.none (plG n t v 0) Tryz.prog) (C := cvK 0 1 2 3 [(cI 0, 4), (.oi 46, 46)]) (rl := rlK 0 1 2 3) (ex := .normal) (vp := [(1, .vec 1, 1)]) (fs := fsK [(15, cI 1), (16, .oi 46), (17, .oi 4)]) (bs := bsK 0 1 2 3)
    (Base.none _) (Nat.zero_le _) rfl (by kernel_rfl) (ipCons (ipO (.i64, (n : Int)) rfl rfl) (ipCons (ipO (.i64, (t : Int)) rfl rfl) (ipCons (ipO (.i64, v) rfl rfl) (ipCons (ipO (.i64, ((wN n : Nat) : Int)) rfl rfl) (ipCons (ipC rfl) (ipCons (ipO (.i64, (v % 2)) rfl rfl) ipNil)))))) (vpCons (vecSubN (numSame .u64 (wN n) (eW n (cF n t v))) (leK (c := wN n) rfl rfl)) vpNil) (glNone rfl rfl) (by as_aux_lemma => kernel_rfl) s
theorem roundsG (hv1 : -9223372036854775808 ≤ v) (hv2 : v ≤ 9223372036854775807) (hn : n ≤ 100) : ∀ (j i : Nat) (a : Act) (w : World), i + j = n + 1 → i ≤ n → SG n t v i w0 a w → Code.rounds Tryz.prog lb (fun e a w => e = .exit 2 ∧ SG n t v n w0 a w) j a w
  | 0, i, a, w, h1, h2, s => by omega
  | j + 1, i, a, w, h1, h2, s => by
    by_cases hi : i < n
    · by_cases ht : i = t
      · refine rounds_of (wp_mono (goGA hv1 hv2 hn hi ht s) ?_)
        rintro e a' w' ⟨rfl, s'⟩
        exact roundsG hv1 hv2 hn j (i + 1) a' w' (by omega) (by omega) s'
      · refine rounds_of (wp_mono (goGN hv1 hv2 hn hi ht s) ?_)
        rintro e a' w' ⟨rfl, s'⟩
        exact roundsG hv1 hv2 hn j (i + 1) a' w' (by omega) (by omega) s'
    · obtain rfl : i = n := by omega
      refine rounds_of (wp_mono (goGe s) ?_)
      rintro e a' w' ⟨rfl, s'⟩
      exact ⟨rfl, s'⟩
abbrev RL (hn : n ≤ 100) : VRows (ivG n t v 0) (vvG n t v) (vkA n) where
  vvp := vvGp
  ib := rL
  ibok := rL_ok hn
  ic := [(.i64, .oi 17, .oi 1)]
  icok := allCons (icOf (k := .i64) (n := (n : Int)) (c := (n : Int)) rfl rfl (wrap64 (by omega) (by omega))) allNil
  vl := [⟨1, 19, 1, 0, [.oi 17]⟩, ⟨1, 20, 1, 0, [z64]⟩]
  vlok := allCons (len_ok rfl rfl rfl) (allCons (shape_ok rfl rfl) allNil)
  vc := [(0, 20), (2, 19)]
  vcok := allCons rfl (allCons rfl allNil)
abbrev Out (w0 : World) := Yes Tryz.prog Tryz.f3 (Kp.below w0.heap.size) w0
theorem toL (s : SG n t v n w0 a w) : St (plG n t v 0) (Kp.below w0.heap.size) w0 (fun _ => none) 120 (frOf (fsK [])) (hOf 4 (bsK 0 1 2 3)) a w :=
  St.weak (T := plG n t v n) (T' := plG n t v 0) (C := cvK 0 1 2 3 []) (Base.none _) (Nat.zero_le _) (rl := rlK 0 1 2 3) rfl (by kernel_rfl) (ipCons (ipO (.i64, (n : Int)) rfl rfl) (ipCons (ipO (.i64, (t : Int)) rfl rfl) (ipCons (ipO (.i64, v) rfl rfl) (ipCons (ipO (.i64, ((wN n : Nat) : Int)) rfl rfl) (ipNil))))) (vp := [(1, .vec 1, 1)]) (vpCons (vecSubN (numSame .u64 (wN n) (eW n (cF n t v))) (leK (c := wN n) rfl rfl)) vpNil) (glNone rfl rfl) (fs := fsK []) (bs := bsK 0 1 2 3) (by kernel_rfl) (by kernel_rfl) s
theorem lasts (hn : n ≤ 100) (s : SG n t v n w0 a w) : last.wp Tryz.prog (Out w0) a w :=
  @runTrue_sound _ _ _ _ _ _ (RL (t := t) (v := v) hn).tab (frOf (fsK [])) (hOf 4 (bsK 0 1 2 3)) mx KH (@sumsHand_ok (RL (t := t) (v := v) hn).tab Tryz.prog _ (@tabG_ok (RL (t := t) (v := v) hn).tab)) 1000 Tryz.f3 last (by as_aux_lemma => kernel_rfl) (St.same (VRows.same _ _) (toL s))
theorem back (hv1 : -9223372036854775808 ≤ v) (hv2 : v ≤ 9223372036854775807) (hn : n ≤ 100) (ht : t < n) (s : SA0 n t v w0 a w) : (restn 8 body).wp Tryz.prog (Out w0) a w := by
  rw [r8_eq]
  refine wp_seq (wp_seq (wp_mono (goA0 s) ?_))
  rintro e a1 w1 ⟨rfl, s1⟩
  show (Code.block 0 (.loop la)).wp _ _ _ _
  refine wp_block (wp_mono (wp_loop_rounds (Q := fun e a w => e = .exit 0 ∧ SA n t v n w0 a w) (n + 1) (roundsA hn (n + 1) 0 a1 w1 (by omega) (by omega) s1)) ?_)
  rintro e a2 w2 ⟨rfl, s2⟩
  show r9.wp _ _ _ _
  refine goV hn ht s2 fun a3 w3 s3 => ?_
  show (restn 3 r9).wp _ _ _ _
  rw [rB_eq]
  refine wp_seq (wp_seq (wp_mono (goG0 s3) ?_))
  rintro e a4 w4 ⟨rfl, s4⟩
  show (Code.block 2 (.loop lb)).wp _ _ _ _
  refine wp_block (wp_mono (wp_loop_rounds (Q := fun e a w => e = .exit 2 ∧ SG n t v n w0 a w) (n + 1) (roundsG hv1 hv2 hn (n + 1) 0 a4 w4 (by omega) (by omega) s4)) ?_)
  rintro e a5 w5 ⟨rfl, s5⟩
  exact lasts hn s5
abbrev RB {x : Int} (hx : (x.tmod 6 + 6).tmod 6 = 3) (hn : n ≤ 100) (hi : t < n) : VRows (ivB x n t v) (vvP n 0) (vkA n) where
  vvp := vvPp
  ib := rB0
  ibok := rB0_ok hx hn hi
  ic := [(.i64, .oi 1, .oi 1), (.u64, .oi 1, .oi 17), (.i64, .oi 18, .oi 18), (.i64, .oi 26, .oi 26)]
  icok := rB_ic hn
  vn := [⟨1, 18, [z64], 0, 18⟩]
  vnok := allCons (vnN (K := .u64) (c := wN n) (e' := fun _ => 0) rfl rfl rfl rfl rfl rfl (Nat.lt_of_lt_of_le (by decide) w3) (by show 3 + (n * 1 + 7) / 8 < 1000000; omega) (fun _ _ => rfl)) allNil
  vs := [⟨0, 20, 1, 0, [z64], 0⟩, ⟨0, 19, 1, 0, [.oi 17], 1⟩]
  vsok := allCons (vsN (K := .u64) (k := 0) (A := wN n) (e := fun _ => 0) (e' := fun _ => 0) rfl rfl rfl rfl rfl rfl (Nat.lt_of_lt_of_le (by decide) w3) rfl (fun _ _ _ => rfl))
    (allCons (vsN (K := .u64) (k := 2) (A := wN n) (e := fun _ => 0) (e' := eW n (cP 0)) rfl rfl rfl rfl rfl rfl (Nat.lt_of_lt_of_le (by decide) w3) rfl (fun m hm hne => by
      have hne : m ≠ 2 * 1 + 0 := hne
      unfold eW
      by_cases h3 : m < 3
      · rw [if_pos h3, if_neg (by omega)]
      · rw [if_neg h3]; rfl)) allNil)
  vc := [(0, 20), (2, 19)]
  vcok := allCons rfl (allCons rfl allNil)
theorem heapKinds_in (x : Int) (hx : (x.tmod 6 + 6).tmod 6 = 3) (hv1 : -9223372036854775808 ≤ v) (hv2 : v ≤ 9223372036854775807) (hn : n ≤ 100) (ht : t < n)
    (hs : St ((RB (v := v) hx hn ht).tab) (Kp.below w0.heap.size) w0 (fun _ => none) 120 (T.ofList 0 .leaf [.oi 0, .oi 1, .oi 2, .oi 3]) H.empty a w) : body.wp Tryz.prog (Out w0) a w := by
  refine firstTo_sound (T := (RB (v := v) hx hn ht).tab) (T' := plP n t v 0) (K := KH) (m := 1000) (n := 8) mx (@sumsHand_ok (RB (v := v) hx hn ht).tab Tryz.prog _ (@tabG_ok (RB (v := v) hx hn ht).tab)) (C := cvK 6562 6587 6589 6586 []) (rl := rlK 6562 6587 6589 6586) (vp := [(6587, .vec 1, 1)]) (fs := fsK []) (bs := bsK 6562 6587 6589 6586)
    (Base.none _) (Nat.zero_le _) rfl (by kernel_rfl) (ipCons (ipO (.i64, (n : Int)) rfl rfl) (ipCons (ipO (.i64, (t : Int)) rfl rfl) (ipCons (ipO (.i64, v) rfl rfl) (ipCons (ipO (.i64, ((wN n : Nat) : Int)) rfl rfl) (ipNil))))) (vpCons (vecSubN (numSame .u64 (wN n) (eW n (cP 0))) (leK (c := wN n) rfl rfl)) vpNil) (glNone rfl rfl) (by as_aux_lemma => kernel_rfl) hs fun a' w' s => ?_
  have hI : hOf 4 (bsK 6562 6587 6589 6586) = hOf 4 (bsK 0 1 2 3) := by kernel_rfl
  rw [hI] at s
  exact back hv1 hv2 hn ht s
end

end Go.Proofs.YtdknapjpeegooaaGreatDoor.kind3
