/-
  What the law TopLongs gives: its tables.
-/
import Derived.Test.YthgncmohimdbmaaGreatDoorLGN
set_option linter.unusedSectionVars false
set_option linter.unusedVariables false
set_option maxRecDepth 1000000
set_option maxHeartbeats 0
namespace Go.Proofs.YthgncmohimdbmaaGreatDoor.lg
open Go.X Go.RowKit
abbrev iv0 (a b n : Int) : Nat → IntKind × Int
  | 0 => (.i64, a)
  | 1 => (.i64, b)
  | 2 => (.i64, n)
  | 3 => (.i64, (a / 4294967296))
  | 4 => (.i64, ((a / 4294967296) / 16777216))
  | 5 => (.u8, (((a / 4294967296) / 16777216) % 256))
  | 6 => (.i64, ((a / 4294967296) / 65536))
  | 7 => (.u8, (((a / 4294967296) / 65536) % 256))
  | 8 => (.i64, ((a / 4294967296) / 256))
  | 9 => (.u8, (((a / 4294967296) / 256) % 256))
  | 10 => (.u8, ((a / 4294967296) % 256))
  | 11 => (.i64, (a / 16777216))
  | 12 => (.u8, ((a / 16777216) % 256))
  | 13 => (.i64, (a / 65536))
  | 14 => (.u8, ((a / 65536) % 256))
  | 15 => (.i64, (a / 256))
  | 16 => (.u8, ((a / 256) % 256))
  | 17 => (.u8, (a % 256))
  | 18 => (.i64, (b / 4294967296))
  | 19 => (.i64, ((b / 4294967296) / 16777216))
  | 20 => (.u8, (((b / 4294967296) / 16777216) % 256))
  | 21 => (.i64, ((b / 4294967296) / 65536))
  | 22 => (.u8, (((b / 4294967296) / 65536) % 256))
  | 23 => (.i64, ((b / 4294967296) / 256))
  | 24 => (.u8, (((b / 4294967296) / 256) % 256))
  | 25 => (.u8, ((b / 4294967296) % 256))
  | 26 => (.i64, (b / 16777216))
  | 27 => (.u8, ((b / 16777216) % 256))
  | 28 => (.i64, (b / 65536))
  | 29 => (.u8, ((b / 65536) % 256))
  | 30 => (.i64, (b / 256))
  | 31 => (.u8, ((b / 256) % 256))
  | 32 => (.u8, (b % 256))
  | 33 => (.i64, (((a / 4294967296) / 16777216) % 256))
  | 34 => (.i64, (((a / 4294967296) / 16777216) % 256))
  | 35 => (.i64, ((((a / 4294967296) / 16777216) % 256) * 256))
  | 36 => (.i64, (((a / 4294967296) / 65536) % 256))
  | 37 => (.i64, (((((a / 4294967296) / 16777216) % 256) * 256) + (((a / 4294967296) / 65536) % 256)))
  | 38 => (.i64, ((((((a / 4294967296) / 16777216) % 256) * 256) + (((a / 4294967296) / 65536) % 256)) * 256))
  | 39 => (.i64, (((a / 4294967296) / 256) % 256))
  | 40 => (.i64, (((((((a / 4294967296) / 16777216) % 256) * 256) + (((a / 4294967296) / 65536) % 256)) * 256) + (((a / 4294967296) / 256) % 256)))
  | 41 => (.i64, ((((((((a / 4294967296) / 16777216) % 256) * 256) + (((a / 4294967296) / 65536) % 256)) * 256) + (((a / 4294967296) / 256) % 256)) * 256))
  | 42 => (.i64, ((a / 4294967296) % 256))
  | 43 => (.i64, (((((((((a / 4294967296) / 16777216) % 256) * 256) + (((a / 4294967296) / 65536) % 256)) * 256) + (((a / 4294967296) / 256) % 256)) * 256) + ((a / 4294967296) % 256)))
  | 44 => (.i64, (a / 4294967296 * 4294967296))
  | 45 => (.i64, ((a / 16777216) % 256))
  | 46 => (.i64, ((a / 16777216) % 256))
  | 47 => (.i64, (((a / 16777216) % 256) * 256))
  | 48 => (.i64, ((a / 65536) % 256))
  | 49 => (.i64, ((((a / 16777216) % 256) * 256) + ((a / 65536) % 256)))
  | 50 => (.i64, (((((a / 16777216) % 256) * 256) + ((a / 65536) % 256)) * 256))
  | 51 => (.i64, ((a / 256) % 256))
  | 52 => (.i64, ((((((a / 16777216) % 256) * 256) + ((a / 65536) % 256)) * 256) + ((a / 256) % 256)))
  | 53 => (.i64, (((((((a / 16777216) % 256) * 256) + ((a / 65536) % 256)) * 256) + ((a / 256) % 256)) * 256))
  | 54 => (.i64, (a % 256))
  | 55 => (.i64, ((((((((a / 16777216) % 256) * 256) + ((a / 65536) % 256)) * 256) + ((a / 256) % 256)) * 256) + (a % 256)))
  | 56 => (.i64, a)
  | 57 => (.i64, (((b / 4294967296) / 16777216) % 256))
  | 58 => (.i64, (((b / 4294967296) / 16777216) % 256))
  | 59 => (.i64, ((((b / 4294967296) / 16777216) % 256) * 256))
  | 60 => (.i64, (((b / 4294967296) / 65536) % 256))
  | 61 => (.i64, (((((b / 4294967296) / 16777216) % 256) * 256) + (((b / 4294967296) / 65536) % 256)))
  | 62 => (.i64, ((((((b / 4294967296) / 16777216) % 256) * 256) + (((b / 4294967296) / 65536) % 256)) * 256))
  | 63 => (.i64, (((b / 4294967296) / 256) % 256))
  | 64 => (.i64, (((((((b / 4294967296) / 16777216) % 256) * 256) + (((b / 4294967296) / 65536) % 256)) * 256) + (((b / 4294967296) / 256) % 256)))
  | 65 => (.i64, ((((((((b / 4294967296) / 16777216) % 256) * 256) + (((b / 4294967296) / 65536) % 256)) * 256) + (((b / 4294967296) / 256) % 256)) * 256))
  | 66 => (.i64, ((b / 4294967296) % 256))
  | 67 => (.i64, (((((((((b / 4294967296) / 16777216) % 256) * 256) + (((b / 4294967296) / 65536) % 256)) * 256) + (((b / 4294967296) / 256) % 256)) * 256) + ((b / 4294967296) % 256)))
  | 68 => (.i64, (b / 4294967296 * 4294967296))
  | 69 => (.i64, ((b / 16777216) % 256))
  | 70 => (.i64, ((b / 16777216) % 256))
  | 71 => (.i64, (((b / 16777216) % 256) * 256))
  | 72 => (.i64, ((b / 65536) % 256))
  | 73 => (.i64, ((((b / 16777216) % 256) * 256) + ((b / 65536) % 256)))
  | 74 => (.i64, (((((b / 16777216) % 256) * 256) + ((b / 65536) % 256)) * 256))
  | 75 => (.i64, ((b / 256) % 256))
  | 76 => (.i64, ((((((b / 16777216) % 256) * 256) + ((b / 65536) % 256)) * 256) + ((b / 256) % 256)))
  | 77 => (.i64, (((((((b / 16777216) % 256) * 256) + ((b / 65536) % 256)) * 256) + ((b / 256) % 256)) * 256))
  | 78 => (.i64, (b % 256))
  | 79 => (.i64, ((((((((b / 16777216) % 256) * 256) + ((b / 65536) % 256)) * 256) + ((b / 256) % 256)) * 256) + (b % 256)))
  | 80 => (.i64, b)
  | 81 => (.i32, (IntKind.i32.wrap n))
  | 82 => (.i64, (IntKind.i32.wrap n))
  | 83 => (.i64, (IntKind.i64.wrap (a * b)))
  | 84 => (.i64, (IntKind.i64.wrap ((IntKind.i64.wrap (a * b)) + a)))
  | 85 => (.i64, (IntKind.i64.wrap ((BitVec.ofInt IntKind.i64.bits (IntKind.i64.wrap ((IntKind.i64.wrap (a * b)) + a)) ^^^ BitVec.ofInt IntKind.i64.bits b).toNat : Int)))
  | 86 => (.u64, (IntKind.u64.wrap (IntKind.i64.wrap ((BitVec.ofInt IntKind.i64.bits (IntKind.i64.wrap ((IntKind.i64.wrap (a * b)) + a)) ^^^ BitVec.ofInt IntKind.i64.bits b).toNat : Int))))
  | 87 => (.i64, (n % 64))
  | 88 => (.u64, ((IntKind.u64.wrap (IntKind.i64.wrap ((BitVec.ofInt IntKind.i64.bits (IntKind.i64.wrap ((IntKind.i64.wrap (a * b)) + a)) ^^^ BitVec.ofInt IntKind.i64.bits b).toNat : Int))).fdiv (2 ^ (min ((n % 64)).toNat IntKind.u64.bits))))
  | 89 => (.i64, (IntKind.i64.wrap ((IntKind.u64.wrap (IntKind.i64.wrap ((BitVec.ofInt IntKind.i64.bits (IntKind.i64.wrap ((IntKind.i64.wrap (a * b)) + a)) ^^^ BitVec.ofInt IntKind.i64.bits b).toNat : Int))).fdiv (2 ^ (min ((n % 64)).toNat IntKind.u64.bits)))))
  | 90 => (.i64, (IntKind.i64.wrap (a * b)))
  | 91 => (.i64, (IntKind.i64.wrap ((IntKind.i64.wrap (a * b)) + a)))
  | 92 => (.i64, (IntKind.i64.wrap ((BitVec.ofInt IntKind.i64.bits (IntKind.i64.wrap ((IntKind.i64.wrap (a * b)) + a)) ^^^ BitVec.ofInt IntKind.i64.bits b).toNat : Int)))
  | 93 => (.u64, (IntKind.u64.wrap (IntKind.i64.wrap ((BitVec.ofInt IntKind.i64.bits (IntKind.i64.wrap ((IntKind.i64.wrap (a * b)) + a)) ^^^ BitVec.ofInt IntKind.i64.bits b).toNat : Int))))
  | 94 => (.i64, (n % 64))
  | 95 => (.u64, (n % 64))
  | 96 => (.u64, ((IntKind.u64.wrap (IntKind.i64.wrap ((BitVec.ofInt IntKind.i64.bits (IntKind.i64.wrap ((IntKind.i64.wrap (a * b)) + a)) ^^^ BitVec.ofInt IntKind.i64.bits b).toNat : Int))).fdiv (2 ^ (min ((n % 64)).toNat IntKind.u64.bits))))
  | 97 => (.i64, (IntKind.i64.wrap ((IntKind.u64.wrap (IntKind.i64.wrap ((BitVec.ofInt IntKind.i64.bits (IntKind.i64.wrap ((IntKind.i64.wrap (a * b)) + a)) ^^^ BitVec.ofInt IntKind.i64.bits b).toNat : Int))).fdiv (2 ^ (min ((n % 64)).toNat IntKind.u64.bits)))))
  | _ => (.i64, 0)
abbrev ibL0 : List BRow := [(16, .oi 0, .int .u64 32, .oi 3), (16, .oi 3, .int .u64 24, .oi 4), (16, .oi 3, .int .u64 16, .oi 6), (16, .oi 3, .int .u64 8, .oi 8), (16, .oi 0, .int .u64 24, .oi 11), (16, .oi 0, .int .u64 16, .oi 13), (16, .oi 0, .int .u64 8, .oi 15), (16, .oi 1, .int .u64 32, .oi 18), (16, .oi 18, .int .u64 24, .oi 19), (16, .oi 18, .int .u64 16, .oi 21), (16, .oi 18, .int .u64 8, .oi 23), (16, .oi 1, .int .u64 24, .oi 26), (16, .oi 1, .int .u64 16, .oi 28), (16, .oi 1, .int .u64 8, .oi 30), (6, .int .i64 0, .oi 33, .oi 34), (15, .oi 34, .int .u64 8, .oi 35), (6, .oi 35, .oi 36, .oi 37), (15, .oi 37, .int .u64 8, .oi 38), (6, .oi 38, .oi 39, .oi 40), (15, .oi 40, .int .u64 8, .oi 41), (6, .oi 41, .oi 42, .oi 43), (15, .oi 43, .int .u64 32, .oi 44), (6, .int .i64 0, .oi 45, .oi 46), (15, .oi 46, .int .u64 8, .oi 47), (6, .oi 47, .oi 48, .oi 49), (15, .oi 49, .int .u64 8, .oi 50), (6, .oi 50, .oi 51, .oi 52), (15, .oi 52, .int .u64 8, .oi 53), (6, .oi 53, .oi 54, .oi 55), (6, .oi 44, .oi 55, .oi 56), (6, .int .i64 0, .oi 57, .oi 58), (15, .oi 58, .int .u64 8, .oi 59), (6, .oi 59, .oi 60, .oi 61), (15, .oi 61, .int .u64 8, .oi 62), (6, .oi 62, .oi 63, .oi 64), (15, .oi 64, .int .u64 8, .oi 65), (6, .oi 65, .oi 66, .oi 67), (15, .oi 67, .int .u64 32, .oi 68), (6, .int .i64 0, .oi 69, .oi 70), (15, .oi 70, .int .u64 8, .oi 71), (6, .oi 71, .oi 72, .oi 73), (15, .oi 73, .int .u64 8, .oi 74), (6, .oi 74, .oi 75, .oi 76), (15, .oi 76, .int .u64 8, .oi 77), (6, .oi 77, .oi 78, .oi 79), (6, .oi 68, .oi 79, .oi 80), (2, .oi 56, .oi 80, .oi 83), (0, .oi 83, .oi 56, .oi 84), (7, .oi 84, .oi 80, .oi 85), (5, .oi 82, .int .i64 63, .oi 87), (16, .oi 86, .oi 87, .oi 88), (2, .oi 0, .oi 1, .oi 90), (0, .oi 90, .oi 0, .oi 91), (7, .oi 91, .oi 1, .oi 92), (5, .oi 2, .int .i64 63, .oi 94), (16, .oi 93, .oi 95, .oi 96), (9, .oi 89, .oi 97, .bool true)]
abbrev icL0 : List (IntKind × AV × AV) := [(.u8, .oi 4, .oi 5), (.u8, .oi 6, .oi 7), (.u8, .oi 8, .oi 9), (.u8, .oi 3, .oi 10), (.u8, .oi 11, .oi 12), (.u8, .oi 13, .oi 14), (.u8, .oi 15, .oi 16), (.u8, .oi 0, .oi 17), (.u8, .oi 19, .oi 20), (.u8, .oi 21, .oi 22), (.u8, .oi 23, .oi 24), (.u8, .oi 18, .oi 25), (.u8, .oi 26, .oi 27), (.u8, .oi 28, .oi 29), (.u8, .oi 30, .oi 31), (.u8, .oi 1, .oi 32), (.i64, .oi 5, .oi 33), (.i64, .oi 7, .oi 36), (.i64, .oi 9, .oi 39), (.i64, .oi 10, .oi 42), (.i64, .oi 12, .oi 45), (.i64, .oi 14, .oi 48), (.i64, .oi 16, .oi 51), (.i64, .oi 17, .oi 54), (.i64, .oi 20, .oi 57), (.i64, .oi 22, .oi 60), (.i64, .oi 24, .oi 63), (.i64, .oi 25, .oi 66), (.i64, .oi 27, .oi 69), (.i64, .oi 29, .oi 72), (.i64, .oi 31, .oi 75), (.i64, .oi 32, .oi 78), (.i32, .oi 2, .oi 81), (.i64, .oi 81, .oi 82), (.u64, .oi 85, .oi 86), (.i64, .oi 88, .oi 89), (.u64, .oi 92, .oi 93), (.u64, .oi 94, .oi 95), (.i64, .oi 96, .oi 97)]
theorem ib0 {a b n : Int} (h1a : -9223372036854775808 ≤ a) (h2a : a ≤ 9223372036854775807) (h1b : -9223372036854775808 ≤ b) (h2b : b ≤ 9223372036854775807) (h1n : -9223372036854775808 ≤ n) (h2n : n ≤ 9223372036854775807) (hab : a ≠ b) : ∀ x_ ∈ ibL0, IbOk (iv0 a b n) x_ := by
  letI := Tab.empty
  exact (ibCons (ibShr (k := .i64) (k' := .u64) (a := a) (b := 32) (c := (a / 4294967296)) rfl rfl rfl (by decide) (shr_is (by decide) (by decide)))
    (ibCons (ibShr (k := .i64) (k' := .u64) (a := (a / 4294967296)) (b := 24) (c := ((a / 4294967296) / 16777216)) rfl rfl rfl (by decide) (shr_is (by decide) (by decide)))
    (ibCons (ibShr (k := .i64) (k' := .u64) (a := (a / 4294967296)) (b := 16) (c := ((a / 4294967296) / 65536)) rfl rfl rfl (by decide) (shr_is (by decide) (by decide)))
    (ibCons (ibShr (k := .i64) (k' := .u64) (a := (a / 4294967296)) (b := 8) (c := ((a / 4294967296) / 256)) rfl rfl rfl (by decide) (shr_is (by decide) (by decide)))
    (ibCons (ibShr (k := .i64) (k' := .u64) (a := a) (b := 24) (c := (a / 16777216)) rfl rfl rfl (by decide) (shr_is (by decide) (by decide)))
    (ibCons (ibShr (k := .i64) (k' := .u64) (a := a) (b := 16) (c := (a / 65536)) rfl rfl rfl (by decide) (shr_is (by decide) (by decide)))
    (ibCons (ibShr (k := .i64) (k' := .u64) (a := a) (b := 8) (c := (a / 256)) rfl rfl rfl (by decide) (shr_is (by decide) (by decide)))
    (ibCons (ibShr (k := .i64) (k' := .u64) (a := b) (b := 32) (c := (b / 4294967296)) rfl rfl rfl (by decide) (shr_is (by decide) (by decide)))
    (ibCons (ibShr (k := .i64) (k' := .u64) (a := (b / 4294967296)) (b := 24) (c := ((b / 4294967296) / 16777216)) rfl rfl rfl (by decide) (shr_is (by decide) (by decide)))
    (ibCons (ibShr (k := .i64) (k' := .u64) (a := (b / 4294967296)) (b := 16) (c := ((b / 4294967296) / 65536)) rfl rfl rfl (by decide) (shr_is (by decide) (by decide)))
    (ibCons (ibShr (k := .i64) (k' := .u64) (a := (b / 4294967296)) (b := 8) (c := ((b / 4294967296) / 256)) rfl rfl rfl (by decide) (shr_is (by decide) (by decide)))
    (ibCons (ibShr (k := .i64) (k' := .u64) (a := b) (b := 24) (c := (b / 16777216)) rfl rfl rfl (by decide) (shr_is (by decide) (by decide)))
    (ibCons (ibShr (k := .i64) (k' := .u64) (a := b) (b := 16) (c := (b / 65536)) rfl rfl rfl (by decide) (shr_is (by decide) (by decide)))
    (ibCons (ibShr (k := .i64) (k' := .u64) (a := b) (b := 8) (c := (b / 256)) rfl rfl rfl (by decide) (shr_is (by decide) (by decide)))
    (ibCons (ibOr (k := .i64) (a := 0) (b := (((a / 4294967296) / 16777216) % 256)) (c := (((a / 4294967296) / 16777216) % 256)) rfl rfl rfl ((or_add 8 (by decide) (by omega) (by omega) (by decide) (by omega) (by omega)).trans (Int.zero_add _)))
    (ibCons (ibShl (k := .i64) (k' := .u64) (a := (((a / 4294967296) / 16777216) % 256)) (b := 8) (c := ((((a / 4294967296) / 16777216) % 256) * 256)) rfl rfl rfl (by decide) (show IntKind.i64.wrap ((((a / 4294967296) / 16777216) % 256) * 256) = _ from wrap64 (by omega) (by omega)))
    (ibCons (ibOr (k := .i64) (a := ((((a / 4294967296) / 16777216) % 256) * 256)) (b := (((a / 4294967296) / 65536) % 256)) (c := (((((a / 4294967296) / 16777216) % 256) * 256) + (((a / 4294967296) / 65536) % 256))) rfl rfl rfl (or_add 8 (by omega) (by omega) (by omega) (by decide) (by omega) (by omega)))
    (ibCons (ibShl (k := .i64) (k' := .u64) (a := (((((a / 4294967296) / 16777216) % 256) * 256) + (((a / 4294967296) / 65536) % 256))) (b := 8) (c := ((((((a / 4294967296) / 16777216) % 256) * 256) + (((a / 4294967296) / 65536) % 256)) * 256)) rfl rfl rfl (by decide) (show IntKind.i64.wrap ((((((a / 4294967296) / 16777216) % 256) * 256) + (((a / 4294967296) / 65536) % 256)) * 256) = _ from wrap64 (by omega) (by omega)))
    (ibCons (ibOr (k := .i64) (a := ((((((a / 4294967296) / 16777216) % 256) * 256) + (((a / 4294967296) / 65536) % 256)) * 256)) (b := (((a / 4294967296) / 256) % 256)) (c := (((((((a / 4294967296) / 16777216) % 256) * 256) + (((a / 4294967296) / 65536) % 256)) * 256) + (((a / 4294967296) / 256) % 256))) rfl rfl rfl (or_add 8 (by omega) (by omega) (by omega) (by decide) (by omega) (by omega)))
    (ibCons (ibShl (k := .i64) (k' := .u64) (a := (((((((a / 4294967296) / 16777216) % 256) * 256) + (((a / 4294967296) / 65536) % 256)) * 256) + (((a / 4294967296) / 256) % 256))) (b := 8) (c := ((((((((a / 4294967296) / 16777216) % 256) * 256) + (((a / 4294967296) / 65536) % 256)) * 256) + (((a / 4294967296) / 256) % 256)) * 256)) rfl rfl rfl (by decide) (show IntKind.i64.wrap ((((((((a / 4294967296) / 16777216) % 256) * 256) + (((a / 4294967296) / 65536) % 256)) * 256) + (((a / 4294967296) / 256) % 256)) * 256) = _ from wrap64 (by omega) (by omega)))
    (ibCons (ibOr (k := .i64) (a := ((((((((a / 4294967296) / 16777216) % 256) * 256) + (((a / 4294967296) / 65536) % 256)) * 256) + (((a / 4294967296) / 256) % 256)) * 256)) (b := ((a / 4294967296) % 256)) (c := (((((((((a / 4294967296) / 16777216) % 256) * 256) + (((a / 4294967296) / 65536) % 256)) * 256) + (((a / 4294967296) / 256) % 256)) * 256) + ((a / 4294967296) % 256))) rfl rfl rfl (or_add 8 (by omega) (by omega) (by omega) (by decide) (by omega) (by omega)))
    (ibCons (ibShl (k := .i64) (k' := .u64) (a := (((((((((a / 4294967296) / 16777216) % 256) * 256) + (((a / 4294967296) / 65536) % 256)) * 256) + (((a / 4294967296) / 256) % 256)) * 256) + ((a / 4294967296) % 256))) (b := 32) (c := (a / 4294967296 * 4294967296)) rfl rfl rfl (by decide) (hi_is h1a h2a (by omega)))
    (ibCons (ibOr (k := .i64) (a := 0) (b := ((a / 16777216) % 256)) (c := ((a / 16777216) % 256)) rfl rfl rfl ((or_add 8 (by decide) (by omega) (by omega) (by decide) (by omega) (by omega)).trans (Int.zero_add _)))
    (ibCons (ibShl (k := .i64) (k' := .u64) (a := ((a / 16777216) % 256)) (b := 8) (c := (((a / 16777216) % 256) * 256)) rfl rfl rfl (by decide) (show IntKind.i64.wrap (((a / 16777216) % 256) * 256) = _ from wrap64 (by omega) (by omega)))
    (ibCons (ibOr (k := .i64) (a := (((a / 16777216) % 256) * 256)) (b := ((a / 65536) % 256)) (c := ((((a / 16777216) % 256) * 256) + ((a / 65536) % 256))) rfl rfl rfl (or_add 8 (by omega) (by omega) (by omega) (by decide) (by omega) (by omega)))
    (ibCons (ibShl (k := .i64) (k' := .u64) (a := ((((a / 16777216) % 256) * 256) + ((a / 65536) % 256))) (b := 8) (c := (((((a / 16777216) % 256) * 256) + ((a / 65536) % 256)) * 256)) rfl rfl rfl (by decide) (show IntKind.i64.wrap (((((a / 16777216) % 256) * 256) + ((a / 65536) % 256)) * 256) = _ from wrap64 (by omega) (by omega)))
    (ibCons (ibOr (k := .i64) (a := (((((a / 16777216) % 256) * 256) + ((a / 65536) % 256)) * 256)) (b := ((a / 256) % 256)) (c := ((((((a / 16777216) % 256) * 256) + ((a / 65536) % 256)) * 256) + ((a / 256) % 256))) rfl rfl rfl (or_add 8 (by omega) (by omega) (by omega) (by decide) (by omega) (by omega)))
    (ibCons (ibShl (k := .i64) (k' := .u64) (a := ((((((a / 16777216) % 256) * 256) + ((a / 65536) % 256)) * 256) + ((a / 256) % 256))) (b := 8) (c := (((((((a / 16777216) % 256) * 256) + ((a / 65536) % 256)) * 256) + ((a / 256) % 256)) * 256)) rfl rfl rfl (by decide) (show IntKind.i64.wrap (((((((a / 16777216) % 256) * 256) + ((a / 65536) % 256)) * 256) + ((a / 256) % 256)) * 256) = _ from wrap64 (by omega) (by omega)))
    (ibCons (ibOr (k := .i64) (a := (((((((a / 16777216) % 256) * 256) + ((a / 65536) % 256)) * 256) + ((a / 256) % 256)) * 256)) (b := (a % 256)) (c := ((((((((a / 16777216) % 256) * 256) + ((a / 65536) % 256)) * 256) + ((a / 256) % 256)) * 256) + (a % 256))) rfl rfl rfl (or_add 8 (by omega) (by omega) (by omega) (by decide) (by omega) (by omega)))
    (ibCons (ibOr (k := .i64) (a := (a / 4294967296 * 4294967296)) (b := ((((((((a / 16777216) % 256) * 256) + ((a / 65536) % 256)) * 256) + ((a / 256) % 256)) * 256) + (a % 256))) (c := a) rfl rfl rfl ((or_add 32 (by omega) (by omega) (by omega) (by decide) (by omega) (by omega)).trans (by omega)))
    (ibCons (ibOr (k := .i64) (a := 0) (b := (((b / 4294967296) / 16777216) % 256)) (c := (((b / 4294967296) / 16777216) % 256)) rfl rfl rfl ((or_add 8 (by decide) (by omega) (by omega) (by decide) (by omega) (by omega)).trans (Int.zero_add _)))
    (ibCons (ibShl (k := .i64) (k' := .u64) (a := (((b / 4294967296) / 16777216) % 256)) (b := 8) (c := ((((b / 4294967296) / 16777216) % 256) * 256)) rfl rfl rfl (by decide) (show IntKind.i64.wrap ((((b / 4294967296) / 16777216) % 256) * 256) = _ from wrap64 (by omega) (by omega)))
    (ibCons (ibOr (k := .i64) (a := ((((b / 4294967296) / 16777216) % 256) * 256)) (b := (((b / 4294967296) / 65536) % 256)) (c := (((((b / 4294967296) / 16777216) % 256) * 256) + (((b / 4294967296) / 65536) % 256))) rfl rfl rfl (or_add 8 (by omega) (by omega) (by omega) (by decide) (by omega) (by omega)))
    (ibCons (ibShl (k := .i64) (k' := .u64) (a := (((((b / 4294967296) / 16777216) % 256) * 256) + (((b / 4294967296) / 65536) % 256))) (b := 8) (c := ((((((b / 4294967296) / 16777216) % 256) * 256) + (((b / 4294967296) / 65536) % 256)) * 256)) rfl rfl rfl (by decide) (show IntKind.i64.wrap ((((((b / 4294967296) / 16777216) % 256) * 256) + (((b / 4294967296) / 65536) % 256)) * 256) = _ from wrap64 (by omega) (by omega)))
    (ibCons (ibOr (k := .i64) (a := ((((((b / 4294967296) / 16777216) % 256) * 256) + (((b / 4294967296) / 65536) % 256)) * 256)) (b := (((b / 4294967296) / 256) % 256)) (c := (((((((b / 4294967296) / 16777216) % 256) * 256) + (((b / 4294967296) / 65536) % 256)) * 256) + (((b / 4294967296) / 256) % 256))) rfl rfl rfl (or_add 8 (by omega) (by omega) (by omega) (by decide) (by omega) (by omega)))
    (ibCons (ibShl (k := .i64) (k' := .u64) (a := (((((((b / 4294967296) / 16777216) % 256) * 256) + (((b / 4294967296) / 65536) % 256)) * 256) + (((b / 4294967296) / 256) % 256))) (b := 8) (c := ((((((((b / 4294967296) / 16777216) % 256) * 256) + (((b / 4294967296) / 65536) % 256)) * 256) + (((b / 4294967296) / 256) % 256)) * 256)) rfl rfl rfl (by decide) (show IntKind.i64.wrap ((((((((b / 4294967296) / 16777216) % 256) * 256) + (((b / 4294967296) / 65536) % 256)) * 256) + (((b / 4294967296) / 256) % 256)) * 256) = _ from wrap64 (by omega) (by omega)))
    (ibCons (ibOr (k := .i64) (a := ((((((((b / 4294967296) / 16777216) % 256) * 256) + (((b / 4294967296) / 65536) % 256)) * 256) + (((b / 4294967296) / 256) % 256)) * 256)) (b := ((b / 4294967296) % 256)) (c := (((((((((b / 4294967296) / 16777216) % 256) * 256) + (((b / 4294967296) / 65536) % 256)) * 256) + (((b / 4294967296) / 256) % 256)) * 256) + ((b / 4294967296) % 256))) rfl rfl rfl (or_add 8 (by omega) (by omega) (by omega) (by decide) (by omega) (by omega)))
    (ibCons (ibShl (k := .i64) (k' := .u64) (a := (((((((((b / 4294967296) / 16777216) % 256) * 256) + (((b / 4294967296) / 65536) % 256)) * 256) + (((b / 4294967296) / 256) % 256)) * 256) + ((b / 4294967296) % 256))) (b := 32) (c := (b / 4294967296 * 4294967296)) rfl rfl rfl (by decide) (hi_is h1b h2b (by omega)))
    (ibCons (ibOr (k := .i64) (a := 0) (b := ((b / 16777216) % 256)) (c := ((b / 16777216) % 256)) rfl rfl rfl ((or_add 8 (by decide) (by omega) (by omega) (by decide) (by omega) (by omega)).trans (Int.zero_add _)))
    (ibCons (ibShl (k := .i64) (k' := .u64) (a := ((b / 16777216) % 256)) (b := 8) (c := (((b / 16777216) % 256) * 256)) rfl rfl rfl (by decide) (show IntKind.i64.wrap (((b / 16777216) % 256) * 256) = _ from wrap64 (by omega) (by omega)))
    (ibCons (ibOr (k := .i64) (a := (((b / 16777216) % 256) * 256)) (b := ((b / 65536) % 256)) (c := ((((b / 16777216) % 256) * 256) + ((b / 65536) % 256))) rfl rfl rfl (or_add 8 (by omega) (by omega) (by omega) (by decide) (by omega) (by omega)))
    (ibCons (ibShl (k := .i64) (k' := .u64) (a := ((((b / 16777216) % 256) * 256) + ((b / 65536) % 256))) (b := 8) (c := (((((b / 16777216) % 256) * 256) + ((b / 65536) % 256)) * 256)) rfl rfl rfl (by decide) (show IntKind.i64.wrap (((((b / 16777216) % 256) * 256) + ((b / 65536) % 256)) * 256) = _ from wrap64 (by omega) (by omega)))
    (ibCons (ibOr (k := .i64) (a := (((((b / 16777216) % 256) * 256) + ((b / 65536) % 256)) * 256)) (b := ((b / 256) % 256)) (c := ((((((b / 16777216) % 256) * 256) + ((b / 65536) % 256)) * 256) + ((b / 256) % 256))) rfl rfl rfl (or_add 8 (by omega) (by omega) (by omega) (by decide) (by omega) (by omega)))
    (ibCons (ibShl (k := .i64) (k' := .u64) (a := ((((((b / 16777216) % 256) * 256) + ((b / 65536) % 256)) * 256) + ((b / 256) % 256))) (b := 8) (c := (((((((b / 16777216) % 256) * 256) + ((b / 65536) % 256)) * 256) + ((b / 256) % 256)) * 256)) rfl rfl rfl (by decide) (show IntKind.i64.wrap (((((((b / 16777216) % 256) * 256) + ((b / 65536) % 256)) * 256) + ((b / 256) % 256)) * 256) = _ from wrap64 (by omega) (by omega)))
    (ibCons (ibOr (k := .i64) (a := (((((((b / 16777216) % 256) * 256) + ((b / 65536) % 256)) * 256) + ((b / 256) % 256)) * 256)) (b := (b % 256)) (c := ((((((((b / 16777216) % 256) * 256) + ((b / 65536) % 256)) * 256) + ((b / 256) % 256)) * 256) + (b % 256))) rfl rfl rfl (or_add 8 (by omega) (by omega) (by omega) (by decide) (by omega) (by omega)))
    (ibCons (ibOr (k := .i64) (a := (b / 4294967296 * 4294967296)) (b := ((((((((b / 16777216) % 256) * 256) + ((b / 65536) % 256)) * 256) + ((b / 256) % 256)) * 256) + (b % 256))) (c := b) rfl rfl rfl ((or_add 32 (by omega) (by omega) (by omega) (by decide) (by omega) (by omega)).trans (by omega)))
    (ibCons (ibMulW (a := a) (b := b) (c := (IntKind.i64.wrap (a * b))) rfl rfl rfl rfl)
    (ibCons (ibAddW (a := (IntKind.i64.wrap (a * b))) (b := a) (c := (IntKind.i64.wrap ((IntKind.i64.wrap (a * b)) + a))) rfl rfl rfl rfl)
    (ibCons (ibXorW (k := .i64) (a := (IntKind.i64.wrap ((IntKind.i64.wrap (a * b)) + a))) (b := b) (c := (IntKind.i64.wrap ((BitVec.ofInt IntKind.i64.bits (IntKind.i64.wrap ((IntKind.i64.wrap (a * b)) + a)) ^^^ BitVec.ofInt IntKind.i64.bits b).toNat : Int))) rfl rfl rfl rfl)
    (ibCons (ibAnd (k := .i64) (a := (IntKind.i32.wrap n)) (b := 63) (c := (n % 64)) rfl rfl rfl ((and63 _).trans (w32_64 _)))
    (ibCons (ibShr (k := .u64) (k' := .i64) (a := (IntKind.u64.wrap (IntKind.i64.wrap ((BitVec.ofInt IntKind.i64.bits (IntKind.i64.wrap ((IntKind.i64.wrap (a * b)) + a)) ^^^ BitVec.ofInt IntKind.i64.bits b).toNat : Int)))) (b := (n % 64)) (c := ((IntKind.u64.wrap (IntKind.i64.wrap ((BitVec.ofInt IntKind.i64.bits (IntKind.i64.wrap ((IntKind.i64.wrap (a * b)) + a)) ^^^ BitVec.ofInt IntKind.i64.bits b).toNat : Int))).fdiv (2 ^ (min ((n % 64)).toNat IntKind.u64.bits)))) rfl rfl rfl (by omega) rfl)
    (ibCons (ibMulW (a := a) (b := b) (c := (IntKind.i64.wrap (a * b))) rfl rfl rfl rfl)
    (ibCons (ibAddW (a := (IntKind.i64.wrap (a * b))) (b := a) (c := (IntKind.i64.wrap ((IntKind.i64.wrap (a * b)) + a))) rfl rfl rfl rfl)
    (ibCons (ibXorW (k := .i64) (a := (IntKind.i64.wrap ((IntKind.i64.wrap (a * b)) + a))) (b := b) (c := (IntKind.i64.wrap ((BitVec.ofInt IntKind.i64.bits (IntKind.i64.wrap ((IntKind.i64.wrap (a * b)) + a)) ^^^ BitVec.ofInt IntKind.i64.bits b).toNat : Int))) rfl rfl rfl rfl)
    (ibCons (ibAnd (k := .i64) (a := n) (b := 63) (c := (n % 64)) rfl rfl rfl (and63 _))
    (ibCons (ibShr (k := .u64) (k' := .u64) (a := (IntKind.u64.wrap (IntKind.i64.wrap ((BitVec.ofInt IntKind.i64.bits (IntKind.i64.wrap ((IntKind.i64.wrap (a * b)) + a)) ^^^ BitVec.ofInt IntKind.i64.bits b).toNat : Int)))) (b := (n % 64)) (c := ((IntKind.u64.wrap (IntKind.i64.wrap ((BitVec.ofInt IntKind.i64.bits (IntKind.i64.wrap ((IntKind.i64.wrap (a * b)) + a)) ^^^ BitVec.ofInt IntKind.i64.bits b).toNat : Int))).fdiv (2 ^ (min ((n % 64)).toNat IntKind.u64.bits)))) rfl rfl rfl (by omega) rfl)
    (ibCons (ibEqK (k := .i64) (a := (IntKind.i64.wrap ((IntKind.u64.wrap (IntKind.i64.wrap ((BitVec.ofInt IntKind.i64.bits (IntKind.i64.wrap ((IntKind.i64.wrap (a * b)) + a)) ^^^ BitVec.ofInt IntKind.i64.bits b).toNat : Int))).fdiv (2 ^ (min ((n % 64)).toNat IntKind.u64.bits))))) (b := (IntKind.i64.wrap ((IntKind.u64.wrap (IntKind.i64.wrap ((BitVec.ofInt IntKind.i64.bits (IntKind.i64.wrap ((IntKind.i64.wrap (a * b)) + a)) ^^^ BitVec.ofInt IntKind.i64.bits b).toNat : Int))).fdiv (2 ^ (min ((n % 64)).toNat IntKind.u64.bits))))) rfl rfl (decide_eq_true rfl))
    ibNil)))))))))))))))))))))))))))))))))))))))))))))))))))))))))
theorem ic0 {a b n : Int} (h1a : -9223372036854775808 ≤ a) (h2a : a ≤ 9223372036854775807) (h1b : -9223372036854775808 ≤ b) (h2b : b ≤ 9223372036854775807) (h1n : -9223372036854775808 ≤ n) (h2n : n ≤ 9223372036854775807) (hab : a ≠ b) : ∀ x_ ∈ icL0, IcOk' (iv0 a b n) x_ := (icCons (icOf (k := .u8) (k' := .i64) (n := ((a / 4294967296) / 16777216)) (c := (((a / 4294967296) / 16777216) % 256)) rfl rfl (u8w _))
    (icCons (icOf (k := .u8) (k' := .i64) (n := ((a / 4294967296) / 65536)) (c := (((a / 4294967296) / 65536) % 256)) rfl rfl (u8w _))
    (icCons (icOf (k := .u8) (k' := .i64) (n := ((a / 4294967296) / 256)) (c := (((a / 4294967296) / 256) % 256)) rfl rfl (u8w _))
    (icCons (icOf (k := .u8) (k' := .i64) (n := (a / 4294967296)) (c := ((a / 4294967296) % 256)) rfl rfl (u8w _))
    (icCons (icOf (k := .u8) (k' := .i64) (n := (a / 16777216)) (c := ((a / 16777216) % 256)) rfl rfl (u8w _))
    (icCons (icOf (k := .u8) (k' := .i64) (n := (a / 65536)) (c := ((a / 65536) % 256)) rfl rfl (u8w _))
    (icCons (icOf (k := .u8) (k' := .i64) (n := (a / 256)) (c := ((a / 256) % 256)) rfl rfl (u8w _))
    (icCons (icOf (k := .u8) (k' := .i64) (n := a) (c := (a % 256)) rfl rfl (u8w _))
    (icCons (icOf (k := .u8) (k' := .i64) (n := ((b / 4294967296) / 16777216)) (c := (((b / 4294967296) / 16777216) % 256)) rfl rfl (u8w _))
    (icCons (icOf (k := .u8) (k' := .i64) (n := ((b / 4294967296) / 65536)) (c := (((b / 4294967296) / 65536) % 256)) rfl rfl (u8w _))
    (icCons (icOf (k := .u8) (k' := .i64) (n := ((b / 4294967296) / 256)) (c := (((b / 4294967296) / 256) % 256)) rfl rfl (u8w _))
    (icCons (icOf (k := .u8) (k' := .i64) (n := (b / 4294967296)) (c := ((b / 4294967296) % 256)) rfl rfl (u8w _))
    (icCons (icOf (k := .u8) (k' := .i64) (n := (b / 16777216)) (c := ((b / 16777216) % 256)) rfl rfl (u8w _))
    (icCons (icOf (k := .u8) (k' := .i64) (n := (b / 65536)) (c := ((b / 65536) % 256)) rfl rfl (u8w _))
    (icCons (icOf (k := .u8) (k' := .i64) (n := (b / 256)) (c := ((b / 256) % 256)) rfl rfl (u8w _))
    (icCons (icOf (k := .u8) (k' := .i64) (n := b) (c := (b % 256)) rfl rfl (u8w _))
    (icCons (icOf (k := .i64) (k' := .u8) (n := (((a / 4294967296) / 16777216) % 256)) (c := (((a / 4294967296) / 16777216) % 256)) rfl rfl (by first | exact wrap64 (by omega) (by omega) | exact wrap64 (Int.le_trans (by decide) (w32_lo _).1) (Int.le_trans (w32_lo _).2 (by decide))))
    (icCons (icOf (k := .i64) (k' := .u8) (n := (((a / 4294967296) / 65536) % 256)) (c := (((a / 4294967296) / 65536) % 256)) rfl rfl (by first | exact wrap64 (by omega) (by omega) | exact wrap64 (Int.le_trans (by decide) (w32_lo _).1) (Int.le_trans (w32_lo _).2 (by decide))))
    (icCons (icOf (k := .i64) (k' := .u8) (n := (((a / 4294967296) / 256) % 256)) (c := (((a / 4294967296) / 256) % 256)) rfl rfl (by first | exact wrap64 (by omega) (by omega) | exact wrap64 (Int.le_trans (by decide) (w32_lo _).1) (Int.le_trans (w32_lo _).2 (by decide))))
    (icCons (icOf (k := .i64) (k' := .u8) (n := ((a / 4294967296) % 256)) (c := ((a / 4294967296) % 256)) rfl rfl (by first | exact wrap64 (by omega) (by omega) | exact wrap64 (Int.le_trans (by decide) (w32_lo _).1) (Int.le_trans (w32_lo _).2 (by decide))))
    (icCons (icOf (k := .i64) (k' := .u8) (n := ((a / 16777216) % 256)) (c := ((a / 16777216) % 256)) rfl rfl (by first | exact wrap64 (by omega) (by omega) | exact wrap64 (Int.le_trans (by decide) (w32_lo _).1) (Int.le_trans (w32_lo _).2 (by decide))))
    (icCons (icOf (k := .i64) (k' := .u8) (n := ((a / 65536) % 256)) (c := ((a / 65536) % 256)) rfl rfl (by first | exact wrap64 (by omega) (by omega) | exact wrap64 (Int.le_trans (by decide) (w32_lo _).1) (Int.le_trans (w32_lo _).2 (by decide))))
    (icCons (icOf (k := .i64) (k' := .u8) (n := ((a / 256) % 256)) (c := ((a / 256) % 256)) rfl rfl (by first | exact wrap64 (by omega) (by omega) | exact wrap64 (Int.le_trans (by decide) (w32_lo _).1) (Int.le_trans (w32_lo _).2 (by decide))))
    (icCons (icOf (k := .i64) (k' := .u8) (n := (a % 256)) (c := (a % 256)) rfl rfl (by first | exact wrap64 (by omega) (by omega) | exact wrap64 (Int.le_trans (by decide) (w32_lo _).1) (Int.le_trans (w32_lo _).2 (by decide))))
    (icCons (icOf (k := .i64) (k' := .u8) (n := (((b / 4294967296) / 16777216) % 256)) (c := (((b / 4294967296) / 16777216) % 256)) rfl rfl (by first | exact wrap64 (by omega) (by omega) | exact wrap64 (Int.le_trans (by decide) (w32_lo _).1) (Int.le_trans (w32_lo _).2 (by decide))))
    (icCons (icOf (k := .i64) (k' := .u8) (n := (((b / 4294967296) / 65536) % 256)) (c := (((b / 4294967296) / 65536) % 256)) rfl rfl (by first | exact wrap64 (by omega) (by omega) | exact wrap64 (Int.le_trans (by decide) (w32_lo _).1) (Int.le_trans (w32_lo _).2 (by decide))))
    (icCons (icOf (k := .i64) (k' := .u8) (n := (((b / 4294967296) / 256) % 256)) (c := (((b / 4294967296) / 256) % 256)) rfl rfl (by first | exact wrap64 (by omega) (by omega) | exact wrap64 (Int.le_trans (by decide) (w32_lo _).1) (Int.le_trans (w32_lo _).2 (by decide))))
    (icCons (icOf (k := .i64) (k' := .u8) (n := ((b / 4294967296) % 256)) (c := ((b / 4294967296) % 256)) rfl rfl (by first | exact wrap64 (by omega) (by omega) | exact wrap64 (Int.le_trans (by decide) (w32_lo _).1) (Int.le_trans (w32_lo _).2 (by decide))))
    (icCons (icOf (k := .i64) (k' := .u8) (n := ((b / 16777216) % 256)) (c := ((b / 16777216) % 256)) rfl rfl (by first | exact wrap64 (by omega) (by omega) | exact wrap64 (Int.le_trans (by decide) (w32_lo _).1) (Int.le_trans (w32_lo _).2 (by decide))))
    (icCons (icOf (k := .i64) (k' := .u8) (n := ((b / 65536) % 256)) (c := ((b / 65536) % 256)) rfl rfl (by first | exact wrap64 (by omega) (by omega) | exact wrap64 (Int.le_trans (by decide) (w32_lo _).1) (Int.le_trans (w32_lo _).2 (by decide))))
    (icCons (icOf (k := .i64) (k' := .u8) (n := ((b / 256) % 256)) (c := ((b / 256) % 256)) rfl rfl (by first | exact wrap64 (by omega) (by omega) | exact wrap64 (Int.le_trans (by decide) (w32_lo _).1) (Int.le_trans (w32_lo _).2 (by decide))))
    (icCons (icOf (k := .i64) (k' := .u8) (n := (b % 256)) (c := (b % 256)) rfl rfl (by first | exact wrap64 (by omega) (by omega) | exact wrap64 (Int.le_trans (by decide) (w32_lo _).1) (Int.le_trans (w32_lo _).2 (by decide))))
    (icCons (icOf (k := .i32) (k' := .i64) (n := n) (c := (IntKind.i32.wrap n)) rfl rfl rfl)
    (icCons (icOf (k := .i64) (k' := .i32) (n := (IntKind.i32.wrap n)) (c := (IntKind.i32.wrap n)) rfl rfl (by first | exact wrap64 (by omega) (by omega) | exact wrap64 (Int.le_trans (by decide) (w32_lo _).1) (Int.le_trans (w32_lo _).2 (by decide))))
    (icCons (icOf (k := .u64) (k' := .i64) (n := (IntKind.i64.wrap ((BitVec.ofInt IntKind.i64.bits (IntKind.i64.wrap ((IntKind.i64.wrap (a * b)) + a)) ^^^ BitVec.ofInt IntKind.i64.bits b).toNat : Int))) (c := (IntKind.u64.wrap (IntKind.i64.wrap ((BitVec.ofInt IntKind.i64.bits (IntKind.i64.wrap ((IntKind.i64.wrap (a * b)) + a)) ^^^ BitVec.ofInt IntKind.i64.bits b).toNat : Int)))) rfl rfl (by first | rfl | exact wrapU64 (by omega) (by omega)))
    (icCons (icOf (k := .i64) (k' := .u64) (n := ((IntKind.u64.wrap (IntKind.i64.wrap ((BitVec.ofInt IntKind.i64.bits (IntKind.i64.wrap ((IntKind.i64.wrap (a * b)) + a)) ^^^ BitVec.ofInt IntKind.i64.bits b).toNat : Int))).fdiv (2 ^ (min ((n % 64)).toNat IntKind.u64.bits)))) (c := (IntKind.i64.wrap ((IntKind.u64.wrap (IntKind.i64.wrap ((BitVec.ofInt IntKind.i64.bits (IntKind.i64.wrap ((IntKind.i64.wrap (a * b)) + a)) ^^^ BitVec.ofInt IntKind.i64.bits b).toNat : Int))).fdiv (2 ^ (min ((n % 64)).toNat IntKind.u64.bits))))) rfl rfl rfl)
    (icCons (icOf (k := .u64) (k' := .i64) (n := (IntKind.i64.wrap ((BitVec.ofInt IntKind.i64.bits (IntKind.i64.wrap ((IntKind.i64.wrap (a * b)) + a)) ^^^ BitVec.ofInt IntKind.i64.bits b).toNat : Int))) (c := (IntKind.u64.wrap (IntKind.i64.wrap ((BitVec.ofInt IntKind.i64.bits (IntKind.i64.wrap ((IntKind.i64.wrap (a * b)) + a)) ^^^ BitVec.ofInt IntKind.i64.bits b).toNat : Int)))) rfl rfl (by first | rfl | exact wrapU64 (by omega) (by omega)))
    (icCons (icOf (k := .u64) (k' := .i64) (n := (n % 64)) (c := (n % 64)) rfl rfl (by first | rfl | exact wrapU64 (by omega) (by omega)))
    (icCons (icOf (k := .i64) (k' := .u64) (n := ((IntKind.u64.wrap (IntKind.i64.wrap ((BitVec.ofInt IntKind.i64.bits (IntKind.i64.wrap ((IntKind.i64.wrap (a * b)) + a)) ^^^ BitVec.ofInt IntKind.i64.bits b).toNat : Int))).fdiv (2 ^ (min ((n % 64)).toNat IntKind.u64.bits)))) (c := (IntKind.i64.wrap ((IntKind.u64.wrap (IntKind.i64.wrap ((BitVec.ofInt IntKind.i64.bits (IntKind.i64.wrap ((IntKind.i64.wrap (a * b)) + a)) ^^^ BitVec.ofInt IntKind.i64.bits b).toNat : Int))).fdiv (2 ^ (min ((n % 64)).toNat IntKind.u64.bits))))) rfl rfl rfl)
    icNil)))))))))))))))))))))))))))))))))))))))
abbrev R0 {a b n : Int} (h1a : -9223372036854775808 ≤ a) (h2a : a ≤ 9223372036854775807) (h1b : -9223372036854775808 ≤ b) (h2b : b ≤ 9223372036854775807) (h1n : -9223372036854775808 ≤ n) (h2n : n ≤ 9223372036854775807) (hab : a ≠ b) : VRows (iv0 a b n) noV noK where
  vvp := noVp
  ib := ibL0
  ibok := ib0 h1a h2a h1b h2b h1n h2n hab
  ic := icL0
  icok := ic0 h1a h2a h1b h2b h1n h2n hab
abbrev tx0 (a b n : Int) : Nat → List Int
  | 0 => [(((a / 4294967296) / 16777216) % 256), (((a / 4294967296) / 65536) % 256), (((a / 4294967296) / 256) % 256), ((a / 4294967296) % 256)]
  | 1 => [108, (((a / 4294967296) / 16777216) % 256), (((a / 4294967296) / 65536) % 256), (((a / 4294967296) / 256) % 256), ((a / 4294967296) % 256)]
  | 2 => [((a / 16777216) % 256), ((a / 65536) % 256), ((a / 256) % 256), (a % 256)]
  | 3 => [108, (((a / 4294967296) / 16777216) % 256), (((a / 4294967296) / 65536) % 256), (((a / 4294967296) / 256) % 256), ((a / 4294967296) % 256), ((a / 16777216) % 256), ((a / 65536) % 256), ((a / 256) % 256), (a % 256)]
  | 4 => [(((b / 4294967296) / 16777216) % 256), (((b / 4294967296) / 65536) % 256), (((b / 4294967296) / 256) % 256), ((b / 4294967296) % 256)]
  | 5 => [108, (((b / 4294967296) / 16777216) % 256), (((b / 4294967296) / 65536) % 256), (((b / 4294967296) / 256) % 256), ((b / 4294967296) % 256)]
  | 6 => [((b / 16777216) % 256), ((b / 65536) % 256), ((b / 256) % 256), (b % 256)]
  | 7 => [108, (((b / 4294967296) / 16777216) % 256), (((b / 4294967296) / 65536) % 256), (((b / 4294967296) / 256) % 256), ((b / 4294967296) % 256), ((b / 16777216) % 256), ((b / 65536) % 256), ((b / 256) % 256), (b % 256)]
  | _ => []
abbrev str0 (a b n : Int) : Nat → ByteArray := fun i => bytesI (tx0 a b n i)
theorem tb0 {a b n : Int} : ∀ i, ∀ n_ ∈ tx0 a b n i, 0 ≤ n_ ∧ n_ < 256 := by
  intro i m hm
  unfold tx0 at hm
  split at hm
  all_goals first | (simp at hm; done) | skip
  all_goals
    simp only [List.mem_cons, List.not_mem_nil, or_false] at hm
    omega
abbrev ne0 : Nat → List (Nat × Nat)
  | 3 => [(3, 7300981), (5, 318520240245), (5, 435476710261), (2, 19829), (2, 19811), (17, 39604874714118564987963700733454846093941), (17, 39604874714118564987963700733454846093923)]
  | 7 => [(3, 7300981), (5, 318520240245), (5, 435476710261), (2, 19829), (2, 19811), (17, 39604874714118564987963700733454846093941), (17, 39604874714118564987963700733454846093923)]
  | _ => []
theorem nek0 {a b n : Int} : ∀ i p, p ∈ ne0 i → p.2 < 256 ^ p.1 → str0 a b n i ≠ strOf p.1 p.2 := by
  intro i p hp _ e
  have e1 := congrArg ByteArray.size e
  letI := Tab.empty
  rw [bytesI_size, strOf_size] at e1
  unfold ne0 at hp
  split at hp
  all_goals first | (simp at hp; done) | skip
  all_goals
    simp only [List.mem_cons, List.not_mem_nil, or_false] at hp
    rcases hp with rfl | rfl | rfl | rfl | rfl | rfl | rfl <;> simp [tx0] at e1
theorem ne_ab {a b n : Int} (h1a : -9223372036854775808 ≤ a) (h2a : a ≤ 9223372036854775807) (h1b : -9223372036854775808 ≤ b) (h2b : b ≤ 9223372036854775807) (h : str0 a b n 3 = str0 a b n 7) : a = b := by
  have := bytesI_inj (tb0 3) (tb0 7) h
  simp only [tx0, List.cons.injEq, and_true, true_and] at this
  omega
abbrev trL0 : List TRow := [(6, [(.oi 5), (.oi 7), (.oi 9), (.oi 10)], (.ostr 0)), (3, [(.str 1 108), (.ostr 0)], (.ostr 1)), (6, [(.oi 12), (.oi 14), (.oi 16), (.oi 17)], (.ostr 2)), (3, [(.ostr 1), (.ostr 2)], (.ostr 3)), (6, [(.oi 20), (.oi 22), (.oi 24), (.oi 25)], (.ostr 4)), (3, [(.str 1 108), (.ostr 4)], (.ostr 5)), (6, [(.oi 27), (.oi 29), (.oi 31), (.oi 32)], (.ostr 6)), (3, [(.ostr 5), (.ostr 6)], (.ostr 7)), (4, [(.ostr 3), (.ostr 7)], (.bool false)), (4, [(.ostr 3), (.ostr 3)], (.bool true)), (4, [(.ostr 7), (.ostr 7)], (.bool true))]
theorem tr0 {a b n : Int} (h1a : -9223372036854775808 ≤ a) (h2a : a ≤ 9223372036854775807) (h1b : -9223372036854775808 ≤ b) (h2b : b ≤ 9223372036854775807) (h1n : -9223372036854775808 ≤ n) (h2n : n ≤ 9223372036854775807) (hab : a ≠ b) : ∀ x_ ∈ trL0, TrOk (str0 a b n) (iv0 a b n) x_.1 x_.2.1 x_.2.2 := (txCons (tr6 (ns := tx0 a b n 0) rfl (tb0 0) rfl)
    (txCons (tr3 (a := strOf 1 108) (b := str0 a b n 0) (denS_str (by decide)) rfl (by letI := Tab.empty; rw [strOf_size, bytesI_size]; exact (by decide : 1 + 4 < 1000000)) (by rw [strOf_bytesI, bytesI_append]; rfl))
    (txCons (tr6 (ns := tx0 a b n 2) rfl (tb0 2) rfl)
    (txCons (tr3 (a := str0 a b n 1) (b := str0 a b n 2) rfl rfl (by rw [bytesI_size, bytesI_size]; exact (by decide : 5 + 4 < 1000000)) (by rw [bytesI_append]; rfl))
    (txCons (tr6 (ns := tx0 a b n 4) rfl (tb0 4) rfl)
    (txCons (tr3 (a := strOf 1 108) (b := str0 a b n 4) (denS_str (by decide)) rfl (by letI := Tab.empty; rw [strOf_size, bytesI_size]; exact (by decide : 1 + 4 < 1000000)) (by rw [strOf_bytesI, bytesI_append]; rfl))
    (txCons (tr6 (ns := tx0 a b n 6) rfl (tb0 6) rfl)
    (txCons (tr3 (a := str0 a b n 5) (b := str0 a b n 6) rfl rfl (by rw [bytesI_size, bytesI_size]; exact (by decide : 5 + 4 < 1000000)) (by rw [bytesI_append]; rfl))
    (txCons (tr4 rfl rfl ⟨fun h => (nomatch h), fun h => absurd (ne_ab h1a h2a h1b h2b h) hab⟩)
    (txCons (tr4 rfl rfl ⟨fun _ => rfl, fun _ => rfl⟩)
    (txCons (tr4 rfl rfl ⟨fun _ => rfl, fun _ => rfl⟩)
    txNil)))))))))))
abbrev X0 {a b n : Int} (h1a : -9223372036854775808 ≤ a) (h2a : a ≤ 9223372036854775807) (h1b : -9223372036854775808 ≤ b) (h2b : b ≤ 9223372036854775807) (h1n : -9223372036854775808 ≤ n) (h2n : n ≤ 9223372036854775807) (hab : a ≠ b) : Txts (iv0 a b n) := { str := str0 a b n, ne := ne0, ok := nek0, tr := trL0, trok := tr0 h1a h2a h1b h2b h1n h2n hab }
abbrev T0 {a b n : Int} (h1a : -9223372036854775808 ≤ a) (h2a : a ≤ 9223372036854775807) (h1b : -9223372036854775808 ≤ b) (h2b : b ≤ 9223372036854775807) (h1n : -9223372036854775808 ≤ n) (h2n : n ≤ 9223372036854775807) (hab : a ≠ b) : Tab := (R0 h1a h2a h1b h2b h1n h2n hab).ttab (X0 h1a h2a h1b h2b h1n h2n hab)
abbrev iv1 (a n : Int) : Nat → IntKind × Int
  | 0 => (.i64, a)
  | 1 => (.i64, n)
  | 2 => (.i64, (a / 4294967296))
  | 3 => (.i64, ((a / 4294967296) / 16777216))
  | 4 => (.u8, (((a / 4294967296) / 16777216) % 256))
  | 5 => (.i64, ((a / 4294967296) / 65536))
  | 6 => (.u8, (((a / 4294967296) / 65536) % 256))
  | 7 => (.i64, ((a / 4294967296) / 256))
  | 8 => (.u8, (((a / 4294967296) / 256) % 256))
  | 9 => (.u8, ((a / 4294967296) % 256))
  | 10 => (.i64, (a / 16777216))
  | 11 => (.u8, ((a / 16777216) % 256))
  | 12 => (.i64, (a / 65536))
  | 13 => (.u8, ((a / 65536) % 256))
  | 14 => (.i64, (a / 256))
  | 15 => (.u8, ((a / 256) % 256))
  | 16 => (.u8, (a % 256))
  | 17 => (.i64, (((a / 4294967296) / 16777216) % 256))
  | 18 => (.i64, (((a / 4294967296) / 16777216) % 256))
  | 19 => (.i64, ((((a / 4294967296) / 16777216) % 256) * 256))
  | 20 => (.i64, (((a / 4294967296) / 65536) % 256))
  | 21 => (.i64, (((((a / 4294967296) / 16777216) % 256) * 256) + (((a / 4294967296) / 65536) % 256)))
  | 22 => (.i64, ((((((a / 4294967296) / 16777216) % 256) * 256) + (((a / 4294967296) / 65536) % 256)) * 256))
  | 23 => (.i64, (((a / 4294967296) / 256) % 256))
  | 24 => (.i64, (((((((a / 4294967296) / 16777216) % 256) * 256) + (((a / 4294967296) / 65536) % 256)) * 256) + (((a / 4294967296) / 256) % 256)))
  | 25 => (.i64, ((((((((a / 4294967296) / 16777216) % 256) * 256) + (((a / 4294967296) / 65536) % 256)) * 256) + (((a / 4294967296) / 256) % 256)) * 256))
  | 26 => (.i64, ((a / 4294967296) % 256))
  | 27 => (.i64, (((((((((a / 4294967296) / 16777216) % 256) * 256) + (((a / 4294967296) / 65536) % 256)) * 256) + (((a / 4294967296) / 256) % 256)) * 256) + ((a / 4294967296) % 256)))
  | 28 => (.i64, (a / 4294967296 * 4294967296))
  | 29 => (.i64, ((a / 16777216) % 256))
  | 30 => (.i64, ((a / 16777216) % 256))
  | 31 => (.i64, (((a / 16777216) % 256) * 256))
  | 32 => (.i64, ((a / 65536) % 256))
  | 33 => (.i64, ((((a / 16777216) % 256) * 256) + ((a / 65536) % 256)))
  | 34 => (.i64, (((((a / 16777216) % 256) * 256) + ((a / 65536) % 256)) * 256))
  | 35 => (.i64, ((a / 256) % 256))
  | 36 => (.i64, ((((((a / 16777216) % 256) * 256) + ((a / 65536) % 256)) * 256) + ((a / 256) % 256)))
  | 37 => (.i64, (((((((a / 16777216) % 256) * 256) + ((a / 65536) % 256)) * 256) + ((a / 256) % 256)) * 256))
  | 38 => (.i64, (a % 256))
  | 39 => (.i64, ((((((((a / 16777216) % 256) * 256) + ((a / 65536) % 256)) * 256) + ((a / 256) % 256)) * 256) + (a % 256)))
  | 40 => (.i64, a)
  | 41 => (.i32, (IntKind.i32.wrap n))
  | 42 => (.i64, (IntKind.i32.wrap n))
  | 43 => (.i64, (IntKind.i64.wrap (a * a)))
  | 44 => (.i64, (IntKind.i64.wrap ((IntKind.i64.wrap (a * a)) + a)))
  | 45 => (.i64, (IntKind.i64.wrap ((BitVec.ofInt IntKind.i64.bits (IntKind.i64.wrap ((IntKind.i64.wrap (a * a)) + a)) ^^^ BitVec.ofInt IntKind.i64.bits a).toNat : Int)))
  | 46 => (.u64, (IntKind.u64.wrap (IntKind.i64.wrap ((BitVec.ofInt IntKind.i64.bits (IntKind.i64.wrap ((IntKind.i64.wrap (a * a)) + a)) ^^^ BitVec.ofInt IntKind.i64.bits a).toNat : Int))))
  | 47 => (.i64, (n % 64))
  | 48 => (.u64, ((IntKind.u64.wrap (IntKind.i64.wrap ((BitVec.ofInt IntKind.i64.bits (IntKind.i64.wrap ((IntKind.i64.wrap (a * a)) + a)) ^^^ BitVec.ofInt IntKind.i64.bits a).toNat : Int))).fdiv (2 ^ (min ((n % 64)).toNat IntKind.u64.bits))))
  | 49 => (.i64, (IntKind.i64.wrap ((IntKind.u64.wrap (IntKind.i64.wrap ((BitVec.ofInt IntKind.i64.bits (IntKind.i64.wrap ((IntKind.i64.wrap (a * a)) + a)) ^^^ BitVec.ofInt IntKind.i64.bits a).toNat : Int))).fdiv (2 ^ (min ((n % 64)).toNat IntKind.u64.bits)))))
  | 50 => (.i64, (IntKind.i64.wrap (a * a)))
  | 51 => (.i64, (IntKind.i64.wrap ((IntKind.i64.wrap (a * a)) + a)))
  | 52 => (.i64, (IntKind.i64.wrap ((BitVec.ofInt IntKind.i64.bits (IntKind.i64.wrap ((IntKind.i64.wrap (a * a)) + a)) ^^^ BitVec.ofInt IntKind.i64.bits a).toNat : Int)))
  | 53 => (.u64, (IntKind.u64.wrap (IntKind.i64.wrap ((BitVec.ofInt IntKind.i64.bits (IntKind.i64.wrap ((IntKind.i64.wrap (a * a)) + a)) ^^^ BitVec.ofInt IntKind.i64.bits a).toNat : Int))))
  | 54 => (.i64, (n % 64))
  | 55 => (.u64, (n % 64))
  | 56 => (.u64, ((IntKind.u64.wrap (IntKind.i64.wrap ((BitVec.ofInt IntKind.i64.bits (IntKind.i64.wrap ((IntKind.i64.wrap (a * a)) + a)) ^^^ BitVec.ofInt IntKind.i64.bits a).toNat : Int))).fdiv (2 ^ (min ((n % 64)).toNat IntKind.u64.bits))))
  | 57 => (.i64, (IntKind.i64.wrap ((IntKind.u64.wrap (IntKind.i64.wrap ((BitVec.ofInt IntKind.i64.bits (IntKind.i64.wrap ((IntKind.i64.wrap (a * a)) + a)) ^^^ BitVec.ofInt IntKind.i64.bits a).toNat : Int))).fdiv (2 ^ (min ((n % 64)).toNat IntKind.u64.bits)))))
  | _ => (.i64, 0)
abbrev ibL1 : List BRow := [(16, .oi 0, .int .u64 32, .oi 2), (16, .oi 2, .int .u64 24, .oi 3), (16, .oi 2, .int .u64 16, .oi 5), (16, .oi 2, .int .u64 8, .oi 7), (16, .oi 0, .int .u64 24, .oi 10), (16, .oi 0, .int .u64 16, .oi 12), (16, .oi 0, .int .u64 8, .oi 14), (6, .int .i64 0, .oi 17, .oi 18), (15, .oi 18, .int .u64 8, .oi 19), (6, .oi 19, .oi 20, .oi 21), (15, .oi 21, .int .u64 8, .oi 22), (6, .oi 22, .oi 23, .oi 24), (15, .oi 24, .int .u64 8, .oi 25), (6, .oi 25, .oi 26, .oi 27), (15, .oi 27, .int .u64 32, .oi 28), (6, .int .i64 0, .oi 29, .oi 30), (15, .oi 30, .int .u64 8, .oi 31), (6, .oi 31, .oi 32, .oi 33), (15, .oi 33, .int .u64 8, .oi 34), (6, .oi 34, .oi 35, .oi 36), (15, .oi 36, .int .u64 8, .oi 37), (6, .oi 37, .oi 38, .oi 39), (6, .oi 28, .oi 39, .oi 40), (2, .oi 40, .oi 40, .oi 43), (0, .oi 43, .oi 40, .oi 44), (7, .oi 44, .oi 40, .oi 45), (5, .oi 42, .int .i64 63, .oi 47), (16, .oi 46, .oi 47, .oi 48), (2, .oi 0, .oi 0, .oi 50), (0, .oi 50, .oi 0, .oi 51), (7, .oi 51, .oi 0, .oi 52), (5, .oi 1, .int .i64 63, .oi 54), (16, .oi 53, .oi 55, .oi 56), (9, .oi 49, .oi 57, .bool true)]
abbrev icL1 : List (IntKind × AV × AV) := [(.u8, .oi 3, .oi 4), (.u8, .oi 5, .oi 6), (.u8, .oi 7, .oi 8), (.u8, .oi 2, .oi 9), (.u8, .oi 10, .oi 11), (.u8, .oi 12, .oi 13), (.u8, .oi 14, .oi 15), (.u8, .oi 0, .oi 16), (.i64, .oi 4, .oi 17), (.i64, .oi 6, .oi 20), (.i64, .oi 8, .oi 23), (.i64, .oi 9, .oi 26), (.i64, .oi 11, .oi 29), (.i64, .oi 13, .oi 32), (.i64, .oi 15, .oi 35), (.i64, .oi 16, .oi 38), (.i32, .oi 1, .oi 41), (.i64, .oi 41, .oi 42), (.u64, .oi 45, .oi 46), (.i64, .oi 48, .oi 49), (.u64, .oi 52, .oi 53), (.u64, .oi 54, .oi 55), (.i64, .oi 56, .oi 57)]
theorem ib1 {a n : Int} (h1a : -9223372036854775808 ≤ a) (h2a : a ≤ 9223372036854775807) (h1n : -9223372036854775808 ≤ n) (h2n : n ≤ 9223372036854775807) : ∀ x_ ∈ ibL1, IbOk (iv1 a n) x_ := by
  letI := Tab.empty
  exact (ibCons (ibShr (k := .i64) (k' := .u64) (a := a) (b := 32) (c := (a / 4294967296)) rfl rfl rfl (by decide) (shr_is (by decide) (by decide)))
    (ibCons (ibShr (k := .i64) (k' := .u64) (a := (a / 4294967296)) (b := 24) (c := ((a / 4294967296) / 16777216)) rfl rfl rfl (by decide) (shr_is (by decide) (by decide)))
    (ibCons (ibShr (k := .i64) (k' := .u64) (a := (a / 4294967296)) (b := 16) (c := ((a / 4294967296) / 65536)) rfl rfl rfl (by decide) (shr_is (by decide) (by decide)))
    (ibCons (ibShr (k := .i64) (k' := .u64) (a := (a / 4294967296)) (b := 8) (c := ((a / 4294967296) / 256)) rfl rfl rfl (by decide) (shr_is (by decide) (by decide)))
    (ibCons (ibShr (k := .i64) (k' := .u64) (a := a) (b := 24) (c := (a / 16777216)) rfl rfl rfl (by decide) (shr_is (by decide) (by decide)))
    (ibCons (ibShr (k := .i64) (k' := .u64) (a := a) (b := 16) (c := (a / 65536)) rfl rfl rfl (by decide) (shr_is (by decide) (by decide)))
    (ibCons (ibShr (k := .i64) (k' := .u64) (a := a) (b := 8) (c := (a / 256)) rfl rfl rfl (by decide) (shr_is (by decide) (by decide)))
    (ibCons (ibOr (k := .i64) (a := 0) (b := (((a / 4294967296) / 16777216) % 256)) (c := (((a / 4294967296) / 16777216) % 256)) rfl rfl rfl ((or_add 8 (by decide) (by omega) (by omega) (by decide) (by omega) (by omega)).trans (Int.zero_add _)))
    (ibCons (ibShl (k := .i64) (k' := .u64) (a := (((a / 4294967296) / 16777216) % 256)) (b := 8) (c := ((((a / 4294967296) / 16777216) % 256) * 256)) rfl rfl rfl (by decide) (show IntKind.i64.wrap ((((a / 4294967296) / 16777216) % 256) * 256) = _ from wrap64 (by omega) (by omega)))
    (ibCons (ibOr (k := .i64) (a := ((((a / 4294967296) / 16777216) % 256) * 256)) (b := (((a / 4294967296) / 65536) % 256)) (c := (((((a / 4294967296) / 16777216) % 256) * 256) + (((a / 4294967296) / 65536) % 256))) rfl rfl rfl (or_add 8 (by omega) (by omega) (by omega) (by decide) (by omega) (by omega)))
    (ibCons (ibShl (k := .i64) (k' := .u64) (a := (((((a / 4294967296) / 16777216) % 256) * 256) + (((a / 4294967296) / 65536) % 256))) (b := 8) (c := ((((((a / 4294967296) / 16777216) % 256) * 256) + (((a / 4294967296) / 65536) % 256)) * 256)) rfl rfl rfl (by decide) (show IntKind.i64.wrap ((((((a / 4294967296) / 16777216) % 256) * 256) + (((a / 4294967296) / 65536) % 256)) * 256) = _ from wrap64 (by omega) (by omega)))
    (ibCons (ibOr (k := .i64) (a := ((((((a / 4294967296) / 16777216) % 256) * 256) + (((a / 4294967296) / 65536) % 256)) * 256)) (b := (((a / 4294967296) / 256) % 256)) (c := (((((((a / 4294967296) / 16777216) % 256) * 256) + (((a / 4294967296) / 65536) % 256)) * 256) + (((a / 4294967296) / 256) % 256))) rfl rfl rfl (or_add 8 (by omega) (by omega) (by omega) (by decide) (by omega) (by omega)))
    (ibCons (ibShl (k := .i64) (k' := .u64) (a := (((((((a / 4294967296) / 16777216) % 256) * 256) + (((a / 4294967296) / 65536) % 256)) * 256) + (((a / 4294967296) / 256) % 256))) (b := 8) (c := ((((((((a / 4294967296) / 16777216) % 256) * 256) + (((a / 4294967296) / 65536) % 256)) * 256) + (((a / 4294967296) / 256) % 256)) * 256)) rfl rfl rfl (by decide) (show IntKind.i64.wrap ((((((((a / 4294967296) / 16777216) % 256) * 256) + (((a / 4294967296) / 65536) % 256)) * 256) + (((a / 4294967296) / 256) % 256)) * 256) = _ from wrap64 (by omega) (by omega)))
    (ibCons (ibOr (k := .i64) (a := ((((((((a / 4294967296) / 16777216) % 256) * 256) + (((a / 4294967296) / 65536) % 256)) * 256) + (((a / 4294967296) / 256) % 256)) * 256)) (b := ((a / 4294967296) % 256)) (c := (((((((((a / 4294967296) / 16777216) % 256) * 256) + (((a / 4294967296) / 65536) % 256)) * 256) + (((a / 4294967296) / 256) % 256)) * 256) + ((a / 4294967296) % 256))) rfl rfl rfl (or_add 8 (by omega) (by omega) (by omega) (by decide) (by omega) (by omega)))
    (ibCons (ibShl (k := .i64) (k' := .u64) (a := (((((((((a / 4294967296) / 16777216) % 256) * 256) + (((a / 4294967296) / 65536) % 256)) * 256) + (((a / 4294967296) / 256) % 256)) * 256) + ((a / 4294967296) % 256))) (b := 32) (c := (a / 4294967296 * 4294967296)) rfl rfl rfl (by decide) (hi_is h1a h2a (by omega)))
    (ibCons (ibOr (k := .i64) (a := 0) (b := ((a / 16777216) % 256)) (c := ((a / 16777216) % 256)) rfl rfl rfl ((or_add 8 (by decide) (by omega) (by omega) (by decide) (by omega) (by omega)).trans (Int.zero_add _)))
    (ibCons (ibShl (k := .i64) (k' := .u64) (a := ((a / 16777216) % 256)) (b := 8) (c := (((a / 16777216) % 256) * 256)) rfl rfl rfl (by decide) (show IntKind.i64.wrap (((a / 16777216) % 256) * 256) = _ from wrap64 (by omega) (by omega)))
    (ibCons (ibOr (k := .i64) (a := (((a / 16777216) % 256) * 256)) (b := ((a / 65536) % 256)) (c := ((((a / 16777216) % 256) * 256) + ((a / 65536) % 256))) rfl rfl rfl (or_add 8 (by omega) (by omega) (by omega) (by decide) (by omega) (by omega)))
    (ibCons (ibShl (k := .i64) (k' := .u64) (a := ((((a / 16777216) % 256) * 256) + ((a / 65536) % 256))) (b := 8) (c := (((((a / 16777216) % 256) * 256) + ((a / 65536) % 256)) * 256)) rfl rfl rfl (by decide) (show IntKind.i64.wrap (((((a / 16777216) % 256) * 256) + ((a / 65536) % 256)) * 256) = _ from wrap64 (by omega) (by omega)))
    (ibCons (ibOr (k := .i64) (a := (((((a / 16777216) % 256) * 256) + ((a / 65536) % 256)) * 256)) (b := ((a / 256) % 256)) (c := ((((((a / 16777216) % 256) * 256) + ((a / 65536) % 256)) * 256) + ((a / 256) % 256))) rfl rfl rfl (or_add 8 (by omega) (by omega) (by omega) (by decide) (by omega) (by omega)))
    (ibCons (ibShl (k := .i64) (k' := .u64) (a := ((((((a / 16777216) % 256) * 256) + ((a / 65536) % 256)) * 256) + ((a / 256) % 256))) (b := 8) (c := (((((((a / 16777216) % 256) * 256) + ((a / 65536) % 256)) * 256) + ((a / 256) % 256)) * 256)) rfl rfl rfl (by decide) (show IntKind.i64.wrap (((((((a / 16777216) % 256) * 256) + ((a / 65536) % 256)) * 256) + ((a / 256) % 256)) * 256) = _ from wrap64 (by omega) (by omega)))
    (ibCons (ibOr (k := .i64) (a := (((((((a / 16777216) % 256) * 256) + ((a / 65536) % 256)) * 256) + ((a / 256) % 256)) * 256)) (b := (a % 256)) (c := ((((((((a / 16777216) % 256) * 256) + ((a / 65536) % 256)) * 256) + ((a / 256) % 256)) * 256) + (a % 256))) rfl rfl rfl (or_add 8 (by omega) (by omega) (by omega) (by decide) (by omega) (by omega)))
    (ibCons (ibOr (k := .i64) (a := (a / 4294967296 * 4294967296)) (b := ((((((((a / 16777216) % 256) * 256) + ((a / 65536) % 256)) * 256) + ((a / 256) % 256)) * 256) + (a % 256))) (c := a) rfl rfl rfl ((or_add 32 (by omega) (by omega) (by omega) (by decide) (by omega) (by omega)).trans (by omega)))
    (ibCons (ibMulW (a := a) (b := a) (c := (IntKind.i64.wrap (a * a))) rfl rfl rfl rfl)
    (ibCons (ibAddW (a := (IntKind.i64.wrap (a * a))) (b := a) (c := (IntKind.i64.wrap ((IntKind.i64.wrap (a * a)) + a))) rfl rfl rfl rfl)
    (ibCons (ibXorW (k := .i64) (a := (IntKind.i64.wrap ((IntKind.i64.wrap (a * a)) + a))) (b := a) (c := (IntKind.i64.wrap ((BitVec.ofInt IntKind.i64.bits (IntKind.i64.wrap ((IntKind.i64.wrap (a * a)) + a)) ^^^ BitVec.ofInt IntKind.i64.bits a).toNat : Int))) rfl rfl rfl rfl)
    (ibCons (ibAnd (k := .i64) (a := (IntKind.i32.wrap n)) (b := 63) (c := (n % 64)) rfl rfl rfl ((and63 _).trans (w32_64 _)))
    (ibCons (ibShr (k := .u64) (k' := .i64) (a := (IntKind.u64.wrap (IntKind.i64.wrap ((BitVec.ofInt IntKind.i64.bits (IntKind.i64.wrap ((IntKind.i64.wrap (a * a)) + a)) ^^^ BitVec.ofInt IntKind.i64.bits a).toNat : Int)))) (b := (n % 64)) (c := ((IntKind.u64.wrap (IntKind.i64.wrap ((BitVec.ofInt IntKind.i64.bits (IntKind.i64.wrap ((IntKind.i64.wrap (a * a)) + a)) ^^^ BitVec.ofInt IntKind.i64.bits a).toNat : Int))).fdiv (2 ^ (min ((n % 64)).toNat IntKind.u64.bits)))) rfl rfl rfl (by omega) rfl)
    (ibCons (ibMulW (a := a) (b := a) (c := (IntKind.i64.wrap (a * a))) rfl rfl rfl rfl)
    (ibCons (ibAddW (a := (IntKind.i64.wrap (a * a))) (b := a) (c := (IntKind.i64.wrap ((IntKind.i64.wrap (a * a)) + a))) rfl rfl rfl rfl)
    (ibCons (ibXorW (k := .i64) (a := (IntKind.i64.wrap ((IntKind.i64.wrap (a * a)) + a))) (b := a) (c := (IntKind.i64.wrap ((BitVec.ofInt IntKind.i64.bits (IntKind.i64.wrap ((IntKind.i64.wrap (a * a)) + a)) ^^^ BitVec.ofInt IntKind.i64.bits a).toNat : Int))) rfl rfl rfl rfl)
    (ibCons (ibAnd (k := .i64) (a := n) (b := 63) (c := (n % 64)) rfl rfl rfl (and63 _))
    (ibCons (ibShr (k := .u64) (k' := .u64) (a := (IntKind.u64.wrap (IntKind.i64.wrap ((BitVec.ofInt IntKind.i64.bits (IntKind.i64.wrap ((IntKind.i64.wrap (a * a)) + a)) ^^^ BitVec.ofInt IntKind.i64.bits a).toNat : Int)))) (b := (n % 64)) (c := ((IntKind.u64.wrap (IntKind.i64.wrap ((BitVec.ofInt IntKind.i64.bits (IntKind.i64.wrap ((IntKind.i64.wrap (a * a)) + a)) ^^^ BitVec.ofInt IntKind.i64.bits a).toNat : Int))).fdiv (2 ^ (min ((n % 64)).toNat IntKind.u64.bits)))) rfl rfl rfl (by omega) rfl)
    (ibCons (ibEqK (k := .i64) (a := (IntKind.i64.wrap ((IntKind.u64.wrap (IntKind.i64.wrap ((BitVec.ofInt IntKind.i64.bits (IntKind.i64.wrap ((IntKind.i64.wrap (a * a)) + a)) ^^^ BitVec.ofInt IntKind.i64.bits a).toNat : Int))).fdiv (2 ^ (min ((n % 64)).toNat IntKind.u64.bits))))) (b := (IntKind.i64.wrap ((IntKind.u64.wrap (IntKind.i64.wrap ((BitVec.ofInt IntKind.i64.bits (IntKind.i64.wrap ((IntKind.i64.wrap (a * a)) + a)) ^^^ BitVec.ofInt IntKind.i64.bits a).toNat : Int))).fdiv (2 ^ (min ((n % 64)).toNat IntKind.u64.bits))))) rfl rfl (decide_eq_true rfl))
    ibNil))))))))))))))))))))))))))))))))))
theorem ic1 {a n : Int} (h1a : -9223372036854775808 ≤ a) (h2a : a ≤ 9223372036854775807) (h1n : -9223372036854775808 ≤ n) (h2n : n ≤ 9223372036854775807) : ∀ x_ ∈ icL1, IcOk' (iv1 a n) x_ := (icCons (icOf (k := .u8) (k' := .i64) (n := ((a / 4294967296) / 16777216)) (c := (((a / 4294967296) / 16777216) % 256)) rfl rfl (u8w _))
    (icCons (icOf (k := .u8) (k' := .i64) (n := ((a / 4294967296) / 65536)) (c := (((a / 4294967296) / 65536) % 256)) rfl rfl (u8w _))
    (icCons (icOf (k := .u8) (k' := .i64) (n := ((a / 4294967296) / 256)) (c := (((a / 4294967296) / 256) % 256)) rfl rfl (u8w _))
    (icCons (icOf (k := .u8) (k' := .i64) (n := (a / 4294967296)) (c := ((a / 4294967296) % 256)) rfl rfl (u8w _))
    (icCons (icOf (k := .u8) (k' := .i64) (n := (a / 16777216)) (c := ((a / 16777216) % 256)) rfl rfl (u8w _))
    (icCons (icOf (k := .u8) (k' := .i64) (n := (a / 65536)) (c := ((a / 65536) % 256)) rfl rfl (u8w _))
    (icCons (icOf (k := .u8) (k' := .i64) (n := (a / 256)) (c := ((a / 256) % 256)) rfl rfl (u8w _))
    (icCons (icOf (k := .u8) (k' := .i64) (n := a) (c := (a % 256)) rfl rfl (u8w _))
    (icCons (icOf (k := .i64) (k' := .u8) (n := (((a / 4294967296) / 16777216) % 256)) (c := (((a / 4294967296) / 16777216) % 256)) rfl rfl (by first | exact wrap64 (by omega) (by omega) | exact wrap64 (Int.le_trans (by decide) (w32_lo _).1) (Int.le_trans (w32_lo _).2 (by decide))))
    (icCons (icOf (k := .i64) (k' := .u8) (n := (((a / 4294967296) / 65536) % 256)) (c := (((a / 4294967296) / 65536) % 256)) rfl rfl (by first | exact wrap64 (by omega) (by omega) | exact wrap64 (Int.le_trans (by decide) (w32_lo _).1) (Int.le_trans (w32_lo _).2 (by decide))))
    (icCons (icOf (k := .i64) (k' := .u8) (n := (((a / 4294967296) / 256) % 256)) (c := (((a / 4294967296) / 256) % 256)) rfl rfl (by first | exact wrap64 (by omega) (by omega) | exact wrap64 (Int.le_trans (by decide) (w32_lo _).1) (Int.le_trans (w32_lo _).2 (by decide))))
    (icCons (icOf (k := .i64) (k' := .u8) (n := ((a / 4294967296) % 256)) (c := ((a / 4294967296) % 256)) rfl rfl (by first | exact wrap64 (by omega) (by omega) | exact wrap64 (Int.le_trans (by decide) (w32_lo _).1) (Int.le_trans (w32_lo _).2 (by decide))))
    (icCons (icOf (k := .i64) (k' := .u8) (n := ((a / 16777216) % 256)) (c := ((a / 16777216) % 256)) rfl rfl (by first | exact wrap64 (by omega) (by omega) | exact wrap64 (Int.le_trans (by decide) (w32_lo _).1) (Int.le_trans (w32_lo _).2 (by decide))))
    (icCons (icOf (k := .i64) (k' := .u8) (n := ((a / 65536) % 256)) (c := ((a / 65536) % 256)) rfl rfl (by first | exact wrap64 (by omega) (by omega) | exact wrap64 (Int.le_trans (by decide) (w32_lo _).1) (Int.le_trans (w32_lo _).2 (by decide))))
    (icCons (icOf (k := .i64) (k' := .u8) (n := ((a / 256) % 256)) (c := ((a / 256) % 256)) rfl rfl (by first | exact wrap64 (by omega) (by omega) | exact wrap64 (Int.le_trans (by decide) (w32_lo _).1) (Int.le_trans (w32_lo _).2 (by decide))))
    (icCons (icOf (k := .i64) (k' := .u8) (n := (a % 256)) (c := (a % 256)) rfl rfl (by first | exact wrap64 (by omega) (by omega) | exact wrap64 (Int.le_trans (by decide) (w32_lo _).1) (Int.le_trans (w32_lo _).2 (by decide))))
    (icCons (icOf (k := .i32) (k' := .i64) (n := n) (c := (IntKind.i32.wrap n)) rfl rfl rfl)
    (icCons (icOf (k := .i64) (k' := .i32) (n := (IntKind.i32.wrap n)) (c := (IntKind.i32.wrap n)) rfl rfl (by first | exact wrap64 (by omega) (by omega) | exact wrap64 (Int.le_trans (by decide) (w32_lo _).1) (Int.le_trans (w32_lo _).2 (by decide))))
    (icCons (icOf (k := .u64) (k' := .i64) (n := (IntKind.i64.wrap ((BitVec.ofInt IntKind.i64.bits (IntKind.i64.wrap ((IntKind.i64.wrap (a * a)) + a)) ^^^ BitVec.ofInt IntKind.i64.bits a).toNat : Int))) (c := (IntKind.u64.wrap (IntKind.i64.wrap ((BitVec.ofInt IntKind.i64.bits (IntKind.i64.wrap ((IntKind.i64.wrap (a * a)) + a)) ^^^ BitVec.ofInt IntKind.i64.bits a).toNat : Int)))) rfl rfl (by first | rfl | exact wrapU64 (by omega) (by omega)))
    (icCons (icOf (k := .i64) (k' := .u64) (n := ((IntKind.u64.wrap (IntKind.i64.wrap ((BitVec.ofInt IntKind.i64.bits (IntKind.i64.wrap ((IntKind.i64.wrap (a * a)) + a)) ^^^ BitVec.ofInt IntKind.i64.bits a).toNat : Int))).fdiv (2 ^ (min ((n % 64)).toNat IntKind.u64.bits)))) (c := (IntKind.i64.wrap ((IntKind.u64.wrap (IntKind.i64.wrap ((BitVec.ofInt IntKind.i64.bits (IntKind.i64.wrap ((IntKind.i64.wrap (a * a)) + a)) ^^^ BitVec.ofInt IntKind.i64.bits a).toNat : Int))).fdiv (2 ^ (min ((n % 64)).toNat IntKind.u64.bits))))) rfl rfl rfl)
    (icCons (icOf (k := .u64) (k' := .i64) (n := (IntKind.i64.wrap ((BitVec.ofInt IntKind.i64.bits (IntKind.i64.wrap ((IntKind.i64.wrap (a * a)) + a)) ^^^ BitVec.ofInt IntKind.i64.bits a).toNat : Int))) (c := (IntKind.u64.wrap (IntKind.i64.wrap ((BitVec.ofInt IntKind.i64.bits (IntKind.i64.wrap ((IntKind.i64.wrap (a * a)) + a)) ^^^ BitVec.ofInt IntKind.i64.bits a).toNat : Int)))) rfl rfl (by first | rfl | exact wrapU64 (by omega) (by omega)))
    (icCons (icOf (k := .u64) (k' := .i64) (n := (n % 64)) (c := (n % 64)) rfl rfl (by first | rfl | exact wrapU64 (by omega) (by omega)))
    (icCons (icOf (k := .i64) (k' := .u64) (n := ((IntKind.u64.wrap (IntKind.i64.wrap ((BitVec.ofInt IntKind.i64.bits (IntKind.i64.wrap ((IntKind.i64.wrap (a * a)) + a)) ^^^ BitVec.ofInt IntKind.i64.bits a).toNat : Int))).fdiv (2 ^ (min ((n % 64)).toNat IntKind.u64.bits)))) (c := (IntKind.i64.wrap ((IntKind.u64.wrap (IntKind.i64.wrap ((BitVec.ofInt IntKind.i64.bits (IntKind.i64.wrap ((IntKind.i64.wrap (a * a)) + a)) ^^^ BitVec.ofInt IntKind.i64.bits a).toNat : Int))).fdiv (2 ^ (min ((n % 64)).toNat IntKind.u64.bits))))) rfl rfl rfl)
    icNil)))))))))))))))))))))))
abbrev R1 {a n : Int} (h1a : -9223372036854775808 ≤ a) (h2a : a ≤ 9223372036854775807) (h1n : -9223372036854775808 ≤ n) (h2n : n ≤ 9223372036854775807) : VRows (iv1 a n) noV noK where
  vvp := noVp
  ib := ibL1
  ibok := ib1 h1a h2a h1n h2n
  ic := icL1
  icok := ic1 h1a h2a h1n h2n
abbrev tx1 (a n : Int) : Nat → List Int
  | 0 => [(((a / 4294967296) / 16777216) % 256), (((a / 4294967296) / 65536) % 256), (((a / 4294967296) / 256) % 256), ((a / 4294967296) % 256)]
  | 1 => [108, (((a / 4294967296) / 16777216) % 256), (((a / 4294967296) / 65536) % 256), (((a / 4294967296) / 256) % 256), ((a / 4294967296) % 256)]
  | 2 => [((a / 16777216) % 256), ((a / 65536) % 256), ((a / 256) % 256), (a % 256)]
  | 3 => [108, (((a / 4294967296) / 16777216) % 256), (((a / 4294967296) / 65536) % 256), (((a / 4294967296) / 256) % 256), ((a / 4294967296) % 256), ((a / 16777216) % 256), ((a / 65536) % 256), ((a / 256) % 256), (a % 256)]
  | _ => []
abbrev str1 (a n : Int) : Nat → ByteArray := fun i => bytesI (tx1 a n i)
theorem tb1 {a n : Int} : ∀ i, ∀ n_ ∈ tx1 a n i, 0 ≤ n_ ∧ n_ < 256 := by
  intro i m hm
  unfold tx1 at hm
  split at hm
  all_goals first | (simp at hm; done) | skip
  all_goals
    simp only [List.mem_cons, List.not_mem_nil, or_false] at hm
    omega
abbrev ne1 : Nat → List (Nat × Nat)
  | 3 => [(3, 7300981), (5, 318520240245), (5, 435476710261), (2, 19829), (2, 19811), (17, 39604874714118564987963700733454846093941), (17, 39604874714118564987963700733454846093923)]
  | _ => []
theorem nek1 {a n : Int} : ∀ i p, p ∈ ne1 i → p.2 < 256 ^ p.1 → str1 a n i ≠ strOf p.1 p.2 := by
  intro i p hp _ e
  have e1 := congrArg ByteArray.size e
  letI := Tab.empty
  rw [bytesI_size, strOf_size] at e1
  unfold ne1 at hp
  split at hp
  all_goals first | (simp at hp; done) | skip
  all_goals
    simp only [List.mem_cons, List.not_mem_nil, or_false] at hp
    rcases hp with rfl | rfl | rfl | rfl | rfl | rfl | rfl <;> simp [tx1] at e1
abbrev trL1 : List TRow := [(6, [(.oi 4), (.oi 6), (.oi 8), (.oi 9)], (.ostr 0)), (3, [(.str 1 108), (.ostr 0)], (.ostr 1)), (6, [(.oi 11), (.oi 13), (.oi 15), (.oi 16)], (.ostr 2)), (3, [(.ostr 1), (.ostr 2)], (.ostr 3)), (4, [(.ostr 3), (.ostr 3)], (.bool true))]
theorem tr1 {a n : Int} (h1a : -9223372036854775808 ≤ a) (h2a : a ≤ 9223372036854775807) (h1n : -9223372036854775808 ≤ n) (h2n : n ≤ 9223372036854775807) : ∀ x_ ∈ trL1, TrOk (str1 a n) (iv1 a n) x_.1 x_.2.1 x_.2.2 := (txCons (tr6 (ns := tx1 a n 0) rfl (tb1 0) rfl)
    (txCons (tr3 (a := strOf 1 108) (b := str1 a n 0) (denS_str (by decide)) rfl (by letI := Tab.empty; rw [strOf_size, bytesI_size]; exact (by decide : 1 + 4 < 1000000)) (by rw [strOf_bytesI, bytesI_append]; rfl))
    (txCons (tr6 (ns := tx1 a n 2) rfl (tb1 2) rfl)
    (txCons (tr3 (a := str1 a n 1) (b := str1 a n 2) rfl rfl (by rw [bytesI_size, bytesI_size]; exact (by decide : 5 + 4 < 1000000)) (by rw [bytesI_append]; rfl))
    (txCons (tr4 rfl rfl ⟨fun _ => rfl, fun _ => rfl⟩)
    txNil)))))
abbrev X1 {a n : Int} (h1a : -9223372036854775808 ≤ a) (h2a : a ≤ 9223372036854775807) (h1n : -9223372036854775808 ≤ n) (h2n : n ≤ 9223372036854775807) : Txts (iv1 a n) := { str := str1 a n, ne := ne1, ok := nek1, tr := trL1, trok := tr1 h1a h2a h1n h2n }
abbrev T1 {a n : Int} (h1a : -9223372036854775808 ≤ a) (h2a : a ≤ 9223372036854775807) (h1n : -9223372036854775808 ≤ n) (h2n : n ≤ 9223372036854775807) : Tab := (R1 h1a h2a h1n h2n).ttab (X1 h1a h2a h1n h2n)
end Go.Proofs.YthgncmohimdbmaaGreatDoor.lg
