/-
  What the law TopHello gives: its table.
-/
import Derived.Test.YtbgkinjicnnkiaaGreatDoorHLB
import Derived.Test.YtbgkinjicnnkiaaGreatDoorLGN
import Derived.Test.YtbgkinjicnnkiaaGreatDoorXN3
set_option linter.unusedSectionVars false
set_option linter.unusedVariables false
set_option maxRecDepth 1000000
set_option maxHeartbeats 0
namespace Go.Proofs.YtbgkinjicnnkiaaGreatDoor.hl
open Go.X Go.RowKit Go.X.chars8
abbrev ivO (n0 n l : Int) : Nat → IntKind × Int
  | 0 => (.i64, n0)
  | 1 => (.i64, l)
  | 2 => (.i64, n)
  | 3 => (.i64, (l / 4294967296))
  | 4 => (.i64, ((l / 4294967296) / 16777216))
  | 5 => (.u8, (((l / 4294967296) / 16777216) % 256))
  | 6 => (.i64, ((l / 4294967296) / 65536))
  | 7 => (.u8, (((l / 4294967296) / 65536) % 256))
  | 8 => (.i64, ((l / 4294967296) / 256))
  | 9 => (.u8, (((l / 4294967296) / 256) % 256))
  | 10 => (.u8, ((l / 4294967296) % 256))
  | 11 => (.i64, (l / 16777216))
  | 12 => (.u8, ((l / 16777216) % 256))
  | 13 => (.i64, (l / 65536))
  | 14 => (.u8, ((l / 65536) % 256))
  | 15 => (.i64, (l / 256))
  | 16 => (.u8, ((l / 256) % 256))
  | 17 => (.u8, (l % 256))
  | 18 => (.i64, (((l / 4294967296) / 16777216) % 256))
  | 19 => (.i64, (((l / 4294967296) / 16777216) % 256))
  | 20 => (.i64, ((((l / 4294967296) / 16777216) % 256) * 256))
  | 21 => (.i64, (((l / 4294967296) / 65536) % 256))
  | 22 => (.i64, (((((l / 4294967296) / 16777216) % 256) * 256) + (((l / 4294967296) / 65536) % 256)))
  | 23 => (.i64, ((((((l / 4294967296) / 16777216) % 256) * 256) + (((l / 4294967296) / 65536) % 256)) * 256))
  | 24 => (.i64, (((l / 4294967296) / 256) % 256))
  | 25 => (.i64, (((((((l / 4294967296) / 16777216) % 256) * 256) + (((l / 4294967296) / 65536) % 256)) * 256) + (((l / 4294967296) / 256) % 256)))
  | 26 => (.i64, ((((((((l / 4294967296) / 16777216) % 256) * 256) + (((l / 4294967296) / 65536) % 256)) * 256) + (((l / 4294967296) / 256) % 256)) * 256))
  | 27 => (.i64, ((l / 4294967296) % 256))
  | 28 => (.i64, (((((((((l / 4294967296) / 16777216) % 256) * 256) + (((l / 4294967296) / 65536) % 256)) * 256) + (((l / 4294967296) / 256) % 256)) * 256) + ((l / 4294967296) % 256)))
  | 29 => (.i64, (l / 4294967296 * 4294967296))
  | 30 => (.i64, ((l / 16777216) % 256))
  | 31 => (.i64, ((l / 16777216) % 256))
  | 32 => (.i64, (((l / 16777216) % 256) * 256))
  | 33 => (.i64, ((l / 65536) % 256))
  | 34 => (.i64, ((((l / 16777216) % 256) * 256) + ((l / 65536) % 256)))
  | 35 => (.i64, (((((l / 16777216) % 256) * 256) + ((l / 65536) % 256)) * 256))
  | 36 => (.i64, ((l / 256) % 256))
  | 37 => (.i64, ((((((l / 16777216) % 256) * 256) + ((l / 65536) % 256)) * 256) + ((l / 256) % 256)))
  | 38 => (.i64, (((((((l / 16777216) % 256) * 256) + ((l / 65536) % 256)) * 256) + ((l / 256) % 256)) * 256))
  | 39 => (.i64, (l % 256))
  | 40 => (.i64, ((((((((l / 16777216) % 256) * 256) + ((l / 65536) % 256)) * 256) + ((l / 256) % 256)) * 256) + (l % 256)))
  | 41 => (.i64, l)
  | 42 => (.i32, n)
  | _ => (.i64, 0)
abbrev ivH (n0 n l : Int) (s t : ByteArray) (m : Nat) : IntKind × Int := if m < 100 then (if m = 60 then (.i64, (s.size : Int)) else ivO n0 n l m) else ivC (two s t) m
theorem ivH_ge {n0 n l : Int} {s t : ByteArray} (m : Nat) (h : 100 ≤ m) : ivH n0 n l s t m = ivC (two s t) m := by unfold ivH; rw [if_neg (by omega)]
def ownB (b : List BRow) : List BRow := (4, .oi 0, .int .i64 100000, .oi 2) :: (16, .oi 1, .int .u64 32, .oi 3) :: (16, .oi 3, .int .u64 24, .oi 4) :: (16, .oi 3, .int .u64 16, .oi 6) :: (16, .oi 3, .int .u64 8, .oi 8) :: (16, .oi 1, .int .u64 24, .oi 11) :: (16, .oi 1, .int .u64 16, .oi 13) :: (16, .oi 1, .int .u64 8, .oi 15) :: (6, .int .i64 0, .oi 18, .oi 19) :: (15, .oi 19, .int .u64 8, .oi 20) :: (6, .oi 20, .oi 21, .oi 22) :: (15, .oi 22, .int .u64 8, .oi 23) :: (6, .oi 23, .oi 24, .oi 25) :: (15, .oi 25, .int .u64 8, .oi 26) :: (6, .oi 26, .oi 27, .oi 28) :: (15, .oi 28, .int .u64 32, .oi 29) :: (6, .int .i64 0, .oi 30, .oi 31) :: (15, .oi 31, .int .u64 8, .oi 32) :: (6, .oi 32, .oi 33, .oi 34) :: (15, .oi 34, .int .u64 8, .oi 35) :: (6, .oi 35, .oi 36, .oi 37) :: (15, .oi 37, .int .u64 8, .oi 38) :: (6, .oi 38, .oi 39, .oi 40) :: (6, .oi 29, .oi 40, .oi 41) :: b
def ownC (b : List CRow) : List CRow := (.u8, .oi 4, .oi 5) :: (.u8, .oi 6, .oi 7) :: (.u8, .oi 8, .oi 9) :: (.u8, .oi 3, .oi 10) :: (.u8, .oi 11, .oi 12) :: (.u8, .oi 13, .oi 14) :: (.u8, .oi 15, .oi 16) :: (.u8, .oi 1, .oi 17) :: (.i64, .oi 5, .oi 18) :: (.i64, .oi 7, .oi 21) :: (.i64, .oi 9, .oi 24) :: (.i64, .oi 10, .oi 27) :: (.i64, .oi 12, .oi 30) :: (.i64, .oi 14, .oi 33) :: (.i64, .oi 16, .oi 36) :: (.i64, .oi 17, .oi 39) :: (.i32, .oi 2, .oi 42) :: (.i64, .oi 42, .oi 2) :: b
theorem ownB_ok {n0 n l : Int} {s t : ByteArray} (hn : n0.tmod 100000 = n) (hn1 : -100000 < n) (hn2 : n < 100000) (h1l : -9223372036854775808 ≤ l) (h2l : l ≤ 9223372036854775807) {b : List BRow} (hb : ∀ r ∈ b, IbOk (ivH n0 n l s t) r) : ∀ r ∈ ownB b, IbOk (ivH n0 n l s t) r := by
  letI := Tab.empty
  unfold ownB
  exact (allC (ibRem (a := n0) (b := 100000) (c := n) rfl rfl rfl (by decide) hn)
    (allC (ibShr (k := .i64) (k' := .u64) (a := l) (b := 32) (c := (l / 4294967296)) rfl rfl rfl (by decide) (shr_is (by decide) (by decide)))
    (allC (ibShr (k := .i64) (k' := .u64) (a := (l / 4294967296)) (b := 24) (c := ((l / 4294967296) / 16777216)) rfl rfl rfl (by decide) (shr_is (by decide) (by decide)))
    (allC (ibShr (k := .i64) (k' := .u64) (a := (l / 4294967296)) (b := 16) (c := ((l / 4294967296) / 65536)) rfl rfl rfl (by decide) (shr_is (by decide) (by decide)))
    (allC (ibShr (k := .i64) (k' := .u64) (a := (l / 4294967296)) (b := 8) (c := ((l / 4294967296) / 256)) rfl rfl rfl (by decide) (shr_is (by decide) (by decide)))
    (allC (ibShr (k := .i64) (k' := .u64) (a := l) (b := 24) (c := (l / 16777216)) rfl rfl rfl (by decide) (shr_is (by decide) (by decide)))
    (allC (ibShr (k := .i64) (k' := .u64) (a := l) (b := 16) (c := (l / 65536)) rfl rfl rfl (by decide) (shr_is (by decide) (by decide)))
    (allC (ibShr (k := .i64) (k' := .u64) (a := l) (b := 8) (c := (l / 256)) rfl rfl rfl (by decide) (shr_is (by decide) (by decide)))
    (allC (ibOr (k := .i64) (a := 0) (b := (((l / 4294967296) / 16777216) % 256)) (c := (((l / 4294967296) / 16777216) % 256)) rfl rfl rfl ((or_add 8 (by decide) (by omega) (by omega) (by decide) (by omega) (by omega)).trans (Int.zero_add _)))
    (allC (ibShl (k := .i64) (k' := .u64) (a := (((l / 4294967296) / 16777216) % 256)) (b := 8) (c := ((((l / 4294967296) / 16777216) % 256) * 256)) rfl rfl rfl (by decide) (show IntKind.i64.wrap ((((l / 4294967296) / 16777216) % 256) * 256) = _ from wrap64 (by omega) (by omega)))
    (allC (ibOr (k := .i64) (a := ((((l / 4294967296) / 16777216) % 256) * 256)) (b := (((l / 4294967296) / 65536) % 256)) (c := (((((l / 4294967296) / 16777216) % 256) * 256) + (((l / 4294967296) / 65536) % 256))) rfl rfl rfl (or_add 8 (by omega) (by omega) (by omega) (by decide) (by omega) (by omega)))
    (allC (ibShl (k := .i64) (k' := .u64) (a := (((((l / 4294967296) / 16777216) % 256) * 256) + (((l / 4294967296) / 65536) % 256))) (b := 8) (c := ((((((l / 4294967296) / 16777216) % 256) * 256) + (((l / 4294967296) / 65536) % 256)) * 256)) rfl rfl rfl (by decide) (show IntKind.i64.wrap ((((((l / 4294967296) / 16777216) % 256) * 256) + (((l / 4294967296) / 65536) % 256)) * 256) = _ from wrap64 (by omega) (by omega)))
    (allC (ibOr (k := .i64) (a := ((((((l / 4294967296) / 16777216) % 256) * 256) + (((l / 4294967296) / 65536) % 256)) * 256)) (b := (((l / 4294967296) / 256) % 256)) (c := (((((((l / 4294967296) / 16777216) % 256) * 256) + (((l / 4294967296) / 65536) % 256)) * 256) + (((l / 4294967296) / 256) % 256))) rfl rfl rfl (or_add 8 (by omega) (by omega) (by omega) (by decide) (by omega) (by omega)))
    (allC (ibShl (k := .i64) (k' := .u64) (a := (((((((l / 4294967296) / 16777216) % 256) * 256) + (((l / 4294967296) / 65536) % 256)) * 256) + (((l / 4294967296) / 256) % 256))) (b := 8) (c := ((((((((l / 4294967296) / 16777216) % 256) * 256) + (((l / 4294967296) / 65536) % 256)) * 256) + (((l / 4294967296) / 256) % 256)) * 256)) rfl rfl rfl (by decide) (show IntKind.i64.wrap ((((((((l / 4294967296) / 16777216) % 256) * 256) + (((l / 4294967296) / 65536) % 256)) * 256) + (((l / 4294967296) / 256) % 256)) * 256) = _ from wrap64 (by omega) (by omega)))
    (allC (ibOr (k := .i64) (a := ((((((((l / 4294967296) / 16777216) % 256) * 256) + (((l / 4294967296) / 65536) % 256)) * 256) + (((l / 4294967296) / 256) % 256)) * 256)) (b := ((l / 4294967296) % 256)) (c := (((((((((l / 4294967296) / 16777216) % 256) * 256) + (((l / 4294967296) / 65536) % 256)) * 256) + (((l / 4294967296) / 256) % 256)) * 256) + ((l / 4294967296) % 256))) rfl rfl rfl (or_add 8 (by omega) (by omega) (by omega) (by decide) (by omega) (by omega)))
    (allC (ibShl (k := .i64) (k' := .u64) (a := (((((((((l / 4294967296) / 16777216) % 256) * 256) + (((l / 4294967296) / 65536) % 256)) * 256) + (((l / 4294967296) / 256) % 256)) * 256) + ((l / 4294967296) % 256))) (b := 32) (c := (l / 4294967296 * 4294967296)) rfl rfl rfl (by decide) (hi_is h1l h2l (by omega)))
    (allC (ibOr (k := .i64) (a := 0) (b := ((l / 16777216) % 256)) (c := ((l / 16777216) % 256)) rfl rfl rfl ((or_add 8 (by decide) (by omega) (by omega) (by decide) (by omega) (by omega)).trans (Int.zero_add _)))
    (allC (ibShl (k := .i64) (k' := .u64) (a := ((l / 16777216) % 256)) (b := 8) (c := (((l / 16777216) % 256) * 256)) rfl rfl rfl (by decide) (show IntKind.i64.wrap (((l / 16777216) % 256) * 256) = _ from wrap64 (by omega) (by omega)))
    (allC (ibOr (k := .i64) (a := (((l / 16777216) % 256) * 256)) (b := ((l / 65536) % 256)) (c := ((((l / 16777216) % 256) * 256) + ((l / 65536) % 256))) rfl rfl rfl (or_add 8 (by omega) (by omega) (by omega) (by decide) (by omega) (by omega)))
    (allC (ibShl (k := .i64) (k' := .u64) (a := ((((l / 16777216) % 256) * 256) + ((l / 65536) % 256))) (b := 8) (c := (((((l / 16777216) % 256) * 256) + ((l / 65536) % 256)) * 256)) rfl rfl rfl (by decide) (show IntKind.i64.wrap (((((l / 16777216) % 256) * 256) + ((l / 65536) % 256)) * 256) = _ from wrap64 (by omega) (by omega)))
    (allC (ibOr (k := .i64) (a := (((((l / 16777216) % 256) * 256) + ((l / 65536) % 256)) * 256)) (b := ((l / 256) % 256)) (c := ((((((l / 16777216) % 256) * 256) + ((l / 65536) % 256)) * 256) + ((l / 256) % 256))) rfl rfl rfl (or_add 8 (by omega) (by omega) (by omega) (by decide) (by omega) (by omega)))
    (allC (ibShl (k := .i64) (k' := .u64) (a := ((((((l / 16777216) % 256) * 256) + ((l / 65536) % 256)) * 256) + ((l / 256) % 256))) (b := 8) (c := (((((((l / 16777216) % 256) * 256) + ((l / 65536) % 256)) * 256) + ((l / 256) % 256)) * 256)) rfl rfl rfl (by decide) (show IntKind.i64.wrap (((((((l / 16777216) % 256) * 256) + ((l / 65536) % 256)) * 256) + ((l / 256) % 256)) * 256) = _ from wrap64 (by omega) (by omega)))
    (allC (ibOr (k := .i64) (a := (((((((l / 16777216) % 256) * 256) + ((l / 65536) % 256)) * 256) + ((l / 256) % 256)) * 256)) (b := (l % 256)) (c := ((((((((l / 16777216) % 256) * 256) + ((l / 65536) % 256)) * 256) + ((l / 256) % 256)) * 256) + (l % 256))) rfl rfl rfl (or_add 8 (by omega) (by omega) (by omega) (by decide) (by omega) (by omega)))
    (allC (ibOr (k := .i64) (a := (l / 4294967296 * 4294967296)) (b := ((((((((l / 16777216) % 256) * 256) + ((l / 65536) % 256)) * 256) + ((l / 256) % 256)) * 256) + (l % 256))) (c := l) rfl rfl rfl ((or_add 32 (by omega) (by omega) (by omega) (by decide) (by omega) (by omega)).trans (by omega)))
    hb))))))))))))))))))))))))
theorem ownC_ok {n0 n l : Int} {s t : ByteArray} (hn : n0.tmod 100000 = n) (hn1 : -100000 < n) (hn2 : n < 100000) (h1l : -9223372036854775808 ≤ l) (h2l : l ≤ 9223372036854775807) {b : List CRow} (hb : ∀ r ∈ b, IcOk (ivH n0 n l s t) r) : ∀ r ∈ ownC b, IcOk (ivH n0 n l s t) r := by
  unfold ownC
  exact (allC (icOf (k := .u8) (k' := .i64) (n := ((l / 4294967296) / 16777216)) (c := (((l / 4294967296) / 16777216) % 256)) rfl rfl (u8w _))
    (allC (icOf (k := .u8) (k' := .i64) (n := ((l / 4294967296) / 65536)) (c := (((l / 4294967296) / 65536) % 256)) rfl rfl (u8w _))
    (allC (icOf (k := .u8) (k' := .i64) (n := ((l / 4294967296) / 256)) (c := (((l / 4294967296) / 256) % 256)) rfl rfl (u8w _))
    (allC (icOf (k := .u8) (k' := .i64) (n := (l / 4294967296)) (c := ((l / 4294967296) % 256)) rfl rfl (u8w _))
    (allC (icOf (k := .u8) (k' := .i64) (n := (l / 16777216)) (c := ((l / 16777216) % 256)) rfl rfl (u8w _))
    (allC (icOf (k := .u8) (k' := .i64) (n := (l / 65536)) (c := ((l / 65536) % 256)) rfl rfl (u8w _))
    (allC (icOf (k := .u8) (k' := .i64) (n := (l / 256)) (c := ((l / 256) % 256)) rfl rfl (u8w _))
    (allC (icOf (k := .u8) (k' := .i64) (n := l) (c := (l % 256)) rfl rfl (u8w _))
    (allC (icOf (k := .i64) (k' := .u8) (n := (((l / 4294967296) / 16777216) % 256)) (c := (((l / 4294967296) / 16777216) % 256)) rfl rfl (by first | exact wrap64 (by omega) (by omega) | exact wrap64 (Int.le_trans (by decide) (w32_lo _).1) (Int.le_trans (w32_lo _).2 (by decide))))
    (allC (icOf (k := .i64) (k' := .u8) (n := (((l / 4294967296) / 65536) % 256)) (c := (((l / 4294967296) / 65536) % 256)) rfl rfl (by first | exact wrap64 (by omega) (by omega) | exact wrap64 (Int.le_trans (by decide) (w32_lo _).1) (Int.le_trans (w32_lo _).2 (by decide))))
    (allC (icOf (k := .i64) (k' := .u8) (n := (((l / 4294967296) / 256) % 256)) (c := (((l / 4294967296) / 256) % 256)) rfl rfl (by first | exact wrap64 (by omega) (by omega) | exact wrap64 (Int.le_trans (by decide) (w32_lo _).1) (Int.le_trans (w32_lo _).2 (by decide))))
    (allC (icOf (k := .i64) (k' := .u8) (n := ((l / 4294967296) % 256)) (c := ((l / 4294967296) % 256)) rfl rfl (by first | exact wrap64 (by omega) (by omega) | exact wrap64 (Int.le_trans (by decide) (w32_lo _).1) (Int.le_trans (w32_lo _).2 (by decide))))
    (allC (icOf (k := .i64) (k' := .u8) (n := ((l / 16777216) % 256)) (c := ((l / 16777216) % 256)) rfl rfl (by first | exact wrap64 (by omega) (by omega) | exact wrap64 (Int.le_trans (by decide) (w32_lo _).1) (Int.le_trans (w32_lo _).2 (by decide))))
    (allC (icOf (k := .i64) (k' := .u8) (n := ((l / 65536) % 256)) (c := ((l / 65536) % 256)) rfl rfl (by first | exact wrap64 (by omega) (by omega) | exact wrap64 (Int.le_trans (by decide) (w32_lo _).1) (Int.le_trans (w32_lo _).2 (by decide))))
    (allC (icOf (k := .i64) (k' := .u8) (n := ((l / 256) % 256)) (c := ((l / 256) % 256)) rfl rfl (by first | exact wrap64 (by omega) (by omega) | exact wrap64 (Int.le_trans (by decide) (w32_lo _).1) (Int.le_trans (w32_lo _).2 (by decide))))
    (allC (icOf (k := .i64) (k' := .u8) (n := (l % 256)) (c := (l % 256)) rfl rfl (by first | exact wrap64 (by omega) (by omega) | exact wrap64 (Int.le_trans (by decide) (w32_lo _).1) (Int.le_trans (w32_lo _).2 (by decide))))
    (allC (icOf (k := .i32) (k' := .i64) (n := n) (c := n) rfl rfl (wrap32 (by omega) (by omega)))
    (allC (icOf (k := .i64) (k' := .i32) (n := n) (c := n) rfl rfl (wrap64 (by omega) (by omega)))
    hb))))))))))))))))))
abbrev txO (l : Int) : Nat → List Int
  | 0 => [(((l / 4294967296) / 16777216) % 256), (((l / 4294967296) / 65536) % 256), (((l / 4294967296) / 256) % 256), ((l / 4294967296) % 256)]
  | 1 => [108, (((l / 4294967296) / 16777216) % 256), (((l / 4294967296) / 65536) % 256), (((l / 4294967296) / 256) % 256), ((l / 4294967296) % 256)]
  | 2 => [((l / 16777216) % 256), ((l / 65536) % 256), ((l / 256) % 256), (l % 256)]
  | 3 => [108, (((l / 4294967296) / 16777216) % 256), (((l / 4294967296) / 65536) % 256), (((l / 4294967296) / 256) % 256), ((l / 4294967296) % 256), ((l / 16777216) % 256), ((l / 65536) % 256), ((l / 256) % 256), (l % 256)]
  | _ => []
theorem txO_ok {l : Int} : ∀ i, ∀ m ∈ txO l i, 0 ≤ m ∧ m < 256 := by
  intro i m hm
  unfold txO at hm
  split at hm
  all_goals first | (simp at hm; done) | skip
  all_goals
    simp only [List.mem_cons, List.not_mem_nil, or_false] at hm
    omega
abbrev strH (n l : Int) (s t : ByteArray) : Nat → ByteArray
  | 4 => itb n
  | 5 => itb l
  | 6 => s ++ strOf 1 10 ++ (t ++ strOf 1 10)
  | 7 => strOf 2 15726 ++ itb n
  | 8 => s ++ strOf 1 10
  | i => bytesI (txO l i)
abbrev nes : List (Nat × Nat) := [(17, 37225634670481615708612713013449639160437), (17, 37225634670481615708612713013449639160419), (4, 1953853301), (22, 22234380443165445339912447379405710540158118839078005), (26, 95495936850217574452199564997868430685621615082721266818707310), (43, 8318869356217473330997874780810415408699047473938188758121847144004458053701876374722180816966416165433), (24, 2804983317527248706647682337563103082591791432045103770229), (24, 2804983317527248706647682337563103082591791432045103770211), (7, 17579444728839285), (4, 1445537909), (11, 104161979579338611789216878), (35, 653835342778778404040970874530354906399496290119419553065832119708480915354926803514), (3, 4025973), (3, 4025971), (7, 28268879628231029), (46, 139613481237736657582670815106365677078126684739206020541171263458511391711231487906088610910897530748034361461), (53, 10060211553250696732131191764233018158852829522319559209192161824660678753796442515647361607528327291201799560752335052684157294), (77, 63148971399267083634980147024985386751305538465399846655947952043845460386529978076438743991549842471694366540353146118702160067189250074478249621907051173464277623101130949604430408250), (29, 1602684164976492864669263983568188569820600052048580503474997457135733), (36, 115485564930891644823676631282411708815452759098982732451412186143962309431640215019886), (60, 724914640039811145279189188494927528722801697286324687296376678385829719867083825468378819383289091268639386965452319446138335189447849858394682), (2, 8565), (2, 8563), (9, 1907970655652752094325), (21, 86819084919626801046990092479340231442403959580789), (30, 409991536697859070871008540091595161949521610265943522808056140165772398), (54, 2573558586499983185126432904176370138090020258567398393626184132628050912013583117708622908101850574664514484547723793744426789434), (20, 624452003591748685015592445542858637792631679605), (20, 624452003591748685015592445542858637792631679587), (8, 7956862659221155957), (22, 32236680751658192959010266160271801987329975990888565), (30, 594661799611717544810328124731851887493419827804496854005763737929281646), (50, 869099193790666480957687600548951555470466915332800921801332565542011126767090271192857053946859710379915588326651947578), (5, 370059913333), (13, 6826400512112586997141607706734), (33, 9976795525529060074912557612357661939936963787183412839585923281580845208529466), (3, 7300981), (5, 370059847797), (5, 435476710261), (2, 19829), (2, 19811), (17, 39604874714118564987963700733454846093941), (17, 39604874714118564987963700733454846093923)]
theorem nes_is : ∀ p ∈ nes, 0 < p.1 ∧ p.2 % 256 ≠ 108 := by decide +kernel
abbrev neH : Nat → List (Nat × Nat)
  | 3 => nes
  | _ => []
theorem neH_ok {n l : Int} {s t : ByteArray} : ∀ i p, p ∈ neH i → p.2 < 256 ^ p.1 → strH n l s t i ≠ strOf p.1 p.2 := by
  intro i p hp _
  match i, hp with
  | 3, hp =>
    obtain ⟨h0, h⟩ := nes_is p hp
    obtain ⟨m, c⟩ := p
    obtain ⟨m, rfl⟩ : ∃ k, m = k + 1 := ⟨m - 1, by simp only at h0; omega⟩
    have e : strH n l s t 3 = strOf 1 108 ++ bytesI ((txO l 3).drop 1) := by
      show bytesI (txO l 3) = _
      rw [strOf_bytesI, bytesI_append]; rfl
    rw [e]
    exact ne_first (by decide) (fun k => h k)
  | 0, hp => exact absurd hp (by simp [neH])
  | 1, hp => exact absurd hp (by simp [neH])
  | 2, hp => exact absurd hp (by simp [neH])
  | (i + 4), hp => exact absurd hp (by simp [neH])
abbrev ownT (b : List TRow) : List TRow := (6, [(.oi 5), (.oi 7), (.oi 9), (.oi 10)], (.ostr 0)) :: (3, [(.str 1 108), (.ostr 0)], (.ostr 1)) :: (6, [(.oi 12), (.oi 14), (.oi 16), (.oi 17)], (.ostr 2)) :: (3, [(.ostr 1), (.ostr 2)], (.ostr 3)) :: (4, [(.ostr 3), (.ostr 3)], .bool true) :: b
theorem ownT_ok {n0 n l : Int} {s t : ByteArray} {b : List TRow} (hb : ∀ r ∈ b, TrOk (strH n l s t) (ivH n0 n l s t) r.1 r.2.1 r.2.2) : ∀ r ∈ ownT b, TrOk (strH n l s t) (ivH n0 n l s t) r.1 r.2.1 r.2.2 := by
  exact (txCons (tr6 (ns := txO l 0) rfl (txO_ok 0) rfl)
    (txCons (tr3 (a := strOf 1 108) (b := bytesI (txO l 0)) (denS_str (by decide)) rfl (by letI := Tab.empty; rw [strOf_size, bytesI_size]; exact (by decide : 1 + 4 < 1000000)) (by rw [strOf_bytesI, bytesI_append]; rfl))
    (txCons (tr6 (ns := txO l 2) rfl (txO_ok 2) rfl)
    (txCons (tr3 (a := bytesI (txO l 1)) (b := bytesI (txO l 2)) rfl rfl (by rw [bytesI_size, bytesI_size]; exact (by decide : 5 + 4 < 1000000)) (by rw [bytesI_append]; rfl))
    (txCons (tr4 rfl rfl ⟨fun _ => rfl, fun _ => rfl⟩)
    hb)))))
/- mixed rows: constants among the chars -/
abbrev mixB (L : Nat) (b : List BRow) : List BRow :=
  (6, .int .u64 3997806, .oi (N 0 2 6), .oi (N 0 2 4)) :: (6, .oi (N ((L - 1) / 4) ((L - 1) % 4) 7), .int .u64 (((33 * 2 ^ (16 * ((L - 1) % 4)) : Nat) : Int)), .oi (N ((L - 1) / 4) ((L - 1) % 4) 4)) :: b
theorem Ok.c0 {n l : Int} {s t : ByteArray} {L M : Nat} (h : Ok n l s t L M) : two s t 0 = 110 ∧ two s t 1 = 61 ∧ two s t (L - 1) = 33 := by
  have hl := h.Ln
  have h6 := itoa_len6 h.n0 h.n1
  have hs := h.sList
  have hz : s.size = L := h.sL
  have g : ∀ k (hk : k < L), byt s k = ((s.data.toList[k]'(by rw [Array.length_toList]; show k < s.size; omega)).toNat : Int) := fun k hk => by
    have hb := (byt_some (s := s) (k := k) (by omega)).2
    rw [hb]
    rfl
  refine ⟨?_, ?_, ?_⟩
  · rw [two_lo _ _ (by decide), g 0 (by omega)]
    simp only [hs]
    rfl
  · rw [two_lo _ _ (by decide), g 1 (by omega)]
    simp only [hs]
    rfl
  · rw [two_lo _ _ (by omega), g (L - 1) (by omega)]
    have e : s.data.toList[L - 1]'(by rw [Array.length_toList]; show L - 1 < s.size; omega) = 33 := by
      have e2 : s.data.toList[L - 1]? = some 33 := by
        rw [hs, show L - 1 = 2 + ((Lib.itoa n).length + 0) by omega, List.getElem?_append_right (by simp), List.getElem?_append_right (by simp)]
        simp
      rw [List.getElem?_eq_getElem (by rw [Array.length_toList]; show L - 1 < s.size; omega)] at e2
      exact Option.some.inj e2
    rw [e]
    rfl
theorem cst_bv (c : Int) (U : Nat → Int) (q i : Nat) (hc : U (4 * q + i) = c) : bv U q i = BitVec.ofInt 64 c := by unfold bv; rw [hc]
section
variable {n0 n l : Int} {s t : ByteArray} {L M : Nat} (h : Ok n l s t L M)
include h
theorem mix_ok {b : List BRow} (hb : ∀ r ∈ b, IbOk (ivH n0 n l s t) r) : ∀ r ∈ mixB L b, IbOk (ivH n0 n l s t) r := by
  obtain ⟨e0, e1, e2⟩ := h.c0
  have hl := h.Ln
  have h1 := itoa_len1 n
  have w2 : Vq (two s t) 0 1 &&& ~~~mk 2 = 3997806#64 := by
    have a0 : bv (two s t) 0 0 = BitVec.ofInt 64 110 := cst_bv 110 _ 0 0 e0
    have a1 : bv (two s t) 0 1 = BitVec.ofInt 64 61 := cst_bv 61 _ 0 1 e1
    simp only [Vq, a0, a1]
    decide
  refine allC ?_ (allC ?_ hb)
  · exact ibOrW (W := Vq (two s t) 0 1 &&& ~~~mk 2) (by rw [w2]; rfl) (at_ ivH_ge 0 2 6 (by decide) (by decide)) (at_ ivH_ge 0 2 4 (by decide) (by decide)) rfl
  · obtain ⟨i, hi⟩ : ∃ i, (L - 1) % 4 = i := ⟨_, rfl⟩
    have hi4 : i < 4 := by omega
    have ek : 4 * ((L - 1) / 4) + i = L - 1 := by omega
    have a2 : bv (two s t) ((L - 1) / 4) i = BitVec.ofInt 64 33 := cst_bv 33 _ _ _ (by rw [ek]; exact e2)
    rw [hi]
    match i, hi4, a2 with
    | 0, _, a2 =>
      refine ibOrW (U := 33#64) (at_ ivH_ge _ 0 7 (by decide) (by decide)) (show some (IntKind.u64, ((33 * 2 ^ (16 * 0) : Nat) : Int)) = some (IntKind.u64, wI 33#64) from by decide) (at_ ivH_ge _ 0 4 (by decide) (by decide)) ?_
      show (0#64 ||| ((bv (two s t) ((L - 1) / 4) 0 <<< 0) &&& mk 0)) &&& ~~~mk 0 ||| 33#64 = 0#64 ||| ((bv (two s t) ((L - 1) / 4) 0 <<< 0) &&& mk 0)
      rw [a2]
      decide
    | 1, _, a2 => exact ibOrW (U := (BitVec.ofInt 64 33 <<< (16 * 1)) &&& mk 1) (at_ ivH_ge _ 1 7 (by decide) (by decide)) (show some (IntKind.u64, ((33 * 2 ^ (16 * 1) : Nat) : Int)) = some (IntKind.u64, wI ((BitVec.ofInt 64 33 <<< (16 * 1)) &&& mk 1)) from by decide) (at_ ivH_ge _ 1 4 (by decide) (by decide)) (by rw [← a2]; rfl)
    | 2, _, a2 => exact ibOrW (U := (BitVec.ofInt 64 33 <<< (16 * 2)) &&& mk 2) (at_ ivH_ge _ 2 7 (by decide) (by decide)) (show some (IntKind.u64, ((33 * 2 ^ (16 * 2) : Nat) : Int)) = some (IntKind.u64, wI ((BitVec.ofInt 64 33 <<< (16 * 2)) &&& mk 2)) from by decide) (at_ ivH_ge _ 2 4 (by decide) (by decide)) (by rw [← a2]; rfl)
    | 3, _, a2 => exact ibOrW (U := (BitVec.ofInt 64 33 <<< (16 * 3)) &&& mk 3) (at_ ivH_ge _ 3 7 (by decide) (by decide)) (show some (IntKind.u64, ((33 * 2 ^ (16 * 3) : Nat) : Int)) = some (IntKind.u64, wI ((BitVec.ofInt 64 33 <<< (16 * 3)) &&& mk 3)) from by decide) (at_ ivH_ge _ 3 4 (by decide) (by decide)) (by rw [← a2]; rfl)
theorem nilB : ∀ r ∈ ([] : List BRow), IbOk (ivH n0 n l s t) r := fun r h => by simp at h
theorem nilC : ∀ r ∈ ([] : List CRow), IcOk (ivH n0 n l s t) r := fun r h => by simp at h
end
/- texts -/
abbrev rowsT (L M : Nat) : List TRow :=
  [(7, [.ostr 4], .agg (bl (L - 3) 2)), (7, [.ostr 5], .agg (bl M 200)), (3, [.str 2 15726, .ostr 4], .ostr 7), (3, [.ostr 7, .str 2 2593], .ostr 8),
   (6, bl L 0 ++ .int .u8 10 :: (bl M 200 ++ [.int .u8 10]), .ostr 6), (0, [.ostr 6], .int .i64 ((L + M + 2 : Nat) : Int)), (0, [.ostr 8], .int .i64 ((L + 1 : Nat) : Int)),
   (2, [.ostr 6, .nilp, .int .i64 ((L + 1 : Nat) : Int)], .ostr 8), (4, [.ostr 8, .ostr 8], .bool true), (1, [.ostr 6, .int .i64 ((L + M + 1 : Nat) : Int)], .int .u8 10)]
section
variable {n0 n l : Int} {s t : ByteArray} {L M : Nat} (h : Ok n l s t L M)
include h
theorem Ok.big : L ≤ 9 ∧ M ≤ 21 := ⟨by have := h.Ln; have := itoa_len6 h.n0 h.n1; omega, by have := h.Mn; have := Lib.itoa_length_le l h.l0 h.l1; omega⟩
theorem txt8 : s ++ strOf 1 10 = (strOf 2 15726 ++ itb n) ++ strOf 2 2593 := by
  apply ByteArray.ext
  apply Array.ext'
  have := h.sList
  simp [this, itb, strOf, Go.X.dec]
theorem rowsT_ok : ∀ r ∈ rowsT L M, TrOk (strH n l s t) (ivH n0 n l s t) r.1 r.2.1 r.2.2 := by
  obtain ⟨b1, b2⟩ := h.big
  have z1 : (strOf 1 10).size = 1 := rfl
  have zs : s.size = L := h.sL
  have zt : t.size = M := h.tM
  have zn : (itb n).size + 3 = L := by rw [itb_size]; have := h.Ln; omega
  have z6 : (s ++ strOf 1 10 ++ (t ++ strOf 1 10)).size = L + M + 2 := by rw [ByteArray.size_append, ByteArray.size_append, ByteArray.size_append, zs, zt, z1]; omega
  refine txCons ⟨itb n, _, rfl, rfl, den_f ivH_ge h⟩ <| txCons ⟨itb l, _, rfl, rfl, ?_⟩ <| txCons (tr3 (denS_str (by decide)) rfl ?_ rfl) <| txCons (tr3 rfl (denS_str (by decide)) ?_ ?_) <|
    txCons ⟨s.data.toList ++ 10 :: (t.data.toList ++ [10]), ?_, ?_⟩ <| txCons ⟨_, rfl, ?_⟩ <| txCons ⟨_, rfl, ?_⟩ <| txCons ⟨s ++ strOf 1 10 ++ (t ++ strOf 1 10), 0, L + 1, rfl, rfl, ⟨.i64, rfl⟩, by omega, by rw [z6]; omega, ?_⟩ <|
    txCons (tr4 rfl rfl ⟨fun _ => rfl, fun _ => rfl⟩) <| txCons ⟨_, .i64, L + M + 1, 10, rfl, rfl, ?_, rfl⟩ txNil
  · have e := den_t (iv := ivH n0 n l s t) (L := L) ivH_ge h
    rw [h.tList] at e
    exact e
  · show 2 + (itb n).size < _
    omega
  · show (strOf 2 15726 ++ itb n).size + 2 < 1000000
    rw [ByteArray.size_append]
    show 2 + (itb n).size + 2 < _
    omega
  · show some (s ++ strOf 1 10) = some ((strOf 2 15726 ++ itb n) ++ strOf 2 2593)
    rw [txt8 h]
  · rw [List.map_append, List.map_cons, List.map_append, den_s ivH_ge h, den_t ivH_ge h]
    simp [denI]
  · show some (s ++ strOf 1 10 ++ (t ++ strOf 1 10)) = _
    congr 1
    apply ByteArray.ext
    apply Array.ext'
    simp [strOf, Go.X.dec]
  · show some (IntKind.i64, ((L + M + 2 : Nat) : Int)) = some (IntKind.i64, (((s ++ strOf 1 10 ++ (t ++ strOf 1 10)).size : Nat) : Int))
    rw [z6]
  · show some (IntKind.i64, ((L + 1 : Nat) : Int)) = some (IntKind.i64, (((s ++ strOf 1 10).size : Nat) : Int))
    rw [ByteArray.size_append, zs, z1]
  · show some (s ++ strOf 1 10) = _
    congr 1
    apply ByteArray.ext
    apply Array.ext'
    have hd : s.data.toList.length = L := by rw [Array.length_toList]; exact zs
    rw [ByteArray.data_extract, Array.toList_extract]
    simp [strOf, Go.X.dec, hd, List.take_append]
    rw [List.take_of_length_le (by omega)]
  · have e : ((s ++ strOf 1 10 ++ (t ++ strOf 1 10)).data.toList)[L + M + 1]? = some 10 := by
      have hd : s.data.toList.length = L := by rw [Array.length_toList]; exact zs
      have ht : t.data.toList.length = M := by rw [Array.length_toList]; exact zt
      simp only [ByteArray.data_append, Array.toList_append]
      rw [List.getElem?_append_right (by simp [hd, strOf, Go.X.dec])]
      simp only [List.length_append, hd]
      rw [show L + M + 1 - (L + (strOf 1 10).data.toList.length) = M by show L + M + 1 - (L + 1) = M; omega]
      rw [List.getElem?_append_right (by omega), ht]
      simp [strOf, Go.X.dec]
    have g := byt_some (s := s ++ strOf 1 10 ++ (t ++ strOf 1 10)) (k := L + M + 1) (by rw [z6]; omega)
    show (s ++ strOf 1 10 ++ (t ++ strOf 1 10))[L + M + 1]? = some 10
    rw [g.1]
    congr 1
    have e2 : ((s ++ strOf 1 10 ++ (t ++ strOf 1 10)).data.toList)[L + M + 1]? = some ((s ++ strOf 1 10 ++ (t ++ strOf 1 10))[L + M + 1]'(by rw [z6]; omega)) := by
      rw [List.getElem?_eq_getElem (by rw [Array.length_toList]; show _ < ByteArray.size _; rw [z6]; omega)]
      rfl
    rw [e] at e2
    exact (Option.some.inj e2).symm
end
section
variable {n0 n l : Int} {s t : ByteArray} {L M : Nat} (hn : n0.tmod 100000 = n) (h : Ok n l s t L M)
abbrev VH : VRows (ivH n0 n l s t) noV noK where
  vvp := noVp
  ib := ownB (mixB L (rX (rB 60 L (rXo 50 [] ((M + 3) / 4)) ((L + 3) / 4)) ((L + 3) / 4)))
  ibok := ownB_ok hn h.n0 h.n1 h.l0 h.l1 (mix_ok h (rX_ok ivH_ge h.hU (rB_ok ivH_ge (by show (IntKind.i64, (s.size : Int)) = _; rw [h.sL]) (rXo_ok ivH_ge h.hU 50 (nilB h) _) _) _))
  ic := ownC (rY (rC (rYo 50 [] ((M + 3) / 4)) ((L + 3) / 4)) ((L + 3) / 4))
  icok := ownC_ok hn h.n0 h.n1 h.l0 h.l1 (rY_ok ivH_ge h.hU (rC_ok ivH_ge (fun k => by have := h.hU k; omega) (rYo_ok ivH_ge h.hU 50 (nilC h) _) _) _)
abbrev XH : Txts (ivH n0 n l s t) where
  str := strH n l s t
  ne := neH
  ok := neH_ok
  tr := ownT (rowsT L M)
  trok := ownT_ok (rowsT_ok h)
/-- the law's table -/
noncomputable abbrev TH : Tab := { (VH hn h).ttab (XH h) with gv := gvP }
theorem hn_f : @HandOk (TH hn h) Tryz.prog (oneHand 290 [.oi 2, .int .i64 10] (.ostr 4)) := @fmtHand (TH hn h) 2 4 n rfl rfl rfl (by have := h.n0; omega) (by have := h.n1; omega)
theorem hl_f : @HandOk (TH hn h) Tryz.prog (oneHand 290 [.oi 41, .int .i64 10] (.ostr 5)) := @fmtHand (TH hn h) 41 5 l rfl rfl rfl h.l0 h.l1
theorem hd_f : @HandOk (TH hn h) Tryz.prog (oneHand 26 [.oi 2] (.ostr 4)) := @decHand (TH hn h) 2 4 n rfl rfl (dec_all n (by have := h.n0; omega) (by have := h.n1; omega))
end
end Go.Proofs.YtbgkinjicnnkiaaGreatDoor.hl
