/-
  What the law TopCopy gives: tables.
-/
import Derived.Test.YthgncmohimdbmaaGreatDoorCYNN
import Derived.Test.YthgncmohimdbmaaGreatDoorLGN
import Derived.Test.YthgncmohimdbmaaGreatDoorXN3
import Derived.Test.YthgncmohimdbmaaGreatDoorCYT0
set_option linter.unusedSectionVars false
set_option linter.unusedVariables false
set_option maxRecDepth 1000000
set_option maxHeartbeats 0
namespace Go.Proofs.YthgncmohimdbmaaGreatDoor.cy
open Go.X Go.RowKit
/-- the weight, cut to 32 bits as it goes on -/
def mvOf (x : Int) : Int := IntKind.i32.wrap (x * 7)
def wv (Y : Nat → Int) : Nat → Int
  | 0 => 0
  | 1 => Y 0
  | k + 2 => IntKind.i32.wrap (IntKind.i32.wrap (wv Y (k + 1) * 7) + Y (k + 1))
def mv (Y : Nat → Int) (k : Nat) : Int := IntKind.i32.wrap (wv Y k * 7)
theorem wrap32i {n : Int} (h1 : -2147483648 ≤ n) (h2 : n ≤ 2147483647) : IntKind.i32.wrap n = n := by
  unfold IntKind.wrap IntKind.bits IntKind.signed
  simp only [Bool.true_and, decide_eq_true_eq]
  split <;> omega
theorem i8w {h : Int} (h1 : -1 ≤ h) (h2 : h ≤ 0) : IntKind.i8.wrap (h % 256) = h := by
  unfold IntKind.wrap IntKind.bits IntKind.signed
  simp only [Bool.true_and, decide_eq_true_eq]
  split <;> omega
theorem w32u {y z : Int} (h1 : 0 ≤ y) (h2 : y ≤ 100) (h3 : 0 ≤ z) (h4 : z ≤ 100) : IntKind.i32.wrap (y + z * 4294967296) = y := by
  unfold IntKind.wrap IntKind.bits IntKind.signed
  simp only [Bool.true_and, decide_eq_true_eq]
  split <;> omega
theorem wv_lo (Y : Nat → Int) (hY : ∀ i, 0 ≤ Y i ∧ Y i ≤ 100) : ∀ k, -2147483648 ≤ wv Y k ∧ wv Y k ≤ 2147483647
  | 0 => by show -2147483648 ≤ (0 : Int) ∧ (0 : Int) ≤ 2147483647; decide
  | 1 => by have := hY 0; show -2147483648 ≤ Y 0 ∧ Y 0 ≤ 2147483647; omega
  | k + 2 => w32_lo _
abbrev iv (a0 a1 a2 f t n : Int) (Y : Nat → Int) : Nat → IntKind × Int
  | 0 => (.i64, a0)
  | 1 => (.i64, a1)
  | 2 => (.i64, a2)
  | 3 => (.i64, (f + 1))
  | 4 => (.i64, f)
  | 5 => (.i64, (t + 1))
  | 6 => (.i64, t)
  | 7 => (.i64, (n + 1))
  | 8 => (.i64, n)
  | 9 => (.i64, (f / 256))
  | 10 => (.u8, (f / 256 % 256))
  | 11 => (.u8, (f % 256))
  | 12 => (.i64, (t / 256))
  | 13 => (.u8, (t / 256 % 256))
  | 14 => (.u8, (t % 256))
  | 15 => (.i64, (n / 256))
  | 16 => (.u8, (n / 256 % 256))
  | 17 => (.u8, (n % 256))
  | 18 => (.i8, (f / 256))
  | 19 => (.i64, (f / 256))
  | 20 => (.i64, (f / 256 * 256))
  | 21 => (.i64, (f % 256))
  | 22 => (.i64, f)
  | 23 => (.i8, (t / 256))
  | 24 => (.i64, (t / 256))
  | 25 => (.i64, (t / 256 * 256))
  | 26 => (.i64, (t % 256))
  | 27 => (.i64, t)
  | 28 => (.i8, (n / 256))
  | 29 => (.i64, (n / 256))
  | 30 => (.i64, (n / 256 * 256))
  | 31 => (.i64, (n % 256))
  | 32 => (.i64, n)
  | 33 => (.u64, (Y 0 + Y 1 * 4294967296))
  | 34 => (.u64, (Y 2 + Y 3 * 4294967296))
  | 35 => (.u64, (Y 4 + Y 5 * 4294967296))
  | 36 => (.u64, (Y 6 + Y 7 * 4294967296))
  | 37 => (.u64, (Y 8 + Y 9 * 4294967296))
  | 38 => (.u64, (Y 0 + Y 1 * 4294967296))
  | 39 => (.i64, (Y 0 + Y 1 * 4294967296))
  | 40 => (.i32, (Y 0))
  | 41 => (.i64, (Y 0))
  | 42 => (.i32, (Y 0))
  | 43 => (.i64, (Y 0))
  | 44 => (.i32, (Y 0))
  | 45 => (.i64, (Y 0))
  | 46 => (.i32, (Y 0))
  | 47 => (.i64, (Y 0))
  | 48 => (.i64, (Y 0 * 7))
  | 49 => (.i32, (mv Y 1))
  | 50 => (.i64, (mv Y 1))
  | 51 => (.u64, (Y 1))
  | 52 => (.i64, (Y 1))
  | 53 => (.i32, (Y 1))
  | 54 => (.i64, (Y 1))
  | 55 => (.i32, (mv Y 1))
  | 56 => (.i32, (Y 1))
  | 57 => (.i64, (mv Y 1))
  | 58 => (.i64, (Y 1))
  | 59 => (.i64, (mv Y 1 + Y 1))
  | 60 => (.i32, (wv Y 2))
  | 61 => (.i64, (wv Y 2))
  | 62 => (.i32, (wv Y 2))
  | 63 => (.i64, (wv Y 2))
  | 64 => (.i64, (wv Y 2 * 7))
  | 65 => (.i32, (mv Y 2))
  | 66 => (.i64, (mv Y 2))
  | 67 => (.u64, (Y 2 + Y 3 * 4294967296))
  | 68 => (.i64, (Y 2 + Y 3 * 4294967296))
  | 69 => (.i32, (Y 2))
  | 70 => (.i64, (Y 2))
  | 71 => (.i32, (mv Y 2))
  | 72 => (.i32, (Y 2))
  | 73 => (.i64, (mv Y 2))
  | 74 => (.i64, (Y 2))
  | 75 => (.i64, (mv Y 2 + Y 2))
  | 76 => (.i32, (wv Y 3))
  | 77 => (.i64, (wv Y 3))
  | 78 => (.i32, (wv Y 3))
  | 79 => (.i64, (wv Y 3))
  | 80 => (.i64, (wv Y 3 * 7))
  | 81 => (.i32, (mv Y 3))
  | 82 => (.i64, (mv Y 3))
  | 83 => (.u64, (Y 3))
  | 84 => (.i64, (Y 3))
  | 85 => (.i32, (Y 3))
  | 86 => (.i64, (Y 3))
  | 87 => (.i32, (mv Y 3))
  | 88 => (.i32, (Y 3))
  | 89 => (.i64, (mv Y 3))
  | 90 => (.i64, (Y 3))
  | 91 => (.i64, (mv Y 3 + Y 3))
  | 92 => (.i32, (wv Y 4))
  | 93 => (.i64, (wv Y 4))
  | 94 => (.i32, (wv Y 4))
  | 95 => (.i64, (wv Y 4))
  | 96 => (.i64, (wv Y 4 * 7))
  | 97 => (.i32, (mv Y 4))
  | 98 => (.i64, (mv Y 4))
  | 99 => (.u64, (Y 4 + Y 5 * 4294967296))
  | 100 => (.i64, (Y 4 + Y 5 * 4294967296))
  | 101 => (.i32, (Y 4))
  | 102 => (.i64, (Y 4))
  | 103 => (.i32, (mv Y 4))
  | 104 => (.i32, (Y 4))
  | 105 => (.i64, (mv Y 4))
  | 106 => (.i64, (Y 4))
  | 107 => (.i64, (mv Y 4 + Y 4))
  | 108 => (.i32, (wv Y 5))
  | 109 => (.i64, (wv Y 5))
  | 110 => (.i32, (wv Y 5))
  | 111 => (.i64, (wv Y 5))
  | 112 => (.i64, (wv Y 5 * 7))
  | 113 => (.i32, (mv Y 5))
  | 114 => (.i64, (mv Y 5))
  | 115 => (.u64, (Y 5))
  | 116 => (.i64, (Y 5))
  | 117 => (.i32, (Y 5))
  | 118 => (.i64, (Y 5))
  | 119 => (.i32, (mv Y 5))
  | 120 => (.i32, (Y 5))
  | 121 => (.i64, (mv Y 5))
  | 122 => (.i64, (Y 5))
  | 123 => (.i64, (mv Y 5 + Y 5))
  | 124 => (.i32, (wv Y 6))
  | 125 => (.i64, (wv Y 6))
  | 126 => (.i32, (wv Y 6))
  | 127 => (.i64, (wv Y 6))
  | 128 => (.i64, (wv Y 6 * 7))
  | 129 => (.i32, (mv Y 6))
  | 130 => (.i64, (mv Y 6))
  | 131 => (.u64, (Y 6 + Y 7 * 4294967296))
  | 132 => (.i64, (Y 6 + Y 7 * 4294967296))
  | 133 => (.i32, (Y 6))
  | 134 => (.i64, (Y 6))
  | 135 => (.i32, (mv Y 6))
  | 136 => (.i32, (Y 6))
  | 137 => (.i64, (mv Y 6))
  | 138 => (.i64, (Y 6))
  | 139 => (.i64, (mv Y 6 + Y 6))
  | 140 => (.i32, (wv Y 7))
  | 141 => (.i64, (wv Y 7))
  | 142 => (.i32, (wv Y 7))
  | 143 => (.i64, (wv Y 7))
  | 144 => (.i64, (wv Y 7 * 7))
  | 145 => (.i32, (mv Y 7))
  | 146 => (.i64, (mv Y 7))
  | 147 => (.u64, (Y 7))
  | 148 => (.i64, (Y 7))
  | 149 => (.i32, (Y 7))
  | 150 => (.i64, (Y 7))
  | 151 => (.i32, (mv Y 7))
  | 152 => (.i32, (Y 7))
  | 153 => (.i64, (mv Y 7))
  | 154 => (.i64, (Y 7))
  | 155 => (.i64, (mv Y 7 + Y 7))
  | 156 => (.i32, (wv Y 8))
  | 157 => (.i64, (wv Y 8))
  | 158 => (.i32, (wv Y 8))
  | 159 => (.i64, (wv Y 8))
  | 160 => (.i64, (wv Y 8 * 7))
  | 161 => (.i32, (mv Y 8))
  | 162 => (.i64, (mv Y 8))
  | 163 => (.u64, (Y 8 + Y 9 * 4294967296))
  | 164 => (.i64, (Y 8 + Y 9 * 4294967296))
  | 165 => (.i32, (Y 8))
  | 166 => (.i64, (Y 8))
  | 167 => (.i32, (mv Y 8))
  | 168 => (.i32, (Y 8))
  | 169 => (.i64, (mv Y 8))
  | 170 => (.i64, (Y 8))
  | 171 => (.i64, (mv Y 8 + Y 8))
  | 172 => (.i32, (wv Y 9))
  | 173 => (.i64, (wv Y 9))
  | 174 => (.i32, (wv Y 9))
  | 175 => (.i64, (wv Y 9))
  | 176 => (.i64, (wv Y 9 * 7))
  | 177 => (.i32, (mv Y 9))
  | 178 => (.i64, (mv Y 9))
  | 179 => (.u64, (Y 9))
  | 180 => (.i64, (Y 9))
  | 181 => (.i32, (Y 9))
  | 182 => (.i64, (Y 9))
  | 183 => (.i32, (mv Y 9))
  | 184 => (.i32, (Y 9))
  | 185 => (.i64, (mv Y 9))
  | 186 => (.i64, (Y 9))
  | 187 => (.i64, (mv Y 9 + Y 9))
  | 188 => (.i32, (wv Y 10))
  | 189 => (.i64, (wv Y 10))
  | 190 => (.i64, (a0.tmod 12))
  | 191 => (.i64, (a1.tmod 12))
  | 192 => (.i64, (a2.tmod 12))
  | 240 => (.i64, (10 - f))
  | 241 => (.i64, (f + n))
  | 250 => (.i64, (10 - f))
  | 251 => (.i64, (10 - t))
  | 252 => (.i64, (f + n))
  | 253 => (.i64, (t + n))
  | _ => (.i64, 0)
abbrev B0 (a0 a1 a2 f t n : Int) (Y : Nat → Int) : Tab := (bare (iv a0 a1 a2 f t n Y) noV noK noVp).tab
abbrev ibLB : List BRow := [(1, .oi 3, .int .i64 1, .oi 4), (1, .oi 5, .int .i64 1, .oi 6), (1, .oi 7, .int .i64 1, .oi 8), (16, .oi 4, .int .u64 8, .oi 9), (16, .oi 6, .int .u64 8, .oi 12), (16, .oi 8, .int .u64 8, .oi 15), (15, .oi 19, .int .u64 8, .oi 20), (6, .oi 20, .oi 21, .oi 22), (15, .oi 24, .int .u64 8, .oi 25), (6, .oi 25, .oi 26, .oi 27), (15, .oi 29, .int .u64 8, .oi 30), (6, .oi 30, .oi 31, .oi 32)]
abbrev icLB : List (IntKind × AV × AV) := [(.u8, .oi 9, .oi 10), (.u8, .oi 4, .oi 11), (.u8, .oi 12, .oi 13), (.u8, .oi 6, .oi 14), (.u8, .oi 15, .oi 16), (.u8, .oi 8, .oi 17), (.i8, .oi 10, .oi 18), (.i64, .oi 18, .oi 19), (.i64, .oi 11, .oi 21), (.i8, .oi 13, .oi 23), (.i64, .oi 23, .oi 24), (.i64, .oi 14, .oi 26), (.i8, .oi 16, .oi 28), (.i64, .oi 28, .oi 29), (.i64, .oi 17, .oi 31)]
theorem ibB {a0 a1 a2 f t n : Int} {Y : Nat → Int} (hf : -1 ≤ f ∧ f ≤ 10) (ht : -1 ≤ t ∧ t ≤ 10) (hn : -1 ≤ n ∧ n ≤ 10) : ∀ x_ ∈ ibLB, IbOk (iv a0 a1 a2 f t n Y) x_ := by
  letI := Tab.empty
  exact (ibCons (ibSub (a := (f + 1)) (b := (1 : Int)) (c := f) rfl rfl rfl (by omega) (by omega) (by omega))
    (ibCons (ibSub (a := (t + 1)) (b := (1 : Int)) (c := t) rfl rfl rfl (by omega) (by omega) (by omega))
    (ibCons (ibSub (a := (n + 1)) (b := (1 : Int)) (c := n) rfl rfl rfl (by omega) (by omega) (by omega))
    (ibCons (ibShr (k := .i64) (k' := .u64) (a := f) (b := 8) (c := (f / 256)) rfl rfl rfl (by decide) (shr_is (by decide) (by decide)))
    (ibCons (ibShr (k := .i64) (k' := .u64) (a := t) (b := 8) (c := (t / 256)) rfl rfl rfl (by decide) (shr_is (by decide) (by decide)))
    (ibCons (ibShr (k := .i64) (k' := .u64) (a := n) (b := 8) (c := (n / 256)) rfl rfl rfl (by decide) (shr_is (by decide) (by decide)))
    (ibCons (ibShl (k := .i64) (k' := .u64) (a := (f / 256)) (b := 8) (c := (f / 256 * 256)) rfl rfl rfl (by decide) (show IntKind.i64.wrap ((f / 256) * 256) = _ from wrap64 (by omega) (by omega)))
    (ibCons (ibOr (k := .i64) (a := (f / 256 * 256)) (b := (f % 256)) (c := f) rfl rfl rfl ((or_add 8 (by omega) (by omega) (by omega) (by decide) (by omega) (by omega)).trans (by omega)))
    (ibCons (ibShl (k := .i64) (k' := .u64) (a := (t / 256)) (b := 8) (c := (t / 256 * 256)) rfl rfl rfl (by decide) (show IntKind.i64.wrap ((t / 256) * 256) = _ from wrap64 (by omega) (by omega)))
    (ibCons (ibOr (k := .i64) (a := (t / 256 * 256)) (b := (t % 256)) (c := t) rfl rfl rfl ((or_add 8 (by omega) (by omega) (by omega) (by decide) (by omega) (by omega)).trans (by omega)))
    (ibCons (ibShl (k := .i64) (k' := .u64) (a := (n / 256)) (b := 8) (c := (n / 256 * 256)) rfl rfl rfl (by decide) (show IntKind.i64.wrap ((n / 256) * 256) = _ from wrap64 (by omega) (by omega)))
    (ibCons (ibOr (k := .i64) (a := (n / 256 * 256)) (b := (n % 256)) (c := n) rfl rfl rfl ((or_add 8 (by omega) (by omega) (by omega) (by decide) (by omega) (by omega)).trans (by omega)))
    ibNil))))))))))))
theorem icB {a0 a1 a2 f t n : Int} {Y : Nat → Int} (hf : -1 ≤ f ∧ f ≤ 10) (ht : -1 ≤ t ∧ t ≤ 10) (hn : -1 ≤ n ∧ n ≤ 10) : ∀ x_ ∈ icLB, IcOk' (iv a0 a1 a2 f t n Y) x_ := by
  exact (icCons (icOf (k := .u8) (k' := .i64) (n := (f / 256)) (c := (f / 256 % 256)) rfl rfl (u8w _))
    (icCons (icOf (k := .u8) (k' := .i64) (n := f) (c := (f % 256)) rfl rfl (u8w _))
    (icCons (icOf (k := .u8) (k' := .i64) (n := (t / 256)) (c := (t / 256 % 256)) rfl rfl (u8w _))
    (icCons (icOf (k := .u8) (k' := .i64) (n := t) (c := (t % 256)) rfl rfl (u8w _))
    (icCons (icOf (k := .u8) (k' := .i64) (n := (n / 256)) (c := (n / 256 % 256)) rfl rfl (u8w _))
    (icCons (icOf (k := .u8) (k' := .i64) (n := n) (c := (n % 256)) rfl rfl (u8w _))
    (icCons (icOf (k := .i8) (k' := .u8) (n := (f / 256 % 256)) (c := (f / 256)) rfl rfl (i8w (by omega) (by omega)))
    (icCons (icOf (k := .i64) (k' := .i8) (n := (f / 256)) (c := (f / 256)) rfl rfl (wrap64 (by omega) (by omega)))
    (icCons (icOf (k := .i64) (k' := .u8) (n := (f % 256)) (c := (f % 256)) rfl rfl (wrap64 (by omega) (by omega)))
    (icCons (icOf (k := .i8) (k' := .u8) (n := (t / 256 % 256)) (c := (t / 256)) rfl rfl (i8w (by omega) (by omega)))
    (icCons (icOf (k := .i64) (k' := .i8) (n := (t / 256)) (c := (t / 256)) rfl rfl (wrap64 (by omega) (by omega)))
    (icCons (icOf (k := .i64) (k' := .u8) (n := (t % 256)) (c := (t % 256)) rfl rfl (wrap64 (by omega) (by omega)))
    (icCons (icOf (k := .i8) (k' := .u8) (n := (n / 256 % 256)) (c := (n / 256)) rfl rfl (i8w (by omega) (by omega)))
    (icCons (icOf (k := .i64) (k' := .i8) (n := (n / 256)) (c := (n / 256)) rfl rfl (wrap64 (by omega) (by omega)))
    (icCons (icOf (k := .i64) (k' := .u8) (n := (n % 256)) (c := (n % 256)) rfl rfl (wrap64 (by omega) (by omega)))
    icNil)))))))))))))))
abbrev RB {a0 a1 a2 f t n : Int} {Y : Nat → Int} (hf : -1 ≤ f ∧ f ≤ 10) (ht : -1 ≤ t ∧ t ≤ 10) (hn : -1 ≤ n ∧ n ≤ 10) : VRows (iv a0 a1 a2 f t n Y) noV noK where
  vvp := noVp
  ib := ibLB
  ibok := ibB hf ht hn
  ic := icLB
  icok := icB hf ht hn
abbrev TB {a0 a1 a2 f t n : Int} {Y : Nat → Int} (hf : -1 ≤ f ∧ f ≤ 10) (ht : -1 ≤ t ∧ t ≤ 10) (hn : -1 ≤ n ∧ n ≤ 10) : Tab := (RB (a0 := a0) (a1 := a1) (a2 := a2) (f := f) (t := t) (n := n) (Y := Y) hf ht hn).tab
abbrev ibL0 : List BRow := [(1, .oi 3, .int .i64 1, .oi 4), (1, .oi 5, .int .i64 1, .oi 6), (1, .oi 7, .int .i64 1, .oi 8), (16, .oi 4, .int .u64 8, .oi 9), (16, .oi 6, .int .u64 8, .oi 12), (16, .oi 8, .int .u64 8, .oi 15), (15, .oi 19, .int .u64 8, .oi 20), (6, .oi 20, .oi 21, .oi 22), (15, .oi 24, .int .u64 8, .oi 25), (6, .oi 25, .oi 26, .oi 27), (15, .oi 29, .int .u64 8, .oi 30), (6, .oi 30, .oi 31, .oi 32), (16, .oi 33, .int .i64 0, .oi 38), (0, .int .i64 0, .oi 43, .oi 43), (2, .oi 47, .int .i64 7, .oi 48), (16, .oi 33, .int .i64 32, .oi 51), (0, .oi 57, .oi 58, .oi 59), (2, .oi 63, .int .i64 7, .oi 64), (16, .oi 34, .int .i64 0, .oi 67), (0, .oi 73, .oi 74, .oi 75), (2, .oi 79, .int .i64 7, .oi 80), (16, .oi 34, .int .i64 32, .oi 83), (0, .oi 89, .oi 90, .oi 91), (2, .oi 95, .int .i64 7, .oi 96), (16, .oi 35, .int .i64 0, .oi 99), (0, .oi 105, .oi 106, .oi 107), (2, .oi 111, .int .i64 7, .oi 112), (16, .oi 35, .int .i64 32, .oi 115), (0, .oi 121, .oi 122, .oi 123), (2, .oi 127, .int .i64 7, .oi 128), (16, .oi 36, .int .i64 0, .oi 131), (0, .oi 137, .oi 138, .oi 139), (2, .oi 143, .int .i64 7, .oi 144), (16, .oi 36, .int .i64 32, .oi 147), (0, .oi 153, .oi 154, .oi 155), (2, .oi 159, .int .i64 7, .oi 160), (16, .oi 37, .int .i64 0, .oi 163), (0, .oi 169, .oi 170, .oi 171), (2, .oi 175, .int .i64 7, .oi 176), (16, .oi 37, .int .i64 32, .oi 179), (0, .oi 185, .oi 186, .oi 187)]
abbrev icL0 : List (IntKind × AV × AV) := [(.u8, .oi 9, .oi 10), (.u8, .oi 4, .oi 11), (.u8, .oi 12, .oi 13), (.u8, .oi 6, .oi 14), (.u8, .oi 15, .oi 16), (.u8, .oi 8, .oi 17), (.i8, .oi 10, .oi 18), (.i64, .oi 18, .oi 19), (.i64, .oi 11, .oi 21), (.i8, .oi 13, .oi 23), (.i64, .oi 23, .oi 24), (.i64, .oi 14, .oi 26), (.i8, .oi 16, .oi 28), (.i64, .oi 28, .oi 29), (.i64, .oi 17, .oi 31), (.i64, .oi 38, .oi 39), (.i32, .oi 39, .oi 40), (.i64, .oi 40, .oi 41), (.i32, .oi 41, .oi 42), (.i64, .oi 42, .oi 43), (.i32, .oi 43, .oi 44), (.i64, .oi 44, .oi 45), (.i32, .oi 45, .oi 46), (.i64, .oi 46, .oi 47), (.i32, .oi 48, .oi 49), (.i64, .oi 49, .oi 50), (.i64, .oi 51, .oi 52), (.i32, .oi 52, .oi 53), (.i64, .oi 53, .oi 54), (.i32, .oi 50, .oi 55), (.i32, .oi 54, .oi 56), (.i64, .oi 55, .oi 57), (.i64, .oi 56, .oi 58), (.i32, .oi 59, .oi 60), (.i64, .oi 60, .oi 61), (.i32, .oi 61, .oi 62), (.i64, .oi 62, .oi 63), (.i32, .oi 64, .oi 65), (.i64, .oi 65, .oi 66), (.i64, .oi 67, .oi 68), (.i32, .oi 68, .oi 69), (.i64, .oi 69, .oi 70), (.i32, .oi 66, .oi 71), (.i32, .oi 70, .oi 72), (.i64, .oi 71, .oi 73), (.i64, .oi 72, .oi 74), (.i32, .oi 75, .oi 76), (.i64, .oi 76, .oi 77), (.i32, .oi 77, .oi 78), (.i64, .oi 78, .oi 79), (.i32, .oi 80, .oi 81), (.i64, .oi 81, .oi 82), (.i64, .oi 83, .oi 84), (.i32, .oi 84, .oi 85), (.i64, .oi 85, .oi 86), (.i32, .oi 82, .oi 87), (.i32, .oi 86, .oi 88), (.i64, .oi 87, .oi 89), (.i64, .oi 88, .oi 90), (.i32, .oi 91, .oi 92), (.i64, .oi 92, .oi 93), (.i32, .oi 93, .oi 94), (.i64, .oi 94, .oi 95), (.i32, .oi 96, .oi 97), (.i64, .oi 97, .oi 98), (.i64, .oi 99, .oi 100), (.i32, .oi 100, .oi 101), (.i64, .oi 101, .oi 102), (.i32, .oi 98, .oi 103), (.i32, .oi 102, .oi 104), (.i64, .oi 103, .oi 105), (.i64, .oi 104, .oi 106), (.i32, .oi 107, .oi 108), (.i64, .oi 108, .oi 109), (.i32, .oi 109, .oi 110), (.i64, .oi 110, .oi 111), (.i32, .oi 112, .oi 113), (.i64, .oi 113, .oi 114), (.i64, .oi 115, .oi 116), (.i32, .oi 116, .oi 117), (.i64, .oi 117, .oi 118), (.i32, .oi 114, .oi 119), (.i32, .oi 118, .oi 120), (.i64, .oi 119, .oi 121), (.i64, .oi 120, .oi 122), (.i32, .oi 123, .oi 124), (.i64, .oi 124, .oi 125), (.i32, .oi 125, .oi 126), (.i64, .oi 126, .oi 127), (.i32, .oi 128, .oi 129), (.i64, .oi 129, .oi 130), (.i64, .oi 131, .oi 132), (.i32, .oi 132, .oi 133), (.i64, .oi 133, .oi 134), (.i32, .oi 130, .oi 135), (.i32, .oi 134, .oi 136), (.i64, .oi 135, .oi 137), (.i64, .oi 136, .oi 138), (.i32, .oi 139, .oi 140), (.i64, .oi 140, .oi 141), (.i32, .oi 141, .oi 142), (.i64, .oi 142, .oi 143), (.i32, .oi 144, .oi 145), (.i64, .oi 145, .oi 146), (.i64, .oi 147, .oi 148), (.i32, .oi 148, .oi 149), (.i64, .oi 149, .oi 150), (.i32, .oi 146, .oi 151), (.i32, .oi 150, .oi 152), (.i64, .oi 151, .oi 153), (.i64, .oi 152, .oi 154), (.i32, .oi 155, .oi 156), (.i64, .oi 156, .oi 157), (.i32, .oi 157, .oi 158), (.i64, .oi 158, .oi 159), (.i32, .oi 160, .oi 161), (.i64, .oi 161, .oi 162), (.i64, .oi 163, .oi 164), (.i32, .oi 164, .oi 165), (.i64, .oi 165, .oi 166), (.i32, .oi 162, .oi 167), (.i32, .oi 166, .oi 168), (.i64, .oi 167, .oi 169), (.i64, .oi 168, .oi 170), (.i32, .oi 171, .oi 172), (.i64, .oi 172, .oi 173), (.i32, .oi 173, .oi 174), (.i64, .oi 174, .oi 175), (.i32, .oi 176, .oi 177), (.i64, .oi 177, .oi 178), (.i64, .oi 179, .oi 180), (.i32, .oi 180, .oi 181), (.i64, .oi 181, .oi 182), (.i32, .oi 178, .oi 183), (.i32, .oi 182, .oi 184), (.i64, .oi 183, .oi 185), (.i64, .oi 184, .oi 186), (.i32, .oi 187, .oi 188), (.i64, .oi 188, .oi 189)]
theorem ib0 {a0 a1 a2 f t n : Int} {Y : Nat → Int} (hf : -1 ≤ f ∧ f ≤ 10) (ht : -1 ≤ t ∧ t ≤ 10) (hn : -1 ≤ n ∧ n ≤ 10) (hY : ∀ i, 0 ≤ Y i ∧ Y i ≤ 100) : ∀ x_ ∈ ibL0, IbOk (iv a0 a1 a2 f t n Y) x_ := by
  letI := Tab.empty
  have y0 := hY 0
  have y1 := hY 1
  have y2 := hY 2
  have y3 := hY 3
  have y4 := hY 4
  have y5 := hY 5
  have y6 := hY 6
  have y7 := hY 7
  have y8 := hY 8
  have y9 := hY 9
  have w1 := wv_lo Y hY 1
  have m1 := w32_lo (wv Y 1 * 7)
  have m1' : -2147483648 ≤ mv Y 1 ∧ mv Y 1 ≤ 2147483647 := m1
  have w2 := wv_lo Y hY 2
  have m2 := w32_lo (wv Y 2 * 7)
  have m2' : -2147483648 ≤ mv Y 2 ∧ mv Y 2 ≤ 2147483647 := m2
  have w3 := wv_lo Y hY 3
  have m3 := w32_lo (wv Y 3 * 7)
  have m3' : -2147483648 ≤ mv Y 3 ∧ mv Y 3 ≤ 2147483647 := m3
  have w4 := wv_lo Y hY 4
  have m4 := w32_lo (wv Y 4 * 7)
  have m4' : -2147483648 ≤ mv Y 4 ∧ mv Y 4 ≤ 2147483647 := m4
  have w5 := wv_lo Y hY 5
  have m5 := w32_lo (wv Y 5 * 7)
  have m5' : -2147483648 ≤ mv Y 5 ∧ mv Y 5 ≤ 2147483647 := m5
  have w6 := wv_lo Y hY 6
  have m6 := w32_lo (wv Y 6 * 7)
  have m6' : -2147483648 ≤ mv Y 6 ∧ mv Y 6 ≤ 2147483647 := m6
  have w7 := wv_lo Y hY 7
  have m7 := w32_lo (wv Y 7 * 7)
  have m7' : -2147483648 ≤ mv Y 7 ∧ mv Y 7 ≤ 2147483647 := m7
  have w8 := wv_lo Y hY 8
  have m8 := w32_lo (wv Y 8 * 7)
  have m8' : -2147483648 ≤ mv Y 8 ∧ mv Y 8 ≤ 2147483647 := m8
  have w9 := wv_lo Y hY 9
  have m9 := w32_lo (wv Y 9 * 7)
  have m9' : -2147483648 ≤ mv Y 9 ∧ mv Y 9 ≤ 2147483647 := m9
  have w10 := wv_lo Y hY 10
  have m10 := w32_lo (wv Y 10 * 7)
  have m10' : -2147483648 ≤ mv Y 10 ∧ mv Y 10 ≤ 2147483647 := m10
  exact (ibCons (ibSub (a := (f + 1)) (b := (1 : Int)) (c := f) rfl rfl rfl (by omega) (by omega) (by omega))
    (ibCons (ibSub (a := (t + 1)) (b := (1 : Int)) (c := t) rfl rfl rfl (by omega) (by omega) (by omega))
    (ibCons (ibSub (a := (n + 1)) (b := (1 : Int)) (c := n) rfl rfl rfl (by omega) (by omega) (by omega))
    (ibCons (ibShr (k := .i64) (k' := .u64) (a := f) (b := 8) (c := (f / 256)) rfl rfl rfl (by decide) (shr_is (by decide) (by decide)))
    (ibCons (ibShr (k := .i64) (k' := .u64) (a := t) (b := 8) (c := (t / 256)) rfl rfl rfl (by decide) (shr_is (by decide) (by decide)))
    (ibCons (ibShr (k := .i64) (k' := .u64) (a := n) (b := 8) (c := (n / 256)) rfl rfl rfl (by decide) (shr_is (by decide) (by decide)))
    (ibCons (ibShl (k := .i64) (k' := .u64) (a := (f / 256)) (b := 8) (c := (f / 256 * 256)) rfl rfl rfl (by decide) (show IntKind.i64.wrap ((f / 256) * 256) = _ from wrap64 (by omega) (by omega)))
    (ibCons (ibOr (k := .i64) (a := (f / 256 * 256)) (b := (f % 256)) (c := f) rfl rfl rfl ((or_add 8 (by omega) (by omega) (by omega) (by decide) (by omega) (by omega)).trans (by omega)))
    (ibCons (ibShl (k := .i64) (k' := .u64) (a := (t / 256)) (b := 8) (c := (t / 256 * 256)) rfl rfl rfl (by decide) (show IntKind.i64.wrap ((t / 256) * 256) = _ from wrap64 (by omega) (by omega)))
    (ibCons (ibOr (k := .i64) (a := (t / 256 * 256)) (b := (t % 256)) (c := t) rfl rfl rfl ((or_add 8 (by omega) (by omega) (by omega) (by decide) (by omega) (by omega)).trans (by omega)))
    (ibCons (ibShl (k := .i64) (k' := .u64) (a := (n / 256)) (b := 8) (c := (n / 256 * 256)) rfl rfl rfl (by decide) (show IntKind.i64.wrap ((n / 256) * 256) = _ from wrap64 (by omega) (by omega)))
    (ibCons (ibOr (k := .i64) (a := (n / 256 * 256)) (b := (n % 256)) (c := n) rfl rfl rfl ((or_add 8 (by omega) (by omega) (by omega) (by decide) (by omega) (by omega)).trans (by omega)))
    (ibCons (ibShr (k := .u64) (k' := .i64) (a := (Y 0 + Y 1 * 4294967296)) (b := 0) (c := (Y 0 + Y 1 * 4294967296)) rfl rfl rfl (by decide) ((shr_is (m := 1) (by decide) (by decide)).trans (by omega)))
    (ibCons (ibAdd (a := 0) (b := (Y 0)) (c := (Y 0)) rfl rfl rfl (Int.zero_add _) (by omega) (by omega))
    (ibCons (ibMul (a := (Y 0)) (b := (7 : Int)) (c := (Y 0 * 7)) rfl rfl rfl (by omega) (by omega) (by omega))
    (ibCons (ibShr (k := .u64) (k' := .i64) (a := (Y 0 + Y 1 * 4294967296)) (b := 32) (c := (Y 1)) rfl rfl rfl (by decide) ((shr_is (m := 4294967296) (by decide) (by decide)).trans (by omega)))
    (ibCons (ibAdd (a := (mv Y 1)) (b := (Y 1)) (c := (mv Y 1 + Y 1)) rfl rfl rfl (by omega) (by omega) (by omega))
    (ibCons (ibMul (a := (wv Y 2)) (b := (7 : Int)) (c := (wv Y 2 * 7)) rfl rfl rfl (by omega) (by omega) (by omega))
    (ibCons (ibShr (k := .u64) (k' := .i64) (a := (Y 2 + Y 3 * 4294967296)) (b := 0) (c := (Y 2 + Y 3 * 4294967296)) rfl rfl rfl (by decide) ((shr_is (m := 1) (by decide) (by decide)).trans (by omega)))
    (ibCons (ibAdd (a := (mv Y 2)) (b := (Y 2)) (c := (mv Y 2 + Y 2)) rfl rfl rfl (by omega) (by omega) (by omega))
    (ibCons (ibMul (a := (wv Y 3)) (b := (7 : Int)) (c := (wv Y 3 * 7)) rfl rfl rfl (by omega) (by omega) (by omega))
    (ibCons (ibShr (k := .u64) (k' := .i64) (a := (Y 2 + Y 3 * 4294967296)) (b := 32) (c := (Y 3)) rfl rfl rfl (by decide) ((shr_is (m := 4294967296) (by decide) (by decide)).trans (by omega)))
    (ibCons (ibAdd (a := (mv Y 3)) (b := (Y 3)) (c := (mv Y 3 + Y 3)) rfl rfl rfl (by omega) (by omega) (by omega))
    (ibCons (ibMul (a := (wv Y 4)) (b := (7 : Int)) (c := (wv Y 4 * 7)) rfl rfl rfl (by omega) (by omega) (by omega))
    (ibCons (ibShr (k := .u64) (k' := .i64) (a := (Y 4 + Y 5 * 4294967296)) (b := 0) (c := (Y 4 + Y 5 * 4294967296)) rfl rfl rfl (by decide) ((shr_is (m := 1) (by decide) (by decide)).trans (by omega)))
    (ibCons (ibAdd (a := (mv Y 4)) (b := (Y 4)) (c := (mv Y 4 + Y 4)) rfl rfl rfl (by omega) (by omega) (by omega))
    (ibCons (ibMul (a := (wv Y 5)) (b := (7 : Int)) (c := (wv Y 5 * 7)) rfl rfl rfl (by omega) (by omega) (by omega))
    (ibCons (ibShr (k := .u64) (k' := .i64) (a := (Y 4 + Y 5 * 4294967296)) (b := 32) (c := (Y 5)) rfl rfl rfl (by decide) ((shr_is (m := 4294967296) (by decide) (by decide)).trans (by omega)))
    (ibCons (ibAdd (a := (mv Y 5)) (b := (Y 5)) (c := (mv Y 5 + Y 5)) rfl rfl rfl (by omega) (by omega) (by omega))
    (ibCons (ibMul (a := (wv Y 6)) (b := (7 : Int)) (c := (wv Y 6 * 7)) rfl rfl rfl (by omega) (by omega) (by omega))
    (ibCons (ibShr (k := .u64) (k' := .i64) (a := (Y 6 + Y 7 * 4294967296)) (b := 0) (c := (Y 6 + Y 7 * 4294967296)) rfl rfl rfl (by decide) ((shr_is (m := 1) (by decide) (by decide)).trans (by omega)))
    (ibCons (ibAdd (a := (mv Y 6)) (b := (Y 6)) (c := (mv Y 6 + Y 6)) rfl rfl rfl (by omega) (by omega) (by omega))
    (ibCons (ibMul (a := (wv Y 7)) (b := (7 : Int)) (c := (wv Y 7 * 7)) rfl rfl rfl (by omega) (by omega) (by omega))
    (ibCons (ibShr (k := .u64) (k' := .i64) (a := (Y 6 + Y 7 * 4294967296)) (b := 32) (c := (Y 7)) rfl rfl rfl (by decide) ((shr_is (m := 4294967296) (by decide) (by decide)).trans (by omega)))
    (ibCons (ibAdd (a := (mv Y 7)) (b := (Y 7)) (c := (mv Y 7 + Y 7)) rfl rfl rfl (by omega) (by omega) (by omega))
    (ibCons (ibMul (a := (wv Y 8)) (b := (7 : Int)) (c := (wv Y 8 * 7)) rfl rfl rfl (by omega) (by omega) (by omega))
    (ibCons (ibShr (k := .u64) (k' := .i64) (a := (Y 8 + Y 9 * 4294967296)) (b := 0) (c := (Y 8 + Y 9 * 4294967296)) rfl rfl rfl (by decide) ((shr_is (m := 1) (by decide) (by decide)).trans (by omega)))
    (ibCons (ibAdd (a := (mv Y 8)) (b := (Y 8)) (c := (mv Y 8 + Y 8)) rfl rfl rfl (by omega) (by omega) (by omega))
    (ibCons (ibMul (a := (wv Y 9)) (b := (7 : Int)) (c := (wv Y 9 * 7)) rfl rfl rfl (by omega) (by omega) (by omega))
    (ibCons (ibShr (k := .u64) (k' := .i64) (a := (Y 8 + Y 9 * 4294967296)) (b := 32) (c := (Y 9)) rfl rfl rfl (by decide) ((shr_is (m := 4294967296) (by decide) (by decide)).trans (by omega)))
    (ibCons (ibAdd (a := (mv Y 9)) (b := (Y 9)) (c := (mv Y 9 + Y 9)) rfl rfl rfl (by omega) (by omega) (by omega))
    ibNil)))))))))))))))))))))))))))))))))))))))))
theorem ic0 {a0 a1 a2 f t n : Int} {Y : Nat → Int} (hf : -1 ≤ f ∧ f ≤ 10) (ht : -1 ≤ t ∧ t ≤ 10) (hn : -1 ≤ n ∧ n ≤ 10) (hY : ∀ i, 0 ≤ Y i ∧ Y i ≤ 100) : ∀ x_ ∈ icL0, IcOk' (iv a0 a1 a2 f t n Y) x_ := by
  have y0 := hY 0
  have y1 := hY 1
  have y2 := hY 2
  have y3 := hY 3
  have y4 := hY 4
  have y5 := hY 5
  have y6 := hY 6
  have y7 := hY 7
  have y8 := hY 8
  have y9 := hY 9
  have w1 := wv_lo Y hY 1
  have m1 := w32_lo (wv Y 1 * 7)
  have m1' : -2147483648 ≤ mv Y 1 ∧ mv Y 1 ≤ 2147483647 := m1
  have w2 := wv_lo Y hY 2
  have m2 := w32_lo (wv Y 2 * 7)
  have m2' : -2147483648 ≤ mv Y 2 ∧ mv Y 2 ≤ 2147483647 := m2
  have w3 := wv_lo Y hY 3
  have m3 := w32_lo (wv Y 3 * 7)
  have m3' : -2147483648 ≤ mv Y 3 ∧ mv Y 3 ≤ 2147483647 := m3
  have w4 := wv_lo Y hY 4
  have m4 := w32_lo (wv Y 4 * 7)
  have m4' : -2147483648 ≤ mv Y 4 ∧ mv Y 4 ≤ 2147483647 := m4
  have w5 := wv_lo Y hY 5
  have m5 := w32_lo (wv Y 5 * 7)
  have m5' : -2147483648 ≤ mv Y 5 ∧ mv Y 5 ≤ 2147483647 := m5
  have w6 := wv_lo Y hY 6
  have m6 := w32_lo (wv Y 6 * 7)
  have m6' : -2147483648 ≤ mv Y 6 ∧ mv Y 6 ≤ 2147483647 := m6
  have w7 := wv_lo Y hY 7
  have m7 := w32_lo (wv Y 7 * 7)
  have m7' : -2147483648 ≤ mv Y 7 ∧ mv Y 7 ≤ 2147483647 := m7
  have w8 := wv_lo Y hY 8
  have m8 := w32_lo (wv Y 8 * 7)
  have m8' : -2147483648 ≤ mv Y 8 ∧ mv Y 8 ≤ 2147483647 := m8
  have w9 := wv_lo Y hY 9
  have m9 := w32_lo (wv Y 9 * 7)
  have m9' : -2147483648 ≤ mv Y 9 ∧ mv Y 9 ≤ 2147483647 := m9
  have w10 := wv_lo Y hY 10
  have m10 := w32_lo (wv Y 10 * 7)
  have m10' : -2147483648 ≤ mv Y 10 ∧ mv Y 10 ≤ 2147483647 := m10
  exact (icCons (icOf (k := .u8) (k' := .i64) (n := (f / 256)) (c := (f / 256 % 256)) rfl rfl (u8w _))
    (icCons (icOf (k := .u8) (k' := .i64) (n := f) (c := (f % 256)) rfl rfl (u8w _))
    (icCons (icOf (k := .u8) (k' := .i64) (n := (t / 256)) (c := (t / 256 % 256)) rfl rfl (u8w _))
    (icCons (icOf (k := .u8) (k' := .i64) (n := t) (c := (t % 256)) rfl rfl (u8w _))
    (icCons (icOf (k := .u8) (k' := .i64) (n := (n / 256)) (c := (n / 256 % 256)) rfl rfl (u8w _))
    (icCons (icOf (k := .u8) (k' := .i64) (n := n) (c := (n % 256)) rfl rfl (u8w _))
    (icCons (icOf (k := .i8) (k' := .u8) (n := (f / 256 % 256)) (c := (f / 256)) rfl rfl (i8w (by omega) (by omega)))
    (icCons (icOf (k := .i64) (k' := .i8) (n := (f / 256)) (c := (f / 256)) rfl rfl (wrap64 (by omega) (by omega)))
    (icCons (icOf (k := .i64) (k' := .u8) (n := (f % 256)) (c := (f % 256)) rfl rfl (wrap64 (by omega) (by omega)))
    (icCons (icOf (k := .i8) (k' := .u8) (n := (t / 256 % 256)) (c := (t / 256)) rfl rfl (i8w (by omega) (by omega)))
    (icCons (icOf (k := .i64) (k' := .i8) (n := (t / 256)) (c := (t / 256)) rfl rfl (wrap64 (by omega) (by omega)))
    (icCons (icOf (k := .i64) (k' := .u8) (n := (t % 256)) (c := (t % 256)) rfl rfl (wrap64 (by omega) (by omega)))
    (icCons (icOf (k := .i8) (k' := .u8) (n := (n / 256 % 256)) (c := (n / 256)) rfl rfl (i8w (by omega) (by omega)))
    (icCons (icOf (k := .i64) (k' := .i8) (n := (n / 256)) (c := (n / 256)) rfl rfl (wrap64 (by omega) (by omega)))
    (icCons (icOf (k := .i64) (k' := .u8) (n := (n % 256)) (c := (n % 256)) rfl rfl (wrap64 (by omega) (by omega)))
    (icCons (icOf (k := .i64) (k' := .u64) (n := (Y 0 + Y 1 * 4294967296)) (c := (Y 0 + Y 1 * 4294967296)) rfl rfl (wrap64 (by omega) (by omega)))
    (icCons (icOf (k := .i32) (k' := .i64) (n := (Y 0 + Y 1 * 4294967296)) (c := (Y 0)) rfl rfl (w32u (hY 0).1 (hY 0).2 (hY 1).1 (hY 1).2))
    (icCons (icOf (k := .i64) (k' := .i32) (n := (Y 0)) (c := (Y 0)) rfl rfl (wrap64 (by omega) (by omega)))
    (icCons (icOf (k := .i32) (k' := .i64) (n := (Y 0)) (c := (Y 0)) rfl rfl (wrap32i (by omega) (by omega)))
    (icCons (icOf (k := .i64) (k' := .i32) (n := (Y 0)) (c := (Y 0)) rfl rfl (wrap64 (by omega) (by omega)))
    (icCons (icOf (k := .i32) (k' := .i64) (n := (Y 0)) (c := (Y 0)) rfl rfl (wrap32i (by omega) (by omega)))
    (icCons (icOf (k := .i64) (k' := .i32) (n := (Y 0)) (c := (Y 0)) rfl rfl (wrap64 (by omega) (by omega)))
    (icCons (icOf (k := .i32) (k' := .i64) (n := (Y 0)) (c := (Y 0)) rfl rfl (wrap32i (by omega) (by omega)))
    (icCons (icOf (k := .i64) (k' := .i32) (n := (Y 0)) (c := (Y 0)) rfl rfl (wrap64 (by omega) (by omega)))
    (icCons (icOf (k := .i32) (k' := .i64) (n := (Y 0 * 7)) (c := (mv Y 1)) rfl rfl rfl)
    (icCons (icOf (k := .i64) (k' := .i32) (n := (mv Y 1)) (c := (mv Y 1)) rfl rfl (wrap64 (by omega) (by omega)))
    (icCons (icOf (k := .i64) (k' := .u64) (n := (Y 1)) (c := (Y 1)) rfl rfl (wrap64 (by omega) (by omega)))
    (icCons (icOf (k := .i32) (k' := .i64) (n := (Y 1)) (c := (Y 1)) rfl rfl (wrap32i (by omega) (by omega)))
    (icCons (icOf (k := .i64) (k' := .i32) (n := (Y 1)) (c := (Y 1)) rfl rfl (wrap64 (by omega) (by omega)))
    (icCons (icOf (k := .i32) (k' := .i64) (n := (mv Y 1)) (c := (mv Y 1)) rfl rfl (wrap32i (by omega) (by omega)))
    (icCons (icOf (k := .i32) (k' := .i64) (n := (Y 1)) (c := (Y 1)) rfl rfl (wrap32i (by omega) (by omega)))
    (icCons (icOf (k := .i64) (k' := .i32) (n := (mv Y 1)) (c := (mv Y 1)) rfl rfl (wrap64 (by omega) (by omega)))
    (icCons (icOf (k := .i64) (k' := .i32) (n := (Y 1)) (c := (Y 1)) rfl rfl (wrap64 (by omega) (by omega)))
    (icCons (icOf (k := .i32) (k' := .i64) (n := (mv Y 1 + Y 1)) (c := (wv Y 2)) rfl rfl rfl)
    (icCons (icOf (k := .i64) (k' := .i32) (n := (wv Y 2)) (c := (wv Y 2)) rfl rfl (wrap64 (by omega) (by omega)))
    (icCons (icOf (k := .i32) (k' := .i64) (n := (wv Y 2)) (c := (wv Y 2)) rfl rfl (wrap32i (by omega) (by omega)))
    (icCons (icOf (k := .i64) (k' := .i32) (n := (wv Y 2)) (c := (wv Y 2)) rfl rfl (wrap64 (by omega) (by omega)))
    (icCons (icOf (k := .i32) (k' := .i64) (n := (wv Y 2 * 7)) (c := (mv Y 2)) rfl rfl rfl)
    (icCons (icOf (k := .i64) (k' := .i32) (n := (mv Y 2)) (c := (mv Y 2)) rfl rfl (wrap64 (by omega) (by omega)))
    (icCons (icOf (k := .i64) (k' := .u64) (n := (Y 2 + Y 3 * 4294967296)) (c := (Y 2 + Y 3 * 4294967296)) rfl rfl (wrap64 (by omega) (by omega)))
    (icCons (icOf (k := .i32) (k' := .i64) (n := (Y 2 + Y 3 * 4294967296)) (c := (Y 2)) rfl rfl (w32u (hY 2).1 (hY 2).2 (hY 3).1 (hY 3).2))
    (icCons (icOf (k := .i64) (k' := .i32) (n := (Y 2)) (c := (Y 2)) rfl rfl (wrap64 (by omega) (by omega)))
    (icCons (icOf (k := .i32) (k' := .i64) (n := (mv Y 2)) (c := (mv Y 2)) rfl rfl (wrap32i (by omega) (by omega)))
    (icCons (icOf (k := .i32) (k' := .i64) (n := (Y 2)) (c := (Y 2)) rfl rfl (wrap32i (by omega) (by omega)))
    (icCons (icOf (k := .i64) (k' := .i32) (n := (mv Y 2)) (c := (mv Y 2)) rfl rfl (wrap64 (by omega) (by omega)))
    (icCons (icOf (k := .i64) (k' := .i32) (n := (Y 2)) (c := (Y 2)) rfl rfl (wrap64 (by omega) (by omega)))
    (icCons (icOf (k := .i32) (k' := .i64) (n := (mv Y 2 + Y 2)) (c := (wv Y 3)) rfl rfl rfl)
    (icCons (icOf (k := .i64) (k' := .i32) (n := (wv Y 3)) (c := (wv Y 3)) rfl rfl (wrap64 (by omega) (by omega)))
    (icCons (icOf (k := .i32) (k' := .i64) (n := (wv Y 3)) (c := (wv Y 3)) rfl rfl (wrap32i (by omega) (by omega)))
    (icCons (icOf (k := .i64) (k' := .i32) (n := (wv Y 3)) (c := (wv Y 3)) rfl rfl (wrap64 (by omega) (by omega)))
    (icCons (icOf (k := .i32) (k' := .i64) (n := (wv Y 3 * 7)) (c := (mv Y 3)) rfl rfl rfl)
    (icCons (icOf (k := .i64) (k' := .i32) (n := (mv Y 3)) (c := (mv Y 3)) rfl rfl (wrap64 (by omega) (by omega)))
    (icCons (icOf (k := .i64) (k' := .u64) (n := (Y 3)) (c := (Y 3)) rfl rfl (wrap64 (by omega) (by omega)))
    (icCons (icOf (k := .i32) (k' := .i64) (n := (Y 3)) (c := (Y 3)) rfl rfl (wrap32i (by omega) (by omega)))
    (icCons (icOf (k := .i64) (k' := .i32) (n := (Y 3)) (c := (Y 3)) rfl rfl (wrap64 (by omega) (by omega)))
    (icCons (icOf (k := .i32) (k' := .i64) (n := (mv Y 3)) (c := (mv Y 3)) rfl rfl (wrap32i (by omega) (by omega)))
    (icCons (icOf (k := .i32) (k' := .i64) (n := (Y 3)) (c := (Y 3)) rfl rfl (wrap32i (by omega) (by omega)))
    (icCons (icOf (k := .i64) (k' := .i32) (n := (mv Y 3)) (c := (mv Y 3)) rfl rfl (wrap64 (by omega) (by omega)))
    (icCons (icOf (k := .i64) (k' := .i32) (n := (Y 3)) (c := (Y 3)) rfl rfl (wrap64 (by omega) (by omega)))
    (icCons (icOf (k := .i32) (k' := .i64) (n := (mv Y 3 + Y 3)) (c := (wv Y 4)) rfl rfl rfl)
    (icCons (icOf (k := .i64) (k' := .i32) (n := (wv Y 4)) (c := (wv Y 4)) rfl rfl (wrap64 (by omega) (by omega)))
    (icCons (icOf (k := .i32) (k' := .i64) (n := (wv Y 4)) (c := (wv Y 4)) rfl rfl (wrap32i (by omega) (by omega)))
    (icCons (icOf (k := .i64) (k' := .i32) (n := (wv Y 4)) (c := (wv Y 4)) rfl rfl (wrap64 (by omega) (by omega)))
    (icCons (icOf (k := .i32) (k' := .i64) (n := (wv Y 4 * 7)) (c := (mv Y 4)) rfl rfl rfl)
    (icCons (icOf (k := .i64) (k' := .i32) (n := (mv Y 4)) (c := (mv Y 4)) rfl rfl (wrap64 (by omega) (by omega)))
    (icCons (icOf (k := .i64) (k' := .u64) (n := (Y 4 + Y 5 * 4294967296)) (c := (Y 4 + Y 5 * 4294967296)) rfl rfl (wrap64 (by omega) (by omega)))
    (icCons (icOf (k := .i32) (k' := .i64) (n := (Y 4 + Y 5 * 4294967296)) (c := (Y 4)) rfl rfl (w32u (hY 4).1 (hY 4).2 (hY 5).1 (hY 5).2))
    (icCons (icOf (k := .i64) (k' := .i32) (n := (Y 4)) (c := (Y 4)) rfl rfl (wrap64 (by omega) (by omega)))
    (icCons (icOf (k := .i32) (k' := .i64) (n := (mv Y 4)) (c := (mv Y 4)) rfl rfl (wrap32i (by omega) (by omega)))
    (icCons (icOf (k := .i32) (k' := .i64) (n := (Y 4)) (c := (Y 4)) rfl rfl (wrap32i (by omega) (by omega)))
    (icCons (icOf (k := .i64) (k' := .i32) (n := (mv Y 4)) (c := (mv Y 4)) rfl rfl (wrap64 (by omega) (by omega)))
    (icCons (icOf (k := .i64) (k' := .i32) (n := (Y 4)) (c := (Y 4)) rfl rfl (wrap64 (by omega) (by omega)))
    (icCons (icOf (k := .i32) (k' := .i64) (n := (mv Y 4 + Y 4)) (c := (wv Y 5)) rfl rfl rfl)
    (icCons (icOf (k := .i64) (k' := .i32) (n := (wv Y 5)) (c := (wv Y 5)) rfl rfl (wrap64 (by omega) (by omega)))
    (icCons (icOf (k := .i32) (k' := .i64) (n := (wv Y 5)) (c := (wv Y 5)) rfl rfl (wrap32i (by omega) (by omega)))
    (icCons (icOf (k := .i64) (k' := .i32) (n := (wv Y 5)) (c := (wv Y 5)) rfl rfl (wrap64 (by omega) (by omega)))
    (icCons (icOf (k := .i32) (k' := .i64) (n := (wv Y 5 * 7)) (c := (mv Y 5)) rfl rfl rfl)
    (icCons (icOf (k := .i64) (k' := .i32) (n := (mv Y 5)) (c := (mv Y 5)) rfl rfl (wrap64 (by omega) (by omega)))
    (icCons (icOf (k := .i64) (k' := .u64) (n := (Y 5)) (c := (Y 5)) rfl rfl (wrap64 (by omega) (by omega)))
    (icCons (icOf (k := .i32) (k' := .i64) (n := (Y 5)) (c := (Y 5)) rfl rfl (wrap32i (by omega) (by omega)))
    (icCons (icOf (k := .i64) (k' := .i32) (n := (Y 5)) (c := (Y 5)) rfl rfl (wrap64 (by omega) (by omega)))
    (icCons (icOf (k := .i32) (k' := .i64) (n := (mv Y 5)) (c := (mv Y 5)) rfl rfl (wrap32i (by omega) (by omega)))
    (icCons (icOf (k := .i32) (k' := .i64) (n := (Y 5)) (c := (Y 5)) rfl rfl (wrap32i (by omega) (by omega)))
    (icCons (icOf (k := .i64) (k' := .i32) (n := (mv Y 5)) (c := (mv Y 5)) rfl rfl (wrap64 (by omega) (by omega)))
    (icCons (icOf (k := .i64) (k' := .i32) (n := (Y 5)) (c := (Y 5)) rfl rfl (wrap64 (by omega) (by omega)))
    (icCons (icOf (k := .i32) (k' := .i64) (n := (mv Y 5 + Y 5)) (c := (wv Y 6)) rfl rfl rfl)
    (icCons (icOf (k := .i64) (k' := .i32) (n := (wv Y 6)) (c := (wv Y 6)) rfl rfl (wrap64 (by omega) (by omega)))
    (icCons (icOf (k := .i32) (k' := .i64) (n := (wv Y 6)) (c := (wv Y 6)) rfl rfl (wrap32i (by omega) (by omega)))
    (icCons (icOf (k := .i64) (k' := .i32) (n := (wv Y 6)) (c := (wv Y 6)) rfl rfl (wrap64 (by omega) (by omega)))
    (icCons (icOf (k := .i32) (k' := .i64) (n := (wv Y 6 * 7)) (c := (mv Y 6)) rfl rfl rfl)
    (icCons (icOf (k := .i64) (k' := .i32) (n := (mv Y 6)) (c := (mv Y 6)) rfl rfl (wrap64 (by omega) (by omega)))
    (icCons (icOf (k := .i64) (k' := .u64) (n := (Y 6 + Y 7 * 4294967296)) (c := (Y 6 + Y 7 * 4294967296)) rfl rfl (wrap64 (by omega) (by omega)))
    (icCons (icOf (k := .i32) (k' := .i64) (n := (Y 6 + Y 7 * 4294967296)) (c := (Y 6)) rfl rfl (w32u (hY 6).1 (hY 6).2 (hY 7).1 (hY 7).2))
    (icCons (icOf (k := .i64) (k' := .i32) (n := (Y 6)) (c := (Y 6)) rfl rfl (wrap64 (by omega) (by omega)))
    (icCons (icOf (k := .i32) (k' := .i64) (n := (mv Y 6)) (c := (mv Y 6)) rfl rfl (wrap32i (by omega) (by omega)))
    (icCons (icOf (k := .i32) (k' := .i64) (n := (Y 6)) (c := (Y 6)) rfl rfl (wrap32i (by omega) (by omega)))
    (icCons (icOf (k := .i64) (k' := .i32) (n := (mv Y 6)) (c := (mv Y 6)) rfl rfl (wrap64 (by omega) (by omega)))
    (icCons (icOf (k := .i64) (k' := .i32) (n := (Y 6)) (c := (Y 6)) rfl rfl (wrap64 (by omega) (by omega)))
    (icCons (icOf (k := .i32) (k' := .i64) (n := (mv Y 6 + Y 6)) (c := (wv Y 7)) rfl rfl rfl)
    (icCons (icOf (k := .i64) (k' := .i32) (n := (wv Y 7)) (c := (wv Y 7)) rfl rfl (wrap64 (by omega) (by omega)))
    (icCons (icOf (k := .i32) (k' := .i64) (n := (wv Y 7)) (c := (wv Y 7)) rfl rfl (wrap32i (by omega) (by omega)))
    (icCons (icOf (k := .i64) (k' := .i32) (n := (wv Y 7)) (c := (wv Y 7)) rfl rfl (wrap64 (by omega) (by omega)))
    (icCons (icOf (k := .i32) (k' := .i64) (n := (wv Y 7 * 7)) (c := (mv Y 7)) rfl rfl rfl)
    (icCons (icOf (k := .i64) (k' := .i32) (n := (mv Y 7)) (c := (mv Y 7)) rfl rfl (wrap64 (by omega) (by omega)))
    (icCons (icOf (k := .i64) (k' := .u64) (n := (Y 7)) (c := (Y 7)) rfl rfl (wrap64 (by omega) (by omega)))
    (icCons (icOf (k := .i32) (k' := .i64) (n := (Y 7)) (c := (Y 7)) rfl rfl (wrap32i (by omega) (by omega)))
    (icCons (icOf (k := .i64) (k' := .i32) (n := (Y 7)) (c := (Y 7)) rfl rfl (wrap64 (by omega) (by omega)))
    (icCons (icOf (k := .i32) (k' := .i64) (n := (mv Y 7)) (c := (mv Y 7)) rfl rfl (wrap32i (by omega) (by omega)))
    (icCons (icOf (k := .i32) (k' := .i64) (n := (Y 7)) (c := (Y 7)) rfl rfl (wrap32i (by omega) (by omega)))
    (icCons (icOf (k := .i64) (k' := .i32) (n := (mv Y 7)) (c := (mv Y 7)) rfl rfl (wrap64 (by omega) (by omega)))
    (icCons (icOf (k := .i64) (k' := .i32) (n := (Y 7)) (c := (Y 7)) rfl rfl (wrap64 (by omega) (by omega)))
    (icCons (icOf (k := .i32) (k' := .i64) (n := (mv Y 7 + Y 7)) (c := (wv Y 8)) rfl rfl rfl)
    (icCons (icOf (k := .i64) (k' := .i32) (n := (wv Y 8)) (c := (wv Y 8)) rfl rfl (wrap64 (by omega) (by omega)))
    (icCons (icOf (k := .i32) (k' := .i64) (n := (wv Y 8)) (c := (wv Y 8)) rfl rfl (wrap32i (by omega) (by omega)))
    (icCons (icOf (k := .i64) (k' := .i32) (n := (wv Y 8)) (c := (wv Y 8)) rfl rfl (wrap64 (by omega) (by omega)))
    (icCons (icOf (k := .i32) (k' := .i64) (n := (wv Y 8 * 7)) (c := (mv Y 8)) rfl rfl rfl)
    (icCons (icOf (k := .i64) (k' := .i32) (n := (mv Y 8)) (c := (mv Y 8)) rfl rfl (wrap64 (by omega) (by omega)))
    (icCons (icOf (k := .i64) (k' := .u64) (n := (Y 8 + Y 9 * 4294967296)) (c := (Y 8 + Y 9 * 4294967296)) rfl rfl (wrap64 (by omega) (by omega)))
    (icCons (icOf (k := .i32) (k' := .i64) (n := (Y 8 + Y 9 * 4294967296)) (c := (Y 8)) rfl rfl (w32u (hY 8).1 (hY 8).2 (hY 9).1 (hY 9).2))
    (icCons (icOf (k := .i64) (k' := .i32) (n := (Y 8)) (c := (Y 8)) rfl rfl (wrap64 (by omega) (by omega)))
    (icCons (icOf (k := .i32) (k' := .i64) (n := (mv Y 8)) (c := (mv Y 8)) rfl rfl (wrap32i (by omega) (by omega)))
    (icCons (icOf (k := .i32) (k' := .i64) (n := (Y 8)) (c := (Y 8)) rfl rfl (wrap32i (by omega) (by omega)))
    (icCons (icOf (k := .i64) (k' := .i32) (n := (mv Y 8)) (c := (mv Y 8)) rfl rfl (wrap64 (by omega) (by omega)))
    (icCons (icOf (k := .i64) (k' := .i32) (n := (Y 8)) (c := (Y 8)) rfl rfl (wrap64 (by omega) (by omega)))
    (icCons (icOf (k := .i32) (k' := .i64) (n := (mv Y 8 + Y 8)) (c := (wv Y 9)) rfl rfl rfl)
    (icCons (icOf (k := .i64) (k' := .i32) (n := (wv Y 9)) (c := (wv Y 9)) rfl rfl (wrap64 (by omega) (by omega)))
    (icCons (icOf (k := .i32) (k' := .i64) (n := (wv Y 9)) (c := (wv Y 9)) rfl rfl (wrap32i (by omega) (by omega)))
    (icCons (icOf (k := .i64) (k' := .i32) (n := (wv Y 9)) (c := (wv Y 9)) rfl rfl (wrap64 (by omega) (by omega)))
    (icCons (icOf (k := .i32) (k' := .i64) (n := (wv Y 9 * 7)) (c := (mv Y 9)) rfl rfl rfl)
    (icCons (icOf (k := .i64) (k' := .i32) (n := (mv Y 9)) (c := (mv Y 9)) rfl rfl (wrap64 (by omega) (by omega)))
    (icCons (icOf (k := .i64) (k' := .u64) (n := (Y 9)) (c := (Y 9)) rfl rfl (wrap64 (by omega) (by omega)))
    (icCons (icOf (k := .i32) (k' := .i64) (n := (Y 9)) (c := (Y 9)) rfl rfl (wrap32i (by omega) (by omega)))
    (icCons (icOf (k := .i64) (k' := .i32) (n := (Y 9)) (c := (Y 9)) rfl rfl (wrap64 (by omega) (by omega)))
    (icCons (icOf (k := .i32) (k' := .i64) (n := (mv Y 9)) (c := (mv Y 9)) rfl rfl (wrap32i (by omega) (by omega)))
    (icCons (icOf (k := .i32) (k' := .i64) (n := (Y 9)) (c := (Y 9)) rfl rfl (wrap32i (by omega) (by omega)))
    (icCons (icOf (k := .i64) (k' := .i32) (n := (mv Y 9)) (c := (mv Y 9)) rfl rfl (wrap64 (by omega) (by omega)))
    (icCons (icOf (k := .i64) (k' := .i32) (n := (Y 9)) (c := (Y 9)) rfl rfl (wrap64 (by omega) (by omega)))
    (icCons (icOf (k := .i32) (k' := .i64) (n := (mv Y 9 + Y 9)) (c := (wv Y 10)) rfl rfl rfl)
    (icCons (icOf (k := .i64) (k' := .i32) (n := (wv Y 10)) (c := (wv Y 10)) rfl rfl (wrap64 (by omega) (by omega)))
    icNil)))))))))))))))))))))))))))))))))))))))))))))))))))))))))))))))))))))))))))))))))))))))))))))))))))))))))))))))))))))))))))))))))))))))))))
abbrev R0 {a0 a1 a2 f t n : Int} {Y : Nat → Int} (hf : -1 ≤ f ∧ f ≤ 10) (ht : -1 ≤ t ∧ t ≤ 10) (hn : -1 ≤ n ∧ n ≤ 10) (hY : ∀ i, 0 ≤ Y i ∧ Y i ≤ 100) : VRows (iv a0 a1 a2 f t n Y) noV noK where
  vvp := noVp
  ib := ibL0
  ibok := ib0 hf ht hn hY
  ic := icL0
  icok := ic0 hf ht hn hY
abbrev T0 {a0 a1 a2 f t n : Int} {Y : Nat → Int} (hf : -1 ≤ f ∧ f ≤ 10) (ht : -1 ≤ t ∧ t ≤ 10) (hn : -1 ≤ n ∧ n ≤ 10) (hY : ∀ i, 0 ≤ Y i ∧ Y i ≤ 100) : Tab := (R0 (a0 := a0) (a1 := a1) (a2 := a2) (f := f) (t := t) (n := n) (Y := Y) hf ht hn hY).tab
abbrev ibL1 : List BRow := [(1, .oi 3, .int .i64 1, .oi 4), (1, .oi 5, .int .i64 1, .oi 6), (1, .oi 7, .int .i64 1, .oi 8), (16, .oi 4, .int .u64 8, .oi 9), (16, .oi 6, .int .u64 8, .oi 12), (16, .oi 8, .int .u64 8, .oi 15), (15, .oi 19, .int .u64 8, .oi 20), (6, .oi 20, .oi 21, .oi 22), (15, .oi 24, .int .u64 8, .oi 25), (6, .oi 25, .oi 26, .oi 27), (15, .oi 29, .int .u64 8, .oi 30), (6, .oi 30, .oi 31, .oi 32), (11, .oi 22, .int .i64 0, .bool true), (11, .oi 4, .int .i64 0, .bool true)]
abbrev icL1 : List (IntKind × AV × AV) := [(.u8, .oi 9, .oi 10), (.u8, .oi 4, .oi 11), (.u8, .oi 12, .oi 13), (.u8, .oi 6, .oi 14), (.u8, .oi 15, .oi 16), (.u8, .oi 8, .oi 17), (.i8, .oi 10, .oi 18), (.i64, .oi 18, .oi 19), (.i64, .oi 11, .oi 21), (.i8, .oi 13, .oi 23), (.i64, .oi 23, .oi 24), (.i64, .oi 14, .oi 26), (.i8, .oi 16, .oi 28), (.i64, .oi 28, .oi 29), (.i64, .oi 17, .oi 31)]
theorem ib1 {a0 a1 a2 f t n : Int} {Y : Nat → Int} (hf : -1 ≤ f ∧ f ≤ 10) (ht : -1 ≤ t ∧ t ≤ 10) (hn : -1 ≤ n ∧ n ≤ 10) (c : f < 0) : ∀ x_ ∈ ibL1, IbOk (iv a0 a1 a2 f t n Y) x_ := by
  letI := Tab.empty
  exact (ibCons (ibSub (a := (f + 1)) (b := (1 : Int)) (c := f) rfl rfl rfl (by omega) (by omega) (by omega))
    (ibCons (ibSub (a := (t + 1)) (b := (1 : Int)) (c := t) rfl rfl rfl (by omega) (by omega) (by omega))
    (ibCons (ibSub (a := (n + 1)) (b := (1 : Int)) (c := n) rfl rfl rfl (by omega) (by omega) (by omega))
    (ibCons (ibShr (k := .i64) (k' := .u64) (a := f) (b := 8) (c := (f / 256)) rfl rfl rfl (by decide) (shr_is (by decide) (by decide)))
    (ibCons (ibShr (k := .i64) (k' := .u64) (a := t) (b := 8) (c := (t / 256)) rfl rfl rfl (by decide) (shr_is (by decide) (by decide)))
    (ibCons (ibShr (k := .i64) (k' := .u64) (a := n) (b := 8) (c := (n / 256)) rfl rfl rfl (by decide) (shr_is (by decide) (by decide)))
    (ibCons (ibShl (k := .i64) (k' := .u64) (a := (f / 256)) (b := 8) (c := (f / 256 * 256)) rfl rfl rfl (by decide) (show IntKind.i64.wrap ((f / 256) * 256) = _ from wrap64 (by omega) (by omega)))
    (ibCons (ibOr (k := .i64) (a := (f / 256 * 256)) (b := (f % 256)) (c := f) rfl rfl rfl ((or_add 8 (by omega) (by omega) (by omega) (by decide) (by omega) (by omega)).trans (by omega)))
    (ibCons (ibShl (k := .i64) (k' := .u64) (a := (t / 256)) (b := 8) (c := (t / 256 * 256)) rfl rfl rfl (by decide) (show IntKind.i64.wrap ((t / 256) * 256) = _ from wrap64 (by omega) (by omega)))
    (ibCons (ibOr (k := .i64) (a := (t / 256 * 256)) (b := (t % 256)) (c := t) rfl rfl rfl ((or_add 8 (by omega) (by omega) (by omega) (by decide) (by omega) (by omega)).trans (by omega)))
    (ibCons (ibShl (k := .i64) (k' := .u64) (a := (n / 256)) (b := 8) (c := (n / 256 * 256)) rfl rfl rfl (by decide) (show IntKind.i64.wrap ((n / 256) * 256) = _ from wrap64 (by omega) (by omega)))
    (ibCons (ibOr (k := .i64) (a := (n / 256 * 256)) (b := (n % 256)) (c := n) rfl rfl rfl ((or_add 8 (by omega) (by omega) (by omega) (by decide) (by omega) (by omega)).trans (by omega)))
    (ibCons (ibLt (a := f) (b := (0 : Int)) rfl rfl (decide_eq_true (by omega)))
    (ibCons (ibLt (a := f) (b := (0 : Int)) rfl rfl (decide_eq_true (by omega)))
    ibNil))))))))))))))
theorem ic1 {a0 a1 a2 f t n : Int} {Y : Nat → Int} (hf : -1 ≤ f ∧ f ≤ 10) (ht : -1 ≤ t ∧ t ≤ 10) (hn : -1 ≤ n ∧ n ≤ 10) (c : f < 0) : ∀ x_ ∈ icL1, IcOk' (iv a0 a1 a2 f t n Y) x_ := by
  exact (icCons (icOf (k := .u8) (k' := .i64) (n := (f / 256)) (c := (f / 256 % 256)) rfl rfl (u8w _))
    (icCons (icOf (k := .u8) (k' := .i64) (n := f) (c := (f % 256)) rfl rfl (u8w _))
    (icCons (icOf (k := .u8) (k' := .i64) (n := (t / 256)) (c := (t / 256 % 256)) rfl rfl (u8w _))
    (icCons (icOf (k := .u8) (k' := .i64) (n := t) (c := (t % 256)) rfl rfl (u8w _))
    (icCons (icOf (k := .u8) (k' := .i64) (n := (n / 256)) (c := (n / 256 % 256)) rfl rfl (u8w _))
    (icCons (icOf (k := .u8) (k' := .i64) (n := n) (c := (n % 256)) rfl rfl (u8w _))
    (icCons (icOf (k := .i8) (k' := .u8) (n := (f / 256 % 256)) (c := (f / 256)) rfl rfl (i8w (by omega) (by omega)))
    (icCons (icOf (k := .i64) (k' := .i8) (n := (f / 256)) (c := (f / 256)) rfl rfl (wrap64 (by omega) (by omega)))
    (icCons (icOf (k := .i64) (k' := .u8) (n := (f % 256)) (c := (f % 256)) rfl rfl (wrap64 (by omega) (by omega)))
    (icCons (icOf (k := .i8) (k' := .u8) (n := (t / 256 % 256)) (c := (t / 256)) rfl rfl (i8w (by omega) (by omega)))
    (icCons (icOf (k := .i64) (k' := .i8) (n := (t / 256)) (c := (t / 256)) rfl rfl (wrap64 (by omega) (by omega)))
    (icCons (icOf (k := .i64) (k' := .u8) (n := (t % 256)) (c := (t % 256)) rfl rfl (wrap64 (by omega) (by omega)))
    (icCons (icOf (k := .i8) (k' := .u8) (n := (n / 256 % 256)) (c := (n / 256)) rfl rfl (i8w (by omega) (by omega)))
    (icCons (icOf (k := .i64) (k' := .i8) (n := (n / 256)) (c := (n / 256)) rfl rfl (wrap64 (by omega) (by omega)))
    (icCons (icOf (k := .i64) (k' := .u8) (n := (n % 256)) (c := (n % 256)) rfl rfl (wrap64 (by omega) (by omega)))
    icNil)))))))))))))))
abbrev R1 {a0 a1 a2 f t n : Int} {Y : Nat → Int} (hf : -1 ≤ f ∧ f ≤ 10) (ht : -1 ≤ t ∧ t ≤ 10) (hn : -1 ≤ n ∧ n ≤ 10) (c : f < 0) : VRows (iv a0 a1 a2 f t n Y) noV noK where
  vvp := noVp
  ib := ibL1
  ibok := ib1 hf ht hn c
  ic := icL1
  icok := ic1 hf ht hn c
abbrev T1 {a0 a1 a2 f t n : Int} {Y : Nat → Int} (hf : -1 ≤ f ∧ f ≤ 10) (ht : -1 ≤ t ∧ t ≤ 10) (hn : -1 ≤ n ∧ n ≤ 10) (c : f < 0) : Tab := (R1 (a0 := a0) (a1 := a1) (a2 := a2) (f := f) (t := t) (n := n) (Y := Y) hf ht hn c).tab
abbrev ibL2 : List BRow := [(1, .oi 3, .int .i64 1, .oi 4), (1, .oi 5, .int .i64 1, .oi 6), (1, .oi 7, .int .i64 1, .oi 8), (16, .oi 4, .int .u64 8, .oi 9), (16, .oi 6, .int .u64 8, .oi 12), (16, .oi 8, .int .u64 8, .oi 15), (15, .oi 19, .int .u64 8, .oi 20), (6, .oi 20, .oi 21, .oi 22), (15, .oi 24, .int .u64 8, .oi 25), (6, .oi 25, .oi 26, .oi 27), (15, .oi 29, .int .u64 8, .oi 30), (6, .oi 30, .oi 31, .oi 32), (11, .oi 22, .int .i64 0, .bool false), (11, .oi 27, .int .i64 0, .bool true), (11, .oi 4, .int .i64 0, .bool false), (11, .oi 6, .int .i64 0, .bool true)]
abbrev icL2 : List (IntKind × AV × AV) := [(.u8, .oi 9, .oi 10), (.u8, .oi 4, .oi 11), (.u8, .oi 12, .oi 13), (.u8, .oi 6, .oi 14), (.u8, .oi 15, .oi 16), (.u8, .oi 8, .oi 17), (.i8, .oi 10, .oi 18), (.i64, .oi 18, .oi 19), (.i64, .oi 11, .oi 21), (.i8, .oi 13, .oi 23), (.i64, .oi 23, .oi 24), (.i64, .oi 14, .oi 26), (.i8, .oi 16, .oi 28), (.i64, .oi 28, .oi 29), (.i64, .oi 17, .oi 31)]
theorem ib2 {a0 a1 a2 f t n : Int} {Y : Nat → Int} (hf : -1 ≤ f ∧ f ≤ 10) (ht : -1 ≤ t ∧ t ≤ 10) (hn : -1 ≤ n ∧ n ≤ 10) (c0 : 0 ≤ f) (c : t < 0) : ∀ x_ ∈ ibL2, IbOk (iv a0 a1 a2 f t n Y) x_ := by
  letI := Tab.empty
  exact (ibCons (ibSub (a := (f + 1)) (b := (1 : Int)) (c := f) rfl rfl rfl (by omega) (by omega) (by omega))
    (ibCons (ibSub (a := (t + 1)) (b := (1 : Int)) (c := t) rfl rfl rfl (by omega) (by omega) (by omega))
    (ibCons (ibSub (a := (n + 1)) (b := (1 : Int)) (c := n) rfl rfl rfl (by omega) (by omega) (by omega))
    (ibCons (ibShr (k := .i64) (k' := .u64) (a := f) (b := 8) (c := (f / 256)) rfl rfl rfl (by decide) (shr_is (by decide) (by decide)))
    (ibCons (ibShr (k := .i64) (k' := .u64) (a := t) (b := 8) (c := (t / 256)) rfl rfl rfl (by decide) (shr_is (by decide) (by decide)))
    (ibCons (ibShr (k := .i64) (k' := .u64) (a := n) (b := 8) (c := (n / 256)) rfl rfl rfl (by decide) (shr_is (by decide) (by decide)))
    (ibCons (ibShl (k := .i64) (k' := .u64) (a := (f / 256)) (b := 8) (c := (f / 256 * 256)) rfl rfl rfl (by decide) (show IntKind.i64.wrap ((f / 256) * 256) = _ from wrap64 (by omega) (by omega)))
    (ibCons (ibOr (k := .i64) (a := (f / 256 * 256)) (b := (f % 256)) (c := f) rfl rfl rfl ((or_add 8 (by omega) (by omega) (by omega) (by decide) (by omega) (by omega)).trans (by omega)))
    (ibCons (ibShl (k := .i64) (k' := .u64) (a := (t / 256)) (b := 8) (c := (t / 256 * 256)) rfl rfl rfl (by decide) (show IntKind.i64.wrap ((t / 256) * 256) = _ from wrap64 (by omega) (by omega)))
    (ibCons (ibOr (k := .i64) (a := (t / 256 * 256)) (b := (t % 256)) (c := t) rfl rfl rfl ((or_add 8 (by omega) (by omega) (by omega) (by decide) (by omega) (by omega)).trans (by omega)))
    (ibCons (ibShl (k := .i64) (k' := .u64) (a := (n / 256)) (b := 8) (c := (n / 256 * 256)) rfl rfl rfl (by decide) (show IntKind.i64.wrap ((n / 256) * 256) = _ from wrap64 (by omega) (by omega)))
    (ibCons (ibOr (k := .i64) (a := (n / 256 * 256)) (b := (n % 256)) (c := n) rfl rfl rfl ((or_add 8 (by omega) (by omega) (by omega) (by decide) (by omega) (by omega)).trans (by omega)))
    (ibCons (ibLt (a := f) (b := (0 : Int)) rfl rfl (decide_eq_false (by omega)))
    (ibCons (ibLt (a := t) (b := (0 : Int)) rfl rfl (decide_eq_true (by omega)))
    (ibCons (ibLt (a := f) (b := (0 : Int)) rfl rfl (decide_eq_false (by omega)))
    (ibCons (ibLt (a := t) (b := (0 : Int)) rfl rfl (decide_eq_true (by omega)))
    ibNil))))))))))))))))
theorem ic2 {a0 a1 a2 f t n : Int} {Y : Nat → Int} (hf : -1 ≤ f ∧ f ≤ 10) (ht : -1 ≤ t ∧ t ≤ 10) (hn : -1 ≤ n ∧ n ≤ 10) (c0 : 0 ≤ f) (c : t < 0) : ∀ x_ ∈ icL2, IcOk' (iv a0 a1 a2 f t n Y) x_ := by
  exact (icCons (icOf (k := .u8) (k' := .i64) (n := (f / 256)) (c := (f / 256 % 256)) rfl rfl (u8w _))
    (icCons (icOf (k := .u8) (k' := .i64) (n := f) (c := (f % 256)) rfl rfl (u8w _))
    (icCons (icOf (k := .u8) (k' := .i64) (n := (t / 256)) (c := (t / 256 % 256)) rfl rfl (u8w _))
    (icCons (icOf (k := .u8) (k' := .i64) (n := t) (c := (t % 256)) rfl rfl (u8w _))
    (icCons (icOf (k := .u8) (k' := .i64) (n := (n / 256)) (c := (n / 256 % 256)) rfl rfl (u8w _))
    (icCons (icOf (k := .u8) (k' := .i64) (n := n) (c := (n % 256)) rfl rfl (u8w _))
    (icCons (icOf (k := .i8) (k' := .u8) (n := (f / 256 % 256)) (c := (f / 256)) rfl rfl (i8w (by omega) (by omega)))
    (icCons (icOf (k := .i64) (k' := .i8) (n := (f / 256)) (c := (f / 256)) rfl rfl (wrap64 (by omega) (by omega)))
    (icCons (icOf (k := .i64) (k' := .u8) (n := (f % 256)) (c := (f % 256)) rfl rfl (wrap64 (by omega) (by omega)))
    (icCons (icOf (k := .i8) (k' := .u8) (n := (t / 256 % 256)) (c := (t / 256)) rfl rfl (i8w (by omega) (by omega)))
    (icCons (icOf (k := .i64) (k' := .i8) (n := (t / 256)) (c := (t / 256)) rfl rfl (wrap64 (by omega) (by omega)))
    (icCons (icOf (k := .i64) (k' := .u8) (n := (t % 256)) (c := (t % 256)) rfl rfl (wrap64 (by omega) (by omega)))
    (icCons (icOf (k := .i8) (k' := .u8) (n := (n / 256 % 256)) (c := (n / 256)) rfl rfl (i8w (by omega) (by omega)))
    (icCons (icOf (k := .i64) (k' := .i8) (n := (n / 256)) (c := (n / 256)) rfl rfl (wrap64 (by omega) (by omega)))
    (icCons (icOf (k := .i64) (k' := .u8) (n := (n % 256)) (c := (n % 256)) rfl rfl (wrap64 (by omega) (by omega)))
    icNil)))))))))))))))
abbrev R2 {a0 a1 a2 f t n : Int} {Y : Nat → Int} (hf : -1 ≤ f ∧ f ≤ 10) (ht : -1 ≤ t ∧ t ≤ 10) (hn : -1 ≤ n ∧ n ≤ 10) (c0 : 0 ≤ f) (c : t < 0) : VRows (iv a0 a1 a2 f t n Y) noV noK where
  vvp := noVp
  ib := ibL2
  ibok := ib2 hf ht hn c0 c
  ic := icL2
  icok := ic2 hf ht hn c0 c
abbrev T2 {a0 a1 a2 f t n : Int} {Y : Nat → Int} (hf : -1 ≤ f ∧ f ≤ 10) (ht : -1 ≤ t ∧ t ≤ 10) (hn : -1 ≤ n ∧ n ≤ 10) (c0 : 0 ≤ f) (c : t < 0) : Tab := (R2 (a0 := a0) (a1 := a1) (a2 := a2) (f := f) (t := t) (n := n) (Y := Y) hf ht hn c0 c).tab
abbrev ibL3 : List BRow := [(1, .oi 3, .int .i64 1, .oi 4), (1, .oi 5, .int .i64 1, .oi 6), (1, .oi 7, .int .i64 1, .oi 8), (16, .oi 4, .int .u64 8, .oi 9), (16, .oi 6, .int .u64 8, .oi 12), (16, .oi 8, .int .u64 8, .oi 15), (15, .oi 19, .int .u64 8, .oi 20), (6, .oi 20, .oi 21, .oi 22), (15, .oi 24, .int .u64 8, .oi 25), (6, .oi 25, .oi 26, .oi 27), (15, .oi 29, .int .u64 8, .oi 30), (6, .oi 30, .oi 31, .oi 32), (11, .oi 22, .int .i64 0, .bool false), (11, .oi 27, .int .i64 0, .bool false), (11, .oi 32, .int .i64 0, .bool true), (11, .oi 4, .int .i64 0, .bool false), (11, .oi 6, .int .i64 0, .bool false), (11, .oi 8, .int .i64 0, .bool true)]
abbrev icL3 : List (IntKind × AV × AV) := [(.u8, .oi 9, .oi 10), (.u8, .oi 4, .oi 11), (.u8, .oi 12, .oi 13), (.u8, .oi 6, .oi 14), (.u8, .oi 15, .oi 16), (.u8, .oi 8, .oi 17), (.i8, .oi 10, .oi 18), (.i64, .oi 18, .oi 19), (.i64, .oi 11, .oi 21), (.i8, .oi 13, .oi 23), (.i64, .oi 23, .oi 24), (.i64, .oi 14, .oi 26), (.i8, .oi 16, .oi 28), (.i64, .oi 28, .oi 29), (.i64, .oi 17, .oi 31)]
theorem ib3 {a0 a1 a2 f t n : Int} {Y : Nat → Int} (hf : -1 ≤ f ∧ f ≤ 10) (ht : -1 ≤ t ∧ t ≤ 10) (hn : -1 ≤ n ∧ n ≤ 10) (c0 : 0 ≤ f) (c1 : 0 ≤ t) (c : n < 0) : ∀ x_ ∈ ibL3, IbOk (iv a0 a1 a2 f t n Y) x_ := by
  letI := Tab.empty
  exact (ibCons (ibSub (a := (f + 1)) (b := (1 : Int)) (c := f) rfl rfl rfl (by omega) (by omega) (by omega))
    (ibCons (ibSub (a := (t + 1)) (b := (1 : Int)) (c := t) rfl rfl rfl (by omega) (by omega) (by omega))
    (ibCons (ibSub (a := (n + 1)) (b := (1 : Int)) (c := n) rfl rfl rfl (by omega) (by omega) (by omega))
    (ibCons (ibShr (k := .i64) (k' := .u64) (a := f) (b := 8) (c := (f / 256)) rfl rfl rfl (by decide) (shr_is (by decide) (by decide)))
    (ibCons (ibShr (k := .i64) (k' := .u64) (a := t) (b := 8) (c := (t / 256)) rfl rfl rfl (by decide) (shr_is (by decide) (by decide)))
    (ibCons (ibShr (k := .i64) (k' := .u64) (a := n) (b := 8) (c := (n / 256)) rfl rfl rfl (by decide) (shr_is (by decide) (by decide)))
    (ibCons (ibShl (k := .i64) (k' := .u64) (a := (f / 256)) (b := 8) (c := (f / 256 * 256)) rfl rfl rfl (by decide) (show IntKind.i64.wrap ((f / 256) * 256) = _ from wrap64 (by omega) (by omega)))
    (ibCons (ibOr (k := .i64) (a := (f / 256 * 256)) (b := (f % 256)) (c := f) rfl rfl rfl ((or_add 8 (by omega) (by omega) (by omega) (by decide) (by omega) (by omega)).trans (by omega)))
    (ibCons (ibShl (k := .i64) (k' := .u64) (a := (t / 256)) (b := 8) (c := (t / 256 * 256)) rfl rfl rfl (by decide) (show IntKind.i64.wrap ((t / 256) * 256) = _ from wrap64 (by omega) (by omega)))
    (ibCons (ibOr (k := .i64) (a := (t / 256 * 256)) (b := (t % 256)) (c := t) rfl rfl rfl ((or_add 8 (by omega) (by omega) (by omega) (by decide) (by omega) (by omega)).trans (by omega)))
    (ibCons (ibShl (k := .i64) (k' := .u64) (a := (n / 256)) (b := 8) (c := (n / 256 * 256)) rfl rfl rfl (by decide) (show IntKind.i64.wrap ((n / 256) * 256) = _ from wrap64 (by omega) (by omega)))
    (ibCons (ibOr (k := .i64) (a := (n / 256 * 256)) (b := (n % 256)) (c := n) rfl rfl rfl ((or_add 8 (by omega) (by omega) (by omega) (by decide) (by omega) (by omega)).trans (by omega)))
    (ibCons (ibLt (a := f) (b := (0 : Int)) rfl rfl (decide_eq_false (by omega)))
    (ibCons (ibLt (a := t) (b := (0 : Int)) rfl rfl (decide_eq_false (by omega)))
    (ibCons (ibLt (a := n) (b := (0 : Int)) rfl rfl (decide_eq_true (by omega)))
    (ibCons (ibLt (a := f) (b := (0 : Int)) rfl rfl (decide_eq_false (by omega)))
    (ibCons (ibLt (a := t) (b := (0 : Int)) rfl rfl (decide_eq_false (by omega)))
    (ibCons (ibLt (a := n) (b := (0 : Int)) rfl rfl (decide_eq_true (by omega)))
    ibNil))))))))))))))))))
theorem ic3 {a0 a1 a2 f t n : Int} {Y : Nat → Int} (hf : -1 ≤ f ∧ f ≤ 10) (ht : -1 ≤ t ∧ t ≤ 10) (hn : -1 ≤ n ∧ n ≤ 10) (c0 : 0 ≤ f) (c1 : 0 ≤ t) (c : n < 0) : ∀ x_ ∈ icL3, IcOk' (iv a0 a1 a2 f t n Y) x_ := by
  exact (icCons (icOf (k := .u8) (k' := .i64) (n := (f / 256)) (c := (f / 256 % 256)) rfl rfl (u8w _))
    (icCons (icOf (k := .u8) (k' := .i64) (n := f) (c := (f % 256)) rfl rfl (u8w _))
    (icCons (icOf (k := .u8) (k' := .i64) (n := (t / 256)) (c := (t / 256 % 256)) rfl rfl (u8w _))
    (icCons (icOf (k := .u8) (k' := .i64) (n := t) (c := (t % 256)) rfl rfl (u8w _))
    (icCons (icOf (k := .u8) (k' := .i64) (n := (n / 256)) (c := (n / 256 % 256)) rfl rfl (u8w _))
    (icCons (icOf (k := .u8) (k' := .i64) (n := n) (c := (n % 256)) rfl rfl (u8w _))
    (icCons (icOf (k := .i8) (k' := .u8) (n := (f / 256 % 256)) (c := (f / 256)) rfl rfl (i8w (by omega) (by omega)))
    (icCons (icOf (k := .i64) (k' := .i8) (n := (f / 256)) (c := (f / 256)) rfl rfl (wrap64 (by omega) (by omega)))
    (icCons (icOf (k := .i64) (k' := .u8) (n := (f % 256)) (c := (f % 256)) rfl rfl (wrap64 (by omega) (by omega)))
    (icCons (icOf (k := .i8) (k' := .u8) (n := (t / 256 % 256)) (c := (t / 256)) rfl rfl (i8w (by omega) (by omega)))
    (icCons (icOf (k := .i64) (k' := .i8) (n := (t / 256)) (c := (t / 256)) rfl rfl (wrap64 (by omega) (by omega)))
    (icCons (icOf (k := .i64) (k' := .u8) (n := (t % 256)) (c := (t % 256)) rfl rfl (wrap64 (by omega) (by omega)))
    (icCons (icOf (k := .i8) (k' := .u8) (n := (n / 256 % 256)) (c := (n / 256)) rfl rfl (i8w (by omega) (by omega)))
    (icCons (icOf (k := .i64) (k' := .i8) (n := (n / 256)) (c := (n / 256)) rfl rfl (wrap64 (by omega) (by omega)))
    (icCons (icOf (k := .i64) (k' := .u8) (n := (n % 256)) (c := (n % 256)) rfl rfl (wrap64 (by omega) (by omega)))
    icNil)))))))))))))))
abbrev R3 {a0 a1 a2 f t n : Int} {Y : Nat → Int} (hf : -1 ≤ f ∧ f ≤ 10) (ht : -1 ≤ t ∧ t ≤ 10) (hn : -1 ≤ n ∧ n ≤ 10) (c0 : 0 ≤ f) (c1 : 0 ≤ t) (c : n < 0) : VRows (iv a0 a1 a2 f t n Y) noV noK where
  vvp := noVp
  ib := ibL3
  ibok := ib3 hf ht hn c0 c1 c
  ic := icL3
  icok := ic3 hf ht hn c0 c1 c
abbrev T3 {a0 a1 a2 f t n : Int} {Y : Nat → Int} (hf : -1 ≤ f ∧ f ≤ 10) (ht : -1 ≤ t ∧ t ≤ 10) (hn : -1 ≤ n ∧ n ≤ 10) (c0 : 0 ≤ f) (c1 : 0 ≤ t) (c : n < 0) : Tab := (R3 (a0 := a0) (a1 := a1) (a2 := a2) (f := f) (t := t) (n := n) (Y := Y) hf ht hn c0 c1 c).tab
abbrev ibL4 : List BRow := [(1, .oi 3, .int .i64 1, .oi 4), (1, .oi 5, .int .i64 1, .oi 6), (1, .oi 7, .int .i64 1, .oi 8), (16, .oi 4, .int .u64 8, .oi 9), (16, .oi 6, .int .u64 8, .oi 12), (16, .oi 8, .int .u64 8, .oi 15), (15, .oi 19, .int .u64 8, .oi 20), (6, .oi 20, .oi 21, .oi 22), (15, .oi 24, .int .u64 8, .oi 25), (6, .oi 25, .oi 26, .oi 27), (15, .oi 29, .int .u64 8, .oi 30), (6, .oi 30, .oi 31, .oi 32), (11, .oi 22, .int .i64 0, .bool false), (11, .oi 27, .int .i64 0, .bool false), (11, .oi 32, .int .i64 0, .bool false), (1, .int .i64 10, .oi 22, .oi 240), (13, .oi 32, .oi 240, .bool true), (11, .oi 4, .int .i64 0, .bool false), (11, .oi 6, .int .i64 0, .bool false), (11, .oi 8, .int .i64 0, .bool false), (0, .oi 4, .oi 8, .oi 241), (13, .oi 241, .int .i64 10, .bool true)]
abbrev icL4 : List (IntKind × AV × AV) := [(.u8, .oi 9, .oi 10), (.u8, .oi 4, .oi 11), (.u8, .oi 12, .oi 13), (.u8, .oi 6, .oi 14), (.u8, .oi 15, .oi 16), (.u8, .oi 8, .oi 17), (.i8, .oi 10, .oi 18), (.i64, .oi 18, .oi 19), (.i64, .oi 11, .oi 21), (.i8, .oi 13, .oi 23), (.i64, .oi 23, .oi 24), (.i64, .oi 14, .oi 26), (.i8, .oi 16, .oi 28), (.i64, .oi 28, .oi 29), (.i64, .oi 17, .oi 31)]
theorem ib4 {a0 a1 a2 f t n : Int} {Y : Nat → Int} (hf : -1 ≤ f ∧ f ≤ 10) (ht : -1 ≤ t ∧ t ≤ 10) (hn : -1 ≤ n ∧ n ≤ 10) (c0 : 0 ≤ f) (c1 : 0 ≤ t) (c2 : 0 ≤ n) (c : 10 < f + n) : ∀ x_ ∈ ibL4, IbOk (iv a0 a1 a2 f t n Y) x_ := by
  letI := Tab.empty
  exact (ibCons (ibSub (a := (f + 1)) (b := (1 : Int)) (c := f) rfl rfl rfl (by omega) (by omega) (by omega))
    (ibCons (ibSub (a := (t + 1)) (b := (1 : Int)) (c := t) rfl rfl rfl (by omega) (by omega) (by omega))
    (ibCons (ibSub (a := (n + 1)) (b := (1 : Int)) (c := n) rfl rfl rfl (by omega) (by omega) (by omega))
    (ibCons (ibShr (k := .i64) (k' := .u64) (a := f) (b := 8) (c := (f / 256)) rfl rfl rfl (by decide) (shr_is (by decide) (by decide)))
    (ibCons (ibShr (k := .i64) (k' := .u64) (a := t) (b := 8) (c := (t / 256)) rfl rfl rfl (by decide) (shr_is (by decide) (by decide)))
    (ibCons (ibShr (k := .i64) (k' := .u64) (a := n) (b := 8) (c := (n / 256)) rfl rfl rfl (by decide) (shr_is (by decide) (by decide)))
    (ibCons (ibShl (k := .i64) (k' := .u64) (a := (f / 256)) (b := 8) (c := (f / 256 * 256)) rfl rfl rfl (by decide) (show IntKind.i64.wrap ((f / 256) * 256) = _ from wrap64 (by omega) (by omega)))
    (ibCons (ibOr (k := .i64) (a := (f / 256 * 256)) (b := (f % 256)) (c := f) rfl rfl rfl ((or_add 8 (by omega) (by omega) (by omega) (by decide) (by omega) (by omega)).trans (by omega)))
    (ibCons (ibShl (k := .i64) (k' := .u64) (a := (t / 256)) (b := 8) (c := (t / 256 * 256)) rfl rfl rfl (by decide) (show IntKind.i64.wrap ((t / 256) * 256) = _ from wrap64 (by omega) (by omega)))
    (ibCons (ibOr (k := .i64) (a := (t / 256 * 256)) (b := (t % 256)) (c := t) rfl rfl rfl ((or_add 8 (by omega) (by omega) (by omega) (by decide) (by omega) (by omega)).trans (by omega)))
    (ibCons (ibShl (k := .i64) (k' := .u64) (a := (n / 256)) (b := 8) (c := (n / 256 * 256)) rfl rfl rfl (by decide) (show IntKind.i64.wrap ((n / 256) * 256) = _ from wrap64 (by omega) (by omega)))
    (ibCons (ibOr (k := .i64) (a := (n / 256 * 256)) (b := (n % 256)) (c := n) rfl rfl rfl ((or_add 8 (by omega) (by omega) (by omega) (by decide) (by omega) (by omega)).trans (by omega)))
    (ibCons (ibLt (a := f) (b := (0 : Int)) rfl rfl (decide_eq_false (by omega)))
    (ibCons (ibLt (a := t) (b := (0 : Int)) rfl rfl (decide_eq_false (by omega)))
    (ibCons (ibLt (a := n) (b := (0 : Int)) rfl rfl (decide_eq_false (by omega)))
    (ibCons (ibSub (a := (10 : Int)) (b := f) (c := (10 - f)) rfl rfl rfl (by omega) (by omega) (by omega))
    (ibCons (ibGt (a := n) (b := (10 - f)) rfl rfl (decide_eq_true (by omega)))
    (ibCons (ibLt (a := f) (b := (0 : Int)) rfl rfl (decide_eq_false (by omega)))
    (ibCons (ibLt (a := t) (b := (0 : Int)) rfl rfl (decide_eq_false (by omega)))
    (ibCons (ibLt (a := n) (b := (0 : Int)) rfl rfl (decide_eq_false (by omega)))
    (ibCons (ibAdd (a := f) (b := n) (c := (f + n)) rfl rfl rfl (by omega) (by omega) (by omega))
    (ibCons (ibGt (a := (f + n)) (b := (10 : Int)) rfl rfl (decide_eq_true (by omega)))
    ibNil))))))))))))))))))))))
theorem ic4 {a0 a1 a2 f t n : Int} {Y : Nat → Int} (hf : -1 ≤ f ∧ f ≤ 10) (ht : -1 ≤ t ∧ t ≤ 10) (hn : -1 ≤ n ∧ n ≤ 10) (c0 : 0 ≤ f) (c1 : 0 ≤ t) (c2 : 0 ≤ n) (c : 10 < f + n) : ∀ x_ ∈ icL4, IcOk' (iv a0 a1 a2 f t n Y) x_ := by
  exact (icCons (icOf (k := .u8) (k' := .i64) (n := (f / 256)) (c := (f / 256 % 256)) rfl rfl (u8w _))
    (icCons (icOf (k := .u8) (k' := .i64) (n := f) (c := (f % 256)) rfl rfl (u8w _))
    (icCons (icOf (k := .u8) (k' := .i64) (n := (t / 256)) (c := (t / 256 % 256)) rfl rfl (u8w _))
    (icCons (icOf (k := .u8) (k' := .i64) (n := t) (c := (t % 256)) rfl rfl (u8w _))
    (icCons (icOf (k := .u8) (k' := .i64) (n := (n / 256)) (c := (n / 256 % 256)) rfl rfl (u8w _))
    (icCons (icOf (k := .u8) (k' := .i64) (n := n) (c := (n % 256)) rfl rfl (u8w _))
    (icCons (icOf (k := .i8) (k' := .u8) (n := (f / 256 % 256)) (c := (f / 256)) rfl rfl (i8w (by omega) (by omega)))
    (icCons (icOf (k := .i64) (k' := .i8) (n := (f / 256)) (c := (f / 256)) rfl rfl (wrap64 (by omega) (by omega)))
    (icCons (icOf (k := .i64) (k' := .u8) (n := (f % 256)) (c := (f % 256)) rfl rfl (wrap64 (by omega) (by omega)))
    (icCons (icOf (k := .i8) (k' := .u8) (n := (t / 256 % 256)) (c := (t / 256)) rfl rfl (i8w (by omega) (by omega)))
    (icCons (icOf (k := .i64) (k' := .i8) (n := (t / 256)) (c := (t / 256)) rfl rfl (wrap64 (by omega) (by omega)))
    (icCons (icOf (k := .i64) (k' := .u8) (n := (t % 256)) (c := (t % 256)) rfl rfl (wrap64 (by omega) (by omega)))
    (icCons (icOf (k := .i8) (k' := .u8) (n := (n / 256 % 256)) (c := (n / 256)) rfl rfl (i8w (by omega) (by omega)))
    (icCons (icOf (k := .i64) (k' := .i8) (n := (n / 256)) (c := (n / 256)) rfl rfl (wrap64 (by omega) (by omega)))
    (icCons (icOf (k := .i64) (k' := .u8) (n := (n % 256)) (c := (n % 256)) rfl rfl (wrap64 (by omega) (by omega)))
    icNil)))))))))))))))
abbrev R4 {a0 a1 a2 f t n : Int} {Y : Nat → Int} (hf : -1 ≤ f ∧ f ≤ 10) (ht : -1 ≤ t ∧ t ≤ 10) (hn : -1 ≤ n ∧ n ≤ 10) (c0 : 0 ≤ f) (c1 : 0 ≤ t) (c2 : 0 ≤ n) (c : 10 < f + n) : VRows (iv a0 a1 a2 f t n Y) noV noK where
  vvp := noVp
  ib := ibL4
  ibok := ib4 hf ht hn c0 c1 c2 c
  ic := icL4
  icok := ic4 hf ht hn c0 c1 c2 c
abbrev T4 {a0 a1 a2 f t n : Int} {Y : Nat → Int} (hf : -1 ≤ f ∧ f ≤ 10) (ht : -1 ≤ t ∧ t ≤ 10) (hn : -1 ≤ n ∧ n ≤ 10) (c0 : 0 ≤ f) (c1 : 0 ≤ t) (c2 : 0 ≤ n) (c : 10 < f + n) : Tab := (R4 (a0 := a0) (a1 := a1) (a2 := a2) (f := f) (t := t) (n := n) (Y := Y) hf ht hn c0 c1 c2 c).tab
abbrev ibL5 : List BRow := [(1, .oi 3, .int .i64 1, .oi 4), (1, .oi 5, .int .i64 1, .oi 6), (1, .oi 7, .int .i64 1, .oi 8), (16, .oi 4, .int .u64 8, .oi 9), (16, .oi 6, .int .u64 8, .oi 12), (16, .oi 8, .int .u64 8, .oi 15), (15, .oi 19, .int .u64 8, .oi 20), (6, .oi 20, .oi 21, .oi 22), (15, .oi 24, .int .u64 8, .oi 25), (6, .oi 25, .oi 26, .oi 27), (15, .oi 29, .int .u64 8, .oi 30), (6, .oi 30, .oi 31, .oi 32), (11, .oi 22, .int .i64 0, .bool false), (11, .oi 27, .int .i64 0, .bool false), (11, .oi 32, .int .i64 0, .bool false), (1, .int .i64 10, .oi 22, .oi 250), (13, .oi 32, .oi 250, .bool false), (1, .int .i64 10, .oi 27, .oi 251), (13, .oi 32, .oi 251, .bool true), (11, .oi 4, .int .i64 0, .bool false), (11, .oi 6, .int .i64 0, .bool false), (11, .oi 8, .int .i64 0, .bool false), (0, .oi 4, .oi 8, .oi 252), (13, .oi 252, .int .i64 10, .bool false), (0, .oi 6, .oi 8, .oi 253), (13, .oi 253, .int .i64 10, .bool true)]
abbrev icL5 : List (IntKind × AV × AV) := [(.u8, .oi 9, .oi 10), (.u8, .oi 4, .oi 11), (.u8, .oi 12, .oi 13), (.u8, .oi 6, .oi 14), (.u8, .oi 15, .oi 16), (.u8, .oi 8, .oi 17), (.i8, .oi 10, .oi 18), (.i64, .oi 18, .oi 19), (.i64, .oi 11, .oi 21), (.i8, .oi 13, .oi 23), (.i64, .oi 23, .oi 24), (.i64, .oi 14, .oi 26), (.i8, .oi 16, .oi 28), (.i64, .oi 28, .oi 29), (.i64, .oi 17, .oi 31)]
theorem ib5 {a0 a1 a2 f t n : Int} {Y : Nat → Int} (hf : -1 ≤ f ∧ f ≤ 10) (ht : -1 ≤ t ∧ t ≤ 10) (hn : -1 ≤ n ∧ n ≤ 10) (c0 : 0 ≤ f) (c1 : 0 ≤ t) (c2 : 0 ≤ n) (c3 : f + n ≤ 10) (c : 10 < t + n) : ∀ x_ ∈ ibL5, IbOk (iv a0 a1 a2 f t n Y) x_ := by
  letI := Tab.empty
  exact (ibCons (ibSub (a := (f + 1)) (b := (1 : Int)) (c := f) rfl rfl rfl (by omega) (by omega) (by omega))
    (ibCons (ibSub (a := (t + 1)) (b := (1 : Int)) (c := t) rfl rfl rfl (by omega) (by omega) (by omega))
    (ibCons (ibSub (a := (n + 1)) (b := (1 : Int)) (c := n) rfl rfl rfl (by omega) (by omega) (by omega))
    (ibCons (ibShr (k := .i64) (k' := .u64) (a := f) (b := 8) (c := (f / 256)) rfl rfl rfl (by decide) (shr_is (by decide) (by decide)))
    (ibCons (ibShr (k := .i64) (k' := .u64) (a := t) (b := 8) (c := (t / 256)) rfl rfl rfl (by decide) (shr_is (by decide) (by decide)))
    (ibCons (ibShr (k := .i64) (k' := .u64) (a := n) (b := 8) (c := (n / 256)) rfl rfl rfl (by decide) (shr_is (by decide) (by decide)))
    (ibCons (ibShl (k := .i64) (k' := .u64) (a := (f / 256)) (b := 8) (c := (f / 256 * 256)) rfl rfl rfl (by decide) (show IntKind.i64.wrap ((f / 256) * 256) = _ from wrap64 (by omega) (by omega)))
    (ibCons (ibOr (k := .i64) (a := (f / 256 * 256)) (b := (f % 256)) (c := f) rfl rfl rfl ((or_add 8 (by omega) (by omega) (by omega) (by decide) (by omega) (by omega)).trans (by omega)))
    (ibCons (ibShl (k := .i64) (k' := .u64) (a := (t / 256)) (b := 8) (c := (t / 256 * 256)) rfl rfl rfl (by decide) (show IntKind.i64.wrap ((t / 256) * 256) = _ from wrap64 (by omega) (by omega)))
    (ibCons (ibOr (k := .i64) (a := (t / 256 * 256)) (b := (t % 256)) (c := t) rfl rfl rfl ((or_add 8 (by omega) (by omega) (by omega) (by decide) (by omega) (by omega)).trans (by omega)))
    (ibCons (ibShl (k := .i64) (k' := .u64) (a := (n / 256)) (b := 8) (c := (n / 256 * 256)) rfl rfl rfl (by decide) (show IntKind.i64.wrap ((n / 256) * 256) = _ from wrap64 (by omega) (by omega)))
    (ibCons (ibOr (k := .i64) (a := (n / 256 * 256)) (b := (n % 256)) (c := n) rfl rfl rfl ((or_add 8 (by omega) (by omega) (by omega) (by decide) (by omega) (by omega)).trans (by omega)))
    (ibCons (ibLt (a := f) (b := (0 : Int)) rfl rfl (decide_eq_false (by omega)))
    (ibCons (ibLt (a := t) (b := (0 : Int)) rfl rfl (decide_eq_false (by omega)))
    (ibCons (ibLt (a := n) (b := (0 : Int)) rfl rfl (decide_eq_false (by omega)))
    (ibCons (ibSub (a := (10 : Int)) (b := f) (c := (10 - f)) rfl rfl rfl (by omega) (by omega) (by omega))
    (ibCons (ibGt (a := n) (b := (10 - f)) rfl rfl (decide_eq_false (by omega)))
    (ibCons (ibSub (a := (10 : Int)) (b := t) (c := (10 - t)) rfl rfl rfl (by omega) (by omega) (by omega))
    (ibCons (ibGt (a := n) (b := (10 - t)) rfl rfl (decide_eq_true (by omega)))
    (ibCons (ibLt (a := f) (b := (0 : Int)) rfl rfl (decide_eq_false (by omega)))
    (ibCons (ibLt (a := t) (b := (0 : Int)) rfl rfl (decide_eq_false (by omega)))
    (ibCons (ibLt (a := n) (b := (0 : Int)) rfl rfl (decide_eq_false (by omega)))
    (ibCons (ibAdd (a := f) (b := n) (c := (f + n)) rfl rfl rfl (by omega) (by omega) (by omega))
    (ibCons (ibGt (a := (f + n)) (b := (10 : Int)) rfl rfl (decide_eq_false (by omega)))
    (ibCons (ibAdd (a := t) (b := n) (c := (t + n)) rfl rfl rfl (by omega) (by omega) (by omega))
    (ibCons (ibGt (a := (t + n)) (b := (10 : Int)) rfl rfl (decide_eq_true (by omega)))
    ibNil))))))))))))))))))))))))))
theorem ic5 {a0 a1 a2 f t n : Int} {Y : Nat → Int} (hf : -1 ≤ f ∧ f ≤ 10) (ht : -1 ≤ t ∧ t ≤ 10) (hn : -1 ≤ n ∧ n ≤ 10) (c0 : 0 ≤ f) (c1 : 0 ≤ t) (c2 : 0 ≤ n) (c3 : f + n ≤ 10) (c : 10 < t + n) : ∀ x_ ∈ icL5, IcOk' (iv a0 a1 a2 f t n Y) x_ := by
  exact (icCons (icOf (k := .u8) (k' := .i64) (n := (f / 256)) (c := (f / 256 % 256)) rfl rfl (u8w _))
    (icCons (icOf (k := .u8) (k' := .i64) (n := f) (c := (f % 256)) rfl rfl (u8w _))
    (icCons (icOf (k := .u8) (k' := .i64) (n := (t / 256)) (c := (t / 256 % 256)) rfl rfl (u8w _))
    (icCons (icOf (k := .u8) (k' := .i64) (n := t) (c := (t % 256)) rfl rfl (u8w _))
    (icCons (icOf (k := .u8) (k' := .i64) (n := (n / 256)) (c := (n / 256 % 256)) rfl rfl (u8w _))
    (icCons (icOf (k := .u8) (k' := .i64) (n := n) (c := (n % 256)) rfl rfl (u8w _))
    (icCons (icOf (k := .i8) (k' := .u8) (n := (f / 256 % 256)) (c := (f / 256)) rfl rfl (i8w (by omega) (by omega)))
    (icCons (icOf (k := .i64) (k' := .i8) (n := (f / 256)) (c := (f / 256)) rfl rfl (wrap64 (by omega) (by omega)))
    (icCons (icOf (k := .i64) (k' := .u8) (n := (f % 256)) (c := (f % 256)) rfl rfl (wrap64 (by omega) (by omega)))
    (icCons (icOf (k := .i8) (k' := .u8) (n := (t / 256 % 256)) (c := (t / 256)) rfl rfl (i8w (by omega) (by omega)))
    (icCons (icOf (k := .i64) (k' := .i8) (n := (t / 256)) (c := (t / 256)) rfl rfl (wrap64 (by omega) (by omega)))
    (icCons (icOf (k := .i64) (k' := .u8) (n := (t % 256)) (c := (t % 256)) rfl rfl (wrap64 (by omega) (by omega)))
    (icCons (icOf (k := .i8) (k' := .u8) (n := (n / 256 % 256)) (c := (n / 256)) rfl rfl (i8w (by omega) (by omega)))
    (icCons (icOf (k := .i64) (k' := .i8) (n := (n / 256)) (c := (n / 256)) rfl rfl (wrap64 (by omega) (by omega)))
    (icCons (icOf (k := .i64) (k' := .u8) (n := (n % 256)) (c := (n % 256)) rfl rfl (wrap64 (by omega) (by omega)))
    icNil)))))))))))))))
abbrev R5 {a0 a1 a2 f t n : Int} {Y : Nat → Int} (hf : -1 ≤ f ∧ f ≤ 10) (ht : -1 ≤ t ∧ t ≤ 10) (hn : -1 ≤ n ∧ n ≤ 10) (c0 : 0 ≤ f) (c1 : 0 ≤ t) (c2 : 0 ≤ n) (c3 : f + n ≤ 10) (c : 10 < t + n) : VRows (iv a0 a1 a2 f t n Y) noV noK where
  vvp := noVp
  ib := ibL5
  ibok := ib5 hf ht hn c0 c1 c2 c3 c
  ic := icL5
  icok := ic5 hf ht hn c0 c1 c2 c3 c
abbrev T5 {a0 a1 a2 f t n : Int} {Y : Nat → Int} (hf : -1 ≤ f ∧ f ≤ 10) (ht : -1 ≤ t ∧ t ≤ 10) (hn : -1 ≤ n ∧ n ≤ 10) (c0 : 0 ≤ f) (c1 : 0 ≤ t) (c2 : 0 ≤ n) (c3 : f + n ≤ 10) (c : 10 < t + n) : Tab := (R5 (a0 := a0) (a1 := a1) (a2 := a2) (f := f) (t := t) (n := n) (Y := Y) hf ht hn c0 c1 c2 c3 c).tab
noncomputable def IS0 : In := ⟨8, [(oN 0), (iN 12)], 6868, [], (oN 3), 6868, []⟩
def bx (a : Int) : Int := if 0 ≤ a.tmod 12 then a.tmod 12 else -(a.tmod 12)
abbrev SP0 {a0 a1 a2 f t n : Int} {Y : Nat → Int} (h : a0.tmod 12 = f + 1) (h0 : 0 ≤ f + 1) : VRows (iv a0 a1 a2 f t n Y) noV noK where
  vvp := noVp
  ib := [(4, .oi 0, .int .i64 12, .oi 3), (11, .oi 3, .int .i64 0, .bool false)]
  ibok := by
    letI := Tab.empty
    exact ibCons (ibRem (a := a0) (b := 12) (c := f + 1) rfl rfl rfl (by decide) h) (ibCons (ibLt (a := f + 1) (b := 0) rfl rfl (decide_eq_false (by omega))) ibNil)
abbrev SN0 {a0 a1 a2 f t n : Int} {Y : Nat → Int} (h0 : a0.tmod 12 < 0) : VRows (iv a0 a1 a2 f t n Y) noV noK where
  vvp := noVp
  ib := [(4, .oi 0, .int .i64 12, .oi 190), (11, .oi 190, .int .i64 0, .bool true)]
  ibok := by
    letI := Tab.empty
    exact ibCons (ibRem (a := a0) (b := 12) (c := a0.tmod 12) rfl rfl rfl (by decide) rfl) (ibCons (ibLt (a := a0.tmod 12) (b := 0) rfl rfl (decide_eq_true (by omega))) ibNil)
theorem iu0 {a0 a1 a2 f t n : Int} {Y : Nat → Int} (h0 : a0.tmod 12 < 0) (h1 : -12 < a0.tmod 12) (h : f + 1 = -(a0.tmod 12)) : ∀ q ∈ ([(0, .oi 190, .oi 3)] : List (Nat × AV × AV)), ∀ op, ucode op = q.1 → ∃ k n_ v, denI (iv a0 a1 a2 f t n Y) q.2.1 = some (k, n_) ∧ unI op k n_ = some v ∧ outI (iv a0 a1 a2 f t n Y) q.2.2 v := fun q hq op hop => by
  simp only [List.mem_cons, List.not_mem_nil, or_false] at hq
  subst hq
  have : op = .neg := by cases op <;> simp [ucode] at hop; rfl
  subst this
  exact ⟨.i64, a0.tmod 12, .int .i64 (IntKind.i64.wrap (0 - a0.tmod 12)), rfl, rfl, by rw [wrap64 (by omega) (by omega)]; show some (IntKind.i64, f + 1) = some (IntKind.i64, 0 - a0.tmod 12); congr 2; omega⟩
theorem smallP0 {a0 a1 a2 f t n : Int} {Y : Nat → Int} (h : a0.tmod 12 = f + 1) (h0 : 0 ≤ f + 1) : @inRun Tryz.prog (SP0 (n := n) (t := t) (f := f) (a0 := a0) (a1 := a1) (a2 := a2) (Y := Y) h h0).tab Hand.none 5000 IS0 = true := (by as_aux_lemma => kernel_rfl)
abbrev TN0 {a0 a1 a2 f t n : Int} {Y : Nat → Int} (h0 : a0.tmod 12 < 0) (h1 : -12 < a0.tmod 12) (h : f + 1 = -(a0.tmod 12)) : Tab := { (SN0 (n := n) (t := t) (f := f) (a0 := a0) (a1 := a1) (a2 := a2) (Y := Y) h0).tab with
  iu := [(0, .oi 190, .oi 3)]
  iuok := iu0 h0 h1 h }
theorem smallN0 {a0 a1 a2 f t n : Int} {Y : Nat → Int} (h0 : a0.tmod 12 < 0) (h1 : -12 < a0.tmod 12) (h : f + 1 = -(a0.tmod 12)) : @inRun Tryz.prog (TN0 (n := n) (t := t) (f := f) (a0 := a0) (a1 := a1) (a2 := a2) (Y := Y) h0 h1 h) Hand.none 5000 IS0 = true := (by as_aux_lemma => kernel_rfl)
theorem IS0_ok {a0 a1 a2 f t n : Int} {Y : Nat → Int} (h : bx a0 = f + 1) : @InOk Tryz.prog IS0 (B0 a0 a1 a2 f t n Y) := by
  have h1 : -12 < a0.tmod 12 := tmod_lo (by decide)
  by_cases h0 : 0 ≤ a0.tmod 12
  · have e : a0.tmod 12 = f + 1 := by rw [← h]; unfold bx; rw [if_pos h0]
    letI : Tab := (SP0 (n := n) (t := t) (f := f) (a0 := a0) (a1 := a1) (a2 := a2) (Y := Y) e (by omega)).tab
    exact InOk.tab (T := (SP0 (n := n) (t := t) (f := f) (a0 := a0) (a1 := a1) (a2 := a2) (Y := Y) e (by omega)).tab) (T' := B0 a0 a1 a2 f t n Y) ⟨rfl, rfl, rfl, rfl, rfl, rfl, rfl, rfl, rfl⟩ (InOk.of_run (n := 5000) mixed HandOk.none (by kernel_rfl) (smallP0 e (by omega)))
  · have e : f + 1 = -(a0.tmod 12) := by rw [← h]; unfold bx; rw [if_neg h0]
    letI : Tab := TN0 (n := n) (t := t) (f := f) (a0 := a0) (a1 := a1) (a2 := a2) (Y := Y) (by omega) h1 e
    exact InOk.tab (T := TN0 (n := n) (t := t) (f := f) (a0 := a0) (a1 := a1) (a2 := a2) (Y := Y) (by omega) h1 e) (T' := B0 a0 a1 a2 f t n Y) ⟨rfl, rfl, rfl, rfl, rfl, rfl, rfl, rfl, rfl⟩ (InOk.of_run (n := 5000) mixed HandOk.none (by kernel_rfl) (smallN0 (by omega) h1 e))
noncomputable def IS1 : In := ⟨8, [(oN 1), (iN 12)], 6868, [], (oN 5), 6868, []⟩
abbrev SP1 {a0 a1 a2 f t n : Int} {Y : Nat → Int} (h : a1.tmod 12 = t + 1) (h0 : 0 ≤ t + 1) : VRows (iv a0 a1 a2 f t n Y) noV noK where
  vvp := noVp
  ib := [(4, .oi 1, .int .i64 12, .oi 5), (11, .oi 5, .int .i64 0, .bool false)]
  ibok := by
    letI := Tab.empty
    exact ibCons (ibRem (a := a1) (b := 12) (c := t + 1) rfl rfl rfl (by decide) h) (ibCons (ibLt (a := t + 1) (b := 0) rfl rfl (decide_eq_false (by omega))) ibNil)
abbrev SN1 {a0 a1 a2 f t n : Int} {Y : Nat → Int} (h0 : a1.tmod 12 < 0) : VRows (iv a0 a1 a2 f t n Y) noV noK where
  vvp := noVp
  ib := [(4, .oi 1, .int .i64 12, .oi 191), (11, .oi 191, .int .i64 0, .bool true)]
  ibok := by
    letI := Tab.empty
    exact ibCons (ibRem (a := a1) (b := 12) (c := a1.tmod 12) rfl rfl rfl (by decide) rfl) (ibCons (ibLt (a := a1.tmod 12) (b := 0) rfl rfl (decide_eq_true (by omega))) ibNil)
theorem iu1 {a0 a1 a2 f t n : Int} {Y : Nat → Int} (h0 : a1.tmod 12 < 0) (h1 : -12 < a1.tmod 12) (h : t + 1 = -(a1.tmod 12)) : ∀ q ∈ ([(0, .oi 191, .oi 5)] : List (Nat × AV × AV)), ∀ op, ucode op = q.1 → ∃ k n_ v, denI (iv a0 a1 a2 f t n Y) q.2.1 = some (k, n_) ∧ unI op k n_ = some v ∧ outI (iv a0 a1 a2 f t n Y) q.2.2 v := fun q hq op hop => by
  simp only [List.mem_cons, List.not_mem_nil, or_false] at hq
  subst hq
  have : op = .neg := by cases op <;> simp [ucode] at hop; rfl
  subst this
  exact ⟨.i64, a1.tmod 12, .int .i64 (IntKind.i64.wrap (0 - a1.tmod 12)), rfl, rfl, by rw [wrap64 (by omega) (by omega)]; show some (IntKind.i64, t + 1) = some (IntKind.i64, 0 - a1.tmod 12); congr 2; omega⟩
theorem smallP1 {a0 a1 a2 f t n : Int} {Y : Nat → Int} (h : a1.tmod 12 = t + 1) (h0 : 0 ≤ t + 1) : @inRun Tryz.prog (SP1 (n := n) (t := t) (f := f) (a0 := a0) (a1 := a1) (a2 := a2) (Y := Y) h h0).tab Hand.none 5000 IS1 = true := (by as_aux_lemma => kernel_rfl)
abbrev TN1 {a0 a1 a2 f t n : Int} {Y : Nat → Int} (h0 : a1.tmod 12 < 0) (h1 : -12 < a1.tmod 12) (h : t + 1 = -(a1.tmod 12)) : Tab := { (SN1 (n := n) (t := t) (f := f) (a0 := a0) (a1 := a1) (a2 := a2) (Y := Y) h0).tab with
  iu := [(0, .oi 191, .oi 5)]
  iuok := iu1 h0 h1 h }
theorem smallN1 {a0 a1 a2 f t n : Int} {Y : Nat → Int} (h0 : a1.tmod 12 < 0) (h1 : -12 < a1.tmod 12) (h : t + 1 = -(a1.tmod 12)) : @inRun Tryz.prog (TN1 (n := n) (t := t) (f := f) (a0 := a0) (a1 := a1) (a2 := a2) (Y := Y) h0 h1 h) Hand.none 5000 IS1 = true := (by as_aux_lemma => kernel_rfl)
theorem IS1_ok {a0 a1 a2 f t n : Int} {Y : Nat → Int} (h : bx a1 = t + 1) : @InOk Tryz.prog IS1 (B0 a0 a1 a2 f t n Y) := by
  have h1 : -12 < a1.tmod 12 := tmod_lo (by decide)
  by_cases h0 : 0 ≤ a1.tmod 12
  · have e : a1.tmod 12 = t + 1 := by rw [← h]; unfold bx; rw [if_pos h0]
    letI : Tab := (SP1 (n := n) (t := t) (f := f) (a0 := a0) (a1 := a1) (a2 := a2) (Y := Y) e (by omega)).tab
    exact InOk.tab (T := (SP1 (n := n) (t := t) (f := f) (a0 := a0) (a1 := a1) (a2 := a2) (Y := Y) e (by omega)).tab) (T' := B0 a0 a1 a2 f t n Y) ⟨rfl, rfl, rfl, rfl, rfl, rfl, rfl, rfl, rfl⟩ (InOk.of_run (n := 5000) mixed HandOk.none (by kernel_rfl) (smallP1 e (by omega)))
  · have e : t + 1 = -(a1.tmod 12) := by rw [← h]; unfold bx; rw [if_neg h0]
    letI : Tab := TN1 (n := n) (t := t) (f := f) (a0 := a0) (a1 := a1) (a2 := a2) (Y := Y) (by omega) h1 e
    exact InOk.tab (T := TN1 (n := n) (t := t) (f := f) (a0 := a0) (a1 := a1) (a2 := a2) (Y := Y) (by omega) h1 e) (T' := B0 a0 a1 a2 f t n Y) ⟨rfl, rfl, rfl, rfl, rfl, rfl, rfl, rfl, rfl⟩ (InOk.of_run (n := 5000) mixed HandOk.none (by kernel_rfl) (smallN1 (by omega) h1 e))
noncomputable def IS2 : In := ⟨8, [(oN 2), (iN 12)], 6868, [], (oN 7), 6868, []⟩
abbrev SP2 {a0 a1 a2 f t n : Int} {Y : Nat → Int} (h : a2.tmod 12 = n + 1) (h0 : 0 ≤ n + 1) : VRows (iv a0 a1 a2 f t n Y) noV noK where
  vvp := noVp
  ib := [(4, .oi 2, .int .i64 12, .oi 7), (11, .oi 7, .int .i64 0, .bool false)]
  ibok := by
    letI := Tab.empty
    exact ibCons (ibRem (a := a2) (b := 12) (c := n + 1) rfl rfl rfl (by decide) h) (ibCons (ibLt (a := n + 1) (b := 0) rfl rfl (decide_eq_false (by omega))) ibNil)
abbrev SN2 {a0 a1 a2 f t n : Int} {Y : Nat → Int} (h0 : a2.tmod 12 < 0) : VRows (iv a0 a1 a2 f t n Y) noV noK where
  vvp := noVp
  ib := [(4, .oi 2, .int .i64 12, .oi 192), (11, .oi 192, .int .i64 0, .bool true)]
  ibok := by
    letI := Tab.empty
    exact ibCons (ibRem (a := a2) (b := 12) (c := a2.tmod 12) rfl rfl rfl (by decide) rfl) (ibCons (ibLt (a := a2.tmod 12) (b := 0) rfl rfl (decide_eq_true (by omega))) ibNil)
theorem iu2 {a0 a1 a2 f t n : Int} {Y : Nat → Int} (h0 : a2.tmod 12 < 0) (h1 : -12 < a2.tmod 12) (h : n + 1 = -(a2.tmod 12)) : ∀ q ∈ ([(0, .oi 192, .oi 7)] : List (Nat × AV × AV)), ∀ op, ucode op = q.1 → ∃ k n_ v, denI (iv a0 a1 a2 f t n Y) q.2.1 = some (k, n_) ∧ unI op k n_ = some v ∧ outI (iv a0 a1 a2 f t n Y) q.2.2 v := fun q hq op hop => by
  simp only [List.mem_cons, List.not_mem_nil, or_false] at hq
  subst hq
  have : op = .neg := by cases op <;> simp [ucode] at hop; rfl
  subst this
  exact ⟨.i64, a2.tmod 12, .int .i64 (IntKind.i64.wrap (0 - a2.tmod 12)), rfl, rfl, by rw [wrap64 (by omega) (by omega)]; show some (IntKind.i64, n + 1) = some (IntKind.i64, 0 - a2.tmod 12); congr 2; omega⟩
theorem smallP2 {a0 a1 a2 f t n : Int} {Y : Nat → Int} (h : a2.tmod 12 = n + 1) (h0 : 0 ≤ n + 1) : @inRun Tryz.prog (SP2 (n := n) (t := t) (f := f) (a0 := a0) (a1 := a1) (a2 := a2) (Y := Y) h h0).tab Hand.none 5000 IS2 = true := (by as_aux_lemma => kernel_rfl)
abbrev TN2 {a0 a1 a2 f t n : Int} {Y : Nat → Int} (h0 : a2.tmod 12 < 0) (h1 : -12 < a2.tmod 12) (h : n + 1 = -(a2.tmod 12)) : Tab := { (SN2 (n := n) (t := t) (f := f) (a0 := a0) (a1 := a1) (a2 := a2) (Y := Y) h0).tab with
  iu := [(0, .oi 192, .oi 7)]
  iuok := iu2 h0 h1 h }
theorem smallN2 {a0 a1 a2 f t n : Int} {Y : Nat → Int} (h0 : a2.tmod 12 < 0) (h1 : -12 < a2.tmod 12) (h : n + 1 = -(a2.tmod 12)) : @inRun Tryz.prog (TN2 (n := n) (t := t) (f := f) (a0 := a0) (a1 := a1) (a2 := a2) (Y := Y) h0 h1 h) Hand.none 5000 IS2 = true := (by as_aux_lemma => kernel_rfl)
theorem IS2_ok {a0 a1 a2 f t n : Int} {Y : Nat → Int} (h : bx a2 = n + 1) : @InOk Tryz.prog IS2 (B0 a0 a1 a2 f t n Y) := by
  have h1 : -12 < a2.tmod 12 := tmod_lo (by decide)
  by_cases h0 : 0 ≤ a2.tmod 12
  · have e : a2.tmod 12 = n + 1 := by rw [← h]; unfold bx; rw [if_pos h0]
    letI : Tab := (SP2 (n := n) (t := t) (f := f) (a0 := a0) (a1 := a1) (a2 := a2) (Y := Y) e (by omega)).tab
    exact InOk.tab (T := (SP2 (n := n) (t := t) (f := f) (a0 := a0) (a1 := a1) (a2 := a2) (Y := Y) e (by omega)).tab) (T' := B0 a0 a1 a2 f t n Y) ⟨rfl, rfl, rfl, rfl, rfl, rfl, rfl, rfl, rfl⟩ (InOk.of_run (n := 5000) mixed HandOk.none (by kernel_rfl) (smallP2 e (by omega)))
  · have e : n + 1 = -(a2.tmod 12) := by rw [← h]; unfold bx; rw [if_neg h0]
    letI : Tab := TN2 (n := n) (t := t) (f := f) (a0 := a0) (a1 := a1) (a2 := a2) (Y := Y) (by omega) h1 e
    exact InOk.tab (T := TN2 (n := n) (t := t) (f := f) (a0 := a0) (a1 := a1) (a2 := a2) (Y := Y) (by omega) h1 e) (T' := B0 a0 a1 a2 f t n Y) ⟨rfl, rfl, rfl, rfl, rfl, rfl, rfl, rfl, rfl⟩ (InOk.of_run (n := 5000) mixed HandOk.none (by kernel_rfl) (smallN2 (by omega) h1 e))
noncomputable def IC : In := ⟨156, [(pN 10480), (.so 24371 0 5 1)], 24374, [q0, q1, q2, q3, q4, q5], (.tup [z0, bF, z0]), 24410, [q0, q1, q2, q109, q4, q5]⟩
noncomputable def IN (f t n u0 u1 u2 u3 u4 : Int) : In := ⟨156, [(pN 10480), (.so 24371 0 5 1)], 24374, [q0, q1, q2, q3, q4, (24371, (.cells 5 true [] (T.ofList 0 .leaf [(iN 9), (.int .i64 f), (iN 9), (.int .i64 t), (.int .i64 n)])))], (.tup [z0, bF, z0]), (24400 + n.toNat), [q0, q1, q2, (19440, (.cells 16 true [] (T.ofList 0 .leaf [(.int .u64 0), (.int .u64 0), (.int .u64 1), (.int .u64 0), (.int .u64 0), (.int .u64 2), (.int .u64 0), (.int .u64 0), (.int .u64 3), (.int .u64 0), (.int .u64 10), (.int .u64 u0), (.int .u64 u1), (.int .u64 u2), (.int .u64 u3), (.int .u64 u4)]))), q4, (24371, (.cells 5 true [] (T.ofList 0 .leaf [(iN 9), (.int .i64 f), (iN 9), (.int .i64 t), (.int .i64 n)])))]⟩
def Yv (f t n i : Nat) : Nat := if t ≤ i ∧ i < t + n then (f + i - t) * (f + i - t) else i * i
abbrev yI (f t n : Nat) : Nat → Int := fun i => if i < 10 then ((Yv f t n i : Nat) : Int) else 0
/-- the law's end -/
noncomputable def fullL : Code := (Tryz.f5.body).getD .skip
theorem bodyL_eq : Tryz.f5.body = some fullL := by kernel_rfl
noncomputable def tlL : Code := restn 25 fullL
noncomputable abbrev NL : Nat := Tryz.f5.ntmps
noncomputable abbrev fsZ : List (Nat × AV) := [(0, .oi 4), (1, .oi 6), (2, .oi 8), (7, .bool true), (14, .ptr 14046 0), (15, .ptr 16261 0)]
noncomputable abbrev fsK (f t n : Int) : List (Nat × AV) := [(0, .int .i64 f), (1, .int .i64 t), (2, .int .i64 n), (7, .bool true), (14, .ptr 14046 0), (15, .ptr 16261 0)]
noncomputable abbrev bsZ (v : AV) : BS := [(14046, 14046, (.cells 2 false [] (ofPairs [(1, .bool true)]))), (16261, 29814, (.cells 11 false [] (T.ofList 0 .leaf [z0, z1, (uN 73), v, tx1, tx1, bF, (iN 263), .nils, z0, z1])))]
theorem IC_l1 : okLim IC.bs = true := by kernel_rfl
theorem IC_l2 : okLim IC.bs' = true := by kernel_rfl
theorem IC_l3 : selfBs IC.bs' = true := by kernel_rfl
theorem IC_o1 : once (IC.bs.map (·.1)) = true := by kernel_rfl
theorem IC_o2 : once (IC.bs'.map (·.1)) = true := by kernel_rfl
/-- what is shown for each place and length by itself -/
def Good (f t n : Nat) : Prop := ∀ a0 a1 a2 : Int, @InOk Tryz.prog IC (B0 a0 a1 a2 f t n (yI f t n)) ∧ ∀ {B : Kp} {w0 : World} {μ : M} {a : Act} {w : World}, St (B0 a0 a1 a2 f t n (yI f t n)) B w0 μ NL (frOf fsZ) (hOf 16262 (bsZ (oN 189))) a w → tlL.wp Tryz.prog (Yes Tryz.prog Tryz.f5 B w0) a w
noncomputable def chk [Tab] (a0 a1 a2 : Int) (f t n : Nat) (fi ti ni u0 u1 u2 u3 u4 v : Int) : Bool :=
  Nat.ble (IN fi ti ni u0 u1 u2 u3 u4).N' IC.N' && (inRun Tryz.prog K_top0 5000 (IN fi ti ni u0 u1 u2 u3 u4) && (runTrue ‹Tab› Tryz.prog Hand.none 5000 Tryz.f5 tlL (frOf (fsK fi ti ni)) (hOf 16262 (bsZ (.int .i64 v))) && (okLim (IN fi ti ni u0 u1 u2 u3 u4).bs' && (okLim (IN fi ti ni u0 u1 u2 u3 u4).bs &&
  (sameBs (iv a0 a1 a2 f t n (yI f t n)) (IN fi ti ni u0 u1 u2 u3 u4).bs IC.bs && (sameBs (iv a0 a1 a2 f t n (yI f t n)) (IN fi ti ni u0 u1 u2 u3 u4).bs' IC.bs' && (once ((IN fi ti ni u0 u1 u2 u3 u4).bs.map (·.1)) && (once ((IN fi ti ni u0 u1 u2 u3 u4).bs'.map (·.1)) &&
  ((frOf fsZ).same (sameV (iv a0 a1 a2 f t n (yI f t n))) (frOf (fsK fi ti ni)) && sameBs (iv a0 a1 a2 f t n (yI f t n)) (bsOf (bsZ (oN 189))) (bsOf (bsZ (.int .i64 v))))))))))))
theorem good_of {f t n : Nat} {fi ti ni u0 u1 u2 u3 u4 v : Int} (h : ∀ [Tab] (a0 a1 a2 : Int), chk a0 a1 a2 f t n fi ti ni u0 u1 u2 u3 u4 v = true) : Good f t n := by
  intro a0 a1 a2
  letI : Tab := B0 a0 a1 a2 f t n (yI f t n)
  have h := h a0 a1 a2
  unfold chk at h
  simp only [Bool.and_eq_true] at h
  obtain ⟨h0, h1, h3, h2, l1, s1, s2, o1, o3, s3, s4⟩ := h
  refine ⟨InOk.same (c := IN fi ti ni u0 u1 u2 u3 u4) (d := IC) rfl rfl (Nat.le_of_ble_eq_true h0) (by kernel_rfl) (by kernel_rfl) s1 s2 l1 IC_l1 IC_l2 IC_l3 o1 IC_o1 o3 IC_o2 (InOk.of_run (K := K_top0) (n := 5000) mixed K_top0_ok h2 h1), fun {B w0 μ a w} s => ?_⟩
  have s' := St.sameH s3 (sameH_hOf (N := 16262) s4 (by kernel_rfl) (by kernel_rfl) (by kernel_rfl) (by kernel_rfl)) s
  exact runTrue_sound mixed HandOk.none h3 s'
theorem gd {f t n : Nat} (fi ti ni u0 u1 u2 u3 u4 v : Int) (h : ∀ [Tab] (a0 a1 a2 : Int), chk a0 a1 a2 f t n fi ti ni u0 u1 u2 u3 u4 v = true) : Good f t n := good_of h
theorem allNil {G : Nat × Nat × Nat → Prop} : ∀ q ∈ ([] : List (Nat × Nat × Nat)), G q := fun q h => by simp at h
theorem allCons {G : Nat × Nat × Nat → Prop} {q : Nat × Nat × Nat} {l : List (Nat × Nat × Nat)} (h : G q) (k : ∀ q ∈ l, G q) : ∀ r ∈ q :: l, G r := fun r hr => by
  simp only [List.mem_cons] at hr
  rcases hr with rfl | hr
  · exact h
  · exact k r hr
end Go.Proofs.YthgncmohimdbmaaGreatDoor.cy
