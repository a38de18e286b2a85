/-
  Bytes of a text by name, as chars, four to a word: their names, and what operations on them give.
-/
import Derived.Test.YtbgkinjicnnkiaaGreatDoorXN3
set_option linter.unusedVariables false
set_option linter.unusedSimpArgs false
set_option linter.unusedSectionVars false
namespace Go.X.chars8
open Go.X Go.RowKit

abbrev mk (i : Nat) : BitVec 64 := 65535#64 <<< (16 * i)
def bv (U : Nat → Int) (q i : Nat) : BitVec 64 := BitVec.ofInt 64 (U (4 * q + i))
/-- a word when so many chars are in it -/
def Vq (U : Nat → Int) (q : Nat) : Nat → BitVec 64
  | 0 => 0#64 ||| ((bv U q 0 <<< 0) &&& mk 0)
  | i + 1 => (Vq U q i &&& ~~~mk (i + 1)) ||| ((bv U q (i + 1) <<< (16 * (i + 1))) &&& mk (i + 1))
def cell (U : Nat → Int) (q i : Nat) : Nat → IntKind × Int
  | 0 => (.i64, ((4 * q + i : Nat) : Int))
  | 1 => (.u16, U (4 * q + i))
  | 2 => (.i64, U (4 * q + i))
  | 3 => (.u64, wI (bv U q i))
  | 4 => (.u64, wI (Vq U q i))
  | 5 => (.u64, wI (bv U q i <<< (16 * i)))
  | 6 => (.u64, wI ((bv U q i <<< (16 * i)) &&& mk i))
  | 7 => (.u64, wI (Vq U q (i - 1) &&& ~~~mk i))
  | x + 8 => (.u64, wI (Vq U q (i + x) >>> (16 * i)))
abbrev N (q i j : Nat) : Nat := 100 + (80 * q + (20 * i + j))
def cell2 (U : Nat → Int) (q i : Nat) : Nat → IntKind × Int
  | 12 => (.u8, U (4 * q + i))
  | 13 => (.i32, U (4 * q + i))
  | _ => (.u32, U (4 * q + i))
def ivC (U : Nat → Int) (m : Nat) : IntKind × Int := if (m - 100) % 20 < 12 then cell U ((m - 100) / 80) ((m - 100) % 80 / 20) ((m - 100) % 20) else cell2 U ((m - 100) / 80) ((m - 100) % 80 / 20) ((m - 100) % 20)
theorem ivC_at (U : Nat → Int) (q i j : Nat) (hi : i < 4) (hj : j < 12) : ivC U (N q i j) = cell U q i j := by
  unfold ivC
  have e1 : (N q i j - 100) / 80 = q := by unfold N; omega
  have e2 : (N q i j - 100) % 80 / 20 = i := by unfold N; omega
  have e3 : (N q i j - 100) % 20 = j := by unfold N; omega
  rw [e1, e2, e3, if_pos hj]
theorem ivC_at2 (U : Nat → Int) (q i j : Nat) (hi : i < 4) (h0 : 12 ≤ j) (hj : j < 20) : ivC U (N q i j) = cell2 U q i j := by
  unfold ivC
  have e1 : (N q i j - 100) / 80 = q := by unfold N; omega
  have e2 : (N q i j - 100) % 80 / 20 = i := by unfold N; omega
  have e3 : (N q i j - 100) % 20 = j := by unfold N; omega
  rw [e1, e2, e3, if_neg (by omega)]

theorem bit16 (U : Nat → Int) (q i k : Nat) (hi : i < 4) : ((mk i).getLsbD k) = (decide (16 * i ≤ k) && decide (k < 16 * i + 16)) := by
  by_cases hk : k < 64
  · have := msk_bit 16 (16 * i) k hk
    unfold msk at this
    exact this
  · have h1 : (mk i).getLsbD k = false := BitVec.getLsbD_of_ge _ _ (by omega)
    rw [h1]
    symm
    simp only [Bool.and_eq_false_iff, decide_eq_false_iff_not]
    right; omega
/-- what stands at a place of a word -/
theorem Vq_bit (U : Nat → Int) (q : Nat) : ∀ (x i b : Nat), x < 4 → i ≤ x → b < 16 → (Vq U q x).getLsbD (16 * i + b) = (bv U q i).getLsbD b
  | 0, i, b, hx, hi, hb => by
    have : i = 0 := by omega
    subst this
    simp only [Vq, BitVec.getLsbD_or, BitVec.getLsbD_and, BitVec.getLsbD_shiftLeft, bit16 U q 0 _ (by omega)]
    have h1 : decide (b < 64) = true := by simp; omega
    have h2 : decide (b < 16) = true := by simp; omega
    simp [h1, h2]
  | x + 1, i, b, hx, hi, hb => by
    simp only [Vq, BitVec.getLsbD_or, BitVec.getLsbD_and, BitVec.getLsbD_not, BitVec.getLsbD_shiftLeft, bit16 U q (x + 1) _ (by omega)]
    by_cases hix : i = x + 1
    · subst hix
      have h1 : decide (16 * (x + 1) ≤ 16 * (x + 1) + b) = true := by simp
      have h2 : decide (16 * (x + 1) + b < 16 * (x + 1) + 16) = true := by simp; omega
      have h3 : decide (16 * (x + 1) + b < 64) = true := by simp; omega
      have h4 : decide (16 * (x + 1) + b < 16 * (x + 1)) = false := by simp
      have h5 : 16 * (x + 1) + b - 16 * (x + 1) = b := by omega
      rw [h1, h2, h3, h4, h5]
      simp
    · have ih := Vq_bit U q x i b (by omega) (by omega) hb
      have h1 : decide (16 * (x + 1) ≤ 16 * i + b) = false := by simp; omega
      have h3 : decide (16 * i + b < 64) = true := by simp; omega
      rw [h1, h3, ih]
      simp
theorem low_is (U : Nat → Int) (q x i : Nat) (hx : x < 4) (hi : i ≤ x) (hU : 0 ≤ U (4 * q + i) ∧ U (4 * q + i) < 65536) : IntKind.u16.wrap (wI (Vq U q x >>> (16 * i))) = U (4 * q + i) := by
  have e : (Vq U q x >>> (16 * i)).setWidth 16 = (bv U q i).setWidth 16 := by
    apply BitVec.eq_of_getLsbD_eq
    intro b hb
    simp only [BitVec.getLsbD_setWidth, BitVec.getLsbD_ushiftRight]
    rw [Vq_bit U q x i b hx hi hb]
  have h1 : wI (Vq U q x >>> (16 * i)) % 2 ^ 16 = U (4 * q + i) := by
    have h2 := congrArg BitVec.toNat e
    rw [BitVec.toNat_setWidth] at h2
    have h3 := setWidth_mod (S := 16) (by decide) (U (4 * q + i))
    have h4 : (((Vq U q x >>> (16 * i)).toNat % 2 ^ 16 : Nat) : Int) = U (4 * q + i) % 2 ^ 16 := by
      rw [h2]; exact h3
    rw [Int.natCast_emod] at h4
    have : U (4 * q + i) % 2 ^ 16 = U (4 * q + i) := Int.emod_eq_of_lt hU.1 (by omega)
    rw [this] at h4
    exact_mod_cast h4
  unfold IntKind.wrap IntKind.bits IntKind.signed
  simp only [Bool.false_and]
  exact h1

/- rows of one char -/
variable {iv : Nat → IntKind × Int} {U : Nat → Int} {J L : Nat}
abbrev mI : Nat → Int
  | 0 => 65535
  | 1 => 4294901760
  | 2 => 281470681743360
  | _ => 18446462598732840960
def r0 (J L q : Nat) (l : List BRow) : List BRow :=
  (11, .int .i64 ((4 * q : Nat) : Int), .oi J, .bool (Nat.blt (4 * q) L)) :: (11, .oi (N q 0 0), .oi J, .bool (Nat.blt (4 * q) L)) :: (14, .oi (N q 0 0), .int .i64 0, .bool true) ::
  (15, .oi (N q 0 3), .int .i64 0, .oi (N q 0 5)) :: (5, .oi (N q 0 5), .int .u64 65535, .oi (N q 0 6)) :: (6, .int .u64 0, .oi (N q 0 6), .oi (N q 0 4)) ::
  (16, .oi (N q 0 4), .int .i64 0, .oi (N q 0 8)) :: (16, .oi (N q 1 4), .int .i64 0, .oi (N q 0 9)) :: (16, .oi (N q 2 4), .int .i64 0, .oi (N q 0 10)) :: (16, .oi (N q 3 4), .int .i64 0, .oi (N q 0 11)) ::
  (10, .oi (N q 0 1), .oi (N q 0 1), .bool false) :: l
def r1 (J L q : Nat) (l : List BRow) : List BRow :=
  (11, .int .i64 ((4 * q + 1 : Nat) : Int), .oi J, .bool (Nat.blt (4 * q + 1) L)) :: (11, .oi (N q 1 0), .oi J, .bool (Nat.blt (4 * q + 1) L)) :: (14, .oi (N q 1 0), .int .i64 0, .bool true) ::
  (8, .oi (N q 0 4), .int .u64 4294901760, .oi (N q 1 7)) :: (15, .oi (N q 1 3), .int .i64 16, .oi (N q 1 5)) :: (5, .oi (N q 1 5), .int .u64 4294901760, .oi (N q 1 6)) :: (6, .oi (N q 1 7), .oi (N q 1 6), .oi (N q 1 4)) ::
  (16, .oi (N q 1 4), .int .i64 16, .oi (N q 1 8)) :: (16, .oi (N q 2 4), .int .i64 16, .oi (N q 1 9)) :: (16, .oi (N q 3 4), .int .i64 16, .oi (N q 1 10)) ::
  (10, .oi (N q 1 1), .oi (N q 1 1), .bool false) :: l
def r2 (J L q : Nat) (l : List BRow) : List BRow :=
  (11, .int .i64 ((4 * q + 2 : Nat) : Int), .oi J, .bool (Nat.blt (4 * q + 2) L)) :: (11, .oi (N q 2 0), .oi J, .bool (Nat.blt (4 * q + 2) L)) :: (14, .oi (N q 2 0), .int .i64 0, .bool true) ::
  (8, .oi (N q 1 4), .int .u64 281470681743360, .oi (N q 2 7)) :: (15, .oi (N q 2 3), .int .i64 32, .oi (N q 2 5)) :: (5, .oi (N q 2 5), .int .u64 281470681743360, .oi (N q 2 6)) :: (6, .oi (N q 2 7), .oi (N q 2 6), .oi (N q 2 4)) ::
  (16, .oi (N q 2 4), .int .i64 32, .oi (N q 2 8)) :: (16, .oi (N q 3 4), .int .i64 32, .oi (N q 2 9)) ::
  (10, .oi (N q 2 1), .oi (N q 2 1), .bool false) :: l
def r3 (J L q : Nat) (l : List BRow) : List BRow :=
  (11, .int .i64 ((4 * q + 3 : Nat) : Int), .oi J, .bool (Nat.blt (4 * q + 3) L)) :: (11, .oi (N q 3 0), .oi J, .bool (Nat.blt (4 * q + 3) L)) :: (14, .oi (N q 3 0), .int .i64 0, .bool true) ::
  (8, .oi (N q 2 4), .int .u64 18446462598732840960, .oi (N q 3 7)) :: (15, .oi (N q 3 3), .int .i64 48, .oi (N q 3 5)) :: (5, .oi (N q 3 5), .int .u64 18446462598732840960, .oi (N q 3 6)) :: (6, .oi (N q 3 7), .oi (N q 3 6), .oi (N q 3 4)) ::
  (16, .oi (N q 3 4), .int .i64 48, .oi (N q 3 8)) ::
  (10, .oi (N q 3 1), .oi (N q 3 1), .bool false) :: l
/-- rows of so many words -/
def rB (J L : Nat) (b : List BRow) : Nat → List BRow
  | 0 => b
  | q + 1 => r0 J L q (r1 J L q (r2 J L q (r3 J L q (rB J L b q))))
theorem allC {α : Type} {G : α → Prop} {a : α} {l : List α} (h : G a) (k : ∀ r ∈ l, G r) : ∀ r ∈ a :: l, G r := fun r hr => by
  simp only [List.mem_cons] at hr
  rcases hr with rfl | hr
  · exact h
  · exact k r hr
section
variable (hiv : ∀ m, 100 ≤ m → iv m = ivC U m) (hJ : iv J = (.i64, (L : Int)))
include hiv
theorem at_ (q i j : Nat) (hi : i < 4) (hj : j < 12) : denI iv (.oi (N q i j)) = some (cell U q i j) := by
  show some (iv (N q i j)) = _
  rw [hiv _ (by unfold N; omega), ivC_at U q i j hi hj]
theorem ge_ (q i : Nat) (hi : i < 4) : IbOk iv (14, .oi (N q i 0), .int .i64 0, .bool true) := ibGe (a := ((4 * q + i : Nat) : Int)) (b := 0) (at_ hiv q i 0 hi (by decide)) rfl (decide_eq_true (by omega))
theorem ne_ (q i : Nat) (hi : i < 4) : IbOk iv (10, .oi (N q i 1), .oi (N q i 1), .bool false) := ibNeK (k := .u16) (a := U (4 * q + i)) (b := U (4 * q + i)) (at_ hiv q i 1 hi (by decide)) (at_ hiv q i 1 hi (by decide)) (by simp)
theorem shr_ (q i x : Nat) (hx : i + x < 4) : IbOk iv (16, .oi (N q (i + x) 4), .int .i64 ((16 * i : Nat) : Int), .oi (N q i (x + 8))) :=
  ibShrW (W := Vq U q (i + x)) (k' := .i64) (s := 16 * i) (at_ hiv q (i + x) 4 hx (by decide)) rfl (at_ hiv q i (x + 8) (by omega) (by omega)) (by omega) rfl
theorem shl_ (q i : Nat) (hi : i < 4) : IbOk iv (15, .oi (N q i 3), .int .i64 ((16 * i : Nat) : Int), .oi (N q i 5)) :=
  ibShlW (W := bv U q i) (k' := .i64) (s := 16 * i) (at_ hiv q i 3 hi (by decide)) rfl (at_ hiv q i 5 hi (by decide)) (by omega) rfl
theorem and_ (q i : Nat) (hi : i < 4) (m : Int) (hm : m = wI (mk i)) : IbOk iv (5, .oi (N q i 5), .int .u64 m, .oi (N q i 6)) :=
  ibAndW (at_ hiv q i 5 hi (by decide)) (by rw [hm]; rfl) (at_ hiv q i 6 hi (by decide)) rfl
theorem an_ (q i : Nat) (hi : i + 1 < 4) (m : Int) (hm : m = wI (mk (i + 1))) : IbOk iv (8, .oi (N q i 4), .int .u64 m, .oi (N q (i + 1) 7)) :=
  ibAndNotW (at_ hiv q i 4 (by omega) (by decide)) (by rw [hm]; rfl) (at_ hiv q (i + 1) 7 hi (by decide)) rfl
theorem or_ (q i : Nat) (hi : i + 1 < 4) : IbOk iv (6, .oi (N q (i + 1) 7), .oi (N q (i + 1) 6), .oi (N q (i + 1) 4)) :=
  ibOrW (at_ hiv q (i + 1) 7 hi (by decide)) (at_ hiv q (i + 1) 6 hi (by decide)) (at_ hiv q (i + 1) 4 hi (by decide)) rfl
theorem or0_ (q : Nat) : IbOk iv (6, .int .u64 0, .oi (N q 0 6), .oi (N q 0 4)) :=
  ibOrW (W := 0#64) rfl (at_ hiv q 0 6 (by decide) (by decide)) (at_ hiv q 0 4 (by decide) (by decide)) rfl
include hJ
theorem lt_ (q i : Nat) (hi : i < 4) : IbOk iv (11, .oi (N q i 0), .oi J, .bool (Nat.blt (4 * q + i) L)) := by
  refine ibLt (a := ((4 * q + i : Nat) : Int)) (b := (L : Int)) (at_ hiv q i 0 hi (by decide)) (by show some (iv J) = _; rw [hJ]) ?_
  rw [Bool.eq_iff_iff, decide_eq_true_iff, Nat.blt_eq]
  omega
omit hiv in
theorem ltc_ (k : Nat) : IbOk iv (11, .int .i64 (k : Int), .oi J, .bool (Nat.blt k L)) := by
  refine ibLt (a := (k : Int)) (b := (L : Int)) rfl (by show some (iv J) = _; rw [hJ]) ?_
  rw [Bool.eq_iff_iff, decide_eq_true_iff, Nat.blt_eq]
  omega
theorem rB_ok {b : List BRow} (hb : ∀ r ∈ b, IbOk iv r) : ∀ q, ∀ r ∈ rB J L b q, IbOk iv r
  | 0 => hb
  | q + 1 => by
    have ih := rB_ok hb q
    unfold rB r0 r1 r2 r3
    exact allC (ltc_ hJ _) <| allC (lt_ hiv hJ q 0 (by decide)) <| allC (ge_ hiv q 0 (by decide)) <| allC (shl_ hiv q 0 (by decide)) <| allC (and_ hiv q 0 (by decide) _ (by decide)) <| allC (or0_ hiv q) <|
      allC (shr_ hiv q 0 0 (by decide)) <| allC (shr_ hiv q 0 1 (by decide)) <| allC (shr_ hiv q 0 2 (by decide)) <| allC (shr_ hiv q 0 3 (by decide)) <| allC (ne_ hiv q 0 (by decide)) <|
      allC (ltc_ hJ _) <| allC (lt_ hiv hJ q 1 (by decide)) <| allC (ge_ hiv q 1 (by decide)) <| allC (an_ hiv q 0 (by decide) _ (by decide)) <| allC (shl_ hiv q 1 (by decide)) <| allC (and_ hiv q 1 (by decide) _ (by decide)) <| allC (or_ hiv q 0 (by decide)) <|
      allC (shr_ hiv q 1 0 (by decide)) <| allC (shr_ hiv q 1 1 (by decide)) <| allC (shr_ hiv q 1 2 (by decide)) <| allC (ne_ hiv q 1 (by decide)) <|
      allC (ltc_ hJ _) <| allC (lt_ hiv hJ q 2 (by decide)) <| allC (ge_ hiv q 2 (by decide)) <| allC (an_ hiv q 1 (by decide) _ (by decide)) <| allC (shl_ hiv q 2 (by decide)) <| allC (and_ hiv q 2 (by decide) _ (by decide)) <| allC (or_ hiv q 1 (by decide)) <|
      allC (shr_ hiv q 2 0 (by decide)) <| allC (shr_ hiv q 2 1 (by decide)) <| allC (ne_ hiv q 2 (by decide)) <|
      allC (ltc_ hJ _) <| allC (lt_ hiv hJ q 3 (by decide)) <| allC (ge_ hiv q 3 (by decide)) <| allC (an_ hiv q 2 (by decide) _ (by decide)) <| allC (shl_ hiv q 3 (by decide)) <| allC (and_ hiv q 3 (by decide) _ (by decide)) <| allC (or_ hiv q 2 (by decide)) <|
      allC (shr_ hiv q 3 0 (by decide)) <| allC (ne_ hiv q 3 (by decide)) ih
end
/- rows of conversions, constants, loads -/
abbrev CRow := IntKind × AV × AV
def rC (b : List CRow) : Nat → List CRow
  | 0 => b
  | q + 1 => (.i64, .oi (N q 0 1), .oi (N q 0 2)) :: (.u64, .oi (N q 0 2), .oi (N q 0 3)) :: (.i64, .oi (N q 1 1), .oi (N q 1 2)) :: (.u64, .oi (N q 1 2), .oi (N q 1 3)) ::
    (.i64, .oi (N q 2 1), .oi (N q 2 2)) :: (.u64, .oi (N q 2 2), .oi (N q 2 3)) :: (.i64, .oi (N q 3 1), .oi (N q 3 2)) :: (.u64, .oi (N q 3 2), .oi (N q 3 3)) ::
    (.u16, .oi (N q 0 8), .oi (N q 0 1)) :: (.u16, .oi (N q 0 9), .oi (N q 0 1)) :: (.u16, .oi (N q 0 10), .oi (N q 0 1)) :: (.u16, .oi (N q 0 11), .oi (N q 0 1)) ::
    (.u16, .oi (N q 1 8), .oi (N q 1 1)) :: (.u16, .oi (N q 1 9), .oi (N q 1 1)) :: (.u16, .oi (N q 1 10), .oi (N q 1 1)) ::
    (.u16, .oi (N q 2 8), .oi (N q 2 1)) :: (.u16, .oi (N q 2 9), .oi (N q 2 1)) :: (.u16, .oi (N q 3 8), .oi (N q 3 1)) :: rC b q
section
variable (hiv : ∀ m, 100 ≤ m → iv m = ivC U m) (hU : ∀ k, 0 ≤ U k ∧ U k < 65536)
include hiv hU
theorem c1 (q i : Nat) (hi : i < 4) : IcOk iv (.i64, .oi (N q i 1), .oi (N q i 2)) := icOf (k := .i64) (k' := .u16) (n := U (4 * q + i)) (c := U (4 * q + i)) (at_ hiv q i 1 hi (by decide)) (at_ hiv q i 2 hi (by decide)) (by have := hU (4 * q + i); exact wrap64 (by omega) (by omega))
omit hU in
theorem c2 (q i : Nat) (hi : i < 4) : IcOk iv (.u64, .oi (N q i 2), .oi (N q i 3)) := icOf (k := .u64) (k' := .i64) (n := U (4 * q + i)) (c := wI (bv U q i)) (at_ hiv q i 2 hi (by decide)) (at_ hiv q i 3 hi (by decide)) (u64OfInt _)
theorem c3 (q i x : Nat) (hx : i + x < 4) : IcOk iv (.u16, .oi (N q i (x + 8)), .oi (N q i 1)) := icOf (k := .u16) (k' := .u64) (n := wI (Vq U q (i + x) >>> (16 * i))) (c := U (4 * q + i)) (at_ hiv q i (x + 8) (by omega) (by omega)) (at_ hiv q i 1 (by omega) (by decide)) (low_is U q (i + x) i hx (by omega) (hU _))
theorem rC_ok {b : List CRow} (hb : ∀ r ∈ b, IcOk iv r) : ∀ q, ∀ r ∈ rC b q, IcOk iv r
  | 0 => hb
  | q + 1 => by
    have ih := rC_ok hb q
    unfold rC
    exact allC (c1 hiv hU q 0 (by decide)) <| allC (c2 hiv q 0 (by decide)) <| allC (c1 hiv hU q 1 (by decide)) <| allC (c2 hiv q 1 (by decide)) <| allC (c1 hiv hU q 2 (by decide)) <| allC (c2 hiv q 2 (by decide)) <| allC (c1 hiv hU q 3 (by decide)) <| allC (c2 hiv q 3 (by decide)) <|
      allC (c3 hiv hU q 0 0 (by decide)) <| allC (c3 hiv hU q 0 1 (by decide)) <| allC (c3 hiv hU q 0 2 (by decide)) <| allC (c3 hiv hU q 0 3 (by decide)) <|
      allC (c3 hiv hU q 1 0 (by decide)) <| allC (c3 hiv hU q 1 1 (by decide)) <| allC (c3 hiv hU q 1 2 (by decide)) <|
      allC (c3 hiv hU q 2 0 (by decide)) <| allC (c3 hiv hU q 2 1 (by decide)) <| allC (c3 hiv hU q 3 0 (by decide)) ih
end
/- bytes -/
theorem ibLtK {iv : Nat → IntKind × Int} {x y : AV} {k : IntKind} {a b : Int} {t : Bool} (hx : denI iv x = some (k, a)) (hy : denI iv y = some (k, b)) (h : decide (a < b) = t) : IbOk iv (11, x, y, .bool t) := by
  refine ibOf (op := .lss) hx hy (v := .bool (decide (a < b))) ?_ ?_
  · show (Bool.rec (ifb (Nat.beq (kcode k) (kcode k)) (intOp .lss k a b)) (shiftOp .lss k a b) false : Option AV) = _
    rw [kc]; rfl
  · show AV.bool t = .bool (decide (a < b))
    rw [h]
theorem ibLeK {iv : Nat → IntKind × Int} {x y : AV} {k : IntKind} {a b : Int} {t : Bool} (hx : denI iv x = some (k, a)) (hy : denI iv y = some (k, b)) (h : decide (a ≤ b) = t) : IbOk iv (12, x, y, .bool t) := by
  refine ibOf (op := .leq) hx hy (v := .bool (decide (a ≤ b))) ?_ ?_
  · show (Bool.rec (ifb (Nat.beq (kcode k) (kcode k)) (intOp .leq k a b)) (shiftOp .leq k a b) false : Option AV) = _
    rw [kc]; rfl
  · show AV.bool t = .bool (decide (a ≤ b))
    rw [h]
theorem ibGtK {iv : Nat → IntKind × Int} {x y : AV} {k : IntKind} {a b : Int} {t : Bool} (hx : denI iv x = some (k, a)) (hy : denI iv y = some (k, b)) (h : decide (a > b) = t) : IbOk iv (13, x, y, .bool t) := by
  refine ibOf (op := .gtr) hx hy (v := .bool (decide (a > b))) ?_ ?_
  · show (Bool.rec (ifb (Nat.beq (kcode k) (kcode k)) (intOp .gtr k a b)) (shiftOp .gtr k a b) false : Option AV) = _
    rw [kc]; rfl
  · show AV.bool t = .bool (decide (a > b))
    rw [h]
/-- the name of a byte -/
abbrev B (k : Nat) : Nat := N (k / 4) (k % 4) 12
def bl : Nat → Nat → List AV
  | 0, _ => []
  | n + 1, k => .oi (B k) :: bl n (k + 1)
def x0 (q i : Nat) (l : List BRow) : List BRow :=
  (11, .oi (N q i 12), .int .u8 1, .bool false) :: (13, .oi (N q i 12), .int .u8 126, .bool false) :: (13, .oi (N q i 1), .int .u16 0, .bool true) :: (11, .oi (N q i 1), .int .u16 128, .bool true) ::
  (5, .oi (N q i 13), .int .i32 64512, .int .i32 0) :: (5, .oi (N q i 13), .int .i32 63488, .int .i32 0) :: (12, .oi (N q i 14), .int .u32 127, .bool true) :: l
def rX (b : List BRow) : Nat → List BRow
  | 0 => b
  | q + 1 => x0 q 0 (x0 q 1 (x0 q 2 (x0 q 3 (rX b q))))
theorem and0 : ∀ u : Nat, u < 127 → IntKind.i32.wrap ((BitVec.ofInt 32 (u : Int) &&& BitVec.ofInt 32 64512).toNat : Int) = 0 ∧ IntKind.i32.wrap ((BitVec.ofInt 32 (u : Int) &&& BitVec.ofInt 32 63488).toNat : Int) = 0 := by
  decide
section
variable {iv : Nat → IntKind × Int} {U : Nat → Int} (hiv : ∀ m, 100 ≤ m → iv m = ivC U m)
include hiv
theorem at2 (q i j : Nat) (hi : i < 4) (h0 : 12 ≤ j) (hj : j < 20) : denI iv (.oi (N q i j)) = some (cell2 U q i j) := by
  show some (iv (N q i j)) = _
  rw [hiv _ (by unfold N; omega), ivC_at2 U q i j hi h0 hj]
theorem atB (k : Nat) : denI iv (.oi (B k)) = some (.u8, U k) := by
  rw [at2 hiv (k / 4) (k % 4) 12 (by omega) (by decide) (by decide)]
  show some (IntKind.u8, U (4 * (k / 4) + k % 4)) = _
  rw [show 4 * (k / 4) + k % 4 = k by omega]
theorem bl_den : ∀ n k, (bl n k).map (denI iv) = (List.range' k n).map fun m => some (IntKind.u8, U m)
  | 0, k => rfl
  | n + 1, k => by
    show denI iv (.oi (B k)) :: (bl n (k + 1)).map (denI iv) = _
    rw [atB hiv k, bl_den n (k + 1)]
    rfl
variable (hU : ∀ k, 1 ≤ U k ∧ U k ≤ 126)
include hU
theorem x0_ok (q i : Nat) (hi : i < 4) {l : List BRow} (hl : ∀ r ∈ l, IbOk iv r) : ∀ r ∈ x0 q i l, IbOk iv r := by
  have hu := hU (4 * q + i)
  have d12 : denI iv (.oi (N q i 12)) = some (.u8, U (4 * q + i)) := at2 hiv q i 12 hi (by decide) (by decide)
  have d13 : denI iv (.oi (N q i 13)) = some (.i32, U (4 * q + i)) := at2 hiv q i 13 hi (by decide) (by decide)
  have d14 : denI iv (.oi (N q i 14)) = some (.u32, U (4 * q + i)) := at2 hiv q i 14 hi (by decide) (by decide)
  have d1 : denI iv (.oi (N q i 1)) = some (.u16, U (4 * q + i)) := at_ hiv q i 1 hi (by decide)
  have an : ((U (4 * q + i)).toNat : Int) = U (4 * q + i) := Int.toNat_of_nonneg (by omega)
  have aa := and0 (U (4 * q + i)).toNat (by omega)
  rw [an] at aa
  unfold x0
  exact allC (ibLtK (a := U (4 * q + i)) (b := 1) d12 rfl (decide_eq_false (by omega))) <| allC (ibGtK (a := U (4 * q + i)) (b := 126) d12 rfl (decide_eq_false (by omega))) <|
    allC (ibGtK (a := U (4 * q + i)) (b := 0) d1 rfl (decide_eq_true (by omega))) <| allC (ibLtK (a := U (4 * q + i)) (b := 128) d1 rfl (decide_eq_true (by omega))) <|
    allC (ibAnd (k := .i32) (a := U (4 * q + i)) (b := 64512) (c := 0) d13 rfl rfl aa.1) <| allC (ibAnd (k := .i32) (a := U (4 * q + i)) (b := 63488) (c := 0) d13 rfl rfl aa.2) <|
    allC (ibLeK (a := U (4 * q + i)) (b := 127) d14 rfl (decide_eq_true (by omega))) hl
theorem rX_ok {b : List BRow} (hb : ∀ r ∈ b, IbOk iv r) : ∀ q, ∀ r ∈ rX b q, IbOk iv r
  | 0 => hb
  | q + 1 => by
    unfold rX
    exact x0_ok hiv hU q 0 (by decide) (x0_ok hiv hU q 1 (by decide) (x0_ok hiv hU q 2 (by decide) (x0_ok hiv hU q 3 (by decide) (rX_ok hb q))))
/-- conversions of a byte -/
def y0 (q i : Nat) (l : List CRow) : List CRow :=
  (.u16, .oi (N q i 12), .oi (N q i 1)) :: (.u8, .oi (N q i 1), .oi (N q i 12)) :: (.i32, .oi (N q i 1), .oi (N q i 13)) :: (.u32, .oi (N q i 13), .oi (N q i 14)) :: (.u8, .oi (N q i 13), .oi (N q i 12)) :: l
def rY (b : List CRow) : Nat → List CRow
  | 0 => b
  | q + 1 => y0 q 0 (y0 q 1 (y0 q 2 (y0 q 3 (rY b q))))
theorem y0_ok (q i : Nat) (hi : i < 4) {l : List CRow} (hl : ∀ r ∈ l, IcOk iv r) : ∀ r ∈ y0 q i l, IcOk iv r := by
  have hu := hU (4 * q + i)
  have d12 : denI iv (.oi (N q i 12)) = some (.u8, U (4 * q + i)) := at2 hiv q i 12 hi (by decide) (by decide)
  have d13 : denI iv (.oi (N q i 13)) = some (.i32, U (4 * q + i)) := at2 hiv q i 13 hi (by decide) (by decide)
  have d14 : denI iv (.oi (N q i 14)) = some (.u32, U (4 * q + i)) := at2 hiv q i 14 hi (by decide) (by decide)
  have d1 : denI iv (.oi (N q i 1)) = some (.u16, U (4 * q + i)) := at_ hiv q i 1 hi (by decide)
  have w : ∀ k : IntKind, k.wrap (U (4 * q + i)) = U (4 * q + i) := by
    intro k
    cases k <;> (unfold IntKind.wrap IntKind.bits IntKind.signed; simp only [Bool.true_and, Bool.false_and, decide_eq_true_eq]; first | omega | (split <;> omega) | (rw [if_neg (by simp)]; omega))
  unfold y0
  exact allC (icOf (k := .u16) (k' := .u8) d12 d1 (w _)) <| allC (icOf (k := .u8) (k' := .u16) d1 d12 (w _)) <| allC (icOf (k := .i32) (k' := .u16) d1 d13 (w _)) <| allC (icOf (k := .u32) (k' := .i32) d13 d14 (w _)) <| allC (icOf (k := .u8) (k' := .i32) d13 d12 (w _)) hl
theorem rY_ok {b : List CRow} (hb : ∀ r ∈ b, IcOk iv r) : ∀ q, ∀ r ∈ rY b q, IcOk iv r
  | 0 => hb
  | q + 1 => by
    unfold rY
    exact y0_ok hiv hU q 0 (by decide) (y0_ok hiv hU q 1 (by decide) (y0_ok hiv hU q 2 (by decide) (y0_ok hiv hU q 3 (by decide) (rY_ok hb q))))
end
/- texts -/
/-- the bytes of a text, as numbers; behind its end ones -/
def byt (s : ByteArray) (k : Nat) : Int := match s[k]? with | some x => (x.toNat : Int) | none => 1
theorem byt_some {s : ByteArray} {k : Nat} (h : k < s.size) : s[k]? = some s[k] ∧ byt s k = (s[k].toNat : Int) := by
  have h1 : s[k]? = some s[k] := getElem?_pos s k h
  exact ⟨h1, by unfold byt; rw [h1]⟩
theorem byt_list (s : ByteArray) : (List.range' 0 s.size).map (byt s) = s.data.toList.map fun x => (x.toNat : Int) := by
  apply List.ext_getElem
  · rw [List.length_map, List.length_range', List.length_map, Array.length_toList]; rfl
  · intro i h1 h2
    have h : i < s.size := by rw [List.length_map, List.length_range'] at h1; exact h1
    simp only [List.getElem_map, List.getElem_range', Nat.zero_add, Nat.one_mul]
    rw [(byt_some h).2]
    rfl
theorem strOf_cons (n c : Nat) : strOf (n + 1) c = strOf 1 (c % 256) ++ strOf n (c / 256) := by
  apply ByteArray.ext
  apply Array.ext'
  simp [strOf, dec]
theorem str1_inj {x y : Nat} (hx : x < 256) (hy : y < 256) {s t : ByteArray} (h : strOf 1 x ++ s = strOf 1 y ++ t) : x = y ∧ s = t := by
  have h1 := congrArg (fun b : ByteArray => b.data.toList) h
  simp [strOf, dec] at h1
  obtain ⟨h2, h3⟩ := h1
  constructor
  · have := congrArg UInt8.toNat h2
    simp only [UInt8.toNat_ofNat'] at this
    omega
  · exact ByteArray.ext h3
theorem ne_first {x n c : Nat} {s : ByteArray} (hx : x < 256) (h : c % 256 ≠ x) : strOf 1 x ++ s ≠ strOf (n + 1) c := fun e => by
  rw [strOf_cons n c] at e
  exact h (str1_inj hx (by omega) e).1.symm
theorem ne_rest {x n c : Nat} {s : ByteArray} (hx : x < 256) (h : s ≠ strOf n (c / 256)) : strOf 1 x ++ s ≠ strOf (n + 1) c := fun e => by
  rw [strOf_cons n c] at e
  exact h (str1_inj hx (by omega) e).2
end Go.X.chars8
