/-
  Longs as bytes: what their parts come to.
-/
import Derived.Test.YtbgkinjicnnkiaaGreatDoorXN3
set_option linter.unusedVariables false
set_option linter.unusedSimpArgs false
set_option linter.unusedSectionVars false
namespace Go.X
open Go.RowKit
variable {iv : Nat → IntKind × Int}
theorem shr_is {A : Int} {k : Nat} {m : Int} (h : (2 : Int) ^ k = m) (hm : 0 ≤ m) : A.fdiv (2 ^ k) = A / m := by
  rw [h, Int.fdiv_eq_ediv_of_nonneg _ hm]
theorem u8w (n : Int) : IntKind.u8.wrap n = n % 256 := by
  unfold IntKind.wrap IntKind.bits IntKind.signed
  simp
theorem or_add {x y : Int} (m : Nat) (hx : x % (2 : Int) ^ m = 0) (h0 : 0 ≤ y) (h1 : y < (2 : Int) ^ m) (hm : m ≤ 63) (hs : -9223372036854775808 ≤ x + y) (hs' : x + y ≤ 9223372036854775807) :
    IntKind.i64.wrap ((BitVec.ofInt IntKind.i64.bits x ||| BitVec.ofInt IntKind.i64.bits y).toNat : Int) = x + y := by
  show IntKind.i64.wrap ((BitVec.ofInt 64 x ||| BitVec.ofInt 64 y).toNat : Int) = x + y
  have hp : (2 : Nat) ^ m ∣ 2 ^ 64 := Nat.pow_dvd_pow 2 (by omega)
  have hy : (y % (2 : Int) ^ 64).toNat = y.toNat := by
    have : y < (2 : Int) ^ 64 := by
      have : (2 : Int) ^ m ≤ 2 ^ 64 := by exact_mod_cast Nat.pow_le_pow_right (by omega) (by omega)
      omega
    rw [Int.emod_eq_of_lt h0 this]
  obtain ⟨q, hq⟩ : ∃ q : Nat, (x % (2 : Int) ^ 64).toNat = 2 ^ m * q := by
    have h2 : (2 : Int) ^ m ∣ x % (2 : Int) ^ 64 := by
      have hd : (2 : Int) ^ m ∣ 2 ^ 64 := by exact_mod_cast hp
      rw [Int.emod_def]
      exact Int.dvd_sub (Int.dvd_of_emod_eq_zero hx) (Int.dvd_trans hd (Int.dvd_mul_right _ _))
    have h3 : 0 ≤ x % (2 : Int) ^ 64 := Int.emod_nonneg _ (by decide)
    have h4 : ((2 ^ m : Nat) : Int) ∣ ((x % (2 : Int) ^ 64).toNat : Int) := by rw [Int.toNat_of_nonneg h3]; exact_mod_cast h2
    exact (Int.natCast_dvd_natCast.1 h4)
  have hyl : y.toNat < 2 ^ m := by
    have : (y.toNat : Int) < ((2 ^ m : Nat) : Int) := by rw [Int.toNat_of_nonneg h0]; exact_mod_cast h1
    exact_mod_cast this
  rw [BitVec.toNat_or, BitVec.toNat_ofInt, BitVec.toNat_ofInt]
  have e : ((x % ((2 ^ 64 : Nat) : Int)).toNat ||| (y % ((2 ^ 64 : Nat) : Int)).toNat) = (x % (2 : Int) ^ 64).toNat + y.toNat := by
    have c : ((2 ^ 64 : Nat) : Int) = (2 : Int) ^ 64 := by rfl
    rw [c, hy, hq, ← Nat.two_pow_add_eq_or_of_lt hyl]
  rw [e]
  have h3 : 0 ≤ x % (2 : Int) ^ 64 := Int.emod_nonneg _ (by decide)
  have e2 : ((((x % (2 : Int) ^ 64).toNat + y.toNat : Nat)) : Int) % 2 ^ IntKind.i64.bits = (x + y) % 2 ^ IntKind.i64.bits := by
    show _ % (2 : Int) ^ 64 = _ % (2 : Int) ^ 64
    rw [Int.natCast_add]
    rw [Int.toNat_of_nonneg h3, Int.toNat_of_nonneg h0, Int.emod_add_emod]
  rw [wrap_congr .i64 e2, wrap64 hs hs']
theorem ibMulW {x y z : AV} {a b c : Int} (hx : denI iv x = some (.i64, a)) (hy : denI iv y = some (.i64, b)) (hz : denI iv z = some (.i64, c)) (h : IntKind.i64.wrap (a * b) = c) : IbOk iv (2, x, y, z) := by
  letI := Tab.empty
  refine ibOf (op := .mul) hx hy (v := .int .i64 c) ?_ hz
  rw [← h]
  show some (AV.int .i64 (wrapF .i64 (Int.mul a b))) = _
  rw [wrapF_eq]; rfl
theorem ibAddW {x y z : AV} {a b c : Int} (hx : denI iv x = some (.i64, a)) (hy : denI iv y = some (.i64, b)) (hz : denI iv z = some (.i64, c)) (h : IntKind.i64.wrap (a + b) = c) : IbOk iv (0, x, y, z) := by
  letI := Tab.empty
  refine ibOf (op := .add) hx hy (v := .int .i64 c) ?_ hz
  rw [← h]
  show some (AV.int .i64 (wrapF .i64 (Int.add a b))) = _
  rw [wrapF_eq]; rfl
theorem ibXorW {x y z : AV} {k : IntKind} {a b c : Int} (hx : denI iv x = some (k, a)) (hy : denI iv y = some (k, b)) (hz : denI iv z = some (k, c)) (h : k.wrap ((BitVec.ofInt k.bits a ^^^ BitVec.ofInt k.bits b).toNat : Int) = c) : IbOk iv (7, x, y, z) := by
  refine ibOf (op := .xor) hx hy (v := .int k c) ?_ hz
  show (Bool.rec (ifb (Nat.beq (kcode k) (kcode k)) (intOp .xor k a b)) (shiftOp .xor k a b) false : Option AV) = _
  rw [kc, ← h]; rfl
theorem and63 (x : Int) : IntKind.i64.wrap ((BitVec.ofInt IntKind.i64.bits x &&& BitVec.ofInt IntKind.i64.bits 63).toNat : Int) = x % 64 := by
  have e : ((BitVec.ofInt IntKind.i64.bits x &&& BitVec.ofInt IntKind.i64.bits 63).toNat : Int) = x % 64 := by
    show ((BitVec.ofInt 64 x &&& BitVec.ofInt 64 63).toNat : Int) = x % 64
    rw [BitVec.toNat_and, BitVec.toNat_ofInt, show (BitVec.ofInt 64 63).toNat = 2 ^ 6 - 1 from rfl, Nat.and_two_pow_sub_one_eq_mod]
    have h3 : 0 ≤ x % ((2 ^ 64 : Nat) : Int) := Int.emod_nonneg _ (by decide)
    rw [Int.natCast_emod, Int.toNat_of_nonneg h3]
    show x % 18446744073709551616 % 64 = x % 64
    omega
  rw [e]
  exact wrap64 (by omega) (by omega)
theorem w32_64 (n : Int) : IntKind.i32.wrap n % 64 = n % 64 := by
  unfold IntKind.wrap IntKind.bits IntKind.signed
  simp only [Bool.true_and, decide_eq_true_eq]
  split <;> omega
theorem w32_lo (n : Int) : -2147483648 ≤ IntKind.i32.wrap n ∧ IntKind.i32.wrap n ≤ 2147483647 := by
  unfold IntKind.wrap IntKind.bits IntKind.signed
  simp only [Bool.true_and, decide_eq_true_eq]
  split <;> omega
/-- four bytes that are shifted up to the high half -/
theorem hi_is {a u : Int} (h1 : -9223372036854775808 ≤ a) (h2 : a ≤ 9223372036854775807) (hu : u = a / 4294967296 % 4294967296) : IntKind.i64.wrap (u * 4294967296) = a / 4294967296 * 4294967296 := by
  subst hu
  unfold IntKind.wrap IntKind.bits IntKind.signed
  simp only [Bool.true_and, decide_eq_true_eq]
  split <;> omega
end Go.X
