/-
  Numbers cut to kinds: in which ranges they are, and what is left of them.
-/
import Derived.Test.YtedimikdpclpnaaGreatDoorXN3
set_option linter.unusedVariables false
namespace Go.X
theorem wr8 (n : Int) : -128 ≤ IntKind.i8.wrap n ∧ IntKind.i8.wrap n ≤ 127 := by
  have hb : IntKind.i8.bits = 8 := rfl
  have hs : IntKind.i8.signed = true := rfl
  unfold IntKind.wrap
  simp only [hb, hs]
  split <;> (rename_i h; simp at h; omega)
theorem wr16 (n : Int) : -32768 ≤ IntKind.i16.wrap n ∧ IntKind.i16.wrap n ≤ 32767 := by
  have hb : IntKind.i16.bits = 16 := rfl
  have hs : IntKind.i16.signed = true := rfl
  unfold IntKind.wrap
  simp only [hb, hs]
  split <;> (rename_i h; simp at h; omega)
theorem wr32 (n : Int) : -2147483648 ≤ IntKind.i32.wrap n ∧ IntKind.i32.wrap n ≤ 2147483647 := by
  have hb : IntKind.i32.bits = 32 := rfl
  have hs : IntKind.i32.signed = true := rfl
  unfold IntKind.wrap
  simp only [hb, hs]
  split <;> (rename_i h; simp at h; omega)
theorem wru16 (n : Int) : 0 ≤ IntKind.u16.wrap n ∧ IntKind.u16.wrap n ≤ 65535 := by
  have hb : IntKind.u16.bits = 16 := rfl
  have hs : IntKind.u16.signed = false := rfl
  unfold IntKind.wrap
  simp only [hb, hs]
  split <;> (rename_i h; simp at h; try omega)
theorem and1 (x : Int) : IntKind.i64.wrap ((BitVec.ofInt IntKind.i64.bits x &&& BitVec.ofInt IntKind.i64.bits 1).toNat : Int) = x % 2 := by
  have h1 : (BitVec.ofInt IntKind.i64.bits x &&& BitVec.ofInt IntKind.i64.bits 1).toNat = (x % 2).toNat := by
    show (BitVec.ofInt 64 x &&& 1#64).toNat = _
    rw [BitVec.toNat_and, BitVec.toNat_ofInt]
    show (x % 2 ^ 64).toNat &&& 1 = _
    rw [Nat.and_one_is_mod]
    omega
  rw [h1]
  have h2 : ((x % 2).toNat : Int) = x % 2 := by omega
  rw [h2]
  exact wrap64 (by omega) (by omega)
theorem w32_two (n : Int) : IntKind.i32.wrap n % 2 = n % 2 := by
  have h := wrap_mod .i32 n
  have h' : IntKind.i32.wrap n % 4294967296 = n % 4294967296 := h
  omega
theorem back64 {n : Int} (h1 : -9223372036854775808 ≤ n) (h2 : n ≤ 9223372036854775807) : IntKind.i64.wrap (IntKind.u64.wrap n) = n := by
  rw [wrap_wrap (by decide)]; exact wrap64 h1 h2
end Go.X
