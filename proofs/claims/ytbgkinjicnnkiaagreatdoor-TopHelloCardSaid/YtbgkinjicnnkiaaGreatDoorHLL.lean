/-
  Two texts by name in one family of names: the second one's chars begin at 200.
-/
import Derived.Test.YtbgkinjicnnkiaaGreatDoorTML
import Derived.Test.YtbgkinjicnnkiaaGreatDoorHLN
set_option linter.unusedVariables false
set_option linter.unusedSimpArgs false
set_option linter.unusedSectionVars false
namespace Go.X.chars8
open Go.X Go.RowKit
/-- the chars of two texts -/
def two (s t : ByteArray) (k : Nat) : Int := if k < 200 then byt s k else byt t (k - 200)
theorem two_lo (s t : ByteArray) {k : Nat} (h : k < 200) : two s t k = byt s k := by unfold two; rw [if_pos h]
theorem two_hi (s t : ByteArray) (k : Nat) : two s t (200 + k) = byt t k := by
  unfold two
  rw [if_neg (Nat.not_lt.2 (Nat.le_add_right 200 k)), Nat.add_sub_cancel_left]
section
variable {iv : Nat → IntKind × Int} {U : Nat → Int}
def rXo (q0 : Nat) (b : List BRow) : Nat → List BRow
  | 0 => b
  | q + 1 => x0 (q0 + q) 0 (x0 (q0 + q) 1 (x0 (q0 + q) 2 (x0 (q0 + q) 3 (rXo q0 b q))))
def rYo (q0 : Nat) (b : List CRow) : Nat → List CRow
  | 0 => b
  | q + 1 => y0 (q0 + q) 0 (y0 (q0 + q) 1 (y0 (q0 + q) 2 (y0 (q0 + q) 3 (rYo q0 b q))))
variable (hiv : ∀ m, 100 ≤ m → iv m = ivC U m) (hU : ∀ k, 1 ≤ U k ∧ U k ≤ 126)
include hiv hU
theorem rXo_ok (q0 : Nat) {b : List BRow} (hb : ∀ r ∈ b, IbOk iv r) : ∀ q, ∀ r ∈ rXo q0 b q, IbOk iv r
  | 0 => hb
  | q + 1 => by
    unfold rXo
    exact x0_ok hiv hU _ 0 (by decide) (x0_ok hiv hU _ 1 (by decide) (x0_ok hiv hU _ 2 (by decide) (x0_ok hiv hU _ 3 (by decide) (rXo_ok q0 hb q))))
theorem rYo_ok (q0 : Nat) {b : List CRow} (hb : ∀ r ∈ b, IcOk iv r) : ∀ q, ∀ r ∈ rYo q0 b q, IcOk iv r
  | 0 => hb
  | q + 1 => by
    unfold rYo
    exact y0_ok hiv hU _ 0 (by decide) (y0_ok hiv hU _ 1 (by decide) (y0_ok hiv hU _ 2 (by decide) (y0_ok hiv hU _ 3 (by decide) (rYo_ok q0 hb q))))
end
/-- a list of named bytes, as numbers -/
theorem bl_two {s t : ByteArray} {iv : Nat → IntKind × Int} (hiv : ∀ m, 100 ≤ m → iv m = ivC (two s t) m) (L k : Nat) : (bl L k).map (denI iv) = (List.range' k L).map fun m => some (IntKind.u8, two s t m) := bl_den hiv L k
theorem range_lo {s t : ByteArray} {L k : Nat} (h : k + L ≤ 200) : (List.range' k L).map (two s t) = (List.range' k L).map (byt s) := by
  apply List.map_congr_left
  intro m hm
  have := List.mem_range'_1.1 hm
  exact two_lo s t (by omega)
theorem range_hi {s t : ByteArray} (L : Nat) : (List.range' 200 L).map (two s t) = (List.range' 0 L).map (byt t) := by
  apply List.ext_getElem
  · simp
  · intro i h1 h2
    simp only [List.getElem_map, List.getElem_range', Nat.one_mul, Nat.zero_add]
    exact two_hi s t i
end Go.X.chars8
