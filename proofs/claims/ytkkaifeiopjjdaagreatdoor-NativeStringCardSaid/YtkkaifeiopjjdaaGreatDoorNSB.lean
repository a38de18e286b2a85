/-
  The law NativeString: what the words hold, and the law's own table.
-/
import Derived.Test.YtkkaifeiopjjdaaGreatDoorNSC
set_option linter.unusedVariables false
set_option linter.unusedSimpArgs false
set_option linter.unusedSectionVars false
set_option maxRecDepth 1000000
set_option maxHeartbeats 0
namespace Go.Proofs.YtkkaifeiopjjdaaGreatDoor.ns
open Go.X Go.RowKit Go.Proofs
theorem wn_lo {s n k m : Nat} {f : Nat → Int} {Wo : Nat → BitVec 64} (h : m < s) : wn s n f Wo k m = Wo m := if_pos h
theorem wn_hi {s n k j : Nat} {f : Nat → Int} {Wo : Nat → BitVec 64} : wn s n f Wo k (s + j) = objW n f k j := by
  unfold wn
  rw [if_neg (by omega), show s + j - s = j by omega]
theorem wd_pos (n : Nat) : 3 ≤ wd n := by unfold wd; omega
def oS (p : Pm) : Nat → Nat
  | 0 => 0
  | 1 => p.s1
  | _ => p.s2
def oN (p : Pm) : Nat → Nat
  | 0 => p.la
  | 1 => p.lb
  | _ => p.lc
def oF (p : Pm) : Nat → Nat → Int
  | 0 => p.A
  | 1 => p.B
  | _ => p.C
/-- a text stands where it stands -/
theorem WS_at (p : Pm) : ∀ st o j, o ≤ st → st < 3 → j < wd (oN p o) → WS p st (oS p o + j) = objW (oN p o) (oF p o) (oN p o) j
  | 0, 0, j, _, _, _ => (wn_hi : wn 0 p.la p.A (fun _ => 0#64) p.la (0 + j) = _)
  | 1, 1, j, _, _, _ => (wn_hi : wn p.s1 p.lb p.B p.W1 p.lb (p.s1 + j) = _)
  | 2, 2, j, _, _, _ => (wn_hi : wn p.s2 p.lc p.C p.W2 p.lc (p.s2 + j) = _)
  | 1, 0, j, _, _, hj => by
    show p.W2 (0 + j) = _
    unfold Pm.W2
    rw [wn_lo (by show 0 + j < wd p.la; have : j < wd p.la := hj; omega)]
    exact wn_hi
  | 2, 0, j, _, _, hj => by
    have hj' : j < wd p.la := hj
    show p.W3 (0 + j) = _
    unfold Pm.W3
    rw [wn_lo (by unfold Pm.s2 Pm.s1; omega)]
    unfold Pm.W2
    rw [wn_lo (by unfold Pm.s1; omega)]
    exact wn_hi
  | 2, 1, j, _, _, hj => by
    have hj' : j < wd p.lb := hj
    show p.W3 (p.s1 + j) = _
    unfold Pm.W3
    rw [wn_lo (by unfold Pm.s2; omega)]
    exact wn_hi
  | 0, _ + 1, _, h, _, _ => by omega
  | 1, _ + 2, _, h, _, _ => by omega
  | _ + 3, _, _, _, h, _ => by omega
  | 2, _ + 3, _, h, _, _ => by omega
/-- what the law asks of its arguments -/
structure Ar (p : Pm) : Prop where
  a60 : p.la ≤ 60
  b60 : p.lb ≤ 60
  hA : ∀ m, 0 ≤ p.A m ∧ p.A m < 65536
  hB : ∀ m, 0 ≤ p.B m ∧ p.B m < 65536
theorem Ar.hC {p : Pm} (h : Ar p) (m : Nat) : 0 ≤ p.C m ∧ p.C m < 65536 := by
  unfold Pm.C
  split
  · exact h.hA m
  · exact h.hB _
theorem Ar.hF {p : Pm} (h : Ar p) : ∀ o m, 0 ≤ oF p o m ∧ oF p o m < 65536
  | 0, m => h.hA m
  | 1, m => h.hB m
  | _ + 2, m => h.hC m
theorem Ar.hN {p : Pm} (h : Ar p) : ∀ o, oN p o ≤ 120
  | 0 => Nat.le_trans h.a60 (by decide)
  | 1 => Nat.le_trans h.b60 (by decide)
  | _ + 2 => by have := h.a60; have := h.b60; show p.la + p.lb ≤ 120; omega
theorem Ar.s1 {p : Pm} (h : Ar p) : 3 ≤ p.s1 ∧ p.s1 ≤ 18 := by have := h.a60; unfold Pm.s1 wd; omega
theorem Ar.s2 {p : Pm} (h : Ar p) : p.s1 + 3 ≤ p.s2 ∧ p.s2 ≤ 36 := by have := h.s1; have := h.b60; unfold Pm.s2 wd; omega
theorem Ar.s3 {p : Pm} (h : Ar p) : p.s2 + 3 ≤ p.s3 ∧ p.s3 ≤ 69 := by have := h.s2; have := h.a60; have := h.b60; unfold Pm.s3 wd Pm.lc; omega
theorem Ar.tS {p : Pm} (h : Ar p) : ∀ st, st < 3 → 3 ≤ tS p st ∧ tS p st ≤ 69
  | 0, _ => by have := h.s1; show 3 ≤ p.s1 ∧ p.s1 ≤ 69; omega
  | 1, _ => by have := h.s1; have := h.s2; show 3 ≤ p.s2 ∧ p.s2 ≤ 69; omega
  | 2, _ => by have := h.s1; have := h.s2; have := h.s3; show 3 ≤ p.s3 ∧ p.s3 ≤ 69; omega
  | _ + 3, h => by omega
theorem Ar.oT {p : Pm} (h : Ar p) : ∀ st o, o ≤ st → st < 3 → oS p o + wd (oN p o) ≤ ns.tS p st
  | 0, 0, _, _ => by show 0 + wd p.la ≤ wd p.la; omega
  | 1, 0, _, _ => by show 0 + wd p.la ≤ wd p.la + wd p.lb; omega
  | 1, 1, _, _ => Nat.le_refl _
  | 2, 0, _, _ => by show 0 + wd p.la ≤ wd p.la + wd p.lb + wd p.lc; omega
  | 2, 1, _, _ => by show wd p.la + wd p.lb ≤ wd p.la + wd p.lb + wd p.lc; omega
  | 2, 2, _, _ => Nat.le_refl _
  | 0, _ + 1, h, _ => by omega
  | 1, _ + 2, h, _ => by omega
  | _ + 3, _, _, h => by omega
  | 2, _ + 3, h, _ => by omega
theorem objW0 {n k : Nat} {f : Nat → Int} : wI (objW n f k 0) = 0 := rfl
theorem objW2 {n k : Nat} {f : Nat → Int} (h : n < 65536) : wI (objW n f k 2) = (n : Int) := by
  show ((BitVec.ofNat 64 n).toNat : Int) = n
  rw [BitVec.toNat_ofNat, Nat.mod_eq_of_lt (by omega)]
theorem objWc {n k j : Nat} {f : Nat → Int} (hj : j < k) (h0 : 0 ≤ f j) (h1 : f j < 65536) : IntKind.u16.wrap (wI (objW n f k (3 + j / 4) >>> (j % 4 * 2 * 8))) = f j := by
  have e : objW n f k (3 + j / 4) = putsTo 4 16 (fV f) k (j / 4) := by
    unfold objW
    rw [if_neg (by omega), if_pos (by omega), show 3 + j / 4 - 3 = j / 4 by omega]
  rw [e, show j % 4 * 2 * 8 = j % 4 * 16 by omega]
  have h2 := low_mod (per := 4) (S := 16) (putsTo 4 16 (fV f) k) j
  rw [low_puts (by decide) (fV f) k j hj] at h2
  have h3 := setWidth_mod (S := 16) (by decide) (f j)
  unfold IntKind.wrap IntKind.bits IntKind.signed
  simp only [Bool.false_and]
  have h4 : (((fV f j).setWidth 16).toNat : Int) = f j % 2 ^ 16 := h3
  rw [h4] at h2
  have h5 : f j % 2 ^ 16 = f j := Int.emod_eq_of_lt h0 (by omega)
  rw [h5] at h2
  exact h2
def qO (p : Pm) (o k : Nat) : Lq := ⟨oS p o, oN p o, k, 0, oF p o, fun _ => 0#64⟩
theorem Ar.cf {p : Pm} (h : Ar p) {st o : Nat} (ho : o ≤ st) (hst : st < 3) (k : Nat) : CF p (qO p o k) st where
  hn := h.hN o
  ht := by have := h.tS st hst; omega
  hs := h.oT st o ho hst
  hf := fun j hj => by
    have hj' : j < oN p o := hj
    have hw := wd_k hj'
    show IntKind.u16.wrap (wI (WS p st (oS p o + 3 + j / 4) >>> (j % 4 * 2 * 8))) = oF p o j
    rw [Nat.add_assoc, WS_at p st o (3 + j / 4) ho hst hw]
    exact objWc hj' (h.hF o j).1 (h.hF o j).2
end Go.Proofs.YtkkaifeiopjjdaaGreatDoor.ns
