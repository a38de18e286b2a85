/-
  The laws of profile: rows of tables.
-/
import Derived.Test.YtnenjcehicaobaaPFB
set_option linter.unusedVariables false
set_option linter.unusedSimpArgs false
set_option linter.unusedSectionVars false
set_option maxRecDepth 1000000
set_option maxHeartbeats 0
namespace Go.Proofs.Ytnenjcehicaobaa.pf
open Go.X Go.RowKit Go.Proofs
structure Rz (p : Pm) where
  ib : List BRow := []
  ibok : ∀ r ∈ ib, IbOk (ivP p) r := by exact fun _ h => nomatch h
  vl : List VL := []
  vlok : ∀ r ∈ vl, VlT (NmP p) (vvP p) r := by exact fun _ h => nomatch h
  vs : List VS := []
  vsok : ∀ r ∈ vs, VsT (NmP p) (vvP p) (vlP p) r := by exact fun _ h => nomatch h
  va : List VA := []
  vaok : ∀ r ∈ va, VaT (NmP p) (vvP p) (vlP p) r := by exact fun _ h => nomatch h
  rf : List (Nat × Nat × Nat × Nat) := []
  rfok : ∀ r ∈ rf, isLen (ivP p r.2.2.1) ∧ (ivP p r.2.2.1).2.toNat ≤ p.G.cap (p.al r.2.1) ∧ rvP p r.1 = .slice (some ⟨(p.G.adr (p.al r.2.1)).1, (p.G.adr (p.al r.2.1)).2, none⟩) (ivP p r.2.2.1).2.toNat (p.G.cap (p.al r.2.1)) := by exact fun _ h => nomatch h
  fl : List VL := []
  flok : ∀ r ∈ fl, isLen (ivP p r.k) ∧ ∀ m b, r.l[m]? = some b → ∃ a, fvP p r.i ((ivP p r.k).2.toNat * r.z + r.f + m) = some a ∧ sameT (strP p) (rvP p) (ivP p) a b := by exact fun _ h => nomatch h
  vc : List (Nat × Nat) := []
  vcok : ∀ q ∈ vc, ivP p q.2 = (.i64, (q.1 : Int)) := by exact fun _ h => nomatch h
  rl : List (Nat × AV) := []
  rlok : ∀ r ∈ rl, ∃ b n c, rvP p r.1 = .slice b n c ∧ denI (ivP p) r.2 = some (.i64, ((n : Nat) : Int)) := by exact fun _ h => nomatch h
  rs : List (Nat × Nat × Nat × Nat) := []
  rsok : ∀ r ∈ rs, ∃ A n c, rvP p r.1 = .slice (some A) n c ∧ r.2.1 ≤ n ∧ n ≤ c ∧ rvP p r.2.2.2 = .slice (some (if c = r.2.1 then A else A.add (r.2.1 * r.2.2.1))) (n - r.2.1) (c - r.2.1) := by exact fun _ h => nomatch h
noncomputable abbrev Rz.T {p : Pm} (R : Rz p) : Tab := { T0 p with
  ib := R.ib
  ibok := R.ibok
  vl := R.vl
  vlok := R.vlok
  vs := R.vs
  vsok := R.vsok
  va := R.va
  vaok := R.vaok
  rf := R.rf
  rfok := R.rfok
  fl := R.fl
  flok := R.flok
  vc := R.vc
  vcok := R.vcok
  rl := R.rl
  rlok := R.rlok
  rs := R.rs
  rsok := R.rsok }
theorem Rz.same {p : Pm} (R : Rz p) : SameTab (T0 p) R.T := ⟨⟨rfl, rfl, rfl, rfl, rfl, rfl, rfl, rfl, rfl⟩, rfl, rfl⟩
section
variable {p : Pm}
theorem iv_len (p : Pm) (i : Nat) : ivP p (1001 + 3 * i) = (.i64, (p.G.len (p.al i) : Int)) := by
  have h1 : Nat.blt (1001 + 3 * i) 1000 = false := by
    rw [Bool.eq_false_iff]
    intro h
    have := Nat.le_of_ble_eq_true h
    omega
  unfold ivP
  rw [h1, cond_false, show 1001 + 3 * i - 1000 = 3 * i + 1 by omega]
  unfold iv2
  rw [if_neg (by omega), if_pos (by omega), show (3 * i + 1) / 3 = i by omega]
theorem iv_out (p : Pm) (i : Nat) : ivP p (1002 + 3 * i) = (.i64, (p.R i).2) := by
  have h1 : Nat.blt (1002 + 3 * i) 1000 = false := by
    rw [Bool.eq_false_iff]
    intro h
    have := Nat.le_of_ble_eq_true h
    omega
  unfold ivP
  rw [h1, cond_false, show 1002 + 3 * i - 1000 = 3 * i + 2 by omega]
  unfold iv2
  rw [if_neg (by omega), if_neg (by omega), show (3 * i + 2) / 3 = i by omega]
theorem str_out (p : Pm) (i : Nat) : strP p (2 * i + 1) = (p.R i).1 := by
  show (if (2 * i + 1) % 2 = 0 then _ else (p.R ((2 * i + 1) / 2)).1) = _
  rw [if_neg (by omega), show (2 * i + 1) / 2 = i by omega]
/-- a hidden list with rows is a foreign slice -/
theorem rfC (g : Gok p.G) {a k : Nat} {l : List (Nat × Nat × Nat × Nat)} (hk : k = 1001 + 3 * a) (h : 0 < p.G.len (p.al a)) (t : ∀ r ∈ l, isLen (ivP p r.2.2.1) ∧ (ivP p r.2.2.1).2.toNat ≤ p.G.cap (p.al r.2.1) ∧ rvP p r.1 = .slice (some ⟨(p.G.adr (p.al r.2.1)).1, (p.G.adr (p.al r.2.1)).2, none⟩) (ivP p r.2.2.1).2.toNat (p.G.cap (p.al r.2.1))) :
    ∀ r ∈ (a, a, k, 2) :: l, isLen (ivP p r.2.2.1) ∧ (ivP p r.2.2.1).2.toNat ≤ p.G.cap (p.al r.2.1) ∧ rvP p r.1 = .slice (some ⟨(p.G.adr (p.al r.2.1)).1, (p.G.adr (p.al r.2.1)).2, none⟩) (ivP p r.2.2.1).2.toNat (p.G.cap (p.al r.2.1)) := by
  refine allCons ?_ t
  subst hk
  dsimp only
  rw [iv_len, Int.toNat_natCast]
  exact ⟨⟨rfl, Int.natCast_nonneg _⟩, g.c _ h, g.v _ h⟩
/-- its first row -/
theorem flC {a : Nat} {l : List VL} {s c : Nat} (hs : s = 2 * a) (hc : c = 1000 + 3 * a) (h : 0 < p.G.len (p.al a)) (t : ∀ r ∈ l, isLen (ivP p r.k) ∧ ∀ m b, r.l[m]? = some b → ∃ a, fvP p r.i ((ivP p r.k).2.toNat * r.z + r.f + m) = some a ∧ sameT (strP p) (rvP p) (ivP p) a b) :
    ∀ r ∈ (⟨a, 10, 2, 0, [.ostr s, .oi c]⟩ : VL) :: l, isLen (ivP p r.k) ∧ ∀ m b, r.l[m]? = some b → ∃ a, fvP p r.i ((ivP p r.k).2.toNat * r.z + r.f + m) = some a ∧ sameT (strP p) (rvP p) (ivP p) a b := by
  subst hs; subst hc
  refine allCons ⟨⟨rfl, Int.natCast_nonneg _⟩, fun m b hb => ?_⟩ t
  show ∃ a', fvP p a (0 * 2 + 0 + m) = some a' ∧ _
  rw [show 0 * 2 + 0 + m = m by omega]
  match m, hb with
  | 0, hb => cases hb; exact ⟨.ostr (2 * a), by unfold fvP; rw [if_pos h]; rfl, .inl (.inl rfl)⟩
  | 1, hb => cases hb; exact ⟨.oi (1000 + 3 * a), by unfold fvP; rw [if_pos h]; rfl, .inl (.inl rfl)⟩
  | (m + 2), hb => simp at hb
end
end Go.Proofs.Ytnenjcehicaobaa.pf
