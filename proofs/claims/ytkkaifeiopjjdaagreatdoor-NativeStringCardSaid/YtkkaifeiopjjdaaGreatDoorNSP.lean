/-
  The law NativeString: its own table when both texts have chars, and its runs.
-/
import Derived.Test.YtkkaifeiopjjdaaGreatDoorNSO
set_option linter.unusedVariables false
set_option linter.unusedSimpArgs false
set_option linter.unusedSectionVars false
set_option maxRecDepth 1000000
set_option maxHeartbeats 0
namespace Go.Proofs.YtkkaifeiopjjdaaGreatDoor.ns
open Go.X Go.RowKit Go.Proofs
structure Lw (p : Pm) (t lo hi : Bool) : Prop where
  la0 : 0 < p.la
  lb0 : 0 < p.lb
  ht : t = true ↔ p.la = p.lb ∧ ∀ k, k < p.la → p.A k = p.B k
  hlo : lo = decide (p.ix < 0)
  hhi : hi = decide ((p.la : Int) ≤ p.ix)
noncomputable abbrev rowsM (lo hi : Bool) : List BRow := (13, .oi 0, .int .i64 60, .bool false) :: (13, .oi 1, .int .i64 60, .bool false) :: (10, .oi 0, .oi 0, .bool false) :: (11, .oi 2, .int .i64 0, .bool lo) :: (14, .oi 2, .int .i64 0, .bool (!lo)) :: (14, .oi 2, .oi 0, .bool hi) :: (11, .oi 2, .oi 0, .bool (!hi)) :: (10, .oi 65, .oi 65, .bool false) ::
  (9, .oi 7, .int .i64 0, .bool false) :: (10, .oi 7, .int .i64 0, .bool true) :: (9, .oi 7, .int .i64 1, .bool false) :: (9, .oi 7, .oi 7, .bool true) :: (9, .oi 8, .int .i64 0, .bool false) :: (10, .oi 8, .int .i64 0, .bool true) :: rowsL
theorem rowsM_ok {p : Pm} {t lo hi : Bool} (h : Ar p) (L : Lw p t lo hi) : ∀ r ∈ rowsM lo hi, IbOk (ivL p qZ 0) r := by
  have h1 := h.s1; have h2 := h.s2; have h3 := h.s3
  have e1 := L.hlo; have e2 := L.hhi
  have w1 : p.s1 = 3 + (p.la * 2 + 7) / 8 := rfl
  have w2 : p.s2 = p.s1 + wd p.lb := rfl
  have h4 : decide (p.ix ≥ 0) = !lo := by rw [e1]; by_cases c : p.ix < 0 <;> simp [c] <;> omega
  have h5 : decide (p.ix < (p.la : Int)) = !hi := by rw [e2]; by_cases c : (p.la : Int) ≤ p.ix <;> simp [c] <;> omega
  have h6 := h.a60; have h7 := h.b60
  exact rGt (rGt (rNe (rLt (rGe (rGe (rLt (rNe (rEq (rNe (rEq (rEq (rEq (rNe (rowsL_ok h)))))))) (h := h5)) (h := e2.symm)) (h := h4)) (h := e1.symm))))
theorem in_ix {p : Pm} {t lo hi : Bool} (L : Lw p t lo hi) (hin : (lo || hi) = false) : p.ix = (p.ix.toNat : Int) ∧ p.ix.toNat < p.la := by
  have e1 := L.hlo; have e2 := L.hhi
  simp only [Bool.or_eq_false_iff] at hin
  obtain ⟨rfl, rfl⟩ := hin
  have g1 := of_decide_eq_false e1.symm
  have g2 := of_decide_eq_false e2.symm
  omega
noncomputable def vlM (b : Bool) : List VL := Bool.rec (⟨3, 2, 1, 0, [.oi 64]⟩ :: vlL) vlL b
noncomputable def flM (b : Bool) : List VL := Bool.rec [⟨0, 2, 1, 0, [.oi 64]⟩] [] b
theorem vlM_ok {p : Pm} {t lo hi : Bool} (h : Ar p) (L : Lw p t lo hi) : ∀ r ∈ vlM (lo || hi), VlOk (ivL p qZ 0) (vvL p qZ) r := by
  cases e : lo || hi with
  | true => exact vlL_ok h
  | false =>
    obtain ⟨g1, g2⟩ := in_ix L e
    exact lN (vlL_ok h) (hk := congrArg (Prod.mk IntKind.i64) g1) (h := g2)
theorem flM_ok {p : Pm} {t lo hi : Bool} (h : Ar p) (L : Lw p t lo hi) : ∀ r ∈ flM (lo || hi), FlOk (ivL p qZ 0) (fgL p) r := by
  cases e : lo || hi with
  | true => exact allNil
  | false =>
    obtain ⟨g1, g2⟩ := in_ix L e
    exact fgN allNil (hk := congrArg (Prod.mk IntKind.i64) g1) (h := g2)
noncomputable abbrev icM : List (IntKind × AV × AV) := (.i64, .oi 64, .oi 65) :: (.i64, .oi 7, .oi 7) :: (.i64, .oi 8, .oi 8) :: icL
theorem icM_ok {p : Pm} (h : Ar p) : ∀ r ∈ icM, IcOk' (ivL p qZ 0) r := by
  have h1 := h.s1; have h2 := h.s2; have h3 := h.s3
  have ha := h.hA p.ix.toNat
  exact rConv (rConv (rConv (icL_ok h)))
noncomputable abbrev vbM : List VB := [⟨true, 0, 0, 1, true, 3, 0, 3, 0⟩, ⟨false, 3, 0, 1, true, 4, 1, 5, 3⟩, ⟨true, 0, 0, 1, false, 0, 0, 3, 0⟩, ⟨false, 3, 0, 1, false, 1, 1, 5, 3⟩]
theorem vbM_ok {p : Pm} {t lo hi : Bool} (h : Ar p) (L : Lw p t lo hi) : ∀ r ∈ vbM, VbOk (ivL p qZ 0) (vvL p qZ) (vkL p qZ) (fgL p).fv r := by
  have h1 := h.a60; have h2 := h.b60; have la0 := L.la0; have lb0 := L.lb0
  have g1 : ∀ m, m < p.la → p.C m = p.A m := fun m hm => if_pos hm
  have g2 : ∀ m, m < p.lb → p.C (p.la + m) = p.B m := fun m hm => by unfold Pm.C; rw [if_neg (by omega), show p.la + m - p.la = m by omega]
  exact b0 (F := fgL p) (bN (F := fgL p) (b0 (F := fgL p) (bN (F := fgL p) allNil (e1 := p.B))) (e1 := p.B))
noncomputable abbrev trM (t : Bool) : List TRow := [(4, [.ostr 0, .ostr 1], .bool t), (4, [.ostr 1, .ostr 0], .bool t)]
noncomputable abbrev txM (p : Pm) {t lo hi : Bool} (h : Ar p) (L : Lw p t lo hi) : Txts (ivL p qZ 0) where
  str := keyO p
  tr := trM t
  trok := txCons (tr4 (a := keyO p 0) (b := keyO p 1) rfl rfl (by rw [key_iff h]; exact L.ht)) (txCons (tr4 (a := keyO p 1) (b := keyO p 0) rfl rfl (by rw [@eq_comm _ (keyO p 1), key_iff h]; exact L.ht)) txNil)
noncomputable abbrev RM (p : Pm) (t lo hi : Bool) (h : Ar p) (L : Lw p t lo hi) : Rw (ivL p qZ 0) (vvL p qZ) (vkL p qZ) (fgL p) (txM p h L) where
  vvp := vvLp p qZ
  ib := rowsM lo hi
  ibok := rowsM_ok h L
  ic := icM
  icok := icM_ok h
  vl := vlM (lo || hi)
  vlok := vlM_ok h L
  fl := flM (lo || hi)
  flok := flM_ok h L
  vb := vbM
  vbok := vbM_ok h L
  vc := [(0, 11), (2, 12)]
  vcok := cN (cN allNil)
end Go.Proofs.YtkkaifeiopjjdaaGreatDoor.ns
