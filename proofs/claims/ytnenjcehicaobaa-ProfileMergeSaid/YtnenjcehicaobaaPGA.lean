/-
  The laws of profile: Top: a round of its loop.
-/
import Derived.Test.YtnenjcehicaobaaPFZ
set_option linter.unusedVariables false
set_option linter.unusedSimpArgs false
set_option linter.unusedSectionVars false
set_option maxRecDepth 1000000
set_option maxHeartbeats 0
namespace Go.Proofs.Ytnenjcehicaobaa.pf
open Go.X Go.RowKit Go.Proofs
def atS (p : Pm) (S : Nat × List Nat × Nat) (M : Nat) (ad : Nat → Nat × Nat) (ro : Nat → Row) : Pm := atP { p with sv := fun _ => S } M ad ro
def sD (p : Pm) (D : List En) : Nat × List Nat × Nat := ((p.mm 0).2, D.map born, (p.mm 0).2)
section
variable {p : Pm} {B : Kp} {w0 : World} {μ : M} {a : Act} {w : World} {F : List Row} {D : List En} {ad : Nat → Nat × Nat} {ro : Nat → Row}
def ST (p : Pm) (D : List En) (ad : Nat → Nat × Nat) (ro : Nat → Row) (B : Kp) (w0 : World) (μ : M) (a : Act) (w : World) : Prop :=
  (D.length = 0 ∧ St (T0 (atS p (sD p D) D.length ad ro)) B w0 μ ntT (frOf (fsT .nils)) (hOf 20000 (bsT0 19003 (.oit 18001 0))) a w) ∨ (0 < D.length ∧ St (T0 (atS p (sD p D) D.length ad ro)) B w0 μ ntT (frOf (fsT (.ov 19004 24 1))) (hOf 20000 (bsT1 19003 19004 (.oit 18001 0) 24)) a w)
theorem gwRo {M : Nat} {ro' : Nat → Row} {B : Kp} {w : World} (h : ∀ m, m < M → ro' m = ro m) (g : GW (gi M ad ro) B w) : GW (gi M ad ro') B w := by
  intro e he
  have hl := gi_len.1 he
  obtain ⟨k1, k2, k3⟩ := g e (gi_len.2 hl)
  have e1 : (gi M ad ro').row e = (gi M ad ro).row e := h e hl
  rw [e1]
  exact ⟨k1, k2, k3⟩
theorem iT_ok {T T' : Tab} {x : Int} (h1 : T.iv 40 = (.i64, x)) (h2 : T'.iv 40 = (.i64, x)) (h3 : T'.mm 0 = T.mm 0) (h4 : T'.sv 0 = T.sv 0) : IpOk T T' iT := ipE (ipM (ipQ ipNil h4) h3) h1 h2
theorem sameB (p : Pm) {T : Tab} (e : SameTab (T0 p) T) {p' : Pm} (hG : p'.G = p.G) {B : Kp} {w : World} (g : @Gl T B w) : @Gl (T0 p') B w := glP (p := p) hG (Gl.tab e.symm.toSameV g)
theorem glSv {T : Tab} {q : Nat} {S : Nat × List Nat × Nat} {B : Kp} {w : World} (g : @Gl (withSv T q S) B w) : @Gl T B w := Gl.tab (T := withSv T q S) (T' := T) ⟨rfl, rfl, rfl, rfl, rfl, rfl, rfl, rfl, rfl⟩ g
/-- another one is drawn -/
theorem tDraw (h : TIn p F) (hb : Base B μ 19000) (hd : Dr (p.mm 0).1 D ro) (hn : ∃ e ∈ (p.mm 0).1, e.2.2 ∉ D.map born) (s : ST p D ad ro B w0 μ a w) :
    t2n.wp Try.prog (fun e a' w' => e = .normal ∧ ∃ e ∈ (p.mm 0).1, born e ∉ D.map born ∧ ∀ S ro', S = sD p (D ++ [e]) → (∀ m, m < D.length → ro' m = ro m) →
      ((D.length = 0 ∧ St (T0 (atS p S D.length ad ro')) B w0 μ ntT (frOf (fsTn .nils)) (hOf 20000 (bsT0 19003 (.oit 18001 1))) a' w') ∨ (0 < D.length ∧ St (T0 (atS p S D.length ad ro')) B w0 μ ntT (frOf (fsTn (.ov 19004 24 1))) (hOf 20000 (bsT1 19003 19004 (.oit 18001 1) 24)) a' w'))) a w := by
  have hx : (∀ e ∈ (p.mm 0).1, e.2.2 < (sD p D).1 ∧ e.2.2 < (sD p D).2.2) ∧ (true = true → ∃ e ∈ (p.mm 0).1, e.2.2 ∉ (sD p D).2.1) ∧ (true = false → ∀ e ∈ (p.mm 0).1, e.2.2 ∈ (sD p D).2.1) := ⟨fun e he => ⟨h.bd e he, h.bd e he⟩, fun _ => hn, fun c => by cases c⟩
  rcases s with ⟨h0, s⟩ | ⟨h0, s⟩
  · refine wp_mono (runTo_sound (T := (Mx (p := atS p (sD p D) D.length ad ro) true hx).T (R0 _)) (T' := T0 (atS p (sD p D) D.length ad ro)) mixed hNo (C := CT rT0 iT) (ex := .normal) hb (by decide) (rl := rT0) rfl (by kernel_rfl) (iT_ok (x := p.K) (by exact rfl) (by exact rfl) (by exact rfl) (by exact rfl)) vpNil (fun g => sameB _ (Mw.same _ _) (by exact rfl) g) (gTn0 hx) (St.same (Mw.same _ _) s)) ?_
    rintro e a' w' ⟨rfl, s1⟩
    obtain ⟨e, e1, e2, s2⟩ := St.oin (T := T0 (atS p (sD p D) D.length ad ro)) s1 1 gO3a (by decide) (itFree_ok gO4a)
    refine ⟨rfl, e, e1, e2, fun S ro' hS hro => .inl ⟨h0, ?_⟩⟩
    exact St.weak (T := withSv (T0 (atS p (sD p D) D.length ad ro)) 1 ((sD p D).1, (sD p D).2.1 ++ [e.2.2], (p.mm 0).2)) (T' := T0 (atS p S D.length ad ro')) (C := CT rT0 [(.oi 40, 40), (.map 0, 0), (.ptr 1 0, 1)]) hb (by decide) (rl := rT0) rfl (by kernel_rfl)
      (ipE (q := (.i64, p.K)) (ipM (ipQ ipNil (by show S = if (1 : Nat) = 1 then _ else _; rw [if_pos rfl, hS]; unfold sD; rw [List.map_append]; rfl)) (by exact rfl)) (by exact rfl) (by exact rfl)) vpNil (fun g => gw_gl (p := atS p S D.length ad ro') (gwRo hro (gl_gw (p := atS p (sD p D) D.length ad ro) (glSv g)))) gO1a gO2a s2
  · refine wp_mono (runTo_sound (T := (Mx (p := atS p (sD p D) D.length ad ro) true hx).T (R0 _)) (T' := T0 (atS p (sD p D) D.length ad ro)) mixed hNo (C := CT rT1 iT1) (ex := .normal) hb (by decide) (rl := rT1) rfl (by kernel_rfl) (ipE (q := (.i64, (D.length : Int))) (iT_ok (x := p.K) (by exact rfl) (by exact rfl) (by exact rfl) (by exact rfl)) (by exact rfl) (by exact rfl)) (vpQ (n := D.length) (f := fun m => m) (f' := fun m => m) (k := vpNil)) (fun g => sameB _ (Mw.same _ _) (by exact rfl) g) (gTn1 hx) (St.same (Mw.same _ _) s)) ?_
    rintro e a' w' ⟨rfl, s1⟩
    obtain ⟨e, e1, e2, s2⟩ := St.oin (T := T0 (atS p (sD p D) D.length ad ro)) s1 1 gO3b (by decide) (itFree_ok gO4b)
    refine ⟨rfl, e, e1, e2, fun S ro' hS hro => .inr ⟨h0, ?_⟩⟩
    exact St.weak (T := withSv (T0 (atS p (sD p D) D.length ad ro)) 1 ((sD p D).1, (sD p D).2.1 ++ [e.2.2], (p.mm 0).2)) (T' := T0 (atS p S D.length ad ro')) (C := CT rT1 [(.oi 24, 24), (.oi 40, 40), (.map 0, 0), (.ptr 1 0, 1)]) hb (by decide) (rl := rT1) rfl (by kernel_rfl)
      (ipE (q := (.i64, (D.length : Int))) (ipE (q := (.i64, p.K)) (ipM (ipQ ipNil (by show S = if (1 : Nat) = 1 then _ else _; rw [if_pos rfl, hS]; unfold sD; rw [List.map_append]; rfl)) (by exact rfl)) (by exact rfl) (by exact rfl)) (by exact rfl) (by exact rfl)) (vpQ (n := D.length) (f := fun m => m) (f' := fun m => m) (k := vpNil)) (fun g => gw_gl (p := atS p S D.length ad ro') (gwRo hro (gl_gw (p := atS p (sD p D) D.length ad ro) (glSv g)))) gO1b gO2b s2
end
end Go.Proofs.Ytnenjcehicaobaa.pf
