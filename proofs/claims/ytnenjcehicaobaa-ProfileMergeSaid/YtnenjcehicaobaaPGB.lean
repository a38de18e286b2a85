/-
  The laws of profile: Top: a round of its loop; the loop.
-/
import Derived.Test.YtnenjcehicaobaaPGA
set_option linter.unusedVariables false
set_option linter.unusedSimpArgs false
set_option linter.unusedSectionVars false
set_option maxRecDepth 1000000
set_option maxHeartbeats 0
namespace Go.Proofs.Ytnenjcehicaobaa.pf
open Go.X Go.RowKit Go.Proofs
theorem renX {μ : M} {ip : IP} : ren (CT rTr ip).N0 (CT rTr ip).rn μ 19005 = μ 20000 := by
  unfold ren
  rw [if_neg (show ¬ 19005 < 19000 by decide)]
  have : (CT rTr ip).rn.get 19005 = some 20000 := by kernel_rfl
  rw [this]
  rfl
theorem slRel {T T' : Tab} {ip : IP} {μ : M} {v : Value} (h : @vrel T μ (.sl 20000 0 1 1) v) : @vrel T' (ren (CT rTr ip).N0 (CT rTr ip).rn μ) (.sl 19005 0 1 1) v := by
  simp only [vrel] at h ⊢
  rw [renX (ip := ip)]; exact h
section
variable {p : Pm} {B : Kp} {w0 : World} {μ : M} {a : Act} {w : World} {F : List Row} {D : List En} {ad : Nat → Nat × Nat} {ro : Nat → Row} {S : Nat × List Nat × Nat}
theorem tBody (h : TIn p F) (hb : Base B μ 19000) {e : En} (he : e ∈ (p.mm 0).1) (hS : S = sD p (D ++ [e])) (hro : ro D.length = rowE e) (hD : D.length + 1 < 999999)
    (s : (D.length = 0 ∧ St (T0 (atS p S D.length ad ro)) B w0 μ ntT (frOf (fsTn .nils)) (hOf 20000 (bsT0 19003 (.oit 18001 1))) a w) ∨ (0 < D.length ∧ St (T0 (atS p S D.length ad ro)) B w0 μ ntT (frOf (fsTn (.ov 19004 24 1))) (hOf 20000 (bsT1 19003 19004 (.oit 18001 1) 24)) a w)) :
    t2b.wp Try.prog (fun x a' w' => x = .normal ∧ ∃ ad' B' w1, Up B w0 B' w1 ∧ ST p (D ++ [e]) ad' ro B' w1 μ a' w') a w := by
  have hl : (D ++ [e]).length = D.length + 1 := by simp
  have hn : ∃ n k v, (S.2.1).getLast? = some n ∧ (p.mm 0).2 = S.2.2 ∧ (p.mm 0).1.find? (fun x => Nat.beq x.2.2 n) = some (k, v, n) ∧ denK (strP (atS p S D.length ad ro)) (ivP (atS p S D.length ad ro)) (.ostr 14) k ∧ denI (ivP (atS p S D.length ad ro)) (.oi 1021) = some (.i64, v) := by
    refine ⟨born e, e.1, e.2.1, by rw [hS]; unfold sD; simp, by rw [hS]; rfl, find_born h.nd he, ?_, ?_⟩
    · have ht := h.tx e he
      obtain ⟨k, v, b⟩ := e
      cases k with
      | n i => cases ht
      | s t =>
        show some (strP (atS p S D.length ad ro) (2 * 7)) = some t
        rw [str_txt]
        show some (ro D.length).1 = some t
        rw [hro]; rfl
    · show some (ivP (atS p S D.length ad ro) (1000 + 3 * 7)) = _
      rw [iv_cnt]
      show some ((IntKind.i64, (ro D.length).2) : IntKind × Int) = _
      rw [hro]; rfl
  have hM : (atS p S D.length ad ro).M + 1 < 1000000 := by show D.length + 1 < 1000000; omega
  have ipb : ∀ {T' : Tab}, T'.iv 40 = (.i64, p.K) → T'.mm 0 = p.mm 0 → T'.sv 0 = S → IpOk (T0 (atS p S D.length ad ro)) T' iTb := fun h1 h2 h3 => ipE (q := (.i64, p.K)) (ipM (ipQ ipNil h3) h2) (by exact rfl) h1
  have fin : ∀ a' w', St (T0 (atS p S D.length ad ro)) B w0 μ ntT (frOf (fsT (.ov 19004 26 1))) (hOf 20000 (bsTr 19003 19004 19005 (.oit 18001 0) 26)) a' w' → ∃ ad' B' w1, Up B w0 B' w1 ∧ ST p (D ++ [e]) ad' ro B' w1 μ a' w' := by
    intro a' w' s'
    obtain ⟨l, B', w1, u, s2⟩ := publish (p := { p with sv := fun _ => S }) (M := D.length) (by omega) hb s'
    refine ⟨adU ad D.length l, B', w1, u, .inr ⟨by omega, ?_⟩⟩
    rw [hl, ← hS]
    exact s2
  have ip2 : ∀ x, (x = .int .i64 1 ∧ D.length = 0) ∨ x = .oi 26 → IpOk ((Mn (p := atS p S D.length ad ro) hn).T (Rv hM rfl)) (T0 (atS p S D.length ad ro)) ((x, 26) :: (.ostr 14, 14) :: (.oi 1021, 1021) :: iTb) := by
    intro x hx
    have t : IpOk ((Mn (p := atS p S D.length ad ro) hn).T (Rv hM rfl)) (T0 (atS p S D.length ad ro)) ((.ostr 14, 14) :: (.oi 1021, 1021) :: iTb) := ipCons (by exact rfl) (ipE (q := ivP (atS p S D.length ad ro) 1021) (ipb rfl rfl rfl) (by exact rfl) (by exact rfl))
    rcases hx with ⟨rfl, h0⟩ | rfl
    · exact ipK' (b := ((D.length + 1 : Nat) : Int)) t (by exact rfl) (by rw [h0]; rfl)
    · exact ipE (q := (.i64, ((D.length + 1 : Nat) : Int))) t (by exact rfl) (by exact rfl)
  rcases s with ⟨h0, s⟩ | ⟨h0, s⟩
  · refine wp_mono (runTo_sound (T := (Mn (p := atS p S D.length ad ro) hn).T (Rv hM rfl)) (T' := T0 (atS p S D.length ad ro)) mixed hNo (C := CT rTr ((.int .i64 1, 26) :: (.ostr 14, 14) :: (.oi 1021, 1021) :: iTb)) (ex := .normal) hb (by decide) (rl := rTr) rfl (by kernel_rfl) (ip2 _ (.inl ⟨rfl, h0⟩)) (vp := [(20002, zT, 26)]) ?_ (fun g => sameB _ (Mw.same _ _) (by exact rfl) g) (gTb0 hn hM rfl) (St.same (Mw.same _ _) s)) ?_
    · refine vpCons ⟨rfl, fun μ l w hb => ?_⟩ vpNil
      obtain ⟨arr, el, fz, g1, g2, g3, g4, _, g5⟩ := hb
      have g4 : l.base + 1 ≤ l.total := g4
      refine ⟨arr, el, fz, g1, g2, g3, by show l.base + (D.length + 1) ≤ l.total; omega, fun m x hx => ?_⟩
      have hx : celV (D.length + 1) (cs 19005 D.length (fun m => m)) m = some x := hx
      obtain ⟨hm, rfl⟩ := celV_some hx
      have hm0 : m = 0 := by omega
      subst hm0
      obtain ⟨v, q1, q2⟩ := g5 0 (.sl 20000 0 1 1) (by decide) (by kernel_rfl)
      refine ⟨v, q1, ?_⟩
      unfold cs
      rw [if_pos h0.symm]
      exact slRel q2
    · rintro x a' w' ⟨rfl, s'⟩
      exact ⟨rfl, fin a' w' s'⟩
  · refine wp_mono (runTo_sound (T := (Mn (p := atS p S D.length ad ro) hn).T (Rv hM rfl)) (T' := T0 (atS p S D.length ad ro)) mixed hNo (C := CT rTr ((.oi 26, 26) :: (.ostr 14, 14) :: (.oi 1021, 1021) :: iTb)) (ex := .normal) hb (by decide) (rl := rTr) rfl (by kernel_rfl) (ip2 _ (.inr rfl)) (vp := [(20002, .vec 25, 26)]) ?_ (fun g => sameB _ (Mw.same _ _) (by exact rfl) g) (gTb1 hn hM rfl) (St.same (Mw.same _ _) s)) ?_
    · refine vpCons ⟨rfl, fun μ l w hb => ?_⟩ vpNil
      obtain ⟨arr, el, fz, g1, g2, g3, g4, g5⟩ := hb
      refine ⟨arr, el, fz, g1, g2, g3, g4, fun m x hx => ?_⟩
      have hx : celV (D.length + 1) (cs 19005 D.length (fun m => m)) m = some x := hx
      obtain ⟨hm, rfl⟩ := celV_some hx
      obtain ⟨v, q1, q2⟩ := g5 m (cs 20000 D.length (fun m => m) m) (celV_lt hm)
      refine ⟨v, q1, ?_⟩
      unfold cs at q2 ⊢
      by_cases c : m = D.length
      · rw [if_pos c] at q2 ⊢
        exact slRel q2
      · rw [if_neg c] at q2 ⊢
        exact rwRel (T := (Mn (p := atS p S D.length ad ro) hn).T (Rv hM rfl)) (by exact rfl) q2
    · rintro x a' w' ⟨rfl, s'⟩
      exact ⟨rfl, fin a' w' s'⟩
def STe (p : Pm) (D : List En) (ad : Nat → Nat × Nat) (ro : Nat → Row) (B : Kp) (w0 : World) (μ : M) (a : Act) (w : World) : Prop :=
  (D.length = 0 ∧ St (T0 (atS p (sD p D) D.length ad ro)) B w0 μ ntT (frOf (fsTe .nils)) (hOf 20000 bsTm) a w) ∨ (0 < D.length ∧ St (T0 (atS p (sD p D) D.length ad ro)) B w0 μ ntT (frOf (fsTe (.ov 19004 24 1))) (hOf 20000 bsTe) a w)
theorem tExit (h : TIn p F) (hb : Base B μ 19000) (hn : ∀ e ∈ (p.mm 0).1, e.2.2 ∈ D.map born) (s : ST p D ad ro B w0 μ a w) : t2L.wp Try.prog (fun x a' w' => x = .exit 0 ∧ STe p D ad ro B w0 μ a' w') a w := by
  have hx : (∀ e ∈ (p.mm 0).1, e.2.2 < (sD p D).1 ∧ e.2.2 < (sD p D).2.2) ∧ (false = true → ∃ e ∈ (p.mm 0).1, e.2.2 ∉ (sD p D).2.1) ∧ (false = false → ∀ e ∈ (p.mm 0).1, e.2.2 ∈ (sD p D).2.1) := ⟨fun e he => ⟨h.bd e he, h.bd e he⟩, fun c => (by cases c), fun _ => hn⟩
  rcases s with ⟨h0, s⟩ | ⟨h0, s⟩
  · refine wp_mono (runTo_sound (T := (Mx (p := atS p (sD p D) D.length ad ro) false hx).T (R0 _)) (T' := T0 (atS p (sD p D) D.length ad ro)) mixed hNo (C := CT [] [(.oi 40, 40), (.map 0, 0)]) (ex := .exit 0) hb (by decide) (rl := []) rfl (by kernel_rfl) (ipE (q := (.i64, p.K)) (ipM ipNil (by exact rfl)) (by exact rfl) (by exact rfl)) vpNil (fun g => sameB _ (Mw.same _ _) (by exact rfl) g) (gTe0 hx) (St.same (Mw.same _ _) s)) ?_
    rintro x a' w' ⟨rfl, s1⟩
    exact ⟨rfl, .inl ⟨h0, s1⟩⟩
  · refine wp_mono (runTo_sound (T := (Mx (p := atS p (sD p D) D.length ad ro) false hx).T (R0 _)) (T' := T0 (atS p (sD p D) D.length ad ro)) mixed hNo (C := CT [(19004, 19004)] [(.oi 24, 24), (.oi 40, 40), (.map 0, 0)]) (ex := .exit 0) hb (by decide) (rl := [(19004, 19004)]) rfl (by kernel_rfl) (ipE (q := (.i64, (D.length : Int))) (ipE (q := (.i64, p.K)) (ipM ipNil (by exact rfl)) (by exact rfl) (by exact rfl)) (by exact rfl) (by exact rfl)) (vpQ (n := D.length) (f := fun m => m) (f' := fun m => m) (k := vpNil)) (fun g => sameB _ (Mw.same _ _) (by exact rfl) g) (gTe1 hx) (St.same (Mw.same _ _) s)) ?_
    rintro x a' w' ⟨rfl, s1⟩
    exact ⟨rfl, .inr ⟨h0, s1⟩⟩
end
theorem Up.self {T : Tab} {B : Kp} {w0 : World} {μ0 : M} {nt : Nat} {fr : Fr} {h : H} {a : Act} {w : World} (s : St T B w0 μ0 nt fr h a w) : Up B w0 B w0 :=
  ⟨fun _ h => h, rfl, rfl, rfl, Nat.le_refl _, fun _ _ => rfl, (St.up s (fun _ => False)).old, rfl, rfl⟩
theorem left_le (es : List En) : left es [] ≤ es.length := List.length_filter_le _ _
theorem tRounds {p : Pm} {F : List Row} {μ : M} {B0 : Kp} {w00 : World} (h : TIn p F) (hb0 : Base B0 μ 19000) : ∀ (k : Nat) (B : Kp) (w0 : World) (D : List En) (ad : Nat → Nat × Nat) (ro : Nat → Row) (a : Act) (w : World), left (p.mm 0).1 D ≤ k → D.length + left (p.mm 0).1 D ≤ (p.mm 0).1.length → Up B0 w00 B w0 → Dr (p.mm 0).1 D ro → ST p D ad ro B w0 μ a w →
    Code.rounds Try.prog t2L (fun x a w => x = .exit 0 ∧ ∃ D ad ro B' w1, Up B0 w00 B' w1 ∧ Dr (p.mm 0).1 D ro ∧ (∀ e ∈ (p.mm 0).1, e.2.2 ∈ D.map born) ∧ D.length ≤ (p.mm 0).1.length ∧ STe p D ad ro B' w1 μ a w) (k + 1) a w
  | k, B, w0, D, ad, ro, a, w, hk, hle, u0, hd, s => by
    have hb := u0.base hb0
    by_cases hn : ∀ e ∈ (p.mm 0).1, e.2.2 ∈ D.map born
    · refine rounds_of (wp_mono (tExit h hb hn s) ?_)
      rintro x a' w' ⟨rfl, s'⟩
      exact ⟨rfl, D, ad, ro, B, w0, u0, hd, hn, by omega, s'⟩
    · have hn : ∃ e ∈ (p.mm 0).1, e.2.2 ∉ D.map born := by
        apply Classical.byContradiction
        intro c
        exact hn fun e he => Classical.byContradiction fun c2 => c ⟨e, he, c2⟩
      have hln := h.ln
      have key : t2L.wp Try.prog (fun x a' w' => x = .normal ∧ ∃ e ∈ (p.mm 0).1, born e ∉ D.map born ∧ ∃ ad' B' w1, Up B w0 B' w1 ∧ ST p (D ++ [e]) ad' (fun m => if m = D.length then rowE e else ro m) B' w1 μ a' w') a w := by
        rw [t2L_in]
        refine wp_seq (wp_mono (tDraw h hb hd hn s) ?_)
        rintro x a1 w1 ⟨rfl, e, he, hne, s1⟩
        refine wp_mono (tBody (S := sD p (D ++ [e])) (ro := fun m => if m = D.length then rowE e else ro m) h hb he rfl (if_pos rfl) (by omega) (s1 _ _ rfl (fun m hm => if_neg (by omega)))) ?_
        rintro x a2 w2 ⟨rfl, k2⟩
        exact ⟨rfl, e, he, hne, k2⟩
      refine rounds_of (wp_mono key ?_)
      rintro x a' w' ⟨rfl, e, he, hne, ad', B', w1, u, s'⟩
      have hlt := left_lt he hne
      have hl : (D ++ [e]).length = D.length + 1 := by simp
      match k with
      | 0 => omega
      | k + 1 => exact tRounds h hb0 k B' w1 (D ++ [e]) ad' _ a' w' (by omega) (by omega) (u0.trans u) (hd.more he hne) s'
end Go.Proofs.Ytnenjcehicaobaa.pf
