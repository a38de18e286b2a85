/-
  The laws of profile: container/heap's Init.
-/
import Derived.Test.YtnenjcehicaobaaPFM
set_option linter.unusedVariables false
set_option linter.unusedSimpArgs false
set_option linter.unusedSectionVars false
set_option maxRecDepth 1000000
set_option maxHeartbeats 0
namespace Go.Proofs.Ytnenjcehicaobaa.pf
open Go.X Go.RowKit Go.Proofs
noncomputable def nC : Code := codeOf Try.f10
theorem nC_eq : Try.f10.body = some nC := by kernel_rfl
noncomputable abbrev ntN : Nat := Try.f10.ntmps
noncomputable def nL : Code := lpIn (restn 2 nC)
theorem nL_eq : restn 2 nC = .block 0 (.loop nL) := by kernel_rfl
noncomputable abbrev fsN : List (Nat × AV) := [(0, .iface 41 (.ptr 20001 0)), (2, .oi 22), (3, .oi 20)]
def ini (G : Gi) (N : Nat) : Nat → (Nat → Nat) → (Nat → Nat)
  | 0, it => it
  | a + 1, it => ini G N a (dn G N (N + 1) it a).1
section
variable {p : Pm} {B : Kp} {w0 : World} {μ : M} {a : Act} {w : World}
noncomputable abbrev RN0 (h : p.N < 1000000) : Rz p where
  ib := [(3, .oi 22, .int .i64 2, .oi 27), (1, .oi 27, .int .i64 1, .oi 29)]
  ibok := rQuo (a := (p.N : Int)) (b := 2) (c := ((p.N / 2 : Nat) : Int)) (rSub (a := ((p.N / 2 : Nat) : Int)) (b := 1) (c := ((p.N / 2 : Nat) : Int) - 1) ibNil)
noncomputable abbrev RN1 (h0 : 0 ≤ p.i0) (h1 : p.i0 < 1000000) : Rz p where
  ib := [(14, .oi 20, .int .i64 0, .bool true), (1, .oi 20, .int .i64 1, .oi 23)]
  ibok := rGe (rSub (a := p.i0) (b := 1) (c := p.i0 - 1) ibNil)
noncomputable abbrev RN2 (h0 : ¬ 0 ≤ p.i0) : Rz p where
  ib := [(14, .oi 20, .int .i64 0, .bool false)]
  ibok := rGe (a := p.i0) (b := 0) ibNil
noncomputable abbrev ipN2 (i : Nat) : IP := [(.oi i, 20), (.oi 22, 22)]
theorem gN0 (h : p.N < 1000000) : firstTo (RN0 h).T Try.prog Hand.none 3000 ntN 2 nC (T.ofList 0 .leaf [.iface 41 (.ptr 20001 0)]) (hIn 20010 (bsOf (bsC 20))) (CI (ipN2 29)) [(20002, .vec 20, 20)] fsN (bsC 20) = true := by as_aux_lemma => kernel_rfl
theorem gN1 (t : Bool) (h0 : 0 ≤ p.i0) (h1 : p.i0 < 1000000) : runTo (RN1 h0 h1).T Try.prog (inHand (dI (.oi 20) (.oi 22) t)) 3000 ntN nL (frOf fsN) (hOf 20010 (bsC 20)) .normal (CI (ipN2 23)) [(20002, .vec 21, 20)] fsN (bsC 20) = true := by cases t <;> as_aux_lemma => kernel_rfl
theorem gN2 (h0 : ¬ 0 ≤ p.i0) : runTo (RN2 h0).T Try.prog Hand.none 3000 ntN nL (frOf fsN) (hOf 20010 (bsC 20)) (.exit 0) (CI [(.oi 22, 22)]) [(20002, .vec 20, 21)] [] (bsC 21) = true := by as_aux_lemma => kernel_rfl
def SN (p : Pm) (B : Kp) (w0 : World) (μ : M) (a : Act) (w : World) : Prop := St (T0 p) B w0 μ ntN (frOf fsN) (hOf 20010 (bsC 20)) a w
/-- what is left to do -/
def atN (p : Pm) (it : Nat → Nat) (k : Nat) : Pm := { p with ita := it, itb := (dn p.G p.N (p.N + 1) it (k - 1)).1, i0 := (k : Int) - 1 }
theorem dLim0 (x0 x1 : AV) (t : Bool) : okLim (dI x0 x1 t).bs = true := by kernel_rfl
theorem inH {T : Tab} {c : In} (o : @InOk Try.prog c T) (h : okLim c.bs = true) : @HandOk T Try.prog (inHand c) := by
  letI := T
  exact inHand_ok o h
theorem nRounds {itb : Nat → Nat} (g : Gok p.G) (hN : p.N < 1000000) (hb : Base B μ 20010) : ∀ (k : Nat) (it : Nat → Nat) (a : Act) (w : World), k ≤ p.N → (∀ m, m < p.N → 0 < p.G.len (it m)) → (∀ m, m < p.N → itb m = ini p.G p.N k it m) → SN (atN p it k) B w0 μ a w →
    Code.rounds Try.prog nL (fun e a w => e = .exit 0 ∧ St (T0 { p with itb := itb }) B w0 μ ntN (frOf []) (hOf 20010 (bsC 21)) a w) (k + 1) a w
  | 0, it, a, w, hk, ne, hi, s => by
    refine rounds_of (wp_mono (Q := fun e a w => e = .exit 0 ∧ St (T0 { p with itb := itb }) B w0 μ ntN (frOf []) (hOf 20010 (bsC 21)) a w) ?_ ?_)
    · exact runTo_sound (T := (RN2 (p := atN p it 0) (by show ¬ 0 ≤ ((0 : Nat) : Int) - 1; omega)).T) (T' := T0 { p with itb := itb }) mixed hNo (C := CI [(.oi 22, 22)]) (ex := .exit 0) hb (Nat.le_refl _) (rl := []) rfl (by kernel_rfl) (ipE (q := (.i64, (p.N : Int))) ipNil (by exact rfl) (by exact rfl)) (vpQ (n := p.N) (f := it) (f' := itb) (k := vpNil) (he := fun m hm => by show p.G.rv (it m) = p.G.rv (itb m); rw [hi m hm]; rfl)) (fun g => gw_gl (p := { p with itb := itb }) (gl_gw (p := atN p it 0) (Gl.tab (Rz.same _).symm.toSameV g))) (gN2 _) (St.same (Rz.same _) s)
    · rintro e a' w' ⟨rfl, s'⟩
      exact ⟨rfl, s'⟩
  | k + 1, it, a, w, hk, ne, hi, s => by
    have ek : ((k + 1 : Nat) : Int) - 1 = (k : Int) := by omega
    refine rounds_of (wp_mono (Q := fun e a w => e = .normal ∧ SN (atN p (dn p.G p.N (p.N + 1) it k).1 k) B w0 μ a w) ?_ ?_)
    · obtain ⟨t, ht⟩ : ∃ t, decide (k < (dn p.G p.N (p.N + 1) it k).2) = t := ⟨_, rfl⟩
      have o := (dI_ok (p := atN p it (k + 1)) (b0 := k) (n := p.N) (t := t) (x0 := .oi 20) (x1 := .oi 22) ⟨g, Nat.le_refl _, hN, ne, by omega, fun m hm => rfl, ht⟩ (gI1 _)
        (ipE (q := (.i64, (k : Int))) (ipE (q := (.i64, (k : Int))) (ipE (q := (.i64, (p.N : Int))) (ipE (q := (.i64, (p.N : Int))) ipNil (by exact rfl) (by exact rfl)) (by exact rfl) (by exact rfl)) (by show ((IntKind.i64, ((k + 1 : Nat) : Int) - 1) : IntKind × Int) = _; rw [ek]) (by exact rfl)) (by show ((IntKind.i64, ((k + 1 : Nat) : Int) - 1) : IntKind × Int) = _; rw [ek]) (by exact rfl)))
      have h0 : 0 ≤ (atN p it (k + 1)).i0 := by show 0 ≤ ((k + 1 : Nat) : Int) - 1; omega
      have h1 : (atN p it (k + 1)).i0 < 1000000 := by show ((k + 1 : Nat) : Int) - 1 < 1000000; omega
      exact runTo_sound (T := (RN1 (p := atN p it (k + 1)) h0 h1).T) (T' := T0 (atN p (dn p.G p.N (p.N + 1) it k).1 k)) mixed (inH (InOk.tab (Rz.same _) o) (dLim0 _ _ _)) (C := CI (ipN2 23)) (ex := .normal) hb (Nat.le_refl _) (rl := []) rfl (by kernel_rfl)
        (ipZ (a := ((k + 1 : Nat) : Int) - 1 - 1) (b := (k : Int) - 1) (q := .i64) (ipE (q := (.i64, (p.N : Int))) ipNil (by exact rfl) (by exact rfl)) (by exact rfl) (by exact rfl) (by omega)) (vpQ (n := p.N) (f := (dn p.G p.N (p.N + 1) it k).1) (f' := (dn p.G p.N (p.N + 1) it k).1) (k := vpNil)) (fun g => gw_gl (p := atN p (dn p.G p.N (p.N + 1) it k).1 k) (gl_gw (p := atN p it (k + 1)) (Gl.tab (Rz.same _).symm.toSameV g))) (gN1 t h0 h1) (St.same (Rz.same _) s)
    · rintro e a' w' ⟨rfl, s'⟩
      exact nRounds g hN hb k _ a' w' (by omega) (dn_all (P := fun e => 0 < p.G.len e) ne) hi s'
noncomputable def nI : In := ⟨10, [.iface 41 (.ptr 20001 0)], 20010, bsOf (bsC 20), .tup [], 20010, bsOf (bsC 21)⟩
theorem nLim : okLim nI.bs' = true := by kernel_rfl
theorem nLim0 : okLim nI.bs = true := by kernel_rfl
theorem nAll : hasAll (hOf 20010 (bsC 21)) nI.bs' = true := by as_aux_lemma => kernel_rfl
theorem nRes : results? Try.prog Try.f10 (frOf []) (hOf 20010 (bsC 21)) = some (.tup []) := by as_aux_lemma => kernel_rfl
theorem nI_ok (g : Gok p.G) (hN : p.N < 1000000) (ne : ∀ m, m < p.N → 0 < p.G.len (p.ita m)) (hi : ∀ m, m < p.N → p.itb m = ini p.G p.N (p.N / 2) p.ita m) : @InOk Try.prog nI (T0 p) := by
  letI : Tab := T0 p
  refine ⟨nLim, hOf 20010 (bsC 21), ?_, hOf_next'.symm, nAll⟩
  refine callOk_of (fn := Try.f10) Try.func10 nC_eq (show 1 ≤ Try.f10.ntmps by decide +kernel) (show 1 < limit by decide) fun B w0 μ a0 w hb s => ?_
  have hb : Base B μ 20010 := by
    have h := hb
    rw [show (hIn nI.N nI.bs).next = 20010 from hIn_next] at h
    exact h
  refine firstTo_sound (T := (RN0 (p := p) hN).T) (T' := T0 (atN p p.ita (p.N / 2))) (n := 2) mixed (K := Hand.none) hNo (C := CI (ipN2 29)) (rl := []) (fs := fsN) (bs := bsC 20)
    hb (Nat.le_refl _) rfl (by kernel_rfl) (ipE (q := (.i64, ((p.N / 2 : Nat) : Int) - 1)) (ipE (q := (.i64, (p.N : Int))) ipNil (by exact rfl) (by exact rfl)) (by exact rfl) (by exact rfl)) (vpQ (n := p.N) (f := p.ita) (f' := p.ita) (k := vpNil)) (fun g => gw_gl (p := atN p p.ita (p.N / 2)) (gl_gw (p := p) (Gl.tab (Rz.same _).symm.toSameV g))) (gN0 hN) (St.same (Rz.same _) s) fun a1 w1 s1 => ?_
  rw [nL_eq]
  refine wp_block (wp_mono (wp_loop_rounds (Q := fun e a w => e = .exit 0 ∧ St (T0 { p with itb := p.itb }) B w0 μ ntN (frOf []) (hOf 20010 (bsC 21)) a w) (p.N / 2 + 1) (nRounds g hN hb (p.N / 2) p.ita a1 w1 (by omega) ne hi s1)) ?_)
  rintro e a2 w2 ⟨rfl, s2⟩
  exact St.done (τ := T0 p) (e := .normal) (.inl rfl) nRes s2
end
end Go.Proofs.Ytnenjcehicaobaa.pf
