/-
  The laws of profile: Merge: its main loop, its contract.
-/
import Derived.Test.YtnenjcehicaobaaPFQ
set_option linter.unusedVariables false
set_option linter.unusedSimpArgs false
set_option linter.unusedSectionVars false
set_option maxRecDepth 1000000
set_option maxHeartbeats 0
namespace Go.Proofs.Ytnenjcehicaobaa.pf
open Go.X Go.RowKit Go.Proofs
section
variable {p : Pm} {B : Kp} {w0 : World} {μ : M} {a : Act} {w : World} {N o : Nat} {it : Nat → Nat} {F : List Row}
def SC (p : Pm) (B : Kp) (w0 : World) (μ : M) (a : Act) (w : World) : Prop := St (T0 p) B w0 μ ntM (frOf fsM5v) (hOf 20010 (bsO 20003 10 30)) a w
theorem mFix {p' : Pm} (hb : Base B μ 20000) (h : Hk p) (hn : 0 < p.G.len (p.G.nx (p.it 0))) (hne : ∀ m, m < p.N → 0 < p.G.len (p.it1 m)) (ha : p.ita = p.it1) (hi : p.itb = (dn p.G p.N (p.N + 1) p.it1 0).1) (hp : p' = { p with it := p.itb, ita := p'.ita, itb := p'.itb }) (s : SC p B w0 μ a w) :
    m5c.wp Try.prog (fun e a' w' => e = .normal ∧ SC p' B w0 μ a' w') a w := by
  have eG : p'.G = p.G := by rw [hp]
  have eN : p'.N = p.N := by rw [hp]
  have eK : p'.K = p.K := by rw [hp]
  have eo : p'.o = p.o := by rw [hp]
  have eR : p'.R = p.R := by rw [hp]
  have ei : p'.it = p.itb := by rw [hp]
  obtain ⟨t, ht⟩ : ∃ t, decide (0 < (dn p.G p.N (p.N + 1) p.ita 0).2) = t := ⟨_, rfl⟩
  have o := dI_ok (p := p) (b0 := 0) (n := p.N) (t := t) (x0 := .int .i64 0) (x1 := .oi 22) ⟨h.g, Nat.le_refl _, h.N1, by rw [ha]; exact hne, by omega, fun m hm => by rw [hi, ha], ht⟩ (gI3 _)
    (ipK' (b := ((0 : Nat) : Int)) (ipK' (b := ((0 : Nat) : Int)) (ipE (q := (.i64, (p.N : Int))) (ipE (q := (.i64, (p.N : Int))) ipNil (by exact rfl) (by exact rfl)) (by exact rfl) (by exact rfl)) (by exact rfl) rfl) (by exact rfl) rfl)
  have hd : decide (p.G.len (p.G.nx (p.it 0)) = 0) = false := decide_eq_false (by omega)
  have hae : ∀ m, m < p.N → p.ita m = p.it1 m := fun m _ => by rw [ha]
  exact runTo_sound (T := (RF h hd hae).T) (T' := T0 p') mixed (inH (InOk.tab (Rz.same _) o) (dLim0 _ _ _)) (C := C5v 20003 i5v) (ex := .normal) hb (by decide) (rl := [(20001, 20001), (20002, 20002), (20003, 20003)]) rfl (by kernel_rfl)
    (ipE (q := (.i64, (p.o : Int))) (i5_ok (x := p.K) (y := (p.N : Int)) (by exact rfl) (by show ((IntKind.i64, (p'.N : Int)) : IntKind × Int) = _; rw [eN]) (by exact rfl) (by show ((IntKind.i64, p'.K) : IntKind × Int) = _; rw [eK])) (by exact rfl) (by show ((IntKind.i64, (p'.o : Int)) : IntKind × Int) = _; rw [eo]))
    (vpOut (i := 30) (n := p.o) (vpVec (n := p.N) (n' := p'.N) (e := cq p.itb) (e' := cq p'.it) vpNil (by exact rfl) (by exact rfl) (by rw [eN]; exact Nat.le_refl _) (by show p'.N ≤ p.N; rw [eN]; exact Nat.le_refl _) (fun m hm μ μ' v h => rwRel (by show p.G.rv (p.itb m) = p'.G.rv (p'.it m); rw [eG, ei]) h)) (hv' := by show celV (2 * p'.o) co = _; rw [eo]) (hk' := by show 2 * p'.o = _; rw [eo]) (he := fun j _ => outSame p p' eR j)) (fun g => glM eG g) (gF t h hd hae) (St.same (Rz.same _) s)
theorem mPop {p' : Pm} (hb : Base B μ 20000) (h : Hk p) (hn : p.G.len (p.G.nx (p.it 0)) = 0) (hne : ∀ m, m < p.N - 1 → 0 < p.G.len (swF p.it1 0 (p.N - 1) m)) (ha : p.ita = swF p.it1 0 (p.N - 1)) (hi : p.itb = (dn p.G (p.N - 1) (p.N - 1 + 1) (swF p.it1 0 (p.N - 1)) 0).1) (hp : p' = { p with N := p.N - 1, it := p.itb, ita := p'.ita, itb := p'.itb }) (s : SC p B w0 μ a w) :
    m5c.wp Try.prog (fun e a' w' => e = .exit 3 ∧ SC p' B w0 μ a' w') a w := by
  have eG : p'.G = p.G := by rw [hp]
  have eN : p'.N = p.N - 1 := by rw [hp]
  have eK : p'.K = p.K := by rw [hp]
  have eo : p'.o = p.o := by rw [hp]
  have eR : p'.R = p.R := by rw [hp]
  have ei : p'.it = p.itb := by rw [hp]
  obtain ⟨t, ht⟩ : ∃ t, decide (0 < (dn p.G (p.N - 1) (p.N - 1 + 1) p.ita 0).2) = t := ⟨_, rfl⟩
  have o := dI_ok (p := p) (b0 := 0) (n := p.N - 1) (t := t) (x0 := .int .i64 0) (x1 := .oi 21) ⟨h.g, Nat.sub_le _ _, h.N1, by rw [ha]; exact hne, by omega, fun m hm => by rw [hi, ha], ht⟩ (gI2 _)
    (ipK' (b := ((0 : Nat) : Int)) (ipK' (b := ((0 : Nat) : Int)) (ipE (q := (.i64, ((p.N - 1 : Nat) : Int))) (ipE (q := (.i64, (p.N : Int))) ipNil (by exact rfl) (by exact rfl)) (by exact rfl) (by exact rfl)) (by exact rfl) rfl) (by exact rfl) rfl)
  have hd : decide (p.G.len (p.G.nx (p.it 0)) = 0) = true := decide_eq_true hn
  have hae : ∀ m, m < p.N → p.ita m = swF p.it1 0 (p.N - 1) m := fun m _ => by rw [ha]
  have h0 := h.N0
  have hbe : p.itb (p.N - 1) = p.G.nx (p.it 0) := by
    rw [hi]
    by_cases c : p.N = 1
    · rw [c]
      rw [dn_stop (by rintro ⟨k, _⟩; omega)]
      show swF p.it1 0 (1 - 1) 0 = _
      rw [sw_r]; rfl
    · rw [dn_out _ _ _ _ (Nat.le_refl _) (by omega), sw_r]; rfl
  exact runTo_sound (T := (RP h hd hae hbe).T) (T' := T0 p') mixed (inH (InOk.tab (Rz.same _) o) (dLim0 _ _ _)) (C := C5v 20003 ((.oi 30, 30) :: (.oi 21, 22) :: (.oi 40, 40) :: [])) (ex := .exit 3) hb (by decide) (rl := [(20001, 20001), (20002, 20002), (20003, 20003)]) rfl (by kernel_rfl)
    (ipE (q := (.i64, (p.o : Int))) (ipE (q := (.i64, ((p.N - 1 : Nat) : Int))) (ipE (q := (.i64, p.K)) ipNil (by exact rfl) (by show ((IntKind.i64, p'.K) : IntKind × Int) = _; rw [eK])) (by exact rfl) (by show ((IntKind.i64, (p'.N : Int)) : IntKind × Int) = _; rw [eN])) (by exact rfl) (by show ((IntKind.i64, (p'.o : Int)) : IntKind × Int) = _; rw [eo]))
    (vpOut (i := 30) (n := p.o) (vpVec (n := p.N) (n' := p'.N) (e := cq p.itb) (e' := cq p'.it) vpNil (by exact rfl) (by exact rfl) (by omega) (by show p'.N ≤ p.N; omega) (fun m hm μ μ' v h => rwRel (by show p.G.rv (p.itb m) = p'.G.rv (p'.it m); rw [eG, ei]) h)) (hv' := by show celV (2 * p'.o) co = _; rw [eo]) (hk' := by show 2 * p'.o = _; rw [eo]) (he := fun j _ => outSame p p' eR j)) (fun g => glM eG g) (gP t h hd hae hbe) (St.same (Rz.same _) s)
/-- what comes out, as it was known ahead -/
structure Fok (p : Pm) (F : List Row) : Prop where
  F1 : F.length + 1 < 1000000
  R : ∀ i, i < F.length → F[i]? = some (p.R i)
theorem mRound (hb : Base B μ 20000) (f : Fok p F) (hN : N < 1000000) (i : MI p.G F it N o) (h0 : 0 < N) (hK : (o : Int) < p.K) (s : SM (atM p N it o) B w0 μ a w) :
    m5L.wp Try.prog (fun e a' w' => e = .normal ∧ ∃ N' it', N' ≤ N ∧ MI p.G F it' N' (o + 1) ∧ SM (atM p N' it' (o + 1)) B w0 μ a' w') a w := by
  obtain ⟨e1, e2, _⟩ := i.head h0
  have f1 := f.F1
  have hk : Hok (atM p N it o) := ⟨⟨i.g, h0, hN, i.ne 0 h0⟩, (by show o + 1 < 1000000; omega), (by
    have := f.R o e1
    rw [e2] at this
    exact (Option.some.inj this).symm)⟩
  rw [m5_in]
  by_cases hn : 0 < p.G.len (p.G.nx (it 0))
  · refine wp_seq (wp_mono (mOut (p' := atF p N it (o + 1) (upF it 0 (p.G.nx (it 0))) (dn p.G N (N + 1) (upF it 0 (p.G.nx (it 0))) 0).1) hb hk hK rfl s) ?_)
    rintro e a1 w1 ⟨rfl, s1⟩
    refine wp_block (wp_seq (wp_mono s1 ?_))
    rintro e a2 w2 ⟨rfl, s2⟩
    show m5c.wp _ _ _ _
    refine wp_mono (mFix (p := atF p N it (o + 1) (upF it 0 (p.G.nx (it 0))) (dn p.G N (N + 1) (upF it 0 (p.G.nx (it 0))) 0).1) (p' := atM p N (dn p.G N (N + 1) (upF it 0 (p.G.nx (it 0))) 0).1 (o + 1)) hb ⟨i.g, h0, hN, i.ne 0 h0⟩ hn (fun m hm => ?_) rfl rfl rfl s2) ?_
    · show 0 < p.G.len (upF it 0 (p.G.nx (it 0)) m)
      unfold upF; split
      · exact hn
      · exact i.ne m hm
    · rintro e a3 w3 ⟨rfl, s3⟩
      exact ⟨rfl, N, _, Nat.le_refl _, i.fix h0 hn, .inr ⟨Nat.succ_pos _, s3⟩⟩
  · have hn : p.G.len (p.G.nx (it 0)) = 0 := by omega
    refine wp_seq (wp_mono (mOut (p' := atF p N it (o + 1) (swF (upF it 0 (p.G.nx (it 0))) 0 (N - 1)) (dn p.G (N - 1) (N - 1 + 1) (swF (upF it 0 (p.G.nx (it 0))) 0 (N - 1)) 0).1) hb hk hK rfl s) ?_)
    rintro e a1 w1 ⟨rfl, s1⟩
    refine wp_block (wp_seq (wp_mono s1 ?_))
    rintro e a2 w2 ⟨rfl, s2⟩
    show m5c.wp _ _ _ _
    refine wp_mono (mPop (p := atF p N it (o + 1) (swF (upF it 0 (p.G.nx (it 0))) 0 (N - 1)) (dn p.G (N - 1) (N - 1 + 1) (swF (upF it 0 (p.G.nx (it 0))) 0 (N - 1)) 0).1) (p' := atM p (N - 1) (dn p.G (N - 1) (N - 1 + 1) (swF (upF it 0 (p.G.nx (it 0))) 0 (N - 1)) 0).1 (o + 1)) hb ⟨i.g, h0, hN, i.ne 0 h0⟩ hn (fun m hm => ?_) rfl rfl rfl s2) ?_
    · show 0 < p.G.len (swF (upF it 0 (p.G.nx (it 0))) 0 (N - 1) m)
      have hm : m < N - 1 := hm
      by_cases c : m = 0
      · subst c; rw [sw_l (by omega), up_ne (by omega)]; exact i.ne _ (by omega)
      · rw [sw_o c (by omega), up_ne c]; exact i.ne _ (by omega)
    · rintro e a3 w3 ⟨rfl, s3⟩
      exact ⟨rfl, N - 1, _, Nat.sub_le _ _, i.pop h0 hn, .inr ⟨Nat.succ_pos _, s3⟩⟩
/-- it ends -/
theorem mExit (hb : Base B μ 20000) (h : ¬ ((p.o : Int) < p.K ∧ 0 < p.N)) (hz : p.o = 0 → 0 < p.N) (s : SM p B w0 μ a w) : m5L.wp Try.prog (fun e a' w' => e = .exit 2 ∧ SX p B w0 μ a' w') a w := by
  rw [m5_in]
  refine wp_seq (wp_mono (Q := fun e a' w' => e = .exit 2 ∧ SX p B w0 μ a' w') ?_ (by rintro e a' w' ⟨rfl, s'⟩; exact ⟨rfl, s'⟩))
  rcases s with ⟨h0, s⟩ | ⟨h0, s⟩
  · have hK : ¬ (0 : Int) < p.K := fun c => h ⟨by rw [h0]; exact c, hz h0⟩
    refine wp_mono (runTo_sound (T := (RCn false _ (decide_eq_false hK) rfl).T) (T' := T0 p) mixed hNo (C := CM [] []) (ex := .exit 2) hb (by decide) (rl := []) rfl (by kernel_rfl) ipNil vpNil (fun g => glM rfl g) (gCnf _ (decide_eq_false hK) rfl) (St.same (Rz.same _) s)) ?_
    rintro e a' w' ⟨rfl, s'⟩
    exact ⟨rfl, .inl ⟨h0, s'⟩⟩
  · by_cases hK : (p.o : Int) < p.K
    · have hN : ¬ 0 < p.N := fun c => h ⟨hK, c⟩
      refine wp_mono (runTo_sound (T := (RCv true false (decide_eq_true hK) (decide_eq_false hN)).T) (T' := T0 p) mixed hNo (C := CX) (ex := .exit 2) hb (by decide) (rl := [(20003, 20003)]) rfl (by kernel_rfl) (ipE (q := (.i64, (p.o : Int))) ipNil (by exact rfl) (by exact rfl)) (vpOut (i := 30) (n := p.o) vpNil (he := fun j _ => outSame p p rfl j)) (fun g => glM rfl g) (gCve (decide_eq_true hK) (decide_eq_false hN)) (St.same (Rz.same _) s)) ?_
      rintro e a' w' ⟨rfl, s'⟩
      exact ⟨rfl, .inr ⟨h0, s'⟩⟩
    · refine wp_mono (runTo_sound (T := (RCv false _ (decide_eq_false hK) rfl).T) (T' := T0 p) mixed hNo (C := CX) (ex := .exit 2) hb (by decide) (rl := [(20003, 20003)]) rfl (by kernel_rfl) (ipE (q := (.i64, (p.o : Int))) ipNil (by exact rfl) (by exact rfl)) (vpOut (i := 30) (n := p.o) vpNil (he := fun j _ => outSame p p rfl j)) (fun g => glM rfl g) (gCvf _ (decide_eq_false hK) rfl) (St.same (Rz.same _) s)) ?_
      rintro e a' w' ⟨rfl, s'⟩
      exact ⟨rfl, .inr ⟨h0, s'⟩⟩
theorem mRounds (hb : Base B μ 20000) (f : Fok p F) : ∀ (k N o : Nat) (it : Nat → Nat) (a : Act) (w : World), F.length ≤ o + k → o ≤ p.K.toNat → N < 1000000 → (o = 0 → 0 < N) → MI p.G F it N o → SM (atM p N it o) B w0 μ a w →
    Code.rounds Try.prog m5L (fun e a w => e = .exit 2 ∧ ∃ N it, SX (atM p N it (min p.K.toNat F.length)) B w0 μ a w) (k + 1) a w
  | k, N, o, it, a, w, hk, ho, hN, hz, i, s => by
    by_cases g : (o : Int) < p.K ∧ 0 < N
    · refine rounds_of (wp_mono (mRound hb f hN i g.2 g.1 s) ?_)
      rintro e a' w' ⟨rfl, N', it', hN', i', s'⟩
      have hlt := (i.head g.2).1
      match k with
      | 0 => omega
      | k + 1 => exact mRounds hb f k N' (o + 1) it' a' w' (by omega) (by have := g.1; omega) (by omega) (fun c => by omega) i' s'
    · refine rounds_of (wp_mono (mExit (p := atM p N it o) hb g hz s) ?_)
      rintro e a' w' ⟨rfl, s'⟩
      refine ⟨rfl, N, it, ?_⟩
      have e : min p.K.toNat F.length = o := by
        by_cases c : (o : Int) < p.K
        · have hN0 : N = 0 := by
            rcases Nat.eq_zero_or_pos N with h | h
            · exact h
            · exact absurd ⟨c, h⟩ g
          subst hN0
          have := i.done
          omega
        · have := i.le
          omega
      rw [e]; exact s'
end
end Go.Proofs.Ytnenjcehicaobaa.pf
