/-
  The law ProfileMerge: a list that Top gave is set aside.
-/
import Derived.Test.YtnenjcehicaobaaPMC
import Derived.Test.YtnenjcehicaobaaPGK
set_option linter.unusedVariables false
set_option linter.unusedSimpArgs false
set_option linter.unusedSectionVars false
set_option maxRecDepth 1000000
set_option maxHeartbeats 0
namespace Go.Proofs.Ytnenjcehicaobaa.pf
open Go.X Go.RowKit Go.Proofs
noncomputable abbrev rlS1 : List (Nat × Nat) := [(18002, 18002), (18003, 18003)]
noncomputable abbrev iS1 : IP := (.oi 26, 24) :: iO
theorem okSf : okFs (CQ rlS1 iS1) (frOf (fsO ls6)) (fsO lsv) = true := by as_aux_lemma => kernel_rfl
theorem okSb : okBs (CQ rlS1 iS1) [(18003, .vec 28, 24)] (hOf 19000 (bsR1 18003 18004)) (bsP bsl) .leaf = true := by as_aux_lemma => kernel_rfl
theorem okSb0 : okBs (CQ rlS1 iS1) [(18003, .vec 27, 24)] (hOf 19000 (bsR0 18003)) (bsP bsl) .leaf = true := by as_aux_lemma => kernel_rfl
theorem getS4 : (hOf 19000 (bsR1 18003 18004)).get 18004 = some (.vec 30) := by as_aux_lemma => kernel_rfl
theorem getS3 : (hOf 19000 (bsR1 18003 18004)).get 18003 = some (.vec 28) := by as_aux_lemma => kernel_rfl
theorem CW.up {p : Lm} {B B' : Kp} {w0 w1 : World} (u : Up B w0 B' w1) (h : CW p B w0) : CW p B' w1 := by
  refine ⟨fun m hm => ?_, fun x hx m hm => ?_⟩
  · obtain ⟨h1, h2, h3⟩ := h.o m hm
    exact ⟨u.k _ h1, by rw [World.cell?_of_block (w := w0) (a := ⟨p.a.1, p.a.2 + m, none⟩) (u.bl _ h1)]; exact h2, h3⟩
  · obtain ⟨h1, h2⟩ := h.r x hx m hm
    exact ⟨u.k _ h1, by rw [World.cell?_of_block (w := w0) (a := ⟨(p.ra x).1, (p.ra x).2 + m, none⟩) (u.bl _ h1)]; exact h2⟩
theorem CW.same {p p' : Lm} {B : Kp} {w : World} (h1 : p'.n = p.n) (h2 : p'.a = p.a) (h3 : p'.rk = p.rk) (h4 : p'.ra = p.ra) (h5 : p'.rn = p.rn) (h6 : p'.e = p.e) (h : CW p B w) : CW p' B w := by
  refine ⟨fun m hm => ?_, fun x hx m hm => ?_⟩
  · rw [h1] at hm
    rw [h2, h3]; exact h.o m hm
  · rw [h1] at hx
    rw [h5] at hm
    rw [h4, h6]; exact h.r x hx m hm
def upG {α : Type} (f : Nat → α) (M : Nat) (v : α) : Nat → α := fun m => if m = M then v else f m
theorem upG_eq {α : Type} {f : Nat → α} {M : Nat} {v : α} : upG f M v M = v := if_pos rfl
theorem upG_ne {α : Type} {f : Nat → α} {M m : Nat} {v : α} (h : m ≠ M) : upG f M v m = f m := if_neg h
theorem gm_up {M : Nat} {L : Nat → Nat} {ad : Nat → Nat × Nat} {cp : Nat → Nat} {Fs : Nat → List Row} {l : Nat × Nat} {c m : Nat} (hm : m < M) (h8 : M < 8) : (gm (M + 1) L (upG ad M l) (upG cp M c) Fs).rv m = (gm M L ad cp Fs).rv m := by
  have e1 : m % 8 = m := by omega
  have e2 : m / 8 = 0 := by omega
  show (if m % 8 < M + 1 ∧ 0 < L (m % 8) then (if m / 8 < L (m % 8) then Value.slice (some (adM (upG ad M l) (m % 8) (m / 8))) (L (m % 8) - m / 8) (upG cp M c (m % 8) - m / 8) else _) else _) = (if m % 8 < M ∧ 0 < L (m % 8) then (if m / 8 < L (m % 8) then Value.slice (some (adM ad (m % 8) (m / 8))) (L (m % 8) - m / 8) (cp (m % 8) - m / 8) else _) else _)
  rw [e1, e2]
  by_cases c0 : 0 < L m
  · rw [if_pos ⟨by omega, c0⟩, if_pos c0, if_pos ⟨hm, c0⟩, if_pos c0]
    unfold adM
    rw [upG_ne (by omega), upG_ne (by omega)]
  · rw [if_neg (fun h => c0 h.2), if_neg (fun h => c0 h.2)]
theorem gm_last {M : Nat} {L : Nat → Nat} {ad : Nat → Nat × Nat} {cp : Nat → Nat} {Fs : Nat → List Row} {l : Nat × Nat} {c : Nat} (h8 : M < 8) : (gm (M + 1) L (upG ad M l) (upG cp M c) Fs).rv M = if 0 < L M then .slice (some ⟨l.1, l.2, none⟩) (L M) c else .slice none 0 0 := by
  have e1 : M % 8 = M := by omega
  have e2 : M / 8 = 0 := by omega
  show (if M % 8 < M + 1 ∧ 0 < L (M % 8) then (if M / 8 < L (M % 8) then Value.slice (some (adM (upG ad M l) (M % 8) (M / 8))) (L (M % 8) - M / 8) (upG cp M c (M % 8) - M / 8) else _) else _) = _
  rw [e1, e2]
  by_cases c0 : 0 < L M
  · rw [if_pos ⟨by omega, c0⟩, if_pos c0, if_pos c0, upG_eq]
    unfold adM
    rw [upG_eq]
    rfl
  · rw [if_neg (fun h => c0 h.2), if_neg c0]
theorem gw_up {M : Nat} {L : Nat → Nat} {ad : Nat → Nat × Nat} {cp : Nat → Nat} {Fs : Nat → List Row} {l : Nat × Nat} {c : Nat} {B : Kp} {w : World} (h8 : M < 8) (g : GW (gm M L ad cp Fs) B w) (hn : ∀ k, k < L M → B.kept l.1 ∧ w.cell? ⟨l.1, l.2 + 2 * k, none⟩ = some (.string ((Fs M).getD k (.empty, 0)).1) ∧ w.cell? ⟨l.1, l.2 + 2 * k + 1, none⟩ = some (.int .i64 ((Fs M).getD k (.empty, 0)).2)) : GW (gm (M + 1) L (upG ad M l) (upG cp M c) Fs) B w := by
  intro e he
  obtain ⟨h1, h2⟩ := gm_len.1 he
  show B.kept (upG ad M l (e % 8)).1 ∧ w.cell? ⟨(upG ad M l (e % 8)).1, (upG ad M l (e % 8)).2 + 2 * (e / 8), none⟩ = some (.string ((Fs (e % 8)).getD (e / 8) (.empty, 0)).1) ∧ w.cell? ⟨(upG ad M l (e % 8)).1, (upG ad M l (e % 8)).2 + 2 * (e / 8) + 1, none⟩ = some (.int .i64 ((Fs (e % 8)).getD (e / 8) (.empty, 0)).2)
  by_cases c0 : e % 8 = M
  · rw [c0, upG_eq]
    rw [c0] at h2
    exact hn _ h2
  · rw [upG_ne c0]
    exact g e (gm_len.2 ⟨by omega, h2⟩)
section
variable {p : Lm} {B : Kp} {w0 : World} {μ : M} {a : Act} {w : World} {M : Nat} {L : Nat → Nat} {ad : Nat → Nat × Nat} {cp : Nat → Nat} {Fs : Nat → List Row}
/-- so many lists are set aside -/
def atG (p : Lm) (M : Nat) (L : Nat → Nat) (ad : Nat → Nat × Nat) (cp : Nat → Nat) (Fs : Nat → List Row) : Lm := { p with G := gm M L ad cp Fs, M := M }
theorem publish2 (h8 : M < 8) (hi : p.i < p.n ∨ p.rn p.i = 0) (ho : p.o = L M) (h0 : 0 < L M) (hR : ∀ k, k < L M → p.R k = (Fs M).getD k (.empty, 0)) (hb : Base B μ 18000) (s : St (M0 (atG p M L ad cp Fs)) B w0 μ ntQ (frOf (fsO ls6)) (hOf 19000 (bsR1 18003 18004)) a w) :
    ∃ l c B' w1, L M ≤ c ∧ Up B w0 B' w1 ∧ St (M0 (atG p (M + 1) L (upG ad M l) (upG cp M c) Fs)) B' w1 μ ntQ (frOf (fsO lsv)) (hOf 19000 (bsP bsl)) a w := by
  have up := St.up s
  obtain ⟨cw, gw⟩ := gl_cw (St.gl s)
  obtain ⟨μ1, hx, f, r⟩ := s
  obtain ⟨l, hl, o1, _, hbr⟩ := @HR.blk (M0 (atG p M L ad cp Fs)) _ _ _ _ _ r 18004 _ getS4
  obtain ⟨arr, el, fz, g1, g2, g3, g4, g5⟩ := hbr
  obtain ⟨l3, hl3, _, _, hbr3⟩ := @HR.blk (M0 (atG p M L ad cp Fs)) _ _ _ _ _ r 18003 _ getS3
  obtain ⟨arr3, el3, fz3, k1, k2, k3, k4, k5⟩ := hbr3
  obtain ⟨v, q1, q2⟩ := k5 M (cm2 M M) (celV_lt (Nat.lt_succ_self M))
  have q2 : @vrel (M0 (atG p M L ad cp Fs)) μ1 (.ov 18004 30 2) v := by unfold cm2 at q2; rw [if_pos rfl] at q2; exact q2
  simp only [vrel] at q2
  obtain ⟨_, l', c, hl', hcc, htot, hv⟩ := q2
  rw [hl] at hl'
  cases hl'
  have eo : ((M0 (atG p M L ad cp Fs)).iv 30).2.toNat = L M := by show ((p.o : Int)).toNat = _; rw [Int.toNat_natCast, ho]
  rw [eo] at hcc hv
  have hE := aside_of (T := M0 (atG p M L ad cp Fs)) r getS4 rfl hl (bs := bsP bsl) (by intro q hq; simp only [List.mem_cons, List.not_mem_nil, or_false] at hq; rcases hq with rfl | rfl <;> decide)
  refine ⟨(l.block, l.base), c, B.also (fun j => j = l.block), w, hcc, up _, ?_⟩
  have hgw : GW (gm (M + 1) L (upG ad M (l.block, l.base)) (upG cp M c) Fs) (B.also (fun j => j = l.block)) w := by
    refine gw_up h8 (fun e he => ?_) (fun k hk => ?_)
    · obtain ⟨z1, z2, z3⟩ := gw e he
      have kb := (up (fun j => j = l.block)).bl _ z1
      refine ⟨.inl z1, ?_, ?_⟩
      · rw [World.cell?_of_block (w := w0) (a := ⟨((gm M L ad cp Fs).adr e).1, ((gm M L ad cp Fs).adr e).2, none⟩) kb]; exact z2
      · rw [World.cell?_of_block (w := w0) (a := ⟨((gm M L ad cp Fs).adr e).1, ((gm M L ad cp Fs).adr e).2 + 1, none⟩) kb]; exact z3
    · obtain ⟨v0, a0, b0⟩ := g5 (2 * k) (co (2 * k)) (by show celV (2 * p.o) co (2 * k) = _; exact celV_lt (by omega))
      obtain ⟨v1, a1, b1⟩ := g5 (2 * k + 1) (co (2 * k + 1)) (by show celV (2 * p.o) co (2 * k + 1) = _; exact celV_lt (by omega))
      rw [co_even] at b0
      rw [co_odd] at b1
      simp only [vrel] at b0 b1
      have b0 : v0 = .string ((Fs M).getD k (.empty, 0)).1 := by rw [b0]; show Value.string (strM (atG p M L ad cp Fs) (2 * k + 1)) = _; rw [strM_R]; show Value.string (p.R k).1 = _; rw [hR k hk]
      have b1 : v1 = .int .i64 ((Fs M).getD k (.empty, 0)).2 := by rw [b1]; show Value.int (ivM (atG p M L ad cp Fs) (1002 + 3 * k)).1 (ivM (atG p M L ad cp Fs) (1002 + 3 * k)).2 = _; rw [ivM_R]; show Value.int .i64 (p.R k).2 = _; rw [hR k hk]
      refine ⟨.inr rfl, ?_, ?_⟩
      · show w.cell? ⟨l.block, l.base + 2 * k, none⟩ = _
        simpa [World.cell?, g1, b0] using a0
      · show w.cell? ⟨l.block, l.base + 2 * k + 1, none⟩ = _
        simpa [World.cell?, g1, b1, Nat.add_assoc] using a1
  exact ⟨_, HR.weakAt (T := M0 (atG p M L ad cp Fs)) (T' := M0 (atG p (M + 1) L (upG ad M (l.block, l.base)) (upG cp M c) Fs)) (C := CQ rlS1 iS1) hb (by decide) (rl := rlS1) rfl (by kernel_rfl)
    (ipE (q := (.i64, ((M + 1 : Nat) : Int))) (ipE (q := (.i64, (p.i : Int))) (ipF (ipE (q := (.i64, (p.n : Int))) (ipE (q := (.i64, p.K)) (ipE (q := (.i64, (p.t : Int))) (ipM ipNil (by exact rfl)) (by exact rfl) (by exact rfl)) (by exact rfl) (by exact rfl)) (by exact rfl) (by exact rfl)) (by exact rfl) (by exact rfl)) (by exact rfl) (by exact rfl)) (by exact rfl) (by exact rfl)) (vp := [(18003, .vec 28, 24)]) (fun q hq => by
      rw [List.mem_singleton] at hq
      subst hq
      refine ⟨rfl, fun k hk hv' => ?_⟩
      obtain ⟨arr', el', fz', e1, e2, e3, e4, e5⟩ := hv'
      refine ⟨arr', el', fz', e1, e2, e3, e4, fun m x hm => ?_⟩
      have hm : celV (M + 1) cm m = some x := hm
      obtain ⟨hlt, rfl⟩ := celV_some hm
      obtain ⟨v, z1, z2⟩ := e5 m (cm2 M m) (celV_lt hlt)
      refine ⟨v, z1, ?_⟩
      unfold cm2 at z2
      by_cases c0 : m = M
      · subst c0
        rw [if_pos rfl] at z2
        have hk' : k = l3 := by rw [hl3] at hk; exact (Option.some.inj hk).symm
        subst hk'
        rw [k1] at e1
        cases e1
        rw [q1] at z1
        cases z1
        refine vrw ?_ (by rw [hv]; rfl)
        show _ = rvM (atG p (m + 1) L (upG ad m (l.block, l.base)) (upG cp m c) Fs) (2 * m + 10)
        rw [rvM_g]
        show _ = (gm (m + 1) L (upG ad m (l.block, l.base)) (upG cp m c) Fs).rv m
        rw [gm_last h8, if_pos h0, hv]
      · rw [if_neg c0] at z2
        refine rwRel ?_ z2
        show rvM (atG p M L ad cp Fs) (2 * m + 10) = rvM (atG p (M + 1) L (upG ad M (l.block, l.base)) (upG cp M c) Fs) (2 * m + 10)
        rw [rvM_g, rvM_g]
        exact (gm_up (by omega) h8).symm) hE okSf okSb hx f r (fun _ => cw_gl hi (CW.same (p := atG p M L ad cp Fs) rfl rfl rfl rfl rfl rfl (cw.up (up _))) hgw)⟩
theorem publish0 (h8 : M < 8) (hi : p.i < p.n ∨ p.rn p.i = 0) (h0 : L M = 0) (hb : Base B μ 18000) (s : St (M0 (atG p M L ad cp Fs)) B w0 μ ntQ (frOf (fsO ls6)) (hOf 19000 (bsR0 18003)) a w) :
    St (M0 (atG p (M + 1) L (upG ad M (0, 0)) (upG cp M 0) Fs)) B w0 μ ntQ (frOf (fsO lsv)) (hOf 19000 (bsP bsl)) a w := by
  refine St.weak (T := M0 (atG p M L ad cp Fs)) (T' := M0 (atG p (M + 1) L (upG ad M (0, 0)) (upG cp M 0) Fs)) (C := CQ rlS1 iS1) (vp := [(18003, .vec 27, 24)]) hb (by decide) (rl := rlS1) rfl (by kernel_rfl)
    (ipE (q := (.i64, ((M + 1 : Nat) : Int))) (ipE (q := (.i64, (p.i : Int))) (ipF (ipE (q := (.i64, (p.n : Int))) (ipE (q := (.i64, p.K)) (ipE (q := (.i64, (p.t : Int))) (ipM ipNil (by exact rfl)) (by exact rfl) (by exact rfl)) (by exact rfl) (by exact rfl)) (by exact rfl) (by exact rfl)) (by exact rfl) (by exact rfl)) (by exact rfl) (by exact rfl)) (by exact rfl) (by exact rfl)) ?_ (fun g => ?_) okSf okSb0 s
  · refine vpVec (n := M + 1) (n' := M + 1) (e := cm0 M) (e' := cm) vpNil (by exact rfl) (by exact rfl) (Nat.le_refl _) (by exact Nat.le_refl _) (fun m hm μ μ' v h => ?_)
    unfold cm0 at h
    unfold cm
    by_cases c0 : m = M
    · subst c0
      rw [if_pos rfl] at h
      simp only [vrel] at h
      refine vrw ?_ (by rw [h]; rfl)
      show _ = rvM (atG p (m + 1) L (upG ad m (0, 0)) (upG cp m 0) Fs) (2 * m + 10)
      rw [rvM_g]
      show _ = (gm (m + 1) L (upG ad m (0, 0)) (upG cp m 0) Fs).rv m
      rw [gm_last h8, if_neg (by omega), h]
    · rw [if_neg c0] at h
      refine rwRel ?_ h
      show rvM (atG p M L ad cp Fs) (2 * m + 10) = rvM (atG p (M + 1) L (upG ad M (0, 0)) (upG cp M 0) Fs) (2 * m + 10)
      rw [rvM_g, rvM_g]
      exact (gm_up (by omega) h8).symm
  · obtain ⟨cw, gw⟩ := gl_cw g
    exact cw_gl hi (CW.same (p := atG p M L ad cp Fs) rfl rfl rfl rfl rfl rfl cw) (gw_up h8 gw (fun k hk => by omega))
end
end Go.Proofs.Ytnenjcehicaobaa.pf
