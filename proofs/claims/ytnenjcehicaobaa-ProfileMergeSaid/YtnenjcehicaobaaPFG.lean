/-
  The laws of profile: container/heap's down: the contract.
-/
import Derived.Test.YtnenjcehicaobaaPFF
set_option linter.unusedVariables false
set_option linter.unusedSimpArgs false
set_option linter.unusedSectionVars false
set_option maxRecDepth 1000000
set_option maxHeartbeats 0
namespace Go.Proofs.Ytnenjcehicaobaa.pf
open Go.X Go.RowKit Go.Proofs
theorem dnJ_gt {G : Gi} {n i : Nat} {it : Nat → Nat} : i < dnJ G n it i := by unfold dnJ; split <;> omega
theorem dnJ_lt {G : Gi} {n i : Nat} {it : Nat → Nat} (h : 2 * i + 1 < n) : dnJ G n it i < n := by
  unfold dnJ
  split
  · rename_i c
    rw [Bool.and_eq_true] at c
    exact of_decide_eq_true c.1
  · exact h
section
variable {p : Pm} {B : Kp} {w0 : World} {μ : M} {a : Act} {w : World}
theorem sw_ne {G : Gi} {f : Nat → Nat} {x y n : Nat} (h : ∀ m, m < n → 0 < G.len (f m)) (hx : x < n) (hy : y < n) : ∀ m, m < n → 0 < G.len (swF f x y m) := by
  intro m hm
  unfold swF upF
  split
  · exact h x hx
  · split
    · exact h y hy
    · exact h m hm
theorem Dok.nx (h : Dok p) (hj : p.j = dnJ p.G p.n p.it p.i) (g : goesD p) : Dok (nxD p) := by
  have hjn : p.j < p.n := by rw [hj]; exact dnJ_lt g.1
  have h1 := g.1; have h2 := h.nN; have h3 := h.N1
  exact ⟨h.g, h.nN, h.N1, sw_ne (x := p.i) (y := p.j) h.ne (show p.i < p.n by omega) hjn, (by show p.j < 2000000; omega)⟩
theorem dn_go {G : Gi} {n f i : Nat} {it : Nat → Nat} (h : 2 * i + 1 < n) (h2 : lessI G (it (dnJ G n it i)) (it i) = true) : dn G n (f + 1) it i = dn G n f (swF it i (dnJ G n it i)) (dnJ G n it i) := by
  show (if decide (2 * i + 1 < n) && lessI G (it (dnJ G n it i)) (it i) then _ else _) = _
  rw [decide_eq_true h, h2]; rfl
theorem dn_stop {G : Gi} {n f i : Nat} {it : Nat → Nat} (h : ¬ (2 * i + 1 < n ∧ lessI G (it (dnJ G n it i)) (it i) = true)) : dn G n (f + 1) it i = (it, i) := by
  show (if decide (2 * i + 1 < n) && lessI G (it (dnJ G n it i)) (it i) then _ else _) = _
  rw [if_neg]
  intro c
  rw [Bool.and_eq_true] at c
  exact h ⟨of_decide_eq_true c.1, c.2⟩
theorem dRounds (hb : Base B μ 20010) : ∀ (f : Nat) (p : Pm) (a : Act) (w : World), p.n ≤ p.i + f → Dok p → p.j = dnJ p.G p.n p.it p.i → SD p B w0 μ a w →
    Code.rounds Try.prog dL (fun e a w => e = .exit 0 ∧ ∃ j, SD { p with it := (dn p.G p.n (f + 1) p.it p.i).1, i := (dn p.G p.n (f + 1) p.it p.i).2, j := j } B w0 μ a w) (f + 1) a w
  | f, p, a, w, hf, h, hj, s => by
    refine rounds_of (wp_mono (dRound h hj hb s) ?_)
    rintro e a' w' (⟨rfl, g, s'⟩ | ⟨rfl, g, s'⟩)
    · show Code.rounds _ _ _ _ _ _
      match f with
      | 0 => have := g.1; omega
      | f + 1 =>
        have hgt : p.i < p.j := by rw [hj]; exact dnJ_gt
        have hr := dRounds hb f (nxD p) a' w' (by show p.n ≤ p.j + f; omega) (h.nx hj g) rfl s'
        have e : dn p.G p.n (f + 1 + 1) p.it p.i = dn p.G p.n (f + 1) (swF p.it p.i p.j) p.j := by rw [dn_go g.1 (by rw [← hj]; exact g.2), ← hj]
        rw [e]
        exact hr
    · refine ⟨rfl, p.j, ?_⟩
      rw [dn_stop (by rw [← hj]; exact g)]
      exact s'
/-- the contract -/
noncomputable abbrev bsC (v : Nat) : BS := [(20001, 20001, cel (.ov 20002 22 1)), (20002, 20002, .vec v)]
noncomputable def dI (x0 x1 : AV) (t : Bool) : In := ⟨13, [.iface 41 (.ptr 20001 0), x0, x1], 20010, bsOf (bsC 20), .bool t, 20010, bsOf (bsC 21)⟩
noncomputable abbrev ipI (x0 x1 : AV) : IP := [(x0, 3), (x0, 7), (x1, 1), (.oi 22, 0)]
noncomputable abbrev CI (ip : IP) : Cv := ⟨20010, 20010, ofPairs [], ip⟩
theorem gI1 (p : Pm) : firstTo (T0 p) Try.prog Hand.none 3000 ntD 2 dC (T.ofList 0 .leaf [.iface 41 (.ptr 20001 0), .oi 20, .oi 22]) (hIn 20010 (bsOf (bsC 20))) (CI (ipI (.oi 20) (.oi 22))) [(20002, .vec 20, 10)] fsD (bsD 10) = true := by as_aux_lemma => kernel_rfl
theorem gI2 (p : Pm) : firstTo (T0 p) Try.prog Hand.none 3000 ntD 2 dC (T.ofList 0 .leaf [.iface 41 (.ptr 20001 0), .int .i64 0, .oi 21]) (hIn 20010 (bsOf (bsC 20))) (CI (ipI (.int .i64 0) (.oi 21))) [(20002, .vec 20, 10)] fsD (bsD 10) = true := by as_aux_lemma => kernel_rfl
theorem gI3 (p : Pm) : firstTo (T0 p) Try.prog Hand.none 3000 ntD 2 dC (T.ofList 0 .leaf [.iface 41 (.ptr 20001 0), .int .i64 0, .oi 22]) (hIn 20010 (bsOf (bsC 20))) (CI (ipI (.int .i64 0) (.oi 22))) [(20002, .vec 20, 10)] fsD (bsD 10) = true := by as_aux_lemma => kernel_rfl
noncomputable abbrev RDz {p : Pm} (t : Bool) (h : decide (p.i0 < p.i) = t) : Rz p where
  ib := [(13, .oi 3, .oi 7, .bool t)]
  ibok := rGt ibNil (by exact rfl) (by exact rfl) h
theorem gIz {p : Pm} (t : Bool) (h : decide (p.i0 < p.i) = t) : runTo (RDz t h).T Try.prog Hand.none 3000 ntD (restn 3 dC) (frOf fsD) (hOf 20010 (bsD 10)) .ret (CI [(.oi 0, 22)]) [(20002, .vec 10, 21)] [(6, .bool t)] (bsC 21) = true := by cases t <;> as_aux_lemma => kernel_rfl
theorem dLim (x0 x1 : AV) (t : Bool) : okLim (dI x0 x1 t).bs' = true := by kernel_rfl
theorem dAll (x0 x1 : AV) (t : Bool) : hasAll (hOf 20010 (bsC 21)) (dI x0 x1 t).bs' = true := by as_aux_lemma => kernel_rfl
theorem dRes (t : Bool) : results? Try.prog Try.f13 (frOf [(6, .bool t)]) (hOf 20010 (bsC 21)) = some (.bool t) := by as_aux_lemma => kernel_rfl
/-- what is there when it is called -/
structure DIn (p : Pm) (b0 n : Nat) (t : Bool) : Prop where
  g : Gok p.G
  nN : n ≤ p.N
  N1 : p.N < 1000000
  ne : ∀ m, m < n → 0 < p.G.len (p.ita m)
  sl : b0 < 2000000
  r : ∀ m, m < p.N → p.itb m = (dn p.G n (n + 1) p.ita b0).1 m
  t : decide (b0 < (dn p.G n (n + 1) p.ita b0).2) = t
theorem dI_ok {b0 n : Nat} {t : Bool} {x0 x1 : AV} (h : DIn p b0 n t) (f : firstTo (T0 p) Try.prog Hand.none 3000 ntD 2 dC (T.ofList 0 .leaf [.iface 41 (.ptr 20001 0), x0, x1]) (hIn 20010 (bsOf (bsC 20))) (CI (ipI x0 x1)) [(20002, .vec 20, 10)] fsD (bsD 10) = true)
    (hip : IpOk (T0 p) (T0 { p with it := p.ita, n := n, i0 := b0, i := b0, j := dnJ p.G n p.ita b0 }) (ipI x0 x1)) : @InOk Try.prog (dI x0 x1 t) (T0 p) := by
  letI : Tab := T0 p
  refine ⟨dLim x0 x1 t, hOf 20010 (bsC 21), ?_, hOf_next'.symm, dAll x0 x1 t⟩
  refine callOk_of (fn := Try.f13) Try.func13 dC_eq (show 3 ≤ Try.f13.ntmps by decide +kernel) (show 3 < limit by decide) fun B w0 μ a0 w hb s => ?_
  have hb : Base B μ 20010 := by
    have h := hb
    rw [show (hIn (dI x0 x1 t).N (dI x0 x1 t).bs).next = 20010 from hIn_next] at h
    exact h
  refine firstTo_sound (T := T0 p) (T' := T0 { p with it := p.ita, n := n, i0 := b0, i := b0, j := dnJ p.G n p.ita b0 }) (n := 2) mixed (K := Hand.none) hNo (C := CI (ipI x0 x1)) (rl := []) (fs := fsD) (bs := bsD 10)
    hb (Nat.le_refl _) rfl (by kernel_rfl) hip (vpQ (n := p.N) (f := p.ita) (f' := p.ita) (k := vpNil)) (fun g => gw_gl (gl_gw (p := p) g)) f s fun a1 w1 s1 => ?_
  rw [dL_eq]
  refine wp_seq (wp_block (wp_mono (wp_loop_rounds (Q := fun e a w => e = .exit 0 ∧ ∃ j, SD { p with it := (dn p.G n (n + 1) p.ita b0).1, n := n, i0 := b0, i := (dn p.G n (n + 1) p.ita b0).2, j := j } B w0 μ a w) (n + 1)
    (dRounds hb n { p with it := p.ita, n := n, i0 := b0, i := b0, j := dnJ p.G n p.ita b0 } a1 w1 (by show n ≤ b0 + n; omega) ⟨h.g, h.nN, h.N1, h.ne, h.sl⟩ rfl s1)) ?_))
  rintro e a2 w2 ⟨rfl, j, s2⟩
  show (restn 3 dC).wp _ _ _ _
  have ht := h.t
  refine wp_mono (runTo_sound (T := (RDz (p := { p with it := (dn p.G n (n + 1) p.ita b0).1, n := n, i0 := b0, i := (dn p.G n (n + 1) p.ita b0).2, j := j }) t (by
      rw [← ht]
      show decide ((b0 : Int) < (((dn p.G n (n + 1) p.ita b0).2 : Nat) : Int)) = decide (b0 < (dn p.G n (n + 1) p.ita b0).2)
      rw [decide_eq_decide]; omega)).T) (T' := T0 p) mixed hNo (C := CI [(.oi 0, 22)]) (ex := .ret) hb (Nat.le_refl _) (rl := []) rfl (by kernel_rfl)
    (ipE (q := (.i64, (p.N : Int))) ipNil (by exact rfl) (by exact rfl)) (vpQ (n := p.N) (f := (dn p.G n (n + 1) p.ita b0).1) (f' := p.itb) (k := vpNil) (he := fun m hm => by show p.G.rv _ = p.G.rv (p.itb m); rw [h.r m hm])) (fun g => gw_gl (p := p) (gl_gw (p := { p with it := (dn p.G n (n + 1) p.ita b0).1, n := n, i0 := b0, i := (dn p.G n (n + 1) p.ita b0).2, j := j }) (Gl.tab (Rz.same _).symm.toSameV g))) (gIz t _) (St.same (Rz.same _) s2)) ?_
  rintro e a3 w3 ⟨rfl, s3⟩
  exact St.done (τ := T0 p) (e := .ret) (.inr rfl) (dRes t) s3
end
end Go.Proofs.Ytnenjcehicaobaa.pf
