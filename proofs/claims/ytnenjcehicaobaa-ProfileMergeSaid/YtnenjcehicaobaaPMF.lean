/-
  The law ProfileMerge: a round of its loop.
-/
import Derived.Test.YtnenjcehicaobaaPME
set_option linter.unusedVariables false
set_option linter.unusedSimpArgs false
set_option linter.unusedSectionVars false
set_option maxRecDepth 1000000
set_option maxHeartbeats 0
namespace Go.Proofs.Ytnenjcehicaobaa.pf
open Go.X Go.RowKit Go.Proofs
/-- what came in stays -/
structure Nb (p p' : Lm) : Prop where
  n : p'.n = p.n := by exact rfl
  a : p'.a = p.a := by exact rfl
  rk : p'.rk = p.rk := by exact rfl
  ra : p'.ra = p.ra := by exact rfl
  rn : p'.rn = p.rn := by exact rfl
  e : p'.e = p.e := by exact rfl
  G : p'.G = p.G := by exact rfl
theorem Nb.gl {p p' : Lm} (h : Nb p p') (hi : p'.i < p'.n ∨ p'.rn p'.i = 0) {R : Rq p} {B : Kp} {w : World} (g : @Gl R.T B w) : @Gl (M0 p') B w := by
  obtain ⟨cw, gw⟩ := gl_cw (Gl.tab (Rq.same R).symm.toSameV g)
  exact cw_gl hi (CW.same h.n h.a h.rk h.ra h.rn h.e cw) (by rw [h.G]; exact gw)
theorem iP_ok {p p' : Lm} {R : Rq p} (hn : p'.n = p.n) (ha : p'.a = p.a) (hc : p'.c = p.c) (hK : p'.K = p.K) (ht : p'.t = p.t) (hE : p'.E2 = p.E2) : IpOk R.T (M0 p') iP :=
  ipF (ipE (q := (.i64, (p.n : Int))) (ipE (q := (.i64, p.K)) (ipE (q := (.i64, (p.t : Int))) (ipM ipNil (by exact hE)) (by exact rfl) (by show ((IntKind.i64, (p'.t : Int)) : IntKind × Int) = _; rw [ht])) (by exact rfl) (by show ((IntKind.i64, p'.K) : IntKind × Int) = _; rw [hK])) (by exact rfl) (by show ((IntKind.i64, (p'.n : Int)) : IntKind × Int) = _; rw [hn])) (by show fbM p' 0 = fbM p 0; unfold fbM; rw [if_pos rfl, if_pos rfl, ha]) (by show fcM p' 0 = fcM p 0; unfold fcM; rw [if_pos rfl, if_pos rfl, hc])
theorem v24 {T T' : Tab} {C : Cv} {n : Nat} {l : VP} (k : VpOk T T' C l) (hv : T.vv 24 = celV n cm) (hv' : T'.vv 24 = celV n cm) (hk : T'.vk 24 ≤ T.vk 24) (he : ∀ m, m < n → T.rv (2 * m + 10) = T'.rv (2 * m + 10)) : VpOk T T' C ((18003, .vec 24, 24) :: l) :=
  vpVec k hv hv' (Nat.le_refl _) hk (fun m hm μ μ' v h => rwRel (he m hm) h)
noncomputable abbrev lsB : Bool → AV
  | false => .nils
  | true => lsv
noncomputable abbrev bsB : Bool → BS
  | false => []
  | true => bsl
noncomputable abbrev rlB : Bool → List (Nat × Nat)
  | false => [(18002, 18002)]
  | true => [(18002, 18002), (18003, 18003)]
noncomputable abbrev vpB : Bool → VP
  | false => []
  | true => [(18003, .vec 24, 24)]
noncomputable abbrev ipB (l : IP) : Bool → IP
  | false => l
  | true => (.oi 24, 24) :: l
/-- so many rows are done, so many entries of the next -/
def at2 (q : Lm) (Fs : Nat → List Row) (ad : Nat → Nat × Nat) (cp : Nat → Nat) (i j : Nat) : Lm := { q with
  i := i
  j := j
  t := off q i + j
  E0 := EF j (K2 i) (q.e i)
  E1 := EF (j + 1) (K2 i) (q.e i)
  E2 := EF (off q i + j) (kA q) (vA q)
  E3 := EF (off q i + j + 1) (kA q) (vA q)
  G := gm i (Lq q) ad cp Fs
  M := i
  o := Lq q i
  R := fun k => (Fs i).getD k (.empty, 0) }
/-- rows as they come in; each one in order -/
structure Fq (q : Lm) (Fs : Nat → List Row) : Prop where
  sf : ∀ i, i < Iq q → (Fs i).Pairwise Lt
  pm : ∀ i, i < Iq q → (Fs i).Perm ((List.range (Lq q i)).map fun j => (K2 i j, q.e i j))
  sl : ∀ i, i < q.n → ∃ b c, q.rk i = .slice b (q.rn i) c
  sl' : ∀ i, i < q.n → 0 < q.rn i → q.rk i = .slice (some ⟨(q.ra i).1, (q.ra i).2, none⟩) (q.rn i) (q.rc i) ∧ q.rn i ≤ q.rc i
  z : ∀ i, q.n ≤ i → q.rn i = 0
section
variable {q : Lm} {Fs : Nat → List Row} {ad : Nat → Nat × Nat} {cp : Nat → Nat} {i j : Nat} {B : Kp} {w0 : World} {μ : M} {a : Act} {w : World} {b : Bool}
theorem Fq.hi (h : Fq q Fs) : i < q.n ∨ q.rn i = 0 := by
  by_cases c : i < q.n
  · exact .inl c
  · exact .inr (h.z i (by omega))
theorem Fq.len (h : Fq q Fs) (hi : i < Iq q) : (Fs i).length = Lq q i := by
  rw [(h.pm i hi).length_eq, List.length_map, List.length_range]
theorem okB (ip : IP) : okRn (CQ (rlB b) ip) (rlB b) = true := by cases b <;> kernel_rfl
theorem vB {p p' : Lm} {R : Rq p} {C : Cv} (hM : p'.M = p.M) (hG : p'.G = p.G) : VpOk R.T (M0 p') C (vpB b) := by
  cases b
  · exact vpNil
  · exact v24 (n := p.M) vpNil (by exact rfl) (by show celV p'.M cm = _; rw [hM]) (by show p'.M ≤ p.M; rw [hM]; exact Nat.le_refl _) (fun m _ => by show rvM p (2 * m + 10) = rvM p' (2 * m + 10); rw [rvM_g, rvM_g, hG])
theorem ipBok {T T' : Tab} {l : IP} {x : IntKind × Int} (h1 : T.iv 24 = x) (h2 : T'.iv 24 = x) (k : IpOk T T' l) : IpOk T T' (ipB l b) := by
  cases b
  · exact k
  · exact ipE k h1 h2
/-- one run between such states -/
theorem goM {p p' : Lm} {R : Rq p} {K : Hand} {c : Code} {ip : IP} {fs fs' : List (Nat × AV)} {bs bs' : BS} {ex : Ex} {rl : List (Nat × Nat)} {vp : VP} (hb : Base B μ 18000) (hK : @HandOk R.T Try.prog K) (hr : okRn (CQ rl ip) rl = true) (hip : IpOk R.T (M0 p') ip) (hvp : VpOk R.T (M0 p') (CQ rl ip) vp) (nb : Nb p p') (hi : p'.i < p'.n ∨ p'.rn p'.i = 0)
    (e : runTo R.T Try.prog K 3000 ntQ c (frOf fs) (hOf 19000 bs) ex (CQ rl ip) vp fs' bs' = true) (s : St (M0 p) B w0 μ ntQ (frOf fs) (hOf 19000 bs) a w) :
    c.wp Try.prog (fun x a' w' => x = ex.to ∧ St (M0 p') B w0 μ ntQ (frOf fs') (hOf 19000 bs') a' w') a w :=
  runTo_sound (T := R.T) (T' := M0 p') mixed hK (C := CQ rl ip) (ex := ex) hb (show 18000 ≤ 19000 by decide) (rl := rl) rfl hr hip hvp (fun g => nb.gl hi g) e (St.same (Rq.same _) s)
abbrev SO (q : Lm) (Fs : Nat → List Row) (ad : Nat → Nat × Nat) (cp : Nat → Nat) (i : Nat) (b : Bool) (B : Kp) (w0 : World) (μ : M) (a : Act) (w : World) : Prop := St (M0 (at2 q Fs ad cp i 0)) B w0 μ ntQ (frOf (fsO (lsB b))) (hOf 19000 (bsP (bsB b))) a w
noncomputable abbrev R0q (p : Lm) : Rq p := {}
theorem iO_ok {p p' : Lm} {R : Rq p} (hi : p'.i = p.i) (hn : p'.n = p.n) (ha : p'.a = p.a) (hc : p'.c = p.c) (hK : p'.K = p.K) (ht : p'.t = p.t) (hE : p'.E2 = p.E2) : IpOk R.T (M0 p') iO := ipE (q := (.i64, (p.i : Int))) (iP_ok hn ha hc hK ht hE) (by exact rfl) (by show ((IntKind.i64, (p'.i : Int)) : IntKind × Int) = _; rw [hi])
theorem pCond (h : Fq q Fs) (hb : Base B μ 18000) (hI : i < Iq q) (s : SO q Fs ad cp i b B w0 μ a w) : q6c.wp Try.prog (fun x a' w' => x = .normal ∧ SO q Fs ad cp i b B w0 μ a' w') a w := by
  have h1 : decide ((at2 q Fs ad cp i 0).i < (at2 q Fs ad cp i 0).n) = true := decide_eq_true (by show i < q.n; unfold Iq at hI; omega)
  have h2 : decide ((at2 q Fs ad cp i 0).i < 6) = true := decide_eq_true (by show i < 6; unfold Iq at hI; omega)
  refine goM (R := Rc (p := at2 q Fs ad cp i 0) true true h1 h2) (rl := rlB b) (vp := vpB b) (ip := ipB iO b) (ex := .normal) hb hNo (okB _) (ipBok (x := (.i64, (i : Int))) (by exact rfl) (by exact rfl) (iO_ok rfl rfl rfl rfl rfl rfl rfl)) (vB rfl rfl) {} h.hi ?_ s
  cases b
  · exact gqc0 h1 h2
  · exact gqc1 h1 h2
theorem pMake (h : Fq q Fs) (hb : Base B μ 18000) (s : SO q Fs ad cp i b B w0 μ a w) : y0.wp Try.prog (fun x a' w' => x = .normal ∧ St (M0 (at2 q Fs ad cp i 0)) B w0 μ ntQ (frOf (fsO1 (lsB b))) (hOf 19000 (bsP1 (bsB b))) a' w') a w := by
  have hip : IpOk (R0q (at2 q Fs ad cp i 0)).T (M0 (at2 q Fs ad cp i 0)) ((.nilm, 0) :: ipB iO b) := ipCons (show (M0 (at2 q Fs ad cp i 0)).mm 0 = ([], 0) from rfl) (ipBok (x := (.i64, (i : Int))) (by exact rfl) (by exact rfl) (iO_ok rfl rfl rfl rfl rfl rfl rfl))
  cases b
  · refine wp_mono (goM (R := R0q (at2 q Fs ad cp i 0)) (rl := [(18001, 19000), (18002, 18002)]) (vp := []) (ip := (.nilm, 0) :: iO) (ex := .normal) hb hNo (by kernel_rfl) hip vpNil {} h.hi (gqm0 _) s) ?_
    rintro x a' w' ⟨rfl, s'⟩
    exact ⟨rfl, s'⟩
  · refine wp_mono (goM (R := R0q (at2 q Fs ad cp i 0)) (rl := [(18001, 19000), (18002, 18002), (18003, 18003)]) (vp := [(18003, .vec 24, 24)]) (ip := (.nilm, 0) :: iOl) (ex := .normal) hb hNo (by kernel_rfl) hip (vB (b := true) rfl rfl) {} h.hi (gqm1 _) s) ?_
    rintro x a' w' ⟨rfl, s'⟩
    exact ⟨rfl, s'⟩
abbrev SIn (q : Lm) (Fs : Nat → List Row) (ad : Nat → Nat × Nat) (cp : Nat → Nat) (i j : Nat) (b : Bool) (B : Kp) (w0 : World) (μ : M) (a : Act) (w : World) : Prop := St (M0 (at2 q Fs ad cp i j)) B w0 μ ntQ (frOf (fsO2 (lsB b))) (hOf 19000 (bsP1 (bsB b))) a w
noncomputable abbrev rlB1 (b : Bool) : List (Nat × Nat) := (18001, 18001) :: rlB b
theorem okB1 (ip : IP) : okRn (CQ (rlB1 b) ip) (rlB1 b) = true := by cases b <;> kernel_rfl
theorem pNull (h : Fq q Fs) (hb : Base B μ 18000) (s : St (M0 (at2 q Fs ad cp i 0)) B w0 μ ntQ (frOf (fsO1 (lsB b))) (hOf 19000 (bsP1 (bsB b))) a w) : y1.wp Try.prog (fun x a' w' => x = .normal ∧ SIn q Fs ad cp i 0 b B w0 μ a' w') a w := by
  refine goM (R := R0q (at2 q Fs ad cp i 0)) (rl := rlB1 b) (vp := vpB b) (ip := (.map 0, 0) :: (.int .i64 0, 5) :: ipB iO b) (ex := .normal) hb hNo (okB1 _) (ipM (ipK' (b := ((0 : Nat) : Int)) (ipBok (x := (.i64, (i : Int))) (by exact rfl) (by exact rfl) (iO_ok rfl rfl rfl rfl rfl rfl rfl)) (by exact rfl) rfl) (by exact rfl)) (vB rfl rfl) {} h.hi ?_ s
  cases b
  · exact gqn0 _
  · exact gqn1 _
theorem Fq.ij (h : Fq q Fs) (hI : i < Iq q) : Ij (at2 q Fs ad cp i j) := ⟨by show i < q.n; unfold Iq at hI; omega, by show i < 6; unfold Iq at hI; omega, h.sl i (by unfold Iq at hI; omega)⟩
theorem pEntry (h : Fq q Fs) (hb : Base B μ 18000) (hI : i < Iq q) (hj : j < Lq q i) (s : SIn q Fs ad cp i j b B w0 μ a w) : yL.wp Try.prog (fun x a' w' => x = .normal ∧ SIn q Fs ad cp i (j + 1) b B w0 μ a' w') a w := by
  have hL := Lq_le (q := q) (i := i)
  have hj1 : j < q.rn i := by unfold Lq at hj; omega
  have hI6 : i < 6 := by unfold Iq at hI; omega
  have hin : i < q.n := by unfold Iq at hI; omega
  have ho := off_le (q := q) i
  have hE : Ie (at2 q Fs ad cp i j) := { h.ij hI with
    j := hj1
    j8 := by show j < 8; omega
    t := by show off q i + j < 1000; omega
    sl' := h.sl' i hin (by omega)
    t0 := EF_txt
    t2 := EF_txt
    u0 := (eI_app hI hj).symm
    u2 := (eA_app hI hj).symm }
  have t : IpOk (Rie hE).T (M0 (at2 q Fs ad cp i (j + 1))) (iJ (ipB [] b)) := ipM (ipM (ipE (q := (.i64, ((off q i + j + 1 : Nat) : Int))) (ipE (q := (.i64, ((j + 1 : Nat) : Int))) (ipE (q := (.i64, (i : Int))) (ipF (ipE (q := (.i64, (q.n : Int))) (ipE (q := (.i64, q.K)) (ipBok (x := (.i64, (i : Int))) (by exact rfl) (by exact rfl) ipNil) (by exact rfl) (by exact rfl)) (by exact rfl) (by exact rfl)) (by exact rfl) (by exact rfl)) (by exact rfl) (by exact rfl)) (by exact rfl) (by exact rfl)) (by exact rfl) (by exact rfl)) (by exact rfl)) (by exact rfl)
  refine goM (R := Rie hE) (rl := rlB1 b) (vp := vpB b) (ip := iJ (ipB [] b)) (ex := .normal) hb hNo (okB1 _) t (vB rfl rfl) {} h.hi ?_ s
  cases b
  · exact gqe0 hE
  · exact gqe1 hE
theorem pOut (h : Fq q Fs) (hb : Base B μ 18000) (hI : i < Iq q) (s : SIn q Fs ad cp i (Lq q i) b B w0 μ a w) : yL.wp Try.prog (fun x a' w' => x = .exit 2 ∧ St (M0 (at2 q Fs ad cp i (Lq q i))) B w0 μ ntQ (frOf (fsO1 (lsB b))) (hOf 19000 (bsP1 (bsB b))) a' w') a w := by
  have hx : (decide ((at2 q Fs ad cp i (Lq q i)).j < (at2 q Fs ad cp i (Lq q i)).rn (at2 q Fs ad cp i (Lq q i)).i) && decide ((at2 q Fs ad cp i (Lq q i)).j < 8)) = false := by
    rw [Bool.eq_false_iff]
    intro c
    simp only [Bool.and_eq_true, decide_eq_true_eq] at c
    have c : Lq q i < q.rn i ∧ Lq q i < 8 := c
    unfold Lq at c
    omega
  refine goM (R := Rix _ _ (h.ij hI) rfl rfl) (rl := rlB1 b) (vp := vpB b) (ip := (.map 0, 0) :: ipB iO b) (ex := .exit 2) hb hNo (okB1 _) (ipM (ipBok (x := (.i64, (i : Int))) (by exact rfl) (by exact rfl) (iO_ok rfl rfl rfl rfl rfl rfl rfl)) (by exact rfl)) (vB rfl rfl) {} h.hi ?_ s
  cases b
  · exact gqx0 _ _ _ _ _ hx
  · exact gqx1 _ _ _ _ _ hx
theorem pRounds (h : Fq q Fs) (hb : Base B μ 18000) (hI : i < Iq q) : ∀ (k j : Nat) (a : Act) (w : World), j + k = Lq q i → SIn q Fs ad cp i j b B w0 μ a w → Code.rounds Try.prog yL (fun x a w => x = .exit 2 ∧ St (M0 (at2 q Fs ad cp i (Lq q i))) B w0 μ ntQ (frOf (fsO1 (lsB b))) (hOf 19000 (bsP1 (bsB b))) a w) (k + 1) a w
  | 0, j, a, w, hj, s => by
    obtain rfl : j = Lq q i := by omega
    refine rounds_of (wp_mono (pOut h hb hI s) ?_)
    rintro x a' w' ⟨rfl, s'⟩
    exact ⟨rfl, s'⟩
  | k + 1, j, a, w, hj, s => by
    refine rounds_of (wp_mono (pEntry h hb hI (by omega) s) ?_)
    rintro x a' w' ⟨rfl, s'⟩
    exact pRounds h hb hI k (j + 1) a' w' (by omega) s'
end
end Go.Proofs.Ytnenjcehicaobaa.pf
