/-
  The law ProfileMerge: Top is called; the list is set aside; the loop.
-/
import Derived.Test.YtnenjcehicaobaaPMF
set_option linter.unusedVariables false
set_option linter.unusedSimpArgs false
set_option linter.unusedSectionVars false
set_option maxRecDepth 1000000
set_option maxHeartbeats 0
namespace Go.Proofs.Ytnenjcehicaobaa.pf
open Go.X Go.RowKit Go.Proofs
/-- Top's own names: one row -/
def pR (q : Lm) (Fs : Nat → List Row) (i : Nat) : Pm := { G := gi 0 (fun _ => (0, 0)) (fun _ => (.empty, 0)), N := 0, it := fun _ => 0, ita := fun _ => 0, itb := fun _ => 0, i0 := 0, n := 0, i := 0, j := 0, M := 0, ls := fun _ => 0, r := 0, K := 100, o := Lq q i, R := fun k => (Fs i).getD k (.empty, 0), mm := fun _ => EF (Lq q i) (K2 i) (q.e i), sv := fun _ => (0, [], 0) }
theorem ren4 {μ : M} {ip : IP} : ren (CQ rlR1 ip).N0 (CQ rlR1 ip).rn μ 18004 = μ 20003 := by
  unfold ren
  rw [if_neg (show ¬ 18004 < 18000 by decide)]
  have : (CQ rlR1 ip).rn.get 18004 = some 20003 := by kernel_rfl
  rw [this]
  rfl
theorem ovRel {T T' : Tab} {ip : IP} {μ : M} {v : Value} (hi : T'.iv 30 = T.iv 30) (h : @vrel T μ (.ov 20003 30 2) v) : @vrel T' (ren (CQ rlR1 ip).N0 (CQ rlR1 ip).rn μ) (.ov 18004 30 2) v := by
  simp only [vrel] at h ⊢
  rw [ren4 (ip := ip), hi]; exact h
section
variable {q : Lm} {Fs : Nat → List Row} {ad : Nat → Nat × Nat} {cp : Nat → Nat} {i j : Nat} {B : Kp} {w0 : World} {μ : M} {a : Act} {w : World} {b : Bool}
theorem Fq.tin (h : Fq q Fs) (hI : i < Iq q) : TIn (pR q Fs i) (Fs i) := by
  have hl := h.len hI
  have hL := Lq_le (q := q) (i := i)
  refine ⟨fun e => rfl, EF_txt, EF_born, EF_nd, ?_, h.sf i hI, ?_, ⟨by omega, fun k hk => ?_⟩⟩
  · show ((List.range (Lq q i)).map _).length < 999998
    rw [List.length_map, List.length_range]; omega
  · show (Fs i).Perm ((EF (Lq q i) (K2 i) (q.e i)).1.map rowE)
    rw [EF_rows]; exact h.pm i hI
  · show _ = some ((Fs i).getD k (.empty, 0))
    rw [List.getD_eq_getElem?_getD, List.getElem?_eq_getElem hk]
    rfl
theorem Fq.out (h : Fq q Fs) (hI : i < Iq q) : outN (pR q Fs i) (Fs i) = Lq q i := by
  have hl := h.len hI
  have hL := Lq_le (q := q) (i := i)
  show min (100 : Int).toNat (Fs i).length = _
  rw [hl]
  show min 100 _ = _
  omega
theorem Fq.tf (h : Fq q Fs) (hI : i < Iq q) {R : Rq (at2 q Fs ad cp i (Lq q i))} : TFC R.T (pR q Fs i) (Fs i) := by
  have ho := h.out hI
  refine ⟨rfl, by rw [ho]; rfl, by rw [ho]; rfl, by rw [ho]; rfl, fun m _ => ?_, fun m _ => ?_⟩
  · exact strM_R _ m
  · exact ivM_R _ m
noncomputable abbrev iR : Bool → IP → IP
  | false, l => (.int .i64 1, 26) :: l
  | true, l => (.oi 26, 26) :: l
theorem iR_ok {p : Lm} {R : Rq p} {l : IP} (hM : b = false → p.M = 0) (k : IpOk R.T (M0 p) l) : IpOk R.T (M0 p) (iR b l) := by
  cases b
  · exact ipK' (b := ((p.M + 1 : Nat) : Int)) k (by exact rfl) (by rw [hM rfl]; rfl)
  · exact ipE (q := (.i64, ((p.M + 1 : Nat) : Int))) k (by exact rfl) (by exact rfl)
theorem vOutM {p : Lm} {R : Rq p} {C : Cv} {l : VP} {x : Nat} (k : VpOk R.T (M0 p) C l) : VpOk R.T (M0 p) C ((x, .vec 30, 30) :: l) :=
  vpOut (i := 30) (n := p.o) k (by exact rfl) (by exact rfl) (by exact rfl) (by exact rfl) (fun j _ => ⟨rfl, rfl⟩)
theorem vR11 {p : Lm} {R : Rq p} {ip : IP} : VpOk R.T (M0 p) (CQ rlR1 ip) [(20011, .vec 25, 28), (20003, .vec 30, 30)] := by
  refine vpCons ⟨rfl, fun μ l w hb => ?_⟩ (vOutM vpNil)
  obtain ⟨arr, el, fz, g1, g2, g3, g4, g5⟩ := hb
  refine ⟨arr, el, fz, g1, g2, g3, g4, fun m x hx => ?_⟩
  have hx : celV (p.M + 1) (cm2 p.M) m = some x := hx
  obtain ⟨hm, rfl⟩ := celV_some hx
  obtain ⟨v, q1, q2⟩ := g5 m (cm1 p.M m) (celV_lt hm)
  refine ⟨v, q1, ?_⟩
  unfold cm1 at q2
  unfold cm2
  by_cases c : m = p.M
  · rw [if_pos c] at q2 ⊢
    exact ovRel (by exact rfl) q2
  · rw [if_neg c] at q2 ⊢
    exact rwRel (by exact rfl) q2
theorem vR01 {p : Lm} {R : Rq p} {ip : IP} (hM : p.M = 0) : VpOk R.T (M0 p) (CQ rlR1 ip) [(20011, zR1, 28), (20003, .vec 30, 30)] := by
  refine vpCons ⟨rfl, fun μ l w hb => ?_⟩ (vOutM vpNil)
  obtain ⟨arr, el, fz, g1, g2, g3, g4, _, g5⟩ := hb
  have g4 : l.base + 1 ≤ l.total := g4
  refine ⟨arr, el, fz, g1, g2, g3, by show l.base + (p.M + 1) ≤ l.total; omega, fun m x hx => ?_⟩
  have hx : celV (p.M + 1) (cm2 p.M) m = some x := hx
  obtain ⟨hm, rfl⟩ := celV_some hx
  have hm0 : m = 0 := by omega
  subst hm0
  obtain ⟨v, q1, q2⟩ := g5 0 (.ov 20003 30 2) (by decide) (by kernel_rfl)
  refine ⟨v, q1, ?_⟩
  unfold cm2
  rw [if_pos hM.symm]
  exact ovRel (by exact rfl) q2
theorem vR10 {p : Lm} {R : Rq p} {C : Cv} : VpOk R.T (M0 p) C [(20011, .vec 27, 27)] := by
  refine vpVec (n := p.M + 1) (n' := p.M + 1) (e := cm0 p.M) (e' := cm0 p.M) vpNil (by exact rfl) (by exact rfl) (Nat.le_refl _) (by exact Nat.le_refl _) (fun m hm μ μ' v h => ?_)
  unfold cm0 at h ⊢
  by_cases c : m = p.M
  · rw [if_pos c] at h ⊢
    simp only [vrel] at h ⊢
    exact h
  · rw [if_neg c] at h ⊢
    exact rwRel (by exact rfl) h
theorem vR00 {p : Lm} {R : Rq p} {C : Cv} (hM : p.M = 0) : VpOk R.T (M0 p) C [(20011, zR0, 27)] := by
  refine vpCons ⟨rfl, fun μ l w hb => ?_⟩ vpNil
  obtain ⟨arr, el, fz, g1, g2, g3, g4, _, g5⟩ := hb
  have g4 : l.base + 1 ≤ l.total := g4
  refine ⟨arr, el, fz, g1, g2, g3, by show l.base + (p.M + 1) ≤ l.total; omega, fun m x hx => ?_⟩
  have hx : celV (p.M + 1) (cm0 p.M) m = some x := hx
  obtain ⟨hm, rfl⟩ := celV_some hx
  have hm0 : m = 0 := by omega
  subst hm0
  obtain ⟨v, q1, q2⟩ := g5 0 .nils (by decide) (by kernel_rfl)
  refine ⟨v, q1, ?_⟩
  unfold cm0
  rw [if_pos hM.symm]
  simp only [vrel] at q2 ⊢
  exact q2
/-- Top is called for the row; its list is put to the others -/
theorem pCall (h : Fq q Fs) (hb : Base B μ 18000) (hI : i < Iq q) (hbi : b = Nat.blt 0 i) (s : St (M0 (at2 q Fs ad cp i (Lq q i))) B w0 μ ntQ (frOf (fsO1 (lsB b))) (hOf 19000 (bsP1 (bsB b))) a w) :
    y2.wp Try.prog (fun x a' w' => x = .normal ∧ ((0 < Lq q i ∧ St (M0 (at2 q Fs ad cp i (Lq q i))) B w0 μ ntQ (frOf (fsO ls6)) (hOf 19000 (bsR1 18003 18004)) a' w') ∨ (Lq q i = 0 ∧ St (M0 (at2 q Fs ad cp i (Lq q i))) B w0 μ ntQ (frOf (fsO ls6)) (hOf 19000 (bsR0 18003)) a' w'))) a w := by
  have ho := h.out hI
  have hI6 : i < 6 := by unfold Iq at hI; omega
  have hM : (at2 q Fs ad cp i (Lq q i)).M + 1 < 1000000 := by show i + 1 < 1000000; omega
  have hi0 : b = false → (at2 q Fs ad cp i (Lq q i)).M = 0 := by
    intro c
    show i = 0
    rw [c] at hbi
    have : ¬ 0 < i := fun d => by
      have : Nat.blt 0 i = true := Nat.ble_eq_true_of_le d
      rw [this] at hbi; cases hbi
    omega
  have hout : (pR q Fs i).o = outN (pR q Fs i) (Fs i) := ho.symm
  by_cases c : 0 < Lq q i
  · have hz : 0 < outN (pR q Fs i) (Fs i) := by rw [ho]; exact c
    cases b
    · refine wp_mono (goM (R := R0q (at2 q Fs ad cp i (Lq q i))) (p' := at2 q Fs ad cp i (Lq q i)) (rl := rlR1) (vp := [(20011, zR1, 28), (20003, .vec 30, 30)]) (ip := (.int .i64 1, 26) :: (.oi 30, 30) :: iO) (ex := .normal) hb (inH (tI1C_ok rfl (h.tin hI) hout (h.tf hI) hz) tLim) (by kernel_rfl) (iR_ok (b := false) hi0 (ipE (q := (.i64, (Lq q i : Int))) (iO_ok rfl rfl rfl rfl rfl rfl rfl) (by exact rfl) (by exact rfl))) (vR01 (hi0 rfl)) {} h.hi (gr01 _) s) ?_
      rintro x a' w' ⟨rfl, s'⟩
      exact ⟨rfl, .inl ⟨c, s'⟩⟩
    · refine wp_mono (goM (R := Ra1 (p := at2 q Fs ad cp i (Lq q i)) hM) (p' := at2 q Fs ad cp i (Lq q i)) (rl := rlR1) (vp := [(20011, .vec 25, 28), (20003, .vec 30, 30)]) (ip := (.oi 26, 26) :: (.oi 30, 30) :: iO) (ex := .normal) hb (inH (tI1C_ok rfl (h.tin hI) hout (h.tf hI) hz) tLim) (by kernel_rfl) (iR_ok (b := true) hi0 (ipE (q := (.i64, (Lq q i : Int))) (iO_ok rfl rfl rfl rfl rfl rfl rfl) (by exact rfl) (by exact rfl))) vR11 {} h.hi (gr11 hM) s) ?_
      rintro x a' w' ⟨rfl, s'⟩
      exact ⟨rfl, .inl ⟨c, s'⟩⟩
  · have hz : outN (pR q Fs i) (Fs i) = 0 := by rw [ho]; omega
    cases b
    · refine wp_mono (goM (R := R0q (at2 q Fs ad cp i (Lq q i))) (p' := at2 q Fs ad cp i (Lq q i)) (rl := rlR0) (vp := [(20011, zR0, 27)]) (ip := (.int .i64 1, 26) :: iO) (ex := .normal) hb (inH (tI0C_ok rfl (h.tin hI) hout (h.tf hI) hz) tLim) (by kernel_rfl) (iR_ok (b := false) hi0 (iO_ok rfl rfl rfl rfl rfl rfl rfl)) (vR00 (hi0 rfl)) {} h.hi (gr00 _) s) ?_
      rintro x a' w' ⟨rfl, s'⟩
      exact ⟨rfl, .inr ⟨by omega, s'⟩⟩
    · refine wp_mono (goM (R := Ra0 (p := at2 q Fs ad cp i (Lq q i)) hM) (p' := at2 q Fs ad cp i (Lq q i)) (rl := rlR0) (vp := [(20011, .vec 27, 27)]) (ip := (.oi 26, 26) :: iO) (ex := .normal) hb (inH (tI0C_ok rfl (h.tin hI) hout (h.tf hI) hz) tLim) (by kernel_rfl) (iR_ok (b := true) hi0 (iO_ok rfl rfl rfl rfl rfl rfl rfl)) vR10 {} h.hi (gr10 hM) s) ?_
      rintro x a' w' ⟨rfl, s'⟩
      exact ⟨rfl, .inr ⟨by omega, s'⟩⟩
/-- the next row -/
theorem pNext (h : Fq q Fs) (hb : Base B μ 18000) (hI : i < Iq q) {ad' : Nat → Nat × Nat} {cp' : Nat → Nat} (s : St (M0 (atG (at2 q Fs ad cp i (Lq q i)) (i + 1) (Lq q) ad' cp' Fs)) B w0 μ ntQ (frOf (fsO lsv)) (hOf 19000 (bsP bsl)) a w) :
    q6z.wp Try.prog (fun x a' w' => x = .normal ∧ SO q Fs ad' cp' (i + 1) true B w0 μ a' w') a w := by
  have hI6 : i < 6 := by unfold Iq at hI; omega
  have e : off q (i + 1) + 0 = off q i + Lq q i := off_succ
  refine goM (R := Rz' (p := atG (at2 q Fs ad cp i (Lq q i)) (i + 1) (Lq q) ad' cp' Fs) (by show i < 1000; omega)) (p' := at2 q Fs ad' cp' (i + 1) 0) (rl := rlB true) (vp := vpB true) (ip := (.oi 24, 24) :: (.oi 3, 2) :: iP) (ex := .normal) hb hNo (by kernel_rfl) (ipE (q := (.i64, ((i + 1 : Nat) : Int))) (ipE (q := (.i64, ((i + 1 : Nat) : Int))) (iP_ok rfl rfl rfl rfl (by exact e) ?_) (by exact rfl) (by exact rfl)) (by exact rfl) (by exact rfl)) (vB (b := true) rfl rfl) {} h.hi (gqz (p := atG (at2 q Fs ad cp i (Lq q i)) (i + 1) (Lq q) ad' cp' Fs) (by show i < 1000; omega)) s
  show EF (off q (i + 1) + 0) (kA q) (vA q) = EF (off q i + Lq q i) (kA q) (vA q)
  rw [e]
/-- a round -/
theorem pRound (h : Fq q Fs) (hb : Base B μ 18000) (hI : i < Iq q) (hc : ∀ k, k < i → Lq q k ≤ cp k) (hbi : b = Nat.blt 0 i) (s : SO q Fs ad cp i b B w0 μ a w) :
    q6L.wp Try.prog (fun x a' w' => x = .normal ∧ ∃ ad' cp' B' w1, (∀ k, k < i + 1 → Lq q k ≤ cp' k) ∧ Up B w0 B' w1 ∧ SO q Fs ad' cp' (i + 1) true B' w1 μ a' w') a w := by
  have hI6 : i < 6 := by unfold Iq at hI; omega
  rw [q6L_in]
  refine wp_seq (wp_mono (pCond h hb hI s) ?_)
  rintro x a1 w1 ⟨rfl, s1⟩
  show (Code.seq (.block 1 q6x) q6z).wp _ _ _ _
  have key : (Code.block 1 q6x).wp Try.prog (fun x a' w' => x = .normal ∧ ((0 < Lq q i ∧ St (M0 (at2 q Fs ad cp i (Lq q i))) B w0 μ ntQ (frOf (fsO ls6)) (hOf 19000 (bsR1 18003 18004)) a' w') ∨ (Lq q i = 0 ∧ St (M0 (at2 q Fs ad cp i (Lq q i))) B w0 μ ntQ (frOf (fsO ls6)) (hOf 19000 (bsR0 18003)) a' w'))) a1 w1 := by
    refine wp_block (wp_mono (Q := fun x a' w' => x = .normal ∧ ((0 < Lq q i ∧ St (M0 (at2 q Fs ad cp i (Lq q i))) B w0 μ ntQ (frOf (fsO ls6)) (hOf 19000 (bsR1 18003 18004)) a' w') ∨ (Lq q i = 0 ∧ St (M0 (at2 q Fs ad cp i (Lq q i))) B w0 μ ntQ (frOf (fsO ls6)) (hOf 19000 (bsR0 18003)) a' w'))) ?_ ?_)
    · rw [q6x_in]
      refine wp_seq (wp_mono (pMake h hb s1) ?_)
      rintro x a2 w2 ⟨rfl, s2⟩
      refine wp_seq (wp_seq (wp_mono (pNull h hb s2) ?_))
      rintro x a3 w3 ⟨rfl, s3⟩
      show (Code.block 2 (.loop yL)).wp _ _ _ _
      refine wp_block (wp_mono (wp_loop_rounds (Q := fun x a w => x = .exit 2 ∧ St (M0 (at2 q Fs ad cp i (Lq q i))) B w0 μ ntQ (frOf (fsO1 (lsB b))) (hOf 19000 (bsP1 (bsB b))) a w) (Lq q i + 1) (pRounds h hb hI (Lq q i) 0 a3 w3 (by omega) s3)) ?_)
      rintro x a4 w4 ⟨rfl, s4⟩
      show y2.wp _ _ _ _
      exact pCall h hb hI hbi s4
    · rintro x a' w' ⟨rfl, s'⟩
      exact ⟨rfl, s'⟩
  refine wp_seq (wp_mono key ?_)
  rintro x a5 w5 ⟨rfl, ⟨h0, s5⟩ | ⟨h0, s5⟩⟩
  · obtain ⟨l, c, B', w1', hcc, u, s6⟩ := publish2 (p := at2 q Fs ad cp i (Lq q i)) (M := i) (L := Lq q) (ad := ad) (cp := cp) (Fs := Fs) (by omega) h.hi rfl h0 (fun k _ => rfl) hb s5
    show q6z.wp _ _ _ _
    refine wp_mono (pNext h (u.base hb) hI s6) ?_
    rintro x a7 w7 ⟨rfl, s7⟩
    refine ⟨rfl, _, _, _, _, fun k hk => ?_, u, s7⟩
    by_cases ck : k = i
    · rw [ck, upG_eq]; exact hcc
    · rw [upG_ne ck]; exact hc k (by omega)
  · have s6 := publish0 (p := at2 q Fs ad cp i (Lq q i)) (M := i) (L := Lq q) (ad := ad) (cp := cp) (Fs := Fs) (by omega) h.hi h0 hb s5
    show q6z.wp _ _ _ _
    refine wp_mono (pNext h hb hI s6) ?_
    rintro x a7 w7 ⟨rfl, s7⟩
    refine ⟨rfl, _, _, _, _, fun k hk => ?_, Up.self s7, s7⟩
    by_cases ck : k = i
    · rw [ck, upG_eq]; omega
    · rw [upG_ne ck]; exact hc k (by omega)
end
end Go.Proofs.Ytnenjcehicaobaa.pf
