/-
  The law ProfileMerge: the whole of it, over rows that come in.
-/
import Derived.Test.YtnenjcehicaobaaPMH
import Derived.Test.YtnenjcehicaobaaPGL
set_option linter.unusedVariables false
set_option linter.unusedSimpArgs false
set_option linter.unusedSectionVars false
set_option maxRecDepth 1000000
set_option maxHeartbeats 0
namespace Go.Proofs.Ytnenjcehicaobaa.pf
open Go.X Go.RowKit Go.Proofs
def tq (q : Lm) : Nat := off q (Iq q)
def oq (q : Lm) : Nat := min q.K.toNat (tq q)
/-- all rows in order, too -/
structure Fw (q : Lm) (Fs : Nat → List Row) (F : List Row) : Prop extends Fq q Fs where
  n0 : 0 < q.n
  sfA : F.Pairwise Lt
  pmA : F.Perm ((List.range (tq q)).map fun t => (kA q t, vA q t))
/-- Merge's names -/
def pG (q : Lm) (Fs : Nat → List Row) (F : List Row) (ad : Nat → Nat × Nat) (cp : Nat → Nat) : Pm := { G := gm (Iq q) (Lq q) ad cp Fs, N := tq q, it := fun _ => 0, ita := fun _ => 0, itb := fun _ => 0, i0 := 0, n := 0, i := 0, j := 0, M := Iq q, ls := fun m => m, r := 0, K := q.K, o := oq q, R := fun k => F.getD k (.empty, 0), mm := fun _ => EF (tq q) (kA q) (vA q), sv := fun _ => (0, [], 0) }
/-- Top's names -/
def pA' (q : Lm) (F : List Row) : Pm := { G := gi 0 (fun _ => (0, 0)) (fun _ => (.empty, 0)), N := 0, it := fun _ => 0, ita := fun _ => 0, itb := fun _ => 0, i0 := 0, n := 0, i := 0, j := 0, M := 0, ls := fun _ => 0, r := 0, K := q.K, o := oq q, R := fun k => F.getD k (.empty, 0), mm := fun _ => EF (tq q) (kA q) (vA q), sv := fun _ => (0, [], 0) }
/-- names behind them -/
def pl (q : Lm) (F : List Row) (j : Nat) : Lw := { n1 := 0, n2 := 0, a1 := (0, 0), a2 := (0, 0), c1 := 0, c2 := 0, e1 := fun _ => .empty, e2 := fun _ => 0, i := 0, E := EF (tq q) (kA q) (vA q), E' := EF (tq q) (kA q) (vA q), kt := fun _ => .empty, k := tq q, K := q.K, o := oq q, R := fun k => F.getD k (.empty, 0), j := j, vi := 0 }
theorem pl_gl {q : Lm} {F : List Row} {j : Nat} {B : Kp} {w : World} : @Gl (L0 (pl q F j)) B w := by
  refine ⟨fun g o a hg => (nomatch hg), fun i m a hg => ?_⟩
  have hg : fvL (pl q F j) i m = some a := hg
  unfold fvL at hg
  split at hg
  · have := celV_some hg
    have h : m < 0 := this.1
    omega
  · have := numV_some hg
    have h : m < 0 := this.1
    omega
  · cases hg
theorem flat_perm {α β : Type} {f g : α → List β} : ∀ (l : List α), (∀ a ∈ l, (f a).Perm (g a)) → (l.flatMap f).Perm (l.flatMap g)
  | [], _ => List.Perm.refl _
  | a :: l, h => by
    rw [List.flatMap_cons, List.flatMap_cons]
    exact (h a List.mem_cons_self).append (flat_perm l fun b hb => h b (List.mem_cons_of_mem _ hb))
section
variable {q : Lm} {Fs : Nat → List Row} {F : List Row} {ad : Nat → Nat × Nat} {cp : Nat → Nat} {i j : Nat} {B : Kp} {w0 : World} {μ : M} {a : Act} {w : World}
theorem tq_le : tq q ≤ 48 := by
  have := off_le (q := q) (Iq q)
  have h : Iq q ≤ 6 := by unfold Iq; omega
  unfold tq
  omega
theorem Fw.len (h : Fw q Fs F) : F.length = tq q := by
  rw [h.pmA.length_eq, List.length_map, List.length_range]
theorem Fw.at (h : Fw q Fs F) (k : Nat) (hk : k < F.length) : F[k]? = some (F.getD k (.empty, 0)) := by
  rw [List.getD_eq_getElem?_getD, List.getElem?_eq_getElem hk]
  rfl
theorem Fw.I (h : Fw q Fs F) : 0 < Iq q := by have := h.n0; unfold Iq; omega
theorem Fw.min (h : Fw q Fs F) (hc : ∀ k, k < Iq q → Lq q k ≤ cp k) : MIn (pG q Fs F ad cp) F := by
  have hl := h.len
  have ht := tq_le (q := q)
  have g : Gok (gm (Iq q) (Lq q) ad cp Fs) := gm_ok hc (fun _ => Lq_le)
  have h6 : Iq q ≤ 6 := by unfold Iq; omega
  have hr : ∀ m, m < Iq q → rest (gm (Iq q) (Lq q) ad cp Fs) m = Fs m := fun m hm => by
    have := gm_rest g hm (by omega) (h.toFq.len hm).symm (Lq q m) 0 (by omega)
    rw [show 8 * 0 + m = m by omega] at this
    rw [this]; rfl
  refine ⟨g, by show Iq q < 999999; omega, fun m hm => ?_, h.sfA, ?_, ⟨by omega, h.at⟩⟩
  · show (rest (gm (Iq q) (Lq q) ad cp Fs) m).Pairwise Lt
    have hm : m < Iq q := hm
    rw [hr m hm]
    exact h.sf m hm
  · show F.Perm (qR (gm (Iq q) (Lq q) ad cp Fs) (fun m => m) (Iq q))
    unfold qR qL
    rw [List.map_id']
    refine h.pmA.trans ?_
    unfold tq
    rw [rowsA]
    refine flat_perm _ fun m hm => ?_
    have hm := List.mem_range.1 hm
    rw [hr m hm]
    exact (h.pm m hm).symm
theorem Fw.out (h : Fw q Fs F) : outN (pG q Fs F ad cp) F = oq q := by unfold outN; rw [h.len]; rfl
theorem Fw.tin (h : Fw q Fs F) : TIn (pA' q F) F := by
  have hl := h.len
  have ht := tq_le (q := q)
  refine ⟨fun e => rfl, EF_txt, EF_born, EF_nd, ?_, h.sfA, ?_, ⟨by omega, h.at⟩⟩
  · show ((List.range (tq q)).map _).length < 999998
    rw [List.length_map, List.length_range]; omega
  · show F.Perm ((EF (tq q) (kA q) (vA q)).1.map rowE)
    rw [EF_rows]; exact h.pmA
theorem Fw.outA (h : Fw q Fs F) : outN (pA' q F) F = oq q := by unfold outN; rw [h.len]; rfl
theorem Fw.tf (h : Fw q Fs F) : TF (L0 (pl q F j)) (pA' q F) F := by
  have ho := h.outA
  refine ⟨⟨rfl, by rw [ho]; rfl, by rw [ho]; rfl, by rw [ho]; rfl, fun m _ => ?_, fun m _ => ?_⟩, rfl⟩
  · exact strL_R _ m
  · exact ivL_R _ m
/-- all rows of counts are read -/
theorem pExit (h : Fw q Fs F) (hb : Base B μ 18000) (s : SO q Fs ad cp (Iq q) true B w0 μ a w) :
    q6L.wp Try.prog (fun x a' w' => x = .exit 0 ∧ St (T0 (pG q Fs F ad cp)) B w0 μ ntQ (frOf fsXq) (hOf 20000 (bsXx 18001 19004)) a' w') a w := by
  have hx : (decide ((at2 q Fs ad cp (Iq q) 0).i < (at2 q Fs ad cp (Iq q) 0).n) && decide ((at2 q Fs ad cp (Iq q) 0).i < 6)) = false := by
    rw [Bool.eq_false_iff]
    intro c
    simp only [Bool.and_eq_true, decide_eq_true_eq] at c
    have c : Iq q < q.n ∧ Iq q < 6 := c
    unfold Iq at c
    omega
  refine wp_mono (runTo_sound (T := (Rc (p := at2 q Fs ad cp (Iq q) 0) _ _ rfl rfl).T) (T' := T0 (pG q Fs F ad cp)) mixed hNo (C := CX') (ex := .exit 0) hb (show 18000 ≤ 20000 by decide) (rl := rlX) rfl (by kernel_rfl) (ipE (q := (.i64, (Iq q : Int))) (ipE (q := (.i64, q.K)) (ipE (q := (.i64, (tq q : Int))) (ipM ipNil (by exact rfl)) (by exact rfl) (by exact rfl)) (by exact rfl) (by exact rfl)) (by exact rfl) (by exact rfl))
    (vpVec (n := Iq q) (n' := Iq q) (e := cm) (e' := cq (fun m => m)) vpNil (by exact rfl) (by exact rfl) (Nat.le_refl _) (by exact Nat.le_refl _) (fun m hm μ μ' v hv => rwRel (by show rvM (at2 q Fs ad cp (Iq q) 0) (2 * m + 10) = _; rw [rvM_g]; rfl) hv))
    (fun g => gw_gl (gl_cw (Gl.tab (Rq.same _).symm.toSameV g)).2) (gqX _ _ _ _ hx) (St.same (Rq.same _) s)) ?_
  rintro x a' w' ⟨rfl, s'⟩
  exact ⟨rfl, s'⟩
theorem qRounds {B0 : Kp} {w00 : World} (h : Fw q Fs F) (hb0 : Base B0 μ 18000) : ∀ (k i : Nat) (B : Kp) (w0 : World) (ad : Nat → Nat × Nat) (cp : Nat → Nat) (a : Act) (w : World), i + k = Iq q → Up B0 w00 B w0 → (∀ k, k < i → Lq q k ≤ cp k) → SO q Fs ad cp i (Nat.blt 0 i) B w0 μ a w →
    Code.rounds Try.prog q6L (fun x a w => x = .exit 0 ∧ ∃ ad cp B' w1, (∀ k, k < Iq q → Lq q k ≤ cp k) ∧ Up B0 w00 B' w1 ∧ St (T0 (pG q Fs F ad cp)) B' w1 μ ntQ (frOf fsXq) (hOf 20000 (bsXx 18001 19004)) a w) (k + 1) a w
  | 0, i, B, w0, ad, cp, a, w, hi, u, hc, s => by
    obtain rfl : i = Iq q := by omega
    have e : Nat.blt 0 (Iq q) = true := Nat.ble_eq_true_of_le h.I
    rw [e] at s
    refine rounds_of (wp_mono (pExit h (u.base hb0) s) ?_)
    rintro x a' w' ⟨rfl, s'⟩
    exact ⟨rfl, ad, cp, B, w0, hc, u, s'⟩
  | k + 1, i, B, w0, ad, cp, a, w, hi, u, hc, s => by
    refine rounds_of (wp_mono (pRound h.toFq (u.base hb0) (by omega) hc rfl s) ?_)
    rintro x a' w' ⟨rfl, ad', cp', B', w1, hc', u', s'⟩
    exact qRounds h hb0 k (i + 1) B' w1 ad' cp' a' w' (by omega) (u.trans u') hc' s'
theorem iM3 {T : Tab} {l : IP} {p : Lw} {x : Int} (k : IpOk T (L0 p) l) (h : T.iv 40 = (.i64, x)) (h' : p.K = x) : IpOk T (L0 p) ((.oi 40, 40) :: l) := ipE (q := (.i64, x)) k h (by show ((IntKind.i64, p.K) : IntKind × Int) = _; rw [h'])
/-- one run over what came out -/
theorem goV {j j' : Nat} {R : Rl (pl q F j)} {c : Code} {ip : IP} {fs fs' : List (Nat × AV)} {ex : Ex} (hb : Base B μ 18000) (hip : IpOk R.T (L0 (pl q F j')) ip)
    (e : runTo R.T Try.prog Hand.none 3000 ntQ c (frOf fs) (hOf 21000 bsW) ex (CW' rlW ip) vW fs' bsW = true) (s : St (L0 (pl q F j)) B w0 μ ntQ (frOf fs) (hOf 21000 bsW) a w) :
    c.wp Try.prog (fun x a' w' => x = ex.to ∧ St (L0 (pl q F j')) B w0 μ ntQ (frOf fs') (hOf 21000 bsW) a' w') a w :=
  runTo_sound (T := R.T) (T' := L0 (pl q F j')) mixed hNo (C := CW' rlW ip) (ex := ex) hb (show 18000 ≤ 21000 by decide) (rl := rlW) rfl (by kernel_rfl) hip (vOut' (by exact rfl) (by exact rfl) (vOut' (by exact rfl) (by exact rfl) vpNil)) (fun _ => pl_gl) e (St.same (Rl.same _) s)
theorem cmpRounds (hb : Base B μ 18000) : ∀ (k j : Nat) (a : Act) (w : World), j + k = oq q → St (L0 (pl q F j)) B w0 μ ntQ (frOf fsV1) (hOf 21000 bsW) a w → Code.rounds Try.prog q10L (fun x a w => x = .exit 4 ∧ St (L0 (pl q F 0)) B w0 μ ntQ (frOf [(5, .bool true)]) (hOf 21000 []) a w) (k + 1) a w
  | 0, j, a, w, hj, s => by
    have hn : ¬ (pl q F j).j < (pl q F j).o := by show ¬ j < oq q; omega
    refine rounds_of (wp_mono (runTo_sound (T := (RDx hn).T) (T' := L0 (pl q F 0)) mixed hNo (C := CW' [] []) (ex := .exit 4) hb (show 18000 ≤ 21000 by decide) (rl := []) rfl (by kernel_rfl) ipNil vpNil (fun _ => pl_gl) (gVx hn) (St.same (Rl.same _) s)) ?_)
    rintro x a' w' ⟨rfl, s'⟩
    exact ⟨rfl, s'⟩
  | k + 1, j, a, w, hj, s => by
    have ht := tq_le (q := q)
    have hj1 : (pl q F j).j < (pl q F j).o := by show j < oq q; omega
    have ho : (pl q F j).o < 1000 := by show oq q < 1000; unfold oq; omega
    refine rounds_of (wp_mono (goV (j' := j + 1) (R := RV hj1 ho) (ex := .normal) hb (ipE (q := (.i64, ((j + 1 : Nat) : Int))) (ipE (q := (.i64, (oq q : Int))) ipNil (by exact rfl) (by exact rfl)) (by exact rfl) (by exact rfl)) (gV1 hj1 ho) s) ?_)
    rintro x a' w' ⟨rfl, s'⟩
    exact cmpRounds hb k (j + 1) a' w' (by omega) s'
/-- Merge and Top are called; what they give is compared -/
theorem qEnd {τ : Tab} (h : Fw q Fs F) (hc : ∀ k, k < Iq q → Lq q k ≤ cp k) (hb : Base B μ 18000) (hg : @Gl τ B w0) (s : St (T0 (pG q Fs F ad cp)) B w0 μ ntQ (frOf fsXq) (hOf 20000 (bsXx 18001 19004)) a w) :
    (restn 7 qC).wp Try.prog (fun x a' w' => x = .ret ∧ St τ B w0 μ ntQ (frOf [(4, .bool true)]) (hOf 21000 []) a' w') a w := by
  have hm := h.min (ad := ad) hc
  have hou := h.out (ad := ad) (cp := cp)
  have hoA := h.outA
  rw [q7_eq]
  by_cases hz : oq q = 0
  · refine wp_seq (wp_mono (runTo_sound (T := T0 (pG q Fs F ad cp)) (T' := L0 (pl q F 0)) mixed (inH (moI0_ok hm hou.symm (by rw [hou]; exact hz)) moLim) (C := CY [(18001, 18001)] [(.oi 40, 40), (.oi 22, 6), (.map 0, 0)]) (ex := .normal) hb (show 18000 ≤ 19000 by decide) (rl := [(18001, 18001)]) rfl (by kernel_rfl) (ipE (q := (.i64, q.K)) (ipE (q := (.i64, (tq q : Int))) (ipM ipNil (by exact rfl)) (by exact rfl) (by exact rfl)) (by exact rfl) (by exact rfl)) vpNil (fun _ => pl_gl) (gMg0 _) s) ?_)
    rintro x a1 w1 ⟨rfl, s1⟩
    show (restn 8 qC).wp _ _ _ _
    rw [q8_eq]
    refine wp_seq (wp_mono (runTo_sound (T := L0 (pl q F 0)) (T' := L0 (pl q F 0)) mixed (inH (tI0_ok h.tin hoA.symm h.tf (by rw [hoA]; exact hz)) tLim) (C := CW' [] [(.oi 40, 40), (.oi 6, 6)]) (ex := .normal) hb (show 18000 ≤ 21000 by decide) (rl := []) rfl (by kernel_rfl) (ipE (q := (.i64, q.K)) (ipE (q := (.i64, (tq q : Int))) ipNil (by exact rfl) (by exact rfl)) (by exact rfl) (by exact rfl)) vpNil (fun _ => pl_gl) (gTp0 _) s1) ?_)
    rintro x a2 w2 ⟨rfl, s2⟩
    show (restn 9 qC).wp _ _ _ _
    by_cases hK : q.K ≤ 0
    · refine wp_mono (runTo_sound (T := (RNa (p := pl q F 0) hK).T) (T' := τ) mixed hNo (C := CW' [] []) (ex := .ret) hb (show 18000 ≤ 21000 by decide) (rl := []) rfl (by kernel_rfl) ipNil vpNil (fun _ => hg) (gNa (p := pl q F 0) hK) (St.same (Rl.same _) s2)) ?_
      rintro x a3 w3 ⟨rfl, s3⟩
      exact ⟨rfl, s3⟩
    · have hK : 0 < (pl q F 0).K := by show 0 < q.K; omega
      have hk : (pl q F 0).k = 0 := by
        show tq q = 0
        have hK : 0 < q.K := hK
        unfold oq at hz; omega
      refine wp_mono (runTo_sound (T := (RNb (p := pl q F 0) hK hk).T) (T' := τ) mixed hNo (C := CW' [] []) (ex := .ret) hb (show 18000 ≤ 21000 by decide) (rl := []) rfl (by kernel_rfl) ipNil vpNil (fun _ => hg) (gNb (p := pl q F 0) hK hk) (St.same (Rl.same _) s2)) ?_
      rintro x a3 w3 ⟨rfl, s3⟩
      exact ⟨rfl, s3⟩
  · have hz : 0 < oq q := Nat.pos_of_ne_zero hz
    refine wp_seq (wp_mono (runTo_sound (T := T0 (pG q Fs F ad cp)) (T' := L0 (pl q F 0)) mixed (inH (moI1_ok hm hou.symm (by rw [hou]; exact hz)) moLim) (C := CY [(18001, 18001), (18005, 20003)] [(.oi 30, 30), (.oi 40, 40), (.oi 22, 6), (.map 0, 0)]) (ex := .normal) hb (show 18000 ≤ 19000 by decide) (rl := [(18001, 18001), (18005, 20003)]) rfl (by kernel_rfl) (ipE (q := (.i64, (oq q : Int))) (ipE (q := (.i64, q.K)) (ipE (q := (.i64, (tq q : Int))) (ipM ipNil (by exact rfl)) (by exact rfl) (by exact rfl)) (by exact rfl) (by exact rfl)) (by exact rfl) (by exact rfl)) (vpOut (i := 30) (n := oq q) vpNil (by exact rfl) (by exact rfl) (by exact rfl) (by exact rfl) (fun k _ => ⟨by show strP (pG q Fs F ad cp) (2 * k + 1) = strL (pl q F 0) (2 * k + 1); rw [str_out, strL_R]; rfl, by show ivP (pG q Fs F ad cp) (1002 + 3 * k) = ivL (pl q F 0) (1002 + 3 * k); rw [iv_out, ivL_R]; rfl⟩)) (fun _ => pl_gl) (gMg1 _) s) ?_)
    rintro x a1 w1 ⟨rfl, s1⟩
    show (restn 8 qC).wp _ _ _ _
    rw [q8_eq]
    refine wp_seq (wp_mono (runTo_sound (T := L0 (pl q F 0)) (T' := L0 (pl q F 0)) mixed (inH (tI1_ok h.tin hoA.symm h.tf (by rw [hoA]; exact hz)) tLim) (C := CW' rlW [(.oi 30, 30), (.oi 40, 40), (.oi 6, 6)]) (ex := .normal) hb (show 18000 ≤ 21000 by decide) (rl := rlW) rfl (by kernel_rfl) (ipE (q := (.i64, (oq q : Int))) (ipE (q := (.i64, q.K)) (ipE (q := (.i64, (tq q : Int))) ipNil (by exact rfl) (by exact rfl)) (by exact rfl) (by exact rfl)) (by exact rfl) (by exact rfl)) (vOut' (R := R0L _) (by exact rfl) (by exact rfl) (vOut' (R := R0L _) (by exact rfl) (by exact rfl) vpNil)) (fun _ => pl_gl) (gTp1 _) s1) ?_)
    rintro x a2 w2 ⟨rfl, s2⟩
    show (restn 9 qC).wp _ _ _ _
    rw [q9_eq]
    have hk : 0 < (pl q F 0).k := by show 0 < tq q; unfold oq at hz; omega
    have hK : 0 < (pl q F 0).K := by show 0 < q.K; unfold oq at hz; omega
    have i30 : ∀ {R : Rl (pl q F 0)}, IpOk R.T (L0 (pl q F 0)) [(.oi 30, 30)] := fun {R} => ipE (q := (.i64, (oq q : Int))) ipNil (by exact rfl) (by exact rfl)
    have key : q9.wp Try.prog (fun x a' w' => x = .normal ∧ St (L0 (pl q F 0)) B w0 μ ntQ (frOf fsV) (hOf 21000 bsW) a' w') a2 w2 := by
      by_cases c : ((pl q F 0).k : Int) < (pl q F 0).K
      · have ho : (pl q F 0).o = (pl q F 0).k := by
          have c : (tq q : Int) < q.K := c
          show oq q = tq q
          unfold oq; omega
        exact goV (j' := 0) (R := RC1 hk hK ho c) (ex := .normal) hb i30 (gC1 hk hK ho c) s2
      · have ho : ((pl q F 0).o : Int) = (pl q F 0).K := by
          have c : ¬ (tq q : Int) < q.K := c
          have hK : 0 < q.K := hK
          show (oq q : Int) = q.K
          unfold oq; omega
        exact goV (j' := 0) (R := RC2 hk hK ho c) (ex := .normal) hb i30 (gC2 hk hK ho c) s2
    refine wp_seq (wp_mono key ?_)
    rintro x a3 w3 ⟨rfl, s3⟩
    show (restn 10 qC).wp _ _ _ _
    rw [q10_eq]
    refine wp_seq (wp_seq (wp_mono (goV (j' := 0) (R := R0L (pl q F 0)) (ex := .normal) hb (ipK' (b := ((0 : Nat) : Int)) i30 (by exact rfl) rfl) (gV0 _) s3) ?_))
    rintro x a4 w4 ⟨rfl, s4⟩
    show (Code.block 4 (.loop q10L)).wp _ _ _ _
    refine wp_block (wp_mono (wp_loop_rounds (Q := fun x a w => x = .exit 4 ∧ St (L0 (pl q F 0)) B w0 μ ntQ (frOf [(5, .bool true)]) (hOf 21000 []) a w) (oq q + 1) (cmpRounds hb (oq q) 0 a4 w4 (by omega) s4)) ?_)
    rintro x a5 w5 ⟨rfl, s5⟩
    show (restn 11 qC).wp _ _ _ _
    refine wp_mono (runTo_sound (T := L0 (pl q F 0)) (T' := τ) mixed hNo (C := CW' [] []) (ex := .ret) hb (show 18000 ≤ 21000 by decide) (rl := []) rfl (by kernel_rfl) ipNil vpNil (fun _ => hg) (gVz _) s5) ?_
    rintro x a6 w6 ⟨rfl, s6⟩
    exact ⟨rfl, s6⟩
theorem resM : results? Try.prog Try.f4 (frOf [(4, .bool true)]) (hOf 21000 []) = some (.bool true) := by as_aux_lemma => kernel_rfl
theorem qAll (h : Fw q Fs F) : @CallOk (M0 (at2 q Fs ad cp 0 0)) Try.prog 4 [.fo 0 0 1, .oi 40] H.empty (.bool true, hOf 21000 []) := by
  letI : Tab := M0 (at2 q Fs ad cp 0 0)
  refine callOk_of (fn := Try.f4) Try.func4 qC_eq (show 2 ≤ Try.f4.ntmps by decide +kernel) (show 2 < limit by decide) fun B w0 μ a0 w hb s => ?_
  have hg : @Gl (M0 (at2 q Fs ad cp 0 0)) B w0 := St.gl s
  have ups := Up.self s
  have hb : Base B μ 18000 := baseUp hb (by show 0 ≤ 18000; decide)
  refine firstTo_sound (T := M0 (at2 q Fs ad cp 0 0)) (T' := M0 (at2 q Fs ad cp 0 0)) (n := 6) mixed (K := begunH) begunH_ok (C := CQ [(18002, 0)] ((.int .i64 0, 12) :: (.nilm, 2) :: [(.fo 0 0 1, 0), (.oi 0, 0), (.oi 40, 40)])) (rl := [(18002, 0)]) (fs := fsP .nils) (bs := [(18002, 0, .omap 2)])
    hb (by decide) rfl (by kernel_rfl) (ipK' (b := ((0 : Nat) : Int)) (ipCons (show (M0 (at2 q Fs ad cp 0 0)).mm 2 = ([], 0) from rfl) (ipF (ipE (q := (.i64, (q.n : Int))) (ipE (q := (.i64, q.K)) ipNil (by exact rfl) (by exact rfl)) (by exact rfl) (by exact rfl)) (by exact rfl) (by exact rfl))) (by exact rfl) rfl) vpNil (fun g => g) (gq0 _) s fun a1 w1 s1 => ?_
  rw [q6_eq]
  refine wp_seq (wp_seq (wp_mono (goM (R := R0q (at2 q Fs ad cp 0 0)) (p' := at2 q Fs ad cp 0 0) (bs' := bsP []) (rl := [(18002, 18002)]) (vp := []) (ip := (.int .i64 0, 2) :: iP) (ex := .normal) hb hNo (by kernel_rfl) (ipK' (b := ((0 : Nat) : Int)) (iP_ok rfl rfl rfl rfl rfl rfl) (by exact rfl) rfl) vpNil {} h.toFq.hi (gq1 _) s1) ?_))
  rintro x a2 w2 ⟨rfl, s2⟩
  show (Code.block 0 (.loop q6L)).wp _ _ _ _
  refine wp_block (wp_mono (wp_loop_rounds (Q := fun x a w => x = .exit 0 ∧ ∃ ad cp B' w1, (∀ k, k < Iq q → Lq q k ≤ cp k) ∧ Up B w0 B' w1 ∧ St (T0 (pG q Fs F ad cp)) B' w1 μ ntQ (frOf fsXq) (hOf 20000 (bsXx 18001 19004)) a w) (Iq q + 1) (qRounds h hb (Iq q) 0 B w0 ad cp a2 w2 (by omega) ups (fun k hk => by omega) s2)) ?_)
  rintro x a3 w3 ⟨rfl, ad', cp', B', w1', hc, u, s3⟩
  show (restn 7 qC).wp _ _ _ _
  refine wp_mono (qEnd (τ := M0 (at2 q Fs ad cp 0 0)) h hc (u.base hb) (u.gl hg) s3) ?_
  rintro x a4 w4 ⟨rfl, s4⟩
  exact St.done (τ := M0 (at2 q Fs ad cp 0 0)) (e := .ret) (.inr rfl) resM (St.down u hg s4)
end
end Go.Proofs.Ytnenjcehicaobaa.pf
