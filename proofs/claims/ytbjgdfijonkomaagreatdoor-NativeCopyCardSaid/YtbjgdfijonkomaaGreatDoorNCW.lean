/-
  The law NativeCopy: its loops.
-/
import Derived.Test.YtbjgdfijonkomaaGreatDoorNCK
set_option linter.unusedVariables false
set_option linter.unusedSimpArgs false
set_option linter.unusedSectionVars false
set_option maxRecDepth 1000000
set_option maxHeartbeats 0
namespace Go.Proofs.YtbjgdfijonkomaaGreatDoor.nc
open Go.X Go.RowKit Go.Proofs
theorem glV {p p' : Pm} {T : Tab} {Wf' : Nat → Nat → BitVec 64} {B : Kp} {w0 : World} (h1 : T.fb = (fgC p).fb) (h2 : T.fv = (fgC p).fv) (e1 : (fgC p').fb = (fgC p).fb) (e2 : (fgC p').fv = (fgC p).fv) : @Gl T B w0 → @Gl (plV p' Wf') B w0 := fun g => ⟨fun g o a h => (by cases h), fun i m a h => by
    have h' : (fgC p').fv i m = some a := h
    rw [e2] at h'
    obtain ⟨k1, v, k2, k3⟩ := g.2 i m a (by rw [h2]; exact h')
    rw [h1] at k1 k2
    refine ⟨by show B.kept ((fgC p').fb i).1; rw [e1]; exact k1, v, by show w0.cell? ⟨((fgC p').fb i).1, ((fgC p').fb i).2 + m, none⟩ = _; rw [e1]; exact k2, ?_⟩
    have hn : ∃ k z, a = AV.int k z := by
      match i, h' with
      | 0, h' => obtain ⟨_, e⟩ := numV_some h'; exact ⟨_, _, e⟩
      | 1, h' => obtain ⟨_, e⟩ := numV_some h'; exact ⟨_, _, e⟩
      | (i + 2), h' => cases h'
    obtain ⟨k, z, rfl⟩ := hn
    simp only [vrel] at k3 ⊢
    exact k3⟩
theorem relV {p p' : Pm} {Wf Wf' : Nat → Nat → BitVec 64} {v : Nat} {T : Tab} {C : Cv} (hip : IpOk T (plV p' Wf') C.ip) (h1 : T.vv v = pvw [] p.tot (Wf v)) (h2 : T.vk v = p.tot) (ht : p'.tot = p.tot) (hW : ∀ m, m < p.tot → Wf' 6 m = Wf v m) : own (.vec v) = true ∧ ∀ μ l w, @brel T μ (.vec v) l w → @brel (plV p' Wf') (ren C.N0 C.rn μ) (.vec 6) l w :=
  vpW (L := []) (L' := []) (n := p.tot) (n' := p.tot) (W := Wf v) (W' := Wf' 6) hip h1 (by show pvw [] p'.tot (Wf' 6) = _; rw [ht]) (by show p'.tot ≤ T.vk v; rw [ht, h2]; exact Nat.le_refl _) (Nat.le_refl _) (Nat.le_refl _) (Nat.zero_le _) rfl (fun q x h => by simp at h) (fun q hq => by rw [show ([] : List AV).length - ([] : List AV).length + q = q by simp]; exact hW q (by simpa using hq))
theorem ipV {p p' : Pm} {T : Tab} {Wf' : Nat → Nat → BitVec 64} {ii : AV} {ex : List (AV × Nat)} (L : Like p p') (h1 : T.fb = (fgC p).fb) (h2 : T.fcap = (fgC p).fcap) (h3 : T.iv = ivC p) (hi : denI (ivC p) ii = some (.i64, (p'.i : Int))) (hn : isNum ii = true) (hx : IpOk T (plV p' Wf') ex) : IpOk T (plV p' Wf') ((cvC ii ex).ip) := ipC L h1 h2 h3 hi hn hx
def SV (p : Pm) (Wf : Nat → Nat → BitVec 64) (c : Cs) (fs : List (Nat × AV)) (B : Kp) (w0 : World) (μ : M) (a : Act) (w : World) : Prop := St (plV p Wf) B w0 μ Tryz.f3.ntmps (frOf fs) (hOf 6 (bs6 c.rf)) a w
def Pm.at (p : Pm) (i : Nat) (W : Nat → BitVec 64) : Pm := { p with i := i, W := W }
theorem likeAt (p : Pm) (i j : Nat) (W V : Nat → BitVec 64) : Like (p.at i W) (p.at j V) := ⟨rfl, rfl, rfl, rfl, rfl, rfl, rfl, rfl, rfl, rfl, rfl, rfl, rfl, rfl, rfl⟩
section
variable {B : Kp} {w0 : World} {μ : M}
theorem go {p p' : Pm} {c : Cs} {Wf Wf' : Nat → Nat → BitVec 64} {ib hib ic hic vc hvc vl hvl vs hvs fl hfl} {code : Code} {fs0 fs1 : List (Nat × AV)} {ex : Ex} {ii : AV} {v : Nat} {a : Act} {w : World} (hb : Base B μ 0) (L : Like p p') (hi : denI (ivC p) ii = some (.i64, (p'.i : Int))) (hn : isNum ii = true) (hW : ∀ m, m < p.tot → Wf' 6 m = Wf v m)
    (e : runTo (TN (ivC p) p.tot Wf (fgC p) ib hib ic hic vc hvc vl hvl vs hvs fl hfl) Tryz.prog KK 3000 Tryz.f3.ntmps code (frOf fs0) (hOf 6 (bs6 c.rf)) ex (cvC ii []) [(1, .vec v, 6)] fs1 (bs6 c.rf) = true) (s : SV p Wf c fs0 B w0 μ a w) : code.wp Tryz.prog (fun e' a' w' => e' = ex.to ∧ SV p' Wf' c fs1 B w0 μ a' w') a w := by
  have hip := ipV (T := TN (ivC p) p.tot Wf (fgC p) ib hib ic hic vc hvc vl hvl vs hvs fl hfl) (Wf' := Wf') (ex := []) L rfl rfl rfl hi hn ipNil
  exact runTo_sound (T := TN (ivC p) p.tot Wf (fgC p) ib hib ic hic vc hvc vl hvl vs hvs fl hfl) (T' := plV p' Wf') mixed (@nq.K_top0_ok (TN (ivC p) p.tot Wf (fgC p) ib hib ic hic vc hvc vl hvl vs hvs fl hfl)) (C := cvC ii []) hb (Nat.zero_le _) (rl := rlC) rfl (by kernel_rfl) hip (vpCons (relV hip rfl rfl L.e6 hW) vpNil) (glV (p := p) rfl rfl (likeF L).1 (likeF L).2) e (St.same (VRows.fsame _ _ _ _ _ _ _) s)
/-- what stays -/
structure Ok (p : Pm) (c : Cs) : Prop where
  la20 : p.la ≤ 20
  lb20 : p.lb ≤ 20
  tx : 3 + p.la ≤ p.tot
  ty : p.s + 3 + p.lb ≤ p.tot
  tt : p.tot ≤ 60
  hs : p.s = Bool.rec (3 + p.la) 0 c.sf
  hq : c.sf = true → p.B = p.A ∧ p.lb = p.la
  hc : c.sf = true → c.ca = c.cb
  ha : 0 < p.la → c.ca = true
  hb : 0 < p.lb → c.cb = true
  na : c.ca = false → p.la = 0
  nb : c.cb = false → p.lb = 0
  rA : ∀ m, -9223372036854775808 ≤ p.A m ∧ p.A m ≤ 9223372036854775807
  rB : ∀ m, -9223372036854775808 ≤ p.B m ∧ p.B m ≤ 9223372036854775807
theorem Ok.s2 {p : Pm} {c : Cs} (o : Ok p c) : (c.sf = true ∧ p.s = 0) ∨ (c.sf = false ∧ p.s = 3 + p.la) := by
  have h := o.hs
  cases e : c.sf with
  | true => rw [e] at h; exact .inl ⟨rfl, h⟩
  | false => rw [e] at h; exact .inr ⟨rfl, h⟩
theorem Ok.s8 {p : Pm} {c : Cs} (o : Ok p c) : p.s ≤ 3 + p.la := by rcases o.s2 with ⟨_, h⟩ | ⟨_, h⟩ <;> omega
theorem Ok.sY1 {p : Pm} {c : Cs} (o : Ok p c) : decide ((0 : Int) < (p.s : Int)) = !c.sf := by
  rcases o.s2 with ⟨e, h⟩ | ⟨e, h⟩ <;> rw [e]
  · exact decide_eq_false (by omega)
  · exact decide_eq_true (by omega)
theorem Ok.sY2 {p : Pm} {c : Cs} (o : Ok p c) : decide (((3 + p.la : Nat) : Int) = (p.s : Int)) = !c.sf := by
  rcases o.s2 with ⟨e, h⟩ | ⟨e, h⟩ <;> rw [e]
  · exact decide_eq_false (by omega)
  · exact decide_eq_true (by omega)
theorem Ok.sY3 {p : Pm} {c : Cs} (o : Ok p c) : decide ((0 : Int) = (p.s : Int)) = c.sf := by
  rcases o.s2 with ⟨e, h⟩ | ⟨e, h⟩ <;> rw [e]
  · exact decide_eq_true (by omega)
  · exact decide_eq_false (by omega)
theorem Ok.sY4 {p : Pm} {c : Cs} (o : Ok p c) : decide ((p.s : Int) = 0) = c.sf := by
  rcases o.s2 with ⟨e, h⟩ | ⟨e, h⟩ <;> rw [e]
  · exact decide_eq_true (by omega)
  · exact decide_eq_false (by omega)
/-- what the words are behind i rounds of the first loop -/
structure In1 (p : Pm) (sh : Int) (i : Nat) (W : Nat → BitVec 64) : Prop where
  h0 : wI (W 0) = 0
  h2 : wI (W 2) = (p.la : Int)
  h3 : wI (W p.s) = sh
  h4 : wI (W (p.s + 2)) = (p.lb : Int)
  hA : ∀ k, k < i → W (3 + k) = bV (p.A k)
theorem In1.step {p : Pm} {c : Cs} (o : Ok p c) {sh : Int} {i : Nat} {W : Nat → BitVec 64} (h : In1 p sh i W) (hi : i < p.la) : In1 p sh (i + 1) (upd W (3 + i) (bV (p.A i))) := by
  have hs := o.s2
  have s0 : p.s ≠ 3 + i := by omega
  have s2 : p.s + 2 ≠ 3 + i := by omega
  refine ⟨by rw [upd_ne (by omega)]; exact h.h0, by rw [upd_ne (by omega)]; exact h.h2, by rw [upd_ne s0]; exact h.h3, by rw [upd_ne s2]; exact h.h4, fun k hk => ?_⟩
  by_cases e : k = i
  · subst e; exact upd_eq
  · rw [upd_ne (by omega)]; exact h.hA k (by omega)
theorem rounds1 {p : Pm} {c : Cs} {sh : Int} (o : Ok p c) (hb : Base B μ 0) : ∀ j i W, i + j = p.la → In1 p sh i W → ∀ a w, SV (p.at i W) (W1 (p.at i W)) c ((21, .oi 5) :: fs9 c) B w0 μ a w → Code.rounds Tryz.prog l1 (fun e a w => e = .exit 0 ∧ ∃ W', In1 p sh p.la W' ∧ SV (p.at p.la W') (W2 (p.at p.la W')) c (fs9 c) B w0 μ a w) (j + 1) a w
  | 0, i, W, hj, h, a, w, s => by
    have hi : i = p.la := by omega
    refine rounds_of (wp_mono (go (p := p.at i W) (p' := p.at i W) (Wf := W1 (p.at i W)) (Wf' := W2 (p.at i W)) hb (likeAt _ _ _ _ _) (ii := .oi 5) (v := 6) rfl rfl (fun m _ => rfl) (hy1_all c o.hc (p.at i W) (show ¬ i < p.la by omega)) s) ?_)
    rintro e a' w' ⟨rfl, s2⟩
    subst hi
    exact ⟨rfl, W, h, s2⟩
  | j + 1, i, W, hj, h, a, w, s => by
    have hi : i < p.la := by omega
    refine rounds_of (wp_mono (go (p := p.at i W) (p' := p.at (i + 1) (upd W (3 + i) (bV (p.A i)))) (Wf := W1 (p.at i W)) (Wf' := W1 (p.at (i + 1) (upd W (3 + i) (bV (p.A i))))) hb (likeAt _ _ _ _ _) (ii := .oi 6) (v := 7) rfl rfl (fun m _ => rfl) (g1_all c o.hc (o.ha (by omega)) (p.at i W) o.la20 o.tx o.tt h.h0 h.h2 hi) s) ?_)
    rintro e a' w' ⟨rfl, s2⟩
    exact rounds1 o hb j (i + 1) _ (by omega) (h.step o hi) a' w' s2
structure In2 (p : Pm) (sh : Int) (i : Nat) (W : Nat → BitVec 64) : Prop extends In1 p sh p.la W where
  hB : ∀ k, k < i → W (p.s + 3 + k) = bV (p.B k)
theorem In2.step {p : Pm} {c : Cs} (o : Ok p c) {sh : Int} {i : Nat} {W : Nat → BitVec 64} (h : In2 p sh i W) (hi : i < p.lb) : In2 p sh (i + 1) (upd W (p.s + 3 + i) (bV (p.B i))) := by
  refine ⟨⟨by rw [upd_ne (by omega)]; exact h.h0, by rw [upd_ne (by omega)]; exact h.h2, by rw [upd_ne (by omega)]; exact h.h3, by rw [upd_ne (by omega)]; exact h.h4, fun k hk => ?_⟩, fun k hk => ?_⟩
  · rcases o.s2 with ⟨e, h0⟩ | ⟨e, h0⟩
    · by_cases ek : k = i
      · subst ek
        rw [show 3 + k = p.s + 3 + k by omega, upd_eq, (o.hq e).1]
      · rw [upd_ne (by omega)]; exact h.hA k hk
    · rw [upd_ne (by omega)]; exact h.hA k hk
  · by_cases e : k = i
    · subst e; exact upd_eq
    · rw [upd_ne (by omega)]; exact h.hB k (by omega)
theorem rounds2 {p : Pm} {c : Cs} (o : Ok p c) (hr : (c.sf || !c.rf) = true) (hb : Base B μ 0) : ∀ j i W, i + j = p.lb → In2 p 0 i W → ∀ a w, SV (p.at i W) (W2 (p.at i W)) c ((22, .oi 5) :: fs9 c) B w0 μ a w → Code.rounds Tryz.prog l2 (fun e a w => e = .exit 2 ∧ ∃ W', In2 p 0 p.lb W' ∧ SV (p.at p.lb W') (Wf3 (p.at p.lb W')) c (fs9 c) B w0 μ a w) (j + 1) a w
  | 0, i, W, hj, h, a, w, s => by
    have hi : i = p.lb := by omega
    refine rounds_of (wp_mono (go (p := p.at i W) (p' := p.at i W) (Wf := W2 (p.at i W)) (Wf' := Wf3 (p.at i W)) hb (likeAt _ _ _ _ _) (ii := .oi 5) (v := 6) rfl rfl (fun m _ => rfl) (hy2_all c o.hc (p.at i W) (show ¬ i < p.lb by omega)) s) ?_)
    rintro e a' w' ⟨rfl, s2⟩
    subst hi
    exact ⟨rfl, W, h, s2⟩
  | j + 1, i, W, hj, h, a, w, s => by
    have hi : i < p.lb := by omega
    refine rounds_of (wp_mono (go (p := p.at i W) (p' := p.at (i + 1) (upd W (p.s + 3 + i) (bV (p.B i)))) (Wf := W2 (p.at i W)) (Wf' := W2 (p.at (i + 1) (upd W (p.s + 3 + i) (bV (p.B i))))) hb (likeAt _ _ _ _ _) (ii := .oi 6) (v := 7) rfl rfl (fun m _ => rfl) (g2_all c o.hc (o.hb (by omega)) hr (p.at i W) o.la20 o.lb20 o.tx o.ty o.tt o.s8 h.h3 h.h4 o.sY1 o.sY2 o.sY3 o.sY4 hi) s) ?_)
    rintro e a' w' ⟨rfl, s2⟩
    exact rounds2 o hr hb j (i + 1) _ (by omega) (h.step o hi) a' w' s2
/-- the second loop is left at once -/
theorem none2 {p : Pm} {c : Cs} (o : Ok p c) (hr : (c.sf || !c.rf) = false) (hb : Base B μ 0) (W : Nat → BitVec 64) (a : Act) (w : World) (s : SV (p.at 0 W) (W2 (p.at 0 W)) c ((22, .oi 5) :: fs9 c) B w0 μ a w) : Code.rounds Tryz.prog l2 (fun e a w => e = .exit 2 ∧ SV (p.at 0 W) (Wf3 (p.at 0 W)) c (fs9 c) B w0 μ a w) 1 a w := by
  by_cases hi : 0 < p.lb
  · refine rounds_of (wp_mono (go (p := p.at 0 W) (p' := p.at 0 W) (Wf := W2 (p.at 0 W)) (Wf' := Wf3 (p.at 0 W)) hb (likeAt _ _ _ _ _) (ii := .oi 5) (v := 6) rfl rfl (fun m _ => rfl) (hv2_all c o.hc (o.hb hi) hr (p.at 0 W) hi) s) ?_)
    rintro e a' w' ⟨rfl, s2⟩
    exact ⟨rfl, s2⟩
  · refine rounds_of (wp_mono (go (p := p.at 0 W) (p' := p.at 0 W) (Wf := W2 (p.at 0 W)) (Wf' := Wf3 (p.at 0 W)) hb (likeAt _ _ _ _ _) (ii := .oi 5) (v := 6) rfl rfl (fun m _ => rfl) (hy2_all c o.hc (p.at 0 W) hi) s) ?_)
    rintro e a' w' ⟨rfl, s2⟩
    exact ⟨rfl, s2⟩
/-- what the words are behind the copy -/
structure In3 (p : Pm) (W : Nat → BitVec 64) : Prop where
  h3 : wI (W p.s) = 0
  h4 : wI (W (p.s + 2)) = (p.lb : Int)
  hC : ∀ i, i < p.lb → W (p.s + 3 + i) = if p.to ≤ (i : Int) ∧ (i : Int) < p.to + p.n then bV (p.A (p.f + i - p.t)) else bV (p.B i)
structure Va (p : Pm) : Prop where
  hf : p.fr = (p.f : Int)
  ht : p.to = (p.t : Int)
  n0 : 0 ≤ p.n
  n2 : p.n ≤ 20
  fn : p.fr + p.n ≤ (p.la : Int)
  tn : p.to + p.n ≤ (p.lb : Int)
theorem rounds3 {p : Pm} {c : Cs} {W : Nat → BitVec 64} (o : Ok p c) (v : Va p) (hr : (c.sf || !c.rf) = true) (hb : Base B μ 0) (h : In3 p W) : ∀ j i, i + j = p.lb → ∀ a w, SV (p.at i W) (W0 (p.at i W)) c ((29, .oi 5) :: fs3 c) B w0 μ a w → Code.rounds Tryz.prog l3 (fun e a w => e = .exit 4 ∧ SV (p.at p.lb W) (W0 (p.at p.lb W)) c (fs3 c) B w0 μ a w) (j + 1) a w
  | 0, i, hj, a, w, s => by
    have hi : i = p.lb := by omega
    refine rounds_of (wp_mono (go (p := p.at i W) (p' := p.at i W) (Wf := W0 (p.at i W)) (Wf' := W0 (p.at i W)) hb (likeAt _ _ _ _ _) (ii := .oi 5) (v := 6) rfl rfl (fun m _ => rfl) (gx3_all c o.hc hr (p.at i W) (show ¬ i < p.lb by omega)) s) ?_)
    rintro e a' w' ⟨rfl, s2⟩
    subst hi
    exact ⟨rfl, s2⟩
  | j + 1, i, hj, a, w, s => by
    have hi : i < p.lb := by omega
    have hw := h.hC i hi
    have hn2 := v.n2
    have ht0 : 0 ≤ p.to := by rw [v.ht]; exact Int.natCast_nonneg _
    by_cases c1 : p.to ≤ (i : Int)
    · by_cases c2 : (i : Int) < p.to + p.n
      · rw [if_pos ⟨c1, c2⟩] at hw
        have hca : c.ca = true := o.ha (by have := v.fn; have := v.hf; omega)
        refine rounds_of (wp_mono (go (p := p.at i W) (p' := p.at (i + 1) W) (Wf := W0 (p.at i W)) (Wf' := W0 (p.at (i + 1) W)) hb (likeAt _ _ _ _ _) (ii := .oi 6) (v := 6) rfl rfl (fun m _ => rfl) (gC3_all c o.hc (o.hb (by omega)) hr hca (p.at i W) o.la20 o.lb20 o.tx o.ty o.tt o.s8 h.h3 h.h4 o.sY1 o.sY2 o.sY3 o.sY4 hi hw (o.rA _).1 (o.rA _).2 c1 c2 v.hf v.ht v.fn v.n2) s) ?_)
        rintro e a' w' ⟨rfl, s2⟩
        exact rounds3 o v hr hb h j (i + 1) (by omega) a' w' s2
      · rw [if_neg (fun q => c2 q.2)] at hw
        refine rounds_of (wp_mono (go (p := p.at i W) (p' := p.at (i + 1) W) (Wf := W0 (p.at i W)) (Wf' := W0 (p.at (i + 1) W)) hb (likeAt _ _ _ _ _) (ii := .oi 6) (v := 6) rfl rfl (fun m _ => rfl) (gB3_all c o.hc (o.hb (by omega)) hr (p.at i W) o.la20 o.lb20 o.tx o.ty o.tt o.s8 h.h3 h.h4 o.sY1 o.sY2 o.sY3 o.sY4 hi hw (o.rB _).1 (o.rB _).2 c1 c2 v.n0 v.n2 ht0) s) ?_)
        rintro e a' w' ⟨rfl, s2⟩
        exact rounds3 o v hr hb h j (i + 1) (by omega) a' w' s2
    · rw [if_neg (fun q => c1 q.1)] at hw
      refine rounds_of (wp_mono (go (p := p.at i W) (p' := p.at (i + 1) W) (Wf := W0 (p.at i W)) (Wf' := W0 (p.at (i + 1) W)) hb (likeAt _ _ _ _ _) (ii := .oi 6) (v := 6) rfl rfl (fun m _ => rfl) (gA3_all c o.hc (o.hb (by omega)) hr (p.at i W) o.la20 o.lb20 o.tx o.ty o.tt o.s8 h.h3 h.h4 o.sY1 o.sY2 o.sY3 o.sY4 hi hw (o.rB _).1 (o.rB _).2 c1) s) ?_)
      rintro e a' w' ⟨rfl, s2⟩
      exact rounds3 o v hr hb h j (i + 1) (by omega) a' w' s2
end
end Go.Proofs.YtbjgdfijonkomaaGreatDoor.nc
