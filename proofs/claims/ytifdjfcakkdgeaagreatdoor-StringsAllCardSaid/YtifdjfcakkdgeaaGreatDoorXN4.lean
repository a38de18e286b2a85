/-
  An abstract machine for the model: what it computes, and that it holds of every run (part 4).
-/
import Derived.Test.YtifdjfcakkdgeaaGreatDoorXN3
import Derived.KernelRfl
set_option linter.unusedVariables false
set_option linter.unusedSimpArgs false
set_option linter.unusedSectionVars false
namespace Go.X
open Go.RowKit
noncomputable def cvL (C : Cv) : List AV → List AV → Bool
  | _, [] => true
  | a :: l, a' :: l' => Bool.rec false (cvL C l l') (cvV C a a')
  | [], _ :: _ => false
theorem cvL_get {C : Cv} : ∀ {l l' : List AV}, cvL C l l' = true → ∀ (m : Nat) (a' : AV), l'[m]? = some a' → ∃ a, l[m]? = some a ∧ cvV C a a' = true
  | _, [], _, m, a', h => by simp at h
  | [], _ :: _, h, _, _, _ => by simp [cvL] at h
  | a :: l, b :: l', h, m, a', hm => by
    have h' : (@Bool.rec (fun _ => Bool) false (cvL C l l') (cvV C a b)) = true := h
    cases h1 : cvV C a b with
    | false => rw [h1] at h'; cases h'
    | true =>
      rw [h1] at h'
      cases m with
      | zero => simp at hm; subst hm; exact ⟨a, rfl, h1⟩
      | succ m => simpa using cvL_get h' m a' (by simpa using hm)
theorem vpPre {T T' : Tab} {C : Cv} (hip : IpOk T T' C.ip) {i i' b c : Nat} {L L' : List AV} (h1 : T.vv i = pv b c L) (h2 : T'.vv i' = pv b c L') (hr : T.rv = T'.rv) (hk : T'.vk i' ≤ T.vk i) (hl : cvL C L L' = true) :
    own (.vec i) = true ∧ ∀ μ l w, @brel T μ (.vec i) l w → @brel T' (ren C.N0 C.rn μ) (.vec i') l w := by
  refine ⟨rfl, fun μ l w hb => ?_⟩
  obtain ⟨arr, el, fz, g1, g2, g3, g4, g5⟩ := hb
  refine ⟨arr, el, fz, g1, g2, g3, Nat.le_trans (Nat.add_le_add_left hk _) g4, fun m a ha => ?_⟩
  rw [h2] at ha
  rw [h1] at g5
  by_cases c1 : m < b
  · rw [pv_lo c1] at ha
    cases ha
    obtain ⟨v, k1, k2⟩ := g5 m _ (pv_lo c1)
    refine ⟨v, k1, ?_⟩
    simp only [vrel] at k2 ⊢
    rw [← hr]; exact k2
  · obtain ⟨q, rfl⟩ : ∃ q, m = b + q := ⟨m - b, by omega⟩
    rw [pv_hi] at ha
    obtain ⟨a0, k1, k2⟩ := cvL_get hl q a ha
    obtain ⟨v, k3, k4⟩ := g5 (b + q) a0 (by rw [pv_hi]; exact k1)
    exact ⟨v, k3, cvV_sound hip k2 k4⟩
def Kp.also (B : Kp) (E : Nat → Prop) : Kp := ⟨fun j => B.kept j ∨ E j, B.glob, fun j h => .inl (B.sub j h), B.res⟩
variable {B : Kp} {w0 w : World} {μ μ0 : M} {h : H} {nt : Nat} {fr : Fr} {a : Act}
theorem HR.weakAt {T T' : Tab} {C : Cv} (hb : Base B μ0 C.N0) (hN : C.N0 ≤ C.N) {rl : List (Nat × Nat)} (hrl : C.rn = ofPairs rl) (hrk : okRn C rl = true) (hip : IpOk T T' C.ip) {vp : VP}
    (hvp : ∀ p ∈ vp, own p.2.1 = true ∧ ∀ l, μ p.1 = some l → @brel T μ p.2.1 l w → @brel T' (ren C.N0 C.rn μ) (.vec p.2.2) l w) {fs : List (Nat × AV)} {bs : BS} {E : Nat → Prop}
    (hE : ∀ j, E j → j < w.heap.size ∧ ∀ p ∈ bs, ∀ b l, h.get p.2.1 = some b → own b = true → μ p.2.1 = some l → l.block ≠ j)
    (hf : okFs C fr fs = true) (hh : okBs C vp h bs .leaf = true) (hx : Ext μ0 μ) (f : @FR T μ nt fr a) (r : @HR T B w0 μ h w) (hgl : ∀ w0, @Gl T (B.also E) w0 → @Gl T' (B.also E) w0) :
    Ext μ0 (ren C.N0 C.rn μ) ∧ @FR T' (ren C.N0 C.rn μ) nt (frOf fs) a ∧ @HR T' (B.also E) w (ren C.N0 C.rn μ) (hOf C.N bs) w := by
  obtain ⟨⟨e1, e2, e3, e4, e5, e6⟩, eg, eres, eblk, esep⟩ := @HR.parts B w0 w T μ h r
  obtain ⟨hm, hpw⟩ := okBs_mem hh
  have key : ∀ x b', (hOf C.N bs).get x = some b' → ∃ o b, (x, o, b') ∈ bs ∧ x < C.N ∧ nm C.N0 C.rn o x = true ∧ h.get o = some b ∧ own b = true ∧ own b' = true ∧ ∀ l, μ o = some l → @brel T μ b l w → @brel T' (ren C.N0 C.rn μ) b' l w := by
    intro x b' hx
    have hx' : (ofPairs (bsOf bs)).get x = some b' := by unfold hOf at hx; rw [fT_eq] at hx; exact hx
    have h1 := ofPairs_get (fun p hp => by obtain ⟨o, ho⟩ := bsOf_mem hp; exact (hm _ ho).2.2.1) hx'
    obtain ⟨o, ho⟩ := bsOf_mem h1
    have ho : (x, o, b') ∈ bs := ho
    obtain ⟨_, g1, _, g4, b, g2, g3⟩ := hm _ ho
    refine ⟨o, b, ho, g1, g4, g2, ?_⟩
    rcases g3 with g3 | ⟨i, g3, g4⟩
    · have := cvB_own g3
      exact ⟨this.1, this.2, fun l _ hl => cvB_sound hip g3 hl⟩
    · have := hvp _ g4
      have g3 : b' = .vec i := g3
      subst g3
      exact ⟨this.1, rfl, fun l hμ hl => this.2 l hμ hl⟩
  have eg2 : @Gl T (B.also E) w := ⟨fun g o a hg => let ⟨h1, v, h2, h3⟩ := @Keeps.glbs T B w0 w (@HR.below T B w0 μ h w r) g o a hg; ⟨.inl h1, v, h2, h3⟩, fun i m a hg => let ⟨h1, v, h2, h3⟩ := @Keeps.frgn T B w0 w (@HR.below T B w0 μ h w r) i m a hg; ⟨.inl h1, v, h2, h3⟩⟩
  refine ⟨fun x l hl => ?_, ⟨f.1, f.2.1, fun t v ht => ?_⟩, ⟨⟨rfl, rfl, rfl, Nat.le_refl _, fun _ _ => rfl, ?_, hgl _ eg2⟩, fun x hx' => ?_, fun x hr => ?_, fun x b' hb' => ?_, fun x y b c l k hx' hy hne ho ho2 hl hk => ?_⟩⟩
  · unfold ren; rw [if_pos (hb.names x l hl)]; exact hx x l hl
  · have hm := okFs_mem hf
    have := ofPairs_get (fun p hp => (hm p hp).1) ht
    obtain ⟨_, u, g1, g2⟩ := hm _ this
    obtain ⟨v', e1, e2⟩ := f.2.2 t u g1
    exact ⟨v', e1, cvV_sound hip g2 e2⟩
  · rintro k (hk | hk)
    · exact Nat.lt_of_lt_of_le (e6 k hk) e4
    · exact (hE k hk).1
  · have hx2 : C.N ≤ x := by unfold hOf at hx'; rw [fT_eq] at hx'; exact hx'
    refine ⟨?_, ?_⟩
    · cases hg : (hOf C.N bs).get x with
      | none => rfl
      | some b => obtain ⟨_, _, _, h1, _⟩ := key x b hg; omega
    · unfold ren
      rw [if_neg (by omega)]
      cases hg : C.rn.get x with
      | none => rfl
      | some y =>
        rw [hrl] at hg
        have h1 := okRn_mem hrk
        have h2 := ofPairs_get (fun p hp => (h1 p hp).2) hg
        have h3 := (h1 _ h2).1
        dsimp only at h3
        omega
  · have := hb.res x hr
    refine ⟨by unfold hOf; rw [fT_eq]; show x < C.N; omega, ?_⟩
    unfold ren
    rw [if_pos this]
    exact (eres x hr).2
  · obtain ⟨o, b, m1, g1, g0, g2, g3, g4, g5⟩ := key x b' hb'
    obtain ⟨l, k1, k2, _, k4⟩ := eblk o b g2
    refine ⟨l, nm_sound g0 k1, fun _ => ?_, fun e => (by rw [g4] at e; cases e), g5 l k1 k4⟩
    rintro (hk | hk)
    · exact k2 g3 hk
    · exact (hE _ hk).2 _ m1 b l g2 g3 k1 rfl
  · obtain ⟨o1, b1, m1, _, n1, g2, g3, _⟩ := key x b hx'
    obtain ⟨o2, c1, m2, _, n2, k2, k3, _⟩ := key y c hy
    have hne2 : o1 ≠ o2 := by
      intro e
      have : ∀ p ∈ bs, ∀ q ∈ bs, p ≠ q → p.2.1 ≠ q.2.1 := pw_all hpw
      exact this _ m1 _ m2 (fun e => hne (by injection e)) e
    exact esep o1 o2 b1 c1 l k g2 k2 hne2 g3 k3 (nm_of n1 hl) (nm_of n2 hk)
theorem HR.weakIn {T T' : Tab} {C : Cv} (hb : Base B μ0 C.N0) (hN : C.N0 ≤ C.N) {rl : List (Nat × Nat)} (hrl : C.rn = ofPairs rl) (hrk : okRn C rl = true) (hip : IpOk T T' C.ip) {vp : VP}
    (hvp : ∀ p ∈ vp, own p.2.1 = true ∧ ∀ l, μ p.1 = some l → @brel T μ p.2.1 l w → @brel T' (ren C.N0 C.rn μ) (.vec p.2.2) l w) {fs : List (Nat × AV)} {bs : BS}
    (hf : okFs C fr fs = true) (hh : okBs C vp h bs .leaf = true) (hx : Ext μ0 μ) (f : @FR T μ nt fr a) (r : @HR T B w0 μ h w) (hgl : @Gl T B w0 → @Gl T' B w0) :
    Ext μ0 (ren C.N0 C.rn μ) ∧ @FR T' (ren C.N0 C.rn μ) nt (frOf fs) a ∧ @HR T' B w0 (ren C.N0 C.rn μ) (hOf C.N bs) w := by
  obtain ⟨⟨e1, e2, e3, e4, e5, e6⟩, eg, eres, eblk, esep⟩ := @HR.parts B w0 w T μ h r
  obtain ⟨hm, hpw⟩ := okBs_mem hh
  have key : ∀ x b', (hOf C.N bs).get x = some b' → ∃ o b, (x, o, b') ∈ bs ∧ x < C.N ∧ nm C.N0 C.rn o x = true ∧ h.get o = some b ∧ own b = true ∧ own b' = true ∧ ∀ l, μ o = some l → @brel T μ b l w → @brel T' (ren C.N0 C.rn μ) b' l w := by
    intro x b' hx
    have hx' : (ofPairs (bsOf bs)).get x = some b' := by unfold hOf at hx; rw [fT_eq] at hx; exact hx
    have h1 := ofPairs_get (fun p hp => by obtain ⟨o, ho⟩ := bsOf_mem hp; exact (hm _ ho).2.2.1) hx'
    obtain ⟨o, ho⟩ := bsOf_mem h1
    have ho : (x, o, b') ∈ bs := ho
    obtain ⟨_, g1, _, g4, b, g2, g3⟩ := hm _ ho
    refine ⟨o, b, ho, g1, g4, g2, ?_⟩
    rcases g3 with g3 | ⟨i, g3, g4⟩
    · have := cvB_own g3
      exact ⟨this.1, this.2, fun l _ hl => cvB_sound hip g3 hl⟩
    · have := hvp _ g4
      have g3 : b' = .vec i := g3
      subst g3
      exact ⟨this.1, rfl, fun l hμ hl => this.2 l hμ hl⟩
  refine ⟨fun x l hl => ?_, ⟨f.1, f.2.1, fun t v ht => ?_⟩, ⟨⟨e1, e2, e3, e4, e5, e6, hgl eg⟩, fun x hx' => ?_, fun x hr => ?_, fun x b' hb' => ?_, fun x y b c l k hx' hy hne ho ho2 hl hk => ?_⟩⟩
  · unfold ren; rw [if_pos (hb.names x l hl)]; exact hx x l hl
  · have hm := okFs_mem hf
    have := ofPairs_get (fun p hp => (hm p hp).1) ht
    obtain ⟨_, u, g1, g2⟩ := hm _ this
    obtain ⟨v', e1, e2⟩ := f.2.2 t u g1
    exact ⟨v', e1, cvV_sound hip g2 e2⟩
  · have hx2 : C.N ≤ x := by unfold hOf at hx'; rw [fT_eq] at hx'; exact hx'
    refine ⟨?_, ?_⟩
    · cases hg : (hOf C.N bs).get x with
      | none => rfl
      | some b => obtain ⟨_, _, _, h1, _⟩ := key x b hg; omega
    · unfold ren
      rw [if_neg (by omega)]
      cases hg : C.rn.get x with
      | none => rfl
      | some y =>
        rw [hrl] at hg
        have h1 := okRn_mem hrk
        have h2 := ofPairs_get (fun p hp => (h1 p hp).2) hg
        have h3 := (h1 _ h2).1
        dsimp only at h3
        omega
  · have := hb.res x hr
    refine ⟨by unfold hOf; rw [fT_eq]; show x < C.N; omega, ?_⟩
    unfold ren
    rw [if_pos this]
    exact (eres x hr).2
  · obtain ⟨o, b, m1, g1, g0, g2, g3, g4, g5⟩ := key x b' hb'
    obtain ⟨l, k1, k2, _, k4⟩ := eblk o b g2
    exact ⟨l, nm_sound g0 k1, fun _ => k2 g3, fun e => (by rw [g4] at e; cases e), g5 l k1 k4⟩
  · obtain ⟨o1, b1, m1, _, n1, g2, g3, _⟩ := key x b hx'
    obtain ⟨o2, c1, m2, _, n2, k2, k3, _⟩ := key y c hy
    have hne2 : o1 ≠ o2 := by
      intro e
      have : ∀ p ∈ bs, ∀ q ∈ bs, p ≠ q → p.2.1 ≠ q.2.1 := pw_all hpw
      exact this _ m1 _ m2 (fun e => hne (by injection e)) e
    exact esep o1 o2 b1 c1 l k g2 k2 hne2 g3 k3 (nm_of n1 hl) (nm_of n2 hk)
theorem brel_cells {T T' : Tab} {μ μ' : M} {n : Nat} {p : Bool} {z : List AV} {t : X.T AV} {l : Loc} {w w' : World} (hb : @brel T μ (.cells n p z t) l w) (hw : w'.heap[l.block]? = w.heap[l.block]?)
    (hv : ∀ i a, i < n → cellOf z t i = some a → ∀ v, @vrel T μ a v → @vrel T' μ' a v) : @brel T' μ' (.cells n p z t) l w' := by
  obtain ⟨arr, e, fz, h1, h2, h3, h4, h5, h6⟩ := hb
  refine ⟨arr, e, fz, hw.trans h1, h2, h3, h4, h5, fun i a hi ha => ?_⟩
  obtain ⟨v, k1, k2⟩ := h6 i a hi ha
  exact ⟨v, k1, hv i a hi ha v k2⟩
theorem cellOf_mem {L : List AV} (hL : L.length < 16000000) {i : Nat} {a : AV} (h : cellOf [] (T.ofList 0 .leaf L) i = some a) : a ∈ L := by
  unfold cellOf at h
  rw [T.get_ofList _ _ _ _ (by omega)] at h
  split at h
  · rename_i c
    have : i - 0 < L.length := by omega
    rw [List.getElem?_eq_getElem this] at h
    have h' : some (L[i - 0]) = some a := h
    cases h'
    exact List.getElem_mem this
  · have h' : (([] : List AV)[i % ([] : List AV).length]?) = some a := h
    simp at h'
theorem aside_of {T : Tab} (r : @HR T B w0 μ h w) {x : Nat} {b : Blk} {l : Loc} (hx : h.get x = some b) (ho : own b = true) (hl : μ x = some l) {bs : BS} (hn : ∀ p ∈ bs, p.2.1 ≠ x) :
    ∀ j, j = l.block → j < w.heap.size ∧ ∀ p ∈ bs, ∀ b l, h.get p.2.1 = some b → own b = true → μ p.2.1 = some l → l.block ≠ j := by
  rintro j rfl
  obtain ⟨⟨e1, e2, e3, e4, e5, e6⟩, eg, eres, eblk, esep⟩ := @HR.parts B w0 w T μ h r
  obtain ⟨l2, g1, g2, g3, g4⟩ := eblk x b hx
  rw [hl] at g1; cases g1
  refine ⟨g4.lt, fun p hp c k hc oc hk => ?_⟩
  exact esep p.2.1 x c b k l hc hx (hn p hp) oc ho hk hl
def cellsIn (w : World) (l : Loc) (m : Nat) : Option Value := match w.heap[l.block]? with
  | some (.cells arr _ _) => arr[l.base + m]?
  | _ => none
def snap (w : World) (LL : Nat → Loc) : Nat → Value := fun i => (cellsIn w (LL (i % 4)) (i / 4)).getD .nilIface
theorem snap_at {w : World} {LL : Nat → Loc} {c m : Nat} (hc : c < 4) : snap w LL (4 * m + c) = (cellsIn w (LL c) m).getD .nilIface := by
  unfold snap
  rw [show (4 * m + c) % 4 = c by omega, show (4 * m + c) / 4 = m by omega]
theorem cellsIn_of {w : World} {l : Loc} {arr : Array Value} {el : TypeId} {fz : Nat × Nat} {m : Nat} {v : Value} (h : w.heap[l.block]? = some (.cells arr el fz)) (hv : arr[l.base + m]? = some v) : cellsIn w l m = some v := by
  unfold cellsIn; rw [h]; exact hv
theorem vec_hide {T T' : Tab} {C : Cv} (hip : IpOk T T' C.ip) {i i' b c : Nat} {L1 L2 L2' : List AV} {l : Loc} {LL : Nat → Loc} (hc : c < 4) (h1 : T.vv i = pv b c (L1 ++ L2)) (h2 : T'.vv i' = pv (b + L1.length) c L2')
    (one : ∀ x ∈ L1, x.one = true) (hr : T'.rv = snap w LL) (hl : LL c = l) (hk : T'.vk i' ≤ T.vk i) (hcv : cvL C L2 L2' = true) (hb : @brel T μ (.vec i) l w) : @brel T' (ren C.N0 C.rn μ) (.vec i') l w := by
  obtain ⟨arr, el, fz, g1, g2, g3, g4, g5⟩ := hb
  refine ⟨arr, el, fz, g1, g2, g3, Nat.le_trans (Nat.add_le_add_left hk _) g4, fun m a ha => ?_⟩
  rw [h2] at ha
  rw [h1] at g5
  by_cases c1 : m < b + L1.length
  · rw [pv_lo c1] at ha
    cases ha
    have key : ∃ v, arr[l.base + m]? = some v ∧ oneV v = true := by
      by_cases c2 : m < b
      · obtain ⟨v, k1, k2⟩ := g5 m _ (pv_lo c2)
        simp only [vrel] at k2
        exact ⟨v, k1, k2.2⟩
      · obtain ⟨q, rfl⟩ : ∃ q, m = b + q := ⟨m - b, by omega⟩
        have hq : q < L1.length := by omega
        obtain ⟨v, k1, k2⟩ := g5 (b + q) (L1[q]) (by rw [pv_hi, List.getElem?_append_left hq, List.getElem?_eq_getElem hq])
        exact ⟨v, k1, @vrel_one T μ _ v k2 (one _ (List.getElem_mem hq))⟩
    obtain ⟨v, k1, k2⟩ := key
    refine ⟨v, k1, ?_⟩
    simp only [vrel]
    refine ⟨?_, k2⟩
    rw [hr, snap_at hc, hl, cellsIn_of g1 k1]
    rfl
  · obtain ⟨q, rfl⟩ : ∃ q, m = b + L1.length + q := ⟨m - (b + L1.length), by omega⟩
    rw [pv_hi] at ha
    obtain ⟨a0, k1, k2⟩ := cvL_get hcv q a ha
    obtain ⟨v, k3, k4⟩ := g5 (b + L1.length + q) a0 (by rw [Nat.add_assoc, pv_hi, List.getElem?_append_right (by omega)]; rw [← k1]; congr 1; omega)
    exact ⟨v, k3, cvV_sound hip k2 k4⟩
theorem vec_was {T : Tab} {i b c : Nat} {L : List AV} {l : Loc} {LL : Nat → Loc} (hc : c < 4) (h1 : T.vv i = pv b c L) (hl : LL c = l) (hb : @brel T μ (.vec i) l w) :
    (∀ m, m < b → snap w LL (4 * m + c) = T.rv (4 * m + c)) ∧ ∀ (m : Nat) (x : AV), L[m]? = some x → @vrel T μ x (snap w LL (4 * (b + m) + c)) := by
  obtain ⟨arr, el, fz, g1, g2, g3, g4, g5⟩ := hb
  rw [h1] at g5
  refine ⟨fun m hm => ?_, fun m x hx => ?_⟩
  · obtain ⟨v, k1, k2⟩ := g5 m _ (pv_lo hm)
    simp only [vrel] at k2
    rw [snap_at hc, hl, cellsIn_of g1 k1, ← k2.1]
    rfl
  · obtain ⟨v, k1, k2⟩ := g5 (b + m) x (by rw [pv_hi]; exact hx)
    rw [snap_at hc, hl, cellsIn_of g1 k1]
    exact k2
theorem vec_unhide {T1 T2 : Tab} {C : Cv} (hip : IpOk T1 T2 C.ip) {i1 i2 b c n : Nat} {L2 L1' L2' : List AV} {l : Loc} (h1 : T1.vv i1 = pv (b + n) c L2) (h2 : T2.vv i2 = pv b c (L1' ++ L2')) (hn : L1'.length = n)
    (hpre : ∀ m, m < b → T1.rv (4 * m + c) = T2.rv (4 * m + c)) (hm : ∀ (m : Nat) (x : AV), L1'[m]? = some x → @vrel T2 (ren C.N0 C.rn μ) x (T1.rv (4 * (b + m) + c))) (hk : T2.vk i2 ≤ T1.vk i1) (hcv : cvL C L2 L2' = true) (hb : @brel T1 μ (.vec i1) l w) :
    @brel T2 (ren C.N0 C.rn μ) (.vec i2) l w := by
  obtain ⟨arr, el, fz, g1, g2, g3, g4, g5⟩ := hb
  refine ⟨arr, el, fz, g1, g2, g3, Nat.le_trans (Nat.add_le_add_left hk _) g4, fun m a ha => ?_⟩
  rw [h2] at ha
  rw [h1] at g5
  by_cases c1 : m < b
  · rw [pv_lo c1] at ha
    cases ha
    obtain ⟨v, k1, k2⟩ := g5 m _ (pv_lo (by omega))
    refine ⟨v, k1, ?_⟩
    simp only [vrel] at k2 ⊢
    rw [← hpre m c1]; exact k2
  · obtain ⟨q, rfl⟩ : ∃ q, m = b + q := ⟨m - b, by omega⟩
    rw [pv_hi] at ha
    by_cases c2 : q < n
    · rw [List.getElem?_append_left (by omega)] at ha
      obtain ⟨v, k1, k2⟩ := g5 (b + q) _ (pv_lo (by omega))
      simp only [vrel] at k2
      exact ⟨v, k1, by rw [k2.1]; exact hm q a ha⟩
    · rw [List.getElem?_append_right (by omega)] at ha
      obtain ⟨a0, k1, k2⟩ := cvL_get hcv _ a ha
      obtain ⟨v, k3, k4⟩ := g5 (b + q) a0 (by rw [show b + q = b + n + (q - n) by omega, pv_hi, ← hn]; exact k1)
      exact ⟨v, k3, cvV_sound hip k2 k4⟩
theorem HR.addBack {T T1 : Tab} (r : @HR T B w0 μ h w) {b' : Blk} {l : Loc} (hBl : ¬ B.kept l.block) (hown : own b' = true) {E : Nat → Prop} (hE : E l.block) {μ1 : M} {h1 : H} {w1 : World}
    (r1 : @HR T1 (B.also E) w μ1 h1 w1) (hlim : h1.next < 16000000) (hb : @brel T1 (upm μ1 h1.next l) b' l w1) (hgl : @Gl T B w0 → @Gl T1 B w0) : @HR T1 B w0 (upm μ1 h1.next l) ⟨h1.next + 1, h1.t.put h1.next b'⟩ w1 := by
  obtain ⟨⟨e1, e2, e3, e4, e5, e6⟩, eg, eres, eblk, esep⟩ := @HR.parts B w0 w T μ h r
  have hfr := @HR.fresh T1 _ _ _ _ _ r1
  obtain ⟨⟨d1, d2, d3, d4, d5, d6⟩, dg, dres, dblk, dsep⟩ := @HR.parts (B.also E) w w1 T1 μ1 h1 r1
  have hext : Ext μ1 (upm μ1 h1.next l) := Ext.upm _ (hfr _ (Nat.le_refl _)).2
  have hget : ∀ y, (⟨h1.next + 1, h1.t.put h1.next b'⟩ : H).get y = if y = h1.next then some b' else h1.get y := fun y => _root_.Go.X.T.get_put _ _ _ _ hlim
  refine ⟨⟨d1.trans e1, d2.trans e2, d3.trans e3, Nat.le_trans e4 d4, fun k hk => (d5 k (.inl hk)).trans (e5 k hk), e6, hgl eg⟩, fun x hx => ?_, fun x hr => ?_, fun x b hx => ?_, fun x y b c k m hx hy hne ho ho2 hl hm => ?_⟩
  · have hx : h1.next + 1 ≤ x := hx
    have h2 := hfr x (by omega)
    refine ⟨by rw [hget, if_neg (by omega)]; exact h2.1, ?_⟩
    unfold upm; rw [if_neg (by omega)]; exact h2.2
  · have h2 := dres x hr
    refine ⟨by show x < h1.next + 1; omega, ?_⟩
    unfold upm; rw [if_neg (by omega)]; exact h2.2
  · rw [hget] at hx
    by_cases c1 : x = h1.next
    · rw [if_pos c1] at hx; cases hx
      refine ⟨l, by unfold upm; rw [if_pos c1], fun _ => hBl, fun e => (by rw [hown] at e; cases e), hb⟩
    · rw [if_neg c1] at hx
      obtain ⟨k, g1, g2, g3, g4⟩ := dblk x b hx
      exact ⟨k, hext _ _ g1, fun ho hk => g2 ho (.inl hk), g3, brel.ext hext g4⟩
  · rw [hget] at hx hy
    have old : ∀ z d n, z ≠ h1.next → h1.get z = some d → own d = true → upm μ1 h1.next l z = some n → n.block ≠ l.block := by
      intro z d n hz hd od hn
      unfold upm at hn; rw [if_neg hz] at hn
      obtain ⟨k, g1, g2, _⟩ := dblk z d hd
      rw [hn] at g1; cases g1
      intro e
      exact g2 od (.inr (by rw [e]; exact hE))
    by_cases c1 : x = h1.next
    · have c2 : y ≠ h1.next := fun e => hne (c1.trans e.symm)
      rw [if_neg c2] at hy
      unfold upm at hl; rw [if_pos c1] at hl; cases hl
      exact fun e => old y c m c2 hy ho2 hm e.symm
    · rw [if_neg c1] at hx
      by_cases c2 : y = h1.next
      · unfold upm at hm; rw [if_pos c2] at hm; cases hm
        exact old x b k c1 hx ho hl
      · rw [if_neg c2] at hy
        unfold upm at hl hm; rw [if_neg c1] at hl; rw [if_neg c2] at hm
        exact dsep x y b c k m hx hy hne ho ho2 hl hm
end Go.X
set_option linter.unusedVariables false
set_option linter.unusedSimpArgs false
set_option linter.unusedSectionVars false
namespace Go.X
open Go.RowKit
variable {P : Program} {B : Kp} {w0 w : World} {μ μ0 : M} {h : H} {nt : Nat} {fr : Fr} {a : Act}
theorem St.rebase {T : Tab} (hb : Base B μ0 h.next) (s : St T B w0 μ0 nt fr h a w) : ∃ μ, Ext μ0 μ ∧ Base B μ h.next ∧ St T B w0 μ nt fr h a w ∧ ∀ x b, h.get x = some b → ∃ l, μ x = some l := by
  obtain ⟨μ, hx, f, r⟩ := s
  refine ⟨μ, hx, ⟨fun x l hl => ?_, hb.res⟩, ⟨μ, Ext.refl _, f, r⟩, fun x b hg => ?_⟩
  · by_cases c : x < h.next
    · exact c
    · have := (@HR.fresh T _ _ _ _ _ r x (by omega)).2
      rw [this] at hl; cases hl
  · obtain ⟨l, g, _⟩ := @HR.blk T _ _ _ _ _ r x b hg
    exact ⟨l, g⟩
theorem Done.ext [Tab] {fn : Func} {v : AV} {h' : H} {e : Exit} (hx : Ext μ0 μ) (d : Done P fn B w0 μ v h' e a w) : Done P fn B w0 μ0 v h' e a w := by
  obtain ⟨h1, h2, v', μ', h3, h4, h5, h6⟩ := d
  exact ⟨h1, h2, v', μ', h3, hx.trans h4, h5, h6⟩
theorem vpCells {T T' : Tab} {C : Cv} (hip : IpOk T T' C.ip) {i' c n : Nat} {q : Bool} {L L' : List AV} (hn : n = L.length) (h2 : T'.vv i' = pv 0 c L') (hlen : L.length < 16000000) (hk : T'.vk i' ≤ n) (hl : cvL C L L' = true) :
    own (.cells n q [] (X.T.ofList 0 .leaf L)) = true ∧ ∀ μ l w, @brel T μ (.cells n q [] (X.T.ofList 0 .leaf L)) l w → @brel T' (ren C.N0 C.rn μ) (.vec i') l w := by
  refine ⟨rfl, fun μ l w hb => ?_⟩
  obtain ⟨arr, el, fz, g1, g2, g3, g4, _, g5⟩ := hb
  refine ⟨arr, el, fz, g1, g2, g3, Nat.le_trans (Nat.add_le_add_left hk _) g4, fun m a ha => ?_⟩
  rw [h2] at ha
  have ha' : L'[m]? = some a := by
    have := pv_hi (b := 0) (c := c) (l := L') m
    rw [Nat.zero_add] at this
    rw [this] at ha; exact ha
  obtain ⟨a0, k1, k2⟩ := cvL_get hl m a ha'
  have hm : m < L.length := (List.getElem?_eq_some_iff.1 k1).1
  obtain ⟨v, k3, k4⟩ := g5 m a0 (by omega) (by
    unfold cellOf
    rw [X.T.get_ofList _ _ _ _ (by omega), if_pos ⟨Nat.zero_le _, by omega⟩, Nat.sub_zero, k1])
  exact ⟨v, k3, cvV_sound hip k2 k4⟩
end Go.X
set_option linter.unusedVariables false
set_option linter.unusedSimpArgs false
set_option linter.unusedSectionVars false
namespace Go.X
open Go.RowKit
def pvg (g : Nat → Option AV) (b : Nat) (l : List AV) : Nat → Option AV := fun m => if m < b then g m else l[m - b]?
theorem pvg_lo {g : Nat → Option AV} {b : Nat} {l : List AV} {m : Nat} (h : m < b) : pvg g b l m = g m := by unfold pvg; rw [if_pos h]
theorem pvg_hi {g : Nat → Option AV} {b : Nat} {l : List AV} (o : Nat) : pvg g b l (b + o) = l[o]? := by unfold pvg; rw [if_neg (by omega)]; congr 1; omega
theorem pvg_plainB {g : Nat → Option AV} {b : Nat} {l : List AV} (hg : ∀ m a, g m = some a → vplain a = true) (h : l.all vplain = true) {m : Nat} {a : AV} (e : pvg g b l m = some a) : vplain a = true := by
  unfold pvg at e
  split at e
  · exact hg m a e
  · exact List.all_eq_true.1 h a (List.mem_of_getElem? e)
def noG : Nat → Option AV := fun _ => none
theorem noG_plain : ∀ m a, noG m = some a → vplain a = true := fun m a h => by cases h
variable {iv : Nat → IntKind × Int} {vv : Nat → Nat → Option AV} {vk : Nat → Nat}
theorem vlG {r : VL} {g : Nat → Option AV} {k b o : Nat} {L : List AV} (hk : iv r.k = (.i64, (k : Int))) (hv : vv r.i = pvg g b L) (ho : k * r.z + r.f = b + o) (hl : r.l = (L.drop o).take r.l.length) : VlOk iv vv r := by
  refine ⟨by rw [hk]; exact ⟨rfl, Int.natCast_nonneg _⟩, fun m x hx => ⟨x, ?_, .inl rfl⟩⟩
  have e1 : (iv r.k).2.toNat = k := by rw [hk]; simp
  rw [e1, hv, ho, Nat.add_assoc, pvg_hi]
  rw [hl, List.getElem?_take] at hx
  split at hx
  · rw [List.getElem?_drop] at hx; exact hx
  · cases hx
theorem vsG {r : VS} {g : Nat → Option AV} {k b o : Nat} {L L' : List AV} (hk : iv r.k = (.i64, (k : Int))) (hv : vv r.i = pvg g b L) (hv' : vv r.i' = pvg g b L') (h1 : vk r.i = pk b L) (h2 : vk r.i' = pk b L') (ho : k * r.z + r.f = b + o)
    (hL : L' = L.take o ++ (r.l ++ L.drop (o + r.l.length))) (hlen : o + r.l.length ≤ L.length) : VsOk iv vv vk r := by
  have e1 : (iv r.k).2.toNat = k := by rw [hk]; simp
  have hl' : L'.length = L.length := by rw [hL]; simp; omega
  refine ⟨by rw [hk]; exact ⟨rfl, Int.natCast_nonneg _⟩, by rw [e1, h1, ho]; unfold pk; omega, by rw [h1, h2]; unfold pk; omega, fun m a ha => ⟨a, ?_, .inl rfl⟩⟩
  rw [e1, ho]
  rw [hv'] at ha
  by_cases c1 : m < b
  · rw [if_neg (by omega), hv, pvg_lo c1]
    rw [pvg_lo c1] at ha; exact ha
  · obtain ⟨q, rfl⟩ : ∃ q, m = b + q := ⟨m - b, by omega⟩
    rw [pvg_hi, hL] at ha
    by_cases c2 : q < o
    · rw [if_neg (by omega), hv, pvg_hi]
      rw [List.getElem?_append_left (by simp; omega), List.getElem?_take, if_pos c2] at ha
      exact ha
    · have h3 : (L.take o).length = o := by simp; omega
      rw [List.getElem?_append_right (by omega), h3] at ha
      by_cases c3 : q < o + r.l.length
      · rw [if_pos (by omega)]
        rw [List.getElem?_append_left (by omega)] at ha
        rw [← ha]; congr 1; omega
      · rw [if_neg (by omega), hv, pvg_hi]
        rw [List.getElem?_append_right (by omega), List.getElem?_drop] at ha
        rw [← ha]; congr 1; omega
theorem vaG {r : VA} {g : Nat → Option AV} {j j' b o : Nat} {L L' : List AV} (hj : iv r.j = (.i64, (j : Int))) (hj' : iv r.j' = (.i64, (j' : Int))) (hv : vv r.i = pvg g b L) (hv' : vv r.i' = pvg g b L') (h2 : vk r.i' = pk b L') (ho : j * r.z = b + o) (ho' : j' * r.z = b + o + r.src.length)
    (hL : L' = L.take o ++ r.src) (hlen : o ≤ L.length) (hlim : j' < limit) : VaOk iv vv vk r := by
  have e1 : (iv r.j).2.toNat = j := by rw [hj]; simp
  have e2 : (iv r.j').2.toNat = j' := by rw [hj']; simp
  have h3 : (L.take o).length = o := by simp; omega
  have hl' : L'.length = o + r.src.length := by rw [hL, List.length_append, h3]
  refine ⟨by rw [hj]; exact ⟨rfl, Int.natCast_nonneg _⟩, by rw [hj']; exact ⟨rfl, Int.natCast_nonneg _⟩, by rw [e1, e2, ho, ho'], by rw [e2]; exact hlim, by rw [h2, e2, ho']; unfold pk; omega, fun m a ha => ⟨a, ?_, .inl rfl⟩⟩
  rw [e1, ho]
  rw [hv'] at ha
  by_cases c1 : m < b
  · rw [if_pos (by omega), hv, pvg_lo c1]
    rw [pvg_lo c1] at ha; exact ha
  · obtain ⟨q, rfl⟩ : ∃ q, m = b + q := ⟨m - b, by omega⟩
    rw [pvg_hi, hL] at ha
    by_cases c2 : q < o
    · rw [if_pos (by omega), hv, pvg_hi]
      rw [List.getElem?_append_left (by omega), List.getElem?_take, if_pos c2] at ha
      exact ha
    · rw [if_neg (by omega)]
      rw [List.getElem?_append_right (by omega), h3] at ha
      rw [← ha]; congr 1; omega
theorem vpG0 {T T' : Tab} {C : Cv} (hip : IpOk T T' C.ip) {i i' b b' : Nat} {g : Nat → Option AV} {L L' : List AV} (h1 : T.vv i = pvg g b L) (h2 : T'.vv i' = pvg g b' L') (hb' : b ≤ b')
    (hg : ∀ m a, g m = some a → ∃ k n, a = .int k n) (hk : T'.vk i' ≤ T.vk i)
    (hn : ∀ m a, b ≤ m → m < b' → g m = some a → ∃ x, L[m - b]? = some x ∧ ∀ μ v, @vrel T μ x v → @vrel T' μ a v)
    (hl : cvL C (L.drop (b' - b)) L' = true) :
    own (.vec i) = true ∧ ∀ μ l w, @brel T μ (.vec i) l w → @brel T' (ren C.N0 C.rn μ) (.vec i') l w := by
  refine ⟨rfl, fun μ l w hb => ?_⟩
  obtain ⟨arr, el, fz, g1, g2, g3, g4, g5⟩ := hb
  refine ⟨arr, el, fz, g1, g2, g3, Nat.le_trans (Nat.add_le_add_left hk _) g4, fun m a ha => ?_⟩
  rw [h2] at ha
  rw [h1] at g5
  by_cases c1 : m < b'
  · rw [pvg_lo c1] at ha
    obtain ⟨k, n, rfl⟩ := hg m a ha
    by_cases c2 : m < b
    · obtain ⟨v, k1, k2⟩ := g5 m _ (by rw [pvg_lo c2]; exact ha)
      refine ⟨v, k1, ?_⟩
      simp only [vrel] at k2 ⊢
      exact k2
    · obtain ⟨x, hx, hr⟩ := hn m _ (by omega) c1 ha
      obtain ⟨v, k1, k2⟩ := g5 m x (by
        obtain ⟨q, rfl⟩ : ∃ q, m = b + q := ⟨m - b, by omega⟩
        rw [pvg_hi]; rw [show b + q - b = q by omega] at hx; exact hx)
      have := hr _ _ k2
      simp only [vrel] at this ⊢
      exact ⟨v, k1, this⟩
  · obtain ⟨q, rfl⟩ : ∃ q, m = b' + q := ⟨m - b', by omega⟩
    rw [pvg_hi] at ha
    obtain ⟨a0, k1, k2⟩ := cvL_get hl q a ha
    rw [List.getElem?_drop] at k1
    obtain ⟨v, k3, k4⟩ := g5 (b' + q) a0 (by
      rw [show b' + q = b + (b' - b + q) by omega, pvg_hi]; exact k1)
    exact ⟨v, k3, cvV_sound hip k2 k4⟩
theorem vpG {T T' : Tab} {C : Cv} (hip : IpOk T T' C.ip) {i i' b : Nat} (q : Nat) {g : Nat → Option AV} {L L' : List AV} (h1 : T.vv i = pvg g b L) (h2 : T'.vv i' = pvg g (b + q) L')
    (hg : ∀ m a, g m = some a → ∃ k n, a = .int k n) (hk : T'.vk i' ≤ T.vk i)
    (hn : ∀ m a, m < q → g (b + m) = some a → ∃ x, L[m]? = some x ∧ ∀ μ v, @vrel T μ x v → @vrel T' μ a v)
    (hl : cvL C (L.drop q) L' = true) :
    own (.vec i) = true ∧ ∀ μ l w, @brel T μ (.vec i) l w → @brel T' (ren C.N0 C.rn μ) (.vec i') l w :=
  vpG0 hip h1 h2 (Nat.le_add_right _ _) hg hk (fun m a e1 e2 e3 => by
    obtain ⟨p, rfl⟩ : ∃ p, m = b + p := ⟨m - b, by omega⟩
    rw [show b + p - b = p by omega]
    exact hn p a (by omega) e3) (by rw [show b + q - b = q by omega]; exact hl)
theorem noG_int : ∀ m a, noG m = some a → ∃ k n, a = AV.int k n := fun m a h => by cases h
theorem vpCellsG {T T' : Tab} {C : Cv} (hip : IpOk T T' C.ip) {i' b' n : Nat} {q : Bool} {g : Nat → Option AV} {L L' : List AV} (hn : n = L.length) (h2 : T'.vv i' = pvg g b' L') (hlen : L.length < 16000000) (hk : T'.vk i' ≤ n) (hb : b' ≤ L.length)
    (hg : ∀ m a, g m = some a → ∃ k n, a = .int k n) (hn' : ∀ m a, m < b' → g m = some a → ∃ x, L[m]? = some x ∧ ∀ μ v, @vrel T μ x v → @vrel T' μ a v) (hl : cvL C (L.drop b') L' = true) :
    own (.cells n q [] (X.T.ofList 0 .leaf L)) = true ∧ ∀ μ l w, @brel T μ (.cells n q [] (X.T.ofList 0 .leaf L)) l w → @brel T' (ren C.N0 C.rn μ) (.vec i') l w := by
  refine ⟨rfl, fun μ l w hb_ => ?_⟩
  obtain ⟨arr, el, fz, g1, g2, g3, g4, _, g5⟩ := hb_
  refine ⟨arr, el, fz, g1, g2, g3, Nat.le_trans (Nat.add_le_add_left hk _) g4, fun m a ha => ?_⟩
  rw [h2] at ha
  have cell : ∀ m x, L[m]? = some x → ∃ v, arr[l.base + m]? = some v ∧ @vrel T μ x v := by
    intro m x hx
    have hm : m < L.length := (List.getElem?_eq_some_iff.1 hx).1
    obtain ⟨v, k3, k4⟩ := g5 m x (by omega) (by
      unfold cellOf
      rw [X.T.get_ofList _ _ _ _ (by omega), if_pos ⟨Nat.zero_le _, by omega⟩, Nat.sub_zero, hx])
    exact ⟨v, k3, k4⟩
  by_cases c1 : m < b'
  · rw [pvg_lo c1] at ha
    obtain ⟨k, n, rfl⟩ := hg m a ha
    obtain ⟨x, hx, hr⟩ := hn' m _ c1 ha
    obtain ⟨v, k1, k2⟩ := cell m x hx
    have := hr _ _ k2
    simp only [vrel] at this ⊢
    exact ⟨v, k1, this⟩
  · obtain ⟨q, rfl⟩ : ∃ q, m = b' + q := ⟨m - b', by omega⟩
    rw [pvg_hi] at ha
    obtain ⟨a0, k1, k2⟩ := cvL_get hl q a ha
    rw [List.getElem?_drop] at k1
    obtain ⟨v, k3, k4⟩ := cell (b' + q) a0 k1
    exact ⟨v, k3, cvV_sound hip k2 k4⟩
end Go.X
set_option linter.unusedVariables false
set_option linter.unusedSimpArgs false
set_option linter.unusedSectionVars false
namespace Go.X
open Go.RowKit
def pvw (L : List AV) (n : Nat) (W : Nat → BitVec 64) : Nat → Option AV := fun m => if m < L.length then L[m]? else if m < n then some (.int .u64 (wI (W (m - L.length)))) else none
theorem pvw_lo {L : List AV} {n : Nat} {W : Nat → BitVec 64} {m : Nat} (h : m < L.length) : pvw L n W m = L[m]? := by unfold pvw; rw [if_pos h]
theorem pvw_hi {L : List AV} {n : Nat} {W : Nat → BitVec 64} {q : Nat} (h : L.length + q < n) : pvw L n W (L.length + q) = some (.int .u64 (wI (W q))) := by
  unfold pvw; rw [if_neg (by omega), if_pos h, show L.length + q - L.length = q by omega]
theorem pvw_cases {L : List AV} {n : Nat} {W : Nat → BitVec 64} {m : Nat} {a : AV} (h : pvw L n W m = some a) : (m < L.length ∧ L[m]? = some a) ∨ ∃ q, m = L.length + q ∧ m < n ∧ a = .int .u64 (wI (W q)) := by
  unfold pvw at h
  split at h
  · exact .inl ⟨by assumption, h⟩
  · split at h
    · cases h; exact .inr ⟨m - L.length, by omega, by assumption, rfl⟩
    · cases h
theorem pvw_plain {L : List AV} {n : Nat} {W : Nat → BitVec 64} (h : L.all vplain = true) {m : Nat} {a : AV} (e : pvw L n W m = some a) : vplain a = true := by
  rcases pvw_cases e with ⟨_, e⟩ | ⟨_, _, _, rfl⟩
  · exact List.all_eq_true.1 h a (List.mem_of_getElem? e)
  · rfl
variable {iv : Nat → IntKind × Int} {vv : Nat → Nat → Option AV} {vk : Nat → Nat}
theorem vlW1 {r : VL} {L : List AV} {n : Nat} {W : Nat → BitVec 64} {k : Nat} {x : AV} (hk : iv r.k = (.i64, (k : Int))) (hv : vv r.i = pvw L n W) (hz : r.z = 1) (hf : r.f = 0) (hl : r.l = [x]) (hx : L[k]? = some x) : VlOk iv vv r := by
  refine ⟨by rw [hk]; exact ⟨rfl, by simp⟩, fun m b hb => ?_⟩
  rw [hl] at hb
  have hm : m = 0 := by
    have := (List.getElem?_eq_some_iff.1 hb).1
    simpa using this
  subst hm
  cases hb
  have e1 : (iv r.k).2.toNat = k := by rw [hk]; simp
  have hlt : k < L.length := (List.getElem?_eq_some_iff.1 hx).1
  rw [e1, hz, hf, hv, show k * 1 + 0 + 0 = k by omega, pvw_lo hlt]
  exact ⟨_, hx, .inl rfl⟩
theorem vlW2 {r : VL} {L : List AV} {n : Nat} {W : Nat → BitVec 64} {k q y : Nat} (hk : iv r.k = (.i64, (k : Int))) (hv : vv r.i = pvw L n W) (hz : r.z = 1) (hf : r.f = 0) (hl : r.l = [.oi y]) (h1 : k = L.length + q) (h2 : k < n) (hy : iv y = (.u64, wI (W q))) : VlOk iv vv r := by
  refine ⟨by rw [hk]; exact ⟨rfl, by simp⟩, fun m b hb => ?_⟩
  rw [hl] at hb
  have hm : m = 0 := by
    have := (List.getElem?_eq_some_iff.1 hb).1
    simpa using this
  subst hm
  cases hb
  have e1 : (iv r.k).2.toNat = k := by rw [hk]; simp
  rw [e1, hz, hf, hv, show k * 1 + 0 + 0 = L.length + q by omega, pvw_hi (by omega)]
  exact ⟨_, rfl, .inr ⟨_, rfl, by show some (iv y) = _; rw [hy]⟩⟩
theorem vsW2 {r : VS} {L : List AV} {n : Nat} {W W' : Nat → BitVec 64} {k q : Nat} {x : AV} (hk : iv r.k = (.i64, (k : Int))) (hv : vv r.i = pvw L n W) (hv' : vv r.i' = pvw L n W') (h3 : vk r.i = n) (h4 : vk r.i' = n) (hz : r.z = 1) (hf : r.f = 0) (hl : r.l = [x]) (h1 : k = L.length + q) (h2 : k < n) (hx : denI iv x = some (.u64, wI (W' q))) (hw : ∀ m, m ≠ q → W' m = W m) : VsOk iv vv vk r := by
  have e1 : (iv r.k).2.toNat = k := by rw [hk]; simp
  refine ⟨by rw [hk]; exact ⟨rfl, by simp⟩, by rw [e1, hl, h3, hz, hf]; simp; omega, by rw [h3, h4]; exact Nat.le_refl _, fun m a ha => ?_⟩
  rw [hv'] at ha
  rw [e1, hl, hz, hf, hv]
  by_cases c : m = k
  · subst c
    rcases pvw_cases ha with ⟨c2, _⟩ | ⟨q', e2, _, rfl⟩
    · omega
    · obtain rfl : q' = q := by omega
      refine ⟨x, ?_, .inr ⟨_, hx, rfl⟩⟩
      rw [if_pos (by simp)]
      simp
  · rw [if_neg (by simp; omega)]
    rcases pvw_cases ha with ⟨c2, c3⟩ | ⟨q', rfl, c4, rfl⟩
    · rw [pvw_lo c2]; exact ⟨_, c3, .inl rfl⟩
    · rw [pvw_hi c4]
      exact ⟨_, rfl, .inl (by rw [hw q' (by omega)])⟩
theorem vzW {r : VZ} {L : List AV} {a b c : Nat} {W W' : Nat → BitVec 64} (ha : iv r.j = (.i64, (a : Int))) (hc : iv r.k = (.i64, (c : Int))) (hb : iv r.j' = (.i64, (b : Int))) (h0 : vv r.i = pvw L a W) (h1 : vv r.i' = pvw L b W') (hk : vk r.i' = b) (hz : r.z = 1) (hzc : r.zc = [.int .u64 0])
    (hA : b = a + c) (hl : b < 1000000) (hL : L.length ≤ a) (he : ∀ m, L.length + m < a → W' m = W m) (hs : ∀ m, a ≤ L.length + m → W' m = 0) : VzOk iv vv vk r := by
  refine ⟨by rw [ha]; exact ⟨rfl, by simp⟩, by rw [hc]; exact ⟨rfl, by simp⟩, by rw [hb]; exact ⟨rfl, by simp⟩, by rw [ha, hb, hc, hA]; simp, by rw [hb]; simpa [limit] using hl, by rw [hb, hk, hz]; simp, ?_⟩
  intro m x hx
  rw [h1] at hx
  rw [ha, hb, hz, hzc]
  simp only [Int.toNat_natCast, Nat.mul_one]
  rcases pvw_cases hx with ⟨c2, c3⟩ | ⟨q, rfl, c4, rfl⟩
  · refine ⟨by omega, x, ?_, .inl rfl⟩
    rw [if_pos (by omega), h0, pvw_lo c2]; exact c3
  · refine ⟨c4, ?_⟩
    by_cases d : L.length + q < a
    · exact ⟨_, by rw [if_pos d, h0, pvw_hi d], .inl (by rw [he q d])⟩
    · rw [if_neg d]
      exact ⟨.int .u64 0, by simp [Nat.mod_one], .inl (by rw [hs q (by omega)]; rfl)⟩
theorem vpW {T T' : Tab} {C : Cv} (hip : IpOk T T' C.ip) {i i' n n' : Nat} {L L' : List AV} {W W' : Nat → BitVec 64} (h1 : T.vv i = pvw L n W) (h2 : T'.vv i' = pvw L' n' W') (hk : T'.vk i' ≤ T.vk i) (hn : n' ≤ n) (hL : L.length ≤ L'.length) (hLn : L'.length ≤ n)
    (hl : cvL C L (L'.take L.length) = true) (hm : ∀ q x, L'[L.length + q]? = some x → ∀ μ v, v = Value.int .u64 (wI (W q)) → @vrel T' μ x v) (hw : ∀ q, L'.length + q < n' → W' q = W (L'.length - L.length + q)) :
    own (.vec i) = true ∧ ∀ μ l w, @brel T μ (.vec i) l w → @brel T' (ren C.N0 C.rn μ) (.vec i') l w := by
  refine ⟨rfl, fun μ l w hb => ?_⟩
  obtain ⟨arr, el, fz, g1, g2, g3, g4, g5⟩ := hb
  refine ⟨arr, el, fz, g1, g2, g3, Nat.le_trans (Nat.add_le_add_left hk _) g4, fun m a ha => ?_⟩
  rw [h2] at ha
  rw [h1] at g5
  rcases pvw_cases ha with ⟨c2, c3⟩ | ⟨q, rfl, c4, rfl⟩
  · by_cases d : m < L.length
    · obtain ⟨a0, k1, k2⟩ := cvL_get hl m a (by rw [List.getElem?_take, if_pos d]; exact c3)
      obtain ⟨v, k3, k4⟩ := g5 m a0 (by rw [pvw_lo d]; exact k1)
      exact ⟨v, k3, cvV_sound hip k2 k4⟩
    · obtain ⟨q, rfl⟩ : ∃ q, m = L.length + q := ⟨m - L.length, by omega⟩
      obtain ⟨v, k3, k4⟩ := g5 _ _ (pvw_hi (L := L) (W := W) (q := q) (by omega))
      simp only [vrel] at k4
      exact ⟨v, k3, hm q a c3 _ v k4⟩
  · obtain ⟨v, k3, k4⟩ := g5 _ _ (pvw_hi (L := L) (W := W) (q := L'.length - L.length + q) (by omega))
    rw [show L.length + (L'.length - L.length + q) = L'.length + q by omega] at k3
    refine ⟨v, k3, ?_⟩
    simp only [vrel] at k4 ⊢
    rw [hw q c4]; exact k4
theorem vpWcells {T T' : Tab} {C : Cv} (hip : IpOk T T' C.ip) {i' n : Nat} {q : Bool} {L L' : List AV} {W' : Nat → BitVec 64} (hn : n = L.length) (h2 : T'.vv i' = pvw L' n W') (hlen : L.length < 16000000) (hk : T'.vk i' ≤ n) (hL : L'.length = n) (hl : cvL C L L' = true) :
    own (.cells n q [] (X.T.ofList 0 .leaf L)) = true ∧ ∀ μ l w, @brel T μ (.cells n q [] (X.T.ofList 0 .leaf L)) l w → @brel T' (ren C.N0 C.rn μ) (.vec i') l w := by
  refine ⟨rfl, fun μ l w hb_ => ?_⟩
  obtain ⟨arr, el, fz, g1, g2, g3, g4, _, g5⟩ := hb_
  refine ⟨arr, el, fz, g1, g2, g3, Nat.le_trans (Nat.add_le_add_left hk _) g4, fun m a ha => ?_⟩
  rw [h2] at ha
  rcases pvw_cases ha with ⟨c2, c3⟩ | ⟨q, rfl, c4, rfl⟩
  · obtain ⟨a0, k1, k2⟩ := cvL_get hl m a c3
    have hm : m < L.length := (List.getElem?_eq_some_iff.1 k1).1
    obtain ⟨v, k3, k4⟩ := g5 m a0 (by omega) (by
      unfold cellOf
      rw [X.T.get_ofList _ _ _ _ (by omega), if_pos ⟨Nat.zero_le _, by omega⟩, Nat.sub_zero, k1])
    exact ⟨v, k3, cvV_sound hip k2 k4⟩
  · omega
end Go.X
set_option linter.unusedVariables false
set_option linter.unusedSimpArgs false
set_option linter.unusedSectionVars false
namespace Go.X
open Go.RowKit
def pvn (L : List AV) (n : Nat) (F : Nat → Int) : Nat → Option AV := fun m => if m < L.length then L[m]? else if m < n then some (.int .i64 (F (m - L.length))) else none
theorem pvn_lo {L : List AV} {n : Nat} {F : Nat → Int} {m : Nat} (h : m < L.length) : pvn L n F m = L[m]? := by unfold pvn; rw [if_pos h]
theorem pvn_hi {L : List AV} {n : Nat} {F : Nat → Int} {q : Nat} (h : L.length + q < n) : pvn L n F (L.length + q) = some (.int .i64 (F q)) := by
  unfold pvn; rw [if_neg (by omega), if_pos h, show L.length + q - L.length = q by omega]
theorem pvn_cases {L : List AV} {n : Nat} {F : Nat → Int} {m : Nat} {a : AV} (h : pvn L n F m = some a) : (m < L.length ∧ L[m]? = some a) ∨ ∃ q, m = L.length + q ∧ m < n ∧ a = .int .i64 (F q) := by
  unfold pvn at h
  split at h
  · exact .inl ⟨by assumption, h⟩
  · split at h
    · cases h; exact .inr ⟨m - L.length, by omega, by assumption, rfl⟩
    · cases h
theorem pvn_plain {L : List AV} {n : Nat} {F : Nat → Int} (h : L.all vplain = true) {m : Nat} {a : AV} (e : pvn L n F m = some a) : vplain a = true := by
  rcases pvn_cases e with ⟨_, e⟩ | ⟨_, _, _, rfl⟩
  · exact List.all_eq_true.1 h a (List.mem_of_getElem? e)
  · rfl
variable {iv : Nat → IntKind × Int} {vv : Nat → Nat → Option AV} {vk : Nat → Nat}
theorem vlN1 {r : VL} {L : List AV} {n : Nat} {F : Nat → Int} {k : Nat} {x : AV} (hk : iv r.k = (.i64, (k : Int))) (hv : vv r.i = pvn L n F) (hz : r.z = 1) (hf : r.f = 0) (hl : r.l = [x]) (hx : L[k]? = some x) : VlOk iv vv r := by
  refine ⟨by rw [hk]; exact ⟨rfl, by simp⟩, fun m b hb => ?_⟩
  rw [hl] at hb
  have hm : m = 0 := by
    have := (List.getElem?_eq_some_iff.1 hb).1
    simpa using this
  subst hm
  cases hb
  have e1 : (iv r.k).2.toNat = k := by rw [hk]; simp
  have hlt : k < L.length := (List.getElem?_eq_some_iff.1 hx).1
  rw [e1, hz, hf, hv, show k * 1 + 0 + 0 = k by omega, pvn_lo hlt]
  exact ⟨_, hx, .inl rfl⟩
theorem vlN2 {r : VL} {L : List AV} {n : Nat} {F : Nat → Int} {k q y : Nat} (hk : iv r.k = (.i64, (k : Int))) (hv : vv r.i = pvn L n F) (hz : r.z = 1) (hf : r.f = 0) (hl : r.l = [.oi y]) (h1 : k = L.length + q) (h2 : k < n) (hy : iv y = (.i64, F q)) : VlOk iv vv r := by
  refine ⟨by rw [hk]; exact ⟨rfl, by simp⟩, fun m b hb => ?_⟩
  rw [hl] at hb
  have hm : m = 0 := by
    have := (List.getElem?_eq_some_iff.1 hb).1
    simpa using this
  subst hm
  cases hb
  have e1 : (iv r.k).2.toNat = k := by rw [hk]; simp
  rw [e1, hz, hf, hv, show k * 1 + 0 + 0 = L.length + q by omega, pvn_hi (by omega)]
  exact ⟨_, rfl, .inr ⟨_, rfl, by show some (iv y) = _; rw [hy]⟩⟩
theorem vaN1 {r : VA} {L : List AV} {n : Nat} {F : Nat → Int} {k : Nat} {x : AV} (hj : iv r.j = (.i64, (n : Int))) (hj' : iv r.j' = (.i64, ((n + 1 : Nat) : Int))) (hv : vv r.i = pvn L n F) (hv' : vv r.i' = pvn L (n + 1) F) (hk : vk r.i' ≤ n + 1) (hz : r.z = 1) (hl : r.src = [x]) (h1 : n = L.length + k) (h2 : n + 1 < 1000000) (hx : denI iv x = some (.i64, F k)) : VaOk iv vv vk r := by
  have e1 : (iv r.j).2.toNat = n := by rw [hj]; simp
  have e2 : (iv r.j').2.toNat = n + 1 := by rw [hj']; simp
  refine ⟨by rw [hj]; exact ⟨rfl, Int.natCast_nonneg _⟩, by rw [hj']; exact ⟨rfl, Int.natCast_nonneg _⟩, by rw [e1, e2, hz, hl]; simp, by rw [e2]; simpa [limit] using h2, by rw [e2, hz]; omega, fun m a ha => ?_⟩
  rw [e1, hz, hl]
  rw [hv'] at ha
  rcases pvn_cases ha with ⟨c2, c3⟩ | ⟨q, rfl, c4, rfl⟩
  · refine ⟨a, ?_, .inl rfl⟩
    rw [if_pos (by omega), hv, pvn_lo c2]; exact c3
  · by_cases d : L.length + q < n
    · exact ⟨_, by rw [if_pos (by omega), hv, pvn_hi d], .inl rfl⟩
    · obtain rfl : q = k := by omega
      refine ⟨x, ?_, .inr ⟨_, hx, rfl⟩⟩
      rw [if_neg (by omega), show L.length + q - n * 1 = 0 by omega]
      rfl
theorem vpN {T T' : Tab} {C : Cv} (hip : IpOk T T' C.ip) {i i' n n' : Nat} {L L' : List AV} {F F' : Nat → Int} (h1 : T.vv i = pvn L n F) (h2 : T'.vv i' = pvn L' n' F') (hk : T'.vk i' ≤ T.vk i) (hn : n' ≤ n) (hL : L.length ≤ L'.length) (hLn : L'.length ≤ n)
    (hl : cvL C L (L'.take L.length) = true) (hm : ∀ q x, L'[L.length + q]? = some x → ∀ μ v, v = Value.int .i64 (F q) → @vrel T' μ x v) (hw : ∀ q, L'.length + q < n' → F' q = F (L'.length - L.length + q)) :
    own (.vec i) = true ∧ ∀ μ l w, @brel T μ (.vec i) l w → @brel T' (ren C.N0 C.rn μ) (.vec i') l w := by
  refine ⟨rfl, fun μ l w hb => ?_⟩
  obtain ⟨arr, el, fz, g1, g2, g3, g4, g5⟩ := hb
  refine ⟨arr, el, fz, g1, g2, g3, Nat.le_trans (Nat.add_le_add_left hk _) g4, fun m a ha => ?_⟩
  rw [h2] at ha
  rw [h1] at g5
  rcases pvn_cases ha with ⟨c2, c3⟩ | ⟨q, rfl, c4, rfl⟩
  · by_cases d : m < L.length
    · obtain ⟨a0, k1, k2⟩ := cvL_get hl m a (by rw [List.getElem?_take, if_pos d]; exact c3)
      obtain ⟨v, k3, k4⟩ := g5 m a0 (by rw [pvn_lo d]; exact k1)
      exact ⟨v, k3, cvV_sound hip k2 k4⟩
    · obtain ⟨q, rfl⟩ : ∃ q, m = L.length + q := ⟨m - L.length, by omega⟩
      obtain ⟨v, k3, k4⟩ := g5 _ _ (pvn_hi (L := L) (F := F) (q := q) (by omega))
      simp only [vrel] at k4
      exact ⟨v, k3, hm q a c3 _ v k4⟩
  · obtain ⟨v, k3, k4⟩ := g5 _ _ (pvn_hi (L := L) (F := F) (q := L'.length - L.length + q) (by omega))
    rw [show L.length + (L'.length - L.length + q) = L'.length + q by omega] at k3
    refine ⟨v, k3, ?_⟩
    simp only [vrel] at k4 ⊢
    rw [hw q c4]; exact k4
theorem vpNcells {T T' : Tab} {C : Cv} (hip : IpOk T T' C.ip) {i' n : Nat} {q : Bool} {L L' : List AV} {F' : Nat → Int} (hn : n = L.length) (h2 : T'.vv i' = pvn L' n F') (hlen : L.length < 16000000) (hk : T'.vk i' ≤ n) (hL : L'.length = n) (hl : cvL C L L' = true) :
    own (.cells n q [] (X.T.ofList 0 .leaf L)) = true ∧ ∀ μ l w, @brel T μ (.cells n q [] (X.T.ofList 0 .leaf L)) l w → @brel T' (ren C.N0 C.rn μ) (.vec i') l w := by
  refine ⟨rfl, fun μ l w hb_ => ?_⟩
  obtain ⟨arr, el, fz, g1, g2, g3, g4, _, g5⟩ := hb_
  refine ⟨arr, el, fz, g1, g2, g3, Nat.le_trans (Nat.add_le_add_left hk _) g4, fun m a ha => ?_⟩
  rw [h2] at ha
  rcases pvn_cases ha with ⟨c2, c3⟩ | ⟨q, rfl, c4, rfl⟩
  · obtain ⟨a0, k1, k2⟩ := cvL_get hl m a c3
    have hm : m < L.length := (List.getElem?_eq_some_iff.1 k1).1
    obtain ⟨v, k3, k4⟩ := g5 m a0 (by omega) (by
      unfold cellOf
      rw [X.T.get_ofList _ _ _ _ (by omega), if_pos ⟨Nat.zero_le _, by omega⟩, Nat.sub_zero, k1])
    exact ⟨v, k3, cvV_sound hip k2 k4⟩
  · omega
theorem vlW3 {r : VL} {L : List AV} {n : Nat} {W : Nat → BitVec 64} {k q : Nat} {c : Int} (hk : iv r.k = (.i64, (k : Int))) (hv : vv r.i = pvw L n W) (hz : r.z = 1) (hf : r.f = 0) (hl : r.l = [.int .u64 c]) (h1 : k = L.length + q) (h2 : k < n) (hy : wI (W q) = c) : VlOk iv vv r := by
  refine ⟨by rw [hk]; exact ⟨rfl, by simp⟩, fun m b hb => ?_⟩
  rw [hl] at hb
  have hm : m = 0 := by
    have := (List.getElem?_eq_some_iff.1 hb).1
    simpa using this
  subst hm
  cases hb
  have e1 : (iv r.k).2.toNat = k := by rw [hk]; simp
  rw [e1, hz, hf, hv, show k * 1 + 0 + 0 = L.length + q by omega, pvw_hi (by omega)]
  exact ⟨_, rfl, .inl (by rw [hy])⟩
theorem pvnHs {T : Tab} {i n : Nat} {L : List AV} {F G : Nat → Int} (hv : T.vv i = pvn L n F) (hL : ∀ q x, L[q]? = some x → x = AV.int .i64 (G q)) (hF : ∀ q, L.length + q < n → F q = G (L.length + q)) :
    ∀ m, m < n → ∃ a, T.vv i m = some a ∧ ∀ μ v, @vrel T μ a v → v = .int .i64 (G m) := by
  intro m hm
  rw [hv]
  by_cases c : m < L.length
  · rw [pvn_lo c]
    have h := List.getElem?_eq_getElem c
    refine ⟨_, h, fun μ v e => ?_⟩
    rw [hL m _ h] at e
    simp only [vrel] at e
    exact e
  · obtain ⟨q, rfl⟩ : ∃ q, m = L.length + q := ⟨m - L.length, by omega⟩
    rw [pvn_hi hm]
    exact ⟨_, rfl, fun μ v e => by simp only [vrel] at e; rw [e, hF q hm]⟩
end Go.X
set_option linter.unusedVariables false
set_option linter.unusedSimpArgs false
set_option linter.unusedSectionVars false
namespace Go.X
open Go.RowKit
abbrev VbOk (iv : Nat → IntKind × Int) (vv : Nat → Nat → Option AV) (vk : Nat → Nat) (fv : Nat → Nat → Option AV) (r : VB) : Prop :=
  (r.nl = false → isLen (iv r.j)) ∧ isLen (iv r.k) ∧ 0 < (iv r.k).2 ∧ isLen (iv r.j') ∧ (iv r.j').2.toNat = (bif r.nl then 0 else (iv r.j).2.toNat) + (iv r.k).2.toNat ∧ (iv r.j').2.toNat < limit ∧ vk r.i' ≤ (iv r.j').2.toNat * r.z ∧
    (∀ m, m < (iv r.k).2.toNat * r.z → ∃ a, (bif r.own then vv r.q else fv r.q) m = some a ∧ vplain a = true) ∧
    ∀ m a, vv r.i' m = some a → m < (iv r.j').2.toNat * r.z ∧ ∃ b, (if m < (bif r.nl then 0 else (iv r.j).2.toNat) * r.z then vv r.i m else (bif r.own then vv r.q else fv r.q) (m - (bif r.nl then 0 else (iv r.j).2.toNat) * r.z)) = some b ∧ sameAV iv b a
abbrev VtOk (iv : Nat → IntKind × Int) (vv : Nat → Nat → Option AV) (str : Nat → ByteArray) (r : Nat × Nat × Nat) : Prop :=
  isLen (iv r.2.1) ∧ (str r.2.2).data.toList.length = (iv r.2.1).2.toNat ∧ ∀ m x, (str r.2.2).data.toList[m]? = some x → vv r.1 m = some (.int .u8 (x.toNat : Int))
structure Rw (iv : Nat → IntKind × Int) (vv : Nat → Nat → Option AV) (vk : Nat → Nat) (F : Fgn) (X : Txts iv) where
  vvp : ∀ i m a, vv i m = some a → vplain a = true
  ib : List BRow := []
  ibok : ∀ r ∈ ib, IbOk iv r := by exact fun _ h => nomatch h
  ic : List (IntKind × AV × AV) := []
  icok : ∀ r ∈ ic, IcOk' iv r := by exact fun _ h => nomatch h
  va : List VA := []
  vaok : ∀ r ∈ va, VaOk iv vv vk r := by exact fun _ h => nomatch h
  vz : List VZ := []
  vzok : ∀ r ∈ vz, VzOk iv vv vk r := by exact fun _ h => nomatch h
  vn : List VN := []
  vnok : ∀ r ∈ vn, VnOk iv vv vk r := by exact fun _ h => nomatch h
  vb : List VB := []
  vbok : ∀ r ∈ vb, VbOk iv vv vk F.fv r := by exact fun _ h => nomatch h
  vc : List (Nat × Nat) := []
  vcok : ∀ p ∈ vc, iv p.2 = (.i64, (p.1 : Int)) := by exact fun _ h => nomatch h
  vl : List VL := []
  vlok : ∀ r ∈ vl, VlOk iv vv r := by exact fun _ h => nomatch h
  vs : List VS := []
  vsok : ∀ r ∈ vs, VsOk iv vv vk r := by exact fun _ h => nomatch h
  fl : List VL := []
  flok : ∀ r ∈ fl, FlOk iv F r := by exact fun _ h => nomatch h
  vt : List (Nat × Nat × Nat) := []
  vtok : ∀ r ∈ vt, VtOk iv vv X.str r := by exact fun _ h => nomatch h
abbrev Rw.T {iv : Nat → IntKind × Int} {vv : Nat → Nat → Option AV} {vk : Nat → Nat} {F : Fgn} {X : Txts iv} (R : Rw iv vv vk F X) : Tab where
  str := X.str
  ne := X.ne
  ok := X.ok
  gv := fun _ _ => none
  iv := iv
  rv := fun _ => .nilIface
  ib := R.ib
  ibok := R.ibok
  ic := R.ic
  icok := R.icok
  iu := []
  iuok := fun _ h => by simp at h
  vv := vv
  vk := vk
  vvp := R.vvp
  va := R.va
  vaok := R.vaok
  vz := R.vz
  vzok := R.vzok
  vn := R.vn
  vnok := R.vnok
  fb := F.fb
  fcap := F.fcap
  fv := F.fv
  vb := R.vb
  vbok := R.vbok
  vc := R.vc
  vcok := R.vcok
  fl := R.fl
  flok := R.flok
  vl := R.vl
  vlok := R.vlok
  vs := R.vs
  vsok := R.vsok
  tr := X.tr
  trok := X.trok
  vt := R.vt
  vtok := R.vtok
theorem Rw.same {iv : Nat → IntKind × Int} {vv : Nat → Nat → Option AV} {vk : Nat → Nat} {F : Fgn} {X : Txts iv} (R R' : Rw iv vv vk F X) : SameTab R.T R'.T := ⟨rfl, rfl, rfl, rfl, rfl, rfl, rfl, rfl, rfl⟩
section
variable {iv : Nat → IntKind × Int} {vv : Nat → Nat → Option AV} {vk : Nat → Nat} {F : Fgn}
theorem rAdd {x y z : AV} {l : List BRow} {a b c : Int} (k : ∀ r ∈ l, IbOk iv r) (hx : denI iv x = some (.i64, a) := by exact rfl) (hy : denI iv y = some (.i64, b) := by exact rfl) (hz : denI iv z = some (.i64, c) := by exact rfl) (h : a + b = c := by first | assumption | omega) (h1 : -9223372036854775808 ≤ c := by omega) (h2 : c ≤ 9223372036854775807 := by omega) : ∀ q ∈ (0, x, y, z) :: l, IbOk iv q := by
  letI := Tab.empty
  exact ibCons (ibAdd hx hy hz h h1 h2) k
theorem rSub {x y z : AV} {l : List BRow} {a b c : Int} (k : ∀ r ∈ l, IbOk iv r) (hx : denI iv x = some (.i64, a) := by exact rfl) (hy : denI iv y = some (.i64, b) := by exact rfl) (hz : denI iv z = some (.i64, c) := by exact rfl) (h : a - b = c := by first | assumption | omega) (h1 : -9223372036854775808 ≤ c := by omega) (h2 : c ≤ 9223372036854775807 := by omega) : ∀ q ∈ (1, x, y, z) :: l, IbOk iv q := by
  letI := Tab.empty
  exact ibCons (ibSub hx hy hz h h1 h2) k
theorem rMul {x y z : AV} {l : List BRow} {a b c : Int} (k : ∀ r ∈ l, IbOk iv r) (hx : denI iv x = some (.i64, a) := by exact rfl) (hy : denI iv y = some (.i64, b) := by exact rfl) (hz : denI iv z = some (.i64, c) := by exact rfl) (h : a * b = c := by first | assumption | omega) (h1 : -9223372036854775808 ≤ c := by omega) (h2 : c ≤ 9223372036854775807 := by omega) : ∀ q ∈ (2, x, y, z) :: l, IbOk iv q := by
  letI := Tab.empty
  exact ibCons (ibMul hx hy hz h h1 h2) k
theorem rQuo {x y z : AV} {l : List BRow} {a b c : Int} (k : ∀ r ∈ l, IbOk iv r) (hx : denI iv x = some (.i64, a) := by exact rfl) (hy : denI iv y = some (.i64, b) := by exact rfl) (hz : denI iv z = some (.i64, c) := by exact rfl) (h0 : b ≠ 0 := by omega) (h : a.tdiv b = c := by rw [Int.tdiv_eq_ediv_of_nonneg (by omega)]; omega) (h1 : -9223372036854775808 ≤ c := by omega) (h2 : c ≤ 9223372036854775807 := by omega) : ∀ q ∈ (3, x, y, z) :: l, IbOk iv q := by
  letI := Tab.empty
  exact ibCons (ibQuo hx hy hz h0 h h1 h2) k
theorem rRem {x y z : AV} {l : List BRow} {a b c : Int} (k : ∀ r ∈ l, IbOk iv r) (hx : denI iv x = some (.i64, a) := by exact rfl) (hy : denI iv y = some (.i64, b) := by exact rfl) (hz : denI iv z = some (.i64, c) := by exact rfl) (h0 : b ≠ 0 := by omega) (h : a.tmod b = c := by rw [Int.tmod_eq_emod_of_nonneg (by omega)]; omega) : ∀ q ∈ (4, x, y, z) :: l, IbOk iv q := by
  letI := Tab.empty
  exact ibCons (ibRem hx hy hz h0 h) k
theorem rLt {x y : AV} {l : List BRow} {a b : Int} {t : Bool} (k : ∀ r ∈ l, IbOk iv r) (hx : denI iv x = some (.i64, a) := by exact rfl) (hy : denI iv y = some (.i64, b) := by exact rfl) (h : decide (a < b) = t := by first | exact decide_eq_true (by omega) | exact decide_eq_false (by omega)) : ∀ q ∈ (11, x, y, .bool t) :: l, IbOk iv q := ibCons (ibLt hx hy h) k
theorem rLe {x y : AV} {l : List BRow} {a b : Int} {t : Bool} (k : ∀ r ∈ l, IbOk iv r) (hx : denI iv x = some (.i64, a) := by exact rfl) (hy : denI iv y = some (.i64, b) := by exact rfl) (h : decide (a ≤ b) = t := by first | exact decide_eq_true (by omega) | exact decide_eq_false (by omega)) : ∀ q ∈ (12, x, y, .bool t) :: l, IbOk iv q := ibCons (ibLe hx hy h) k
theorem rGt {x y : AV} {l : List BRow} {a b : Int} {t : Bool} (k : ∀ r ∈ l, IbOk iv r) (hx : denI iv x = some (.i64, a) := by exact rfl) (hy : denI iv y = some (.i64, b) := by exact rfl) (h : decide (a > b) = t := by first | exact decide_eq_true (by omega) | exact decide_eq_false (by omega)) : ∀ q ∈ (13, x, y, .bool t) :: l, IbOk iv q := ibCons (ibGt hx hy h) k
theorem rGe {x y : AV} {l : List BRow} {a b : Int} {t : Bool} (k : ∀ r ∈ l, IbOk iv r) (hx : denI iv x = some (.i64, a) := by exact rfl) (hy : denI iv y = some (.i64, b) := by exact rfl) (h : decide (a ≥ b) = t := by first | exact decide_eq_true (by omega) | exact decide_eq_false (by omega)) : ∀ q ∈ (14, x, y, .bool t) :: l, IbOk iv q := ibCons (ibGe hx hy h) k
theorem rEq {x y : AV} {l : List BRow} {a b : Int} {K : IntKind} {t : Bool} (k : ∀ r ∈ l, IbOk iv r) (hx : denI iv x = some (K, a) := by exact rfl) (hy : denI iv y = some (K, b) := by exact rfl) (h : decide (a = b) = t := by first | assumption | exact decide_eq_true (by omega) | exact decide_eq_false (by omega)) : ∀ q ∈ (9, x, y, .bool t) :: l, IbOk iv q := ibCons (ibEqK hx hy h) k
theorem rNe {x y : AV} {l : List BRow} {a b : Int} {K : IntKind} {t : Bool} (k : ∀ r ∈ l, IbOk iv r) (hx : denI iv x = some (K, a) := by exact rfl) (hy : denI iv y = some (K, b) := by exact rfl) (h : decide (a = b) = !t := by first | assumption | exact decide_eq_true (by omega) | exact decide_eq_false (by omega)) : ∀ q ∈ (10, x, y, .bool t) :: l, IbOk iv q := ibCons (ibNeK hx hy h) k
theorem rShl {x y z : AV} {l : List BRow} {K : IntKind} {W V : BitVec 64} {s : Nat} (k : ∀ r ∈ l, IbOk iv r) (hx : denI iv x = some (.u64, wI W) := by exact rfl) (hy : denI iv y = some (K, (s : Int)) := by exact rfl) (hz : denI iv z = some (.u64, wI V) := by exact rfl) (hs : s < 64 := by omega) (h : W <<< s = V := by exact rfl) : ∀ q ∈ (15, x, y, z) :: l, IbOk iv q := ibCons (ibShlW hx hy hz hs h) k
theorem rShr {x y z : AV} {l : List BRow} {K : IntKind} {W V : BitVec 64} {s : Nat} (k : ∀ r ∈ l, IbOk iv r) (hx : denI iv x = some (.u64, wI W) := by exact rfl) (hy : denI iv y = some (K, (s : Int)) := by exact rfl) (hz : denI iv z = some (.u64, wI V) := by exact rfl) (hs : s < 64 := by omega) (h : W >>> s = V := by exact rfl) : ∀ q ∈ (16, x, y, z) :: l, IbOk iv q := ibCons (ibShrW hx hy hz hs h) k
theorem rAnd {x y z : AV} {l : List BRow} {W U V : BitVec 64} (k : ∀ r ∈ l, IbOk iv r) (hx : denI iv x = some (.u64, wI W) := by exact rfl) (hy : denI iv y = some (.u64, wI U) := by exact rfl) (hz : denI iv z = some (.u64, wI V) := by exact rfl) (h : W &&& U = V := by exact rfl) : ∀ q ∈ (5, x, y, z) :: l, IbOk iv q := ibCons (ibAndW hx hy hz h) k
theorem rOr {x y z : AV} {l : List BRow} {W U V : BitVec 64} (k : ∀ r ∈ l, IbOk iv r) (hx : denI iv x = some (.u64, wI W) := by exact rfl) (hy : denI iv y = some (.u64, wI U) := by exact rfl) (hz : denI iv z = some (.u64, wI V) := by exact rfl) (h : W ||| U = V := by exact rfl) : ∀ q ∈ (6, x, y, z) :: l, IbOk iv q := ibCons (ibOrW hx hy hz h) k
theorem rAndNot {x y z : AV} {l : List BRow} {W U V : BitVec 64} (k : ∀ r ∈ l, IbOk iv r) (hx : denI iv x = some (.u64, wI W) := by exact rfl) (hy : denI iv y = some (.u64, wI U) := by exact rfl) (hz : denI iv z = some (.u64, wI V) := by exact rfl) (h : W &&& ~~~U = V := by exact rfl) : ∀ q ∈ (8, x, y, z) :: l, IbOk iv q := ibCons (ibAndNotW hx hy hz h) k
theorem rConv {K K' : IntKind} {x y : AV} {l : List (IntKind × AV × AV)} {n c : Int} (k : ∀ r ∈ l, IcOk' iv r) (hx : denI iv x = some (K', n) := by exact rfl) (hy : denI iv y = some (K, c) := by exact rfl) (h : K.wrap n = c := by first | assumption | exact wrap64 (by omega) (by omega)) : ∀ q ∈ (K, x, y) :: l, IcOk' iv q := icCons (icOf hx hy h) k
theorem lN {i j y n q : Nat} {K : IntKind} {e : Nat → Int} {l : List VL} (t : ∀ r ∈ l, VlOk iv vv r) (hk : iv j = (.i64, (q : Int)) := by exact rfl) (hv : vv i = numV K n e := by exact rfl) (hy : iv y = (K, e q) := by exact rfl) (h : q < n := by omega) : ∀ r ∈ (⟨i, j, 1, 0, [.oi y]⟩ : VL) :: l, VlOk iv vv r :=
  allCons ⟨by rw [hk]; exact ⟨rfl, Int.natCast_nonneg _⟩, fun m b hb => by
    have hm : m = 0 := by have := (List.getElem?_eq_some_iff.1 hb).1; simpa using this
    subst hm
    cases hb
    refine ⟨.int K (e q), ?_, .inr ⟨(K, e q), rfl, by show some (iv y) = _; rw [hy]⟩⟩
    rw [hk, hv]
    show numV K n e (((q : Int).toNat) * 1 + 0 + 0) = _
    rw [show ((q : Int).toNat) * 1 + 0 + 0 = q by simp]
    unfold numV
    rw [if_pos h]⟩ t
theorem lC {i j n q : Nat} {K : IntKind} {c : Int} {e : Nat → Int} {l : List VL} (t : ∀ r ∈ l, VlOk iv vv r) (hk : iv j = (.i64, (q : Int)) := by exact rfl) (hv : vv i = numV K n e := by exact rfl) (hy : e q = c := by first | assumption | exact rfl) (h : q < n := by omega) : ∀ r ∈ (⟨i, j, 1, 0, [.int K c]⟩ : VL) :: l, VlOk iv vv r :=
  allCons ⟨by rw [hk]; exact ⟨rfl, Int.natCast_nonneg _⟩, fun m b hb => by
    have hm : m = 0 := by have := (List.getElem?_eq_some_iff.1 hb).1; simpa using this
    subst hm
    cases hb
    refine ⟨.int K c, ?_, .inl rfl⟩
    rw [hk, hv]
    show numV K n e (((q : Int).toNat) * 1 + 0 + 0) = _
    rw [show ((q : Int).toNat) * 1 + 0 + 0 = q by simp]
    unfold numV
    rw [if_pos h, hy]⟩ t
theorem fgN {i j y n q : Nat} {K : IntKind} {e : Nat → Int} {l : List VL} (t : ∀ r ∈ l, FlOk iv F r) (hk : iv j = (.i64, (q : Int)) := by exact rfl) (hv : F.fv i = numV K n e := by exact rfl) (hy : iv y = (K, e q) := by exact rfl) (h : q < n := by omega) : ∀ r ∈ (⟨i, j, 1, 0, [.oi y]⟩ : VL) :: l, FlOk iv F r :=
  allCons (lN (vv := F.fv) (l := []) allNil hk hv hy h _ (by simp)) t
theorem sN {i j n q i' : Nat} {K : IntKind} {x : AV} {e e' : Nat → Int} {l : List VS} (t : ∀ r ∈ l, VsOk iv vv vk r) (hk : iv j = (.i64, (q : Int)) := by exact rfl) (hv : vv i = numV K n e := by exact rfl) (hv' : vv i' = numV K n e' := by exact rfl) (h1 : vk i = n := by exact rfl) (h2 : vk i' = n := by exact rfl) (hy : denI iv x = some (K, e' q) := by exact rfl) (h : q < n := by omega) (hw : ∀ m, m < n → m ≠ q → e' m = e m := by first | assumption | exact fun _ _ h => if_neg h) : ∀ r ∈ (⟨i, j, 1, 0, [x], i'⟩ : VS) :: l, VsOk iv vv vk r := by
  refine allCons ⟨by rw [hk]; exact ⟨rfl, Int.natCast_nonneg _⟩, ?_, by rw [h1, h2]; exact Nat.le_refl _, fun m a ha => ?_⟩ t
  · rw [hk, h1]; show ((q : Int).toNat) * 1 + 0 + 1 ≤ n; simp; omega
  · rw [hv'] at ha
    have eq : (iv j).2.toNat * 1 + 0 = q := by rw [hk]; simp
    obtain ⟨hm, rfl⟩ := numV_some ha
    show ∃ b, (if (iv j).2.toNat * 1 + 0 ≤ m ∧ m < (iv j).2.toNat * 1 + 0 + 1 then [x][m - ((iv j).2.toNat * 1 + 0)]? else vv i m) = some b ∧ sameAV iv b (.int K (e' m))
    rw [eq]
    by_cases c : m = q
    · subst c
      refine ⟨x, ?_, .inr ⟨(K, e' m), hy, rfl⟩⟩
      rw [if_pos ⟨Nat.le_refl _, Nat.lt_succ_self _⟩, Nat.sub_self]; rfl
    · refine ⟨.int K (e m), ?_, .inl (by rw [hw m hm c])⟩
      rw [if_neg (by omega), hv]
      unfold numV; rw [if_pos hm]
theorem nN {k i' n : Nat} {K : IntKind} {e : Nat → Int} {l : List VN} (t : ∀ r ∈ l, VnOk iv vv vk r) (hk : iv k = (.i64, (n : Int)) := by exact rfl) (hv : vv i' = numV K n e := by exact rfl) (h2 : vk i' = n := by exact rfl) (h0 : 0 < n := by omega) (hl : n < 1000000 := by omega) (he : ∀ m, m < n → e m = 0 := by first | assumption | exact fun _ _ => rfl) : ∀ r ∈ (⟨1, k, [.int K 0], i', k⟩ : VN) :: l, VnOk iv vv vk r := by
  refine allCons ⟨by rw [hk]; exact ⟨rfl, Int.natCast_nonneg _⟩, by rw [hk]; show (0 : Int) < (n : Int); omega, rfl, by rw [hk]; simpa [limit] using hl, by rw [hk, h2]; simp, fun m a ha => ?_⟩ t
  rw [hv] at ha
  obtain ⟨hm, rfl⟩ := numV_some ha
  refine ⟨by rw [hk]; simpa using hm, .int K 0, ?_, .inl (by rw [he m hm])⟩
  show [AV.int K 0][m % 1]? = _
  rw [Nat.mod_one]; rfl
theorem zN {i j k i' j' n c : Nat} {K : IntKind} {e e' : Nat → Int} {l : List VZ} (t : ∀ r ∈ l, VzOk iv vv vk r) (hj : iv j = (.i64, (n : Int)) := by exact rfl) (hk : iv k = (.i64, (c : Int)) := by exact rfl) (hj' : iv j' = (.i64, ((n + c : Nat) : Int)) := by exact rfl) (hv : vv i = numV K n e := by exact rfl) (hv' : vv i' = numV K (n + c) e' := by exact rfl) (h2 : vk i' = n + c := by exact rfl) (hl : n + c < 1000000 := by omega) (h1 : ∀ m, m < n → e' m = e m := by assumption) (h0 : ∀ m, n ≤ m → e' m = 0 := by assumption) : ∀ r ∈ (⟨i, j, 1, k, [.int K 0], i', j'⟩ : VZ) :: l, VzOk iv vv vk r := by
  refine allCons ⟨by rw [hj]; exact ⟨rfl, Int.natCast_nonneg _⟩, by rw [hk]; exact ⟨rfl, Int.natCast_nonneg _⟩, by rw [hj']; exact ⟨rfl, Int.natCast_nonneg _⟩, by rw [hj, hk, hj']; simp, by rw [hj']; show ((n + c : Nat) : Int).toNat < 1000000; rw [Int.toNat_natCast]; exact hl, by rw [hj', h2]; show n + c ≤ ((n + c : Nat) : Int).toNat * 1; rw [Int.toNat_natCast]; omega, fun m a ha => ?_⟩ t
  rw [hv'] at ha
  obtain ⟨hm, rfl⟩ := numV_some ha
  refine ⟨by rw [hj']; show m < ((n + c : Nat) : Int).toNat * 1; rw [Int.toNat_natCast]; omega, ?_⟩
  show ∃ b, (if m < (iv j).2.toNat * 1 then vv i m else [AV.int K 0][(m - (iv j).2.toNat * 1) % 1]?) = some b ∧ sameAV iv b (.int K (e' m))
  rw [hj]
  by_cases d : m < n
  · exact ⟨.int K (e m), by rw [if_pos (by simpa using d), hv]; unfold numV; rw [if_pos d], .inl (by rw [h1 m d])⟩
  · exact ⟨.int K 0, by rw [if_neg (by simpa using d), Nat.mod_one]; rfl, .inl (by rw [h0 m (by omega)])⟩
theorem aN {i j i' j' n : Nat} {K : IntKind} {x : AV} {e e' : Nat → Int} {l : List VA} (t : ∀ r ∈ l, VaOk iv vv vk r) (hj : iv j = (.i64, (n : Int)) := by exact rfl) (hj' : iv j' = (.i64, ((n + 1 : Nat) : Int)) := by exact rfl) (hv : vv i = numV K n e := by exact rfl) (hv' : vv i' = numV K (n + 1) e' := by exact rfl) (h2 : vk i' = n + 1 := by exact rfl) (hy : denI iv x = some (K, e' n) := by exact rfl) (hl : n + 1 < 1000000 := by omega) (h1 : ∀ m, m < n → e' m = e m := by first | assumption | exact fun _ _ => rfl) : ∀ r ∈ (⟨i, j, 1, [x], i', j'⟩ : VA) :: l, VaOk iv vv vk r := by
  refine allCons ⟨by rw [hj]; exact ⟨rfl, Int.natCast_nonneg _⟩, by rw [hj']; exact ⟨rfl, Int.natCast_nonneg _⟩, by rw [hj, hj']; simp, by rw [hj']; simpa [limit] using hl, by rw [hj', h2]; simp, fun m a ha => ?_⟩ t
  rw [hv'] at ha
  obtain ⟨hm, rfl⟩ := numV_some ha
  show ∃ b, (if m < (iv j).2.toNat * 1 then vv i m else [x][m - (iv j).2.toNat * 1]?) = some b ∧ sameAV iv b (.int K (e' m))
  rw [hj]
  by_cases d : m < n
  · exact ⟨.int K (e m), by rw [if_pos (by simpa using d), hv]; unfold numV; rw [if_pos d], .inl (by rw [h1 m d])⟩
  · have hmn : m = n := by omega
    subst hmn
    exact ⟨x, by rw [if_neg (by simp)]; simp, .inr ⟨(K, e' m), hy, rfl⟩⟩
theorem b0 {q k i' n : Nat} {own : Bool} {K : IntKind} {e : Nat → Int} {l : List VB} (t : ∀ r ∈ l, VbOk iv vv vk F.fv r) (hk : iv k = (.i64, (n : Int)) := by exact rfl) (hs : (bif own then vv q else F.fv q) = numV K n e := by exact rfl) (hv : vv i' = numV K n e := by exact rfl) (h2 : vk i' = n := by exact rfl) (h0 : 0 < n := by omega) (hl : n < 1000000 := by omega) : ∀ r ∈ (⟨true, 0, 0, 1, own, q, k, i', k⟩ : VB) :: l, VbOk iv vv vk F.fv r := by
  refine allCons ⟨fun h => absurd (show true = false from h) (by decide), by rw [hk]; exact ⟨rfl, Int.natCast_nonneg _⟩, by rw [hk]; show (0 : Int) < (n : Int); omega, by rw [hk]; exact ⟨rfl, Int.natCast_nonneg _⟩, by show (iv k).2.toNat = (bif true then 0 else (iv 0).2.toNat) + (iv k).2.toNat; simp, by rw [hk]; simpa [limit] using hl, by rw [hk, h2]; simp, fun m hm => ?_, fun m a ha => ?_⟩ t
  · rw [hk] at hm
    show ∃ a, (bif own then vv q else F.fv q) m = some a ∧ vplain a = true
    rw [hs]
    exact ⟨.int K (e m), by unfold numV; rw [if_pos (by simpa using hm)], rfl⟩
  · rw [hv] at ha
    obtain ⟨hm, rfl⟩ := numV_some ha
    refine ⟨by rw [hk]; simpa using hm, .int K (e m), ?_, .inl rfl⟩
    show (if m < (bif true then 0 else (iv 0).2.toNat) * 1 then vv 0 m else (bif own then vv q else F.fv q) (m - (bif true then 0 else (iv 0).2.toNat) * 1)) = _
    rw [hs]
    simp only [cond_true, Nat.zero_mul, Nat.not_lt_zero, if_false, Nat.sub_zero]
    unfold numV; rw [if_pos hm]
theorem bN {i j q k i' j' n c : Nat} {own : Bool} {K : IntKind} {e e1 e' : Nat → Int} {l : List VB} (t : ∀ r ∈ l, VbOk iv vv vk F.fv r) (hj : iv j = (.i64, (n : Int)) := by exact rfl) (hk : iv k = (.i64, (c : Int)) := by exact rfl) (hj' : iv j' = (.i64, ((n + c : Nat) : Int)) := by exact rfl) (hd : vv i = numV K n e := by exact rfl) (hs : (bif own then vv q else F.fv q) = numV K c e1 := by exact rfl) (hv : vv i' = numV K (n + c) e' := by exact rfl) (h2 : vk i' = n + c := by exact rfl) (h0 : 0 < c := by omega) (hl : n + c < 1000000 := by omega) (g1 : ∀ m, m < n → e' m = e m := by assumption) (g2 : ∀ m, m < c → e' (n + m) = e1 m := by assumption) : ∀ r ∈ (⟨false, i, j, 1, own, q, k, i', j'⟩ : VB) :: l, VbOk iv vv vk F.fv r := by
  refine allCons ⟨fun _ => by rw [hj]; exact ⟨rfl, Int.natCast_nonneg _⟩, by rw [hk]; exact ⟨rfl, Int.natCast_nonneg _⟩, by rw [hk]; show (0 : Int) < (c : Int); omega, by rw [hj']; exact ⟨rfl, Int.natCast_nonneg _⟩, by rw [hj, hk, hj']; show ((n + c : Nat) : Int).toNat = ((n : Int)).toNat + ((c : Int)).toNat; simp only [Int.toNat_natCast], by rw [hj']; show ((n + c : Nat) : Int).toNat < 1000000; rw [Int.toNat_natCast]; exact hl, by rw [hj', h2]; show n + c ≤ ((n + c : Nat) : Int).toNat * 1; rw [Int.toNat_natCast]; omega, fun m hm => ?_, fun m a ha => ?_⟩ t
  · rw [hk] at hm
    show ∃ a, (bif own then vv q else F.fv q) m = some a ∧ vplain a = true
    rw [hs]
    exact ⟨.int K (e1 m), by unfold numV; rw [if_pos (by simpa using hm)], rfl⟩
  · rw [hv] at ha
    obtain ⟨hm, rfl⟩ := numV_some ha
    refine ⟨by rw [hj']; show m < ((n + c : Nat) : Int).toNat * 1; rw [Int.toNat_natCast]; omega, .int K (e' m), ?_, .inl rfl⟩
    show (if m < (bif false then 0 else (iv j).2.toNat) * 1 then vv i m else (bif own then vv q else F.fv q) (m - (bif false then 0 else (iv j).2.toNat) * 1)) = _
    rw [hs, hd, hj]
    simp only [cond_false, Int.toNat_natCast, Nat.mul_one]
    by_cases d : m < n
    · rw [if_pos d]; unfold numV; rw [if_pos d, g1 m d]
    · rw [if_neg d]; unfold numV; rw [if_pos (by omega), ← g2 (m - n) (by omega), show n + (m - n) = m by omega]
theorem cN {n j : Nat} {l : List (Nat × Nat)} (t : ∀ p ∈ l, iv p.2 = (.i64, (p.1 : Int))) (h : iv j = (.i64, (n : Int)) := by exact rfl) : ∀ p ∈ (n, j) :: l, iv p.2 = (.i64, (p.1 : Int)) := allCons h t
end
section
variable {T T' : Tab}
theorem ipE {i j : Nat} {q : IntKind × Int} {l : IP} (k : IpOk T T' l) (h1 : T.iv i = q := by exact rfl) (h2 : T'.iv j = q := by exact rfl) : IpOk T T' ((.oi i, j) :: l) := ipCons (ipN q h1 h2) k
theorem ipZ {i j : Nat} {a b : Int} {q : IntKind} {l : IP} (k : IpOk T T' l) (h1 : T.iv i = (q, a) := by exact rfl) (h2 : T'.iv j = (q, b) := by exact rfl) (e : b = a := by omega) : IpOk T T' ((.oi i, j) :: l) := ipCons (ipN (q, a) h1 (by rw [h2, e])) k
theorem ipK' {n : Int} {j : Nat} {b : Int} {l : IP} (k : IpOk T T' l) (h2 : T'.iv j = (.i64, b) := by exact rfl) (e : b = n := by omega) : IpOk T T' ((.int .i64 n, j) :: l) := ipCons (ipC (by rw [h2, e])) k
theorem ipF {i j z : Nat} {l : IP} (k : IpOk T T' l) (h1 : T'.fb j = T.fb i := by exact rfl) (h2 : T'.fcap j = T.fcap i := by exact rfl) : IpOk T T' ((.fo i j z, j) :: l) := ipCons ⟨h1, h2⟩ k
end
end Go.X
