/-
  The laws of profile: a range over a map by name: one step further.
-/
import Derived.Test.YtnenjcehicaobaaPFX
set_option linter.unusedVariables false
set_option linter.unusedSimpArgs false
set_option linter.unusedSectionVars false
set_option maxRecDepth 1000000
set_option maxHeartbeats 0
namespace Go.Proofs.Ytnenjcehicaobaa.pf
open Go.X Go.RowKit Go.Proofs
/- a range over a map by name: one step further -/
def noIt : Blk → Bool
  | .oit .. => false
  | .oin .. => false
  | _ => true
theorem brel.tabN {T T' : Tab} (e : SameV T T') (em : T.mm = T'.mm) {μ : M} {b : Blk} {l : X.Loc} {w : World} (hn : noIt b = true) (h : @brel T μ b l w) : @brel T' μ b l w := by
  cases b with
  | cells n p z t => obtain ⟨arr, el, fz, h1, h2, h3, h4, h5, h6⟩ := h; exact ⟨arr, el, fz, h1, h2, h3, h4, h5, fun i a hi ha => let ⟨v, g1, g2⟩ := h6 i a hi ha; ⟨v, g1, vrel.tab e _ _ g2⟩⟩
  | glob n z t => obtain ⟨arr, el, fz, h1, h2⟩ := h; exact ⟨arr, el, fz, h1, fun i a hi ha => let ⟨v, g1, g2⟩ := h2 i a hi ha; ⟨v, g1, vrel.tab e _ _ g2⟩⟩
  | map es c => obtain ⟨es', h1, h2⟩ := h; exact ⟨es', h1, esrel.tab e h2⟩
  | siter n c pos => exact h
  | miter m since seen st =>
    cases m with
    | none => exact h
    | some x => exact h
  | vec i =>
    obtain ⟨arr, el, fz, h1, h2, h3, h4, h5⟩ := h
    exact ⟨arr, el, fz, h1, h2, h3, by rw [← e.vk]; exact h4, fun m a ha => let ⟨v, g1, g2⟩ := h5 m a (by rw [e.vv]; exact ha); ⟨v, g1, vrel.tab e _ _ g2⟩⟩
  | omap i => simp only [brel] at h ⊢; rw [← em]; exact h
  | oit m i => cases hn
  | oin m i q => cases hn
noncomputable abbrev withSv (T : Tab) (q' : Nat) (S : Nat × List Nat × Nat) : Tab := { T with
  sv := fun n => if n = q' then S else T.sv n, mr := [], mrok := (fun _ h => nomatch h), mx := [], mxok := (fun _ h => nomatch h), mn := [], mnok := (fun _ h => nomatch h) }
theorem St.oin {T : Tab} {B : Kp} {w0 : World} {μ0 : M} {nt : Nat} {fr : Fr} {h : H} {a : Act} {w : World} (s : St T B w0 μ0 nt fr h a w) {r m i q : Nat} (q' : Nat) (hr : h.get r = some (.oin m i q)) (hlim : r < 16000000) (hq : ∀ x b, h.get x = some b → x = r ∨ noIt b = true) :
    ∃ e ∈ (T.mm i).1, e.2.2 ∉ (T.sv q).2.1 ∧ St (withSv T q' ((T.sv q).1, (T.sv q).2.1 ++ [e.2.2], (T.mm i).2)) B w0 μ0 nt fr (h.put r (.oit m q')) a w := by
  obtain ⟨μ, hx, f, r0⟩ := s
  have hf := @HR.fresh T B w0 μ h w r0
  obtain ⟨⟨e1, e2, e3, e4, e5, e6⟩, eg, eres, eblk, esep⟩ := @HR.parts B w0 w T μ h r0
  obtain ⟨l, hl, o1, o2, hb⟩ := eblk r _ hr
  obtain ⟨h0, k, e, g0, g1, g2, g3⟩ := hb
  have sv : SameV T (withSv T q' ((T.sv q).1, (T.sv q).2.1 ++ [e.2.2], (T.mm i).2)) := ⟨rfl, rfl, rfl, rfl, rfl, rfl, rfl, rfl, rfl⟩
  have hrn : r < h.next := by
    rcases Nat.lt_or_ge r h.next with c | c
    · exact c
    · have := (hf r c).1; rw [hr] at this; cases this
  have gp : ∀ y, (h.put r (.oit m q')).get y = if y = r then some (.oit m q') else h.get y := fun y => H.get_put _ _ _ _ hlim
  have kp : @Keeps (withSv T q' ((T.sv q).1, (T.sv q).2.1 ++ [e.2.2], (T.mm i).2)) B w0 w := @Keeps.mk (withSv T q' ((T.sv q).1, (T.sv q).2.1 ++ [e.2.2], (T.mm i).2)) B w0 w e1 e2 e3 e4 e5 e6 (Gl.tab sv eg)
  refine ⟨e, g1, g2, μ, hx, ⟨f.1, f.2.1, fun t v ht => ?_⟩, @HR.mk (withSv T q' ((T.sv q).1, (T.sv q).2.1 ++ [e.2.2], (T.mm i).2)) B w0 μ (h.put r (.oit m q')) w kp (fun x hx => ?_) eres (fun x b hb => ?_) (fun x y b c l k hb hc hne ho ho' hl hk => ?_)⟩
  · obtain ⟨v', k1, k2⟩ := f.2.2 t v ht
    exact ⟨v', k1, vrel.tab sv _ _ k2⟩
  · have hx' : h.next ≤ x := hx
    exact ⟨by rw [gp, if_neg (by omega)]; exact (hf x hx').1, (hf x hx').2⟩
  · rw [gp] at hb
    split at hb
    · rename_i c; subst c; cases hb
      refine ⟨l, hl, o1, o2, ?_⟩
      refine ⟨h0, k, g0, ?_⟩
      show w.heap[l.block]? = some (.mapIter (some k.block) (if q' = q' then _ else _ : Nat × List Nat × Nat).1 ⟨(if q' = q' then _ else _ : Nat × List Nat × Nat).2.1⟩ (if q' = q' then _ else _ : Nat × List Nat × Nat).2.2)
      rw [if_pos rfl]
      exact g3
    · rename_i c
      obtain ⟨l', k1, k2, k3, k4⟩ := eblk x b hb
      rcases hq x b hb with d | d
      · exact absurd d c
      · exact ⟨l', k1, k2, k3, brel.tabN sv rfl d k4⟩
  · have old : ∀ x2 b2, (h.put r (.oit m q')).get x2 = some b2 → ∃ b', h.get x2 = some b' ∧ own b' = own b2 := fun x2 b2 hb2 => by
      rw [gp] at hb2
      by_cases c : x2 = r
      · rw [if_pos c] at hb2
        rw [c]
        rw [← Option.some.inj hb2]
        exact ⟨_, hr, rfl⟩
      · rw [if_neg c] at hb2
        exact ⟨b2, hb2, rfl⟩
    obtain ⟨b', q1, q2⟩ := old x b hb
    obtain ⟨c', q3, q4⟩ := old y c hc
    exact esep x y b' c' l k q1 q3 hne (q2.trans ho) (q4.trans ho') hl hk
def itFree (r : Nat) (bs : BS) : Bool := bs.all fun p => Nat.blt p.1 limit && (Nat.beq p.1 r || noIt p.2.2)
theorem itFree_ok {r N : Nat} {bs : BS} (h : itFree r bs = true) : ∀ x b, (hOf N bs).get x = some b → x = r ∨ noIt b = true := fun x b hb => by
  have hb' : (ofPairs (bsOf bs)).get x = some b := by
    have : hOf N bs = ⟨N, ofPairs (bsOf bs)⟩ := by unfold hOf; rw [fT_eq]
    rw [this] at hb; exact hb
  have mem : ∀ l : BS, ∀ q ∈ bsOf l, ∃ p ∈ l, p.1 = q.1 ∧ p.2.2 = q.2 := by
    intro l
    induction l with
    | nil => intro q hq; cases hq
    | cons a l ih =>
      intro q hq
      have hq' : q ∈ (a.1, a.2.2) :: bsOf l := hq
      rcases List.mem_cons.1 hq' with rfl | hq'
      · exact ⟨a, by simp, rfl, rfl⟩
      · obtain ⟨p, p1, p2⟩ := ih q hq'
        exact ⟨p, by simp [p1], p2⟩
  have hall := List.all_eq_true.1 h
  have hlim : ∀ q ∈ bsOf bs, q.1 < limit := fun q hq => by
    obtain ⟨p, p1, p2, _⟩ := mem bs q hq
    have := hall p p1
    simp only [Bool.and_eq_true] at this
    rw [← p2]; exact @blt_iff Tab.empty _ _ |>.1 this.1
  obtain ⟨p, p1, p2, p3⟩ := mem bs _ (ofPairs_get hlim hb')
  have := hall p p1
  simp only [Bool.and_eq_true, Bool.or_eq_true] at this
  rcases this.2 with c | c
  · exact .inl (by rw [← @nbeq_iff Tab.empty _ _ |>.1 c]; exact p2.symm)
  · right
    have p3 : p.2.2 = b := p3
    rw [← p3]; exact c
end Go.Proofs.Ytnenjcehicaobaa.pf
