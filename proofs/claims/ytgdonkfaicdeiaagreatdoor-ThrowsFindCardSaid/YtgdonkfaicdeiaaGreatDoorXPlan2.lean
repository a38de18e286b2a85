/-
  What the machine's own run in the text's order gives: the plan, put together.
-/
import Derived.Test.YtgdonkfaicdeiaaGreatDoorXPlan
set_option linter.unusedVariables false
set_option linter.unusedSimpArgs false
set_option linter.unusedSectionVars false
namespace Go.X
open Go.RowKit

variable [Tab]
variable {P : Program} {nt : Nat} {rec : Rec}

theorem stateAt_next (as : List Nat) (i j : Nat) : ∀ (ms : List (Nat × Nat × Nat × Blk)) (h : H), (stateAt as i j h ms).next = h.next
  | [], h => rfl
  | p :: ms, h => by
    show (stateAt as i j (Bool.rec h (h.put p.2.2.1 p.2.2.2) (Nat.ble j p.2.1 && (as.getD i 0).testBit p.1)) ms).next = _
    rw [stateAt_next as i j ms]
    cases (Nat.ble j p.2.1 && (as.getD i 0).testBit p.1) <;> rfl

theorem stateAt_get (as : List Nat) (i j : Nat) (y : Nat) (b : Blk) : ∀ (ms : List (Nat × Nat × Nat × Blk)) (h : H), (∀ p ∈ ms, p.2.2.1 < limit) → (stateAt as i j h ms).get y = some b →
    (∃ m c, (m, c, y, b) ∈ ms ∧ j ≤ c ∧ (as.getD i 0).testBit m = true) ∨ ((∀ m c d, (m, c, y, d) ∈ ms → ¬ ((as.getD i 0).testBit m = true ∧ j ≤ c)) ∧ h.get y = some b)
  | [], h, _, e => .inr ⟨fun m c d hm => by simp at hm, e⟩
  | p :: ms, h, hl, e => by
    have e' : (stateAt as i j (Bool.rec h (h.put p.2.2.1 p.2.2.2) (Nat.ble j p.2.1 && (as.getD i 0).testBit p.1)) ms).get y = some b := e
    rcases stateAt_get as i j y b ms _ (fun q hq => hl q (by simp [hq])) e' with ⟨m, c, h1, h2⟩ | ⟨h1, h2⟩
    · exact .inl ⟨m, c, by simp [h1], h2⟩
    · obtain ⟨pi, pc, px, pb⟩ := p
      cases hc : (Nat.ble j pc && (as.getD i 0).testBit pi) with
      | false =>
        simp only [hc] at h2
        refine .inr ⟨fun m c d hm hh => ?_, h2⟩
        simp only [List.mem_cons] at hm
        rcases hm with hm | hm
        · simp only [Prod.mk.injEq] at hm
          obtain ⟨rfl, rfl, rfl, rfl⟩ := hm
          rw [hh.1, ble_iff.2 hh.2] at hc
          simp at hc
        · exact h1 m c d hm hh
      | true =>
        simp only [hc] at h2
        simp only [Bool.and_eq_true, ble_iff] at hc
        have hlim : px < limit := hl (pi, pc, px, pb) (by simp)
        rw [H.get_put _ _ _ _ (show px < 16000000 by unfold limit at hlim; omega)] at h2
        split at h2
        · rename_i hy
          subst hy; cases h2
          exact .inl ⟨pi, pc, by simp, hc.1, hc.2⟩
        · rename_i hy
          refine .inr ⟨fun m c d hm hh => ?_, h2⟩
          simp only [List.mem_cons] at hm
          rcases hm with hm | hm
          · simp only [Prod.mk.injEq] at hm
            exact hy hm.2.2.1
          · exact h1 m c d hm hh

theorem mem_louds {trs : List Tr} {i c : Nat} : (i, c) ∈ loudsOf trs ↔ ∃ t, trs[i]? = some t ∧ t.kd = .loud ∧ t.cnt = c := by
  unfold loudsOf
  rw [List.mem_filterMap]
  constructor
  · rintro ⟨⟨t, k⟩, h1, h2⟩
    rw [mem_zipIdx] at h1
    simp only at h2
    split at h2
    · rename_i hk
      simp only [Option.some.injEq, Prod.mk.injEq] at h2
      obtain ⟨rfl, rfl⟩ := h2
      refine ⟨t, h1, ?_, rfl⟩
      cases hh : t.kd <;> rw [hh] at hk <;> simp [isLoud] at hk
    · simp at h2
  · rintro ⟨t, h1, h2, h3⟩
    exact ⟨(t, i), mem_zipIdx.2 h1, by simp [h2, isLoud, h3]⟩

theorem mem_mades {trs : List Tr} {i c x : Nat} {b : Blk} : (i, c, x, b) ∈ madesOf trs ↔ ∃ t, trs[i]? = some t ∧ t.kd = .made x b ∧ t.cnt = c := by
  unfold madesOf
  rw [List.mem_filterMap]
  constructor
  · rintro ⟨⟨t, k⟩, h1, h2⟩
    rw [mem_zipIdx] at h1
    simp only at h2
    cases hh : t.kd with
    | made y d =>
      rw [hh] at h2
      simp only [madeOf, Option.map_some, Option.some.injEq, Prod.mk.injEq] at h2
      obtain ⟨rfl, rfl, rfl, rfl⟩ := h2
      exact ⟨t, h1, hh, rfl⟩
    | skip => rw [hh] at h2; simp [madeOf] at h2
    | quiet => rw [hh] at h2; simp [madeOf] at h2
    | loud => rw [hh] at h2; simp [madeOf] at h2
  · rintro ⟨t, h1, h2, h3⟩
    exact ⟨(t, i), mem_zipIdx.2 h1, by simp [h2, madeOf, h3]⟩

theorem sameVal_eq {r : Option Res} {v : AV} (h : sameVal r v = true) : ∃ u, r = some (.val v u) := by
  cases r with
  | none => simp [sameVal] at h
  | some r =>
    cases r with
    | call _ _ => simp [sameVal, plainOf] at h
    | pick _ => simp [sameVal, plainOf] at h
    | val x u =>
      have h' : veq x v = true := h
      rw [veq_eq h']
      exact ⟨u, rfl⟩

theorem plan_of {ops : Array Oper} {fr0 : Fr} {h0 : H} {x0 : Nat} {q : TrOut} (ht : trace? P rec nt ops.toList ops.toList fr0 h0 0 x0 = some q) (hd : drawOk P ops.toList q.trs (h0 :: q.hs) = true) :
    ∃ F v kd cnt β τ k anc E, Plan P rec nt ops F v kd cnt β τ k anc E q.h ∧ F 0 = fr0 ∧ F ops.size = q.fr ∧ β 0 = h0 ∧ ∀ i x b, i < ops.size → kd i = .made x b → x0 ≤ x ∧ x < x0 + countAlloc ops.toList := by
  obtain ⟨hlen, T, F, C, X, t0, f0, c0, xx0, tn, fn, cn, xn, hsp⟩ := trace_spec ops.toList fr0 h0 0 x0 q ht
  simp only [Array.length_toList] at hlen tn fn cn xn
  -- kinds and values
  let kd : Nat → Kd := fun i => ((q.trs[i]?).map (·.kd)).getD .skip
  let v : Nat → AV := fun i => ((q.trs[i]?).map (·.v)).getD .undef
  have sp : ∀ (i : Nat) (o : Oper), ops[i]? = some o → (∃ t, q.trs[i]? = some t ∧ t.fr = F i ∧ t.cnt = C i ∧ t.kd = kd i ∧ t.v = v i) ∧ wanted? ops.toList (F i) o.guard = some (kdWant (kd i)) ∧ put? nt o.dst (v i) (F i) = some (F (i + 1)) ∧
        KdSpec P rec o (F i) (T i) (T (i + 1)) (C i) (C (i + 1)) (X i) (X (i + 1)) q.hs 0 (v i) (kd i) := by
    intro i o ho
    obtain ⟨t, h1, h2, h3, h4, h5, h6⟩ := hsp i o (by rw [Array.getElem?_toList]; exact ho)
    have e1 : kd i = t.kd := by simp [kd, h1]
    have e2 : v i = t.v := by simp [v, h1]
    rw [e1, e2]
    exact ⟨⟨t, h1, h2, h3, rfl, rfl⟩, h4, h5, h6⟩
  have trk : ∀ (i : Nat) (t : Tr), q.trs[i]? = some t → i < ops.size ∧ t.kd = kd i ∧ t.cnt = C i ∧ t.v = v i ∧ t.fr = F i := by
    intro i t hi
    have hlt : i < ops.size := by
      have := (List.getElem?_eq_some_iff.1 hi).1
      omega
    obtain ⟨o, ho⟩ := lt_some hlt
    obtain ⟨⟨t', g1, g2, g3, g4, g5⟩, _⟩ := sp i o ho
    rw [hi] at g1; cases g1
    exact ⟨hlt, g4, g3, g5, g2⟩
  have trs_of : ∀ i, i < ops.size → ∃ t, q.trs[i]? = some t ∧ t.kd = kd i ∧ t.cnt = C i := by
    intro i hi
    obtain ⟨o, ho⟩ := lt_some hi
    obtain ⟨⟨t', g1, g2, g3, g4, g5⟩, _⟩ := sp i o ho
    exact ⟨t', g1, g4, g3⟩
  have step : ∀ i, i < ops.size → C i ≤ C (i + 1) ∧ X i ≤ X (i + 1) ∧ (kd i = .loud → C (i + 1) = C i + 1) ∧ (∀ x b, kd i = .made x b → x = X i ∧ X (i + 1) = X i + 1) ∧ (kd i ≠ .loud → C (i + 1) = C i) := by
    intro i hi
    obtain ⟨o, ho⟩ := lt_some hi
    obtain ⟨_, _, _, hk⟩ := sp i o ho
    cases hkd : kd i with
    | skip => rw [hkd] at hk; obtain ⟨_, _, a, b⟩ := hk; exact ⟨by omega, by omega, by simp, by simp, by simp; omega⟩
    | quiet => rw [hkd] at hk; obtain ⟨_, _, _, a, b⟩ := hk; exact ⟨by omega, by omega, by simp, by simp, by simp; omega⟩
    | made x b =>
      rw [hkd] at hk; obtain ⟨a1, _, _, a, b⟩ := hk
      exact ⟨by omega, by omega, by simp, by intro x' b' e; cases e; exact ⟨a1, b⟩, by simp; omega⟩
    | loud => rw [hkd] at hk; obtain ⟨_, _, _, a, b⟩ := hk; exact ⟨by omega, by omega, by intro _; exact a, by simp, by simp⟩
  have mono : ∀ d i, i + d ≤ ops.size → C i ≤ C (i + d) ∧ X i ≤ X (i + d) := by
    intro d
    induction d with
    | zero => intro i _; exact ⟨Nat.le_refl _, Nat.le_refl _⟩
    | succ d ih =>
      intro i hi
      have h1 := ih i (by omega)
      have h2 := step (i + d) (by omega)
      rw [← Nat.add_assoc]
      exact ⟨Nat.le_trans h1.1 h2.1, Nat.le_trans h1.2 h2.2.1⟩
  have monoC : ∀ i m, i ≤ m → m ≤ ops.size → C i ≤ C m ∧ X i ≤ X m := by
    intro i m h1 h2
    have := mono (m - i) i (by omega)
    rwa [show i + (m - i) = m by omega] at this
  let k := q.hs.length
  have hkC : C ops.size = k := by rw [cn]; simp [k]
  let β : Nat → H := fun j => ((h0 :: q.hs)[j]?).getD h0
  have β0 : β 0 = h0 := by simp [β]
  have βS : ∀ i, i < ops.size → kd i = .loud → β (C i + 1) = T (i + 1) := by
    intro i hi hk
    obtain ⟨o, ho⟩ := lt_some hi
    obtain ⟨_, _, _, hs⟩ := sp i o ho
    rw [hk] at hs
    obtain ⟨_, h2, _⟩ := hs
    simp only [β, List.getElem?_cons_succ]
    simp only [Nat.sub_zero] at h2
    rw [h2]; rfl
  -- the checks
  unfold drawOk at hd
  simp only [Bool.and_eq_true] at hd
  obtain ⟨hstat, hrest⟩ := hd
  obtain ⟨s1, s2, s3⟩ := staticFast_spec hstat
  have hids : ∀ i m x b c, i < ops.size → m < ops.size → kd i = .made x b → kd m = .made x c → i = m := by
    intro i m x b c hi hm h1 h2
    have a1 := (step i hi).2.2.2.1 x b h1
    have a2 := (step m hm).2.2.2.1 x c h2
    rcases Nat.lt_trichotomy i m with hh | hh | hh
    · have := (monoC (i + 1) m (by omega) (by omega)).2; omega
    · exact hh
    · have := (monoC (m + 1) i (by omega) (by omega)).2; omega
  have hinj : ∀ i m, i < ops.size → m < ops.size → kd i = .loud → kd m = .loud → C i = C m → i = m := by
    intro i m hi hm h1 h2 he
    have a1 := (step i hi).2.2.1 h1
    have a2 := (step m hm).2.2.1 h2
    rcases Nat.lt_trichotomy i m with hh | hh | hh
    · have := (monoC (i + 1) m (by omega) (by omega)).1; omega
    · exact hh
    · have := (monoC (m + 1) i (by omega) (by omega)).1; omega
  have hloudk : ∀ i, i < ops.size → kd i = .loud → C i < k := by
    intro i hi hk
    have a1 := (step i hi).2.2.1 hk
    have := (monoC (i + 1) ops.size (by omega) (by omega)).1
    omega
  have hall : ∀ j, j < k → ∃ i, i < ops.size ∧ kd i = .loud ∧ C i = j := by
    intro j hj
    have : ∀ n, n ≤ ops.size → j < C n → ∃ i, i < n ∧ kd i = .loud ∧ C i = j := by
      intro n
      induction n with
      | zero => intro _ h; rw [c0] at h; omega
      | succ n ih =>
        intro hn hjn
        by_cases hc : j < C n
        · obtain ⟨i, h1, h2⟩ := ih (by omega) hc
          exact ⟨i, by omega, h2⟩
        · have hst := step n (by omega)
          by_cases hl : kd n = .loud
          · exact ⟨n, by omega, hl, by have := hst.2.2.1 hl; omega⟩
          · have := hst.2.2.2.2 hl; omega
    exact this ops.size (Nat.le_refl _) (by omega)
  have hseg : ∀ j, j ≤ k → ∃ e, e ≤ ops.size ∧ C e = j ∧ ((e = ops.size ∧ j = k) ∨ (e < ops.size ∧ kd e = .loud)) := by
    intro j hj
    rcases Nat.lt_or_ge j k with h1 | h1
    · obtain ⟨i, g1, g2, g3⟩ := hall j h1
      exact ⟨i, by omega, g3, .inr ⟨g1, g2⟩⟩
    · exact ⟨ops.size, Nat.le_refl _, by omega, .inl ⟨rfl, by omega⟩⟩
  have hm : ∀ i x b, i < ops.size → kd i = .made x b → (i, C i, x, b) ∈ madesOf q.trs := by
    intro i x b hi hk
    obtain ⟨t, g1, g2, g3⟩ := trs_of i hi
    exact mem_mades.2 ⟨t, g1, by rw [g2, hk], g3⟩
  have hl : ∀ i, i < ops.size → kd i = .loud → (i, C i) ∈ loudsOf q.trs := by
    intro i hi hk
    obtain ⟨t, g1, g2, g3⟩ := trs_of i hi
    exact mem_louds.2 ⟨t, g1, by rw [g2, hk], g3⟩
  have checks : chainOk (ancs ops.toList) (loudsOf q.trs) = true ∧ madeOk (ancs ops.toList) (loudsOf q.trs) (madesOf q.trs) = true ∧ asideOk (madesOf q.trs) (h0 :: q.hs) = true ∧ (stillOk P ops.toList (ancs ops.toList) (loudsOf q.trs) (madesOf q.trs) q.trs (h0 :: q.hs) = true ∨ (loudsOf q.trs = [] ∧ madesOf q.trs = [])) := by
    cases hc : ((loudsOf q.trs).isEmpty && (madesOf q.trs).isEmpty) with
    | true =>
      simp only [Bool.and_eq_true, List.isEmpty_iff] at hc
      rw [hc.1, hc.2]
      exact ⟨by simp [chainOk], by simp [madeOk], by simp [asideOk], .inr ⟨rfl, rfl⟩⟩
    | false =>
      rw [hc] at hrest
      simp only [Bool.and_eq_true] at hrest
      exact ⟨hrest.1, hrest.2.1, hrest.2.2.1, .inl hrest.2.2.2⟩
  obtain ⟨hchain, hmade, haside, hstill⟩ := checks
  unfold chainOk at hchain
  unfold madeOk at hmade
  unfold asideOk at haside
  rw [List.all_eq_true] at hchain hmade haside
  have hlim : ∀ i x b, i < ops.size → kd i = .made x b → x < limit := by
    intro i x b hi hk
    have := haside _ (hm i x b hi hk)
    simp only [Bool.and_eq_true] at this
    exact blt_iff.1 this.1
  have hAs : ∀ i x b, i < ops.size → kd i = .made x b → ∀ j, j ≤ C i → j ≤ k → (β j).get x = none := by
    intro i x b hi hk j h1 h2
    have := haside _ (hm i x b hi hk)
    simp only [Bool.and_eq_true] at this
    have hj : (h0 :: q.hs)[j]? = some (β j) := by
      simp only [β]
      rw [List.getElem?_eq_getElem (by simp [k] at h2 ⊢; omega)]
      rfl
    have h3 := List.all_eq_true.1 this.2 _ (mem_zipIdx.2 hj)
    simp only [ble_iff.2 h1, Bool.not_true, Bool.false_or, Option.isNone_iff_eq_none] at h3
    exact h3
  -- the memory along the text
  have hT : ∀ i, i ≤ ops.size → (T i).next = (β (C i)).next ∧ ∀ y b, (T i).get y = some b ↔ (∃ m, m < i ∧ kd m = .made y b ∧ C m = C i) ∨ ((∀ m c, m < i → kd m = .made y c → C m ≠ C i) ∧ (β (C i)).get y = some b) := by
    intro i
    induction i with
    | zero =>
      intro _
      rw [t0, c0, β0]
      exact ⟨rfl, fun y b => by simp⟩
    | succ i ih =>
      intro hi
      obtain ⟨ih1, ih2⟩ := ih (by omega)
      obtain ⟨o, ho⟩ := lt_some (ops := ops) (i := i) (by omega)
      obtain ⟨_, _, _, hk⟩ := sp i o ho
      have same : T (i + 1) = T i → C (i + 1) = C i → (∀ x b, kd i ≠ .made x b) → (T (i + 1)).next = (β (C (i + 1))).next ∧ ∀ y b, (T (i + 1)).get y = some b ↔ (∃ m, m < i + 1 ∧ kd m = .made y b ∧ C m = C (i + 1)) ∨ ((∀ m c, m < i + 1 → kd m = .made y c → C m ≠ C (i + 1)) ∧ (β (C (i + 1))).get y = some b) := by
        intro e1 e2 e3
        rw [e1, e2]
        refine ⟨ih1, fun y b => ?_⟩
        rw [ih2 y b]
        constructor
        · rintro (⟨m, h1, h2⟩ | ⟨h1, h2⟩)
          · exact .inl ⟨m, by omega, h2⟩
          · refine .inr ⟨fun m c hm hmk => ?_, h2⟩
            by_cases e : m = i
            · subst e; exact absurd hmk (e3 _ _)
            · exact h1 m c (by omega) hmk
        · rintro (⟨m, h1, h2, h3⟩ | ⟨h1, h2⟩)
          · by_cases e : m = i
            · subst e; exact absurd h2 (e3 _ _)
            · exact .inl ⟨m, by omega, h2, h3⟩
          · exact .inr ⟨fun m c hm hmk => h1 m c (by omega) hmk, h2⟩
      cases hkd : kd i with
      | skip => rw [hkd] at hk; obtain ⟨_, a1, a2, _⟩ := hk; exact same a1 a2 (by simp [hkd])
      | quiet => rw [hkd] at hk; obtain ⟨_, _, a1, a2, _⟩ := hk; exact same a1 a2 (by simp [hkd])
      | made x b0 =>
        rw [hkd] at hk
        obtain ⟨_, _, a1, a2, _⟩ := hk
        have hx := hlim i x b0 (by omega) hkd
        rw [a1, a2]
        refine ⟨ih1, fun y b => ?_⟩
        rw [H.get_put _ _ _ _ (by unfold limit at hx; omega)]
        by_cases e : y = x
        · subst e
          rw [if_pos rfl]
          constructor
          · intro e2; cases e2; exact .inl ⟨i, by omega, hkd, rfl⟩
          · rintro (⟨m, h1, h2, h3⟩ | ⟨h1, h2⟩)
            · have := hids m i y b b0 (by omega) (by omega) h2 hkd
              subst this
              rw [hkd] at h2; cases h2; rfl
            · exact absurd rfl (h1 i b0 (by omega) hkd)
        · rw [if_neg e, ih2 y b]
          constructor
          · rintro (⟨m, h1, h2⟩ | ⟨h1, h2⟩)
            · exact .inl ⟨m, by omega, h2⟩
            · refine .inr ⟨fun m c hm hmk => ?_, h2⟩
              by_cases e2 : m = i
              · subst e2; rw [hkd] at hmk; cases hmk; exact absurd rfl e
              · exact h1 m c (by omega) hmk
          · rintro (⟨m, h1, h2, h3⟩ | ⟨h1, h2⟩)
            · by_cases e2 : m = i
              · subst e2; rw [hkd] at h2; cases h2; exact absurd rfl e
              · exact .inl ⟨m, by omega, h2, h3⟩
            · exact .inr ⟨fun m c hm hmk => h1 m c (by omega) hmk, h2⟩
      | loud =>
        have hb := βS i (by omega) hkd
        have hc := (step i (by omega)).2.2.1 hkd
        rw [hc, hb]
        refine ⟨rfl, fun y b => ?_⟩
        have hno : ∀ m c, m < i + 1 → kd m = .made y c → C m ≠ C i + 1 := by
          intro m c hm _
          have := (monoC m i (by omega) (by omega)).1
          omega
        constructor
        · intro hg; exact .inr ⟨hno, hg⟩
        · rintro (⟨m, h1, h2, h3⟩ | ⟨_, h2⟩)
          · exact absurd h3 (hno m b h1 h2)
          · exact h2
  -- the ends of the stretches
  let e : Nat → Nat := fun j => if hj : j ≤ k then Classical.choose (hseg j hj) else 0
  have he : ∀ j, j ≤ k → e j ≤ ops.size ∧ C (e j) = j ∧ ((e j = ops.size ∧ j = k) ∨ (e j < ops.size ∧ kd (e j) = .loud)) := by
    intro j hj
    have := Classical.choose_spec (hseg j hj)
    simp only [e, dif_pos hj]
    exact this
  have hτ : ∀ j, j ≤ k → (T (e j)).next = (β j).next ∧ ∀ y b, (T (e j)).get y = some b ↔ (∃ m, m < ops.size ∧ kd m = .made y b ∧ C m = j) ∨ ((∀ m c, m < ops.size → kd m = .made y c → C m ≠ j) ∧ (β j).get y = some b) := by
    intro j hj
    obtain ⟨h1, h2, h3⟩ := he j hj
    obtain ⟨g1, g2⟩ := hT (e j) h1
    rw [h2] at g1 g2
    have hlow : ∀ m y c, m < ops.size → kd m = .made y c → C m = j → m < e j := by
      intro m y c hm hk hc
      rcases h3 with ⟨h3, _⟩ | ⟨h3, h4⟩
      · omega
      · rcases Nat.lt_trichotomy m (e j) with hh | hh | hh
        · exact hh
        · rw [hh, h4] at hk; cases hk
        · have a1 := (step (e j) h3).2.2.1 h4
          have a2 := (monoC (e j + 1) m (by omega) (by omega)).1
          omega
    refine ⟨g1, fun y b => ?_⟩
    rw [g2 y b]
    constructor
    · rintro (⟨m, k1, k2⟩ | ⟨k1, k2⟩)
      · exact .inl ⟨m, by omega, k2⟩
      · exact .inr ⟨fun m c hm hk hc => k1 m c (hlow m y c hm hk hc) hk hc, k2⟩
    · rintro (⟨m, k1, k2, k3⟩ | ⟨k1, k2⟩)
      · exact .inl ⟨m, hlow m y b k1 k2 k3, k2, k3⟩
      · exact .inr ⟨fun m c hm hk => k1 m c (by omega) hk, k2⟩
  have hek : e k = ops.size := by
    obtain ⟨h1, h2, h3⟩ := he k (Nat.le_refl _)
    rcases h3 with ⟨h3, _⟩ | ⟨h3, h4⟩
    · exact h3
    · have := hloudk (e k) h3 h4; omega
  refine ⟨F, v, kd, C, β, fun j => T (e j), k, fun i m => ((ancs ops.toList).getD i 0).testBit m = true, fun i j => stateAt (ancs ops.toList) i j (β j) (madesOf q.trs), ?_, f0, fn, β0, ?_⟩
  · refine { back := s1, step := fun i m h => ?_, distinct := s2, reads := s3, want := fun i o ho => (sp i o ho).2.1, put := fun i o ho => (sp i o ho).2.2.1, skip := fun i hk => ?_, quiet := fun i o ho hk => ?_, made := fun i o x b ho hk => ?_, ids := hids, loud := fun i o ho hk => ?_, inj := hinj, chain := fun i m hi hm2 h1 h2 h3 => ?_, madeAnc := fun i m x b hi hm2 h1 h2 h3 => ?_, aside := hAs, madeK := fun i x b hi hk => ?_, tauN := fun j hj => (hτ j hj).1, tau := fun j hj => (hτ j hj).2, EN := fun i j => stateAt_next _ _ _ _ _, Eg := fun i j y b hj hg => ?_, endN := ?_, endG := fun y b hg => ?_, all := hall }
    · obtain ⟨o, e, h1, h2⟩ := ancs_step h
      exact ⟨o, e, by rw [← Array.getElem?_toList]; exact h1, h2⟩
    · rcases Nat.lt_or_ge i ops.size with hi | hi
      · obtain ⟨o, ho⟩ := lt_some hi
        have := (sp i o ho).2.2.2
        rw [hk] at this
        exact this.1
      · simp only [v]
        rw [List.getElem?_eq_none (by omega)]
        rfl
    · have hs := (sp i o ho).2.2.2
      rw [hk] at hs
      obtain ⟨h1, ⟨u, h2⟩, _⟩ := hs
      refine ⟨h1, fun j hj hc1 hc2 => ?_⟩
      cases hr : readOp o.op with
      | false =>
        obtain ⟨v', g1, g2⟩ := pure_same o.op h1 hr h2 (h2 := stateAt (ancs ops.toList) i j (β j) (madesOf q.trs))
        cases g1
        exact ⟨_, g2⟩
      | true =>
        rcases hstill with hstill | ⟨n1, n2⟩
        · unfold stillOk at hstill
          rw [List.all_eq_true] at hstill
          obtain ⟨⟨t, g1, g2, g3, g4, g5⟩, _⟩ := sp i o ho
          have hz : (ops.toList.zip q.trs)[i]? = some (o, t) := by
            rw [List.getElem?_zip_eq_some]
            exact ⟨by rw [Array.getElem?_toList]; exact ho, g1⟩
          have h3 := hstill _ (mem_zipIdx.2 hz)
          simp only [g4, hk, isQuiet, hr, Bool.and_self, Bool.not_true, Bool.false_or] at h3
          have hj2 : (h0 :: q.hs)[j]? = some (β j) := by
            simp only [β]
            rw [List.getElem?_eq_getElem (by simp [k] at hj ⊢; omega)]
            rfl
          have h4 := List.all_eq_true.1 h3 _ (mem_zipIdx.2 hj2)
          have hcomp : compat (ancs ops.toList) (loudsOf q.trs) i j = true := by
            unfold compat
            rw [List.all_eq_true]
            rintro ⟨m, c⟩ hmem
            obtain ⟨t2, k1, k2, k3⟩ := mem_louds.1 hmem
            obtain ⟨a1, a2, a3, _⟩ := trk m t2 k1
            have hml : kd m = .loud := by rw [← a2, k2]
            simp only
            split
            · rename_i hlt
              have := hc1 m a1 hml (by omega)
              simpa using this
            · rename_i hlt
              have := hc2 m a1 hml (by omega)
              simpa using this
          simp only [hcomp, Bool.not_true, Bool.false_or] at h4
          rw [g2, g5] at h4
          exact sameVal_eq h4
        · have hk0 : k = 0 := by
            rcases Nat.eq_zero_or_pos k with h3 | h3
            · exact h3
            · obtain ⟨m, a1, a2, a3⟩ := hall 0 h3
              have := hl m a1 a2
              rw [n1] at this; simp at this
          have hj0 : j = 0 := by omega
          subst hj0
          rw [n2]
          have hTh : ∀ m, m ≤ i → T m = h0 := by
            intro m
            induction m with
            | zero => intro _; exact t0
            | succ m ih =>
              intro hm2
              have hlt := some_lt ho
              obtain ⟨o2, ho2⟩ := lt_some (ops := ops) (i := m) (by omega)
              have hs2 := (sp m o2 ho2).2.2.2
              have ih := ih (by omega)
              cases hkd : kd m with
              | skip => rw [hkd] at hs2; rw [hs2.2.1, ih]
              | quiet => rw [hkd] at hs2; rw [hs2.2.2.1, ih]
              | made x b =>
                have := hm m x b (by omega) hkd
                rw [n2] at this; simp at this
              | loud =>
                have := hl m (by omega) hkd
                rw [n1] at this; simp at this
          rw [hTh i (Nat.le_refl _)] at h2
          refine ⟨u, ?_⟩
          show op? o.op P (F i) (β 0) = _
          rw [β0]; exact h2
    · have hs := (sp i o ho).2.2.2
      rw [hk] at hs
      exact ⟨hs.2.1, hlim i x b (some_lt ho) hk, alloc_own hs.2.1⟩
    · have hs := (sp i o ho).2.2.2
      rw [hk] at hs
      obtain ⟨⟨res, g1, g2⟩, _⟩ := hs
      have hlt := some_lt ho
      have hck := hloudk i hlt hk
      have hei : e (C i) = i := by
        obtain ⟨h1, h2, h3⟩ := he (C i) (by omega)
        rcases h3 with ⟨_, h3⟩ | ⟨h3, h4⟩
        · omega
        · exact hinj _ _ h3 hlt h4 hk h2
      refine ⟨hck, res, ?_, ?_⟩
      · show op? o.op P (F i) (T (e (C i))) = _
        rw [hei]; exact g1
      · show valOf P rec (T (e (C i))) res = _
        rw [hei, βS i hlt hk]; exact g2
    · have h4 := List.all_eq_true.1 (hchain _ (hl i hi h1)) _ (hl m hm2 h2)
      simp only [blt_iff.2 h3, Bool.not_true, Bool.false_or] at h4
      exact h4
    · have h4 := List.all_eq_true.1 (hmade _ (hm i x b hi h1)) _ (hl m hm2 h2)
      simp only [ble_iff.2 h3, Bool.not_true, Bool.false_or] at h4
      exact h4
    · have := (monoC i ops.size (by omega) (Nat.le_refl _)).1
      omega
    · rcases stateAt_get _ i j y b (madesOf q.trs) (β j) (fun p hp => by
          obtain ⟨p1, p2, p3, p4⟩ := p
          obtain ⟨t2, k1, k2, k3⟩ := mem_mades.1 hp
          obtain ⟨a1, a2, a3, _⟩ := trk p1 t2 k1
          exact hlim p1 p3 p4 a1 (by rw [← a2, k2])) hg with ⟨m, c, g1, g2, g3⟩ | ⟨g1, g2⟩
      · obtain ⟨t2, k1, k2, k3⟩ := mem_mades.1 g1
        obtain ⟨a1, a2, a3, _⟩ := trk m t2 k1
        exact .inl ⟨m, a1, g3, by rw [← a2, k2], by omega⟩
      · exact .inr ⟨fun m c hm2 hk hh => g1 m (C m) c (hm m y c hm2 hk) hh, g2⟩
    · have := (hτ k (Nat.le_refl _)).1
      rw [hek, tn] at this
      exact this
    · have := ((hτ k (Nat.le_refl _)).2 y b).1
      rw [hek, tn] at this
      exact this hg
  · intro i x b hi hk
    have a1 := (step i hi).2.2.2.1 x b hk
    have a2 := (monoC 0 i (by omega) (by omega)).2
    have a3 := (monoC (i + 1) ops.size (by omega) (by omega)).2
    omega
end Go.X
