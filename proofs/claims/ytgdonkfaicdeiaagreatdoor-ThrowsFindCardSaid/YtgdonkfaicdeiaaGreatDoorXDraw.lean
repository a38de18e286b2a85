/-
  A region whose order is drawn: what the machine has run in the text's order holds in each order.
-/
import Derived.Test.YtgdonkfaicdeiaaGreatDoorXFrame
import Derived.Orders
set_option linter.unusedVariables false
set_option linter.unusedSimpArgs false
set_option linter.unusedSectionVars false
namespace Go.X
open Go.RowKit

variable [Tab]
variable {P : Program} {B : Kp} {w0 : World} {μ μ' : M} {h h' : H} {w w' : World} {nt : Nat} {a : Act}

/- blocks that are kept aside, several of them -/
noncomputable def putAll (h : H) : List (Nat × Blk) → H
  | [] => h
  | p :: l => (putAll h l).put p.1 p.2

theorem putAll_next (h : H) : ∀ l, (putAll h l).next = h.next
  | [] => rfl
  | _ :: l => putAll_next h l

theorem HR.hideAll : ∀ (xs : List (Nat × Blk)) (B : Kp) (w0 : World) (h : H), HR B w0 μ h w → (∀ p ∈ xs, h.get p.1 = some p.2 ∧ own p.2 = true ∧ p.1 < limit) → (xs.map (·.1)).Nodup →
    ∃ B' w1 h2, HR B' w1 μ h2 w ∧ B'.res = B.res ∧ h2.next = h.next ∧ (∀ y, h2.get y = if y ∈ xs.map (·.1) then none else h.get y) ∧
      ∀ μ' h' w', Ext μ μ' → HR B' w1 μ' h' w' → (∀ p ∈ xs, p.1 < h'.next) → HR B w0 μ' (putAll h' xs) w'
  | [], B, w0, h, r, hx, hn => ⟨B, w0, h, r, rfl, rfl, fun y => by simp, fun μ' h' w' _ r' _ => r'⟩
  | p :: xs, B, w0, h, r, hx, hn => by
    obtain ⟨hg, ho, hlim⟩ := hx p (by simp)
    obtain ⟨l, hl⟩ := r.live hg
    have r1 := r.hide hg hl ho
    simp only [List.map_cons, List.nodup_cons] at hn
    obtain ⟨B', w1, h2, g1, g2, g3, g4, g5⟩ := HR.hideAll xs (B.with l.block) w (h.kill p.1) r1 (fun q hq => by
      obtain ⟨k1, k2, k3⟩ := hx q (by simp [hq])
      refine ⟨?_, k2, k3⟩
      rw [H.get_kill, if_neg]
      · exact k1
      · intro e
        exact hn.1 (e ▸ List.mem_map_of_mem hq)) hn.2
    refine ⟨B', w1, h2, g1, g2, g3, fun y => ?_, fun μ' h' w' he r' hlt => ?_⟩
    · rw [g4 y, H.get_kill]
      by_cases c1 : y ∈ xs.map (·.1)
      · rw [if_pos c1, if_pos (by simp only [List.map_cons, List.mem_cons]; exact .inr c1)]
      · rw [if_neg c1]
        by_cases c2 : y = p.1
        · rw [if_pos c2, if_pos (by simp [c2])]
        · rw [if_neg c2, if_neg]
          simp only [List.map_cons, List.mem_cons]
          intro hh
          rcases hh with hh | hh
          · exact c2 hh
          · exact c1 hh
    · have r2 := g5 μ' h' w' he r' (fun q hq => hlt q (by simp [hq]))
      exact r.unhide hg hl ho (by unfold limit at hlim; omega) (by rw [putAll_next]; exact hlt p (by simp)) he r2

theorem putAll_get (h : H) : ∀ (xs : List (Nat × Blk)), (∀ p ∈ xs, p.1 < limit) → (xs.map (·.1)).Nodup → ∀ y b, (putAll h xs).get y = some b ↔ (y, b) ∈ xs ∨ (y ∉ xs.map (·.1) ∧ h.get y = some b)
  | [], _, _, y, b => by simp [putAll]
  | p :: xs, hl, hn, y, b => by
    simp only [List.map_cons, List.nodup_cons] at hn
    have hlim := hl p (by simp)
    have ih := putAll_get h xs (fun q hq => hl q (by simp [hq])) hn.2 y b
    simp only [putAll]
    rw [H.get_put _ _ _ _ (by unfold limit at hlim; omega)]
    by_cases c : y = p.1
    · subst c
      rw [if_pos rfl]
      constructor
      · intro e; cases e; exact .inl (by simp)
      · rintro (hm | ⟨hm, _⟩)
        · simp only [List.mem_cons] at hm
          rcases hm with hm | hm
          · rw [← hm]
          · exact absurd (List.mem_map_of_mem (f := (·.1)) hm) hn.1
        · simp at hm
    · rw [if_neg c, ih]
      constructor
      · rintro (hm | ⟨hm, hg⟩)
        · exact .inl (by simp [hm])
        · exact .inr ⟨by simp only [List.map_cons, List.mem_cons]; rintro (e | e); exact c e; exact hm e, hg⟩
      · rintro (hm | ⟨hm, hg⟩)
        · simp only [List.mem_cons] at hm
          rcases hm with hm | hm
          · exact absurd (congrArg Prod.fst hm) c
          · exact .inl hm
        · exact .inr ⟨fun e => hm (by simp only [List.map_cons, List.mem_cons]; exact .inr e), hg⟩

def kdWant : Kd → Bool
  | .skip => false
  | _ => true

/-- What the machine's run in the text's order shows. -/
structure Plan (P : Program) (rec : Rec) (nt : Nat) (ops : Array Oper) (fr : Nat → Fr) (v : Nat → AV) (kd : Nat → Kd) (cnt : Nat → Nat) (β τ : Nat → H) (k : Nat) (anc : Nat → Nat → Prop) (E : Nat → Nat → H) (hEnd : H) : Prop where
  back : ∀ (i : Nat) (o : Oper), ops[i]? = some o → ∀ e ∈ o.after.toList, Region.binds .any e = true → e.on < i
  step : ∀ i m, anc i m → ∃ o e, ops[i]? = some o ∧ e ∈ o.after.toList ∧ Region.binds .any e = true ∧ (m = e.on ∨ anc e.on m)
  distinct : ∀ (i j : Nat) (o q : Oper) (d : Nat), i ≠ j → ops[i]? = some o → ops[j]? = some q → o.dst = some d → q.dst ≠ some d
  reads : ∀ (i m : Nat) (o q : Oper) (d : Nat), i ≠ m → ops[i]? = some o → ops[m]? = some q → q.dst = some d → d ∈ readsOf ops.toList o → (m < i ∧ anc i m) ∨ (i < m ∧ anc m i)
  want : ∀ (i : Nat) (o : Oper), ops[i]? = some o → wanted? ops.toList (fr i) o.guard = some (kdWant (kd i))
  put : ∀ (i : Nat) (o : Oper), ops[i]? = some o → put? nt o.dst (v i) (fr i) = some (fr (i + 1))
  skip : ∀ i, kd i = .skip → v i = .undef
  quiet : ∀ (i : Nat) (o : Oper), ops[i]? = some o → kd i = .quiet → quietOp o.op P = true ∧ ∀ j, j ≤ k → (∀ m, m < ops.size → kd m = .loud → cnt m < j → ¬ anc m i) → (∀ m, m < ops.size → kd m = .loud → j ≤ cnt m → ¬ anc i m) → ∃ u, op? o.op P (fr i) (E i j) = some (.val (v i) u)
  made : ∀ (i : Nat) (o : Oper) (x : Nat) (b : Blk), ops[i]? = some o → kd i = .made x b → alloc? o.op P (fr i) x = some (b, v i) ∧ x < limit ∧ own b = true
  ids : ∀ i m x b c, i < ops.size → m < ops.size → kd i = .made x b → kd m = .made x c → i = m
  loud : ∀ (i : Nat) (o : Oper), ops[i]? = some o → kd i = .loud → cnt i < k ∧ ∃ res, op? o.op P (fr i) (τ (cnt i)) = some res ∧ valOf P rec (τ (cnt i)) res = some (v i, β (cnt i + 1))
  inj : ∀ i m, i < ops.size → m < ops.size → kd i = .loud → kd m = .loud → cnt i = cnt m → i = m
  chain : ∀ i m, i < ops.size → m < ops.size → kd i = .loud → kd m = .loud → cnt i < cnt m → anc m i
  madeAnc : ∀ i m x b, i < ops.size → m < ops.size → kd i = .made x b → kd m = .loud → cnt i ≤ cnt m → anc m i
  aside : ∀ i x b, i < ops.size → kd i = .made x b → ∀ j, j ≤ cnt i → j ≤ k → (β j).get x = none
  madeK : ∀ i x b, i < ops.size → kd i = .made x b → cnt i ≤ k
  tauN : ∀ j, j ≤ k → (τ j).next = (β j).next
  tau : ∀ j, j ≤ k → ∀ y b, (τ j).get y = some b ↔ (∃ m, m < ops.size ∧ kd m = .made y b ∧ cnt m = j) ∨ ((∀ m c, m < ops.size → kd m = .made y c → cnt m ≠ j) ∧ (β j).get y = some b)
  EN : ∀ i j, (E i j).next = (β j).next
  Eg : ∀ i j y b, j ≤ k → (E i j).get y = some b → (∃ m, m < ops.size ∧ anc i m ∧ kd m = .made y b ∧ j ≤ cnt m) ∨ ((∀ m c, m < ops.size → kd m = .made y c → ¬ (anc i m ∧ j ≤ cnt m)) ∧ (β j).get y = some b)
  endN : hEnd.next = (β k).next
  endG : ∀ y b, hEnd.get y = some b → (∃ m, m < ops.size ∧ kd m = .made y b ∧ cnt m = k) ∨ ((∀ m c, m < ops.size → kd m = .made y c → cnt m ≠ k) ∧ (β k).get y = some b)
  all : ∀ j, j < k → ∃ i, i < ops.size ∧ kd i = .loud ∧ cnt i = j

variable {rec : Rec} {ops : Array Oper} {fr : Nat → Fr} {v : Nat → AV} {kd : Nat → Kd} {cnt : Nat → Nat} {β τ : Nat → H} {k : Nat} {anc : Nat → Nat → Prop} {E : Nat → Nat → H} {hEnd : H}

theorem some_lt {i : Nat} {o : Oper} (h : ops[i]? = some o) : i < ops.size := (Array.getElem?_eq_some_iff.1 h).1
theorem lt_some {i : Nat} (h : i < ops.size) : ∃ o, ops[i]? = some o := ⟨ops[i], by simp [h]⟩

/-- what stands behind is listed -/
theorem Plan.closed (p : Plan P rec nt ops fr v kd cnt β τ k anc E hEnd) {L : Nat → Prop} (hL : ∀ i o, ops[i]? = some o → L i → ∀ e ∈ o.after.toList, Region.binds .any e = true → L e.on) : ∀ (i : Nat), (∀ o, ops[i]? = some o → ∀ e ∈ o.after.toList, Region.binds .any e = true → L e.on) → ∀ m, anc i m → L m := by
  intro i
  induction i using Nat.strongRecOn with
  | _ i ih =>
    intro hi m hm
    obtain ⟨o, e, ho, he, hb, hme⟩ := p.step i m hm
    rcases hme with rfl | hme
    · exact hi o ho e he hb
    · exact ih e.on (p.back i o ho e he hb) (fun o' ho' => hL e.on o' ho' (hi o ho e he hb)) m hme

/-- the frame ahead of an operation -/
theorem Plan.frame (p : Plan P rec nt ops fr v kd cnt β τ k anc E hEnd) : ∀ (i : Nat), i ≤ ops.size → ∀ t, (∃ m o, m < i ∧ ops[m]? = some o ∧ o.dst = some t ∧ (fr i).get t = some (v m)) ∨ ((∀ m o, m < i → ops[m]? = some o → o.dst ≠ some t) ∧ (fr i).get t = (fr 0).get t)
  | 0, _, t => .inr ⟨fun m o hm => by omega, rfl⟩
  | i + 1, hi, t => by
    obtain ⟨o, ho⟩ := lt_some (ops := ops) (i := i) (by omega)
    have hput := p.put i o ho
    rcases put_some hput with ⟨hd, he⟩ | ⟨d, hd, h1, h2, he⟩
    · rw [he]
      rcases p.frame i (by omega) t with ⟨m, q, hm, hq, hqd, hg⟩ | ⟨hn, hg⟩
      · exact .inl ⟨m, q, by omega, hq, hqd, hg⟩
      · refine .inr ⟨fun m q hm hq hqd => ?_, hg⟩
        by_cases c : m = i
        · subst c; rw [ho] at hq; cases hq; rw [hd] at hqd; simp at hqd
        · exact hn m q (by omega) hq hqd
    · rw [he, T.get_put _ _ _ _ (Nat.lt_of_lt_of_le h2 (by unfold limit; omega))]
      by_cases c : t = d
      · subst c
        exact .inl ⟨i, o, by omega, ho, hd, by rw [if_pos rfl]⟩
      · rw [if_neg c]
        rcases p.frame i (by omega) t with ⟨m, q, hm, hq, hqd, hg⟩ | ⟨hn, hg⟩
        · exact .inl ⟨m, q, by omega, hq, hqd, hg⟩
        · refine .inr ⟨fun m q hm hq hqd => ?_, hg⟩
          by_cases c2 : m = i
          · subst c2; rw [ho] at hq; cases hq; rw [hd] at hqd; simp at hqd; exact c hqd.symm
          · exact hn m q (by omega) hq hqd

/-- How far a run in some order has come. -/
structure Cfg (B : Kp) (w0 : World) (nt : Nat) (ops : Array Oper) (fr : Nat → Fr) (v : Nat → AV) (kd : Nat → Kd) (cnt : Nat → Nat) (β : Nat → H) (k : Nat) (L : Nat → Prop) (j : Nat) (μ : M) (h : H) (a : Act) (w : World) : Prop where
  jk : j ≤ k
  louds : ∀ i, i < ops.size → kd i = .loud → (L i ↔ cnt i < j)
  closed : ∀ (i : Nat) (o : Oper), ops[i]? = some o → L i → ∀ e ∈ o.after.toList, Region.binds .any e = true → L e.on
  next : h.next = (β j).next
  get : ∀ y b, h.get y = some b ↔ (∃ m, m < ops.size ∧ L m ∧ kd m = .made y b ∧ j ≤ cnt m) ∨ ((∀ m c, m < ops.size → L m → kd m = .made y c → ¬ j ≤ cnt m) ∧ (β j).get y = some b)
  hr : HR (B.aside fun x => B.res x ∨ ∃ m b, m < ops.size ∧ kd m = .made x b ∧ ¬ L m) w0 μ h w
  size : a.tmps.size = nt
  defers : a.defers = []
  done : ∀ (i : Nat) (o : Oper) (d : Nat), ops[i]? = some o → L i → o.dst = some d → ∃ v', a.tmps[d]? = some v' ∧ vrel μ (v i) v'
  old : ∀ (t : Nat) (u : AV), (∀ (i : Nat) (o : Oper), ops[i]? = some o → L i → o.dst ≠ some t) → (fr 0).get t = some u → ∃ v', a.tmps[t]? = some v' ∧ vrel μ u v'

/-- what an operation that may run reads is known -/
theorem Cfg.known (p : Plan P rec nt ops fr v kd cnt β τ k anc E hEnd) {L : Nat → Prop} {j : Nat} (c : Cfg B w0 nt ops fr v kd cnt β k L j μ h a w) {i : Nat} {o : Oper} (ho : ops[i]? = some o) (hi : ¬ L i)
    (hdeps : ∀ e ∈ o.after.toList, Region.binds .any e = true → L e.on) {t : Nat} {u : AV} (ht : t ∈ readsOf ops.toList o) (hg : (fr i).get t = some u) : ∃ v', a.tmps[t]? = some v' ∧ vrel μ u v' := by
  have hlt := some_lt ho
  have hanc : ∀ m, anc i m → L m := p.closed c.closed i (fun o' ho' => by rw [ho] at ho'; cases ho'; exact hdeps)
  have hdesc : ∀ m, anc m i → ¬ L m := fun m hm hLm => hi (p.closed c.closed m (fun o' ho' => c.closed m o' ho' hLm) i hm)
  rcases p.frame i (by omega) t with ⟨m, q, hm, hq, hqd, hgm⟩ | ⟨hn, hg0⟩
  · rw [hgm] at hg; cases hg
    rcases p.reads i m o q t (by omega) ho hq hqd ht with ⟨_, h2⟩ | ⟨h1, _⟩
    · exact c.done m q t hq (hanc m h2) hqd
    · omega
  · rw [hg0] at hg
    refine c.old t u (fun m q hq hLm hqd => ?_) hg
    by_cases e : m = i
    · subst e; exact hi hLm
    · rcases p.reads i m o q t (fun e2 => e e2.symm) ho hq hqd ht with ⟨h1, _⟩ | ⟨_, h2⟩
      · exact hn m q h1 hq hqd
      · exact hdesc m h2 hLm

theorem tmp_reads {o : Oper} {t : Nat} (h : Operand.tmp t ∈ o.op.operands.toList) : t ∈ readsOf ops.toList o := by
  unfold readsOf
  refine List.mem_append.2 (.inl (List.mem_filterMap.2 ⟨_, h, rfl⟩))

theorem guard_reads {o g : Oper} {j : Nat} {b : Bool} {d : Nat} (hg : o.guard = some (j, b)) (hj : ops[j]? = some g) (hd : g.dst = some d) : d ∈ readsOf ops.toList o := by
  unfold readsOf
  refine List.mem_append.2 (.inr ?_)
  rw [hg]
  simp [hj, hd]

/-- an operation has run: the frame -/
theorem Cfg.put_done (p : Plan P rec nt ops fr v kd cnt β τ k anc E hEnd) {L : Nat → Prop} {j : Nat} (c : Cfg B w0 nt ops fr v kd cnt β k L j μ h a w) {i : Nat} {o : Oper} (ho : ops[i]? = some o) (he : Ext μ μ') {v' : Value} (hv : vrel μ' (v i) v') :
    (a.put o.dst v').tmps.size = nt ∧ (a.put o.dst v').defers = [] ∧ (∀ m q d, ops[m]? = some q → (L m ∨ m = i) → q.dst = some d → ∃ u, (a.put o.dst v').tmps[d]? = some u ∧ vrel μ' (v m) u) ∧
    (∀ t u, (∀ m q, ops[m]? = some q → (L m ∨ m = i) → q.dst ≠ some t) → (fr 0).get t = some u → ∃ v2, (a.put o.dst v').tmps[t]? = some v2 ∧ vrel μ' u v2) := by
  have hput := p.put i o ho
  rcases put_some hput with ⟨hd, _⟩ | ⟨d, hd, h1, h2, _⟩
  · simp only [hd, Act.put]
    refine ⟨c.size, c.defers, fun m q d hq hm hqd => ?_, fun t u hn hg => ?_⟩
    · rcases hm with hm | rfl
      · obtain ⟨u, g1, g2⟩ := c.done m q d hq hm hqd
        exact ⟨u, g1, vrel.ext he _ _ g2⟩
      · rw [ho] at hq; cases hq; rw [hd] at hqd; simp at hqd
    · obtain ⟨u2, g1, g2⟩ := c.old t u (fun m q hq hm => hn m q hq (.inl hm)) hg
      exact ⟨u2, g1, vrel.ext he _ _ g2⟩
  · simp only [hd, Act.put, Array.size_setIfInBounds, Array.getElem?_setIfInBounds]
    refine ⟨c.size, c.defers, fun m q d2 hq hm hqd => ?_, fun t u hn hg => ?_⟩
    · by_cases e : m = i
      · subst e
        rw [ho] at hq; cases hq
        rw [hd] at hqd; cases hqd
        rw [if_pos rfl, if_pos (by rw [c.size]; exact h1)]
        exact ⟨v', rfl, hv⟩
      · have hm' : L m := hm.resolve_right e
        obtain ⟨u, g1, g2⟩ := c.done m q d2 hq hm' hqd
        have hne : d ≠ d2 := by
          intro e2; subst e2
          exact p.distinct i m o q d (fun e3 => e e3.symm) ho hq hd hqd
        rw [if_neg hne]
        exact ⟨u, g1, vrel.ext he _ _ g2⟩
    · have hne : d ≠ t := by
        intro e2; subst e2
        exact hn i o ho (.inr rfl) hd
      rw [if_neg hne]
      obtain ⟨u2, g1, g2⟩ := c.old t u (fun m q hq hm => hn m q hq (.inl hm)) hg
      exact ⟨u2, g1, vrel.ext he _ _ g2⟩

theorem kd_loud_ne {i : Nat} (h : kd i = .loud) : ∀ x b, kd i ≠ .made x b := by intro x b e; rw [h] at e; cases e

/-- nothing loud, nothing made: the configuration goes on -/
theorem Cfg.same (p : Plan P rec nt ops fr v kd cnt β τ k anc E hEnd) {L : Nat → Prop} {j : Nat} (c : Cfg B w0 nt ops fr v kd cnt β k L j μ h a w) {i : Nat} {o : Oper} (ho : ops[i]? = some o)
    (hdeps : ∀ e ∈ o.after.toList, Region.binds .any e = true → L e.on) (hk : kd i = .skip ∨ kd i = .quiet) {v' : Value} (hv : vrel μ (v i) v') :
    Cfg B w0 nt ops fr v kd cnt β k (fun m => L m ∨ m = i) j μ h (a.put o.dst v') w := by
  have hnl : kd i ≠ .loud := by rcases hk with e | e <;> rw [e] <;> simp
  have hnm : ∀ x b, kd i ≠ .made x b := by rcases hk with e | e <;> rw [e] <;> simp
  obtain ⟨f1, f2, f3, f4⟩ := c.put_done p ho (Ext.refl μ) hv
  refine ⟨c.jk, fun m hm hmk => ?_, fun m q hq hm e he hb => ?_, c.next, fun y b => ?_, ?_, f1, f2, f3, f4⟩
  · rw [← c.louds m hm hmk]
    constructor
    · rintro (hh | rfl)
      · exact hh
      · exact absurd hmk hnl
    · exact .inl
  · rcases hm with hm | rfl
    · exact .inl (c.closed m q hq hm e he hb)
    · rw [ho] at hq; cases hq; exact .inl (hdeps e he hb)
  · rw [c.get y b]
    constructor
    · rintro (⟨m, h1, h2, h3, h4⟩ | ⟨h1, h2⟩)
      · exact .inl ⟨m, h1, .inl h2, h3, h4⟩
      · refine .inr ⟨fun m c2 hm hL hmk => ?_, h2⟩
        rcases hL with hL | rfl
        · exact h1 m c2 hm hL hmk
        · exact absurd hmk (hnm _ _)
    · rintro (⟨m, h1, h2, h3, h4⟩ | ⟨h1, h2⟩)
      · rcases h2 with h2 | rfl
        · exact .inl ⟨m, h1, h2, h3, h4⟩
        · exact absurd h3 (hnm _ _)
      · exact .inr ⟨fun m c2 hm hL hmk => h1 m c2 hm (.inl hL) hmk, h2⟩
  · refine (c.hr.weaken (h' := h) (Nat.le_refl _) (R := fun x => B.res x ∨ ∃ m b, m < ops.size ∧ kd m = .made x b ∧ ¬ (L m ∨ m = i)) ?_ (fun y b hy => hy))
    intro x hx
    refine c.hr.res x ?_
    rcases hx with hx | ⟨m, b, h1, h2, h3⟩
    · exact .inl hx
    · exact .inr ⟨m, b, h1, h2, fun hL => h3 (.inl hL)⟩

/-- memory is made -/
theorem Cfg.make (p : Plan P rec nt ops fr v kd cnt β τ k anc E hEnd) {L : Nat → Prop} {j : Nat} (c : Cfg B w0 nt ops fr v kd cnt β k L j μ h a w) {i : Nat} {o : Oper} (ho : ops[i]? = some o) (hi : ¬ L i)
    (hdeps : ∀ e ∈ o.after.toList, Region.binds .any e = true → L e.on) {x : Nat} {b : Blk} (hk : kd i = .made x b) (hBr : ¬ B.res x) {next : Act → World → Prop} {Q : Exit → Act → World → Prop}
    (hnext : ∀ a' w' μ' h', Ext μ μ' → Cfg B w0 nt ops fr v kd cnt β k (fun m => L m ∨ m = i) j μ' h' a' w' → next a' w') : o.wp P a w next Q := by
  have hlt := some_lt ho
  obtain ⟨hal, hlim, hown⟩ := p.made i o x b ho hk
  have hev : Ev μ (fr i) a.eval o.op.operands.toList := by
    intro y hy u hu
    refine ev_known (fun t u' ht hg => ?_) hu
    subst ht
    exact c.known p ho hi hdeps (tmp_reads hy) hg
  have hres0 := c.hr.res x (.inr ⟨i, b, hlt, hk, hi⟩)
  have hj : j ≤ cnt i := by
    rcases Nat.lt_or_ge (cnt i) j with hlt2 | hge
    · exfalso
      -- the loud operation at cnt i has run; it hangs on i
      obtain ⟨m, hm, hmk, hmc⟩ := p.all (cnt i) (Nat.lt_of_lt_of_le hlt2 c.jk)
      have hLm := (c.louds m hm hmk).2 (by omega)
      have ha := p.madeAnc i m x b hlt hm hk hmk (by omega)
      exact hi (p.closed c.closed m (fun o' ho' => c.closed m o' ho' hLm) i ha)
    · exact hge
  have hfree : h.get x = none := by
    cases hg : h.get x with
    | none => rfl
    | some b2 =>
      exfalso
      rcases (c.get x b2).1 hg with ⟨m, h1, h2, h3, _⟩ | ⟨_, h2⟩
      · have := p.ids i m x b b2 hlt h1 hk h3
        subst this; exact hi h2
      · rw [p.aside i x b hlt hk j hj c.jk] at h2; simp at h2
  have r1 := c.hr.weaken (h' := h) (Nat.le_refl _) (R := fun y => B.res y ∨ ∃ m b, m < ops.size ∧ kd m = .made y b ∧ ¬ (L m ∨ m = i)) (fun y hy => c.hr.res y (by
    rcases hy with hy | ⟨m, b, h1, h2, h3⟩
    · exact .inl hy
    · exact .inr ⟨m, b, h1, h2, fun hL => h3 (.inl hL)⟩)) (fun y b hy => hy)
  · obtain ⟨_, v', w', μ', g1, g2, g3, g4⟩ := made_sound r1 o hev hal hfree hres0.2 hres0.1 hlim (by
      rintro (hh | ⟨m, b2, h1, h2, h3⟩)
      · exact hBr hh
      · exact h3 (.inr (p.ids m i x b2 b h1 hlt h2 hk)))
    unfold Oper.wp
    rw [g1]
    obtain ⟨f1, f2, f3, f4⟩ := c.put_done p ho g2 g3
    refine hnext _ _ μ' (h.put x b) g2 ⟨c.jk, fun m hm hmk => ?_, fun m q hq hm e he hb => ?_, c.next, fun y b2 => ?_, g4, f1, f2, f3, f4⟩
    · rw [← c.louds m hm hmk]
      constructor
      · rintro (hh | rfl)
        · exact hh
        · rw [hk] at hmk; cases hmk
      · exact .inl
    · rcases hm with hm | rfl
      · exact .inl (c.closed m q hq hm e he hb)
      · rw [ho] at hq; cases hq; exact .inl (hdeps e he hb)
    · rw [H.get_put _ _ _ _ (by unfold limit at hlim; omega)]
      by_cases e : y = x
      · subst e
        rw [if_pos rfl]
        constructor
        · intro e2; cases e2; exact .inl ⟨i, hlt, .inr rfl, hk, hj⟩
        · rintro (⟨m, h1, h2, h3, h4⟩ | ⟨h1, h2⟩)
          · have := p.ids m i y b2 b h1 hlt h3 hk
            subst this
            rw [hk] at h3; cases h3; rfl
          · exact absurd hj (h1 i b hlt (.inr rfl) hk)
      · rw [if_neg e, c.get y b2]
        constructor
        · rintro (⟨m, h1, h2, h3, h4⟩ | ⟨h1, h2⟩)
          · exact .inl ⟨m, h1, .inl h2, h3, h4⟩
          · refine .inr ⟨fun m c2 hm hL hmk => ?_, h2⟩
            rcases hL with hL | rfl
            · exact h1 m c2 hm hL hmk
            · rw [hk] at hmk; cases hmk; exact absurd rfl e
        · rintro (⟨m, h1, h2, h3, h4⟩ | ⟨h1, h2⟩)
          · rcases h2 with h2 | rfl
            · exact .inl ⟨m, h1, h2, h3, h4⟩
            · rw [hk] at h3; cases h3; exact absurd rfl e
          · exact .inr ⟨fun m c2 hm hL hmk => h1 m c2 hm (.inl hL) hmk, h2⟩

open Classical in
/-- what has been made ahead of its place -/
noncomputable def extras (kd : Nat → Kd) (cnt : Nat → Nat) (L : Nat → Prop) (j : Nat) : Nat → List (Nat × Blk)
  | 0 => []
  | n + 1 => (match kd n with
    | .made x b => if L n ∧ j < cnt n then [(x, b)] else []
    | _ => []) ++ extras kd cnt L j n

theorem mem_extras {L : Nat → Prop} {j : Nat} {x : Nat} {b : Blk} : ∀ {n : Nat}, (x, b) ∈ extras kd cnt L j n ↔ ∃ m, m < n ∧ kd m = .made x b ∧ L m ∧ j < cnt m
  | 0 => by simp [extras]
  | n + 1 => by
    simp only [extras, List.mem_append, mem_extras (n := n)]
    constructor
    · rintro (hh | ⟨m, h1, h2, h3, h4⟩)
      · cases hk : kd n with
        | made y c =>
          rw [hk] at hh
          simp only at hh
          split at hh
          · rename_i hc
            simp only [List.mem_singleton, Prod.mk.injEq] at hh
            obtain ⟨rfl, rfl⟩ := hh
            exact ⟨n, by omega, hk, hc.1, hc.2⟩
          · simp at hh
        | skip => rw [hk] at hh; simp at hh
        | quiet => rw [hk] at hh; simp at hh
        | loud => rw [hk] at hh; simp at hh
      · exact ⟨m, by omega, h2, h3, h4⟩
    · rintro ⟨m, h1, h2, h3, h4⟩
      by_cases e : m = n
      · subst e
        left
        rw [h2]
        simp only
        rw [if_pos ⟨h3, h4⟩]
        simp
      · exact .inr ⟨m, by omega, h2, h3, h4⟩

theorem nodup_extras {L : Nat → Prop} {j : Nat} (hids : ∀ i m x b c, i < ops.size → m < ops.size → kd i = .made x b → kd m = .made x c → i = m) : ∀ {n : Nat}, n ≤ ops.size → ((extras kd cnt L j n).map (·.1)).Nodup
  | 0, _ => by simp [extras]
  | n + 1, hn => by
    have ih := nodup_extras (L := L) (j := j) hids (n := n) (by omega)
    simp only [extras]
    cases hk : kd n with
    | made y c =>
      simp only
      split
      · simp only [List.cons_append, List.nil_append, List.map_cons, List.nodup_cons]
        refine ⟨?_, ih⟩
        intro hm
        obtain ⟨⟨y', c'⟩, hp, rfl⟩ := List.mem_map.1 hm
        obtain ⟨m, h1, h2, _, _⟩ := mem_extras.1 hp
        have := hids n m y' c c' (by omega) (by omega) hk h2
        omega
      · simpa using ih
    | skip => simpa using ih
    | quiet => simpa using ih
    | loud => simpa using ih

/-- a loud operation -/
theorem Cfg.loudStep (hrec : RecOk P rec) (p : Plan P rec nt ops fr v kd cnt β τ k anc E hEnd) {L : Nat → Prop} {j : Nat} (c : Cfg B w0 nt ops fr v kd cnt β k L j μ h a w) {i : Nat} {o : Oper} (ho : ops[i]? = some o) (hi : ¬ L i)
    (hdeps : ∀ e ∈ o.after.toList, Region.binds .any e = true → L e.on) (hk : kd i = .loud) {next : Act → World → Prop} {Q : Exit → Act → World → Prop}
    (hnext : ∀ a' w' μ' h', Ext μ μ' → Cfg B w0 nt ops fr v kd cnt β k (fun m => L m ∨ m = i) (j + 1) μ' h' a' w' → next a' w') : o.wp P a w next Q := by
  have hlt := some_lt ho
  have hanc : ∀ m, anc i m → L m := p.closed c.closed i (fun o' ho' => by rw [ho] at ho'; cases ho'; exact hdeps)
  obtain ⟨hck, res, hres, hval⟩ := p.loud i o ho hk
  have hj : j = cnt i := by
    have h1 : ¬ cnt i < j := fun hh => hi ((c.louds i hlt hk).2 hh)
    rcases Nat.lt_or_ge j (cnt i) with h2 | h2
    · exfalso
      obtain ⟨m, hm, hmk, hmc⟩ := p.all j (by omega)
      have := (c.louds m hm hmk).1 (hanc m (p.chain m i hm hlt hmk hk (by omega)))
      omega
    · omega
  subst hj
  have hev : Ev μ (fr i) a.eval o.op.operands.toList := by
    intro y hy u hu
    refine ev_known (fun t u' ht hg => ?_) hu
    subst ht
    exact c.known p ho hi hdeps (tmp_reads hy) hg
  have hxs : ∀ q ∈ extras kd cnt L (cnt i) ops.size, h.get q.1 = some q.2 ∧ own q.2 = true ∧ q.1 < limit := by
    rintro ⟨x, b⟩ hq
    obtain ⟨m, h1, h2, h3, h4⟩ := mem_extras.1 hq
    obtain ⟨o2, ho2⟩ := lt_some h1
    obtain ⟨_, k2, k3⟩ := p.made m o2 x b ho2 h2
    exact ⟨(c.get x b).2 (.inl ⟨m, h1, h3, h2, by omega⟩), k3, k2⟩
  obtain ⟨B', w1, h2, g1, g2, g3, g4, g5⟩ := HR.hideAll (extras kd cnt L (cnt i) ops.size) _ _ h c.hr hxs (nodup_extras p.ids (Nat.le_refl _))
  have hτ : HR B' w1 μ (τ (cnt i)) w := by
    refine g1.congr (by rw [p.tauN _ (by omega), g3, c.next]) (fun y => ?_)
    rw [g4 y]
    apply Option.ext
    intro b
    rw [p.tau (cnt i) (by omega) y b]
    split
    · rename_i hy
      obtain ⟨⟨y', b'⟩, hq, rfl⟩ := List.mem_map.1 hy
      obtain ⟨m, k1, k2, k3, k4⟩ := mem_extras.1 hq
      simp only [reduceCtorEq, iff_false]
      rintro (⟨m', q1, q2, q3⟩ | ⟨_, q2⟩)
      · have := p.ids m m' y' b' b k1 q1 k2 q2
        subst this; omega
      · rw [p.aside m y' b' k1 k2 (cnt i) (by omega) (by omega)] at q2; simp at q2
    · rename_i hy
      rw [c.get y b]
      constructor
      · rintro (⟨m, q1, q2, q3⟩ | ⟨q1, q2⟩)
        · exact .inl ⟨m, q1, hanc m (p.madeAnc m i y b q1 hlt q2 hk (by omega)), q2, by omega⟩
        · refine .inr ⟨fun m c2 hm hL hmk hle => ?_, q2⟩
          rcases Nat.lt_or_ge (cnt i) (cnt m) with hh | hh
          · exact hy (List.mem_map.2 ⟨(y, c2), mem_extras.2 ⟨m, hm, hmk, hL, hh⟩, rfl⟩)
          · exact q1 m c2 hm hmk (by omega)
      · rintro (⟨m, q1, q2, q3, q4⟩ | ⟨q1, q2⟩)
        · rcases Nat.lt_or_ge (cnt i) (cnt m) with hh | hh
          · exact absurd (List.mem_map.2 ⟨(y, b), mem_extras.2 ⟨m, q1, q3, q2, hh⟩, rfl⟩) hy
          · exact .inl ⟨m, q1, q3, by omega⟩
        · refine .inr ⟨fun m c2 hm hmk hc => ?_, q2⟩
          exact q1 m c2 hm (hanc m (p.madeAnc m i y c2 hm hlt hmk hk (by omega))) hmk (by omega)
  refine oper_wp hrec hτ o hev hres hval ?_
  intro v' w' μ' e1 e2 r'
  have hlow : ∀ q ∈ extras kd cnt L (cnt i) ops.size, q.1 < (β (cnt i + 1)).next := by
    intro q hq
    obtain ⟨l, hl⟩ := c.hr.live (hxs q hq).1
    have hl2 := e1 _ _ hl
    rcases Nat.lt_or_ge q.1 (β (cnt i + 1)).next with hh | hh
    · exact hh
    · have := (r'.fresh q.1 hh).2
      rw [hl2] at this; simp at this
  have r3 := g5 μ' _ w' e1 r' hlow
  obtain ⟨f1, f2, f3, f4⟩ := c.put_done p ho e1 e2
  refine hnext _ _ μ' (putAll (β (cnt i + 1)) (extras kd cnt L (cnt i) ops.size)) e1 ⟨by omega, fun m hm hmk => ?_, fun m q hq hm e he hb => ?_, putAll_next _ _, fun y b => ?_, ?_, f1, f2, f3, f4⟩
  · constructor
    · rintro (hh | rfl)
      · have := (c.louds m hm hmk).1 hh; omega
      · omega
    · intro hh
      by_cases e : cnt m = cnt i
      · exact .inr (p.inj m i hm hlt hmk hk e)
      · exact .inl ((c.louds m hm hmk).2 (by omega))
  · rcases hm with hm | rfl
    · exact .inl (c.closed m q hq hm e he hb)
    · rw [ho] at hq; cases hq; exact .inl (hdeps e he hb)
  · rw [putAll_get _ _ (fun q hq => (hxs q hq).2.2) (nodup_extras p.ids (Nat.le_refl _))]
    constructor
    · rintro (hm | ⟨hm, hg⟩)
      · obtain ⟨m, q1, q2, q3, q4⟩ := mem_extras.1 hm
        exact .inl ⟨m, q1, .inl q3, q2, by omega⟩
      · refine .inr ⟨fun m c2 hm2 hL hmk hle => ?_, hg⟩
        rcases hL with hL | rfl
        · exact hm (List.mem_map.2 ⟨(y, c2), mem_extras.2 ⟨m, hm2, hmk, hL, by omega⟩, rfl⟩)
        · rw [hk] at hmk; cases hmk
    · rintro (⟨m, q1, q2, q3, q4⟩ | ⟨q1, q2⟩)
      · rcases q2 with q2 | rfl
        · exact .inl (mem_extras.2 ⟨m, q1, q3, q2, by omega⟩)
        · rw [hk] at q3; cases q3
      · refine .inr ⟨fun hm => ?_, q2⟩
        obtain ⟨⟨y', b'⟩, hq, rfl⟩ := List.mem_map.1 hm
        obtain ⟨m, k1, k2, k3, k4⟩ := mem_extras.1 hq
        exact q1 m b' k1 (.inl k3) k2 (by omega)
  · refine r3.weaken (h' := putAll (β (cnt i + 1)) (extras kd cnt L (cnt i) ops.size)) (Nat.le_refl _) (fun x hx => r3.res x ?_) (fun y b hy => hy)
    rcases hx with hx | ⟨m, b, q1, q2, q3⟩
    · exact .inl hx
    · exact .inr ⟨m, b, q1, q2, fun hL => q3 (.inl hL)⟩

/-- a quiet operation -/
theorem Cfg.quietStep (p : Plan P rec nt ops fr v kd cnt β τ k anc E hEnd) {L : Nat → Prop} {j : Nat} (c : Cfg B w0 nt ops fr v kd cnt β k L j μ h a w) {i : Nat} {o : Oper} (ho : ops[i]? = some o) (hi : ¬ L i)
    (hdeps : ∀ e ∈ o.after.toList, Region.binds .any e = true → L e.on) (hk : kd i = .quiet) {next : Act → World → Prop} {Q : Exit → Act → World → Prop}
    (hnext : ∀ a' w' μ' h', Ext μ μ' → Cfg B w0 nt ops fr v kd cnt β k (fun m => L m ∨ m = i) j μ' h' a' w' → next a' w') : o.wp P a w next Q := by
  have hlt := some_lt ho
  have hanc : ∀ m, anc i m → L m := p.closed c.closed i (fun o' ho' => by rw [ho] at ho'; cases ho'; exact hdeps)
  have hdesc : ∀ m, anc m i → ¬ L m := fun m hm hLm => hi (p.closed c.closed m (fun o' ho' => c.closed m o' ho' hLm) i hm)
  have hev : Ev μ (fr i) a.eval o.op.operands.toList := by
    intro y hy u hu
    refine ev_known (fun t u' ht hg => ?_) hu
    subst ht
    exact c.known p ho hi hdeps (tmp_reads hy) hg
  obtain ⟨hq, hall⟩ := p.quiet i o ho hk
  obtain ⟨u, hop⟩ := hall j c.jk (fun m hm hmk hc ha => hdesc m ha ((c.louds m hm hmk).2 hc)) (fun m hm hmk hc ha => by
    have := (c.louds m hm hmk).1 (hanc m ha); omega)
  have rE := c.hr.weaken (h' := E i j) (by rw [p.EN, c.next]; exact Nat.le_refl _) (R := fun x => B.res x ∨ ∃ m b, m < ops.size ∧ kd m = .made x b ∧ ¬ L m) (fun x hx => by
    have := c.hr.res x hx
    rw [p.EN, ← c.next]; exact this) (fun y b hy => by
    rw [c.get y b]
    rcases p.Eg i j y b c.jk hy with ⟨m, h1, h2, h3, h4⟩ | ⟨h1, h2⟩
    · exact .inl ⟨m, h1, hanc m h2, h3, h4⟩
    · refine .inr ⟨fun m c2 hm hL hmk hle => ?_, h2⟩
      rw [p.aside m y c2 hm hmk j hle c.jk] at h2; simp at h2)
  obtain ⟨v1, v', h1, h2, h3⟩ := quiet_sound rE o hq hev hop
  cases h1
  unfold Oper.wp
  rw [h2]
  exact hnext _ _ μ h (Ext.refl _) (c.same p ho hdeps (.inr hk) h3)
end Go.X
