/-
  A region whose order is drawn: all orders.
-/
import Derived.Test.YtgdonkfaicdeiaaGreatDoorXDraw
set_option linter.unusedVariables false
set_option linter.unusedSimpArgs false
set_option linter.unusedSectionVars false
namespace Go.X
open Go.RowKit

variable [Tab]
variable {P : Program} {B : Kp} {w0 : World} {μ μ' : M} {h h' : H} {w w' : World} {nt : Nat} {a : Act}
variable {rec : Rec} {ops : Array Oper} {fr : Nat → Fr} {v : Nat → AV} {kd : Nat → Kd} {cnt : Nat → Nat} {β τ : Nat → H} {k : Nat} {anc : Nat → Nat → Prop} {E : Nat → Nat → H} {hEnd : H}

theorem Cfg.congr {L L' : Nat → Prop} (hL : ∀ i, i < ops.size → (L i ↔ L' i)) (hb : ∀ (i : Nat) (o : Oper), ops[i]? = some o → ∀ e ∈ o.after.toList, Region.binds .any e = true → e.on < i) {j : Nat} (c : Cfg B w0 nt ops fr v kd cnt β k L j μ h a w) : Cfg B w0 nt ops fr v kd cnt β k L' j μ h a w := by
  refine ⟨c.jk, fun i hi hk => ?_, fun i o ho hl e he hbd => ?_, c.next, fun y b => ?_, ?_, c.size, c.defers, fun i o d ho hl hd => ?_, fun t u hn hg => ?_⟩
  · rw [← hL i hi]; exact c.louds i hi hk
  · have h1 := some_lt ho
    have h2 := hb i o ho e he hbd
    exact (hL e.on (by omega)).1 (c.closed i o ho ((hL i h1).2 hl) e he hbd)
  · rw [c.get y b]
    constructor
    · rintro (⟨m, h1, h2, h3⟩ | ⟨h1, h2⟩)
      · exact .inl ⟨m, h1, (hL m h1).1 h2, h3⟩
      · exact .inr ⟨fun m c2 hm hl => h1 m c2 hm ((hL m hm).2 hl), h2⟩
    · rintro (⟨m, h1, h2, h3⟩ | ⟨h1, h2⟩)
      · exact .inl ⟨m, h1, (hL m h1).2 h2, h3⟩
      · exact .inr ⟨fun m c2 hm hl => h1 m c2 hm ((hL m hm).1 hl), h2⟩
  · refine c.hr.weaken (h' := h) (Nat.le_refl _) (R := fun x => B.res x ∨ ∃ m b, m < ops.size ∧ kd m = .made x b ∧ ¬ L' m) (fun x hx => c.hr.res x ?_) (fun y b hy => hy)
    rcases hx with hx | ⟨m, b, h1, h2, h3⟩
    · exact .inl hx
    · exact .inr ⟨m, b, h1, h2, fun hl => h3 ((hL m h1).1 hl)⟩
  · exact c.done i o d ho ((hL i (some_lt ho)).2 hl) hd
  · exact c.old t u (fun i o ho hl => hn i o ho ((hL i (some_lt ho)).1 hl)) hg

/-- the end: all have run -/
theorem Cfg.finish (p : Plan P rec nt ops fr v kd cnt β τ k anc E hEnd) {L : Nat → Prop} {j : Nat} (c : Cfg B w0 nt ops fr v kd cnt β k L j μ h a w) (hall : ∀ i, i < ops.size → L i) : FR μ nt (fr ops.size) a ∧ HR B w0 μ hEnd w := by
  have hj : j = k := by
    rcases Nat.lt_or_ge j k with h1 | h1
    · obtain ⟨i, h2, h3, h4⟩ := p.all j h1
      have := (c.louds i h2 h3).1 (hall i h2)
      omega
    · have := c.jk; omega
  subst hj
  refine ⟨⟨c.size, c.defers, fun t u ht => ?_⟩, ?_⟩
  · rcases p.frame ops.size (Nat.le_refl _) t with ⟨m, o, h1, h2, h3, h4⟩ | ⟨h1, h2⟩
    · rw [h4] at ht; cases ht
      exact c.done m o t h2 (hall m h1) h3
    · rw [h2] at ht
      exact c.old t u (fun i o ho _ => h1 i o (some_lt ho) ho) ht
  · refine c.hr.weaken (h' := hEnd) (by rw [p.endN, c.next]; exact Nat.le_refl _) (R := B.res) (fun x hx => ?_) (fun y b hy => ?_)
    · have := c.hr.res x (.inl hx)
      rw [p.endN, ← c.next]; exact this
    · rw [c.get y b]
      rcases p.endG y b hy with ⟨m, h1, h2, h3⟩ | ⟨h1, h2⟩
      · exact .inl ⟨m, h1, hall m h1, h2, by omega⟩
      · refine .inr ⟨fun m c2 hm _ hmk hle => ?_, h2⟩
        have := p.madeK m y c2 hm hmk
        exact h1 m c2 hm hmk (by omega)

theorem ready_nil {listed : Array Bool} (hb : ∀ (i : Nat) (o : Oper), ops[i]? = some o → ∀ e ∈ o.after.toList, Region.binds .any e = true → e.on < i) (hs : listed.size = ops.size) (hr : Region.ready .any ops listed = []) : ∀ i, i < ops.size → listed.getD i false = true := by
  intro i
  induction i using Nat.strongRecOn with
  | _ i ih =>
    intro hi
    cases hc : listed.getD i false with
    | true => rfl
    | false =>
      exfalso
      have : i ∈ Region.ready .any ops listed := by
        unfold Region.ready
        rw [List.mem_filter]
        refine ⟨List.mem_range.2 hi, ?_⟩
        obtain ⟨o, ho⟩ := lt_some hi
        have h1 : listed.getD i true = false := by
          rw [Array.getD_eq_getD_getElem?] at hc ⊢
          rw [Array.getElem?_eq_getElem (by omega)] at hc ⊢
          exact hc
        simp only [h1, ho, Option.map_some, Option.getD_some, Bool.not_false, Bool.true_and]
        rw [Array.all_eq_true_iff_forall_mem]
        intro e he
        have he' : e ∈ o.after.toList := by simpa using he
        cases hbd : Region.binds .any e with
        | false => simp
        | true =>
          have h2 := hb i o ho e he' hbd
          simp [ih e.on h2 (by omega)]
      rw [hr] at this
      simp at this

theorem mem_ready {listed : Array Bool} (hs : listed.size = ops.size) {i : Nat} (hi : i ∈ Region.ready .any ops listed) : i < ops.size ∧ listed.getD i false = false ∧ ∀ o, ops[i]? = some o → ∀ e ∈ o.after.toList, Region.binds .any e = true → listed.getD e.on false = true := by
  unfold Region.ready at hi
  rw [List.mem_filter] at hi
  obtain ⟨h1, h2⟩ := hi
  have h1 := List.mem_range.1 h1
  rw [Bool.and_eq_true] at h2
  refine ⟨h1, ?_, fun o ho e he hb => ?_⟩
  · have := h2.1
    rw [Array.getD_eq_getD_getElem?, Array.getElem?_eq_getElem (by omega)] at this ⊢
    simpa using this
  · have h3 := h2.2
    rw [ho] at h3
    simp only [Option.map_some, Option.getD_some] at h3
    rw [Array.all_eq_true_iff_forall_mem] at h3
    have := h3 e (by simpa using he)
    rw [hb] at this
    simpa using this

theorem wanted_of (p : Plan P rec nt ops fr v kd cnt β τ k anc E hEnd) {L : Nat → Prop} {j : Nat} (c : Cfg B w0 nt ops fr v kd cnt β k L j μ h a w) {i : Nat} {o : Oper} (ho : ops[i]? = some o) (hi : ¬ L i)
    (hdeps : ∀ e ∈ o.after.toList, Region.binds .any e = true → L e.on) : Region.wanted o (yielded ops a.tmps) = kdWant (kd i) :=
  wanted_known (fun _ _ _ _ _ hg hj hd hv => c.known p ho hi hdeps (guard_reads hg hj hd) hv) (p.want i o ho)

/-- one operation, whichever may run -/
theorem Cfg.step (hrec : RecOk P rec) (p : Plan P rec nt ops fr v kd cnt β τ k anc E hEnd) (hBr : ∀ i x b, i < ops.size → kd i = .made x b → ¬ B.res x) {L : Nat → Prop} {j : Nat} (c : Cfg B w0 nt ops fr v kd cnt β k L j μ h a w) {i : Nat} {o : Oper} (ho : ops[i]? = some o) (hi : ¬ L i)
    (hdeps : ∀ e ∈ o.after.toList, Region.binds .any e = true → L e.on) {next : Act → World → Prop} {Q : Exit → Act → World → Prop}
    (hnext : ∀ a' w' μ' h' j', Ext μ μ' → Cfg B w0 nt ops fr v kd cnt β k (fun m => L m ∨ m = i) j' μ' h' a' w' → next a' w') : wpOp P ops Q i next a w := by
  unfold wpOp
  rw [ho]
  simp only
  rw [wanted_of p c ho hi hdeps]
  cases hk : kd i with
  | skip =>
    simp only [kdWant, Bool.false_eq_true, if_false]
    refine hnext _ _ μ h j (Ext.refl _) (c.same p ho hdeps (.inl hk) ?_)
    rw [p.skip i hk]; exact undef_rel
  | quiet =>
    simp only [kdWant, if_true]
    exact .inl (c.quietStep p ho hi hdeps hk fun a' w' μ' h' e c' => hnext a' w' μ' h' j e c')
  | made x b =>
    simp only [kdWant, if_true]
    exact .inl (c.make p ho hi hdeps hk (hBr i x b (some_lt ho) hk) fun a' w' μ' h' e c' => hnext a' w' μ' h' j e c')
  | loud =>
    simp only [kdWant, if_true]
    exact .inl (c.loudStep hrec p ho hi hdeps hk fun a' w' μ' h' e c' => hnext a' w' μ' h' (j + 1) e c')

def unlisted (listed : Array Bool) : Nat := (listed.toList.filter fun b => !b).length

theorem unlisted_pos : ∀ {l : List Bool} {i : Nat}, l[i]? = some false → (l.filter fun b => !b).length = ((l.set i true).filter fun b => !b).length + 1
  | [], i, h => by simp at h
  | x :: l, 0, h => by simp at h; subst h; simp
  | x :: l, i + 1, h => by
    have := unlisted_pos (l := l) (i := i) (by simpa using h)
    simp only [List.set_cons_succ]
    cases x <;> simp [this]

theorem draw_wp (hrec : RecOk P rec) (p : Plan P rec nt ops fr v kd cnt β τ k anc E hEnd) (hBr : ∀ i x b, i < ops.size → kd i = .made x b → ¬ B.res x) {Q : Exit → Act → World → Prop} :
    ∀ (fuel : Nat) (listed : Array Bool) (j : Nat) (μ : M) (h : H) (a : Act) (w : World), listed.size = ops.size → unlisted listed ≤ fuel → Cfg B w0 nt ops fr v kd cnt β k (fun i => listed.getD i false = true) j μ h a w →
      (∀ μ' a' w', Ext μ μ' → FR μ' nt (fr ops.size) a' → HR B w0 μ' hEnd w' → Q .normal a' w') → wpAny P .any ops Q fuel listed a w
  | 0, listed, j, μ, h, a, w, hs, hu, c, hQ => by
    have hall : ∀ i, i < ops.size → listed.getD i false = true := by
      intro i hi
      cases hc : listed.getD i false with
      | true => rfl
      | false =>
        rw [Array.getD_eq_getD_getElem?, Array.getElem?_eq_getElem (by omega)] at hc
        have hc' : listed.toList[i]? = some false := by
          rw [Array.getElem?_toList, Array.getElem?_eq_getElem (by omega)]
          simpa using hc
        have := unlisted_pos hc'
        unfold unlisted at hu
        omega
    have hr : Region.ready .any ops listed = [] := by
      cases hr : Region.ready .any ops listed with
      | nil => rfl
      | cons i l =>
        obtain ⟨h1, h2, _⟩ := mem_ready hs (i := i) (by rw [hr]; simp)
        rw [hall i h1] at h2; simp at h2
    obtain ⟨f, r⟩ := c.finish p hall
    exact ⟨hr, hQ μ a w (Ext.refl _) f r⟩
  | fuel + 1, listed, j, μ, h, a, w, hs, hu, c, hQ => by
    refine ⟨fun hr => ?_, fun i hi => ?_⟩
    · obtain ⟨f, r⟩ := c.finish p (ready_nil p.back hs hr)
      exact hQ μ a w (Ext.refl _) f r
    · obtain ⟨h1, h2, h3⟩ := mem_ready hs hi
      obtain ⟨o, ho⟩ := lt_some h1
      refine c.step hrec p hBr ho (by rw [h2]; simp) (h3 o ho) ?_
      intro a' w' μ' h' j' e c'
      refine draw_wp hrec p hBr fuel (listed.setIfInBounds i true) j' μ' h' a' w' (by simpa using hs) ?_ (c'.congr (fun m hm => ?_) p.back) (fun μ2 a2 w2 k1 => hQ μ2 a2 w2 (e.trans k1))
      · have hc' : listed.toList[i]? = some false := by
          rw [Array.getElem?_toList, Array.getElem?_eq_getElem (by omega)]
          rw [Array.getD_eq_getD_getElem?, Array.getElem?_eq_getElem (by omega)] at h2
          simpa using h2
        have := unlisted_pos hc'
        unfold unlisted at hu ⊢
        rw [Array.toList_setIfInBounds]
        omega
      · simp only [Array.getD_eq_getD_getElem?, Array.getElem?_setIfInBounds]
        by_cases em : m = i
        · subst em
          simp [hs, h1]
        · rw [if_neg (fun q => em q.symm)]
          simp [em]

theorem draw_start (hrec : RecOk P rec) (p : Plan P rec nt ops fr v kd cnt β τ k anc E hEnd) {Q : Exit → Act → World → Prop} (hBr : ∀ i x b, i < ops.size → kd i = .made x b → ¬ B.res x)
    (f : FR μ nt (fr 0) a) (r : HR (B.aside fun x => B.res x ∨ ∃ m b, m < ops.size ∧ kd m = .made x b) w0 μ (β 0) w)
    (hQ : ∀ μ' a' w', Ext μ μ' → FR μ' nt (fr ops.size) a' → HR B w0 μ' hEnd w' → Q .normal a' w') : wpAny P .any ops Q ops.size (Array.replicate ops.size false) a w := by
  have hget : ∀ i : Nat, (Array.replicate ops.size false).getD i false = false := by
    intro i
    rw [Array.getD_eq_getD_getElem?, Array.getElem?_replicate]
    split <;> rfl
  refine draw_wp hrec p hBr ops.size _ 0 μ (β 0) a w (by simp) ?_ ?_ hQ
  · unfold unlisted
    refine Nat.le_trans (List.length_filter_le _ _) (by simp)
  · refine ⟨Nat.zero_le _, fun i hi _ => ?_, fun i o ho hl => ?_, rfl, fun y b => ?_, ?_, f.1, f.2.1, fun i o d ho hl => ?_, fun t u hn hg => f.2.2 t u hg⟩
    · rw [hget]; simp
    · rw [hget] at hl; simp at hl
    · simp [hget]
    · refine r.weaken (h' := β 0) (Nat.le_refl _) (fun x hx => r.res x ?_) (fun y b hy => hy)
      rcases hx with hx | ⟨m, b, h1, h2, _⟩
      · exact .inl hx
      · exact .inr ⟨m, b, h1, h2⟩
    · rw [hget] at hl; simp at hl
end Go.X
