/-
  What a call gives from nothing it gives everywhere, under other names.
-/
import Derived.Test.YtgdonkfaicdeiaaGreatDoorXCode
set_option linter.unusedVariables false
set_option linter.unusedSimpArgs false
set_option linter.unusedSectionVars false
namespace Go.X
open Go.RowKit
variable [Tab]

mutual
def shV (k : Nat) : AV → AV
  | .ptr x o => .ptr (Nat.add x k) o
  | .sl x o n c => .sl (Nat.add x k) o n c
  | .so x o n c => .so (Nat.add x k) o n c
  | .map x => .map (Nat.add x k)
  | .fn f a b => .fn f (shVs k a) (shVs k b)
  | .iface t v => .iface t (shV k v)
  | .agg l => .agg (shVs k l)
  | .tup l => .tup (shVs k l)
  | .ov x j z => .ov (Nat.add x k) j z
  | .op x j z f => .op (Nat.add x k) j z f
  | v => v
def shVs (k : Nat) : List AV → List AV
  | [] => []
  | v :: l => shV k v :: shVs k l
end

noncomputable def T.maps {α β : Type} (f : α → β) (t : T α) : T β :=
  T.rec (motive := fun _ => T β) .leaf (fun _ v _ ihl ihr => .node ihl (Option.rec none (fun x => some (f x)) v) ihr) t

def shE (k : Nat) : List (AV × AV × Nat) → List (AV × AV × Nat)
  | [] => []
  | e :: l => (shV k e.1, shV k e.2.1, e.2.2) :: shE k l

noncomputable def shB (k : Nat) : Blk → Blk
  | .cells n p z t => .cells n p (shVs k z) (t.maps (shV k))
  | .glob n z t => .glob n (shVs k z) (t.maps (shV k))
  | .map es c => .map (shE k es) c
  | .siter n c pos => .siter n c pos
  | .miter m since seen st => .miter (Option.rec none (fun x => some (Nat.add x k)) m) since seen st
  | .vec i => .vec i

/-- a memory behind another one -/
noncomputable def addAll (k : Nat) (t : T Blk) (l : List (Nat × Blk)) : T Blk :=
  List.rec (motive := fun _ => T Blk → T Blk) (fun t => t) (fun p _ ih t => ih (t.put (Nat.add p.1 k) (shB k p.2))) l t

structure Sum where
  v : AV
  next : Nat
  bs : List (Nat × Blk)

noncomputable def Sum.at (s : Sum) (h : H) : Option (AV × H) :=
  ifb (Nat.blt (Nat.add h.next s.next) limit) (some (shV h.next s.v, ⟨Nat.add h.next s.next, addAll h.next h.t s.bs⟩))

variable {P : Program} {B : Kp} {w0 : World} {μ μ' ν : M} {h h' : H} {w w' : World}

def Sh (k : Nat) (μ ν : M) : Prop := ∀ x l, μ x = some l → ν (x + k) = some l

mutual
theorem vrel.sh {k : Nat} (e : Sh k μ ν) : ∀ (a : AV) (v : Value), vrel μ a v → vrel ν (shV k a) v
  | .bool _, _, h => by simpa [vrel, shV] using h
  | .int _ _, _, h => by simpa [vrel, shV] using h
  | .str _ _, _, h => by simpa [vrel, shV] using h
  | .nilp, _, h => by simpa [vrel, shV] using h
  | .ptr x o, _, h => by simp only [vrel, shV] at h ⊢; obtain ⟨l, h1, h2⟩ := h; exact ⟨l, e _ _ h1, h2⟩
  | .nils, _, h => by simpa [vrel, shV] using h
  | .sl x o n c, _, h => by simp only [vrel, shV] at h ⊢; obtain ⟨l, h1, h2⟩ := h; exact ⟨l, e _ _ h1, h2⟩
  | .so x o n z, _, h => by simp only [vrel, shV] at h ⊢; obtain ⟨l, c, h1, h2⟩ := h; exact ⟨l, c, e _ _ h1, h2⟩
  | .nilm, _, h => by simpa [vrel, shV] using h
  | .map x, _, h => by simp only [vrel, shV] at h ⊢; obtain ⟨l, h1, h2⟩ := h; exact ⟨l, e _ _ h1, h2⟩
  | .fn f a b, _, h => by
    simp only [vrel, shV] at h ⊢
    obtain ⟨as, bs, h1, h2, h3⟩ := h
    exact ⟨as, bs, h1, vrels.sh e a as h2, vrels.sh e b bs h3⟩
  | .nilf, _, h => by simpa [vrel, shV] using h
  | .iface t x, _, h => by simp only [vrel, shV] at h ⊢; obtain ⟨y, h1, h2⟩ := h; exact ⟨y, h1, vrel.sh e x y h2⟩
  | .nili, _, h => by simpa [vrel, shV] using h
  | .agg l, _, h => by simp only [vrel, shV] at h ⊢; obtain ⟨cs, h1, h2⟩ := h; exact ⟨cs, h1, vrels.sh e l cs h2⟩
  | .tup l, _, h => by simp only [vrel, shV] at h ⊢; obtain ⟨cs, h1, h2⟩ := h; exact ⟨cs, h1, vrels.sh e l cs h2⟩
  | .ostr _, _, h => by simpa [vrel, shV] using h
  | .gp _ _, _, h => by simpa [vrel, shV] using h
  | .oi _, _, h => by simpa [vrel, shV] using h
  | .es, _, h => by simpa [vrel, shV] using h
  | .ov x j z, _, h => by simp only [vrel, shV] at h ⊢; obtain ⟨h0, l, c, h1, h2⟩ := h; exact ⟨h0, l, c, e _ _ h1, h2⟩
  | .fo _ _ _, _, h => by simpa [vrel, shV] using h
  | .fp _ _ _ _, _, h => by simpa [vrel, shV] using h
  | .op x j z f, _, h => by simp only [vrel, shV] at h ⊢; obtain ⟨h0, l, h1, h2⟩ := h; exact ⟨h0, l, e _ _ h1, h2⟩
theorem vrels.sh {k : Nat} (e : Sh k μ ν) : ∀ (a : List AV) (v : List Value), vrels μ a v → vrels ν (shVs k a) v
  | [], _, h => by simpa [vrels, shVs] using h
  | a :: l, _, h => by
    simp only [vrels, shVs] at h ⊢
    obtain ⟨v, r, h1, h2, h3⟩ := h
    exact ⟨v, r, h1, vrel.sh e a v h2, vrels.sh e l r h3⟩
end

theorem shVs_map (k : Nat) : ∀ l, shVs k l = l.map (shV k)
  | [] => rfl
  | _ :: l => by simp [shVs, shVs_map k l]

theorem T.get_maps {α β : Type} (f : α → β) : ∀ (t : T α) (n : Nat), (t.maps f).get n = (t.get n).map f
  | .leaf, n => rfl
  | .node l v r, n => by
    show (T.node (l.maps f) (Option.rec none (fun x => some (f x)) v) (r.maps f)).get n = _
    rw [T.get_node, T.get_node, T.get_maps f l, T.get_maps f r]
    split
    · cases v <;> rfl
    · split <;> rfl

theorem cellOf_sh (k : Nat) (z : List AV) (t : T AV) (o : Nat) : cellOf (shVs k z) (t.maps (shV k)) o = (cellOf z t o).map (shV k) := by
  unfold cellOf
  rw [T.get_maps, shVs_map]
  cases t.get o with
  | none => simp
  | some v => rfl

theorem esrel.sh {k : Nat} (e : Sh k μ ν) : ∀ {a : List (AV × AV × Nat)} {v : List MapEntry}, esrel μ a v → esrel ν (shE k a) v
  | [], _, h => h
  | a :: l, _, h => by
    simp only [esrel, shE] at h ⊢
    obtain ⟨v, r, h1, h2, h3, h4, h5⟩ := h
    exact ⟨v, r, h1, vrel.sh e _ _ h2, vrel.sh e _ _ h3, h4, esrel.sh e h5⟩

theorem cellsRel.sh {k : Nat} (e : Sh k μ ν) {n : Nat} {z : List AV} {t : T AV} {base : Nat} {arr : Array Value} (h : cellsRel μ n z t base arr) : cellsRel ν n (shVs k z) (t.maps (shV k)) base arr := by
  intro i a hi ha
  rw [cellOf_sh] at ha
  cases hc : cellOf z t i with
  | none => rw [hc] at ha; simp at ha
  | some u =>
    rw [hc] at ha
    simp only [Option.map_some, Option.some.injEq] at ha
    subst ha
    obtain ⟨v, h1, h2⟩ := h i u hi hc
    exact ⟨v, h1, vrel.sh e _ _ h2⟩

theorem brel.sh {k : Nat} (e : Sh k μ ν) {b : Blk} {l : Loc} (h : brel μ b l w) : brel ν (shB k b) l w := by
  cases b with
  | cells n p z t => obtain ⟨arr, el, fz, h1, h2, h3, h4, h5, h6⟩ := h; exact ⟨arr, el, fz, h1, h2, h3, h4, h5, h6.sh e⟩
  | glob n z t => obtain ⟨arr, el, fz, h1, h2⟩ := h; exact ⟨arr, el, fz, h1, h2.sh e⟩
  | map es c => obtain ⟨es', h1, h2⟩ := h; exact ⟨es', h1, h2.sh e⟩
  | siter n c pos => exact h
  | miter m since seen st =>
    cases m with
    | none => exact h
    | some x =>
      obtain ⟨h1, j, h2, h3⟩ := h
      exact ⟨h1, j, e _ _ h2, h3⟩
  | vec i => obtain ⟨arr, el, fz, h1, h2, h3, h4, h5⟩ := h; exact ⟨arr, el, fz, h1, h2, h3, h4, h5.to (Tab.vvp i)⟩

theorem own_sh (k : Nat) (b : Blk) : own (shB k b) = own b := by cases b <;> rfl

theorem addAll_get (k : Nat) : ∀ (l : List (Nat × Blk)) (t : T Blk), (∀ p ∈ l, p.1 + k < limit) → ∀ y b, (addAll k t l).get y = some b → (∃ p ∈ l, y = p.1 + k ∧ b = shB k p.2) ∨ ((∀ p ∈ l, y ≠ p.1 + k) ∧ t.get y = some b)
  | [], t, _, y, b, h => .inr ⟨fun p hp => by simp at hp, h⟩
  | p :: l, t, hl, y, b, h => by
    have h' : (addAll k (t.put (p.1 + k) (shB k p.2)) l).get y = some b := h
    have hlim := hl p (by simp)
    rcases addAll_get k l _ (fun q hq => hl q (by simp [hq])) y b h' with ⟨q, h1, h2⟩ | ⟨h1, h2⟩
    · exact .inl ⟨q, by simp [h1], h2⟩
    · rw [T.get_put _ _ _ _ (Nat.lt_of_lt_of_le hlim (by unfold limit; omega))] at h2
      split at h2
      · rename_i hy
        cases h2
        exact .inl ⟨p, by simp, hy, rfl⟩
      · rename_i hy
        refine .inr ⟨fun q hq => ?_, h2⟩
        simp only [List.mem_cons] at hq
        rcases hq with rfl | hq
        · exact hy
        · exact h1 q hq

mutual
def nameless : AV → Bool
  | .ptr _ _ => false
  | .sl _ _ _ _ => false
  | .so _ _ _ _ => false
  | .map _ => false
  | .ov _ _ _ => false
  | .op _ _ _ _ => false
  | .fn _ a b => namelesss a && namelesss b
  | .iface _ v => nameless v
  | .agg l => namelesss l
  | .tup l => namelesss l
  | _ => true
def namelesss : List AV → Bool
  | [] => true
  | v :: l => nameless v && namelesss l
end

mutual
theorem vrel.nameless : ∀ (a : AV) (v : Value), nameless a = true → vrel μ a v → vrel ν a v
  | .bool _, _, _, h => by simpa [vrel] using h
  | .int _ _, _, _, h => by simpa [vrel] using h
  | .str _ _, _, _, h => by simpa [vrel] using h
  | .nilp, _, _, h => by simpa [vrel] using h
  | .ptr x o, _, hn, h => by simp [X.nameless] at hn
  | .nils, _, _, h => by simpa [vrel] using h
  | .sl x o n c, _, hn, h => by simp [X.nameless] at hn
  | .so x o n z, _, hn, h => by simp [X.nameless] at hn
  | .nilm, _, _, h => by simpa [vrel] using h
  | .map x, _, hn, h => by simp [X.nameless] at hn
  | .fn f a b, _, hn, h => by
    simp only [X.nameless, Bool.and_eq_true] at hn
    simp only [vrel] at h ⊢
    obtain ⟨as, bs, h1, h2, h3⟩ := h
    exact ⟨as, bs, h1, vrels.nameless a as hn.1 h2, vrels.nameless b bs hn.2 h3⟩
  | .nilf, _, _, h => by simpa [vrel] using h
  | .iface t x, _, hn, h => by simp only [vrel] at h ⊢; obtain ⟨y, h1, h2⟩ := h; exact ⟨y, h1, vrel.nameless x y (by simpa [X.nameless] using hn) h2⟩
  | .nili, _, _, h => by simpa [vrel] using h
  | .agg l, _, hn, h => by simp only [vrel] at h ⊢; obtain ⟨cs, h1, h2⟩ := h; exact ⟨cs, h1, vrels.nameless l cs (by simpa [X.nameless] using hn) h2⟩
  | .tup l, _, hn, h => by simp only [vrel] at h ⊢; obtain ⟨cs, h1, h2⟩ := h; exact ⟨cs, h1, vrels.nameless l cs (by simpa [X.nameless] using hn) h2⟩
  | .ostr _, _, _, h => by simpa [vrel] using h
  | .gp _ _, _, _, h => by simpa [vrel] using h
  | .oi _, _, _, h => by simpa [vrel] using h
  | .es, _, _, h => by simpa [vrel] using h
  | .ov x j z, _, hn, h => by simp [X.nameless] at hn
  | .op x j z f, _, hn, h => by simp [X.nameless] at hn
  | .fo _ _ _, _, _, h => by simpa [vrel] using h
  | .fp _ _ _ _, _, _, h => by simpa [vrel] using h
theorem vrels.nameless : ∀ (a : List AV) (v : List Value), namelesss a = true → vrels μ a v → vrels ν a v
  | [], _, _, h => by simpa [vrels] using h
  | a :: l, _, hn, h => by
    simp only [namelesss, Bool.and_eq_true] at hn
    simp only [vrels] at h ⊢
    obtain ⟨v, r, h1, h2, h3⟩ := h
    exact ⟨v, r, h1, vrel.nameless a v hn.1 h2, vrels.nameless l r hn.2 h3⟩
end

/-- What was made from nothing, behind what was there. -/
theorem HR.add {μ1 : M} {hs : H} {s : Sum} {p : AV × H} (r : HR B w0 μ h w) (r1 : HR (Kp.below w.heap.size) w μ1 hs w') (hn : s.next = hs.next) (hb : ∀ q ∈ s.bs, hs.get q.1 = some q.2) (e : s.at h = some p) :
    ∃ μ', Ext μ μ' ∧ Sh h.next μ1 μ' ∧ p.1 = shV h.next s.v ∧ HR B w0 μ' p.2 w' := by
  obtain ⟨hlim, e⟩ := ifb_some e
  cases e
  have hlim := blt_iff.1 hlim
  have hlt : ∀ q ∈ s.bs, q.1 < hs.next := by
    intro q hq
    rcases Nat.lt_or_ge q.1 hs.next with h1 | h1
    · exact h1
    · have := (r1.fresh q.1 h1).1
      rw [hb q hq] at this; simp at this
  let μ2 : M := fun x => if x < h.next then μ x else μ1 (x - h.next)
  have hext : Ext μ μ2 := by
    intro x l hx
    have : x < h.next := by
      rcases Nat.lt_or_ge x h.next with h1 | h1
      · exact h1
      · have := (r.fresh x h1).2
        rw [hx] at this; simp at this
    simp only [μ2, if_pos this]; exact hx
  have hsh : Sh h.next μ1 μ2 := by
    intro x l hx
    simp only [μ2]
    rw [if_neg (by omega), Nat.add_sub_cancel]; exact hx
  refine ⟨μ2, hext, hsh, rfl, r.below.below r1.below.toBelow, fun x hx => ?_, fun x hx => ?_, fun x b hx => ?_, fun x y b c l k hx hy hne ho ho2 hl hk => ?_⟩
  · have hx' : h.next + s.next ≤ x := hx
    constructor
    · cases hg : H.get ⟨Nat.add h.next s.next, addAll h.next h.t s.bs⟩ x with
      | none => rfl
      | some b =>
        exfalso
        rcases addAll_get h.next s.bs h.t (fun q hq => by have := hlt q hq; have h2 : h.next + s.next < limit := hlim; omega) x b hg with ⟨q, h1, h2, _⟩ | ⟨_, h2⟩
        · have := hlt q h1; omega
        · have := (r.fresh x (by omega)).1
          have h3 : h.get x = some b := h2
          rw [this] at h3; simp at h3
    · simp only [μ2]
      rw [if_neg (by omega)]
      exact (r1.fresh _ (by omega)).2
  · have := r.res x hx
    refine ⟨Nat.lt_of_lt_of_le this.1 (Nat.le_add_right _ _), ?_⟩
    simp only [μ2]
    rw [if_pos this.1]; exact this.2
  · have hg : (addAll h.next h.t s.bs).get x = some b := hx
    rcases addAll_get h.next s.bs h.t (fun q hq => by have := hlt q hq; have h2 : h.next + s.next < limit := hlim; omega) x b hg with ⟨q, h1, rfl, rfl⟩ | ⟨_, h2⟩
    · obtain ⟨l, g1, g2, g3, g4⟩ := r1.blk q.1 q.2 (hb q h1)
      have hown : own q.2 = true := by
        cases ho : own q.2 with
        | true => rfl
        | false => exact (g3 ho).elim
      refine ⟨l, hsh _ _ g1, fun _ hk => ?_, fun ho => ?_, g4.sh hsh⟩
      · have h3 := g2 hown
        have h4 : l.block < w.heap.size := Nat.lt_of_lt_of_le (r.below.old _ hk) r.below.size
        exact h3 h4
      · rw [own_sh, hown] at ho; simp at ho
    · obtain ⟨l, g1, g2, g3, g4⟩ := r.blk x b h2
      exact ⟨l, hext _ _ g1, g2, g3, (g4.congr (r1.below.block _ g4.lt)).ext hext⟩
  · have hg : (addAll h.next h.t s.bs).get x = some b := hx
    have hg2 : (addAll h.next h.t s.bs).get y = some c := hy
    have hbound : ∀ q ∈ s.bs, q.1 + h.next < limit := fun q hq => by have := hlt q hq; have h2 : h.next + s.next < limit := hlim; omega
    have new : ∀ q ∈ s.bs, ∀ l, μ2 (q.1 + h.next) = some l → μ1 q.1 = some l ∧ ¬ l.block < w.heap.size := by
      intro q hq l hl
      simp only [μ2] at hl
      rw [if_neg (by omega), Nat.add_sub_cancel] at hl
      obtain ⟨l', g1, g2, g3, _⟩ := r1.blk q.1 q.2 (hb q hq)
      rw [hl] at g1; cases g1
      refine ⟨hl, ?_⟩
      cases ho : own q.2 with
      | true => exact g2 ho
      | false => exact (g3 ho).elim
    have old : ∀ x b l, h.t.get x = some b → μ2 x = some l → μ x = some l ∧ l.block < w.heap.size := by
      intro x b l hxb hl
      obtain ⟨l', g1, _, _, g4⟩ := r.blk x b hxb
      have := hext _ _ g1
      rw [hl] at this; cases this
      exact ⟨g1, g4.lt⟩
    rcases addAll_get h.next s.bs h.t hbound x b hg with ⟨q, h1, rfl, rfl⟩ | ⟨_, h2⟩
    · obtain ⟨a1, a2⟩ := new q h1 l hl
      rcases addAll_get h.next s.bs h.t hbound y c hg2 with ⟨q2, k1, rfl, rfl⟩ | ⟨_, k2⟩
      · obtain ⟨b1, b2⟩ := new q2 k1 k hk
        rw [own_sh] at ho ho2
        exact r1.sep q.1 q2.1 q.2 q2.2 l k (hb q h1) (hb q2 k1) (by omega) ho ho2 a1 b1
      · obtain ⟨b1, b2⟩ := old y c k k2 hk
        intro e; rw [e] at a2; exact a2 b2
    · obtain ⟨a1, a2⟩ := old x b l h2 hl
      rcases addAll_get h.next s.bs h.t hbound y c hg2 with ⟨q2, k1, rfl, rfl⟩ | ⟨_, k2⟩
      · obtain ⟨b1, b2⟩ := new q2 k1 k hk
        intro e; rw [e] at a2; exact b2 a2
      · obtain ⟨b1, b2⟩ := old y c k k2 hk
        exact r.sep x y b c l k h2 k2 hne ho ho2 a1 b1

/-- A summary: what a call gives, told apart from any memory. -/
structure SumOk (P : Program) (f : FuncId) (args : List AV) (s : Sum) : Prop where
  nm : namelesss args = true
  run : ∃ hs, CallOk P f args H.empty (s.v, hs) ∧ s.next = hs.next ∧ ∀ q ∈ s.bs, hs.get q.1 = some q.2

theorem SumOk.at {f : FuncId} {args : List AV} {s : Sum} (o : SumOk P f args s) {p : AV × H} (e : s.at h = some p) : CallOk P f args h p := by
  intro B w0 μ w args' r ha
  obtain ⟨hs, h1, h2, h3⟩ := o.run
  refine (h1.closed (vrels.nameless args _ o.nm ha) w ⟨fun g i a hg => let ⟨k1, k2⟩ := r.below.glbs hg; ⟨Nat.lt_of_lt_of_le (r.below.old g k1) r.below.size, k2⟩, fun i m a hg => let ⟨k1, k2⟩ := r.below.frgn hg; ⟨Nat.lt_of_lt_of_le (r.below.old _ k1) r.below.size, k2⟩⟩).mono ?_
  rintro e w' ⟨v', μ1, rfl, hv, r1⟩
  obtain ⟨μ', g1, g2, g3, g4⟩ := r.add r1 h2 h3 ‹_›
  exact ⟨v', μ', rfl, g1, by rw [g3]; exact vrel.sh g2 _ _ hv, g4⟩

/- tables of summaries: for each function its rows -/
abbrev SRows := List (List AV × Sum)

noncomputable def rowsAt (args : List AV) (h : H) (l : SRows) : Option (AV × H) :=
  List.rec (motive := fun _ => Option (AV × H)) none (fun r _ ih => Bool.rec ih (r.2.at h) (veqs r.1 args)) l
noncomputable def sumsHand (l : List (FuncId × SRows)) : Hand := fun f args h =>
  List.rec (motive := fun _ => Option (AV × H)) none (fun r _ ih => Bool.rec ih (rowsAt args h r.2) (Nat.beq r.1 f)) l

def RowsOk (P : Program) (f : FuncId) (l : SRows) : Prop := ∀ r ∈ l, SumOk P f r.1 r.2
def TabOk (P : Program) (l : List (FuncId × SRows)) : Prop := ∀ r ∈ l, RowsOk P r.1 r.2

theorem RowsOk.nil {f : FuncId} : RowsOk P f [] := fun r h => by simp at h
theorem RowsOk.cons {f : FuncId} {args : List AV} {s : Sum} {l : SRows} (h : SumOk P f args s) (k : RowsOk P f l) : RowsOk P f ((args, s) :: l) := by
  intro r hr
  simp only [List.mem_cons] at hr
  rcases hr with rfl | hr
  · exact h
  · exact k r hr
theorem RowsOk.append {f : FuncId} {l m : SRows} (h : RowsOk P f l) (k : RowsOk P f m) : RowsOk P f (l ++ m) := by
  intro r hr
  rcases List.mem_append.1 hr with hr | hr
  · exact h r hr
  · exact k r hr
theorem TabOk.nil : TabOk P [] := fun r h => by simp at h
theorem TabOk.cons {f : FuncId} {m : SRows} {l : List (FuncId × SRows)} (h : RowsOk P f m) (k : TabOk P l) : TabOk P ((f, m) :: l) := by
  intro r hr
  simp only [List.mem_cons] at hr
  rcases hr with rfl | hr
  · exact h
  · exact k r hr

theorem rowsAt_ok {f : FuncId} {args : List AV} {p : AV × H} : ∀ {l : SRows}, RowsOk P f l → rowsAt args h l = some p → CallOk P f args h p
  | [], _, e => by have e' : (none : Option (AV × H)) = some p := e; cases e'
  | r :: l, hl, e => by
    have e' : (Bool.rec (rowsAt args h l) (r.2.at h) (veqs r.1 args) : Option (AV × H)) = some p := e
    cases h2 : veqs r.1 args with
    | false => rw [h2] at e'; exact rowsAt_ok (fun q hq => hl q (by simp [hq])) e'
    | true =>
      rw [h2] at e'
      have := hl r (by simp)
      rw [veqs_eq h2] at this
      exact this.at e'

theorem sumsHand_ok : ∀ {l : List (FuncId × SRows)}, TabOk P l → HandOk P (sumsHand l)
  | [], _, f, args, h, p, e => by have e' : (none : Option (AV × H)) = some p := e; cases e'
  | r :: l, hl, f, args, h, p, e => by
    have e' : (Bool.rec (sumsHand l f args h) (rowsAt args h r.2) (Nat.beq r.1 f) : Option (AV × H)) = some p := e
    cases h1 : Nat.beq r.1 f with
    | false => rw [h1] at e'; exact sumsHand_ok (l := l) (fun q hq => hl q (by simp [hq])) f args h p e'
    | true =>
      rw [h1] at e'
      have := hl r (by simp)
      rw [nbeq_iff.1 h1] at this
      exact rowsAt_ok this e'

/-- one table ahead of another -/
noncomputable def Hand.or (K L : Hand) : Hand := fun f args h => Option.rec (L f args h) (fun r => some r) (K f args h)
theorem HandOk.or {K L : Hand} (hK : HandOk P K) (hL : HandOk P L) : HandOk P (K.or L) := by
  intro f args h p e
  have e' : (Option.rec (L f args h) (fun r => some r) (K f args h) : Option (AV × H)) = some p := e
  cases hk : K f args h with
  | none => rw [hk] at e'; exact hL f args h p e'
  | some q => rw [hk] at e'; cases e'; exact hK f args h p hk

/-- a known call of one function at given arguments that keeps the memory -/
noncomputable def oneHand (g : FuncId) (xs : List AV) (v : AV) : Hand := fun f args h =>
  Bool.rec none (Bool.rec none (some (v, h)) (veqs xs args)) (Nat.beq g f)
theorem oneHand_ok {g : FuncId} {xs : List AV} {v : AV} (hk : ∀ h, CallOk P g xs h (v, h)) : HandOk P (oneHand g xs v) := by
  intro f args h p e
  have e' : (Bool.rec none (Bool.rec none (some (v, h)) (veqs xs args)) (Nat.beq g f) : Option (AV × H)) = some p := e
  cases h1 : Nat.beq g f with
  | false => rw [h1] at e'; cases e'
  | true =>
    rw [h1] at e'
    cases h2 : veqs xs args with
    | false => rw [h2] at e'; cases e'
    | true =>
      rw [h2] at e'
      cases e'
      rw [← nbeq_iff.1 h1, ← veqs_eq h2]
      exact hk h

/- what a closed law answers -/
noncomputable def okTrue (r : Option (AV × H)) : Bool := Option.rec false (fun p => match p.1 with | .bool true => true | _ => false) r
theorem okTrue_some {r : Option (AV × H)} (h : okTrue r = true) : ∃ q, r = some (.bool true, q) := by
  cases r with
  | none => simp [okTrue] at h
  | some p =>
    obtain ⟨v, q⟩ := p
    cases v with
    | bool b => cases b <;> simp [okTrue] at h; exact ⟨q, rfl⟩
    | _ => simp [okTrue] at h

/- a run gives a summary -/
noncomputable def keepOf (h : H) (l : List Nat) : List (Nat × Blk) :=
  List.rec (motive := fun _ => List (Nat × Blk)) [] (fun x _ ih => Option.rec ih (fun b => (x, b) :: ih) (h.get x)) l
noncomputable def sumOf (keep : List Nat) (r : AV × H) : Option Sum := some ⟨r.1, r.2.next, keepOf r.2 keep⟩

theorem mem_keepOf {h : H} : ∀ {l : List Nat} {q : Nat × Blk}, q ∈ keepOf h l → h.get q.1 = some q.2
  | [], q, e => by simp [keepOf] at e
  | x :: l, q, e => by
    have e' : q ∈ (Option.rec (keepOf h l) (fun b => (x, b) :: keepOf h l) (h.get x) : List (Nat × Blk)) := e
    cases hx : h.get x with
    | none => rw [hx] at e'; exact mem_keepOf e'
    | some b =>
      rw [hx] at e'
      simp only [List.mem_cons] at e'
      rcases e' with rfl | e'
      · exact hx
      · exact mem_keepOf e'

theorem SumOk.of_run {K : Hand} (hm : P.follows .mixedOrders = true) (hK : HandOk P K) {n : Nat} {f : FuncId} {args : List AV} {keep : List Nat} {s : Sum} (hn : namelesss args = true)
    (e : ob (call P K n f args H.empty) (sumOf keep) = some s) : SumOk P f args s := by
  obtain ⟨r, h1, h2⟩ := ob_some e
  have h2' : some (⟨r.1, r.2.next, keepOf r.2 keep⟩ : Sum) = some s := h2
  cases h2'
  exact ⟨hn, r.2, call_sound hm hK h1, rfl, fun q hq => mem_keepOf hq⟩
end Go.X
