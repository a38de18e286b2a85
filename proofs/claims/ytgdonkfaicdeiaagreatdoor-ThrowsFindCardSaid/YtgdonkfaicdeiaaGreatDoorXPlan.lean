/-
  What the machine's own run in the text's order gives: the plan.
-/
import Derived.Test.YtgdonkfaicdeiaaGreatDoorXDraw2
set_option linter.unusedVariables false
set_option linter.unusedSimpArgs false
set_option linter.unusedSectionVars false
namespace Go.X
open Go.RowKit

variable [Tab]
variable {P : Program} {nt : Nat} {rec : Rec}

theorem alloc_own {o : Op} {fr : Fr} {x : Nat} {b : Blk} {v : AV} (e : alloc? o P fr x = some (b, v)) : own b = true := by
  cases o with
  | alloc el =>
    obtain ⟨z, hz, e⟩ := ob_some e
    obtain ⟨hll, e⟩ := ifb_some e
    cases e; rfl
  | box el y =>
    obtain ⟨z, hz, e⟩ := ob_some e
    obtain ⟨hll, e⟩ := ifb_some e
    cases e; rfl
  | buildSlice t n ps =>
    obtain ⟨l, hl, e⟩ := ob_some e
    obtain ⟨cl, hcl, e⟩ := ob_some e
    obtain ⟨hll, e⟩ := ifb_some e
    cases e; rfl
  | makeMap t rs =>
    obtain ⟨_, hh, e⟩ := ob_some e
    cases e; rfl
  | makeSlice t l c =>
    obtain ⟨a, ha, e⟩ := ob_some e
    obtain ⟨b2, hb, e⟩ := ob_some e
    obtain ⟨q, hq, e⟩ := ob_some e
    cases e
    unfold makeBlk at hq
    obtain ⟨_, _, hq⟩ := ob_some hq
    obtain ⟨_, _, hq⟩ := ob_some hq
    obtain ⟨_, _, hq⟩ := ob_some hq
    obtain ⟨_, _, hq⟩ := ob_some hq
    obtain ⟨_, _, hq⟩ := ob_some hq
    obtain ⟨_, _, hq⟩ := ob_some hq
    obtain ⟨_, hq⟩ := ifb_some hq
    cases hq
    rfl
  | _ => simp [alloc?] at e

mutual
theorem veq_eq : ∀ {a b : AV}, veq a b = true → a = b
  | .bool a, b, h => by cases b <;> simp [veq] at h; rw [h]
  | .int k a, b, h => by
    cases b <;> simp [veq] at h
    obtain ⟨h1, h2⟩ := h
    rw [kcode_inj (nbeq_iff.2 h1), h2]
  | .str n c, b, h => by cases b <;> simp [veq, strEq] at h; rw [h.1, h.2]
  | .nilp, b, h => by cases b <;> simp [veq] at h; rfl
  | .ptr x o, b, h => by cases b <;> simp [veq] at h; rw [h.1, h.2]
  | .gp x o, b, h => by cases b <;> simp [veq] at h; rw [h.1, h.2]
  | .oi x, b, h => by cases b <;> simp [veq] at h; rw [h]
  | .es, b, h => by cases b <;> simp [veq] at h; rfl
  | .fo x j z, b, h => by
    cases b <;> simp only [veq, Bool.and_eq_true, Bool.false_eq_true] at h
    rw [Nat.eq_of_beq_eq_true h.1, Nat.eq_of_beq_eq_true h.2.1, Nat.eq_of_beq_eq_true h.2.2]
  | .fp x j z f, b, h => by
    cases b <;> simp only [veq, Bool.and_eq_true, Bool.false_eq_true] at h
    rw [Nat.eq_of_beq_eq_true h.1, Nat.eq_of_beq_eq_true h.2.1, Nat.eq_of_beq_eq_true h.2.2.1, Nat.eq_of_beq_eq_true h.2.2.2]
  | .ov x j z, b, h => by
    cases b <;> simp only [veq, Bool.and_eq_true, Bool.false_eq_true] at h
    rw [Nat.eq_of_beq_eq_true h.1, Nat.eq_of_beq_eq_true h.2.1, Nat.eq_of_beq_eq_true h.2.2]
  | .op x j z f, b, h => by
    cases b <;> simp only [veq, Bool.and_eq_true, Bool.false_eq_true] at h
    rw [Nat.eq_of_beq_eq_true h.1, Nat.eq_of_beq_eq_true h.2.1, Nat.eq_of_beq_eq_true h.2.2.1, Nat.eq_of_beq_eq_true h.2.2.2]
  | .nils, b, h => by cases b <;> simp [veq] at h; rfl
  | .sl x o n c, b, h => by cases b <;> simp [veq] at h; rw [h.1, h.2.1, h.2.2.1, h.2.2.2]
  | .so x o n c, b, h => by cases b <;> simp [veq] at h; rw [h.1, h.2.1, h.2.2.1, h.2.2.2]
  | .nilm, b, h => by cases b <;> simp [veq] at h; rfl
  | .map x, b, h => by cases b <;> simp [veq] at h; rw [h]
  | .fn f a c, b, h => by
    cases b with
    | fn g d e =>
      cases f <;> cases g <;> simp [veq] at h
      obtain ⟨h1, h2, h3⟩ := h
      rw [h1, veqs_eq h2, veqs_eq h3]
    | _ => cases f <;> simp [veq] at h
  | .nilf, b, h => by cases b <;> simp [veq] at h; rfl
  | .iface t v, b, h => by
    cases b <;> simp [veq] at h
    rw [h.1, veq_eq h.2]
  | .nili, b, h => by cases b <;> simp [veq] at h; rfl
  | .agg l, b, h => by cases b <;> simp [veq] at h; rw [veqs_eq h]
  | .tup l, b, h => by cases b <;> simp [veq] at h; rw [veqs_eq h]
  | .ostr i, b, h => by cases b <;> simp [veq] at h; rw [h]
theorem veqs_eq : ∀ {a b : List AV}, veqs a b = true → a = b
  | [], b, h => by cases b <;> simp [veqs] at h; rfl
  | x :: l, b, h => by
    cases b <;> simp [veqs] at h
    rw [veq_eq h.1, veqs_eq h.2]
end

/- ancestors -/
theorem fold_anc {acc : List Nat} {m : Nat} : ∀ (es : List Edge) (s : Nat), (es.foldl (fun s e => if Region.binds .any e then s ||| (1 <<< e.on) ||| acc.getD e.on 0 else s) s).testBit m = true → s.testBit m = true ∨ ∃ e ∈ es, Region.binds .any e = true ∧ (m = e.on ∨ (acc.getD e.on 0).testBit m = true)
  | [], s, h => .inl h
  | e :: es, s, h => by
    rcases fold_anc es _ h with h1 | ⟨e', h1, h2⟩
    · simp only at h1
      split at h1
      · rename_i hb
        simp only [Nat.testBit_or, Bool.or_eq_true, Nat.one_shiftLeft, Nat.testBit_two_pow, decide_eq_true_eq] at h1
        rcases h1 with (h1 | h1) | h1
        · exact .inl h1
        · exact .inr ⟨e, by simp, hb, .inl h1.symm⟩
        · exact .inr ⟨e, by simp, hb, .inr h1⟩
      · exact .inl h1
    · exact .inr ⟨e', by simp [h1], h2⟩

theorem ancOf_step {acc : List Nat} {o : Oper} {m : Nat} (h : (ancOf acc o).testBit m = true) : ∃ e ∈ o.after.toList, Region.binds .any e = true ∧ (m = e.on ∨ (acc.getD e.on 0).testBit m = true) := by
  rcases fold_anc _ _ h with h | h
  · simp at h
  · exact h

theorem ancGo_prefix : ∀ (l : List Oper) (acc : List Nat), ∃ r, ancGo l acc = acc ++ r ∧ r.length = l.length
  | [], acc => ⟨[], by simp [ancGo], rfl⟩
  | o :: l, acc => by
    obtain ⟨r, h1, h2⟩ := ancGo_prefix l (acc ++ [ancOf acc o])
    exact ⟨ancOf acc o :: r, by simp [ancGo, h1], by simp [h2]⟩

theorem ancGo_get : ∀ (l : List Oper) (acc : List Nat) (i : Nat), acc.length ≤ i → i < acc.length + l.length → ∃ o, l[i - acc.length]? = some o ∧ (ancGo l acc).getD i 0 = ancOf ((ancGo l acc).take i) o
  | [], acc, i, h1, h2 => by simp at h2; omega
  | o :: l, acc, i, h1, h2 => by
    simp only [ancGo]
    by_cases c : i = acc.length
    · subst c
      refine ⟨o, by simp, ?_⟩
      obtain ⟨r, g1, g2⟩ := ancGo_prefix l (acc ++ [ancOf acc o])
      rw [g1]
      simp
    · obtain ⟨q, h3, h4⟩ := ancGo_get l (acc ++ [ancOf acc o]) i (by simp; omega) (by simp at h2 ⊢; omega)
      refine ⟨q, ?_, h4⟩
      have : i - acc.length = (i - (acc ++ [ancOf acc o]).length) + 1 := by simp; omega
      rw [this, List.getElem?_cons_succ]; exact h3

theorem ancs_step {ops : List Oper} {i m : Nat} (h : ((ancs ops).getD i 0).testBit m = true) : ∃ o e, ops[i]? = some o ∧ e ∈ o.after.toList ∧ Region.binds .any e = true ∧ (m = e.on ∨ ((ancs ops).getD e.on 0).testBit m = true) := by
  obtain ⟨r, g1, g2⟩ := ancGo_prefix ops []
  have hlen : (ancs ops).length = ops.length := by unfold ancs; rw [g1]; simp [g2]
  have hi : i < ops.length := by
    rcases Nat.lt_or_ge i ops.length with h1 | h1
    · exact h1
    · rw [List.getD_eq_getElem?_getD, List.getElem?_eq_none (by omega)] at h
      simp at h
  obtain ⟨o, h1, h2⟩ := ancGo_get ops [] i (by simp) (by simpa using hi)
  have h2' : (ancs ops).getD i 0 = ancOf ((ancs ops).take i) o := h2
  rw [h2'] at h
  obtain ⟨e, k1, k2, k3⟩ := ancOf_step h
  refine ⟨o, e, by simpa using h1, k1, k2, ?_⟩
  rcases k3 with k3 | k3
  · exact .inl k3
  · right
    rw [List.getD_eq_getElem?_getD, List.getElem?_take] at k3
    split at k3
    · rw [List.getD_eq_getElem?_getD]; exact k3
    · simp at k3

theorem mem_zipIdx {α : Type} {l : List α} {x : α} {i : Nat} : (x, i) ∈ l.zipIdx ↔ l[i]? = some x := by
  rw [List.mem_zipIdx_iff_getElem?]

theorem static_spec {ops : Array Oper} (h : staticOk ops.toList = true) :
    (∀ (i : Nat) (o : Oper), ops[i]? = some o → ∀ e ∈ o.after.toList, Region.binds .any e = true → e.on < i) ∧
    (∀ (i j : Nat) (o q : Oper) (d : Nat), i ≠ j → ops[i]? = some o → ops[j]? = some q → o.dst = some d → q.dst ≠ some d) ∧
    (∀ (i m : Nat) (o q : Oper) (d : Nat), i ≠ m → ops[i]? = some o → ops[m]? = some q → q.dst = some d → d ∈ readsOf ops.toList o → (m < i ∧ ((ancs ops.toList).getD i 0).testBit m = true) ∨ (i < m ∧ ((ancs ops.toList).getD m 0).testBit i = true)) := by
  unfold staticOk at h
  simp only at h
  rw [List.all_eq_true] at h
  have hg : ∀ (i : Nat) (o : Oper), ops[i]? = some o → (o, i) ∈ ops.toList.zipIdx := fun i o ho => mem_zipIdx.2 (by rw [Array.getElem?_toList]; exact ho)
  refine ⟨fun i o ho e he hb => ?_, fun i j o q d hne ho hq hd hqd => ?_, fun i m o q d hne ho hq hqd hr => ?_⟩
  · have h1 := h _ (hg i o ho)
    simp only [Bool.and_eq_true] at h1
    have h2 := List.all_eq_true.1 h1.1 e he
    rw [hb] at h2
    exact blt_iff.1 (by simpa using h2)
  · have h1 := h _ (hg i o ho)
    simp only [Bool.and_eq_true] at h1
    have h2 := List.all_eq_true.1 h1.2 _ (hg j q hq)
    have hn : Nat.beq i j = false := by
      cases hb : Nat.beq i j with
      | false => rfl
      | true => exact absurd (nbeq_iff.1 hb) hne
    simp only [hn, hqd, Bool.false_or] at h2
    rw [hd] at h2
    simp at h2
  · have h1 := h _ (hg i o ho)
    simp only [Bool.and_eq_true] at h1
    have h2 := List.all_eq_true.1 h1.2 _ (hg m q hq)
    have hn : Nat.beq i m = false := by
      cases hb : Nat.beq i m with
      | false => rfl
      | true => exact absurd (nbeq_iff.1 hb) hne
    simp only [hn, hqd, Bool.false_or, Bool.and_eq_true] at h2
    have h3 := h2.2
    rw [List.contains_iff_mem.2 hr] at h3
    simp only [Bool.not_true, Bool.false_or, pairOk, Bool.or_eq_true, Bool.and_eq_true, blt_iff] at h3
    exact h3

/- the faster look at a region shows the same -/
theorem foldl_congr' {α β : Type} {f g : β → α → β} : ∀ (l : List α) (b : β), (∀ b, ∀ x ∈ l, f b x = g b x) → l.foldl f b = l.foldl g b
  | [], _, _ => rfl
  | x :: l, b, h => by
    rw [List.foldl_cons, List.foldl_cons, h b x (by simp)]
    exact foldl_congr' l _ fun b y hy => h b y (by simp [hy])

theorem ancTGo_get : ∀ (l : List Oper) (acc : List Nat) (t : T Nat), (∀ i, t.get i = acc[i]?) → acc.length + l.length < limit → ∀ i, (ancTGo l acc.length t).get i = (ancGo l acc)[i]?
  | [], acc, t, h, _, i => h i
  | o :: l, acc, t, h, hl, i => by
    have hm : ∀ j, maskT t j = acc.getD j 0 := by
      intro j
      unfold maskT
      rw [h j, List.getD_eq_getElem?_getD]
      cases acc[j]? <;> rfl
    have e1 : ancTOf t o = ancOf acc o := by
      unfold ancTOf ancOf
      apply foldl_congr'
      intro b x _
      rw [hm]
    show (fN (ancTOf t o) fun n => fT (t.put acc.length n) fun t => ancTGo l (Nat.succ acc.length) t).get i = (ancGo l (acc ++ [ancOf acc o]))[i]?
    rw [fN_eq, fT_eq, e1]
    simp only [List.length_cons] at hl
    have hlen : (acc ++ [ancOf acc o]).length = Nat.succ acc.length := by simp
    rw [← hlen]
    refine ancTGo_get l (acc ++ [ancOf acc o]) (t.put acc.length (ancOf acc o)) (fun j => ?_) (by simp; omega) i
    rw [T.get_put _ _ _ _ (by unfold limit at hl; omega), h j]
    by_cases c : j = acc.length
    · subst c; simp
    · rw [if_neg c]
      rcases Nat.lt_or_ge j acc.length with c1 | c1
      · rw [List.getElem?_append_left c1]
      · rw [List.getElem?_eq_none c1, List.getElem?_eq_none (by simp; omega)]

theorem maskT_anc {ops : List Oper} (hl : ops.length < limit) (i : Nat) : maskT (ancTGo ops 0 .leaf) i = (ancs ops).getD i 0 := by
  unfold maskT ancs
  have e : (ancTGo ops 0 .leaf).get i = (ancGo ops [])[i]? := ancTGo_get ops [] .leaf (fun i => by simp) (by simpa using hl) i
  rw [e, List.getD_eq_getElem?_getD]
  cases (ancGo ops [])[i]? <;> rfl

theorem writers_spec : ∀ (l : List Oper) (i : Nat) (t w : T Nat), writers l i t = some w →
    (∀ d m, t.get d = some m → w.get d = some m) ∧ (∀ (j : Nat) (o : Oper) (d : Nat), l[j]? = some o → o.dst = some d → w.get d = some (i + j)) ∧ (∀ (j : Nat) (o : Oper) (d : Nat), l[j]? = some o → o.dst = some d → t.get d = none)
  | [], i, t, w, e => by
    have e' : some t = some w := e
    cases e'
    exact ⟨fun _ _ h => h, fun j o d h => by simp at h, fun j o d h => by simp at h⟩
  | o :: l, i, t, w, e => by
    have e' : (Option.rec (writers l (Nat.succ i) t) (fun d => ifb (Nat.blt d limit) (Option.rec (fT (t.put d i) fun t => writers l (Nat.succ i) t) (fun _ => none) (t.get d))) o.dst : Option (T Nat)) = some w := e
    cases hd : o.dst with
    | none =>
      rw [hd] at e'
      obtain ⟨h1, h2, h3⟩ := writers_spec l (Nat.succ i) t w e'
      refine ⟨h1, fun j q d hj hq => ?_, fun j q d hj hq => ?_⟩
      · cases j with
        | zero => simp only [List.getElem?_cons_zero, Option.some.injEq] at hj; subst hj; rw [hd] at hq; simp at hq
        | succ j => rw [h2 j q d (by simpa using hj) hq]; congr 1; omega
      · cases j with
        | zero => simp only [List.getElem?_cons_zero, Option.some.injEq] at hj; subst hj; rw [hd] at hq; simp at hq
        | succ j => exact h3 j q d (by simpa using hj) hq
    | some x =>
      rw [hd] at e'
      obtain ⟨hlim, e'⟩ := ifb_some e'
      have hlim := blt_iff.1 hlim
      cases hx : t.get x with
      | some y => rw [hx] at e'; simp at e'
      | none =>
        rw [hx] at e'
        have e2 : (fT (t.put x i) fun t => writers l (Nat.succ i) t) = some w := e'
        rw [fT_eq] at e2
        obtain ⟨h1, h2, h3⟩ := writers_spec l (Nat.succ i) _ w e2
        have hput : ∀ d, (t.put x i).get d = if d = x then some i else t.get d := fun d => T.get_put _ _ _ _ (by unfold limit at hlim; omega)
        refine ⟨fun d m hd' => ?_, fun j q d hj hq => ?_, fun j q d hj hq => ?_⟩
        · apply h1
          rw [hput, if_neg (by intro e; subst e; rw [hx] at hd'; simp at hd')]; exact hd'
        · cases j with
          | zero =>
            simp only [List.getElem?_cons_zero, Option.some.injEq] at hj; subst hj
            rw [hd] at hq; cases hq
            exact h1 x i (by rw [hput, if_pos rfl])
          | succ j => rw [h2 j q d (by simpa using hj) hq]; congr 1; omega
        · cases j with
          | zero =>
            simp only [List.getElem?_cons_zero, Option.some.injEq] at hj; subst hj
            rw [hd] at hq; cases hq; exact hx
          | succ j =>
            have := h3 j q d (by simpa using hj) hq
            rw [hput] at this
            split at this
            · simp at this
            · exact this

theorem allAt_spec {ops : List Oper} {w as : T Nat} : ∀ (l : List Oper) (i : Nat), allAt ops w as l i = true → ∀ (j : Nat) (o : Oper), l[j]? = some o →
    (o.after.toList.all fun e => !Region.binds .any e || Nat.blt e.on (i + j)) = true ∧ (readsOf ops o).all (fun d => Option.rec true (fun m => Nat.beq m (i + j) || pairT as (i + j) m) (w.get d)) = true
  | [], i, _, j, o, hj => by simp at hj
  | q :: l, i, h, j, o, hj => by
    have h' : ((q.after.toList.all fun e => !Region.binds .any e || Nat.blt e.on i) && ((readsOf ops q).all (fun d => Option.rec true (fun m => Nat.beq m i || pairT as i m) (w.get d)) && allAt ops w as l (Nat.succ i))) = true := h
    simp only [Bool.and_eq_true] at h'
    cases j with
    | zero => simp only [List.getElem?_cons_zero, Option.some.injEq] at hj; subst hj; exact ⟨h'.1, h'.2.1⟩
    | succ j =>
      have := allAt_spec l (Nat.succ i) h'.2.2 j o (by simpa using hj)
      have e : Nat.succ i + j = i + (j + 1) := by omega
      rw [e] at this; exact this

theorem staticFast_spec {ops : Array Oper} (h : staticFast ops.toList = true) :
    (∀ (i : Nat) (o : Oper), ops[i]? = some o → ∀ e ∈ o.after.toList, Region.binds .any e = true → e.on < i) ∧
    (∀ (i j : Nat) (o q : Oper) (d : Nat), i ≠ j → ops[i]? = some o → ops[j]? = some q → o.dst = some d → q.dst ≠ some d) ∧
    (∀ (i m : Nat) (o q : Oper) (d : Nat), i ≠ m → ops[i]? = some o → ops[m]? = some q → q.dst = some d → d ∈ readsOf ops.toList o → (m < i ∧ ((ancs ops.toList).getD i 0).testBit m = true) ∨ (i < m ∧ ((ancs ops.toList).getD m 0).testBit i = true)) := by
  unfold staticFast at h
  simp only [Bool.and_eq_true] at h
  obtain ⟨hl, h⟩ := h
  have hl := blt_iff.1 hl
  cases hw : writers ops.toList 0 .leaf with
  | none => rw [hw] at h; simp at h
  | some w =>
    rw [hw] at h
    have h : allAt ops.toList w (ancTGo ops.toList 0 .leaf) ops.toList 0 = true := h
    obtain ⟨_, w2, _⟩ := writers_spec ops.toList 0 .leaf w hw
    have hg : ∀ (i : Nat) (o : Oper), ops[i]? = some o → ops.toList[i]? = some o := fun i o ho => by rw [Array.getElem?_toList]; exact ho
    have key := fun i o ho => allAt_spec ops.toList 0 h i o (hg i o ho)
    simp only [Nat.zero_add] at key w2
    refine ⟨fun i o ho e he hb => ?_, fun i j o q d hne ho hq hd hqd => ?_, fun i m o q d hne ho hq hqd hr => ?_⟩
    · have h2 := List.all_eq_true.1 (key i o ho).1 e he
      rw [hb] at h2
      exact blt_iff.1 (by simpa using h2)
    · have g1 := w2 i o d (hg i o ho) hd
      have g2 := w2 j q d (hg j q hq) hqd
      rw [g1] at g2
      exact hne (Option.some.inj g2)
    · have h2 := List.all_eq_true.1 (key i o ho).2 d hr
      rw [w2 m q d (hg m q hq) hqd] at h2
      have h3 : (Nat.beq m i || pairT (ancTGo ops.toList 0 .leaf) i m) = true := h2
      have hn : Nat.beq m i = false := by
        cases hb : Nat.beq m i with
        | false => rfl
        | true => exact absurd (nbeq_iff.1 hb).symm hne
      rw [hn, Bool.false_or] at h3
      simp only [pairT, Bool.or_eq_true, Bool.and_eq_true, blt_iff, maskT_anc hl] at h3
      exact h3

/- the trace -/
def KdSpec (P : Program) (rec : Rec) (o : Oper) (F : Fr) (T T1 : H) (C C1 X X1 : Nat) (hs : List H) (c : Nat) (v : AV) : Kd → Prop
  | .skip => v = .undef ∧ T1 = T ∧ C1 = C ∧ X1 = X
  | .quiet => quietOp o.op P = true ∧ (∃ u, op? o.op P F T = some (.val v u)) ∧ T1 = T ∧ C1 = C ∧ X1 = X
  | .made y b => y = X ∧ alloc? o.op P F y = some (b, v) ∧ T1 = T.put y b ∧ C1 = C ∧ X1 = X + 1
  | .loud => (∃ res, op? o.op P F T = some res ∧ valOf P rec T res = some (v, T1)) ∧ hs[C - c]? = some T1 ∧ c ≤ C ∧ C1 = C + 1 ∧ X1 = X

theorem plainOf_some {r : Res} {v : AV} (h : plainOf r = some v) : ∃ u, r = .val v u := by
  cases r with
  | val a u => simp only [plainOf] at h; cases h; exact ⟨u, rfl⟩
  | call _ _ => simp [plainOf] at h
  | pick _ => simp [plainOf] at h

def cons' {α : Type} (a : α) (f : Nat → α) : Nat → α
  | 0 => a
  | n + 1 => f n

theorem trace_spec {ops : List Oper} : ∀ (l : List Oper) (fr : Fr) (h : H) (c x : Nat) (q : TrOut), trace? P rec nt ops l fr h c x = some q →
    q.trs.length = l.length ∧ ∃ (T : Nat → H) (F : Nat → Fr) (C X : Nat → Nat), T 0 = h ∧ F 0 = fr ∧ C 0 = c ∧ X 0 = x ∧ T l.length = q.h ∧ F l.length = q.fr ∧ C l.length = c + q.hs.length ∧ X l.length ≤ x + countAlloc l ∧
      ∀ (i : Nat) (o : Oper), l[i]? = some o → ∃ t, q.trs[i]? = some t ∧ t.fr = F i ∧ t.cnt = C i ∧ wanted? ops (F i) o.guard = some (kdWant t.kd) ∧ put? nt o.dst t.v (F i) = some (F (i + 1)) ∧
        KdSpec P rec o (F i) (T i) (T (i + 1)) (C i) (C (i + 1)) (X i) (X (i + 1)) q.hs c t.v t.kd
  | [], fr, h, c, x, q, e => by
    have e' : some (⟨[], [], fr, h⟩ : TrOut) = some q := e
    cases e'
    exact ⟨rfl, fun _ => h, fun _ => fr, fun _ => c, fun _ => x, rfl, rfl, rfl, rfl, rfl, rfl, by simp, by simp, fun i o ho => by simp at ho⟩
  | o :: l, fr, h, c, x, q, e => by
    have e0 : (ob (wanted? ops fr o.guard) fun b =>
      Bool.rec (ob (put? nt o.dst .undef fr) fun fr' => fT fr' fun fr' => trCons ⟨fr, .undef, c, .skip⟩ [] (trace? P rec nt ops l fr' h c x))
        (Bool.rec
          (ob (op? o.op P fr h) fun r =>
            Bool.rec (ob2 (valOf P rec h r) fun v h => fV v fun v => fH h fun h => ob (put? nt o.dst v fr) fun fr' => fT fr' fun fr' => trCons ⟨fr, v, c, .loud⟩ [h] (trace? P rec nt ops l fr' h (Nat.succ c) x))
              (ob (plainOf r) fun v => fV v fun v => ob (put? nt o.dst v fr) fun fr' => fT fr' fun fr' => trCons ⟨fr, v, c, .quiet⟩ [] (trace? P rec nt ops l fr' h c x))
              (quietOp o.op P))
          (ob2 (alloc? o.op P fr x) fun b v => fV v fun v => fH (h.put x b) fun h => ob (put? nt o.dst v fr) fun fr' => fT fr' fun fr' => trCons ⟨fr, v, c, .made x b⟩ [] (trace? P rec nt ops l fr' h c (Nat.succ x)))
          (isAlloc o.op)) b) = some q := e
    simp only [fV_eq, fH_eq, fT_eq] at e0
    have e' : (ob (wanted? ops fr o.guard) fun b =>
      Bool.rec (ob (put? nt o.dst .undef fr) fun fr' => trCons ⟨fr, .undef, c, .skip⟩ [] (trace? P rec nt ops l fr' h c x))
        (Bool.rec
          (ob (op? o.op P fr h) fun r =>
            Bool.rec (ob (valOf P rec h r) fun p => ob (put? nt o.dst p.1 fr) fun fr' => trCons ⟨fr, p.1, c, .loud⟩ [p.2] (trace? P rec nt ops l fr' p.2 (Nat.succ c) x))
              (ob (plainOf r) fun v => ob (put? nt o.dst v fr) fun fr' => trCons ⟨fr, v, c, .quiet⟩ [] (trace? P rec nt ops l fr' h c x))
              (quietOp o.op P))
          (ob (alloc? o.op P fr x) fun q => ob (put? nt o.dst q.2 fr) fun fr' => trCons ⟨fr, q.2, c, .made x q.1⟩ [] (trace? P rec nt ops l fr' (h.put x q.1) c (Nat.succ x)))
          (isAlloc o.op)) b) = some q := e0
    obtain ⟨b, hb, e1⟩ := ob_some e'
    have key : ∀ (fr' : Fr) (h' : H) (c' x' : Nat) (t : Tr) (hs : List H), t.fr = fr → t.cnt = c → put? nt o.dst t.v fr = some fr' → b = kdWant t.kd → c' = c + hs.length → x' ≤ x + (if isAlloc o.op then 1 else 0) →
        (∀ hs2, KdSpec P rec o fr h h' c c' x x' (hs ++ hs2) c t.v t.kd) → trCons t hs (trace? P rec nt ops l fr' h' c' x') = some q →
        q.trs.length = (o :: l).length ∧ ∃ (T : Nat → H) (F : Nat → Fr) (C X : Nat → Nat), T 0 = h ∧ F 0 = fr ∧ C 0 = c ∧ X 0 = x ∧ T (o :: l).length = q.h ∧ F (o :: l).length = q.fr ∧ C (o :: l).length = c + q.hs.length ∧ X (o :: l).length ≤ x + countAlloc (o :: l) ∧
      ∀ (i : Nat) (o' : Oper), (o :: l)[i]? = some o' → ∃ t, q.trs[i]? = some t ∧ t.fr = F i ∧ t.cnt = C i ∧ wanted? ops (F i) o'.guard = some (kdWant t.kd) ∧ put? nt o'.dst t.v (F i) = some (F (i + 1)) ∧
        KdSpec P rec o' (F i) (T i) (T (i + 1)) (C i) (C (i + 1)) (X i) (X (i + 1)) q.hs c t.v t.kd := by
      intro fr' h' c' x' t hs g1 g2 g3 g4 g5 g6 g7 g8
      obtain ⟨q1, hq1, g8⟩ := ob_some g8
      cases g8
      obtain ⟨k1, T, F, C, X, k2, k3, k4, k5, k6, k7, k8, k9, k10⟩ := trace_spec l fr' h' c' x' q1 hq1
      refine ⟨by simp [k1], cons' h T, cons' fr F, cons' c C, cons' x X, rfl, rfl, rfl, rfl, k6, k7, ?_, ?_, ?_⟩
      · show C l.length = _
        rw [k8, g5, List.length_append]; omega
      · show X l.length ≤ _
        simp only [countAlloc]
        split <;> rename_i hh
        · rw [if_pos hh] at g6; omega
        · rw [if_neg hh] at g6; omega
      · intro i o' ho'
        cases i with
        | zero =>
          simp only [List.getElem?_cons_zero, Option.some.injEq] at ho'
          subst ho'
          refine ⟨t, rfl, g1, g2, by rw [← g4]; exact hb, ?_, ?_⟩
          · show put? nt o.dst t.v fr = some (F 0)
            rw [k3]; exact g3
          · show KdSpec P rec o fr h (T 0) c (C 0) x (X 0) _ c t.v t.kd
            rw [k2, k4, k5]; exact g7 _
        | succ i =>
          simp only [List.getElem?_cons_succ] at ho'
          obtain ⟨t2, j1, j2, j3, j4, j5, j6⟩ := k10 i o' ho'
          refine ⟨t2, by simpa using j1, j2, j3, j4, j5, ?_⟩
          show KdSpec P rec o' (F i) (T i) (T (i + 1)) (C i) (C (i + 1)) (X i) (X (i + 1)) _ c t2.v t2.kd
          cases hk : t2.kd with
          | skip => rw [hk] at j6; exact j6
          | quiet => rw [hk] at j6; exact j6
          | made y b => rw [hk] at j6; exact j6
          | loud =>
            rw [hk] at j6
            obtain ⟨a1, a2, a3, a4, a5⟩ := j6
            refine ⟨a1, ?_, by omega, a4, a5⟩
            show (hs ++ q1.hs)[C i - c]? = _
            rw [List.getElem?_append_right (by omega), ← a2]
            congr 1
            omega
    cases b with
    | false =>
      obtain ⟨fr', hf, e1⟩ := ob_some e1
      exact key fr' h c x ⟨fr, .undef, c, .skip⟩ [] rfl rfl hf rfl rfl (by omega) (fun _ => ⟨rfl, rfl, rfl, rfl⟩) e1
    | true =>
      cases ha : isAlloc o.op with
      | true =>
        rw [ha] at e1
        obtain ⟨a, hal, e1⟩ := ob_some e1
        obtain ⟨fr', hf, e1⟩ := ob_some e1
        exact key fr' (h.put x a.1) c (x + 1) ⟨fr, a.2, c, .made x a.1⟩ [] rfl rfl hf rfl rfl (by rw [if_pos ha]; exact Nat.le_refl _) (fun _ => ⟨rfl, hal, rfl, rfl, rfl⟩) e1
      | false =>
        rw [ha] at e1
        obtain ⟨r, hr, e1⟩ := ob_some e1
        cases hq : quietOp o.op P with
        | true =>
          rw [hq] at e1
          obtain ⟨v, hv, e2⟩ := ob_some e1
          obtain ⟨fr', hf, e3⟩ := ob_some e2
          obtain ⟨u, hu⟩ := plainOf_some hv
          exact key fr' h c x ⟨fr, v, c, .quiet⟩ [] rfl rfl hf rfl rfl (by omega) (fun _ => ⟨hq, ⟨u, by rw [hr, hu]⟩, rfl, rfl, rfl⟩) e3
        | false =>
          rw [hq] at e1
          obtain ⟨p, hp, e1⟩ := ob_some e1
          obtain ⟨fr', hf, e1⟩ := ob_some e1
          exact key fr' p.2 (c + 1) x ⟨fr, p.1, c, .loud⟩ [p.2] rfl rfl hf rfl rfl (by omega) (fun _ => ⟨⟨r, hr, hp⟩, by simp, Nat.le_refl _, rfl, rfl⟩) e1
end Go.X
