/-
  An abstract machine for the model: what it computes, and that it holds of every run (part 3).
-/
import Derived.Test.YtifdjfcakkdgeaaGreatDoorXN2
import Derived.LoopN
set_option linter.unusedVariables false
set_option linter.unusedSimpArgs false
set_option linter.unusedSectionVars false
namespace Go.X
open Go.RowKit
variable [Tab]
variable {P : Program} {nt : Nat} {rec : Rec}
theorem alloc_own {o : Op} {fr : Fr} {x : Nat} {b : Blk} {v : AV} (e : alloc? o P fr x = some (b, v)) : own b = true := by
  cases o with
  | alloc el =>
    obtain ⟨z, hz, e⟩ := ob_some e
    obtain ⟨hll, e⟩ := ifb_some e
    cases e; rfl
  | box el y =>
    obtain ⟨z, hz, e⟩ := ob_some e
    obtain ⟨hll, e⟩ := ifb_some e
    cases e; rfl
  | buildSlice t n ps =>
    obtain ⟨l, hl, e⟩ := ob_some e
    obtain ⟨cl, hcl, e⟩ := ob_some e
    obtain ⟨hll, e⟩ := ifb_some e
    cases e; rfl
  | makeMap t rs =>
    obtain ⟨_, hh, e⟩ := ob_some e
    cases e; rfl
  | makeSlice t l c =>
    obtain ⟨a, ha, e⟩ := ob_some e
    obtain ⟨b2, hb, e⟩ := ob_some e
    obtain ⟨q, hq, e⟩ := ob_some e
    cases e
    unfold makeBlk at hq
    obtain ⟨_, _, hq⟩ := ob_some hq
    obtain ⟨_, _, hq⟩ := ob_some hq
    obtain ⟨_, _, hq⟩ := ob_some hq
    obtain ⟨_, _, hq⟩ := ob_some hq
    obtain ⟨_, _, hq⟩ := ob_some hq
    obtain ⟨_, _, hq⟩ := ob_some hq
    obtain ⟨_, hq⟩ := ifb_some hq
    cases hq
    rfl
  | _ => simp [alloc?] at e
mutual
theorem veq_eq : ∀ {a b : AV}, veq a b = true → a = b
  | .bool a, b, h => by cases b <;> simp [veq] at h; rw [h]
  | .int k a, b, h => by
    cases b <;> simp [veq] at h
    obtain ⟨h1, h2⟩ := h
    rw [kcode_inj (nbeq_iff.2 h1), h2]
  | .str n c, b, h => by cases b <;> simp [veq, strEq] at h; rw [h.1, h.2]
  | .nilp, b, h => by cases b <;> simp [veq] at h; rfl
  | .ptr x o, b, h => by cases b <;> simp [veq] at h; rw [h.1, h.2]
  | .gp x o, b, h => by cases b <;> simp [veq] at h; rw [h.1, h.2]
  | .oi x, b, h => by cases b <;> simp [veq] at h; rw [h]
  | .es, b, h => by cases b <;> simp [veq] at h; rfl
  | .fo x j z, b, h => by
    cases b <;> simp only [veq, Bool.and_eq_true, Bool.false_eq_true] at h
    rw [Nat.eq_of_beq_eq_true h.1, Nat.eq_of_beq_eq_true h.2.1, Nat.eq_of_beq_eq_true h.2.2]
  | .fp x j z f, b, h => by
    cases b <;> simp only [veq, Bool.and_eq_true, Bool.false_eq_true] at h
    rw [Nat.eq_of_beq_eq_true h.1, Nat.eq_of_beq_eq_true h.2.1, Nat.eq_of_beq_eq_true h.2.2.1, Nat.eq_of_beq_eq_true h.2.2.2]
  | .ov x j z, b, h => by
    cases b <;> simp only [veq, Bool.and_eq_true, Bool.false_eq_true] at h
    rw [Nat.eq_of_beq_eq_true h.1, Nat.eq_of_beq_eq_true h.2.1, Nat.eq_of_beq_eq_true h.2.2]
  | .op x j z f, b, h => by
    cases b <;> simp only [veq, Bool.and_eq_true, Bool.false_eq_true] at h
    rw [Nat.eq_of_beq_eq_true h.1, Nat.eq_of_beq_eq_true h.2.1, Nat.eq_of_beq_eq_true h.2.2.1, Nat.eq_of_beq_eq_true h.2.2.2]
  | .nils, b, h => by cases b <;> simp [veq] at h; rfl
  | .sl x o n c, b, h => by cases b <;> simp [veq] at h; rw [h.1, h.2.1, h.2.2.1, h.2.2.2]
  | .so x o n c, b, h => by cases b <;> simp [veq] at h; rw [h.1, h.2.1, h.2.2.1, h.2.2.2]
  | .nilm, b, h => by cases b <;> simp [veq] at h; rfl
  | .map x, b, h => by cases b <;> simp [veq] at h; rw [h]
  | .fn f a c, b, h => by
    cases b with
    | fn g d e =>
      cases f <;> cases g <;> simp [veq] at h
      obtain ⟨h1, h2, h3⟩ := h
      rw [h1, veqs_eq h2, veqs_eq h3]
    | _ => cases f <;> simp [veq] at h
  | .nilf, b, h => by cases b <;> simp [veq] at h; rfl
  | .iface t v, b, h => by
    cases b <;> simp [veq] at h
    rw [h.1, veq_eq h.2]
  | .nili, b, h => by cases b <;> simp [veq] at h; rfl
  | .agg l, b, h => by cases b <;> simp [veq] at h; rw [veqs_eq h]
  | .tup l, b, h => by cases b <;> simp [veq] at h; rw [veqs_eq h]
  | .ostr i, b, h => by cases b <;> simp [veq] at h; rw [h]
  | .rw i, b, h => by cases b <;> simp [veq] at h; rw [h]
theorem veqs_eq : ∀ {a b : List AV}, veqs a b = true → a = b
  | [], b, h => by cases b <;> simp [veqs] at h; rfl
  | x :: l, b, h => by
    cases b <;> simp [veqs] at h
    rw [veq_eq h.1, veqs_eq h.2]
end
theorem fold_anc {acc : List Nat} {m : Nat} : ∀ (es : List Edge) (s : Nat), (es.foldl (fun s e => if Region.binds .any e then s ||| (1 <<< e.on) ||| acc.getD e.on 0 else s) s).testBit m = true → s.testBit m = true ∨ ∃ e ∈ es, Region.binds .any e = true ∧ (m = e.on ∨ (acc.getD e.on 0).testBit m = true)
  | [], s, h => .inl h
  | e :: es, s, h => by
    rcases fold_anc es _ h with h1 | ⟨e', h1, h2⟩
    · simp only at h1
      split at h1
      · rename_i hb
        simp only [Nat.testBit_or, Bool.or_eq_true, Nat.one_shiftLeft, Nat.testBit_two_pow, decide_eq_true_eq] at h1
        rcases h1 with (h1 | h1) | h1
        · exact .inl h1
        · exact .inr ⟨e, by simp, hb, .inl h1.symm⟩
        · exact .inr ⟨e, by simp, hb, .inr h1⟩
      · exact .inl h1
    · exact .inr ⟨e', by simp [h1], h2⟩
theorem ancOf_step {acc : List Nat} {o : Oper} {m : Nat} (h : (ancOf acc o).testBit m = true) : ∃ e ∈ o.after.toList, Region.binds .any e = true ∧ (m = e.on ∨ (acc.getD e.on 0).testBit m = true) := by
  rcases fold_anc _ _ h with h | h
  · simp at h
  · exact h
theorem ancGo_prefix : ∀ (l : List Oper) (acc : List Nat), ∃ r, ancGo l acc = acc ++ r ∧ r.length = l.length
  | [], acc => ⟨[], by simp [ancGo], rfl⟩
  | o :: l, acc => by
    obtain ⟨r, h1, h2⟩ := ancGo_prefix l (acc ++ [ancOf acc o])
    exact ⟨ancOf acc o :: r, by simp [ancGo, h1], by simp [h2]⟩
theorem ancGo_get : ∀ (l : List Oper) (acc : List Nat) (i : Nat), acc.length ≤ i → i < acc.length + l.length → ∃ o, l[i - acc.length]? = some o ∧ (ancGo l acc).getD i 0 = ancOf ((ancGo l acc).take i) o
  | [], acc, i, h1, h2 => by simp at h2; omega
  | o :: l, acc, i, h1, h2 => by
    simp only [ancGo]
    by_cases c : i = acc.length
    · subst c
      refine ⟨o, by simp, ?_⟩
      obtain ⟨r, g1, g2⟩ := ancGo_prefix l (acc ++ [ancOf acc o])
      rw [g1]
      simp
    · obtain ⟨q, h3, h4⟩ := ancGo_get l (acc ++ [ancOf acc o]) i (by simp; omega) (by simp at h2 ⊢; omega)
      refine ⟨q, ?_, h4⟩
      have : i - acc.length = (i - (acc ++ [ancOf acc o]).length) + 1 := by simp; omega
      rw [this, List.getElem?_cons_succ]; exact h3
theorem ancs_step {ops : List Oper} {i m : Nat} (h : ((ancs ops).getD i 0).testBit m = true) : ∃ o e, ops[i]? = some o ∧ e ∈ o.after.toList ∧ Region.binds .any e = true ∧ (m = e.on ∨ ((ancs ops).getD e.on 0).testBit m = true) := by
  obtain ⟨r, g1, g2⟩ := ancGo_prefix ops []
  have hlen : (ancs ops).length = ops.length := by unfold ancs; rw [g1]; simp [g2]
  have hi : i < ops.length := by
    rcases Nat.lt_or_ge i ops.length with h1 | h1
    · exact h1
    · rw [List.getD_eq_getElem?_getD, List.getElem?_eq_none (by omega)] at h
      simp at h
  obtain ⟨o, h1, h2⟩ := ancGo_get ops [] i (by simp) (by simpa using hi)
  have h2' : (ancs ops).getD i 0 = ancOf ((ancs ops).take i) o := h2
  rw [h2'] at h
  obtain ⟨e, k1, k2, k3⟩ := ancOf_step h
  refine ⟨o, e, by simpa using h1, k1, k2, ?_⟩
  rcases k3 with k3 | k3
  · exact .inl k3
  · right
    rw [List.getD_eq_getElem?_getD, List.getElem?_take] at k3
    split at k3
    · rw [List.getD_eq_getElem?_getD]; exact k3
    · simp at k3
theorem mem_zipIdx {α : Type} {l : List α} {x : α} {i : Nat} : (x, i) ∈ l.zipIdx ↔ l[i]? = some x := by
  rw [List.mem_zipIdx_iff_getElem?]
theorem static_spec {ops : Array Oper} (h : staticOk ops.toList = true) :
    (∀ (i : Nat) (o : Oper), ops[i]? = some o → ∀ e ∈ o.after.toList, Region.binds .any e = true → e.on < i) ∧
    (∀ (i j : Nat) (o q : Oper) (d : Nat), i ≠ j → ops[i]? = some o → ops[j]? = some q → o.dst = some d → q.dst ≠ some d) ∧
    (∀ (i m : Nat) (o q : Oper) (d : Nat), i ≠ m → ops[i]? = some o → ops[m]? = some q → q.dst = some d → d ∈ readsOf ops.toList o → (m < i ∧ ((ancs ops.toList).getD i 0).testBit m = true) ∨ (i < m ∧ ((ancs ops.toList).getD m 0).testBit i = true)) := by
  unfold staticOk at h
  simp only at h
  rw [List.all_eq_true] at h
  have hg : ∀ (i : Nat) (o : Oper), ops[i]? = some o → (o, i) ∈ ops.toList.zipIdx := fun i o ho => mem_zipIdx.2 (by rw [Array.getElem?_toList]; exact ho)
  refine ⟨fun i o ho e he hb => ?_, fun i j o q d hne ho hq hd hqd => ?_, fun i m o q d hne ho hq hqd hr => ?_⟩
  · have h1 := h _ (hg i o ho)
    simp only [Bool.and_eq_true] at h1
    have h2 := List.all_eq_true.1 h1.1 e he
    rw [hb] at h2
    exact blt_iff.1 (by simpa using h2)
  · have h1 := h _ (hg i o ho)
    simp only [Bool.and_eq_true] at h1
    have h2 := List.all_eq_true.1 h1.2 _ (hg j q hq)
    have hn : Nat.beq i j = false := by
      cases hb : Nat.beq i j with
      | false => rfl
      | true => exact absurd (nbeq_iff.1 hb) hne
    simp only [hn, hqd, Bool.false_or] at h2
    rw [hd] at h2
    simp at h2
  · have h1 := h _ (hg i o ho)
    simp only [Bool.and_eq_true] at h1
    have h2 := List.all_eq_true.1 h1.2 _ (hg m q hq)
    have hn : Nat.beq i m = false := by
      cases hb : Nat.beq i m with
      | false => rfl
      | true => exact absurd (nbeq_iff.1 hb) hne
    simp only [hn, hqd, Bool.false_or, Bool.and_eq_true] at h2
    have h3 := h2.2
    rw [List.contains_iff_mem.2 hr] at h3
    simp only [Bool.not_true, Bool.false_or, pairOk, Bool.or_eq_true, Bool.and_eq_true, blt_iff] at h3
    exact h3
theorem foldl_congr' {α β : Type} {f g : β → α → β} : ∀ (l : List α) (b : β), (∀ b, ∀ x ∈ l, f b x = g b x) → l.foldl f b = l.foldl g b
  | [], _, _ => rfl
  | x :: l, b, h => by
    rw [List.foldl_cons, List.foldl_cons, h b x (by simp)]
    exact foldl_congr' l _ fun b y hy => h b y (by simp [hy])
theorem ancTGo_get : ∀ (l : List Oper) (acc : List Nat) (t : T Nat), (∀ i, t.get i = acc[i]?) → acc.length + l.length < limit → ∀ i, (ancTGo l acc.length t).get i = (ancGo l acc)[i]?
  | [], acc, t, h, _, i => h i
  | o :: l, acc, t, h, hl, i => by
    have hm : ∀ j, maskT t j = acc.getD j 0 := by
      intro j
      unfold maskT
      rw [h j, List.getD_eq_getElem?_getD]
      cases acc[j]? <;> rfl
    have e1 : ancTOf t o = ancOf acc o := by
      unfold ancTOf ancOf
      apply foldl_congr'
      intro b x _
      rw [hm]
    show (fN (ancTOf t o) fun n => fT (t.put acc.length n) fun t => ancTGo l (Nat.succ acc.length) t).get i = (ancGo l (acc ++ [ancOf acc o]))[i]?
    rw [fN_eq, fT_eq, e1]
    simp only [List.length_cons] at hl
    have hlen : (acc ++ [ancOf acc o]).length = Nat.succ acc.length := by simp
    rw [← hlen]
    refine ancTGo_get l (acc ++ [ancOf acc o]) (t.put acc.length (ancOf acc o)) (fun j => ?_) (by simp; omega) i
    rw [T.get_put _ _ _ _ (by unfold limit at hl; omega), h j]
    by_cases c : j = acc.length
    · subst c; simp
    · rw [if_neg c]
      rcases Nat.lt_or_ge j acc.length with c1 | c1
      · rw [List.getElem?_append_left c1]
      · rw [List.getElem?_eq_none c1, List.getElem?_eq_none (by simp; omega)]
theorem maskT_anc {ops : List Oper} (hl : ops.length < limit) (i : Nat) : maskT (ancTGo ops 0 .leaf) i = (ancs ops).getD i 0 := by
  unfold maskT ancs
  have e : (ancTGo ops 0 .leaf).get i = (ancGo ops [])[i]? := ancTGo_get ops [] .leaf (fun i => by simp) (by simpa using hl) i
  rw [e, List.getD_eq_getElem?_getD]
  cases (ancGo ops [])[i]? <;> rfl
theorem writers_spec : ∀ (l : List Oper) (i : Nat) (t w : T Nat), writers l i t = some w →
    (∀ d m, t.get d = some m → w.get d = some m) ∧ (∀ (j : Nat) (o : Oper) (d : Nat), l[j]? = some o → o.dst = some d → w.get d = some (i + j)) ∧ (∀ (j : Nat) (o : Oper) (d : Nat), l[j]? = some o → o.dst = some d → t.get d = none)
  | [], i, t, w, e => by
    have e' : some t = some w := e
    cases e'
    exact ⟨fun _ _ h => h, fun j o d h => by simp at h, fun j o d h => by simp at h⟩
  | o :: l, i, t, w, e => by
    have e' : (Option.rec (writers l (Nat.succ i) t) (fun d => ifb (Nat.blt d limit) (Option.rec (fT (t.put d i) fun t => writers l (Nat.succ i) t) (fun _ => none) (t.get d))) o.dst : Option (T Nat)) = some w := e
    cases hd : o.dst with
    | none =>
      rw [hd] at e'
      obtain ⟨h1, h2, h3⟩ := writers_spec l (Nat.succ i) t w e'
      refine ⟨h1, fun j q d hj hq => ?_, fun j q d hj hq => ?_⟩
      · cases j with
        | zero => simp only [List.getElem?_cons_zero, Option.some.injEq] at hj; subst hj; rw [hd] at hq; simp at hq
        | succ j => rw [h2 j q d (by simpa using hj) hq]; congr 1; omega
      · cases j with
        | zero => simp only [List.getElem?_cons_zero, Option.some.injEq] at hj; subst hj; rw [hd] at hq; simp at hq
        | succ j => exact h3 j q d (by simpa using hj) hq
    | some x =>
      rw [hd] at e'
      obtain ⟨hlim, e'⟩ := ifb_some e'
      have hlim := blt_iff.1 hlim
      cases hx : t.get x with
      | some y => rw [hx] at e'; simp at e'
      | none =>
        rw [hx] at e'
        have e2 : (fT (t.put x i) fun t => writers l (Nat.succ i) t) = some w := e'
        rw [fT_eq] at e2
        obtain ⟨h1, h2, h3⟩ := writers_spec l (Nat.succ i) _ w e2
        have hput : ∀ d, (t.put x i).get d = if d = x then some i else t.get d := fun d => T.get_put _ _ _ _ (by unfold limit at hlim; omega)
        refine ⟨fun d m hd' => ?_, fun j q d hj hq => ?_, fun j q d hj hq => ?_⟩
        · apply h1
          rw [hput, if_neg (by intro e; subst e; rw [hx] at hd'; simp at hd')]; exact hd'
        · cases j with
          | zero =>
            simp only [List.getElem?_cons_zero, Option.some.injEq] at hj; subst hj
            rw [hd] at hq; cases hq
            exact h1 x i (by rw [hput, if_pos rfl])
          | succ j => rw [h2 j q d (by simpa using hj) hq]; congr 1; omega
        · cases j with
          | zero =>
            simp only [List.getElem?_cons_zero, Option.some.injEq] at hj; subst hj
            rw [hd] at hq; cases hq; exact hx
          | succ j =>
            have := h3 j q d (by simpa using hj) hq
            rw [hput] at this
            split at this
            · simp at this
            · exact this
theorem allAt_spec {ops : List Oper} {w as : T Nat} : ∀ (l : List Oper) (i : Nat), allAt ops w as l i = true → ∀ (j : Nat) (o : Oper), l[j]? = some o →
    (o.after.toList.all fun e => !Region.binds .any e || Nat.blt e.on (i + j)) = true ∧ (readsOf ops o).all (fun d => Option.rec true (fun m => Nat.beq m (i + j) || pairT as (i + j) m) (w.get d)) = true
  | [], i, _, j, o, hj => by simp at hj
  | q :: l, i, h, j, o, hj => by
    have h' : ((q.after.toList.all fun e => !Region.binds .any e || Nat.blt e.on i) && ((readsOf ops q).all (fun d => Option.rec true (fun m => Nat.beq m i || pairT as i m) (w.get d)) && allAt ops w as l (Nat.succ i))) = true := h
    simp only [Bool.and_eq_true] at h'
    cases j with
    | zero => simp only [List.getElem?_cons_zero, Option.some.injEq] at hj; subst hj; exact ⟨h'.1, h'.2.1⟩
    | succ j =>
      have := allAt_spec l (Nat.succ i) h'.2.2 j o (by simpa using hj)
      have e : Nat.succ i + j = i + (j + 1) := by omega
      rw [e] at this; exact this
theorem staticFast_spec {ops : Array Oper} (h : staticFast ops.toList = true) :
    (∀ (i : Nat) (o : Oper), ops[i]? = some o → ∀ e ∈ o.after.toList, Region.binds .any e = true → e.on < i) ∧
    (∀ (i j : Nat) (o q : Oper) (d : Nat), i ≠ j → ops[i]? = some o → ops[j]? = some q → o.dst = some d → q.dst ≠ some d) ∧
    (∀ (i m : Nat) (o q : Oper) (d : Nat), i ≠ m → ops[i]? = some o → ops[m]? = some q → q.dst = some d → d ∈ readsOf ops.toList o → (m < i ∧ ((ancs ops.toList).getD i 0).testBit m = true) ∨ (i < m ∧ ((ancs ops.toList).getD m 0).testBit i = true)) := by
  unfold staticFast at h
  simp only [Bool.and_eq_true] at h
  obtain ⟨hl, h⟩ := h
  have hl := blt_iff.1 hl
  cases hw : writers ops.toList 0 .leaf with
  | none => rw [hw] at h; simp at h
  | some w =>
    rw [hw] at h
    have h : allAt ops.toList w (ancTGo ops.toList 0 .leaf) ops.toList 0 = true := h
    obtain ⟨_, w2, _⟩ := writers_spec ops.toList 0 .leaf w hw
    have hg : ∀ (i : Nat) (o : Oper), ops[i]? = some o → ops.toList[i]? = some o := fun i o ho => by rw [Array.getElem?_toList]; exact ho
    have key := fun i o ho => allAt_spec ops.toList 0 h i o (hg i o ho)
    simp only [Nat.zero_add] at key w2
    refine ⟨fun i o ho e he hb => ?_, fun i j o q d hne ho hq hd hqd => ?_, fun i m o q d hne ho hq hqd hr => ?_⟩
    · have h2 := List.all_eq_true.1 (key i o ho).1 e he
      rw [hb] at h2
      exact blt_iff.1 (by simpa using h2)
    · have g1 := w2 i o d (hg i o ho) hd
      have g2 := w2 j q d (hg j q hq) hqd
      rw [g1] at g2
      exact hne (Option.some.inj g2)
    · have h2 := List.all_eq_true.1 (key i o ho).2 d hr
      rw [w2 m q d (hg m q hq) hqd] at h2
      have h3 : (Nat.beq m i || pairT (ancTGo ops.toList 0 .leaf) i m) = true := h2
      have hn : Nat.beq m i = false := by
        cases hb : Nat.beq m i with
        | false => rfl
        | true => exact absurd (nbeq_iff.1 hb).symm hne
      rw [hn, Bool.false_or] at h3
      simp only [pairT, Bool.or_eq_true, Bool.and_eq_true, blt_iff, maskT_anc hl] at h3
      exact h3
theorem flush_next (p : Nat → Bool) : ∀ (ms : Pend) (h : H), (flush p ms h).next = h.next
  | [], h => rfl
  | m :: ms, h => by
    have e : flush p (m :: ms) h = fH (Bool.rec h (h.put m.2.1 m.2.2) (p m.1)) (flush p ms) := rfl
    rw [e, fH_eq, flush_next p ms]
    cases p m.1 <;> rfl
theorem flush_get (p : Nat → Bool) : ∀ (ms : Pend) (h : H), (∀ q ∈ ms, q.2.1 < limit) → (∀ q ∈ ms, ∀ q' ∈ ms, q.2.1 = q'.2.1 → q = q') → ∀ y b,
    (flush p ms h).get y = some b ↔ (∃ m, (m, y, b) ∈ ms ∧ p m = true) ∨ ((∀ m c, (m, y, c) ∈ ms → p m = false) ∧ h.get y = some b)
  | [], h, _, _, y, b => by simp [flush]
  | m :: ms, h, hl, hu, y, b => by
    have e : flush p (m :: ms) h = fH (Bool.rec h (h.put m.2.1 m.2.2) (p m.1)) (flush p ms) := rfl
    rw [e, fH_eq, flush_get p ms _ (fun q hq => hl q (by simp [hq])) (fun q hq q' hq' => hu q (by simp [hq]) q' (by simp [hq'])) y b]
    obtain ⟨mi, mx, mb⟩ := m
    have hlim : mx < limit := hl (mi, mx, mb) (by simp)
    cases hp : p mi with
    | false =>
      constructor
      · rintro (⟨m, h1, h2⟩ | ⟨h1, h2⟩)
        · exact .inl ⟨m, by simp [h1], h2⟩
        · refine .inr ⟨fun m c hm => ?_, h2⟩
          rcases List.mem_cons.1 hm with hm | hm
          · cases hm; exact hp
          · exact h1 m c hm
      · rintro (⟨m, h1, h2⟩ | ⟨h1, h2⟩)
        · rcases List.mem_cons.1 h1 with hm | hm
          · cases hm; rw [hp] at h2; cases h2
          · exact .inl ⟨m, hm, h2⟩
        · exact .inr ⟨fun m c hm => h1 m c (by simp [hm]), h2⟩
    | true =>
      have hput : H.get (h.put mx mb) y = if y = mx then some mb else h.get y := H.get_put _ _ _ _ (by unfold limit at hlim; omega)
      have own : ∀ m c, (m, mx, c) ∈ ms → m = mi ∧ c = mb := fun m c hm => by
        have := hu (m, mx, c) (by simp [hm]) (mi, mx, mb) (by simp) rfl
        cases this; exact ⟨rfl, rfl⟩
      constructor
      · rintro (⟨m, h1, h2⟩ | ⟨h1, h2⟩)
        · exact .inl ⟨m, by simp [h1], h2⟩
        · have h2 : H.get (h.put mx mb) y = some b := h2
          rw [hput] at h2
          by_cases c : y = mx
          · rw [if_pos c] at h2; cases h2; subst c
            exact .inl ⟨mi, by simp, hp⟩
          · rw [if_neg c] at h2
            refine .inr ⟨fun m d hm => ?_, h2⟩
            rcases List.mem_cons.1 hm with hm | hm
            · cases hm; exact absurd rfl c
            · exact h1 m d hm
      · rintro (⟨m, h1, h2⟩ | ⟨h1, h2⟩)
        · rcases List.mem_cons.1 h1 with hm | hm
          · cases hm
            by_cases hin : ∃ m c, (m, y, c) ∈ ms ∧ p m = true
            · obtain ⟨m, c, k1, k2⟩ := hin
              obtain ⟨e1, e2⟩ := own m c k1
              subst e1 e2
              exact .inl ⟨m, k1, k2⟩
            · refine .inr ⟨fun m c hm => ?_, ?_⟩
              · cases hpm : p m with
                | false => rfl
                | true => exact absurd ⟨m, c, hm, hpm⟩ hin
              · show H.get (h.put y b) y = some b
                rw [hput, if_pos rfl]
          · exact .inl ⟨m, hm, h2⟩
        · have hy : y ≠ mx := by
            rintro rfl
            have := h1 mi mb (by simp)
            rw [hp] at this; cases this
          refine .inr ⟨fun m c hm => h1 m c (by simp [hm]), ?_⟩
          show H.get (h.put mx mb) y = some b
          rw [hput, if_neg hy]; exact h2
@[simp] theorem lessP_eq {α : Type} (p : Nat → Bool) : ∀ (ms : Pend) (k : Pend → α), lessP p ms k = k (ms.filter fun m => !p m.1)
  | [], k => rfl
  | m :: ms, k => by
    have e : lessP p (m :: ms) k = lessP p ms fun r => Bool.rec (k (m :: r)) (k r) (p m.1) := rfl
    rw [e, lessP_eq p ms]
    cases hp : p m.1 <;> simp [hp]
@[simp] theorem moreP_eq {α : Type} (m : Nat × Nat × Blk) : ∀ (ms : Pend) (k : Pend → α), moreP m ms k = k (ms ++ [m])
  | [], k => rfl
  | a :: ms, k => by
    have e : moreP m (a :: ms) k = moreP m ms fun r => k (a :: r) := rfl
    rw [e, moreP_eq m ms]
    rfl
def KdSpec (P : Program) (rec : Rec) (as : List Nat) (i : Nat) (o : Oper) (F : Fr) (T T1 : H) (N N1 : Pend) (C C1 X X1 : Nat) (hs : List H) (c : Nat) (v : AV) : Kd → Prop
  | .skip => v = .undef ∧ T1 = T ∧ N1 = N ∧ C1 = C ∧ X1 = X
  | .quiet => quietOp o.op P = true ∧ (∃ u, op? o.op P F (flush (fun _ => true) N T) = some (.val v u)) ∧ T1 = T ∧ N1 = N ∧ C1 = C ∧ X1 = X
  | .made y b => y = X ∧ alloc? o.op P F y = some (b, v) ∧ T1 = T ∧ N1 = N ++ [(i, y, b)] ∧ C1 = C ∧ X1 = X + 1
  | .loud => (∃ res, op? o.op P F (flush (ancB as i) N T) = some res ∧ valOf P rec (flush (ancB as i) N T) res = some (v, T1)) ∧ N1 = N.filter (fun m => !ancB as i m.1) ∧ hs[C - c]? = some T1 ∧ c ≤ C ∧ C1 = C + 1 ∧ X1 = X
theorem plainOf_some {r : Res} {v : AV} (h : plainOf r = some v) : ∃ u, r = .val v u := by
  cases r with
  | val a u => simp only [plainOf] at h; cases h; exact ⟨u, rfl⟩
  | call _ _ => simp [plainOf] at h
  | pick _ => simp [plainOf] at h
def cons' {α : Type} (a : α) (f : Nat → α) : Nat → α
  | 0 => a
  | n + 1 => f n
theorem trace_spec {ops : List Oper} {as : List Nat} : ∀ (l : List Oper) (fr : Fr) (h : H) (N0 : Pend) (i0 c x : Nat) (q : TrOut), trace? P rec nt ops as l fr h N0 i0 c x = some q →
    q.trs.length = l.length ∧ ∃ (T : Nat → H) (F : Nat → Fr) (N : Nat → Pend) (C X : Nat → Nat), T 0 = h ∧ F 0 = fr ∧ N 0 = N0 ∧ C 0 = c ∧ X 0 = x ∧ flush (fun _ => true) (N l.length) (T l.length) = q.h ∧ F l.length = q.fr ∧ C l.length = c + q.hs.length ∧ X l.length ≤ x + countAlloc l ∧
      ∀ (i : Nat) (o : Oper), l[i]? = some o → ∃ t, q.trs[i]? = some t ∧ t.fr = F i ∧ t.cnt = C i ∧ wanted? ops (F i) o.guard = some (kdWant t.kd) ∧ put? nt o.dst t.v (F i) = some (F (i + 1)) ∧
        KdSpec P rec as (i0 + i) o (F i) (T i) (T (i + 1)) (N i) (N (i + 1)) (C i) (C (i + 1)) (X i) (X (i + 1)) q.hs c t.v t.kd
  | [], fr, h, N0, i0, c, x, q, e => by
    have e' : some (⟨[], [], fr, flush (fun _ => true) N0 h⟩ : TrOut) = some q := e
    cases e'
    exact ⟨rfl, fun _ => h, fun _ => fr, fun _ => N0, fun _ => c, fun _ => x, rfl, rfl, rfl, rfl, rfl, rfl, rfl, by simp, by simp, fun i o ho => by simp at ho⟩
  | o :: l, fr, h, N0, i0, c, x, q, e => by
    have e0 : (ob (wanted? ops fr o.guard) fun b =>
      Bool.rec (ob (put? nt o.dst .undef fr) fun fr' => fT fr' fun fr' => trCons ⟨fr, .undef, c, .skip⟩ [] (trace? P rec nt ops as l fr' h N0 (Nat.succ i0) c x))
        (Bool.rec
          (Bool.rec
            (fH (flush (ancB as i0) N0 h) fun h1 => ob (op? o.op P fr h1) fun r => ob2 (valOf P rec h1 r) fun v h => fV v fun v => fH h fun h => ob (put? nt o.dst v fr) fun fr' => fT fr' fun fr' => lessP (ancB as i0) N0 fun N => trCons ⟨fr, v, c, .loud⟩ [h] (trace? P rec nt ops as l fr' h N (Nat.succ i0) (Nat.succ c) x))
            (ob (op? o.op P fr (flush (fun _ => true) N0 h)) fun r => ob (plainOf r) fun v => fV v fun v => ob (put? nt o.dst v fr) fun fr' => fT fr' fun fr' => trCons ⟨fr, v, c, .quiet⟩ [] (trace? P rec nt ops as l fr' h N0 (Nat.succ i0) c x))
            (quietOp o.op P))
          (ob2 (alloc? o.op P fr x) fun b v => fV v fun v => ob (put? nt o.dst v fr) fun fr' => fT fr' fun fr' => moreP (i0, x, b) N0 fun N => trCons ⟨fr, v, c, .made x b⟩ [] (trace? P rec nt ops as l fr' h N (Nat.succ i0) c (Nat.succ x)))
          (isAlloc o.op)) b) = some q := e
    simp only [fV_eq, fH_eq, fT_eq, lessP_eq, moreP_eq] at e0
    have e' : (ob (wanted? ops fr o.guard) fun b =>
      Bool.rec (ob (put? nt o.dst .undef fr) fun fr' => trCons ⟨fr, .undef, c, .skip⟩ [] (trace? P rec nt ops as l fr' h N0 (Nat.succ i0) c x))
        (Bool.rec
          (Bool.rec
            (ob (op? o.op P fr (flush (ancB as i0) N0 h)) fun r => ob (valOf P rec (flush (ancB as i0) N0 h) r) fun p => ob (put? nt o.dst p.1 fr) fun fr' => trCons ⟨fr, p.1, c, .loud⟩ [p.2] (trace? P rec nt ops as l fr' p.2 (N0.filter fun m => !ancB as i0 m.1) (Nat.succ i0) (Nat.succ c) x))
            (ob (op? o.op P fr (flush (fun _ => true) N0 h)) fun r => ob (plainOf r) fun v => ob (put? nt o.dst v fr) fun fr' => trCons ⟨fr, v, c, .quiet⟩ [] (trace? P rec nt ops as l fr' h N0 (Nat.succ i0) c x))
            (quietOp o.op P))
          (ob (alloc? o.op P fr x) fun q => ob (put? nt o.dst q.2 fr) fun fr' => trCons ⟨fr, q.2, c, .made x q.1⟩ [] (trace? P rec nt ops as l fr' h (N0 ++ [(i0, x, q.1)]) (Nat.succ i0) c (Nat.succ x)))
          (isAlloc o.op)) b) = some q := e0
    obtain ⟨b, hb, e1⟩ := ob_some e'
    have key : ∀ (fr' : Fr) (h' : H) (N' : Pend) (c' x' : Nat) (t : Tr) (hs : List H), t.fr = fr → t.cnt = c → put? nt o.dst t.v fr = some fr' → b = kdWant t.kd → c' = c + hs.length → x' ≤ x + (if isAlloc o.op then 1 else 0) →
        (∀ hs2, KdSpec P rec as i0 o fr h h' N0 N' c c' x x' (hs ++ hs2) c t.v t.kd) → trCons t hs (trace? P rec nt ops as l fr' h' N' (Nat.succ i0) c' x') = some q →
        q.trs.length = (o :: l).length ∧ ∃ (T : Nat → H) (F : Nat → Fr) (N : Nat → Pend) (C X : Nat → Nat), T 0 = h ∧ F 0 = fr ∧ N 0 = N0 ∧ C 0 = c ∧ X 0 = x ∧ flush (fun _ => true) (N (o :: l).length) (T (o :: l).length) = q.h ∧ F (o :: l).length = q.fr ∧ C (o :: l).length = c + q.hs.length ∧ X (o :: l).length ≤ x + countAlloc (o :: l) ∧
      ∀ (i : Nat) (o' : Oper), (o :: l)[i]? = some o' → ∃ t, q.trs[i]? = some t ∧ t.fr = F i ∧ t.cnt = C i ∧ wanted? ops (F i) o'.guard = some (kdWant t.kd) ∧ put? nt o'.dst t.v (F i) = some (F (i + 1)) ∧
        KdSpec P rec as (i0 + i) o' (F i) (T i) (T (i + 1)) (N i) (N (i + 1)) (C i) (C (i + 1)) (X i) (X (i + 1)) q.hs c t.v t.kd := by
      intro fr' h' N' c' x' t hs g1 g2 g3 g4 g5 g6 g7 g8
      obtain ⟨q1, hq1, g8⟩ := ob_some g8
      cases g8
      obtain ⟨k1, T, F, N, C, X, k2, k3, kN, k4, k5, k6, k7, k8, k9, k10⟩ := trace_spec l fr' h' N' (Nat.succ i0) c' x' q1 hq1
      refine ⟨by simp [k1], cons' h T, cons' fr F, cons' N0 N, cons' c C, cons' x X, rfl, rfl, rfl, rfl, rfl, k6, k7, ?_, ?_, ?_⟩
      · show C l.length = _
        rw [k8, g5, List.length_append]; omega
      · show X l.length ≤ _
        simp only [countAlloc]
        split <;> rename_i hh
        · rw [if_pos hh] at g6; omega
        · rw [if_neg hh] at g6; omega
      · intro i o' ho'
        cases i with
        | zero =>
          simp only [List.getElem?_cons_zero, Option.some.injEq] at ho'
          subst ho'
          refine ⟨t, rfl, g1, g2, by rw [← g4]; exact hb, ?_, ?_⟩
          · show put? nt o.dst t.v fr = some (F 0)
            rw [k3]; exact g3
          · show KdSpec P rec as (i0 + 0) o fr h (T 0) N0 (N 0) c (C 0) x (X 0) _ c t.v t.kd
            rw [k2, kN, k4, k5, Nat.add_zero]; exact g7 _
        | succ i =>
          simp only [List.getElem?_cons_succ] at ho'
          obtain ⟨t2, j1, j2, j3, j4, j5, j6⟩ := k10 i o' ho'
          refine ⟨t2, by simpa using j1, j2, j3, j4, j5, ?_⟩
          show KdSpec P rec as (i0 + (i + 1)) o' (F i) (T i) (T (i + 1)) (N i) (N (i + 1)) (C i) (C (i + 1)) (X i) (X (i + 1)) _ c t2.v t2.kd
          have ei : i0 + (i + 1) = Nat.succ i0 + i := by omega
          rw [ei]
          cases hk : t2.kd with
          | skip => rw [hk] at j6; exact j6
          | quiet => rw [hk] at j6; exact j6
          | made y b => rw [hk] at j6; exact j6
          | loud =>
            rw [hk] at j6
            obtain ⟨a1, aN, a2, a3, a4, a5⟩ := j6
            refine ⟨a1, aN, ?_, by omega, a4, a5⟩
            show (hs ++ q1.hs)[C i - c]? = _
            rw [List.getElem?_append_right (by omega), ← a2]
            congr 1
            omega
    cases b with
    | false =>
      obtain ⟨fr', hf, e1⟩ := ob_some e1
      exact key fr' h N0 c x ⟨fr, .undef, c, .skip⟩ [] rfl rfl hf rfl rfl (by omega) (fun _ => ⟨rfl, rfl, rfl, rfl, rfl⟩) e1
    | true =>
      cases ha : isAlloc o.op with
      | true =>
        rw [ha] at e1
        obtain ⟨a, hal, e1⟩ := ob_some e1
        obtain ⟨fr', hf, e1⟩ := ob_some e1
        exact key fr' h (N0 ++ [(i0, x, a.1)]) c (x + 1) ⟨fr, a.2, c, .made x a.1⟩ [] rfl rfl hf rfl rfl (by rw [if_pos ha]; exact Nat.le_refl _) (fun _ => ⟨rfl, hal, rfl, rfl, rfl, rfl⟩) e1
      | false =>
        rw [ha] at e1
        cases hq : quietOp o.op P with
        | true =>
          rw [hq] at e1
          obtain ⟨r, hr, e1⟩ := ob_some e1
          obtain ⟨v, hv, e2⟩ := ob_some e1
          obtain ⟨fr', hf, e3⟩ := ob_some e2
          obtain ⟨u, hu⟩ := plainOf_some hv
          exact key fr' h N0 c x ⟨fr, v, c, .quiet⟩ [] rfl rfl hf rfl rfl (by omega) (fun _ => ⟨hq, ⟨u, by rw [hr, hu]⟩, rfl, rfl, rfl, rfl⟩) e3
        | false =>
          rw [hq] at e1
          obtain ⟨r, hr, e1⟩ := ob_some e1
          obtain ⟨p, hp, e1⟩ := ob_some e1
          obtain ⟨fr', hf, e1⟩ := ob_some e1
          exact key fr' p.2 _ (c + 1) x ⟨fr, p.1, c, .loud⟩ [p.2] rfl rfl hf rfl rfl (by omega) (fun _ => ⟨⟨r, hr, hp⟩, rfl, by simp, Nat.le_refl _, rfl, rfl⟩) e1
theorem cntOf_spec (as : List Nat) (k m : Nat) : ∀ (louds : List (Nat × Nat)), cntOf as k m louds ≤ k ∧ (∀ p ∈ louds, m < p.1 → ancB as p.1 m = true → cntOf as k m louds ≤ p.2) ∧
    (cntOf as k m louds = k ∨ ∃ p ∈ louds, m < p.1 ∧ ancB as p.1 m = true ∧ p.2 = cntOf as k m louds)
  | [] => ⟨Nat.le_refl _, fun p hp => by simp at hp, .inl rfl⟩
  | p :: l => by
    obtain ⟨h1, h2, h3⟩ := cntOf_spec as k m l
    have e : cntOf as k m (p :: l) = (Bool.rec (cntOf as k m l) (Nat.min p.2 (cntOf as k m l)) (Nat.blt m p.1 && ancB as p.1 m) : Nat) := rfl
    cases hc : (Nat.blt m p.1 && ancB as p.1 m) with
    | false =>
      rw [hc] at e
      rw [e]
      refine ⟨h1, fun q hq a b => ?_, ?_⟩
      · rcases List.mem_cons.1 hq with rfl | hq
        · rw [blt_iff.2 a, b] at hc; cases hc
        · exact h2 q hq a b
      · rcases h3 with h3 | ⟨q, hq, h3⟩
        · exact .inl h3
        · exact .inr ⟨q, by simp [hq], h3⟩
    | true =>
      rw [hc] at e
      have e : cntOf as k m (p :: l) = min p.2 (cntOf as k m l) := e
      simp only [Bool.and_eq_true, blt_iff] at hc
      rw [e]
      refine ⟨by omega, fun q hq a b => ?_, ?_⟩
      · rcases List.mem_cons.1 hq with rfl | hq
        · omega
        · have := h2 q hq a b; omega
      · by_cases hle : p.2 ≤ cntOf as k m l
        · exact .inr ⟨p, by simp, hc.1, hc.2, by omega⟩
        · rcases h3 with h3 | ⟨q, hq, q1, q2, q3⟩
          · exact .inl (by omega)
          · exact .inr ⟨q, by simp [hq], q1, q2, by omega⟩
end Go.X
set_option linter.unusedVariables false
set_option linter.unusedSimpArgs false
set_option linter.unusedSectionVars false
namespace Go.X
open Go.RowKit
variable [Tab]
variable {P : Program} {nt : Nat} {rec : Rec}
theorem stateAt_next (as : List Nat) (i j : Nat) : ∀ (ms : List (Nat × Nat × Nat × Blk)) (h : H), (stateAt as i j h ms).next = h.next
  | [], h => rfl
  | p :: ms, h => by
    show (stateAt as i j (Bool.rec h (h.put p.2.2.1 p.2.2.2) (Nat.ble j p.2.1 && (as.getD i 0).testBit p.1)) ms).next = _
    rw [stateAt_next as i j ms]
    cases (Nat.ble j p.2.1 && (as.getD i 0).testBit p.1) <;> rfl
theorem stateAt_get (as : List Nat) (i j : Nat) (y : Nat) (b : Blk) : ∀ (ms : List (Nat × Nat × Nat × Blk)) (h : H), (∀ p ∈ ms, p.2.2.1 < limit) → (stateAt as i j h ms).get y = some b →
    (∃ m c, (m, c, y, b) ∈ ms ∧ j ≤ c ∧ (as.getD i 0).testBit m = true) ∨ ((∀ m c d, (m, c, y, d) ∈ ms → ¬ ((as.getD i 0).testBit m = true ∧ j ≤ c)) ∧ h.get y = some b)
  | [], h, _, e => .inr ⟨fun m c d hm => by simp at hm, e⟩
  | p :: ms, h, hl, e => by
    have e' : (stateAt as i j (Bool.rec h (h.put p.2.2.1 p.2.2.2) (Nat.ble j p.2.1 && (as.getD i 0).testBit p.1)) ms).get y = some b := e
    rcases stateAt_get as i j y b ms _ (fun q hq => hl q (by simp [hq])) e' with ⟨m, c, h1, h2⟩ | ⟨h1, h2⟩
    · exact .inl ⟨m, c, by simp [h1], h2⟩
    · obtain ⟨pi, pc, px, pb⟩ := p
      cases hc : (Nat.ble j pc && (as.getD i 0).testBit pi) with
      | false =>
        simp only [hc] at h2
        refine .inr ⟨fun m c d hm hh => ?_, h2⟩
        simp only [List.mem_cons] at hm
        rcases hm with hm | hm
        · simp only [Prod.mk.injEq] at hm
          obtain ⟨rfl, rfl, rfl, rfl⟩ := hm
          rw [hh.1, ble_iff.2 hh.2] at hc
          simp at hc
        · exact h1 m c d hm hh
      | true =>
        simp only [hc] at h2
        simp only [Bool.and_eq_true, ble_iff] at hc
        have hlim : px < limit := hl (pi, pc, px, pb) (by simp)
        rw [H.get_put _ _ _ _ (show px < 16000000 by unfold limit at hlim; omega)] at h2
        split at h2
        · rename_i hy
          subst hy; cases h2
          exact .inl ⟨pi, pc, by simp, hc.1, hc.2⟩
        · rename_i hy
          refine .inr ⟨fun m c d hm hh => ?_, h2⟩
          simp only [List.mem_cons] at hm
          rcases hm with hm | hm
          · simp only [Prod.mk.injEq] at hm
            exact hy hm.2.2.1
          · exact h1 m c d hm hh
theorem mem_louds {trs : List Tr} {i c : Nat} : (i, c) ∈ loudsOf trs ↔ ∃ t, trs[i]? = some t ∧ t.kd = .loud ∧ t.cnt = c := by
  unfold loudsOf
  rw [List.mem_filterMap]
  constructor
  · rintro ⟨⟨t, k⟩, h1, h2⟩
    rw [mem_zipIdx] at h1
    simp only at h2
    split at h2
    · rename_i hk
      simp only [Option.some.injEq, Prod.mk.injEq] at h2
      obtain ⟨rfl, rfl⟩ := h2
      refine ⟨t, h1, ?_, rfl⟩
      cases hh : t.kd <;> rw [hh] at hk <;> simp [isLoud] at hk
    · simp at h2
  · rintro ⟨t, h1, h2, h3⟩
    exact ⟨(t, i), mem_zipIdx.2 h1, by simp [h2, isLoud, h3]⟩
theorem mem_mades {trs : List Tr} {i c x : Nat} {b : Blk} : (i, c, x, b) ∈ madesOf trs ↔ ∃ t, trs[i]? = some t ∧ t.kd = .made x b ∧ t.cnt = c := by
  unfold madesOf
  rw [List.mem_filterMap]
  constructor
  · rintro ⟨⟨t, k⟩, h1, h2⟩
    rw [mem_zipIdx] at h1
    simp only at h2
    cases hh : t.kd with
    | made y d =>
      rw [hh] at h2
      simp only [madeOf, Option.map_some, Option.some.injEq, Prod.mk.injEq] at h2
      obtain ⟨rfl, rfl, rfl, rfl⟩ := h2
      exact ⟨t, h1, hh, rfl⟩
    | skip => rw [hh] at h2; simp [madeOf] at h2
    | quiet => rw [hh] at h2; simp [madeOf] at h2
    | loud => rw [hh] at h2; simp [madeOf] at h2
  · rintro ⟨t, h1, h2, h3⟩
    exact ⟨(t, i), mem_zipIdx.2 h1, by simp [h2, madeOf, h3]⟩
theorem sameVal_eq {r : Option Res} {v : AV} (h : sameVal r v = true) : ∃ u, r = some (.val v u) := by
  cases r with
  | none => simp [sameVal] at h
  | some r =>
    cases r with
    | call _ _ => simp [sameVal, plainOf] at h
    | pick _ => simp [sameVal, plainOf] at h
    | val x u =>
      have h' : veq x v = true := h
      rw [veq_eq h']
      exact ⟨u, rfl⟩
theorem mem_lates {as : List Nat} {k : Nat} {louds : List (Nat × Nat)} {trs : List Tr} {i c x : Nat} {b : Blk} : (i, c, x, b) ∈ latesOf as k louds (madesOf trs) ↔ (∃ c', (i, c', x, b) ∈ madesOf trs) ∧ c = cntOf as k i louds := by
  unfold latesOf
  rw [List.mem_map]
  constructor
  · rintro ⟨⟨p1, p2, p3, p4⟩, h1, h2⟩
    simp only [Prod.mk.injEq] at h2
    obtain ⟨rfl, rfl, rfl, rfl⟩ := h2
    exact ⟨⟨p2, h1⟩, rfl⟩
  · rintro ⟨⟨c', h1⟩, rfl⟩
    exact ⟨(i, c', x, b), h1, rfl⟩
theorem plan_of {ops : Array Oper} {fr0 : Fr} {h0 : H} {x0 : Nat} {q : TrOut} (ht : trace? P rec nt ops.toList (ancs ops.toList) ops.toList fr0 h0 [] 0 0 x0 = some q) (hd : drawOk P ops.toList q.trs (h0 :: q.hs) = true) :
    ∃ F v kd cnt β τ k anc E, Plan P rec nt ops F v kd cnt β τ k anc E q.h ∧ F 0 = fr0 ∧ F ops.size = q.fr ∧ β 0 = h0 ∧ ∀ i x b, i < ops.size → kd i = .made x b → x0 ≤ x ∧ x < x0 + countAlloc ops.toList := by
  obtain ⟨hlen, T, F, N, C, X, t0, f0, nn0, c0, xx0, tn, fn, cn, xn, hsp⟩ := trace_spec ops.toList fr0 h0 [] 0 0 x0 q ht
  simp only [Array.length_toList, Nat.zero_add] at hlen tn fn cn xn hsp
  let kd : Nat → Kd := fun i => ((q.trs[i]?).map (·.kd)).getD .skip
  let v : Nat → AV := fun i => ((q.trs[i]?).map (·.v)).getD .undef
  have sp : ∀ (i : Nat) (o : Oper), ops[i]? = some o → (∃ t, q.trs[i]? = some t ∧ t.fr = F i ∧ t.cnt = C i ∧ t.kd = kd i ∧ t.v = v i) ∧ wanted? ops.toList (F i) o.guard = some (kdWant (kd i)) ∧ put? nt o.dst (v i) (F i) = some (F (i + 1)) ∧
        KdSpec P rec (ancs ops.toList) i o (F i) (T i) (T (i + 1)) (N i) (N (i + 1)) (C i) (C (i + 1)) (X i) (X (i + 1)) q.hs 0 (v i) (kd i) := by
    intro i o ho
    obtain ⟨t, h1, h2, h3, h4, h5, h6⟩ := hsp i o (by rw [Array.getElem?_toList]; exact ho)
    have e1 : kd i = t.kd := by simp [kd, h1]
    have e2 : v i = t.v := by simp [v, h1]
    rw [e1, e2]
    exact ⟨⟨t, h1, h2, h3, rfl, rfl⟩, h4, h5, h6⟩
  have trk : ∀ (i : Nat) (t : Tr), q.trs[i]? = some t → i < ops.size ∧ t.kd = kd i ∧ t.cnt = C i ∧ t.v = v i ∧ t.fr = F i := by
    intro i t hi
    have hlt : i < ops.size := by
      have := (List.getElem?_eq_some_iff.1 hi).1
      omega
    obtain ⟨o, ho⟩ := lt_some hlt
    obtain ⟨⟨t', g1, g2, g3, g4, g5⟩, _⟩ := sp i o ho
    rw [hi] at g1; cases g1
    exact ⟨hlt, g4, g3, g5, g2⟩
  have trs_of : ∀ i, i < ops.size → ∃ t, q.trs[i]? = some t ∧ t.kd = kd i ∧ t.cnt = C i := by
    intro i hi
    obtain ⟨o, ho⟩ := lt_some hi
    obtain ⟨⟨t', g1, g2, g3, g4, g5⟩, _⟩ := sp i o ho
    exact ⟨t', g1, g4, g3⟩
  have step : ∀ i, i < ops.size → C i ≤ C (i + 1) ∧ X i ≤ X (i + 1) ∧ (kd i = .loud → C (i + 1) = C i + 1) ∧ (∀ x b, kd i = .made x b → x = X i ∧ X (i + 1) = X i + 1) ∧ (kd i ≠ .loud → C (i + 1) = C i) := by
    intro i hi
    obtain ⟨o, ho⟩ := lt_some hi
    obtain ⟨_, _, _, hk⟩ := sp i o ho
    cases hkd : kd i with
    | skip => rw [hkd] at hk; obtain ⟨_, _, _, a, b⟩ := hk; exact ⟨by omega, by omega, by simp, by simp, by simp; omega⟩
    | quiet => rw [hkd] at hk; obtain ⟨_, _, _, _, a, b⟩ := hk; exact ⟨by omega, by omega, by simp, by simp, by simp; omega⟩
    | made x b =>
      rw [hkd] at hk; obtain ⟨a1, _, _, _, a, b⟩ := hk
      exact ⟨by omega, by omega, by simp, by intro x' b' e; cases e; exact ⟨a1, b⟩, by simp; omega⟩
    | loud => rw [hkd] at hk; obtain ⟨_, _, _, _, a, b⟩ := hk; exact ⟨by omega, by omega, by intro _; exact a, by simp, by simp⟩
  have mono : ∀ d i, i + d ≤ ops.size → C i ≤ C (i + d) ∧ X i ≤ X (i + d) := by
    intro d
    induction d with
    | zero => intro i _; exact ⟨Nat.le_refl _, Nat.le_refl _⟩
    | succ d ih =>
      intro i hi
      have h1 := ih i (by omega)
      have h2 := step (i + d) (by omega)
      rw [← Nat.add_assoc]
      exact ⟨Nat.le_trans h1.1 h2.1, Nat.le_trans h1.2 h2.2.1⟩
  have monoC : ∀ i m, i ≤ m → m ≤ ops.size → C i ≤ C m ∧ X i ≤ X m := by
    intro i m h1 h2
    have := mono (m - i) i (by omega)
    rwa [show i + (m - i) = m by omega] at this
  let k := q.hs.length
  have hkC : C ops.size = k := cn
  let β : Nat → H := fun j => ((h0 :: q.hs)[j]?).getD h0
  have β0 : β 0 = h0 := by simp [β]
  have βS : ∀ i, i < ops.size → kd i = .loud → β (C i + 1) = T (i + 1) := by
    intro i hi hk
    obtain ⟨o, ho⟩ := lt_some hi
    obtain ⟨_, _, _, hs⟩ := sp i o ho
    rw [hk] at hs
    obtain ⟨_, _, h2, _⟩ := hs
    simp only [β, List.getElem?_cons_succ]
    simp only [Nat.sub_zero] at h2
    rw [h2]; rfl
  unfold drawOk at hd
  simp only [Bool.and_eq_true] at hd
  obtain ⟨hstat, hrest⟩ := hd
  obtain ⟨s1, s2, s3⟩ := staticFast_spec hstat
  have hids : ∀ i m x b c, i < ops.size → m < ops.size → kd i = .made x b → kd m = .made x c → i = m := by
    intro i m x b c hi hm h1 h2
    have a1 := (step i hi).2.2.2.1 x b h1
    have a2 := (step m hm).2.2.2.1 x c h2
    rcases Nat.lt_trichotomy i m with hh | hh | hh
    · have := (monoC (i + 1) m (by omega) (by omega)).2; omega
    · exact hh
    · have := (monoC (m + 1) i (by omega) (by omega)).2; omega
  have hinj : ∀ i m, i < ops.size → m < ops.size → kd i = .loud → kd m = .loud → C i = C m → i = m := by
    intro i m hi hm h1 h2 he
    have a1 := (step i hi).2.2.1 h1
    have a2 := (step m hm).2.2.1 h2
    rcases Nat.lt_trichotomy i m with hh | hh | hh
    · have := (monoC (i + 1) m (by omega) (by omega)).1; omega
    · exact hh
    · have := (monoC (m + 1) i (by omega) (by omega)).1; omega
  have hloudk : ∀ i, i < ops.size → kd i = .loud → C i < k := by
    intro i hi hk
    have a1 := (step i hi).2.2.1 hk
    have := (monoC (i + 1) ops.size (by omega) (by omega)).1
    omega
  have hall : ∀ j, j < k → ∃ i, i < ops.size ∧ kd i = .loud ∧ C i = j := by
    intro j hj
    have : ∀ n, n ≤ ops.size → j < C n → ∃ i, i < n ∧ kd i = .loud ∧ C i = j := by
      intro n
      induction n with
      | zero => intro _ h; rw [c0] at h; omega
      | succ n ih =>
        intro hn hjn
        by_cases hc : j < C n
        · obtain ⟨i, h1, h2⟩ := ih (by omega) hc
          exact ⟨i, by omega, h2⟩
        · have hst := step n (by omega)
          by_cases hl : kd n = .loud
          · exact ⟨n, by omega, hl, by have := hst.2.2.1 hl; omega⟩
          · have := hst.2.2.2.2 hl; omega
    exact this ops.size (Nat.le_refl _) (by omega)
  have hseg : ∀ j, j ≤ k → ∃ e, e ≤ ops.size ∧ C e = j ∧ ((e = ops.size ∧ j = k) ∨ (e < ops.size ∧ kd e = .loud)) := by
    intro j hj
    rcases Nat.lt_or_ge j k with h1 | h1
    · obtain ⟨i, g1, g2, g3⟩ := hall j h1
      exact ⟨i, by omega, g3, .inr ⟨g1, g2⟩⟩
    · exact ⟨ops.size, Nat.le_refl _, by omega, .inl ⟨rfl, by omega⟩⟩
  have hm0 : ∀ i x b, i < ops.size → kd i = .made x b → (i, C i, x, b) ∈ madesOf q.trs := by
    intro i x b hi hk
    obtain ⟨t, g1, g2, g3⟩ := trs_of i hi
    exact mem_mades.2 ⟨t, g1, by rw [g2, hk], g3⟩
  have hl : ∀ i, i < ops.size → kd i = .loud → (i, C i) ∈ loudsOf q.trs := by
    intro i hi hk
    obtain ⟨t, g1, g2, g3⟩ := trs_of i hi
    exact mem_louds.2 ⟨t, g1, by rw [g2, hk], g3⟩
  have ofl : ∀ i c, (i, c) ∈ loudsOf q.trs → i < ops.size ∧ kd i = .loud ∧ C i = c := by
    intro i c h
    obtain ⟨t, g1, g2, g3⟩ := mem_louds.1 h
    obtain ⟨a1, a2, a3, _⟩ := trk i t g1
    exact ⟨a1, by rw [← a2, g2], by rw [← a3, g3]⟩
  have Clt : ∀ i m, i < m → m ≤ ops.size → i < ops.size → kd i = .loud → C i < C m := by
    intro i m h1 h2 h3 h4
    have a1 := (step i h3).2.2.1 h4
    have := (monoC (i + 1) m (by omega) h2).1
    omega
  let anc : Nat → Nat → Bool := ancB (ancs ops.toList)
  let D : Nat → Nat := fun m => cntOf (ancs ops.toList) k m (loudsOf q.trs)
  have D1 : ∀ l m, l < ops.size → kd l = .loud → m < l → anc l m = true → D m ≤ C l := fun l m h1 h2 h3 h4 => (cntOf_spec (ancs ops.toList) k m (loudsOf q.trs)).2.1 (l, C l) (hl l h1 h2) h3 h4
  have D2 : ∀ m, D m ≤ k := fun m => (cntOf_spec (ancs ops.toList) k m (loudsOf q.trs)).1
  have D3 : ∀ m, D m = k ∨ ∃ l, l < ops.size ∧ kd l = .loud ∧ m < l ∧ anc l m = true ∧ C l = D m := by
    intro m
    rcases (cntOf_spec (ancs ops.toList) k m (loudsOf q.trs)).2.2 with h | ⟨⟨l, c⟩, h1, h2, h3, h4⟩
    · exact .inl h
    · obtain ⟨g1, g2, g3⟩ := ofl l c h1
      exact .inr ⟨l, g1, g2, h2, h3, by rw [g3]; exact h4⟩
  have hk1 : (h0 :: q.hs).length - 1 = k := by simp [k]
  rw [hk1] at hrest
  have hm : ∀ i x b, i < ops.size → kd i = .made x b → (i, D i, x, b) ∈ latesOf (ancs ops.toList) k (loudsOf q.trs) (madesOf q.trs) := by
    intro i x b hi hk
    exact mem_lates.2 ⟨⟨_, hm0 i x b hi hk⟩, rfl⟩
  have ofm : ∀ i c x b, (i, c, x, b) ∈ latesOf (ancs ops.toList) k (loudsOf q.trs) (madesOf q.trs) → i < ops.size ∧ kd i = .made x b ∧ c = D i := by
    intro i c x b h
    obtain ⟨⟨c', h1⟩, rfl⟩ := mem_lates.1 h
    obtain ⟨t, g1, g2, g3⟩ := mem_mades.1 h1
    obtain ⟨a1, a2, a3, _⟩ := trk i t g1
    exact ⟨a1, by rw [← a2, g2], rfl⟩
  have checks : chainOk (ancs ops.toList) (loudsOf q.trs) = true ∧ madeOk (ancs ops.toList) (loudsOf q.trs) (latesOf (ancs ops.toList) k (loudsOf q.trs) (madesOf q.trs)) = true ∧ asideOk (latesOf (ancs ops.toList) k (loudsOf q.trs) (madesOf q.trs)) (h0 :: q.hs) = true ∧ (stillOk P ops.toList (ancs ops.toList) (loudsOf q.trs) (latesOf (ancs ops.toList) k (loudsOf q.trs) (madesOf q.trs)) q.trs (h0 :: q.hs) = true ∨ (loudsOf q.trs = [] ∧ latesOf (ancs ops.toList) k (loudsOf q.trs) (madesOf q.trs) = [])) := by
    cases hc : ((loudsOf q.trs).isEmpty && (latesOf (ancs ops.toList) k (loudsOf q.trs) (madesOf q.trs)).isEmpty) with
    | true =>
      simp only [Bool.and_eq_true, List.isEmpty_iff] at hc
      rw [hc.1]
      rw [hc.1] at hc
      rw [hc.2]
      exact ⟨by simp [chainOk], by simp [madeOk], by simp [asideOk], .inr ⟨rfl, rfl⟩⟩
    | false =>
      rw [hc] at hrest
      simp only [Bool.and_eq_true] at hrest
      exact ⟨hrest.1, hrest.2.1, hrest.2.2.1, .inl hrest.2.2.2⟩
  obtain ⟨hchain, hmade, haside, hstill⟩ := checks
  unfold chainOk at hchain
  unfold madeOk at hmade
  unfold asideOk at haside
  rw [List.all_eq_true] at hchain hmade haside
  have hlim : ∀ i x b, i < ops.size → kd i = .made x b → x < limit := by
    intro i x b hi hk
    have := haside _ (hm i x b hi hk)
    simp only [Bool.and_eq_true] at this
    exact blt_iff.1 this.1
  have hAs : ∀ i x b, i < ops.size → kd i = .made x b → ∀ j, j ≤ D i → j ≤ k → (β j).get x = none := by
    intro i x b hi hk j h1 h2
    have := haside _ (hm i x b hi hk)
    simp only [Bool.and_eq_true] at this
    have hj : (h0 :: q.hs)[j]? = some (β j) := by
      simp only [β]
      rw [List.getElem?_eq_getElem (by simp [k] at h2 ⊢; omega)]
      rfl
    have h3 := List.all_eq_true.1 this.2 _ (mem_zipIdx.2 hj)
    simp only [ble_iff.2 h1, Bool.not_true, Bool.false_or, Option.isNone_iff_eq_none] at h3
    exact h3
  have hT : ∀ i, i ≤ ops.size → T i = β (C i) := by
    intro i
    induction i with
    | zero => intro _; rw [t0, c0, β0]
    | succ i ih =>
      intro hi
      have ih := ih (by omega)
      obtain ⟨o, ho⟩ := lt_some (ops := ops) (i := i) (by omega)
      obtain ⟨_, _, _, hk⟩ := sp i o ho
      cases hkd : kd i with
      | skip => rw [hkd] at hk; obtain ⟨_, a1, _, a2, _⟩ := hk; rw [a1, a2, ih]
      | quiet => rw [hkd] at hk; obtain ⟨_, _, a1, _, a2, _⟩ := hk; rw [a1, a2, ih]
      | made x b => rw [hkd] at hk; obtain ⟨_, _, a1, _, a2, _⟩ := hk; rw [a1, a2, ih]
      | loud =>
        rw [← βS i (by omega) hkd, (step i (by omega)).2.2.1 hkd]
  have hN : ∀ i, i ≤ ops.size → ∀ m y b, (m, y, b) ∈ N i ↔ m < i ∧ kd m = .made y b ∧ ∀ l, m < l → l < i → kd l = .loud → anc l m = false := by
    intro i
    induction i with
    | zero => intro _ m y b; rw [nn0]; simp
    | succ i ih =>
      intro hi m y b
      have ih := ih (by omega) m y b
      obtain ⟨o, ho⟩ := lt_some (ops := ops) (i := i) (by omega)
      obtain ⟨_, _, _, hk⟩ := sp i o ho
      have same : N (i + 1) = N i → (∀ x b, kd i ≠ .made x b) → kd i ≠ .loud → ((m, y, b) ∈ N (i + 1) ↔ m < i + 1 ∧ kd m = .made y b ∧ ∀ l, m < l → l < i + 1 → kd l = .loud → anc l m = false) := by
        intro e1 e2 e3
        rw [e1, ih]
        constructor
        · rintro ⟨h1, h2, h3⟩
          refine ⟨by omega, h2, fun l h4 h5 h6 => ?_⟩
          by_cases e : l = i
          · subst e; exact absurd h6 e3
          · exact h3 l h4 (by omega) h6
        · rintro ⟨h1, h2, h3⟩
          refine ⟨?_, h2, fun l h4 h5 h6 => h3 l h4 (by omega) h6⟩
          rcases Nat.lt_or_ge m i with h | h
          · exact h
          · obtain rfl : m = i := by omega
            exact absurd h2 (e2 _ _)
      cases hkd : kd i with
      | skip => rw [hkd] at hk; obtain ⟨_, _, a1, _⟩ := hk; exact same a1 (by simp [hkd]) (by simp [hkd])
      | quiet => rw [hkd] at hk; obtain ⟨_, _, _, a1, _⟩ := hk; exact same a1 (by simp [hkd]) (by simp [hkd])
      | made x0' b0 =>
        rw [hkd] at hk
        obtain ⟨_, _, _, a1, _⟩ := hk
        rw [a1, List.mem_append, ih, List.mem_singleton]
        constructor
        · rintro (⟨h1, h2, h3⟩ | h)
          · refine ⟨by omega, h2, fun l h4 h5 h6 => ?_⟩
            by_cases e : l = i
            · subst e; rw [hkd] at h6; cases h6
            · exact h3 l h4 (by omega) h6
          · cases h
            exact ⟨by omega, hkd, fun l h4 h5 => by omega⟩
        · rintro ⟨h1, h2, h3⟩
          rcases Nat.lt_or_ge m i with h | h
          · exact .inl ⟨h, h2, fun l h4 h5 h6 => h3 l h4 (by omega) h6⟩
          · obtain rfl : m = i := by omega
            rw [hkd] at h2; cases h2
            exact .inr rfl
      | loud =>
        rw [hkd] at hk
        obtain ⟨_, a1, _⟩ := hk
        rw [a1, List.mem_filter, ih]
        constructor
        · rintro ⟨⟨h1, h2, h3⟩, h4⟩
          refine ⟨by omega, h2, fun l h5 h6 h7 => ?_⟩
          by_cases e : l = i
          · subst e; simpa using h4
          · exact h3 l h5 (by omega) h7
        · rintro ⟨h1, h2, h3⟩
          have hmi : m < i := by
            rcases Nat.lt_or_ge m i with h | h
            · exact h
            · obtain rfl : m = i := by omega
              rw [hkd] at h2; cases h2
          exact ⟨⟨hmi, h2, fun l h5 h6 h7 => h3 l h5 (by omega) h7⟩, by simpa using h3 i hmi (by omega) hkd⟩
  have hNl : ∀ i, i ≤ ops.size → ∀ q' ∈ N i, q'.2.1 < limit := by
    rintro i hi ⟨m, y, b⟩ hq
    obtain ⟨h1, h2, _⟩ := (hN i hi m y b).1 hq
    exact hlim m y b (by omega) h2
  have hNu : ∀ i, i ≤ ops.size → ∀ q' ∈ N i, ∀ q'' ∈ N i, q'.2.1 = q''.2.1 → q' = q'' := by
    rintro i hi ⟨m, y, b⟩ hq ⟨m', y', b'⟩ hq' he
    obtain ⟨h1, h2, _⟩ := (hN i hi m y b).1 hq
    obtain ⟨h3, h4, _⟩ := (hN i hi m' y' b').1 hq'
    have he : y = y' := he
    subst he
    obtain rfl := hids m m' y b b' (by omega) (by omega) h2 h4
    rw [h2] at h4; cases h4; rfl
  let e : Nat → Nat := fun j => if hj : j ≤ k then Classical.choose (hseg j hj) else 0
  have he : ∀ j, j ≤ k → e j ≤ ops.size ∧ C (e j) = j ∧ ((e j = ops.size ∧ j = k) ∨ (e j < ops.size ∧ kd (e j) = .loud)) := by
    intro j hj
    have := Classical.choose_spec (hseg j hj)
    simp only [e, dif_pos hj]
    exact this
  let τ : Nat → H := fun j => if e j < ops.size then flush (anc (e j)) (N (e j)) (T (e j)) else flush (fun _ => true) (N ops.size) (T ops.size)
  let cnt : Nat → Nat := fun i => match kd i with
    | .made _ _ => D i
    | _ => C i
  have cntM : ∀ i x b, kd i = .made x b → cnt i = D i := fun i x b h => by simp only [cnt, h]
  have cntL : ∀ i, kd i = .loud → cnt i = C i := fun i h => by simp only [cnt, h]
  have hek : e k = ops.size := by
    obtain ⟨h1, h2, h3⟩ := he k (Nat.le_refl _)
    rcases h3 with ⟨h3, _⟩ | ⟨h3, h4⟩
    · exact h3
    · have := hloudk (e k) h3 h4; omega
  have hτ : ∀ j, j ≤ k → (τ j).next = (β j).next ∧ ∀ y b, (τ j).get y = some b ↔ (∃ m, m < ops.size ∧ kd m = .made y b ∧ cnt m = j) ∨ ((∀ m c, m < ops.size → kd m = .made y c → cnt m ≠ j) ∧ (β j).get y = some b) := by
    intro j hj
    obtain ⟨h1, h2, h3⟩ := he j hj
    have fin : ∀ (p : Nat → Bool) (i : Nat), i ≤ ops.size → T i = β j → (∀ m y b, m < ops.size → kd m = .made y b → (((m, y, b) ∈ N i ∧ p m = true) ↔ D m = j)) →
        (flush p (N i) (T i)).next = (β j).next ∧ ∀ y b, (flush p (N i) (T i)).get y = some b ↔ (∃ m, m < ops.size ∧ kd m = .made y b ∧ cnt m = j) ∨ ((∀ m c, m < ops.size → kd m = .made y c → cnt m ≠ j) ∧ (β j).get y = some b) := by
      intro p i hi hTi hpm
      refine ⟨by rw [flush_next, hTi], fun y b => ?_⟩
      rw [flush_get p (N i) (T i) (hNl i hi) (hNu i hi) y b, hTi]
      constructor
      · rintro (⟨m, g1, g2⟩ | ⟨g1, g2⟩)
        · obtain ⟨k1, k2, _⟩ := (hN i hi m y b).1 g1
          exact .inl ⟨m, by omega, k2, by rw [cntM m y b k2]; exact (hpm m y b (by omega) k2).1 ⟨g1, g2⟩⟩
        · refine .inr ⟨fun m c hm1 hm2 hc => ?_, g2⟩
          rw [cntM m y c hm2] at hc
          obtain ⟨k1, k2⟩ := (hpm m y c hm1 hm2).2 hc
          have := g1 m c k1
          rw [k2] at this; cases this
      · rintro (⟨m, g1, g2, g3⟩ | ⟨g1, g2⟩)
        · rw [cntM m y b g2] at g3
          exact .inl ⟨m, (hpm m y b g1 g2).2 g3⟩
        · refine .inr ⟨fun m c hmc => ?_, g2⟩
          cases hp : p m with
          | false => rfl
          | true =>
            obtain ⟨k1, k2, _⟩ := (hN i hi m y c).1 hmc
            have := (hpm m y c (by omega) k2).1 ⟨hmc, hp⟩
            exact absurd (by rw [cntM m y c k2]; exact this) (g1 m c (by omega) k2)
    rcases h3 with ⟨h3, h4⟩ | ⟨h3, h4⟩
    · have : τ j = flush (fun _ => true) (N ops.size) (T ops.size) := by simp only [τ]; rw [if_neg (by omega)]
      rw [this]
      refine fin _ _ (Nat.le_refl _) (by rw [hT _ (Nat.le_refl _), hkC, h4]) (fun m y b hm1 hm2 => ?_)
      rw [hN _ (Nat.le_refl _)]
      constructor
      · rintro ⟨⟨_, _, g3⟩, _⟩
        rcases D3 m with h | ⟨l, l1, l2, l3, l4, _⟩
        · rw [h, h4]
        · rw [g3 l l3 l1 l2] at l4; cases l4
      · intro hD
        refine ⟨⟨hm1, hm2, fun l l1 l2 l3 => ?_⟩, rfl⟩
        cases hal : anc l m with
        | false => rfl
        | true =>
          have a1 := D1 l m l2 l3 l1 hal
          have a2 := hloudk l l2 l3
          omega
    · have : τ j = flush (anc (e j)) (N (e j)) (T (e j)) := by simp only [τ]; rw [if_pos h3]
      rw [this]
      refine fin _ _ h1 (by rw [hT _ h1, h2]) (fun m y b hm1 hm2 => ?_)
      rw [hN _ h1]
      constructor
      · rintro ⟨⟨g1, _, g3⟩, g4⟩
        have a1 := D1 (e j) m h3 h4 g1 g4
        rw [h2] at a1
        rcases Nat.lt_or_ge (D m) j with hlt | hge
        · rcases D3 m with h | ⟨l, l1, l2, l3, l4, l5⟩
          · omega
          · have hle : l < e j := by
              rcases Nat.lt_or_ge l (e j) with hh | hh
              · exact hh
              · have := (monoC (e j) l hh (by omega)).1
                omega
            rw [g3 l l3 hle l2] at l4; cases l4
        · omega
      · intro hD
        have hjk : j < k := by rw [← h2]; exact hloudk (e j) h3 h4
        rcases D3 m with h | ⟨l, l1, l2, l3, l4, l5⟩
        · omega
        · obtain rfl : l = e j := hinj _ _ l1 h3 l2 h4 (by omega)
          refine ⟨⟨l3, hm2, fun l' a1 a2 a3 => ?_⟩, l4⟩
          cases hal : anc l' m with
          | false => rfl
          | true =>
            have b1 := D1 l' m (by omega) a3 a1 hal
            have b2 := Clt l' (e j) a2 h1 (by omega) a3
            omega
  refine ⟨F, v, kd, cnt, β, τ, k, fun i m => ((ancs ops.toList).getD i 0).testBit m = true, fun i j => stateAt (ancs ops.toList) i j (β j) (latesOf (ancs ops.toList) k (loudsOf q.trs) (madesOf q.trs)), ?_, f0, fn, β0, ?_⟩
  · refine { back := s1, step := fun i m h => ?_, distinct := s2, reads := s3, want := fun i o ho => (sp i o ho).2.1, put := fun i o ho => (sp i o ho).2.2.1, skip := fun i hk => ?_, quiet := fun i o ho hk => ?_, made := fun i o x b ho hk => ?_, ids := hids, loud := fun i o ho hk => ?_, inj := fun i m hi hm1 h1 h2 h3 => hinj i m hi hm1 h1 h2 (by rw [cntL i h1, cntL m h2] at h3; exact h3), chain := fun i m hi hm2 h1 h2 h3 => ?_, madeAnc := fun i m x b hi hm2 h1 h2 h3 => ?_, aside := fun i x b hi hk j h1 h2 => hAs i x b hi hk j (by rw [cntM i x b hk] at h1; exact h1) h2, madeK := fun i x b hi hk => ?_, tauN := fun j hj => (hτ j hj).1, tau := fun j hj => (hτ j hj).2, EN := fun i j => stateAt_next _ _ _ _ _, Eg := fun i j y b hj hg => ?_, endN := ?_, endG := fun y b hg => ?_, all := fun j hj => by obtain ⟨i, g1, g2, g3⟩ := hall j hj; exact ⟨i, g1, g2, by rw [cntL i g2]; exact g3⟩ }
    · obtain ⟨o, e, h1, h2⟩ := ancs_step h
      exact ⟨o, e, by rw [← Array.getElem?_toList]; exact h1, h2⟩
    · rcases Nat.lt_or_ge i ops.size with hi | hi
      · obtain ⟨o, ho⟩ := lt_some hi
        have := (sp i o ho).2.2.2
        rw [hk] at this
        exact this.1
      · simp only [v]
        rw [List.getElem?_eq_none (by omega)]
        rfl
    · have hs := (sp i o ho).2.2.2
      rw [hk] at hs
      obtain ⟨h1, ⟨u, h2⟩, _⟩ := hs
      refine ⟨h1, fun j hj hc1 hc2 => ?_⟩
      cases hr : readOp o.op with
      | false =>
        obtain ⟨v', g1, g2⟩ := pure_same o.op h1 hr h2 (h2 := stateAt (ancs ops.toList) i j (β j) (latesOf (ancs ops.toList) k (loudsOf q.trs) (madesOf q.trs)))
        cases g1
        exact ⟨_, g2⟩
      | true =>
        rcases hstill with hstill | ⟨n1, n2⟩
        · unfold stillOk at hstill
          rw [List.all_eq_true] at hstill
          obtain ⟨⟨t, g1, g2, g3, g4, g5⟩, _⟩ := sp i o ho
          have hz : (ops.toList.zip q.trs)[i]? = some (o, t) := by
            rw [List.getElem?_zip_eq_some]
            exact ⟨by rw [Array.getElem?_toList]; exact ho, g1⟩
          have h3 := hstill _ (mem_zipIdx.2 hz)
          simp only [g4, hk, isQuiet, hr, Bool.and_self, Bool.not_true, Bool.false_or] at h3
          have hj2 : (h0 :: q.hs)[j]? = some (β j) := by
            simp only [β]
            rw [List.getElem?_eq_getElem (by simp [k] at hj ⊢; omega)]
            rfl
          have h4 := List.all_eq_true.1 h3 _ (mem_zipIdx.2 hj2)
          have hcomp : compat (ancs ops.toList) (loudsOf q.trs) i j = true := by
            unfold compat
            rw [List.all_eq_true]
            rintro ⟨m, c⟩ hmem
            obtain ⟨t2, k1, k2, k3⟩ := mem_louds.1 hmem
            obtain ⟨a1, a2, a3, _⟩ := trk m t2 k1
            have hml : kd m = .loud := by rw [← a2, k2]
            simp only
            split
            · rename_i hlt
              have := hc1 m a1 hml (by rw [cntL m hml]; omega)
              simpa using this
            · rename_i hlt
              have := hc2 m a1 hml (by rw [cntL m hml]; omega)
              simpa using this
          simp only [hcomp, Bool.not_true, Bool.false_or] at h4
          rw [g2, g5] at h4
          exact sameVal_eq h4
        · have hk0 : k = 0 := by
            rcases Nat.eq_zero_or_pos k with h3 | h3
            · exact h3
            · obtain ⟨m, a1, a2, a3⟩ := hall 0 h3
              have := hl m a1 a2
              rw [n1] at this; simp at this
          have hj0 : j = 0 := by omega
          subst hj0
          rw [n2]
          have hlt := some_lt ho
          have hTi : T i = h0 := by
            have hc := (monoC i ops.size (by omega) (Nat.le_refl _)).1
            rw [hT i (by omega), show C i = 0 by omega, β0]
          have hNi : N i = [] := by
            cases hh : N i with
            | nil => rfl
            | cons p l =>
              obtain ⟨p1, p2, p3⟩ := p
              obtain ⟨g1, g2, _⟩ := (hN i (by omega) p1 p2 p3).1 (by rw [hh]; simp)
              have := hm p1 p2 p3 (by omega) g2
              rw [n2] at this; simp at this
          rw [hTi, hNi] at h2
          refine ⟨u, ?_⟩
          show op? o.op P (F i) (β 0) = _
          rw [β0]; exact h2
    · have hs := (sp i o ho).2.2.2
      rw [hk] at hs
      exact ⟨hs.2.1, hlim i x b (some_lt ho) hk, alloc_own hs.2.1⟩
    · have hs := (sp i o ho).2.2.2
      rw [hk] at hs
      obtain ⟨⟨res, g1, g2⟩, _⟩ := hs
      have hlt := some_lt ho
      have hck := hloudk i hlt hk
      have hei : e (C i) = i := by
        obtain ⟨h1, h2, h3⟩ := he (C i) (by omega)
        rcases h3 with ⟨_, h3⟩ | ⟨h3, h4⟩
        · omega
        · exact hinj _ _ h3 hlt h4 hk h2
      have hτi : τ (C i) = flush (anc i) (N i) (T i) := by simp only [τ]; rw [hei, if_pos hlt]
      rw [cntL i hk]
      refine ⟨hck, res, ?_, ?_⟩
      · rw [hτi]; exact g1
      · rw [hτi, βS i hlt hk]; exact g2
    · rw [cntL i h1, cntL m h2] at h3
      have h4 := List.all_eq_true.1 (hchain _ (hl i hi h1)) _ (hl m hm2 h2)
      simp only [blt_iff.2 h3, Bool.not_true, Bool.false_or] at h4
      exact h4
    · rw [cntM i x b h1, cntL m h2] at h3
      have h4 := List.all_eq_true.1 (hmade _ (hm i x b hi h1)) _ (hl m hm2 h2)
      simp only [ble_iff.2 h3, Bool.not_true, Bool.false_or] at h4
      exact h4
    · rw [cntM i x b hk]; exact D2 i
    · rcases stateAt_get _ i j y b (latesOf (ancs ops.toList) k (loudsOf q.trs) (madesOf q.trs)) (β j) (fun p hp => by
          obtain ⟨p1, p2, p3, p4⟩ := p
          obtain ⟨a1, a2, _⟩ := ofm p1 p2 p3 p4 hp
          exact hlim p1 p3 p4 a1 a2) hg with ⟨m, c, g1, g2, g3⟩ | ⟨g1, g2⟩
      · obtain ⟨a1, a2, a3⟩ := ofm m c y b g1
        exact .inl ⟨m, a1, g3, a2, by rw [cntM m y b a2]; omega⟩
      · exact .inr ⟨fun m c hm2 hk hh => g1 m (D m) c (hm m y c hm2 hk) (by rw [cntM m y c hk] at hh; exact hh), g2⟩
    · have := (hτ k (Nat.le_refl _)).1
      simp only [τ] at this
      rw [if_neg (by omega), tn] at this
      exact this
    · have := ((hτ k (Nat.le_refl _)).2 y b).1
      simp only [τ] at this
      rw [if_neg (by omega), tn] at this
      exact this hg
  · intro i x b hi hk
    have a1 := (step i hi).2.2.2.1 x b hk
    have a2 := (monoC 0 i (by omega) (by omega)).2
    have a3 := (monoC (i + 1) ops.size (by omega) (by omega)).2
    omega
end Go.X
set_option linter.unusedVariables false
set_option linter.unusedSimpArgs false
set_option linter.unusedSectionVars false
namespace Go.X
open Go.RowKit
variable [Tab]
variable {P : Program} {B : Kp} {w0 : World} {μ μ' : M} {h h' : H} {w w' : World} {nt : Nat} {a : Act} {fr fr' : Fr}
theorem Post.up {e : Ex} {e' : Exit} (hx : Ext μ μ') (p : Post B w0 μ' nt e fr' h' e' a w) : Post B w0 μ nt e fr' h' e' a w :=
  let ⟨h1, μ2, h2, h3⟩ := p; ⟨h1, μ2, hx.trans h2, h3⟩
theorem PostL.up {l : List (Ex × Fr × H)} {e' : Exit} (hx : Ext μ μ') (p : PostL B w0 μ' nt l e' a w) : PostL B w0 μ nt l e' a w :=
  let ⟨q, hq, p⟩ := p; ⟨q, hq, p.up hx⟩
theorem PostL.sub {l m : List (Ex × Fr × H)} {e' : Exit} (hs : ∀ q ∈ l, q ∈ m) (p : PostL B w0 μ nt l e' a w) : PostL B w0 μ nt m e' a w :=
  let ⟨q, hq, p⟩ := p; ⟨q, hs q hq, p⟩
theorem Post.under {q p : Ex × Fr × H} {e' : Exit} (u : Under q p) (h : Post B w0 μ nt p.1 p.2.1 p.2.2 e' a w) : Post B w0 μ nt q.1 q.2.1 q.2.2 e' a w := by
  obtain ⟨h1, μ', h2, h3, h4⟩ := h
  exact ⟨by rw [u.1]; exact h1, μ', h2, h3.less u.2.1, h4.less u.2.2⟩
theorem PostL.merged {l m : List (Ex × Fr × H)} {e' : Exit} (hm : mergeO l = some m) (p : PostL B w0 μ nt l e' a w) : PostL B w0 μ nt m e' a w := by
  obtain ⟨q, hq, p⟩ := p
  obtain ⟨q', hq', u⟩ := mergeO_some hm q hq
  exact ⟨q', hq', p.under u⟩
theorem draw_sound {rec : Rec} (hm : P.follows .mixedOrders = true) (hrec : RecOk P rec) {id : Nat} {ops : Array Oper} {l : List (Ex × Fr × H)} (hs : sDraw ops P rec nt fr h = some l) (f : FR μ nt fr a) (r : HR B w0 μ h w) :
    (Code.region id ops true).wp P (PostL B w0 μ nt l) a w := by
  obtain ⟨q, hq, hs⟩ := ob_some hs
  obtain ⟨hd, hs⟩ := ifb_some hs
  cases hs
  obtain ⟨F, v, kd, cnt, β, τ, k, anc, E, p, f0, fn, b0, hx⟩ := plan_of hq hd
  refine wp_region_any hm (draw_start (B := B) (w0 := w0) hrec p (fun i x b hi hk hr => ?_) (by rw [f0]; exact f) ?_ ?_)
  · have h1 := hx i x b hi hk
    have h2 := (r.res x hr).1
    omega
  · rw [b0]
    refine ((r.drawn (w.drawn + 1)).weaken (h' := ⟨h.next + countAlloc ops.toList, h.t⟩) (Nat.le_add_right _ _) (fun x hxx => ?_) (fun y b hy => hy))
    rcases hxx with hxx | ⟨m, b, h1, h2⟩
    · have := r.res x hxx
      exact ⟨Nat.lt_of_lt_of_le this.1 (Nat.le_add_right _ _), this.2⟩
    · have h3 := hx m x b h1 h2
      exact ⟨h3.2, (r.fresh x h3.1).2⟩
  · intro μ' a' w' g1 g2 g3
    rw [fn] at g2
    exact ⟨_, List.mem_singleton.2 rfl, rfl, μ', g1, g2, g3⟩
def LoopOk (P : Program) (n : Nat) (rec : Rec) : Prop := ∀ nt b fr h l, rec.run nt (.loop b) fr h = some l → ∀ B w0 μ a w Q, FR μ nt fr a → HR B w0 μ h w → (∀ e' a' w', PostL B w0 μ nt l e' a' w' → Q e' a' w') → Code.rounds P b Q n a w
theorem round_sound {rec : Rec} {n : Nat} (hrec : RecOk P rec) (hloop : LoopOk P n rec) {c : Code} {l : List (Ex × Fr × H)} {Q : Exit → Act → World → Prop} (hs : sLoop c P rec nt fr h = some l) (f : FR μ nt fr a) (r : HR B w0 μ h w)
    (hQ : ∀ e' a' w', PostL B w0 μ nt l e' a' w' → Q e' a' w') : c.wp P (Exit.then (Code.rounds P c Q n) Q) a w := by
  have key : ∀ {m : List (Ex × Fr × H)}, obL (rec.run nt c fr h) (fun r => Prod.rec (fun e q => Prod.rec (fun fr h => seqD (.loop c) rec nt e fr h) q) r) = some m →
      (∀ e' a' w', PostL B w0 μ nt m e' a' w' → Q e' a' w') → c.wp P (Exit.then (Code.rounds P c Q n) Q) a w := by
    intro m hm hQ
    obtain ⟨l1, hl1, hsub⟩ := obL_some hm
    refine wp_mono (hrec.run nt c fr h l1 hl1 B w0 μ a w f r) ?_
    rintro e' a' w' ⟨⟨e1, fr1, h1⟩, hmem, rfl, μ1, g1, g2, g3⟩
    obtain ⟨l2, hl2, hs2⟩ := hsub _ hmem
    have hl2 : seqD (.loop c) rec nt e1 fr1 h1 = some l2 := hl2
    cases e1 with
    | normal =>
      have hl3 : rec.run nt (.loop c) fr1 h1 = some l2 := hl2
      exact hloop nt c fr1 h1 l2 hl3 B w0 μ1 a' w' _ g2 g3 (fun _ _ _ p => hQ _ _ _ ((p.sub hs2).up g1))
    | exit id =>
      have hl3 : some [(Ex.exit id, fr1, h1)] = some l2 := hl2
      cases hl3
      exact hQ _ _ _ ⟨_, hs2 _ (List.mem_singleton.2 rfl), rfl, μ1, g1, g2, g3⟩
    | ret =>
      have hl3 : some [(Ex.ret, fr1, h1)] = some l2 := hl2
      cases hl3
      exact hQ _ _ _ ⟨_, hs2 _ (List.mem_singleton.2 rfl), rfl, μ1, g1, g2, g3⟩
  unfold sLoop at hs
  cases hp : picks c with
  | false =>
    rw [hp] at hs
    exact key hs hQ
  | true =>
    rw [hp] at hs
    obtain ⟨m, hm, hs⟩ := ob_some hs
    exact key hm (fun e' a' w' p => hQ e' a' w' (p.merged hs))
theorem step_sound {rec : Rec} {n : Nat} (hm : P.follows .mixedOrders = true) (hrec : RecOk P rec) (hloop : LoopOk P n rec) {c : Code} {l : List (Ex × Fr × H)} (hs : step? c P rec nt fr h = some l) (f : FR μ nt fr a) (r : HR B w0 μ h w) :
    c.wp P (PostL B w0 μ nt l) a w := by
  cases c with
  | skip =>
    have hs' : some [(Ex.normal, fr, h)] = some l := hs
    cases hs'
    exact wp_skip ⟨_, List.mem_singleton.2 rfl, rfl, μ, Ext.refl _, f, r⟩
  | label lb =>
    have hs' : some [(Ex.normal, fr, h)] = some l := hs
    cases hs'
    exact wp_label ⟨_, List.mem_singleton.2 rfl, rfl, μ, Ext.refl _, f, r⟩
  | region id ops d =>
    cases d with
    | false =>
      have hs' : sRegion ops P rec nt fr h = some l := hs
      obtain ⟨ps, hp, hsub⟩ := obL_some hs'
      refine wp_region ?_
      have := opers_sound (Q := PostL B w0 μ nt l) hrec ops.toList 0 fr h ps μ a w rfl hp f r (fun q hq μ' a' w' g1 g2 g3 => by
        obtain ⟨l1, hl1, h1⟩ := hsub q hq
        have hl1 : some [(Ex.normal, q.1, q.2)] = some l1 := hl1
        cases hl1
        exact ⟨_, h1 _ (List.mem_singleton.2 rfl), rfl, μ', g1, g2, g3⟩)
      rw [Array.length_toList, ← List.range_eq_range'] at this
      exact this
    | true =>
      have hs' : sDraw ops P rec nt fr h = some l := hs
      exact draw_sound hm hrec hs' f r
  | seq x y =>
    have hs' : sSeq x y P rec nt fr h = some l := hs
    obtain ⟨l1, hl1, hsub⟩ := obL_some hs'
    refine wp_seq (wp_mono (hrec.run nt x fr h l1 hl1 B w0 μ a w f r) ?_)
    rintro e' a' w' ⟨⟨e1, fr1, h1⟩, hmem, rfl, μ1, g1, g2, g3⟩
    obtain ⟨l2, hl2, hs2⟩ := hsub _ hmem
    have hl2 : seqD y rec nt e1 fr1 h1 = some l2 := hl2
    cases e1 with
    | normal =>
      have hl3 : rec.run nt y fr1 h1 = some l2 := hl2
      exact wp_mono (hrec.run nt y fr1 h1 l2 hl3 B w0 μ1 a' w' g2 g3) (fun _ _ _ p => (p.sub hs2).up g1)
    | exit id =>
      have hl3 : some [(Ex.exit id, fr1, h1)] = some l2 := hl2
      cases hl3
      exact ⟨_, hs2 _ (List.mem_singleton.2 rfl), rfl, μ1, g1, g2, g3⟩
    | ret =>
      have hl3 : some [(Ex.ret, fr1, h1)] = some l2 := hl2
      cases hl3
      exact ⟨_, hs2 _ (List.mem_singleton.2 rfl), rfl, μ1, g1, g2, g3⟩
  | cond x c1 c2 =>
    have hs' : sCond x c1 c2 P rec nt fr h = some l := hs
    obtain ⟨v, hv, hs'⟩ := ob_some hs'
    cases v with
    | bool t =>
      have hev := f.ev [x] x (by simp) (.bool t) hv
      simp only [vrel] at hev
      have hs2 : rec.run nt (Bool.rec c2 c1 t) fr h = some l := hs'
      refine wp_cond hev ?_
      cases t with
      | true => exact hrec.run nt c1 fr h l hs2 B w0 μ a w f r
      | false => exact hrec.run nt c2 fr h l hs2 B w0 μ a w f r
    | _ => simp [condD] at hs'
  | block id c =>
    have hs' : sBlock id c P rec nt fr h = some l := hs
    obtain ⟨l1, hl1, hsub⟩ := obL_some hs'
    refine wp_block (wp_mono (hrec.run nt c fr h l1 hl1 B w0 μ a w f r) ?_)
    rintro e' a' w' ⟨⟨e1, fr1, h1⟩, hmem, rfl, μ1, g1, g2, g3⟩
    obtain ⟨l2, hl2, hs2⟩ := hsub _ hmem
    have hl2 : blockD id e1 fr1 h1 = some l2 := hl2
    cases e1 with
    | normal =>
      have hl3 : some [(Ex.normal, fr1, h1)] = some l2 := hl2
      cases hl3
      exact ⟨_, hs2 _ (List.mem_singleton.2 rfl), rfl, μ1, g1, g2, g3⟩
    | exit j =>
      have hl3 : (Bool.rec (some [(Ex.exit j, fr1, h1)]) (some [(Ex.normal, fr1, h1)]) (Nat.beq j id) : Out) = some l2 := hl2
      simp only [Ex.to, Exit.inBlock]
      cases hb : Nat.beq j id with
      | true =>
        rw [hb] at hl3
        have := nbeq_iff.1 hb
        have hl4 : some [(Ex.normal, fr1, h1)] = some l2 := hl3
        cases hl4
        rw [if_pos this]
        exact ⟨_, hs2 _ (List.mem_singleton.2 rfl), rfl, μ1, g1, g2, g3⟩
      | false =>
        rw [hb] at hl3
        have : ¬ j = id := fun e => by rw [nbeq_iff.2 e] at hb; simp at hb
        have hl4 : some [(Ex.exit j, fr1, h1)] = some l2 := hl3
        cases hl4
        rw [if_neg this]
        exact ⟨_, hs2 _ (List.mem_singleton.2 rfl), rfl, μ1, g1, g2, g3⟩
    | ret =>
      have hl3 : some [(Ex.ret, fr1, h1)] = some l2 := hl2
      cases hl3
      exact ⟨_, hs2 _ (List.mem_singleton.2 rfl), rfl, μ1, g1, g2, g3⟩
  | loop c =>
    have hs' : sLoop c P rec nt fr h = some l := hs
    refine wp_loop_rounds (n + 1) ?_
    exact round_sound hrec hloop hs' f r (fun _ _ _ p => p)
  | exit id =>
    have hs' : some [(Ex.exit id, fr, h)] = some l := hs
    cases hs'
    exact wp_exit ⟨_, List.mem_singleton.2 rfl, rfl, μ, Ext.refl _, f, r⟩
  | ret =>
    have hs' : some [(Ex.ret, fr, h)] = some l := hs
    cases hs'
    exact wp_ret ⟨_, List.mem_singleton.2 rfl, rfl, μ, Ext.refl _, f, r⟩
  | _ => have hs' : (none : Out) = some l := hs; cases hs'
def HandOk (P : Program) (K : Hand) : Prop := ∀ f args h p, K f args h = some p → CallOk P f args h p
theorem HandOk.none : HandOk P Hand.none := fun f args h p e => by have e' : (Option.none : Option (AV × H)) = some p := e; cases e'
theorem run_sound {K : Hand} (hm : P.follows .mixedOrders = true) (hK : HandOk P K) : ∀ n, RecOk P (run? P K n) ∧ LoopOk P n (run? P K n)
  | 0 => by
    refine ⟨⟨fun nt c fr h l hs => ?_, fun f args h p hs => ?_⟩, fun nt c fr h l hs => ?_⟩
    · have hs' : (none : Out) = some l := hs
      cases hs'
    · have hs' : (none : Option (AV × H)) = some p := hs
      cases hs'
    · have hs' : (none : Out) = some l := hs
      cases hs'
  | n + 1 => by
    obtain ⟨h1, h2⟩ := run_sound hm hK n
    refine ⟨⟨fun nt c fr h l hs B w0 μ a w f r => ?_, fun f args h p hs => ?_⟩, fun nt c fr h l hs B w0 μ a w Q f r hQ => ?_⟩
    · have hs' : step? c P (run? P K n) nt fr h = some l := hs
      exact step_sound hm h1 h2 hs' f r
    · have hs' : (Option.rec (enter? P (run? P K n).run f args h) (fun r => some r) (K f args h) : Option (AV × H)) = some p := hs
      cases hk : K f args h with
      | none =>
        rw [hk] at hs'
        exact fun B w0 μ w args' r ha => enter_sound h1.run r ha hs'
      | some q =>
        rw [hk] at hs'
        cases hs'
        exact hK f args h p hk
    · have hs' : sLoop c P (run? P K n) nt fr h = some l := hs
      exact round_sound h1 h2 hs' f r hQ
theorem call_sound {K : Hand} (hm : P.follows .mixedOrders = true) (hK : HandOk P K) {n : Nat} {f : FuncId} {args : List AV} {p : AV × H} (e : call P K n f args h = some p) : CallOk P f args h p :=
  fun _ _ _ _ _ r ha => enter_sound (run_sound hm hK n).1.run r ha e
theorem CallOk.closed {f : FuncId} {args : List AV} {args' : Array Value} {p : AV × H} (c : CallOk P f args H.empty p) (ha : vrels (fun _ => none) args args'.toList) (w : World) (hg : Gl (Kp.below w.heap.size) w) :
    Calls P f args' w fun e w' => ∃ v' μ', e = .returned v' ∧ vrel μ' p.1 v' ∧ HR (Kp.below w.heap.size) w μ' p.2 w' :=
  (c _ _ _ w args' (HR.start w hg) ha).mono fun _ _ ⟨v', μ', h1, _, h2, h3⟩ => ⟨v', μ', h1, h2, h3⟩
end Go.X
set_option linter.unusedVariables false
set_option linter.unusedSimpArgs false
set_option linter.unusedSectionVars false
namespace Go.X
open Go.RowKit
variable [Tab]
mutual
def shV (k : Nat) : AV → AV
  | .ptr x o => .ptr (Nat.add x k) o
  | .sl x o n c => .sl (Nat.add x k) o n c
  | .so x o n c => .so (Nat.add x k) o n c
  | .map x => .map (Nat.add x k)
  | .fn f a b => .fn f (shVs k a) (shVs k b)
  | .iface t v => .iface t (shV k v)
  | .agg l => .agg (shVs k l)
  | .tup l => .tup (shVs k l)
  | .ov x j z => .ov (Nat.add x k) j z
  | .op x j z f => .op (Nat.add x k) j z f
  | v => v
def shVs (k : Nat) : List AV → List AV
  | [] => []
  | v :: l => shV k v :: shVs k l
end
noncomputable def T.maps {α β : Type} (f : α → β) (t : T α) : T β :=
  T.rec (motive := fun _ => T β) .leaf (fun _ v _ ihl ihr => .node ihl (Option.rec none (fun x => some (f x)) v) ihr) t
def shE (k : Nat) : List (AV × AV × Nat) → List (AV × AV × Nat)
  | [] => []
  | e :: l => (shV k e.1, shV k e.2.1, e.2.2) :: shE k l
noncomputable def shB (k : Nat) : Blk → Blk
  | .cells n p z t => .cells n p (shVs k z) (t.maps (shV k))
  | .glob n z t => .glob n (shVs k z) (t.maps (shV k))
  | .map es c => .map (shE k es) c
  | .siter n c pos => .siter n c pos
  | .miter m since seen st => .miter (Option.rec none (fun x => some (Nat.add x k)) m) since seen st
  | .vec i => .vec i
noncomputable def addAll (k : Nat) (t : T Blk) (l : List (Nat × Blk)) : T Blk :=
  List.rec (motive := fun _ => T Blk → T Blk) (fun t => t) (fun p _ ih t => ih (t.put (Nat.add p.1 k) (shB k p.2))) l t
structure Sum where
  v : AV
  next : Nat
  bs : List (Nat × Blk)
def notVec : Blk → Bool
  | .vec _ => false
  | _ => true
noncomputable def noVecs (l : List (Nat × Blk)) : Bool := List.rec (motive := fun _ => Bool) true (fun q _ ih => Bool.rec false ih (notVec q.2)) l
theorem noVecs_mem : ∀ {l : List (Nat × Blk)}, noVecs l = true → ∀ q ∈ l, notVec q.2 = true
  | [], _, q, h => by simp at h
  | a :: l, e, q, h => by
    have e' : (@Bool.rec (fun _ => Bool) false (noVecs l) (notVec a.2)) = true := e
    cases h1 : notVec a.2 with
    | false => rw [h1] at e'; cases e'
    | true =>
      rw [h1] at e'
      simp only [List.mem_cons] at h
      rcases h with rfl | h
      · exact h1
      · exact noVecs_mem e' q h
noncomputable def Sum.at (s : Sum) (h : H) : Option (AV × H) :=
  ifb (Nat.blt (Nat.add h.next s.next) limit && noVecs s.bs) (some (shV h.next s.v, ⟨Nat.add h.next s.next, addAll h.next h.t s.bs⟩))
variable {P : Program} {B : Kp} {w0 : World} {μ μ' ν : M} {h h' : H} {w w' : World}
def Sh (k : Nat) (μ ν : M) : Prop := ∀ x l, μ x = some l → ν (x + k) = some l
mutual
theorem vrel.sh {k : Nat} (e : Sh k μ ν) : ∀ (a : AV) (v : Value), vrel μ a v → vrel ν (shV k a) v
  | .bool _, _, h => by simpa [vrel, shV] using h
  | .int _ _, _, h => by simpa [vrel, shV] using h
  | .str _ _, _, h => by simpa [vrel, shV] using h
  | .nilp, _, h => by simpa [vrel, shV] using h
  | .ptr x o, _, h => by simp only [vrel, shV] at h ⊢; obtain ⟨l, h1, h2⟩ := h; exact ⟨l, e _ _ h1, h2⟩
  | .nils, _, h => by simpa [vrel, shV] using h
  | .sl x o n c, _, h => by simp only [vrel, shV] at h ⊢; obtain ⟨l, h1, h2⟩ := h; exact ⟨l, e _ _ h1, h2⟩
  | .so x o n z, _, h => by simp only [vrel, shV] at h ⊢; obtain ⟨l, c, h1, h2⟩ := h; exact ⟨l, c, e _ _ h1, h2⟩
  | .nilm, _, h => by simpa [vrel, shV] using h
  | .map x, _, h => by simp only [vrel, shV] at h ⊢; obtain ⟨l, h1, h2⟩ := h; exact ⟨l, e _ _ h1, h2⟩
  | .fn f a b, _, h => by
    simp only [vrel, shV] at h ⊢
    obtain ⟨as, bs, h1, h2, h3⟩ := h
    exact ⟨as, bs, h1, vrels.sh e a as h2, vrels.sh e b bs h3⟩
  | .nilf, _, h => by simpa [vrel, shV] using h
  | .iface t x, _, h => by simp only [vrel, shV] at h ⊢; obtain ⟨y, h1, h2⟩ := h; exact ⟨y, h1, vrel.sh e x y h2⟩
  | .nili, _, h => by simpa [vrel, shV] using h
  | .agg l, _, h => by simp only [vrel, shV] at h ⊢; obtain ⟨cs, h1, h2⟩ := h; exact ⟨cs, h1, vrels.sh e l cs h2⟩
  | .tup l, _, h => by simp only [vrel, shV] at h ⊢; obtain ⟨cs, h1, h2⟩ := h; exact ⟨cs, h1, vrels.sh e l cs h2⟩
  | .ostr _, _, h => by simpa [vrel, shV] using h
  | .rw _, _, h => by simpa [vrel, shV] using h
  | .gp _ _, _, h => by simpa [vrel, shV] using h
  | .oi _, _, h => by simpa [vrel, shV] using h
  | .es, _, h => by simpa [vrel, shV] using h
  | .ov x j z, _, h => by simp only [vrel, shV] at h ⊢; obtain ⟨h0, l, c, h1, h2⟩ := h; exact ⟨h0, l, c, e _ _ h1, h2⟩
  | .fo _ _ _, _, h => by simpa [vrel, shV] using h
  | .fp _ _ _ _, _, h => by simpa [vrel, shV] using h
  | .op x j z f, _, h => by simp only [vrel, shV] at h ⊢; obtain ⟨h0, l, h1, h2⟩ := h; exact ⟨h0, l, e _ _ h1, h2⟩
theorem vrels.sh {k : Nat} (e : Sh k μ ν) : ∀ (a : List AV) (v : List Value), vrels μ a v → vrels ν (shVs k a) v
  | [], _, h => by simpa [vrels, shVs] using h
  | a :: l, _, h => by
    simp only [vrels, shVs] at h ⊢
    obtain ⟨v, r, h1, h2, h3⟩ := h
    exact ⟨v, r, h1, vrel.sh e a v h2, vrels.sh e l r h3⟩
end
theorem shVs_map (k : Nat) : ∀ l, shVs k l = l.map (shV k)
  | [] => rfl
  | _ :: l => by simp [shVs, shVs_map k l]
theorem T.get_maps {α β : Type} (f : α → β) : ∀ (t : T α) (n : Nat), (t.maps f).get n = (t.get n).map f
  | .leaf, n => rfl
  | .node l v r, n => by
    show (T.node (l.maps f) (Option.rec none (fun x => some (f x)) v) (r.maps f)).get n = _
    rw [T.get_node, T.get_node, T.get_maps f l, T.get_maps f r]
    split
    · cases v <;> rfl
    · split <;> rfl
theorem cellOf_sh (k : Nat) (z : List AV) (t : T AV) (o : Nat) : cellOf (shVs k z) (t.maps (shV k)) o = (cellOf z t o).map (shV k) := by
  unfold cellOf
  rw [T.get_maps, shVs_map]
  cases t.get o with
  | none => simp
  | some v => rfl
theorem esrel.sh {k : Nat} (e : Sh k μ ν) : ∀ {a : List (AV × AV × Nat)} {v : List MapEntry}, esrel μ a v → esrel ν (shE k a) v
  | [], _, h => h
  | a :: l, _, h => by
    simp only [esrel, shE] at h ⊢
    obtain ⟨v, r, h1, h2, h3, h4, h5⟩ := h
    exact ⟨v, r, h1, vrel.sh e _ _ h2, vrel.sh e _ _ h3, h4, esrel.sh e h5⟩
theorem cellsRel.sh {k : Nat} (e : Sh k μ ν) {n : Nat} {z : List AV} {t : T AV} {base : Nat} {arr : Array Value} (h : cellsRel μ n z t base arr) : cellsRel ν n (shVs k z) (t.maps (shV k)) base arr := by
  intro i a hi ha
  rw [cellOf_sh] at ha
  cases hc : cellOf z t i with
  | none => rw [hc] at ha; simp at ha
  | some u =>
    rw [hc] at ha
    simp only [Option.map_some, Option.some.injEq] at ha
    subst ha
    obtain ⟨v, h1, h2⟩ := h i u hi hc
    exact ⟨v, h1, vrel.sh e _ _ h2⟩
theorem brel.sh {k : Nat} (e : Sh k μ ν) {b : Blk} {l : Loc} (hv : notVec b = true) (h : brel μ b l w) : brel ν (shB k b) l w := by
  cases b with
  | cells n p z t => obtain ⟨arr, el, fz, h1, h2, h3, h4, h5, h6⟩ := h; exact ⟨arr, el, fz, h1, h2, h3, h4, h5, h6.sh e⟩
  | glob n z t => obtain ⟨arr, el, fz, h1, h2⟩ := h; exact ⟨arr, el, fz, h1, h2.sh e⟩
  | map es c => obtain ⟨es', h1, h2⟩ := h; exact ⟨es', h1, h2.sh e⟩
  | siter n c pos => exact h
  | miter m since seen st =>
    cases m with
    | none => exact h
    | some x =>
      obtain ⟨h1, j, h2, h3⟩ := h
      exact ⟨h1, j, e _ _ h2, h3⟩
  | vec i => cases hv
theorem own_sh (k : Nat) (b : Blk) : own (shB k b) = own b := by cases b <;> rfl
theorem addAll_get (k : Nat) : ∀ (l : List (Nat × Blk)) (t : T Blk), (∀ p ∈ l, p.1 + k < limit) → ∀ y b, (addAll k t l).get y = some b → (∃ p ∈ l, y = p.1 + k ∧ b = shB k p.2) ∨ ((∀ p ∈ l, y ≠ p.1 + k) ∧ t.get y = some b)
  | [], t, _, y, b, h => .inr ⟨fun p hp => by simp at hp, h⟩
  | p :: l, t, hl, y, b, h => by
    have h' : (addAll k (t.put (p.1 + k) (shB k p.2)) l).get y = some b := h
    have hlim := hl p (by simp)
    rcases addAll_get k l _ (fun q hq => hl q (by simp [hq])) y b h' with ⟨q, h1, h2⟩ | ⟨h1, h2⟩
    · exact .inl ⟨q, by simp [h1], h2⟩
    · rw [T.get_put _ _ _ _ (Nat.lt_of_lt_of_le hlim (by unfold limit; omega))] at h2
      split at h2
      · rename_i hy
        cases h2
        exact .inl ⟨p, by simp, hy, rfl⟩
      · rename_i hy
        refine .inr ⟨fun q hq => ?_, h2⟩
        simp only [List.mem_cons] at hq
        rcases hq with rfl | hq
        · exact hy
        · exact h1 q hq
mutual
def nameless : AV → Bool
  | .ptr _ _ => false
  | .sl _ _ _ _ => false
  | .so _ _ _ _ => false
  | .map _ => false
  | .ov _ _ _ => false
  | .op _ _ _ _ => false
  | .fn _ a b => namelesss a && namelesss b
  | .iface _ v => nameless v
  | .agg l => namelesss l
  | .tup l => namelesss l
  | _ => true
def namelesss : List AV → Bool
  | [] => true
  | v :: l => nameless v && namelesss l
end
mutual
theorem vrel.nameless : ∀ (a : AV) (v : Value), nameless a = true → vrel μ a v → vrel ν a v
  | .bool _, _, _, h => by simpa [vrel] using h
  | .int _ _, _, _, h => by simpa [vrel] using h
  | .str _ _, _, _, h => by simpa [vrel] using h
  | .nilp, _, _, h => by simpa [vrel] using h
  | .ptr x o, _, hn, h => by simp [X.nameless] at hn
  | .nils, _, _, h => by simpa [vrel] using h
  | .sl x o n c, _, hn, h => by simp [X.nameless] at hn
  | .so x o n z, _, hn, h => by simp [X.nameless] at hn
  | .nilm, _, _, h => by simpa [vrel] using h
  | .map x, _, hn, h => by simp [X.nameless] at hn
  | .fn f a b, _, hn, h => by
    simp only [X.nameless, Bool.and_eq_true] at hn
    simp only [vrel] at h ⊢
    obtain ⟨as, bs, h1, h2, h3⟩ := h
    exact ⟨as, bs, h1, vrels.nameless a as hn.1 h2, vrels.nameless b bs hn.2 h3⟩
  | .nilf, _, _, h => by simpa [vrel] using h
  | .iface t x, _, hn, h => by simp only [vrel] at h ⊢; obtain ⟨y, h1, h2⟩ := h; exact ⟨y, h1, vrel.nameless x y (by simpa [X.nameless] using hn) h2⟩
  | .nili, _, _, h => by simpa [vrel] using h
  | .agg l, _, hn, h => by simp only [vrel] at h ⊢; obtain ⟨cs, h1, h2⟩ := h; exact ⟨cs, h1, vrels.nameless l cs (by simpa [X.nameless] using hn) h2⟩
  | .tup l, _, hn, h => by simp only [vrel] at h ⊢; obtain ⟨cs, h1, h2⟩ := h; exact ⟨cs, h1, vrels.nameless l cs (by simpa [X.nameless] using hn) h2⟩
  | .ostr _, _, _, h => by simpa [vrel] using h
  | .rw _, _, _, h => by simpa [vrel] using h
  | .gp _ _, _, _, h => by simpa [vrel] using h
  | .oi _, _, _, h => by simpa [vrel] using h
  | .es, _, _, h => by simpa [vrel] using h
  | .ov x j z, _, hn, h => by simp [X.nameless] at hn
  | .op x j z f, _, hn, h => by simp [X.nameless] at hn
  | .fo _ _ _, _, _, h => by simpa [vrel] using h
  | .fp _ _ _ _, _, _, h => by simpa [vrel] using h
theorem vrels.nameless : ∀ (a : List AV) (v : List Value), namelesss a = true → vrels μ a v → vrels ν a v
  | [], _, _, h => by simpa [vrels] using h
  | a :: l, _, hn, h => by
    simp only [namelesss, Bool.and_eq_true] at hn
    simp only [vrels] at h ⊢
    obtain ⟨v, r, h1, h2, h3⟩ := h
    exact ⟨v, r, h1, vrel.nameless a v hn.1 h2, vrels.nameless l r hn.2 h3⟩
end
theorem HR.add {μ1 : M} {hs : H} {s : Sum} {p : AV × H} (r : HR B w0 μ h w) (r1 : HR (Kp.below w.heap.size) w μ1 hs w') (hn : s.next = hs.next) (hb : ∀ q ∈ s.bs, hs.get q.1 = some q.2) (e : s.at h = some p) :
    ∃ μ', Ext μ μ' ∧ Sh h.next μ1 μ' ∧ p.1 = shV h.next s.v ∧ HR B w0 μ' p.2 w' := by
  obtain ⟨hlim, e⟩ := ifb_some e
  cases e
  rw [Bool.and_eq_true] at hlim
  obtain ⟨hlim, hnv⟩ := hlim
  have hlim := blt_iff.1 hlim
  have hlt : ∀ q ∈ s.bs, q.1 < hs.next := by
    intro q hq
    rcases Nat.lt_or_ge q.1 hs.next with h1 | h1
    · exact h1
    · have := (r1.fresh q.1 h1).1
      rw [hb q hq] at this; simp at this
  let μ2 : M := fun x => if x < h.next then μ x else μ1 (x - h.next)
  have hext : Ext μ μ2 := by
    intro x l hx
    have : x < h.next := by
      rcases Nat.lt_or_ge x h.next with h1 | h1
      · exact h1
      · have := (r.fresh x h1).2
        rw [hx] at this; simp at this
    simp only [μ2, if_pos this]; exact hx
  have hsh : Sh h.next μ1 μ2 := by
    intro x l hx
    simp only [μ2]
    rw [if_neg (by omega), Nat.add_sub_cancel]; exact hx
  refine ⟨μ2, hext, hsh, rfl, r.below.below r1.below.toBelow, fun x hx => ?_, fun x hx => ?_, fun x b hx => ?_, fun x y b c l k hx hy hne ho ho2 hl hk => ?_⟩
  · have hx' : h.next + s.next ≤ x := hx
    constructor
    · cases hg : H.get ⟨Nat.add h.next s.next, addAll h.next h.t s.bs⟩ x with
      | none => rfl
      | some b =>
        exfalso
        rcases addAll_get h.next s.bs h.t (fun q hq => by have := hlt q hq; have h2 : h.next + s.next < limit := hlim; omega) x b hg with ⟨q, h1, h2, _⟩ | ⟨_, h2⟩
        · have := hlt q h1; omega
        · have := (r.fresh x (by omega)).1
          have h3 : h.get x = some b := h2
          rw [this] at h3; simp at h3
    · simp only [μ2]
      rw [if_neg (by omega)]
      exact (r1.fresh _ (by omega)).2
  · have := r.res x hx
    refine ⟨Nat.lt_of_lt_of_le this.1 (Nat.le_add_right _ _), ?_⟩
    simp only [μ2]
    rw [if_pos this.1]; exact this.2
  · have hg : (addAll h.next h.t s.bs).get x = some b := hx
    rcases addAll_get h.next s.bs h.t (fun q hq => by have := hlt q hq; have h2 : h.next + s.next < limit := hlim; omega) x b hg with ⟨q, h1, rfl, rfl⟩ | ⟨_, h2⟩
    · obtain ⟨l, g1, g2, g3, g4⟩ := r1.blk q.1 q.2 (hb q h1)
      have hown : own q.2 = true := by
        cases ho : own q.2 with
        | true => rfl
        | false => exact (g3 ho).elim
      refine ⟨l, hsh _ _ g1, fun _ hk => ?_, fun ho => ?_, brel.sh hsh (noVecs_mem hnv q h1) g4⟩
      · have h3 := g2 hown
        have h4 : l.block < w.heap.size := Nat.lt_of_lt_of_le (r.below.old _ hk) r.below.size
        exact h3 h4
      · rw [own_sh, hown] at ho; simp at ho
    · obtain ⟨l, g1, g2, g3, g4⟩ := r.blk x b h2
      exact ⟨l, hext _ _ g1, g2, g3, (g4.congr (r1.below.block _ g4.lt)).ext hext⟩
  · have hg : (addAll h.next h.t s.bs).get x = some b := hx
    have hg2 : (addAll h.next h.t s.bs).get y = some c := hy
    have hbound : ∀ q ∈ s.bs, q.1 + h.next < limit := fun q hq => by have := hlt q hq; have h2 : h.next + s.next < limit := hlim; omega
    have new : ∀ q ∈ s.bs, ∀ l, μ2 (q.1 + h.next) = some l → μ1 q.1 = some l ∧ ¬ l.block < w.heap.size := by
      intro q hq l hl
      simp only [μ2] at hl
      rw [if_neg (by omega), Nat.add_sub_cancel] at hl
      obtain ⟨l', g1, g2, g3, _⟩ := r1.blk q.1 q.2 (hb q hq)
      rw [hl] at g1; cases g1
      refine ⟨hl, ?_⟩
      cases ho : own q.2 with
      | true => exact g2 ho
      | false => exact (g3 ho).elim
    have old : ∀ x b l, h.t.get x = some b → μ2 x = some l → μ x = some l ∧ l.block < w.heap.size := by
      intro x b l hxb hl
      obtain ⟨l', g1, _, _, g4⟩ := r.blk x b hxb
      have := hext _ _ g1
      rw [hl] at this; cases this
      exact ⟨g1, g4.lt⟩
    rcases addAll_get h.next s.bs h.t hbound x b hg with ⟨q, h1, rfl, rfl⟩ | ⟨_, h2⟩
    · obtain ⟨a1, a2⟩ := new q h1 l hl
      rcases addAll_get h.next s.bs h.t hbound y c hg2 with ⟨q2, k1, rfl, rfl⟩ | ⟨_, k2⟩
      · obtain ⟨b1, b2⟩ := new q2 k1 k hk
        rw [own_sh] at ho ho2
        exact r1.sep q.1 q2.1 q.2 q2.2 l k (hb q h1) (hb q2 k1) (by omega) ho ho2 a1 b1
      · obtain ⟨b1, b2⟩ := old y c k k2 hk
        intro e; rw [e] at a2; exact a2 b2
    · obtain ⟨a1, a2⟩ := old x b l h2 hl
      rcases addAll_get h.next s.bs h.t hbound y c hg2 with ⟨q2, k1, rfl, rfl⟩ | ⟨_, k2⟩
      · obtain ⟨b1, b2⟩ := new q2 k1 k hk
        intro e; rw [e] at a2; exact b2 a2
      · obtain ⟨b1, b2⟩ := old y c k k2 hk
        exact r.sep x y b c l k h2 k2 hne ho ho2 a1 b1
structure SumOk (P : Program) (f : FuncId) (args : List AV) (s : Sum) : Prop where
  nm : namelesss args = true
  run : ∃ hs, CallOk P f args H.empty (s.v, hs) ∧ s.next = hs.next ∧ ∀ q ∈ s.bs, hs.get q.1 = some q.2
theorem SumOk.at {f : FuncId} {args : List AV} {s : Sum} (o : SumOk P f args s) {p : AV × H} (e : s.at h = some p) : CallOk P f args h p := by
  intro B w0 μ w args' r ha
  obtain ⟨hs, h1, h2, h3⟩ := o.run
  refine (h1.closed (vrels.nameless args _ o.nm ha) w ⟨fun g i a hg => let ⟨k1, k2⟩ := r.below.glbs hg; ⟨Nat.lt_of_lt_of_le (r.below.old g k1) r.below.size, k2⟩, fun i m a hg => let ⟨k1, k2⟩ := r.below.frgn hg; ⟨Nat.lt_of_lt_of_le (r.below.old _ k1) r.below.size, k2⟩⟩).mono ?_
  rintro e w' ⟨v', μ1, rfl, hv, r1⟩
  obtain ⟨μ', g1, g2, g3, g4⟩ := r.add r1 h2 h3 ‹_›
  exact ⟨v', μ', rfl, g1, by rw [g3]; exact vrel.sh g2 _ _ hv, g4⟩
abbrev SRows := List (List AV × Sum)
noncomputable def rowsAt (args : List AV) (h : H) (l : SRows) : Option (AV × H) :=
  List.rec (motive := fun _ => Option (AV × H)) none (fun r _ ih => Bool.rec ih (r.2.at h) (veqs r.1 args)) l
noncomputable def sumsHand (l : List (FuncId × SRows)) : Hand := fun f args h =>
  List.rec (motive := fun _ => Option (AV × H)) none (fun r _ ih => Bool.rec ih (rowsAt args h r.2) (Nat.beq r.1 f)) l
def RowsOk (P : Program) (f : FuncId) (l : SRows) : Prop := ∀ r ∈ l, SumOk P f r.1 r.2
def TabOk (P : Program) (l : List (FuncId × SRows)) : Prop := ∀ r ∈ l, RowsOk P r.1 r.2
theorem RowsOk.nil {f : FuncId} : RowsOk P f [] := fun r h => by simp at h
theorem RowsOk.cons {f : FuncId} {args : List AV} {s : Sum} {l : SRows} (h : SumOk P f args s) (k : RowsOk P f l) : RowsOk P f ((args, s) :: l) := by
  intro r hr
  simp only [List.mem_cons] at hr
  rcases hr with rfl | hr
  · exact h
  · exact k r hr
theorem RowsOk.append {f : FuncId} {l m : SRows} (h : RowsOk P f l) (k : RowsOk P f m) : RowsOk P f (l ++ m) := by
  intro r hr
  rcases List.mem_append.1 hr with hr | hr
  · exact h r hr
  · exact k r hr
theorem TabOk.nil : TabOk P [] := fun r h => by simp at h
theorem TabOk.cons {f : FuncId} {m : SRows} {l : List (FuncId × SRows)} (h : RowsOk P f m) (k : TabOk P l) : TabOk P ((f, m) :: l) := by
  intro r hr
  simp only [List.mem_cons] at hr
  rcases hr with rfl | hr
  · exact h
  · exact k r hr
theorem rowsAt_ok {f : FuncId} {args : List AV} {p : AV × H} : ∀ {l : SRows}, RowsOk P f l → rowsAt args h l = some p → CallOk P f args h p
  | [], _, e => by have e' : (none : Option (AV × H)) = some p := e; cases e'
  | r :: l, hl, e => by
    have e' : (Bool.rec (rowsAt args h l) (r.2.at h) (veqs r.1 args) : Option (AV × H)) = some p := e
    cases h2 : veqs r.1 args with
    | false => rw [h2] at e'; exact rowsAt_ok (fun q hq => hl q (by simp [hq])) e'
    | true =>
      rw [h2] at e'
      have := hl r (by simp)
      rw [veqs_eq h2] at this
      exact this.at e'
theorem sumsHand_ok : ∀ {l : List (FuncId × SRows)}, TabOk P l → HandOk P (sumsHand l)
  | [], _, f, args, h, p, e => by have e' : (none : Option (AV × H)) = some p := e; cases e'
  | r :: l, hl, f, args, h, p, e => by
    have e' : (Bool.rec (sumsHand l f args h) (rowsAt args h r.2) (Nat.beq r.1 f) : Option (AV × H)) = some p := e
    cases h1 : Nat.beq r.1 f with
    | false => rw [h1] at e'; exact sumsHand_ok (l := l) (fun q hq => hl q (by simp [hq])) f args h p e'
    | true =>
      rw [h1] at e'
      have := hl r (by simp)
      rw [nbeq_iff.1 h1] at this
      exact rowsAt_ok this e'
noncomputable def Hand.or (K L : Hand) : Hand := fun f args h => Option.rec (L f args h) (fun r => some r) (K f args h)
theorem HandOk.or {K L : Hand} (hK : HandOk P K) (hL : HandOk P L) : HandOk P (K.or L) := by
  intro f args h p e
  have e' : (Option.rec (L f args h) (fun r => some r) (K f args h) : Option (AV × H)) = some p := e
  cases hk : K f args h with
  | none => rw [hk] at e'; exact hL f args h p e'
  | some q => rw [hk] at e'; cases e'; exact hK f args h p hk
noncomputable def oneHand (g : FuncId) (xs : List AV) (v : AV) : Hand := fun f args h =>
  Bool.rec none (Bool.rec none (some (v, h)) (veqs xs args)) (Nat.beq g f)
theorem oneHand_ok {g : FuncId} {xs : List AV} {v : AV} (hk : ∀ h, CallOk P g xs h (v, h)) : HandOk P (oneHand g xs v) := by
  intro f args h p e
  have e' : (Bool.rec none (Bool.rec none (some (v, h)) (veqs xs args)) (Nat.beq g f) : Option (AV × H)) = some p := e
  cases h1 : Nat.beq g f with
  | false => rw [h1] at e'; cases e'
  | true =>
    rw [h1] at e'
    cases h2 : veqs xs args with
    | false => rw [h2] at e'; cases e'
    | true =>
      rw [h2] at e'
      cases e'
      rw [← nbeq_iff.1 h1, ← veqs_eq h2]
      exact hk h
noncomputable def okTrue (r : Option (AV × H)) : Bool := Option.rec false (fun p => match p.1 with | .bool true => true | _ => false) r
theorem okTrue_some {r : Option (AV × H)} (h : okTrue r = true) : ∃ q, r = some (.bool true, q) := by
  cases r with
  | none => simp [okTrue] at h
  | some p =>
    obtain ⟨v, q⟩ := p
    cases v with
    | bool b => cases b <;> simp [okTrue] at h; exact ⟨q, rfl⟩
    | _ => simp [okTrue] at h
noncomputable def keepOf (h : H) (l : List Nat) : List (Nat × Blk) :=
  List.rec (motive := fun _ => List (Nat × Blk)) [] (fun x _ ih => Option.rec ih (fun b => (x, b) :: ih) (h.get x)) l
noncomputable def sumOf (keep : List Nat) (r : AV × H) : Option Sum := some ⟨r.1, r.2.next, keepOf r.2 keep⟩
theorem mem_keepOf {h : H} : ∀ {l : List Nat} {q : Nat × Blk}, q ∈ keepOf h l → h.get q.1 = some q.2
  | [], q, e => by simp [keepOf] at e
  | x :: l, q, e => by
    have e' : q ∈ (Option.rec (keepOf h l) (fun b => (x, b) :: keepOf h l) (h.get x) : List (Nat × Blk)) := e
    cases hx : h.get x with
    | none => rw [hx] at e'; exact mem_keepOf e'
    | some b =>
      rw [hx] at e'
      simp only [List.mem_cons] at e'
      rcases e' with rfl | e'
      · exact hx
      · exact mem_keepOf e'
theorem SumOk.of_run {K : Hand} (hm : P.follows .mixedOrders = true) (hK : HandOk P K) {n : Nat} {f : FuncId} {args : List AV} {keep : List Nat} {s : Sum} (hn : namelesss args = true)
    (e : ob (call P K n f args H.empty) (sumOf keep) = some s) : SumOk P f args s := by
  obtain ⟨r, h1, h2⟩ := ob_some e
  have h2' : some (⟨r.1, r.2.next, keepOf r.2 keep⟩ : Sum) = some s := h2
  cases h2'
  exact ⟨hn, r.2, call_sound hm hK h1, rfl, fun q hq => mem_keepOf hq⟩
end Go.X
set_option linter.unusedSimpArgs false
set_option linter.unusedVariables false
set_option linter.unusedSectionVars false
namespace Go.X
open Go.RowKit
variable [Tab] {P : Program}
theorem SumOk.yes {f : FuncId} {args : List AV} {s : Sum} (o : SumOk P f args s) (hv : s.v = .bool true) {args' : Array Value} (ha : vrels (fun _ => none) args args'.toList) (w : World) (hg : Gl (Kp.below w.heap.size) w) :
    Calls P f args' w fun e w' => e = .returned (.bool true) ∧ Below w.heap.size w w' := by
  obtain ⟨hs, h1, _, _⟩ := o.run
  refine (h1.closed ha w hg).mono ?_
  rintro e w' ⟨v', μ', rfl, hr, r⟩
  have hr' : vrel μ' s.v v' := hr
  rw [hv] at hr'
  simp only [vrel] at hr'
  exact ⟨by rw [hr'], r.below.toBelow⟩
theorem CallOk.yes {f : FuncId} {args : List AV} {q : H} (o : CallOk P f args H.empty (.bool true, q)) {args' : Array Value} (ha : vrels (fun _ => none) args args'.toList) (w : World) (hg : Gl (Kp.below w.heap.size) w) :
    Calls P f args' w fun e w' => e = .returned (.bool true) ∧ Below w.heap.size w w' := by
  refine (o.closed ha w hg).mono ?_
  rintro e w' ⟨v', μ', rfl, hr, r⟩
  have hr' : vrel μ' (.bool true) v' := hr
  simp only [vrel] at hr'
  exact ⟨by rw [hr'], r.below.toBelow⟩
theorem CallOk.of_okTrue {K : Hand} (hm : P.follows .mixedOrders = true) (hK : HandOk P K) {n : Nat} {f : FuncId} {args : List AV} (e : okTrue (call P K n f args H.empty) = true) :
    ∃ q, CallOk P f args H.empty (.bool true, q) := by
  obtain ⟨q, hq⟩ := okTrue_some e
  exact ⟨q, call_sound hm hK hq⟩
abbrev Tab.empty : Tab where
  str := fun _ => default
  ne := fun _ => []
  ok := fun _ p h => by simp at h
  gv := fun _ _ => none
  iv := fun _ => (.i64, 0)
  rv := fun _ => .nilIface
  ib := []
  ibok := fun _ h => by simp at h
  ic := []
  icok := fun _ h => by simp at h
  iu := []
  iuok := fun _ h => by simp at h
  vv := fun _ _ => none
  vk := fun _ => 0
  vvp := fun _ _ a h => by simp at h
  va := []
  vaok := fun _ h => by simp at h
  vz := []
  vzok := fun _ h => by simp at h
  vn := []
  vnok := fun _ h => by simp at h
  vc := []
  vcok := fun _ h => by simp at h
  fb := fun _ => (0, 0)
  fcap := fun _ => 0
  fv := fun _ _ => none
  fl := []
  flok := fun _ h => by simp at h
  vl := []
  vlok := fun _ h => by simp at h
  vs := []
  vsok := fun _ h => by simp at h
class Syms where
  str : Nat → ByteArray
  ne : Nat → List (Nat × Nat)
  ok : ∀ i p, p ∈ ne i → p.2 < 256 ^ p.1 → str i ≠ strOf p.1 p.2
  iv : Nat → IntKind × Int
  ib : List (Nat × AV × AV × AV)
  ibok : ∀ r ∈ ib, ∀ op, bcode op = r.1 → ∃ k a k' b v', denI iv r.2.1 = some (k, a) ∧ denI iv r.2.2.1 = some (k', b) ∧ intBin op k a k' b = some v' ∧ outI iv r.2.2.2 v'
  ic : List (IntKind × AV × AV)
  icok : ∀ r ∈ ic, ∃ k n, denI iv r.2.1 = some (k, n) ∧ denI iv r.2.2 = some (r.1, r.1.wrap n)
  iu : List (Nat × AV × AV)
  iuok : ∀ r ∈ iu, ∀ op, ucode op = r.1 → ∃ k n v', denI iv r.2.1 = some (k, n) ∧ unI op k n = some v' ∧ outI iv r.2.2 v'
abbrev Syms.tab (S : Syms) (gv : Nat → Nat → Option AV) : Tab :=
  { str := S.str, ne := S.ne, ok := S.ok, gv := gv, iv := S.iv, rv := fun _ => .nilIface, ib := S.ib, ibok := S.ibok, ic := S.ic, icok := S.icok, iu := S.iu, iuok := S.iuok,
    vv := fun _ _ => none, vk := fun _ => 0, vvp := fun _ _ a h => by simp at h, va := [], vaok := fun _ h => by simp at h, vz := [], vzok := fun _ h => by simp at h, vn := [], vnok := fun _ h => by simp at h,
    vc := [], vcok := fun _ h => by simp at h, fb := fun _ => (0, 0), fcap := fun _ => 0, fv := fun _ _ => none, fl := [], flok := fun _ h => by simp at h, vl := [], vlok := fun _ h => by simp at h, vs := [], vsok := fun _ h => by simp at h }
abbrev Syms.empty : Syms := ⟨fun _ => default, fun _ => [], fun _ p h => by simp at h, fun _ => (.i64, 0), [], fun _ h => by simp at h, [], fun _ h => by simp at h, [], fun _ h => by simp at h⟩
theorem pick (l : List (Nat × Nat)) (s : ByteArray) : (∃ p ∈ l, s = strOf p.1 p.2) ∨ ∀ p ∈ l, s ≠ strOf p.1 p.2 := by
  rcases Classical.em (∃ p ∈ l, s = strOf p.1 p.2) with h | h
  · exact .inl h
  · exact .inr fun p hp e => h ⟨p, hp, e⟩
end Go.X
set_option linter.unusedVariables false
set_option linter.unusedSimpArgs false
set_option linter.unusedSectionVars false
namespace Go.X
open Go.RowKit
noncomputable def ren (N0 : Nat) (rn : T Nat) (μ : M) : M := fun x => if x < N0 then μ x else (rn.get x).bind μ
noncomputable def nm (N0 : Nat) (rn : T Nat) (x x' : Nat) : Bool :=
  Bool.rec (Option.rec false (fun y => Nat.beq y x) (rn.get x')) (Nat.beq x' x) (Nat.blt x' N0)
theorem nm_sound [Tab] {N0 : Nat} {rn : T Nat} {x x' : Nat} {μ : M} {l : Loc} (h : nm N0 rn x x' = true) (hl : μ x = some l) : ren N0 rn μ x' = some l := by
  unfold nm at h
  unfold ren
  cases hb : Nat.blt x' N0 with
  | true =>
    rw [hb] at h
    have h : Nat.beq x' x = true := h
    rw [if_pos (blt_iff.1 hb), nbeq_iff.1 h]; exact hl
  | false =>
    rw [hb] at h
    have h : (Option.rec false (fun y => Nat.beq y x) (rn.get x') : Bool) = true := h
    rw [if_neg (fun e => by rw [blt_iff.2 e] at hb; cases hb)]
    cases hg : rn.get x' with
    | none => rw [hg] at h; simp at h
    | some y =>
      rw [hg] at h
      have h : Nat.beq y x = true := h
      rw [nbeq_iff.1 h]; exact hl
theorem nm_of [Tab] {N0 : Nat} {rn : T Nat} {x x' : Nat} {μ : M} {l : Loc} (h : nm N0 rn x x' = true) (hl : ren N0 rn μ x' = some l) : μ x = some l := by
  unfold nm at h
  unfold ren at hl
  cases hb : Nat.blt x' N0 with
  | true =>
    rw [hb] at h
    have h : Nat.beq x' x = true := h
    rw [if_pos (blt_iff.1 hb), nbeq_iff.1 h] at hl; exact hl
  | false =>
    rw [hb] at h
    have h : (Option.rec false (fun y => Nat.beq y x) (rn.get x') : Bool) = true := h
    rw [if_neg (fun e => by rw [blt_iff.2 e] at hb; cases hb)] at hl
    cases hg : rn.get x' with
    | none => rw [hg] at h; simp at h
    | some y =>
      rw [hg] at h hl
      have h : Nat.beq y x = true := h
      rw [nbeq_iff.1 h] at hl; exact hl
mutual
noncomputable def sv (N0 : Nat) (rn : T Nat) : AV → AV → Bool
  | .bool a, .bool b => a == b
  | .int k a, .int k' b => Nat.beq (kcode k) (kcode k') && a == b
  | .str n c, .str m d => strEq n c m d
  | .nilp, .nilp => true
  | .ptr x o, .ptr y p => nm N0 rn x y && Nat.beq o p
  | .nils, .nils => true
  | .sl x o n c, .sl y p m d => nm N0 rn x y && (Nat.beq o p && (Nat.beq n m && Nat.beq c d))
  | .so x o n c, .so y p m d => nm N0 rn x y && (Nat.beq o p && (Nat.beq n m && Nat.beq c d))
  | .nilm, .nilm => true
  | .map x, .map y => nm N0 rn x y
  | .fn (.func f) a b, .fn (.func g) c d => Nat.beq f g && (svs N0 rn a c && svs N0 rn b d)
  | .nilf, .nilf => true
  | .iface t v, .iface u x => Nat.beq t u && sv N0 rn v x
  | .nili, .nili => true
  | .agg l, .agg m => svs N0 rn l m
  | .tup l, .tup m => svs N0 rn l m
  | .gp x o, .gp y p => Nat.beq x y && Nat.beq o p
  | .es, .es => true
  | _, _ => false
noncomputable def svs (N0 : Nat) (rn : T Nat) : List AV → List AV → Bool
  | [], [] => true
  | a :: l, b :: m => sv N0 rn a b && svs N0 rn l m
  | _, _ => false
end
mutual
theorem sv_sound {T T' : Tab} {μ : M} {N0 : Nat} {rn : X.T Nat} : ∀ (a b : AV) (v : Value), sv N0 rn a b = true → @vrel T μ a v → @vrel T' (ren N0 rn μ) b v
  | .bool _, b, v, hf, h => by cases b <;> simp [sv] at hf; subst hf; simpa [vrel] using h
  | .int k n, b, v, hf, h => by
    cases b <;> simp only [sv, Bool.and_eq_true, beq_iff_eq, Bool.false_eq_true] at hf
    rw [kcode_eq hf.1, hf.2] at h
    simpa [vrel] using h
  | .str _ _, b, v, hf, h => by
    cases b <;> simp only [sv, strEq, Bool.and_eq_true, Bool.false_eq_true] at hf
    rw [Nat.eq_of_beq_eq_true hf.1, Nat.eq_of_beq_eq_true hf.2] at h
    simpa [vrel] using h
  | .nilp, b, v, hf, h => by cases b <;> simp [sv] at hf; simpa [vrel] using h
  | .ptr x o, b, v, hf, h => by
    cases b <;> simp only [sv, Bool.and_eq_true, Bool.false_eq_true] at hf
    rw [Nat.eq_of_beq_eq_true hf.2] at h
    simp only [vrel] at h ⊢
    obtain ⟨l, h1, h2⟩ := h
    exact ⟨l, nm_sound hf.1 h1, h2⟩
  | .nils, b, v, hf, h => by cases b <;> simp [sv] at hf; simpa [vrel] using h
  | .sl x o n c, b, v, hf, h => by
    cases b <;> simp only [sv, Bool.and_eq_true, Bool.false_eq_true] at hf
    rw [Nat.eq_of_beq_eq_true hf.2.1, Nat.eq_of_beq_eq_true hf.2.2.1, Nat.eq_of_beq_eq_true hf.2.2.2] at h
    simp only [vrel] at h ⊢
    obtain ⟨l, h1, h2⟩ := h
    exact ⟨l, nm_sound hf.1 h1, h2⟩
  | .so x o n z, b, v, hf, h => by
    cases b <;> simp only [sv, Bool.and_eq_true, Bool.false_eq_true] at hf
    rw [Nat.eq_of_beq_eq_true hf.2.1, Nat.eq_of_beq_eq_true hf.2.2.1, Nat.eq_of_beq_eq_true hf.2.2.2] at h
    simp only [vrel] at h ⊢
    obtain ⟨l, c, h1, h2⟩ := h
    exact ⟨l, c, nm_sound hf.1 h1, h2⟩
  | .nilm, b, v, hf, h => by cases b <;> simp [sv] at hf; simpa [vrel] using h
  | .map x, b, v, hf, h => by
    cases b <;> simp only [sv, Bool.false_eq_true] at hf
    simp only [vrel] at h ⊢
    obtain ⟨l, h1, h2⟩ := h
    exact ⟨l, nm_sound hf h1, h2⟩
  | .fn f as bs, b, v, hf, h => by
    cases b with
    | fn g cs ds =>
      cases f <;> cases g <;> simp only [sv, Bool.and_eq_true, Bool.false_eq_true] at hf
      simp only [vrel] at h ⊢
      obtain ⟨x, y, h1, h2, h3⟩ := h
      rw [Nat.eq_of_beq_eq_true hf.1] at h1
      exact ⟨x, y, h1, svs_sound as cs x hf.2.1 h2, svs_sound bs ds y hf.2.2 h3⟩
    | _ => cases f <;> simp [sv] at hf
  | .nilf, b, v, hf, h => by cases b <;> simp [sv] at hf; simpa [vrel] using h
  | .iface t x, b, v, hf, h => by
    cases b <;> simp only [sv, Bool.and_eq_true, Bool.false_eq_true] at hf
    simp only [vrel] at h ⊢
    obtain ⟨y, h1, h2⟩ := h
    rw [Nat.eq_of_beq_eq_true hf.1] at h1
    exact ⟨y, h1, sv_sound x _ y hf.2 h2⟩
  | .nili, b, v, hf, h => by cases b <;> simp [sv] at hf; simpa [vrel] using h
  | .agg l, b, v, hf, h => by
    cases b <;> simp only [sv, Bool.false_eq_true] at hf
    simp only [vrel] at h ⊢
    obtain ⟨cs, h1, h2⟩ := h
    exact ⟨cs, h1, svs_sound l _ cs hf h2⟩
  | .tup l, b, v, hf, h => by
    cases b <;> simp only [sv, Bool.false_eq_true] at hf
    simp only [vrel] at h ⊢
    obtain ⟨cs, h1, h2⟩ := h
    exact ⟨cs, h1, svs_sound l _ cs hf h2⟩
  | .ostr _, b, v, hf, h => by cases b <;> simp [sv] at hf
  | .rw _, b, v, hf, h => by cases b <;> simp [sv] at hf
  | .gp _ _, b, v, hf, h => by
    cases b <;> simp only [sv, Bool.and_eq_true, Bool.false_eq_true] at hf
    rw [Nat.eq_of_beq_eq_true hf.1, Nat.eq_of_beq_eq_true hf.2] at h
    simpa [vrel] using h
  | .oi _, b, v, hf, h => by cases b <;> simp [sv] at hf
  | .es, b, v, hf, h => by cases b <;> simp [sv] at hf; simpa [vrel] using h
  | .ov _ _ _, b, v, hf, h => by cases b <;> simp [sv] at hf
  | .op _ _ _ _, b, v, hf, h => by cases b <;> simp [sv] at hf
  | .fo _ _ _, b, v, hf, h => by cases b <;> simp [sv] at hf
  | .fp _ _ _ _, b, v, hf, h => by cases b <;> simp [sv] at hf
theorem svs_sound {T T' : Tab} {μ : M} {N0 : Nat} {rn : X.T Nat} : ∀ (a b : List AV) (v : List Value), svs N0 rn a b = true → @vrels T μ a v → @vrels T' (ren N0 rn μ) b v
  | [], [], _, _, h => by simpa [vrels] using h
  | [], _ :: _, _, hf, _ => by simp [svs] at hf
  | _ :: _, [], _, hf, _ => by simp [svs] at hf
  | a :: l, b :: m, _, hf, h => by
    simp only [svs, Bool.and_eq_true] at hf
    simp only [vrels] at h ⊢
    obtain ⟨v, r, h1, h2, h3⟩ := h
    exact ⟨v, r, h1, sv_sound a b v hf.1 h2, svs_sound l m r hf.2 h3⟩
end
abbrev IP := List (AV × Nat)
noncomputable def ipHas (a : AV) (i : Nat) (l : IP) : Bool :=
  List.rec (motive := fun _ => Bool) false (fun p _ ih => Bool.rec ih (Bool.rec ih true (ieq p.1 a)) (Nat.beq p.2 i)) l
theorem ipHas_mem [Tab] {a : AV} {i : Nat} : ∀ {l : IP}, ipHas a i l = true → (a, i) ∈ l
  | [], h => by have h' : false = true := h; cases h'
  | p :: l, h => by
    have h' : (@Bool.rec (fun _ => Bool) (ipHas a i l) (@Bool.rec (fun _ => Bool) (ipHas a i l) true (ieq p.1 a)) (Nat.beq p.2 i)) = true := h
    cases h1 : Nat.beq p.2 i with
    | false => rw [h1] at h'; exact List.mem_cons_of_mem _ (ipHas_mem h')
    | true =>
    cases h2 : ieq p.1 a with
    | false => rw [h1, h2] at h'; exact List.mem_cons_of_mem _ (ipHas_mem h')
    | true =>
      have : p = (a, i) := by rw [← ieq_eq h2, ← nbeq_iff.1 h1]
      rw [← this]
      exact List.mem_cons_self
noncomputable def tpHas (a : AV) (i : Nat) (l : IP) : Bool :=
  List.rec (motive := fun _ => Bool) false (fun p _ ih => Bool.rec ih (Bool.rec ih true (peq p.1 a)) (Nat.beq p.2 i)) l
theorem tpHas_mem [Tab] {a : AV} {i : Nat} : ∀ {l : IP}, tpHas a i l = true → (a, i) ∈ l
  | [], h => by have h' : false = true := h; cases h'
  | p :: l, h => by
    have h' : (@Bool.rec (fun _ => Bool) (tpHas a i l) (@Bool.rec (fun _ => Bool) (tpHas a i l) true (peq p.1 a)) (Nat.beq p.2 i)) = true := h
    cases h1 : Nat.beq p.2 i with
    | false => rw [h1] at h'; exact List.mem_cons_of_mem _ (tpHas_mem h')
    | true =>
    cases h2 : peq p.1 a with
    | false => rw [h1, h2] at h'; exact List.mem_cons_of_mem _ (tpHas_mem h')
    | true =>
      have : p = (a, i) := by rw [← peq_eq h2, ← nbeq_iff.1 h1]
      rw [← this]
      exact List.mem_cons_self
def isTx : AV → Bool
  | .str _ _ => true
  | .ostr _ => true
  | _ => false
structure Cv where
  N0 : Nat
  N : Nat
  rn : T Nat
  ip : IP
noncomputable def foHas (i i' : Nat) (l : IP) : Bool :=
  List.rec (motive := fun _ => Bool) false (fun p _ ih => Bool.rec ih (match p.1 with
    | .fo x _ _ => Bool.rec ih true (Nat.beq x i)
    | _ => ih) (Nat.beq p.2 i')) l
noncomputable def rwHas (i i' : Nat) (l : IP) : Bool :=
  List.rec (motive := fun _ => Bool) false (fun p _ ih => Bool.rec ih (match p.1 with
    | .rw x => Bool.rec ih true (Nat.beq x i)
    | _ => ih) (Nat.beq p.2 i')) l
def isNum : AV → Bool
  | .int _ _ => true
  | .oi _ => true
  | _ => false
noncomputable def cvV (C : Cv) (a a' : AV) : Bool :=
  match a' with
  | .fo i' j z => match a with
    | .fo i k z' => Nat.beq z' z && (foHas i i' C.ip && ipHas (.oi k) j C.ip)
    | _ => false
  | .oi i => isNum a && ipHas a i C.ip
  | .ostr i => isTx a && tpHas a i C.ip
  | .rw i' => match a with
    | .rw i => rwHas i i' C.ip
    | _ => false
  | .ov x j z => match a with
    | .so y o n z' => nm C.N0 C.rn y x && (Nat.beq o 0 && (Nat.beq z' z && ipHas (.int .i64 (n : Int)) j C.ip))
    | .ov y k z' => nm C.N0 C.rn y x && (Nat.beq z' z && ipHas (.oi k) j C.ip)
    | _ => false
  | a' => sv C.N0 C.rn a a'
def IpOk1 (T T' : Tab) (p : AV × Nat) : Prop :=
  match p.1 with
  | .fo i _ _ => T'.fb p.2 = T.fb i ∧ T'.fcap p.2 = T.fcap i
  | .ostr i => T'.str p.2 = T.str i
  | .str n c => T'.str p.2 = strOf n c
  | .rw i => T'.rv p.2 = T.rv i
  | a => denI T.iv a = some (T'.iv p.2)
def IpOk (T T' : Tab) (ip : IP) : Prop := ∀ p ∈ ip, IpOk1 T T' p
theorem foHas_mem {i i' : Nat} : ∀ {l : IP}, foHas i i' l = true → ∃ j z, (AV.fo i j z, i') ∈ l
  | [], h => by have h' : false = true := h; cases h'
  | p :: l, h => by
    have ih := fun e => let ⟨j, z, q⟩ := foHas_mem (i := i) (i' := i') (l := l) e; (⟨j, z, List.mem_cons_of_mem p q⟩ : ∃ j z, (AV.fo i j z, i') ∈ p :: l)
    have h' : (@Bool.rec (fun _ => Bool) (foHas i i' l) (match p.1 with
      | .fo x _ _ => @Bool.rec (fun _ => Bool) (foHas i i' l) true (Nat.beq x i)
      | _ => foHas i i' l) (Nat.beq p.2 i')) = true := h
    cases h1 : Nat.beq p.2 i' with
    | false => rw [h1] at h'; exact ih h'
    | true =>
      rw [h1] at h'
      have h2 : (match p.1 with
        | .fo x _ _ => @Bool.rec (fun _ => Bool) (foHas i i' l) true (Nat.beq x i)
        | _ => foHas i i' l) = true := h'
      split at h2
      · rename_i x j z hp
        cases h3 : Nat.beq x i with
        | false => rw [h3] at h2; exact ih h2
        | true =>
          refine ⟨j, z, ?_⟩
          have : p = (.fo i j z, i') := by rw [← Nat.eq_of_beq_eq_true h3, ← hp, ← Nat.eq_of_beq_eq_true h1]
          rw [← this]; exact List.mem_cons_self
      · exact ih h2
theorem rwHas_mem {i i' : Nat} : ∀ {l : IP}, rwHas i i' l = true → (AV.rw i, i') ∈ l
  | [], h => by have h' : false = true := h; cases h'
  | p :: l, h => by
    have ih := fun e => List.mem_cons_of_mem p (rwHas_mem (i := i) (i' := i') (l := l) e)
    have h' : (@Bool.rec (fun _ => Bool) (rwHas i i' l) (match p.1 with
      | .rw x => @Bool.rec (fun _ => Bool) (rwHas i i' l) true (Nat.beq x i)
      | _ => rwHas i i' l) (Nat.beq p.2 i')) = true := h
    cases h1 : Nat.beq p.2 i' with
    | false => rw [h1] at h'; exact ih h'
    | true =>
      rw [h1] at h'
      have h2 : (match p.1 with
        | .rw x => @Bool.rec (fun _ => Bool) (rwHas i i' l) true (Nat.beq x i)
        | _ => rwHas i i' l) = true := h'
      split at h2
      · rename_i x hp
        cases h3 : Nat.beq x i with
        | false => rw [h3] at h2; exact ih h2
        | true =>
          have : p = (.rw i, i') := by rw [← Nat.eq_of_beq_eq_true h3, ← hp, ← Nat.eq_of_beq_eq_true h1]
          rw [← this]; exact List.mem_cons_self
      · exact ih h2
theorem cvV_sound {T T' : Tab} {C : Cv} (hip : IpOk T T' C.ip) {μ : M} {a a' : AV} {v : Value} (h : cvV C a a' = true) (hv : @vrel T μ a v) : @vrel T' (ren C.N0 C.rn μ) a' v := by
  unfold cvV at h
  split at h
  · rename_i i' j z
    split at h
    · rename_i i k z'
      simp only [Bool.and_eq_true, nbeq_iff] at h
      obtain ⟨rfl, h1, h2⟩ := h
      obtain ⟨_, _, hm⟩ := foHas_mem h1
      obtain ⟨e1, e2⟩ := (show _ ∧ _ from hip _ hm)
      have hm2 := hip _ (ipHas_mem h2)
      simp only [IpOk1, denI, Option.some.injEq] at hm2
      simp only [vrel] at hv ⊢
      rw [e1, e2, ← hm2]
      exact hv
    · simp at h
  · rename_i i
    simp only [Bool.and_eq_true] at h
    have hm := hip _ (ipHas_mem h.2)
    cases a <;> simp [isNum] at h <;> simp [IpOk1, denI] at hm
    · simp only [vrel] at hv ⊢; rw [hv, ← hm]
    · simp only [vrel] at hv ⊢; rw [hv, ← hm]
  · rename_i i
    simp only [Bool.and_eq_true] at h
    have hm := hip _ (@tpHas_mem T _ _ _ h.2)
    cases a <;> simp [isTx] at h <;> simp only [IpOk1] at hm
    · simp only [vrel] at hv ⊢; rw [hv.2, ← hm]
    · simp only [vrel] at hv ⊢; rw [hv, ← hm]
  · rename_i i'
    split at h
    · rename_i i
      have hm : T'.rv i' = T.rv i := hip _ (rwHas_mem h)
      simp only [vrel] at hv ⊢
      rw [hm]; exact hv
    · simp at h
  · rename_i x j z
    split at h
    · rename_i y o n z'
      simp only [Bool.and_eq_true, nbeq_iff, blt_iff] at h
      obtain ⟨hx, rfl, rfl, h⟩ := h
      have hm := hip _ (ipHas_mem h)
      simp only [IpOk1, denI, Option.some.injEq] at hm
      simp only [vrel] at hv ⊢
      obtain ⟨l, c, h1, h2, h3, h4⟩ := hv
      refine ⟨by rw [← hm]; exact ⟨rfl, Int.natCast_nonneg _⟩, l, c, nm_sound hx h1, ?_, by simpa using h3, ?_⟩
      · rw [← hm]; simpa using h2
      · rw [← hm, h4]; simp
    · rename_i y k z'
      simp only [Bool.and_eq_true, nbeq_iff, blt_iff] at h
      obtain ⟨hx, rfl, h⟩ := h
      have hm := hip _ (ipHas_mem h)
      simp only [IpOk1, denI, Option.some.injEq] at hm
      simp only [vrel] at hv ⊢
      obtain ⟨h0, l, c, h1, h2, h3, h4⟩ := hv
      rw [← hm]
      exact ⟨h0, l, c, nm_sound hx h1, h2, h3, h4⟩
    · simp at h
  · exact sv_sound _ _ _ h hv
noncomputable def cvO (C : Cv) (free : Bool) (v v' : Option AV) : Bool :=
  match v', v with
  | some a', some a => cvV C a a'
  | some _, none => false
  | none, some _ => free
  | none, none => true
noncomputable def isLeaf {α : Type} (t : T α) : Bool := T.rec (motive := fun _ => Bool) true (fun _ _ _ _ _ => false) t
noncomputable def cvT (C : Cv) (free : Bool) (t' : T AV) : T AV → Bool :=
  T.rec (motive := fun _ => T AV → Bool) (fun t => free || isLeaf t)
    (fun _ v' _ ihl ihr t => T.rec (motive := fun _ => Bool) false (fun l v r _ _ => Bool.rec false (Bool.rec false (ihr r) (ihl l)) (cvO C free v v')) t) t'
theorem cvT_sound [Tab] {C : Cv} {free : Bool} : ∀ (t' t : T AV), cvT C free t' t = true → ∀ i, (∀ a', t'.get i = some a' → ∃ a, t.get i = some a ∧ cvV C a a' = true) ∧ (free = false → t'.get i = none → t.get i = none)
  | .leaf, t, h, i => by
    refine ⟨fun a' e => by simp at e, fun hf _ => ?_⟩
    have h' : (free || isLeaf t) = true := h
    rw [hf] at h'
    cases t with
    | leaf => rfl
    | node l v r => simp [isLeaf] at h'
  | .node l' v' r', .leaf, h, i => by have h' : false = true := h; cases h'
  | .node l' v' r', .node l v r, h, i => by
    have h' : (@Bool.rec (fun _ => Bool) false (@Bool.rec (fun _ => Bool) false (cvT C free r' r) (cvT C free l' l)) (cvO C free v v')) = true := h
    cases h1 : cvO C free v v' with
    | false => rw [h1] at h'; simp at h'
    | true =>
    cases h2 : cvT C free l' l with
    | false => rw [h1, h2] at h'; simp at h'
    | true =>
    rw [h1, h2] at h'
    have h3 : cvT C free r' r = true := h'
    rw [T.get_node, T.get_node]
    by_cases c0 : i = 0
    · rw [if_pos c0, if_pos c0]
      unfold cvO at h1
      refine ⟨fun a' e => ?_, fun hf e => ?_⟩
      · subst e
        cases v with
        | none => simp at h1
        | some a => exact ⟨a, rfl, by simpa using h1⟩
      · subst e
        cases v with
        | none => rfl
        | some a => simp [hf] at h1
    · rw [if_neg c0, if_neg c0]
      by_cases c1 : i % 2 = 1
      · rw [if_pos c1, if_pos c1]; exact cvT_sound l' l h2 _
      · rw [if_neg c1, if_neg c1]; exact cvT_sound r' r h3 _
noncomputable def cvE (C : Cv) : List (AV × AV × Nat) → List (AV × AV × Nat) → Bool
  | [], [] => true
  | a :: l, b :: m => cvV C a.1 b.1 && (cvV C a.2.1 b.2.1 && (Nat.beq a.2.2 b.2.2 && cvE C l m))
  | _, _ => false
theorem cvE_sound {T T' : Tab} {C : Cv} (hip : IpOk T T' C.ip) {μ : M} : ∀ {a b : List (AV × AV × Nat)} {es : List MapEntry}, cvE C a b = true → @esrel T μ a es → @esrel T' (ren C.N0 C.rn μ) b es
  | [], [], _, _, h => h
  | [], _ :: _, _, h, _ => by simp [cvE] at h
  | _ :: _, [], _, h, _ => by simp [cvE] at h
  | a :: l, b :: m, es, h, hr => by
    simp only [cvE, Bool.and_eq_true, nbeq_iff] at h
    simp only [esrel] at hr ⊢
    obtain ⟨e, r, h1, h2, h3, h4, h5⟩ := hr
    exact ⟨e, r, h1, cvV_sound hip h.1 h2, cvV_sound hip h.2.1 h3, by rw [h4, h.2.2.1], cvE_sound hip h.2.2.2 h5⟩
noncomputable def cvB (C : Cv) (b b' : Blk) : Bool :=
  match b', b with
  | .cells n' p' z' t', .cells n p z t => Nat.ble n' n && ((p == p') && ((z'.isEmpty || svs C.N0 C.rn z z') && cvT C z'.isEmpty t' t))
  | .map es' c', .map es c => Nat.beq c c' && cvE C es es'
  | .siter n' c' p', .siter n c p => Nat.beq n n' && (Nat.beq c c' && Nat.beq p p')
  | _, _ => false
theorem cvB_own {C : Cv} {b b' : Blk} (h : cvB C b b' = true) : own b = true ∧ own b' = true := by
  unfold cvB at h
  split at h <;> first | exact ⟨rfl, rfl⟩ | simp at h
theorem svs_length {N0 : Nat} {rn : T Nat} : ∀ {a b : List AV}, svs N0 rn a b = true → a.length = b.length
  | [], [], _ => rfl
  | [], _ :: _, h => by simp [svs] at h
  | _ :: _, [], h => by simp [svs] at h
  | a :: l, b :: m, h => by
    simp only [svs, Bool.and_eq_true] at h
    simp [svs_length h.2]
theorem svs_get {N0 : Nat} {rn : T Nat} : ∀ {a b : List AV} {i : Nat} {x' : AV}, svs N0 rn a b = true → b[i]? = some x' → ∃ x, a[i]? = some x ∧ sv N0 rn x x' = true
  | [], [], i, x', _, h => by simp at h
  | [], _ :: _, _, _, h, _ => by simp [svs] at h
  | _ :: _, [], _, _, h, _ => by simp [svs] at h
  | a :: l, b :: m, 0, x', h, e => by
    simp only [svs, Bool.and_eq_true] at h
    simp at e; subst e
    exact ⟨a, rfl, h.1⟩
  | a :: l, b :: m, i + 1, x', h, e => by
    simp only [svs, Bool.and_eq_true] at h
    obtain ⟨x, h1, h2⟩ := svs_get (i := i) h.2 (by simpa using e)
    exact ⟨x, by simpa using h1, h2⟩
theorem cvB_sound {T T' : Tab} {C : Cv} (hip : IpOk T T' C.ip) {μ : M} {b b' : Blk} {l : Loc} {w : World} (h : cvB C b b' = true) (hb : @brel T μ b l w) : @brel T' (ren C.N0 C.rn μ) b' l w := by
  unfold cvB at h
  split at h
  · rename_i n' p' z' t' n p z t
    simp only [Bool.and_eq_true, ble_iff, Bool.or_eq_true, beq_iff_eq] at h
    obtain ⟨h1, rfl, h2, h4⟩ := h
    obtain ⟨arr, el, fz, g1, g2, g3, g4, g5, g6⟩ := hb
    refine ⟨arr, el, fz, g1, g2, g3, by omega, g5, fun i a' hi ha' => ?_⟩
    obtain ⟨k1, k2⟩ := cvT_sound t' t h4 i
    unfold cellOf at ha'
    cases ht : t'.get i with
    | some u =>
      rw [ht] at ha'
      simp only [Option.some.injEq] at ha'
      subst ha'
      obtain ⟨a, e1, e2⟩ := k1 u ht
      obtain ⟨v, v1, v2⟩ := g6 i a (by omega) (by unfold cellOf; rw [e1])
      exact ⟨v, v1, cvV_sound hip e2 v2⟩
    | none =>
      rw [ht] at ha'
      have ha2 : z'[i % z'.length]? = some a' := ha'
      cases hz : z'.isEmpty with
      | true =>
        have : z' = [] := by simpa using hz
        subst this; simp at ha2
      | false =>
        rw [hz] at h2 k2
        simp only [Bool.false_eq_true, false_or] at h2
        have ht2 := k2 rfl ht
        obtain ⟨a, e1, e2⟩ := svs_get h2 ha2
        obtain ⟨v, v1, v2⟩ := g6 i a (by omega) (by unfold cellOf; rw [ht2, svs_length h2]; exact e1)
        exact ⟨v, v1, sv_sound _ _ _ e2 v2⟩
  · rename_i es' c' es c
    simp only [Bool.and_eq_true, nbeq_iff] at h
    obtain ⟨rfl, h⟩ := h
    obtain ⟨es2, g1, g2⟩ := hb
    exact ⟨es2, g1, cvE_sound hip h g2⟩
  · simp only [Bool.and_eq_true, nbeq_iff] at h
    obtain ⟨rfl, rfl, rfl⟩ := h
    exact hb
  · simp at h
abbrev VP := List (Nat × Blk × Nat)
def VpOk (T T' : Tab) (C : Cv) (vp : VP) : Prop := ∀ p ∈ vp, own p.2.1 = true ∧ ∀ μ l w, @brel T μ p.2.1 l w → @brel T' (ren C.N0 C.rn μ) (.vec p.2.2) l w
noncomputable def vpHas (x : Nat) (b : Blk) (i : Nat) (l : VP) : Bool :=
  List.rec (motive := fun _ => Bool) false (fun p _ ih => Bool.rec ih (Bool.rec ih (Bool.rec ih true (beq? p.2.1 b)) (Nat.beq p.2.2 i)) (Nat.beq p.1 x)) l
theorem vpHas_mem [Tab] {x : Nat} {b : Blk} {i : Nat} : ∀ {l : VP}, vpHas x b i l = true → (x, b, i) ∈ l
  | [], h => by have h' : false = true := h; cases h'
  | p :: l, h => by
    have h' : (@Bool.rec (fun _ => Bool) (vpHas x b i l) (@Bool.rec (fun _ => Bool) (vpHas x b i l) (@Bool.rec (fun _ => Bool) (vpHas x b i l) true (beq? p.2.1 b)) (Nat.beq p.2.2 i)) (Nat.beq p.1 x)) = true := h
    cases h1 : Nat.beq p.1 x with
    | false => rw [h1] at h'; exact List.mem_cons_of_mem _ (vpHas_mem h')
    | true =>
    cases h2 : Nat.beq p.2.2 i with
    | false => rw [h1, h2] at h'; exact List.mem_cons_of_mem _ (vpHas_mem h')
    | true =>
    cases h3 : beq? p.2.1 b with
    | false => rw [h1, h2, h3] at h'; exact List.mem_cons_of_mem _ (vpHas_mem h')
    | true =>
      have : p = (x, b, i) := by rw [← beq_eq h3, ← nbeq_iff.1 h1, ← nbeq_iff.1 h2]
      rw [← this]
      exact List.mem_cons_self
noncomputable def ofPairs {α : Type} (l : List (Nat × α)) : T α := List.rec (motive := fun _ => T α) .leaf (fun p _ ih => ih.put p.1 p.2) l
abbrev BS := List (Nat × Nat × Blk)
noncomputable def bsOf (bs : BS) : List (Nat × Blk) := List.rec (motive := fun _ => List (Nat × Blk)) [] (fun p _ ih => (p.1, p.2.2) :: ih) bs
noncomputable def hOf (N : Nat) (bs : BS) : H := fT (ofPairs (bsOf bs)) fun t => ⟨N, t⟩
noncomputable def frOf (fs : List (Nat × AV)) : Fr := ofPairs fs
theorem ofPairs_get {α : Type} : ∀ {l : List (Nat × α)} {x : Nat} {b : α}, (∀ p ∈ l, p.1 < limit) → (ofPairs l).get x = some b → (x, b) ∈ l
  | [], x, b, _, h => by simp [ofPairs] at h
  | p :: l, x, b, hl, h => by
    have h' : ((ofPairs l).put p.1 p.2).get x = some b := h
    rw [T.get_put _ _ _ _ (by have := hl p (by simp); unfold limit at this; omega)] at h'
    split at h'
    · rename_i e
      cases h'
      have : p = (x, p.2) := by rw [e]
      rw [← this]; exact List.mem_cons_self
    · exact List.mem_cons_of_mem _ (ofPairs_get (fun q hq => hl q (by simp [hq])) h')
noncomputable def okBs (C : Cv) (vp : VP) (h : H) (bs : BS) : T Nat → Bool :=
  List.rec (motive := fun _ => T Nat → Bool) (fun _ => true) (fun p _ ih seen => Bool.rec false (Option.rec (Bool.rec false (fT (seen.put p.2.1 0) fun s => ih s) (Option.rec false (fun b => match p.2.2 with
    | .vec i => vpHas p.2.1 b i vp
    | b' => cvB C b b') (h.get p.2.1))) (fun _ => false) (seen.get p.2.1)) (Nat.blt p.1 C.N && (Nat.blt p.1 limit && (Nat.blt p.2.1 limit && nm C.N0 C.rn p.2.1 p.1)))) bs
noncomputable def okFs (C : Cv) (fr : Fr) (fs : List (Nat × AV)) : Bool :=
  List.rec (motive := fun _ => Bool) true (fun p _ ih => Bool.rec false (Bool.rec false ih (Option.rec false (fun a => cvV C a p.2) (fr.get p.1))) (Nat.blt p.1 limit)) fs
theorem okBs_mem [Tab] {C : Cv} {vp : VP} {h : H} : ∀ {bs : BS} {seen : T Nat}, okBs C vp h bs seen = true → (∀ p ∈ bs, seen.get p.2.1 = none ∧ p.1 < C.N ∧ p.1 < limit ∧ nm C.N0 C.rn p.2.1 p.1 = true ∧ ∃ b, h.get p.2.1 = some b ∧ (cvB C b p.2.2 = true ∨ ∃ i, p.2.2 = .vec i ∧ (p.2.1, b, i) ∈ vp)) ∧
    bs.Pairwise fun p q => p.2.1 ≠ q.2.1
  | [], _, _ => ⟨fun p hp => by simp at hp, List.Pairwise.nil⟩
  | q :: l, seen, e => by
    have e' : (@Bool.rec (fun _ => Bool) false (@Option.rec Nat (fun _ => Bool) (@Bool.rec (fun _ => Bool) false (fT (seen.put q.2.1 0) fun s => okBs C vp h l s) (@Option.rec Blk (fun _ => Bool) false (fun b => match q.2.2 with
      | .vec i => vpHas q.2.1 b i vp
      | b' => cvB C b b') (h.get q.2.1))) (fun _ => false) (seen.get q.2.1)) (Nat.blt q.1 C.N && (Nat.blt q.1 limit && (Nat.blt q.2.1 limit && nm C.N0 C.rn q.2.1 q.1)))) = true := e
    cases h1 : (Nat.blt q.1 C.N && (Nat.blt q.1 limit && (Nat.blt q.2.1 limit && nm C.N0 C.rn q.2.1 q.1))) with
    | false => rw [h1] at e'; simp at e'
    | true =>
    rw [h1] at e'
    simp only [Bool.and_eq_true] at h1
    cases hs : seen.get q.2.1 with
    | some n => rw [hs] at e'; simp at e'
    | none =>
    rw [hs] at e'
    cases hg : h.get q.2.1 with
    | none => rw [hg] at e'; simp at e'
    | some b =>
    rw [hg] at e'
    cases h2 : (match q.2.2 with
      | .vec i => vpHas q.2.1 b i vp
      | b' => cvB C b b') with
    | false => simp only [h2] at e'; simp at e'
    | true =>
    simp only [h2, fT_eq] at e'
    obtain ⟨k1, k2⟩ := okBs_mem (bs := l) e'
    have hlim : q.2.1 < 16000000 := by have := blt_iff.1 h1.2.2.1; unfold limit at this; omega
    refine ⟨fun p hp => ?_, List.Pairwise.cons (fun p hp => ?_) k2⟩
    · simp only [List.mem_cons] at hp
      rcases hp with rfl | hp
      · refine ⟨hs, blt_iff.1 h1.1, blt_iff.1 h1.2.1, h1.2.2.2, b, hg, ?_⟩
        split at h2
        · rename_i i hq
          exact .inr ⟨i, hq, vpHas_mem h2⟩
        · exact .inl h2
      · obtain ⟨g1, g2⟩ := k1 p hp
        refine ⟨?_, g2⟩
        rw [T.get_put _ _ _ _ hlim] at g1
        split at g1
        · simp at g1
        · exact g1
    · have g1 := (k1 p hp).1
      rw [T.get_put _ _ _ _ hlim] at g1
      intro e
      rw [if_pos e.symm] at g1
      simp at g1
theorem okFs_mem [Tab] {C : Cv} {fr : Fr} : ∀ {fs : List (Nat × AV)}, okFs C fr fs = true → ∀ p ∈ fs, p.1 < limit ∧ ∃ a, fr.get p.1 = some a ∧ cvV C a p.2 = true
  | [], _, p, hp => by simp at hp
  | q :: l, e, p, hp => by
    have e' : (@Bool.rec (fun _ => Bool) false (@Bool.rec (fun _ => Bool) false (okFs C fr l) (@Option.rec AV (fun _ => Bool) false (fun a => cvV C a q.2) (fr.get q.1))) (Nat.blt q.1 limit)) = true := e
    cases h1 : Nat.blt q.1 limit with
    | false => rw [h1] at e'; simp at e'
    | true =>
    rw [h1] at e'
    cases hg : fr.get q.1 with
    | none => rw [hg] at e'; simp at e'
    | some a =>
    rw [hg] at e'
    cases h2 : cvV C a q.2 with
    | false => simp only [h2] at e'; simp at e'
    | true =>
    simp only [h2] at e'
    simp only [List.mem_cons] at hp
    rcases hp with rfl | hp
    · exact ⟨blt_iff.1 h1, a, hg, h2⟩
    · exact okFs_mem e' p hp
variable {P : Program} {B : Kp} {w0 : World} {μ0 : M} {N0 nt : Nat} {a : Act} {w : World}
def St (T : Tab) (B : Kp) (w0 : World) (μ0 : M) (nt : Nat) (fr : Fr) (h : H) (a : Act) (w : World) : Prop := ∃ μ, Ext μ0 μ ∧ @FR T μ nt fr a ∧ @HR T B w0 μ h w
structure Base (B : Kp) (μ0 : M) (N0 : Nat) : Prop where
  names : ∀ x l, μ0 x = some l → x < N0
  res : ∀ x, B.res x → x < N0
theorem Base.none (n : Nat) : Base (Kp.below n) (fun _ => Option.none) 0 := ⟨fun x l h => by simp at h, fun x h => h.elim⟩
theorem HR.parts [Tab] {μ : M} {h : H} (r : HR B w0 μ h w) : (w.os = w0.os ∧ w.tape = w0.tape ∧ w.output = w0.output ∧ w0.heap.size ≤ w.heap.size ∧ (∀ k, B.kept k → w.heap[k]? = w0.heap[k]?) ∧ (∀ k, B.kept k → k < w0.heap.size)) ∧ Gl B w0 ∧
    (∀ x, B.res x → x < h.next ∧ μ x = none) ∧ (∀ x b, h.get x = some b → ∃ l, μ x = some l ∧ (own b = true → ¬ B.kept l.block) ∧ (own b = false → B.glob l.block) ∧ brel μ b l w) ∧
    (∀ x y b c l k, h.get x = some b → h.get y = some c → x ≠ y → own b = true → own c = true → μ x = some l → μ y = some k → l.block ≠ k.block) :=
  ⟨⟨r.below.os, r.below.tape, r.below.output, r.below.size, r.below.block, r.below.old⟩, r.below.glb, r.res, r.blk, r.sep⟩
theorem pw_all : ∀ {bs : BS}, bs.Pairwise (fun p q => p.2.1 ≠ q.2.1) → ∀ p ∈ bs, ∀ q ∈ bs, p ≠ q → p.2.1 ≠ q.2.1
  | [], _, p, hp, _, _, _ => by simp at hp
  | r :: l, h, p, hp, q, hq, hne => by
    cases h with
    | cons h1 h2 =>
      simp only [List.mem_cons] at hp hq
      rcases hp with rfl | hp
      · rcases hq with rfl | hq
        · exact absurd rfl hne
        · exact h1 q hq
      · rcases hq with rfl | hq
        · exact (h1 p hp).symm
        · exact pw_all h2 p hp q hq hne
theorem bsOf_mem : ∀ {bs : BS} {q : Nat × Blk}, q ∈ bsOf bs → ∃ o, (q.1, o, q.2) ∈ bs
  | [], q, h => by simp [bsOf] at h
  | p :: l, q, h => by
    have h' : q ∈ (p.1, p.2.2) :: bsOf l := h
    simp only [List.mem_cons] at h'
    rcases h' with rfl | h'
    · exact ⟨p.2.1, List.mem_cons_self⟩
    · obtain ⟨o, ho⟩ := bsOf_mem h'
      exact ⟨o, List.mem_cons_of_mem _ ho⟩
noncomputable def okRn (C : Cv) (rl : List (Nat × Nat)) : Bool := List.rec (motive := fun _ => Bool) true (fun p _ ih => Bool.rec false ih (Nat.blt p.1 C.N && Nat.blt p.1 limit)) rl
theorem okRn_mem [Tab] {C : Cv} : ∀ {rl : List (Nat × Nat)}, okRn C rl = true → ∀ p ∈ rl, p.1 < C.N ∧ p.1 < limit
  | [], _, p, hp => by simp at hp
  | q :: l, e, p, hp => by
    have e' : (@Bool.rec (fun _ => Bool) false (okRn C l) (Nat.blt q.1 C.N && Nat.blt q.1 limit)) = true := e
    cases h1 : (Nat.blt q.1 C.N && Nat.blt q.1 limit) with
    | false => rw [h1] at e'; simp at e'
    | true =>
    rw [h1] at e'
    simp only [Bool.and_eq_true] at h1
    simp only [List.mem_cons] at hp
    rcases hp with rfl | hp
    · exact ⟨blt_iff.1 h1.1, blt_iff.1 h1.2⟩
    · exact okRn_mem e' p hp
theorem St.weak {T T' : Tab} {fr : Fr} {h : H} {C : Cv} (hb : Base B μ0 C.N0) (hN : C.N0 ≤ C.N) {rl : List (Nat × Nat)} (hrl : C.rn = ofPairs rl) (hrk : okRn C rl = true) (hip : IpOk T T' C.ip) {vp : VP} (hvp : VpOk T T' C vp) (hgl : @Gl T B w0 → @Gl T' B w0) {fs : List (Nat × AV)} {bs : BS}
    (hf : okFs C fr fs = true) (hh : okBs C vp h bs .leaf = true) (s : St T B w0 μ0 nt fr h a w) : St T' B w0 μ0 nt (frOf fs) (hOf C.N bs) a w := by
  obtain ⟨μ, hx, f, r⟩ := s
  obtain ⟨⟨e1, e2, e3, e4, e5, e6⟩, eg, eres, eblk, esep⟩ := @HR.parts B w0 w T μ h r
  obtain ⟨hm, hpw⟩ := okBs_mem hh
  have key : ∀ x b', (hOf C.N bs).get x = some b' → ∃ o b, (x, o, b') ∈ bs ∧ x < C.N ∧ nm C.N0 C.rn o x = true ∧ h.get o = some b ∧ own b = true ∧ own b' = true ∧ ∀ l, @brel T μ b l w → @brel T' (ren C.N0 C.rn μ) b' l w := by
    intro x b' hx
    have hx' : (ofPairs (bsOf bs)).get x = some b' := by unfold hOf at hx; rw [fT_eq] at hx; exact hx
    have h1 := ofPairs_get (fun p hp => by obtain ⟨o, ho⟩ := bsOf_mem hp; exact (hm _ ho).2.2.1) hx'
    obtain ⟨o, ho⟩ := bsOf_mem h1
    have ho : (x, o, b') ∈ bs := ho
    obtain ⟨_, g1, _, g4, b, g2, g3⟩ := hm _ ho
    refine ⟨o, b, ho, g1, g4, g2, ?_⟩
    rcases g3 with g3 | ⟨i, g3, g4⟩
    · have := cvB_own g3
      exact ⟨this.1, this.2, fun l hl => cvB_sound hip g3 hl⟩
    · have := hvp _ g4
      have g3 : b' = .vec i := g3
      subst g3
      exact ⟨this.1, rfl, fun l hl => this.2 μ l w hl⟩
  refine ⟨ren C.N0 C.rn μ, fun x l hl => ?_, ⟨f.1, f.2.1, fun t v ht => ?_⟩, ⟨⟨e1, e2, e3, e4, e5, e6, hgl eg⟩, fun x hx' => ?_, fun x hr => ?_, fun x b' hb' => ?_, fun x y b c l k hx' hy hne ho ho2 hl hk => ?_⟩⟩
  · unfold ren; rw [if_pos (hb.names x l hl)]; exact hx x l hl
  · have hm := okFs_mem hf
    have := ofPairs_get (fun p hp => (hm p hp).1) ht
    obtain ⟨_, u, g1, g2⟩ := hm _ this
    obtain ⟨v', e1, e2⟩ := f.2.2 t u g1
    exact ⟨v', e1, cvV_sound hip g2 e2⟩
  · have hx2 : C.N ≤ x := by unfold hOf at hx'; rw [fT_eq] at hx'; exact hx'
    refine ⟨?_, ?_⟩
    · cases hg : (hOf C.N bs).get x with
      | none => rfl
      | some b => obtain ⟨_, _, _, h1, _⟩ := key x b hg; omega
    · unfold ren
      rw [if_neg (by omega)]
      cases hg : C.rn.get x with
      | none => rfl
      | some y =>
        rw [hrl] at hg
        have h1 := okRn_mem hrk
        have h2 := ofPairs_get (fun p hp => (h1 p hp).2) hg
        have h3 := (h1 _ h2).1
        dsimp only at h3
        omega
  · have := hb.res x hr
    refine ⟨by unfold hOf; rw [fT_eq]; show x < C.N; omega, ?_⟩
    unfold ren
    rw [if_pos this]
    exact (eres x hr).2
  · obtain ⟨o, b, _, g1, g0, g2, g3, g4, g5⟩ := key x b' hb'
    obtain ⟨l, k1, k2, _, k4⟩ := eblk o b g2
    exact ⟨l, nm_sound g0 k1, fun _ => k2 g3, fun e => (by rw [g4] at e; cases e), g5 l k4⟩
  · obtain ⟨o1, b1, m1, _, n1, g2, g3, _⟩ := key x b hx'
    obtain ⟨o2, c1, m2, _, n2, k2, k3, _⟩ := key y c hy
    have hne2 : o1 ≠ o2 := by
      intro e
      have : ∀ p ∈ bs, ∀ q ∈ bs, p ≠ q → p.2.1 ≠ q.2.1 := pw_all hpw
      exact this _ m1 _ m2 (fun e => hne (by injection e)) e
    exact esep o1 o2 b1 c1 l k g2 k2 hne2 g3 k3 (nm_of n1 hl) (nm_of n2 hk)
theorem St.run {T : Tab} {fr : Fr} {h : H} (hm : P.follows .mixedOrders = true) {K : Hand} (hK : @HandOk T P K) {n : Nat} {c : Code} {l : List (Ex × Fr × H)} (e : (@run? T P K n).run nt c fr h = some l) (s : St T B w0 μ0 nt fr h a w) :
    c.wp P (fun e' a' w' => ∃ q ∈ l, e' = q.1.to ∧ St T B w0 μ0 nt q.2.1 q.2.2 a' w') a w := by
  obtain ⟨μ, hx, f, r⟩ := s
  refine wp_mono ((@run_sound T P K hm hK n).1.run nt c fr h l e B w0 μ a w f r) ?_
  rintro e' a' w' ⟨q, hq, h1, μ', h2, h3, h4⟩
  exact ⟨q, hq, h1, μ', hx.trans h2, h3, h4⟩
noncomputable def runTo (T : Tab) (P : Program) (K : Hand) (n nt : Nat) (c : Code) (fr : Fr) (h : H) (ex : Ex) (C : Cv) (vp : VP) (fs : List (Nat × AV)) (bs : BS) : Bool :=
  Option.rec false (fun l => List.rec (motive := fun _ => Bool) true (fun q _ ih => Bool.rec false (Bool.rec false (Bool.rec false ih (okBs C vp q.2.2 bs .leaf)) (okFs C q.2.1 fs)) (exEq q.1 ex)) l) ((@run? T P K n).run nt c fr h)
theorem runTo_sound {T T' : Tab} {fr : Fr} {h : H} (hm : P.follows .mixedOrders = true) {K : Hand} (hK : @HandOk T P K) {n : Nat} {c : Code} {C : Cv} (hb : Base B μ0 C.N0) {ex : Ex} (hN : C.N0 ≤ C.N) {rl : List (Nat × Nat)} (hrl : C.rn = ofPairs rl) (hrk : okRn C rl = true) (hip : IpOk T T' C.ip) {vp : VP} (hvp : VpOk T T' C vp)
    (hgl : @Gl T B w0 → @Gl T' B w0) {fs : List (Nat × AV)} {bs : BS} (e : runTo T P K n nt c fr h ex C vp fs bs = true) (s : St T B w0 μ0 nt fr h a w) :
    c.wp P (fun e' a' w' => e' = ex.to ∧ St T' B w0 μ0 nt (frOf fs) (hOf C.N bs) a' w') a w := by
  cases hr : (@run? T P K n).run nt c fr h with
  | none => unfold runTo at e; rw [hr] at e; simp at e
  | some l =>
    unfold runTo at e
    rw [hr] at e
    refine wp_mono (s.run hm hK hr) ?_
    rintro e' a' w' ⟨q, hq, rfl, s'⟩
    have gen : ∀ (l : List (Ex × Fr × H)), (List.rec (motive := fun _ => Bool) true (fun q _ ih => Bool.rec false (Bool.rec false (Bool.rec false ih (okBs C vp q.2.2 bs .leaf)) (okFs C q.2.1 fs)) (exEq q.1 ex)) l : Bool) = true → ∀ q ∈ l, q.1 = ex ∧ okFs C q.2.1 fs = true ∧ okBs C vp q.2.2 bs .leaf = true := by
      intro l
      induction l with
      | nil => intro _ q hq; simp at hq
      | cons p l ih =>
        intro e q hq
        have e' : (@Bool.rec (fun _ => Bool) false (@Bool.rec (fun _ => Bool) false (@Bool.rec (fun _ => Bool) false (List.rec (motive := fun _ => Bool) true (fun q _ ih => Bool.rec false (Bool.rec false (Bool.rec false ih (okBs C vp q.2.2 bs .leaf)) (okFs C q.2.1 fs)) (exEq q.1 ex)) l) (okBs C vp p.2.2 bs .leaf)) (okFs C p.2.1 fs)) (exEq p.1 ex)) = true := e
        cases h1 : exEq p.1 ex with
        | false => rw [h1] at e'; simp at e'
        | true =>
        cases h2 : okFs C p.2.1 fs with
        | false => rw [h1, h2] at e'; simp at e'
        | true =>
        cases h3 : okBs C vp p.2.2 bs .leaf with
        | false => rw [h1, h2, h3] at e'; simp at e'
        | true =>
        rw [h1, h2, h3] at e'
        simp only [List.mem_cons] at hq
        rcases hq with rfl | hq
        · exact ⟨exEq_eq h1, h2, h3⟩
        · exact ih e' q hq
    obtain ⟨g1, g2, g3⟩ := gen l e q hq
    exact ⟨by rw [g1], s'.weak hb hN hrl hrk hip hvp hgl g2 g3⟩
noncomputable def runTrue (T : Tab) (P : Program) (K : Hand) (n : Nat) (fn : Func) (c : Code) (fr : Fr) (h : H) : Bool :=
  Option.rec false (fun l => List.rec (motive := fun _ => Bool) true (fun q _ ih => Bool.rec false ih (isT (Option.rec none (fun p => some p.1) (leaves P fn q.1 q.2.1 q.2.2)))) l) ((@run? T P K n).run fn.ntmps c fr h)
def Yes (P : Program) (fn : Func) (B : Kp) (w0 : World) (e' : Exit) (a' : Act) (w' : World) : Prop :=
  (e' = .normal ∨ e' = .ret) ∧ a'.defers = [] ∧ (w'.os = w0.os ∧ w'.tape = w0.tape ∧ w'.output = w0.output ∧ w0.heap.size ≤ w'.heap.size ∧ ∀ k, B.kept k → w'.heap[k]? = w0.heap[k]?) ∧ (results fn a'.tmps).run P w' = .ok (.bool true) w'
theorem isT_eq {o : Option AV} (h : isT o = true) : o = some (.bool true) := by
  unfold isT at h
  split at h
  · rfl
  · simp at h
theorem runTrue_sound [T : Tab] {fr : Fr} {h : H} (hm : P.follows .mixedOrders = true) {K : Hand} (hK : HandOk P K) {n : Nat} {fn : Func} {c : Code} (e : runTrue T P K n fn c fr h = true) (s : St T B w0 μ0 fn.ntmps fr h a w) :
    c.wp P (Yes P fn B w0) a w := by
  cases hr : (run? P K n).run fn.ntmps c fr h with
  | none => unfold runTrue at e; rw [hr] at e; simp at e
  | some l =>
    unfold runTrue at e
    rw [hr] at e
    refine wp_mono (s.run hm hK hr) ?_
    rintro e' a' w' ⟨q, hq, rfl, μ, _, f, r⟩
    have gen : ∀ (l : List (Ex × Fr × H)), (List.rec (motive := fun _ => Bool) true (fun q _ ih => Bool.rec false ih (isT (Option.rec none (fun p => some p.1) (leaves P fn q.1 q.2.1 q.2.2)))) l : Bool) = true → ∀ q ∈ l, ∃ h', leaves P fn q.1 q.2.1 q.2.2 = some (.bool true, h') := by
      intro l
      induction l with
      | nil => intro _ q hq; simp at hq
      | cons p l ih =>
        intro e q hq
        have e' : (@Bool.rec (fun _ => Bool) false (List.rec (motive := fun _ => Bool) true (fun q _ ih => Bool.rec false ih (isT (Option.rec none (fun p => some p.1) (leaves P fn q.1 q.2.1 q.2.2)))) l) (isT (Option.rec none (fun p => some p.1) (leaves P fn p.1 p.2.1 p.2.2)))) = true := e
        cases h1 : isT (Option.rec none (fun p => some p.1) (leaves P fn p.1 p.2.1 p.2.2)) with
        | false => rw [h1] at e'; simp at e'
        | true =>
        rw [h1] at e'
        simp only [List.mem_cons] at hq
        rcases hq with rfl | hq
        · have := isT_eq h1
          cases hl : leaves P fn q.1 q.2.1 q.2.2 with
          | none => rw [hl] at this; simp at this
          | some u =>
            rw [hl] at this
            simp only [Option.some.injEq] at this
            exact ⟨u.2, by rw [← this]⟩
        · exact ih e' q hq
    obtain ⟨h', hl⟩ := gen l e q hq
    obtain ⟨⟨e1, e2, e3, e4, e5, _⟩, _⟩ := r.parts
    obtain ⟨ex, fr1, h1⟩ := q
    cases ex with
    | normal =>
      obtain ⟨v, hv, e⟩ := ob_some (show ob _ _ = _ from hl)
      cases e
      obtain ⟨v', k1, k2⟩ := results_sound (P := P) f r hv
      simp only [vrel] at k2
      subst k2
      exact ⟨.inl rfl, f.2.1, ⟨e1, e2, e3, e4, e5⟩, k1⟩
    | ret =>
      obtain ⟨v, hv, e⟩ := ob_some (show ob _ _ = _ from hl)
      cases e
      obtain ⟨v', k1, k2⟩ := results_sound (P := P) f r hv
      simp only [vrel] at k2
      subst k2
      exact ⟨.inr rfl, f.2.1, ⟨e1, e2, e3, e4, e5⟩, k1⟩
    | exit id => simp [leaves] at hl
theorem St.start [τ : Tab] {args : List AV} {args' : Array Value} {n : Nat} (w : World) (hg : Gl (Kp.below w.heap.size) w) (ha : vrels (fun _ => none) args args'.toList) (hl : args.length ≤ n) (hlim : args.length < limit) :
    St τ (Kp.below w.heap.size) w (fun _ => none) n (T.ofList 0 .leaf args) H.empty { tmps := args' ++ Array.replicate (n - args'.size) undef, defers := [] } w := by
  refine ⟨fun _ => none, Ext.refl _, ⟨?_, rfl, fun t v ht => ?_⟩, HR.start w hg⟩
  · have hlen : args'.size = args.length := by rw [← Array.length_toList, vrels_length ha]
    simp; omega
  · have hlen : args'.size = args.length := by rw [← Array.length_toList, vrels_length ha]
    rw [T.get_ofList _ _ _ _ (by unfold limit at hlim; omega)] at ht
    split at ht
    · rename_i hc
      simp only [Nat.sub_zero] at ht
      obtain ⟨v', g1, g2⟩ := vrels_get ha ht
      refine ⟨v', ?_, g2⟩
      rw [Array.getElem?_append_left (by omega), ← Array.getElem?_toList]
      exact g1
    · simp at ht
theorem yes_calls {f : FuncId} {fn : Func} {body : Code} {args' : Array Value} (hf : P.funcs[f]? = some fn) (hb : fn.body = some body) (w : World)
    (h : body.wp P (Yes P fn (Kp.below w.heap.size) w) { tmps := args' ++ Array.replicate (fn.ntmps - args'.size) undef, defers := [] } w) :
    Calls P f args' w fun e w' => e = .returned (.bool true) ∧ Below w.heap.size w w' := by
  refine calls_of_wp hf hb (wp_mono h ?_)
  rintro e' a' w' ⟨he, hd, ⟨e1, e2, e3, e4, e5⟩, hr⟩
  rcases he with rfl | rfl
  · exact ⟨hd, .bool true, hr, rfl, ⟨e1, e2, e3, e4, e5⟩⟩
  · exact ⟨hd, .bool true, hr, rfl, ⟨e1, e2, e3, e4, e5⟩⟩
def firstn : Nat → Code → Code
  | n + 1, .seq a b => .seq a (firstn n b)
  | _, _ => .skip
def restn : Nat → Code → Code
  | n + 1, .seq _ b => restn n b
  | _, c => c
theorem split_sound [Tab] (hm : P.follows .mixedOrders = true) {K : Hand} (hK : HandOk P K) {Q : Exit → Act → World → Prop} : ∀ (n m : Nat) (c : Code) (fr : Fr) (h : H) (l : List (Ex × Fr × H)) (μ : M) (a : Act) (w : World),
    (run? P K m).run nt (firstn n c) fr h = some l → FR μ nt fr a → HR B w0 μ h w →
    (∀ q ∈ l, ∀ e' a' w', Post B w0 μ nt q.1 q.2.1 q.2.2 e' a' w' → match q.1 with
      | .normal => (restn n c).wp P Q a' w'
      | e => Q e.to a' w') → c.wp P Q a w := by
  intro n
  induction n with
  | zero =>
    intro m c fr h l μ a w e f r hq
    cases m with
    | zero => have e' : (none : Out) = some l := e; cases e'
    | succ m =>
      have e' : some [(Ex.normal, fr, h)] = some l := by cases c <;> exact e
      cases e'
      have := hq _ (List.mem_singleton.2 rfl) .normal a w ⟨rfl, μ, Ext.refl _, f, r⟩
      cases c <;> exact this
  | succ n ih =>
    intro m c fr h l μ a w e f r hq
    cases m with
    | zero => have e' : (none : Out) = some l := e; cases e'
    | succ m =>
      cases c with
      | seq x y =>
        have e' : sSeq x (firstn n y) P (run? P K m) nt fr h = some l := e
        obtain ⟨l1, hl1, hsub⟩ := obL_some e'
        refine wp_seq (wp_mono ((run_sound hm hK m).1.run nt x fr h l1 hl1 B w0 μ a w f r) ?_)
        rintro e' a' w' ⟨⟨e1, fr1, h1⟩, hmem, rfl, μ1, g1, g2, g3⟩
        obtain ⟨l2, hl2, hs2⟩ := hsub _ hmem
        have hl2 : seqD (firstn n y) (run? P K m) nt e1 fr1 h1 = some l2 := hl2
        cases e1 with
        | normal =>
          have hl3 : (run? P K m).run nt (firstn n y) fr1 h1 = some l2 := hl2
          refine ih m y fr1 h1 l2 μ1 a' w' hl3 g2 g3 fun q hq2 e2 a2 w2 p2 => ?_
          exact hq q (hs2 q hq2) e2 a2 w2 (p2.up g1)
        | exit id =>
          have hl3 : some [(Ex.exit id, fr1, h1)] = some l2 := hl2
          cases hl3
          exact hq _ (hs2 _ (List.mem_singleton.2 rfl)) (.exit id) a' w' ⟨rfl, μ1, g1, g2, g3⟩
        | ret =>
          have hl3 : some [(Ex.ret, fr1, h1)] = some l2 := hl2
          cases hl3
          exact hq _ (hs2 _ (List.mem_singleton.2 rfl)) .ret a' w' ⟨rfl, μ1, g1, g2, g3⟩
      | _ =>
        have e' : some [(Ex.normal, fr, h)] = some l := e
        cases e'
        exact hq _ (List.mem_singleton.2 rfl) .normal a w ⟨rfl, μ, Ext.refl _, f, r⟩
noncomputable def okOuts (C : Cv) (vp : VP) (ex : Ex) (fs : List (Nat × AV)) (bs : BS) (l : List (Ex × Fr × H)) : Bool :=
  List.rec (motive := fun _ => Bool) true (fun q _ ih => Bool.rec false (Bool.rec false (Bool.rec false ih (okBs C vp q.2.2 bs .leaf)) (okFs C q.2.1 fs)) (exEq q.1 ex)) l
theorem okOuts_mem [Tab] {C : Cv} {vp : VP} {ex : Ex} {fs : List (Nat × AV)} {bs : BS} : ∀ {l : List (Ex × Fr × H)}, okOuts C vp ex fs bs l = true → ∀ q ∈ l, q.1 = ex ∧ okFs C q.2.1 fs = true ∧ okBs C vp q.2.2 bs .leaf = true
  | [], _, q, hq => by simp at hq
  | p :: l, e, q, hq => by
    have e' : (@Bool.rec (fun _ => Bool) false (@Bool.rec (fun _ => Bool) false (@Bool.rec (fun _ => Bool) false (okOuts C vp ex fs bs l) (okBs C vp p.2.2 bs .leaf)) (okFs C p.2.1 fs)) (exEq p.1 ex)) = true := e
    cases h1 : exEq p.1 ex with
    | false => rw [h1] at e'; simp at e'
    | true =>
    cases h2 : okFs C p.2.1 fs with
    | false => rw [h1, h2] at e'; simp at e'
    | true =>
    cases h3 : okBs C vp p.2.2 bs .leaf with
    | false => rw [h1, h2, h3] at e'; simp at e'
    | true =>
    rw [h1, h2, h3] at e'
    simp only [List.mem_cons] at hq
    rcases hq with rfl | hq
    · exact ⟨exEq_eq h1, h2, h3⟩
    · exact okOuts_mem e' q hq
noncomputable def firstTo (T : Tab) (P : Program) (K : Hand) (m nt n : Nat) (c : Code) (fr : Fr) (h : H) (C : Cv) (vp : VP) (fs : List (Nat × AV)) (bs : BS) : Bool :=
  Option.rec false (okOuts C vp .normal fs bs) ((@run? T P K m).run nt (firstn n c) fr h)
theorem firstTo_run [T : Tab] {fr : Fr} {h : H} (hm : P.follows .mixedOrders = true) {K : Hand} (hK : HandOk P K) {m n : Nat} {c : Code} {C : Cv} {vp : VP} {fs : List (Nat × AV)} {bs : BS} (e : firstTo T P K m nt n c fr h C vp fs bs = true) (s : St T B w0 μ0 nt fr h a w) {Q : Exit → Act → World → Prop}
    (hQ : ∀ fr' h' a' w', okFs C fr' fs = true → okBs C vp h' bs .leaf = true → St T B w0 μ0 nt fr' h' a' w' → (restn n c).wp P Q a' w') : c.wp P Q a w := by
  cases hr : (run? P K m).run nt (firstn n c) fr h with
  | none => unfold firstTo at e; rw [hr] at e; simp at e
  | some l =>
    unfold firstTo at e
    rw [hr] at e
    have e : okOuts C vp .normal fs bs l = true := e
    obtain ⟨μ, hx, f, r⟩ := s
    refine split_sound hm hK n m c fr h l μ a w hr f r fun q hq e' a' w' p => ?_
    obtain ⟨g1, g2, g3⟩ := okOuts_mem e q hq
    obtain ⟨_, μ', k1, k2, k3⟩ := p
    rw [g1]
    exact hQ q.2.1 q.2.2 a' w' g2 g3 ⟨μ', hx.trans k1, k2, k3⟩
theorem firstTo_sound {T T' : Tab} {fr : Fr} {h : H} (hm : P.follows .mixedOrders = true) {K : Hand} (hK : @HandOk T P K) {m n : Nat} {c : Code} {C : Cv} (hb : Base B μ0 C.N0) (hN : C.N0 ≤ C.N) {rl : List (Nat × Nat)} (hrl : C.rn = ofPairs rl) (hrk : okRn C rl = true) (hip : IpOk T T' C.ip) {vp : VP} (hvp : VpOk T T' C vp)
    (hgl : @Gl T B w0 → @Gl T' B w0) {fs : List (Nat × AV)} {bs : BS} (e : firstTo T P K m nt n c fr h C vp fs bs = true) (s : St T B w0 μ0 nt fr h a w) {Q : Exit → Act → World → Prop}
    (hQ : ∀ a' w', St T' B w0 μ0 nt (frOf fs) (hOf C.N bs) a' w' → (restn n c).wp P Q a' w') : c.wp P Q a w :=
  @firstTo_run P B w0 μ0 nt a w T fr h hm K hK m n c C vp fs bs e s Q (fun fr' h' a' w' hf hh s' => hQ a' w' (s'.weak hb hN hrl hrk hip hvp hgl hf hh))
theorem rounds_of {c : Code} {Q : Exit → Act → World → Prop} {n : Nat} (h : c.wp P (fun e a' w' => match e with
    | .normal => Code.rounds P c Q n a' w'
    | e => Q e a' w') a w) : Code.rounds P c Q (n + 1) a w := by
  show c.wp P (Exit.then (Code.rounds P c Q n) Q) a w
  refine wp_mono h fun e a' w' p => ?_
  cases e <;> exact p
end Go.X
set_option linter.unusedVariables false
set_option linter.unusedSimpArgs false
set_option linter.unusedSectionVars false
namespace Go.X
open Go.RowKit
structure SameTab (T T' : Tab) : Prop where
  rv : T.rv = T'.rv
  iv : T.iv = T'.iv
  str : T.str = T'.str
  vv : T.vv = T'.vv
  vk : T.vk = T'.vk
  gv : T.gv = T'.gv
  fb : T.fb = T'.fb
  fcap : T.fcap = T'.fcap
  fv : T.fv = T'.fv
mutual
theorem vrel.tab {T T' : Tab} (e : SameTab T T') {μ : M} : ∀ (a : AV) (v : Value), @vrel T μ a v → @vrel T' μ a v
  | .bool _, _, h => by simpa [vrel] using h
  | .int _ _, _, h => by simpa [vrel] using h
  | .str _ _, _, h => by simpa [vrel] using h
  | .nilp, _, h => by simpa [vrel] using h
  | .ptr x o, _, h => by simpa [vrel] using h
  | .nils, _, h => by simpa [vrel] using h
  | .sl x o n c, _, h => by simpa [vrel] using h
  | .so x o n z, _, h => by simpa [vrel] using h
  | .nilm, _, h => by simpa [vrel] using h
  | .map x, _, h => by simpa [vrel] using h
  | .fn f a b, _, h => by
    simp only [vrel] at h ⊢
    obtain ⟨as, bs, h1, h2, h3⟩ := h
    exact ⟨as, bs, h1, vrels.tab e a as h2, vrels.tab e b bs h3⟩
  | .nilf, _, h => by simpa [vrel] using h
  | .iface t x, _, h => by simp only [vrel] at h ⊢; obtain ⟨y, h1, h2⟩ := h; exact ⟨y, h1, vrel.tab e x y h2⟩
  | .nili, _, h => by simpa [vrel] using h
  | .agg l, _, h => by simp only [vrel] at h ⊢; obtain ⟨cs, h1, h2⟩ := h; exact ⟨cs, h1, vrels.tab e l cs h2⟩
  | .tup l, _, h => by simp only [vrel] at h ⊢; obtain ⟨cs, h1, h2⟩ := h; exact ⟨cs, h1, vrels.tab e l cs h2⟩
  | .ostr _, _, h => by simp only [vrel] at h ⊢; rw [← e.str]; exact h
  | .rw _, _, h => by simp only [vrel] at h ⊢; rw [← e.rv]; exact h
  | .gp _ _, _, h => by simpa [vrel] using h
  | .oi _, _, h => by simp only [vrel] at h ⊢; rw [← e.iv]; exact h
  | .es, _, h => by simpa [vrel] using h
  | .ov _ _ _, _, h => by simp only [vrel] at h ⊢; rw [← e.iv]; exact h
  | .op _ _ _ _, _, h => by simp only [vrel] at h ⊢; rw [← e.iv]; exact h
  | .fo _ _ _, _, h => by simp only [vrel] at h ⊢; rw [← e.iv, ← e.fb, ← e.fcap]; exact h
  | .fp _ _ _ _, _, h => by simp only [vrel] at h ⊢; rw [← e.iv, ← e.fb]; exact h
theorem vrels.tab {T T' : Tab} (e : SameTab T T') {μ : M} : ∀ (a : List AV) (v : List Value), @vrels T μ a v → @vrels T' μ a v
  | [], _, h => by simpa [vrels] using h
  | a :: l, _, h => by
    simp only [vrels] at h ⊢
    obtain ⟨v, r, h1, h2, h3⟩ := h
    exact ⟨v, r, h1, vrel.tab e a v h2, vrels.tab e l r h3⟩
end
theorem esrel.tab {T T' : Tab} (e : SameTab T T') {μ : M} : ∀ {a : List (AV × AV × Nat)} {v : List MapEntry}, @esrel T μ a v → @esrel T' μ a v
  | [], _, h => h
  | a :: l, _, h => by
    simp only [esrel] at h ⊢
    obtain ⟨v, r, h1, h2, h3, h4, h5⟩ := h
    exact ⟨v, r, h1, vrel.tab e _ _ h2, vrel.tab e _ _ h3, h4, esrel.tab e h5⟩
theorem brel.tab {T T' : Tab} (e : SameTab T T') {μ : M} {b : Blk} {l : Loc} {w : World} (h : @brel T μ b l w) : @brel T' μ b l w := by
  cases b with
  | cells n p z t => obtain ⟨arr, el, fz, h1, h2, h3, h4, h5, h6⟩ := h; exact ⟨arr, el, fz, h1, h2, h3, h4, h5, fun i a hi ha => let ⟨v, g1, g2⟩ := h6 i a hi ha; ⟨v, g1, vrel.tab e _ _ g2⟩⟩
  | glob n z t => obtain ⟨arr, el, fz, h1, h2⟩ := h; exact ⟨arr, el, fz, h1, fun i a hi ha => let ⟨v, g1, g2⟩ := h2 i a hi ha; ⟨v, g1, vrel.tab e _ _ g2⟩⟩
  | map es c => obtain ⟨es', h1, h2⟩ := h; exact ⟨es', h1, esrel.tab e h2⟩
  | siter n c pos => exact h
  | miter m since seen st =>
    cases m with
    | none => exact h
    | some x => exact h
  | vec i =>
    obtain ⟨arr, el, fz, h1, h2, h3, h4, h5⟩ := h
    exact ⟨arr, el, fz, h1, h2, h3, by rw [← e.vk]; exact h4, fun m a ha => let ⟨v, g1, g2⟩ := h5 m a (by rw [e.vv]; exact ha); ⟨v, g1, vrel.tab e _ _ g2⟩⟩
variable {P : Program} {B : Kp} {w0 : World} {μ0 : M} {nt : Nat} {a : Act} {w : World}
theorem Gl.tab {T T' : Tab} (e : SameTab T T') (h : @Gl T B w0) : @Gl T' B w0 := by
  refine ⟨fun g o a hg => ?_, fun i m a hg => ?_⟩
  · obtain ⟨h1, v, h2, h3, h4⟩ := h.1 g o a (by rw [e.gv]; exact hg)
    exact ⟨h1, v, h2, vrel.tab e _ _ h3, fun k => h4 (by rw [e.gv]; exact k)⟩
  · obtain ⟨h1, v, h2, h3⟩ := h.2 i m a (by rw [e.fv]; exact hg)
    rw [← e.fb]
    exact ⟨h1, v, h2, vrel.tab e _ _ h3⟩
theorem St.same {T T' : Tab} (e : SameTab T T') {fr : Fr} {h : H} (s : St T B w0 μ0 nt fr h a w) : St T' B w0 μ0 nt fr h a w := by
  obtain ⟨μ, hx, f, r⟩ := s
  have hf := @HR.fresh T B w0 μ h w r
  obtain ⟨⟨e1, e2, e3, e4, e5, e6⟩, eg, eres, eblk, esep⟩ := @HR.parts B w0 w T μ h r
  refine ⟨μ, hx, ⟨f.1, f.2.1, fun t v ht => ?_⟩, ⟨⟨e1, e2, e3, e4, e5, e6, Gl.tab e eg⟩, hf, eres, fun x b hb => ?_, esep⟩⟩
  · obtain ⟨v', g1, g2⟩ := f.2.2 t v ht
    exact ⟨v', g1, vrel.tab e _ _ g2⟩
  · obtain ⟨l, g1, g2, g3, g4⟩ := eblk x b hb
    exact ⟨l, g1, g2, g3, brel.tab e g4⟩
abbrev ivTab (iv : Nat → IntKind × Int) : Tab where
  str := fun _ => default
  ne := fun _ => []
  ok := fun _ p h => by simp at h
  gv := fun _ _ => none
  iv := iv
  rv := fun _ => .nilIface
  ib := []
  ibok := fun _ h => by simp at h
  ic := []
  icok := fun _ h => by simp at h
  iu := []
  iuok := fun _ h => by simp at h
  vv := fun _ _ => none
  vk := fun _ => 0
  vvp := fun _ _ a h => by simp at h
  va := []
  vaok := fun _ h => by simp at h
  vz := []
  vzok := fun _ h => by simp at h
  vn := []
  vnok := fun _ h => by simp at h
  vc := []
  vcok := fun _ h => by simp at h
  fb := fun _ => (0, 0)
  fcap := fun _ => 0
  fv := fun _ _ => none
  fl := []
  flok := fun _ h => by simp at h
  vl := []
  vlok := fun _ h => by simp at h
  vs := []
  vsok := fun _ h => by simp at h
abbrev BRow := Nat × AV × AV × AV
def IbOk (iv : Nat → IntKind × Int) (r : BRow) : Prop := ∀ op, bcode op = r.1 → ∃ k a k' b v', denI iv r.2.1 = some (k, a) ∧ denI iv r.2.2.1 = some (k', b) ∧ intBin op k a k' b = some v' ∧ outI iv r.2.2.2 v'
variable {iv : Nat → IntKind × Int}
theorem ibNil : ∀ r ∈ ([] : List BRow), IbOk iv r := fun r h => by simp at h
theorem ibCons {r : BRow} {l : List BRow} (h : IbOk iv r) (k : ∀ r ∈ l, IbOk iv r) : ∀ q ∈ r :: l, IbOk iv q := fun q hq => by
  simp only [List.mem_cons] at hq
  rcases hq with rfl | hq
  · exact h
  · exact k q hq
theorem wrapF_is [Tab] (k : IntKind) (n : Int) : wrapF k n = k.wrap n := wrapF_eq k n
theorem wrap64 {n : Int} (h1 : -9223372036854775808 ≤ n) (h2 : n ≤ 9223372036854775807) : IntKind.i64.wrap n = n := by
  unfold IntKind.wrap IntKind.bits IntKind.signed
  simp only [Bool.true_and, decide_eq_true_eq]
  split <;> omega
theorem ibAdd [Tab] {x y z : AV} {a b c : Int} (hx : denI iv x = some (.i64, a)) (hy : denI iv y = some (.i64, b)) (hz : denI iv z = some (.i64, c)) (h : a + b = c) (h1 : -9223372036854775808 ≤ c) (h2 : c ≤ 9223372036854775807) : IbOk iv (0, x, y, z) := by
  intro op hop
  have : op = .add := by cases op <;> simp [bcode] at hop; rfl
  subst this
  refine ⟨.i64, a, .i64, b, _, hx, hy, rfl, ?_⟩
  show denI iv z = some (.i64, wrapF .i64 (Int.add a b))
  rw [wrapF_eq, show Int.add a b = c from h, wrap64 h1 h2]; exact hz
theorem ibSub [Tab] {x y z : AV} {a b c : Int} (hx : denI iv x = some (.i64, a)) (hy : denI iv y = some (.i64, b)) (hz : denI iv z = some (.i64, c)) (h : a - b = c) (h1 : -9223372036854775808 ≤ c) (h2 : c ≤ 9223372036854775807) : IbOk iv (1, x, y, z) := by
  intro op hop
  have : op = .sub := by cases op <;> simp [bcode] at hop; rfl
  subst this
  refine ⟨.i64, a, .i64, b, _, hx, hy, rfl, ?_⟩
  show denI iv z = some (.i64, wrapF .i64 (Int.sub a b))
  rw [wrapF_eq, show Int.sub a b = c from h, wrap64 h1 h2]; exact hz
theorem ibMul [Tab] {x y z : AV} {a b c : Int} (hx : denI iv x = some (.i64, a)) (hy : denI iv y = some (.i64, b)) (hz : denI iv z = some (.i64, c)) (h : a * b = c) (h1 : -9223372036854775808 ≤ c) (h2 : c ≤ 9223372036854775807) : IbOk iv (2, x, y, z) := by
  intro op hop
  have : op = .mul := by cases op <;> simp [bcode] at hop; rfl
  subst this
  refine ⟨.i64, a, .i64, b, _, hx, hy, rfl, ?_⟩
  show denI iv z = some (.i64, wrapF .i64 (Int.mul a b))
  rw [wrapF_eq, show Int.mul a b = c from h, wrap64 h1 h2]; exact hz
theorem ibQuo [Tab] {x y z : AV} {a b c : Int} (hx : denI iv x = some (.i64, a)) (hy : denI iv y = some (.i64, b)) (hz : denI iv z = some (.i64, c)) (h0 : b ≠ 0) (h : a.tdiv b = c) (h1 : -9223372036854775808 ≤ c) (h2 : c ≤ 9223372036854775807) : IbOk iv (3, x, y, z) := by
  intro op hop
  have : op = .quo := by cases op <;> simp [bcode] at hop; rfl
  subst this
  refine ⟨.i64, a, .i64, b, .int .i64 (wrapF .i64 (a.tdiv b)), hx, hy, ?_, ?_⟩
  · show (if b = 0 then none else some (AV.int .i64 (wrapF .i64 (a.tdiv b)))) = _
    rw [if_neg h0]
  show denI iv z = some (.i64, wrapF .i64 (a.tdiv b))
  rw [wrapF_eq, h, wrap64 h1 h2]; exact hz
theorem ibLt {x y : AV} {a b : Int} {t : Bool} (hx : denI iv x = some (.i64, a)) (hy : denI iv y = some (.i64, b)) (h : decide (a < b) = t) : IbOk iv (11, x, y, .bool t) := by
  intro op hop
  have : op = .lss := by cases op <;> simp [bcode] at hop; rfl
  subst this
  refine ⟨.i64, a, .i64, b, _, hx, hy, rfl, ?_⟩
  show AV.bool t = .bool (decide (a < b))
  rw [h]
theorem ibLe {x y : AV} {a b : Int} {t : Bool} (hx : denI iv x = some (.i64, a)) (hy : denI iv y = some (.i64, b)) (h : decide (a ≤ b) = t) : IbOk iv (12, x, y, .bool t) := by
  intro op hop
  have : op = .leq := by cases op <;> simp [bcode] at hop; rfl
  subst this
  refine ⟨.i64, a, .i64, b, _, hx, hy, rfl, ?_⟩
  show AV.bool t = .bool (decide (a ≤ b))
  rw [h]
theorem ibGt {x y : AV} {a b : Int} {t : Bool} (hx : denI iv x = some (.i64, a)) (hy : denI iv y = some (.i64, b)) (h : decide (a > b) = t) : IbOk iv (13, x, y, .bool t) := by
  intro op hop
  have : op = .gtr := by cases op <;> simp [bcode] at hop; rfl
  subst this
  refine ⟨.i64, a, .i64, b, _, hx, hy, rfl, ?_⟩
  show AV.bool t = .bool (decide (a > b))
  rw [h]
theorem ibGe {x y : AV} {a b : Int} {t : Bool} (hx : denI iv x = some (.i64, a)) (hy : denI iv y = some (.i64, b)) (h : decide (a ≥ b) = t) : IbOk iv (14, x, y, .bool t) := by
  intro op hop
  have : op = .geq := by cases op <;> simp [bcode] at hop; rfl
  subst this
  refine ⟨.i64, a, .i64, b, _, hx, hy, rfl, ?_⟩
  show AV.bool t = .bool (decide (a ≥ b))
  rw [h]
theorem ibEq {x y : AV} {a b : Int} {t : Bool} (hx : denI iv x = some (.i64, a)) (hy : denI iv y = some (.i64, b)) (h : decide (a = b) = t) : IbOk iv (9, x, y, .bool t) := by
  intro op hop
  have : op = .eql := by cases op <;> simp [bcode] at hop; rfl
  subst this
  refine ⟨.i64, a, .i64, b, _, hx, hy, rfl, ?_⟩
  show AV.bool t = .bool (a == b)
  rw [← h]; congr 1
theorem ibNe {x y : AV} {a b : Int} {t : Bool} (hx : denI iv x = some (.i64, a)) (hy : denI iv y = some (.i64, b)) (h : decide (a = b) = !t) : IbOk iv (10, x, y, .bool t) := by
  intro op hop
  have : op = .neq := by cases op <;> simp [bcode] at hop; rfl
  subst this
  refine ⟨.i64, a, .i64, b, _, hx, hy, rfl, ?_⟩
  show AV.bool t = .bool (a != b)
  have : (a == b) = decide (a = b) := rfl
  rw [bne, this, h]; simp
theorem ipNil {T T' : Tab} : IpOk T T' [] := fun p h => by simp at h
theorem ipCons {T T' : Tab} {p : AV × Nat} {l : IP} (h : IpOk1 T T' p) (k : IpOk T T' l) : IpOk T T' (p :: l) := fun q hq => by
  simp only [List.mem_cons] at hq
  rcases hq with rfl | hq
  · exact h
  · exact k q hq
theorem vpNil {T T' : Tab} {C : Cv} : VpOk T T' C [] := fun p h => by simp at h
theorem vpCons {T T' : Tab} {C : Cv} {p : Nat × Blk × Nat} {l : VP} (h : own p.2.1 = true ∧ ∀ μ l w, @brel T μ p.2.1 l w → @brel T' (ren C.N0 C.rn μ) (.vec p.2.2) l w) (k : VpOk T T' C l) : VpOk T T' C (p :: l) := fun q hq => by
  simp only [List.mem_cons] at hq
  rcases hq with rfl | hq
  · exact h
  · exact k q hq
structure VRows (iv : Nat → IntKind × Int) (vv : Nat → Nat → Option AV) (vk : Nat → Nat) where
  vvp : ∀ i m a, vv i m = some a → vplain a = true
  ib : List BRow
  ibok : ∀ r ∈ ib, IbOk iv r
  ic : List (IntKind × AV × AV) := []
  icok : ∀ r ∈ ic, ∃ k n, denI iv r.2.1 = some (k, n) ∧ denI iv r.2.2 = some (r.1, r.1.wrap n) := by exact fun _ h => nomatch h
  va : List VA := []
  vaok : ∀ r ∈ va, isLen (iv r.j) ∧ isLen (iv r.j') ∧ (iv r.j').2.toNat * r.z = (iv r.j).2.toNat * r.z + r.src.length ∧ (iv r.j').2.toNat < limit ∧ vk r.i' ≤ (iv r.j').2.toNat * r.z ∧
    ∀ m a, vv r.i' m = some a → ∃ b, (if m < (iv r.j).2.toNat * r.z then vv r.i m else r.src[m - (iv r.j).2.toNat * r.z]?) = some b ∧ sameAV iv b a := by exact fun _ h => nomatch h
  vz : List VZ := []
  vzok : ∀ r ∈ vz, isLen (iv r.j) ∧ isLen (iv r.k) ∧ isLen (iv r.j') ∧ (iv r.j').2 = (iv r.j).2 + (iv r.k).2 ∧ (iv r.j').2.toNat < limit ∧ vk r.i' ≤ (iv r.j').2.toNat * r.z ∧
    ∀ m a, vv r.i' m = some a → m < (iv r.j').2.toNat * r.z ∧ ∃ b, (if m < (iv r.j).2.toNat * r.z then vv r.i m else r.zc[(m - (iv r.j).2.toNat * r.z) % r.zc.length]?) = some b ∧ sameAV iv b a := by exact fun _ h => nomatch h
  vn : List VN := []
  vnok : ∀ r ∈ vn, isLen (iv r.k) ∧ 0 < (iv r.k).2 ∧ iv r.j' = iv r.k ∧ (iv r.k).2.toNat < limit ∧ vk r.i' ≤ (iv r.k).2.toNat * r.z ∧
    ∀ m a, vv r.i' m = some a → m < (iv r.k).2.toNat * r.z ∧ ∃ b, r.zc[m % r.zc.length]? = some b ∧ sameAV iv b a := by exact fun _ h => nomatch h
  vc : List (Nat × Nat) := []
  vcok : ∀ p ∈ vc, iv p.2 = (.i64, (p.1 : Int)) := by exact fun _ h => nomatch h
  vl : List VL := []
  vlok : ∀ r ∈ vl, isLen (iv r.k) ∧ ∀ m b, r.l[m]? = some b → ∃ a, vv r.i ((iv r.k).2.toNat * r.z + r.f + m) = some a ∧ sameAV iv a b := by exact fun _ h => nomatch h
  vs : List VS := []
  vsok : ∀ r ∈ vs, isLen (iv r.k) ∧ (iv r.k).2.toNat * r.z + r.f + r.l.length ≤ vk r.i ∧ vk r.i' ≤ vk r.i ∧
    ∀ m a, vv r.i' m = some a → ∃ b, (if (iv r.k).2.toNat * r.z + r.f ≤ m ∧ m < (iv r.k).2.toNat * r.z + r.f + r.l.length then r.l[m - ((iv r.k).2.toNat * r.z + r.f)]? else vv r.i m) = some b ∧ sameAV iv b a := by exact fun _ h => nomatch h
abbrev VRows.tab {iv : Nat → IntKind × Int} {vv : Nat → Nat → Option AV} {vk : Nat → Nat} (R : VRows iv vv vk) : Tab where
  str := fun _ => default
  ne := fun _ => []
  ok := fun _ p h => by simp at h
  gv := fun _ _ => none
  iv := iv
  rv := fun _ => .nilIface
  ib := R.ib
  ibok := R.ibok
  ic := R.ic
  icok := R.icok
  iu := []
  iuok := fun _ h => by simp at h
  vv := vv
  vk := vk
  vvp := R.vvp
  va := R.va
  vaok := R.vaok
  vz := R.vz
  vzok := R.vzok
  vn := R.vn
  vnok := R.vnok
  vc := R.vc
  vcok := R.vcok
  fb := fun _ => (0, 0)
  fcap := fun _ => 0
  fv := fun _ _ => none
  fl := []
  flok := fun _ h => by simp at h
  vl := R.vl
  vlok := R.vlok
  vs := R.vs
  vsok := R.vsok
abbrev bare (iv : Nat → IntKind × Int) (vv : Nat → Nat → Option AV) (vk : Nat → Nat) (h : ∀ i m a, vv i m = some a → vplain a = true) : VRows iv vv vk := { vvp := h, ib := [], ibok := ibNil }
theorem VRows.same {iv : Nat → IntKind × Int} {vv : Nat → Nat → Option AV} {vk : Nat → Nat} (R R' : VRows iv vv vk) : SameTab R.tab R'.tab := ⟨rfl, rfl, rfl, rfl, rfl, rfl, rfl, rfl, rfl⟩
abbrev noV : Nat → Nat → Option AV := fun _ _ => none
abbrev noK : Nat → Nat := fun _ => 0
theorem noVp : ∀ i m a, noV i m = some a → vplain a = true := fun _ _ _ h => by cases h
theorem glNone {T T' : Tab} (h : T'.gv = fun _ _ => none) (h2 : T'.fv = fun _ _ => none) : @Gl T B w0 → @Gl T' B w0 := fun _ => ⟨fun g o a hg => (by rw [h] at hg; cases hg), fun i m a hg => (by rw [h2] at hg; cases hg)⟩
def isRow : Blk → Bool
  | .cells .. => true
  | .vec _ => true
  | _ => false
theorem toVec {T T' : Tab} {C : Cv} {x i : Nat} {b : Blk} (hb : isRow b = true) (hv : ∀ m, T'.vv i m = none) (hk : T'.vk i = 0) :
    own (x, b, i).2.1 = true ∧ ∀ μ l w, @brel T μ (x, b, i).2.1 l w → @brel T' (ren C.N0 C.rn μ) (.vec (x, b, i).2.2) l w := by
  cases b with
  | cells n p z t =>
    refine ⟨rfl, fun μ l w h => ?_⟩
    obtain ⟨arr, el, fz, h1, h2, h3, h4, h5, h6⟩ := h
    exact ⟨arr, el, fz, h1, h2, h3, by rw [hk]; omega, fun m a ha => by rw [hv] at ha; cases ha⟩
  | vec j =>
    refine ⟨rfl, fun μ l w h => ?_⟩
    obtain ⟨arr, el, fz, h1, h2, h3, h4, h5⟩ := h
    exact ⟨arr, el, fz, h1, h2, h3, by rw [hk]; omega, fun m a ha => by rw [hv] at ha; cases ha⟩
  | _ => simp [isRow] at hb
section
variable {iv : Nat → IntKind × Int}
abbrev VaOk (iv : Nat → IntKind × Int) (vv : Nat → Nat → Option AV) (vk : Nat → Nat) (r : VA) : Prop := isLen (iv r.j) ∧ isLen (iv r.j') ∧ (iv r.j').2.toNat * r.z = (iv r.j).2.toNat * r.z + r.src.length ∧ (iv r.j').2.toNat < limit ∧ vk r.i' ≤ (iv r.j').2.toNat * r.z ∧
    ∀ m a, vv r.i' m = some a → ∃ b, (if m < (iv r.j).2.toNat * r.z then vv r.i m else r.src[m - (iv r.j).2.toNat * r.z]?) = some b ∧ sameAV iv b a
abbrev VzOk (iv : Nat → IntKind × Int) (vv : Nat → Nat → Option AV) (vk : Nat → Nat) (r : VZ) : Prop := isLen (iv r.j) ∧ isLen (iv r.k) ∧ isLen (iv r.j') ∧ (iv r.j').2 = (iv r.j).2 + (iv r.k).2 ∧ (iv r.j').2.toNat < limit ∧ vk r.i' ≤ (iv r.j').2.toNat * r.z ∧
    ∀ m a, vv r.i' m = some a → m < (iv r.j').2.toNat * r.z ∧ ∃ b, (if m < (iv r.j).2.toNat * r.z then vv r.i m else r.zc[(m - (iv r.j).2.toNat * r.z) % r.zc.length]?) = some b ∧ sameAV iv b a
abbrev VnOk (iv : Nat → IntKind × Int) (vv : Nat → Nat → Option AV) (vk : Nat → Nat) (r : VN) : Prop := isLen (iv r.k) ∧ 0 < (iv r.k).2 ∧ iv r.j' = iv r.k ∧ (iv r.k).2.toNat < limit ∧ vk r.i' ≤ (iv r.k).2.toNat * r.z ∧
    ∀ m a, vv r.i' m = some a → m < (iv r.k).2.toNat * r.z ∧ ∃ b, r.zc[m % r.zc.length]? = some b ∧ sameAV iv b a
theorem allNil {α : Type} {p : α → Prop} : ∀ r ∈ ([] : List α), p r := fun r h => by simp at h
theorem allCons {α : Type} {p : α → Prop} {x : α} {l : List α} (h : p x) (k : ∀ r ∈ l, p r) : ∀ r ∈ x :: l, p r := fun r hr => by
  simp only [List.mem_cons] at hr
  rcases hr with rfl | hr
  · exact h
  · exact k r hr
theorem va0 {r : VA} {a b : Int} {c : Nat} (ha : iv r.j = (.i64, a)) (hb : iv r.j' = (.i64, b)) (h0 : 0 ≤ a) (hc : r.src.length = c * r.z) (h : b = a + c) (hl : b < 1000000) : VaOk iv noV noK r := by
  refine ⟨by rw [ha]; exact ⟨rfl, h0⟩, by rw [hb]; exact ⟨rfl, by show 0 ≤ b; omega⟩, ?_, ?_, Nat.zero_le _, fun m a h => by cases h⟩
  · rw [ha, hb, hc]
    show b.toNat * r.z = a.toNat * r.z + c * r.z
    rw [← Nat.add_mul]
    congr 1
    omega
  · rw [hb]; show b.toNat < limit; unfold limit; omega
theorem vz0 {r : VZ} {a b c : Int} (ha : iv r.j = (.i64, a)) (hc : iv r.k = (.i64, c)) (hb : iv r.j' = (.i64, b)) (h0 : 0 ≤ a) (h1 : 0 ≤ c) (h : b = a + c) (hl : b < 1000000) : VzOk iv noV noK r := by
  refine ⟨by rw [ha]; exact ⟨rfl, h0⟩, by rw [hc]; exact ⟨rfl, h1⟩, by rw [hb]; exact ⟨rfl, by show 0 ≤ b; omega⟩, ?_, ?_, Nat.zero_le _, fun m a h => by cases h⟩
  · rw [ha, hb, hc]; exact h
  · rw [hb]; show b.toNat < limit; unfold limit; omega
theorem vn0 {r : VN} {c : Int} (hc : iv r.k = (.i64, c)) (hb : iv r.j' = (.i64, c)) (h1 : 0 < c) (hl : c < 1000000) : VnOk iv noV noK r := by
  refine ⟨by rw [hc]; exact ⟨rfl, by show 0 ≤ c; omega⟩, by rw [hc]; exact h1, by rw [hc, hb], ?_, Nat.zero_le _, fun m a h => by cases h⟩
  rw [hc]; show c.toNat < limit; unfold limit; omega
end
def intV (A : Nat) (e : Nat → Int) : Nat → Option AV := fun m => if m < A then some (.int .i64 (e m)) else none
def boolV (A : Nat) (e : Nat → Bool) : Nat → Option AV := fun m => if m < A then some (.bool (e m)) else none
theorem intV_some {A : Nat} {e : Nat → Int} {m : Nat} {a : AV} (h : intV A e m = some a) : m < A ∧ a = .int .i64 (e m) := by
  unfold intV at h
  split at h
  · cases h; exact ⟨‹_›, rfl⟩
  · cases h
theorem boolV_some {A : Nat} {e : Nat → Bool} {m : Nat} {a : AV} (h : boolV A e m = some a) : m < A ∧ a = .bool (e m) := by
  unfold boolV at h
  split at h
  · cases h; exact ⟨‹_›, rfl⟩
  · cases h
theorem intV_lt {A : Nat} {e : Nat → Int} {m : Nat} (h : m < A) : intV A e m = some (.int .i64 (e m)) := by unfold intV; rw [if_pos h]
theorem boolV_lt {A : Nat} {e : Nat → Bool} {m : Nat} (h : m < A) : boolV A e m = some (.bool (e m)) := by unfold boolV; rw [if_pos h]
section
variable {iv : Nat → IntKind × Int} {vv : Nat → Nat → Option AV} {vk : Nat → Nat}
theorem sameInt {b : AV} {n : Int} (h : denI iv b = some (.i64, n)) : sameAV iv b (.int .i64 n) := .inr ⟨_, h, rfl⟩
theorem sameInt' {b : AV} {n : Int} (h : denI iv b = some (.i64, n)) : sameAV iv (.int .i64 n) b := .inr ⟨_, rfl, h⟩
theorem vaI {r : VA} {a b : Nat} {A' : Nat} {e e' : Nat → Int} (ha : iv r.j = (.i64, (a : Int))) (hb : iv r.j' = (.i64, (b : Int))) (h0 : vv r.i = intV (a * r.z) e) (h1 : vv r.i' = intV A' e') (hk : vk r.i' = A')
    (hA : A' = a * r.z + r.src.length) (hB : b * r.z = A') (hl : b < 1000000) (he : ∀ m, m < a * r.z → e' m = e m) (hs : ∀ q x, r.src[q]? = some x → denI iv x = some (.i64, e' (a * r.z + q))) : VaOk iv vv vk r := by
  refine ⟨by rw [ha]; exact ⟨rfl, Int.natCast_nonneg _⟩, by rw [hb]; exact ⟨rfl, Int.natCast_nonneg _⟩, by rw [ha, hb]; simpa using hB.trans hA, by rw [hb]; simpa [limit] using hl, by rw [hb, hk]; simp [hB], ?_⟩
  intro m x hx
  rw [h1] at hx
  obtain ⟨hm, rfl⟩ := intV_some hx
  rw [ha]
  simp only [Int.toNat_natCast]
  by_cases c : m < a * r.z
  · exact ⟨.int .i64 (e' m), by rw [if_pos c, h0, intV_lt c, he m c], .inl rfl⟩
  · rw [if_neg c]
    have hq : m - a * r.z < r.src.length := by omega
    refine ⟨r.src[m - a * r.z], by rw [List.getElem?_eq_getElem hq], sameInt ?_⟩
    have := hs (m - a * r.z) _ (List.getElem?_eq_getElem hq)
    rw [this]
    congr 3
    omega
theorem vaB {r : VA} {a b : Nat} {A' : Nat} {e e' : Nat → Bool} (ha : iv r.j = (.i64, (a : Int))) (hb : iv r.j' = (.i64, (b : Int))) (h0 : vv r.i = boolV (a * r.z) e) (h1 : vv r.i' = boolV A' e') (hk : vk r.i' = A')
    (hA : A' = a * r.z + r.src.length) (hB : b * r.z = A') (hl : b < 1000000) (he : ∀ m, m < a * r.z → e' m = e m) (hs : ∀ (q : Nat) (x : AV), r.src[q]? = some x → x = .bool (e' (a * r.z + q))) : VaOk iv vv vk r := by
  refine ⟨by rw [ha]; exact ⟨rfl, Int.natCast_nonneg _⟩, by rw [hb]; exact ⟨rfl, Int.natCast_nonneg _⟩, by rw [ha, hb]; simpa using hB.trans hA, by rw [hb]; simpa [limit] using hl, by rw [hb, hk]; simp [hB], ?_⟩
  intro m x hx
  rw [h1] at hx
  obtain ⟨hm, rfl⟩ := boolV_some hx
  rw [ha]
  simp only [Int.toNat_natCast]
  by_cases c : m < a * r.z
  · exact ⟨.bool (e' m), by rw [if_pos c, h0, boolV_lt c, he m c], .inl rfl⟩
  · rw [if_neg c]
    have hq : m - a * r.z < r.src.length := by omega
    refine ⟨r.src[m - a * r.z], by rw [List.getElem?_eq_getElem hq], .inl ?_⟩
    have := hs (m - a * r.z) _ (List.getElem?_eq_getElem hq)
    rw [this]
    congr 2
    omega
theorem vzI {r : VZ} {a b c : Nat} {e e' : Nat → Int} (ha : iv r.j = (.i64, (a : Int))) (hc : iv r.k = (.i64, (c : Int))) (hb : iv r.j' = (.i64, (b : Int))) (h0 : vv r.i = intV a e) (h1 : vv r.i' = intV b e') (hk : vk r.i' = b) (hz : r.z = 1) (hzc : r.zc = [.int .i64 0])
    (hA : b = a + c) (hl : b < 1000000) (he : ∀ m, m < a → e' m = e m) (hs : ∀ m, a ≤ m → m < b → e' m = 0) : VzOk iv vv vk r := by
  refine ⟨by rw [ha]; exact ⟨rfl, Int.natCast_nonneg _⟩, by rw [hc]; exact ⟨rfl, Int.natCast_nonneg _⟩, by rw [hb]; exact ⟨rfl, Int.natCast_nonneg _⟩, by rw [ha, hb, hc, hA]; simp, by rw [hb]; simpa [limit] using hl, by rw [hb, hk, hz]; simp, ?_⟩
  intro m x hx
  rw [h1] at hx
  obtain ⟨hm, rfl⟩ := intV_some hx
  rw [ha, hb, hz, hzc]
  simp only [Int.toNat_natCast, Nat.mul_one]
  refine ⟨hm, ?_⟩
  by_cases c : m < a
  · exact ⟨.int .i64 (e' m), by rw [if_pos c, h0, intV_lt c, he m c], .inl rfl⟩
  · rw [if_neg c]
    exact ⟨.int .i64 0, by simp [Nat.mod_one], .inl (by rw [hs m (by omega) hm])⟩
theorem vzB {r : VZ} {a b c : Nat} {e e' : Nat → Bool} (ha : iv r.j = (.i64, (a : Int))) (hc : iv r.k = (.i64, (c : Int))) (hb : iv r.j' = (.i64, (b : Int))) (h0 : vv r.i = boolV a e) (h1 : vv r.i' = boolV b e') (hk : vk r.i' = b) (hz : r.z = 1) (hzc : r.zc = [.bool false])
    (hA : b = a + c) (hl : b < 1000000) (he : ∀ m, m < a → e' m = e m) (hs : ∀ m, a ≤ m → m < b → e' m = false) : VzOk iv vv vk r := by
  refine ⟨by rw [ha]; exact ⟨rfl, Int.natCast_nonneg _⟩, by rw [hc]; exact ⟨rfl, Int.natCast_nonneg _⟩, by rw [hb]; exact ⟨rfl, Int.natCast_nonneg _⟩, by rw [ha, hb, hc, hA]; simp, by rw [hb]; simpa [limit] using hl, by rw [hb, hk, hz]; simp, ?_⟩
  intro m x hx
  rw [h1] at hx
  obtain ⟨hm, rfl⟩ := boolV_some hx
  rw [ha, hb, hz, hzc]
  simp only [Int.toNat_natCast, Nat.mul_one]
  refine ⟨hm, ?_⟩
  by_cases c : m < a
  · exact ⟨.bool (e' m), by rw [if_pos c, h0, boolV_lt c, he m c], .inl rfl⟩
  · rw [if_neg c]
    exact ⟨.bool false, by simp [Nat.mod_one], .inl (by rw [hs m (by omega) hm])⟩
theorem vnI {r : VN} {c : Nat} {e' : Nat → Int} (hc : iv r.k = (.i64, (c : Int))) (hb : iv r.j' = (.i64, (c : Int))) (h1 : vv r.i' = intV c e') (hk : vk r.i' = c) (hz : r.z = 1) (hzc : r.zc = [.int .i64 0]) (h0 : 0 < c) (hl : c < 1000000) (hs : ∀ m, m < c → e' m = 0) : VnOk iv vv vk r := by
  refine ⟨by rw [hc]; exact ⟨rfl, Int.natCast_nonneg _⟩, by rw [hc]; exact Int.natCast_pos.2 h0, by rw [hc, hb], by rw [hc]; simpa [limit] using hl, by rw [hc, hk, hz]; simp, ?_⟩
  intro m x hx
  rw [h1] at hx
  obtain ⟨hm, rfl⟩ := intV_some hx
  rw [hc, hz, hzc]
  exact ⟨by simpa using hm, .int .i64 0, by simp [Nat.mod_one], .inl (by rw [hs m hm])⟩
theorem vnB {r : VN} {c : Nat} {e' : Nat → Bool} (hc : iv r.k = (.i64, (c : Int))) (hb : iv r.j' = (.i64, (c : Int))) (h1 : vv r.i' = boolV c e') (hk : vk r.i' = c) (hz : r.z = 1) (hzc : r.zc = [.bool false]) (h0 : 0 < c) (hl : c < 1000000) (hs : ∀ m, m < c → e' m = false) : VnOk iv vv vk r := by
  refine ⟨by rw [hc]; exact ⟨rfl, Int.natCast_nonneg _⟩, by rw [hc]; exact Int.natCast_pos.2 h0, by rw [hc, hb], by rw [hc]; simpa [limit] using hl, by rw [hc, hk, hz]; simp, ?_⟩
  intro m x hx
  rw [h1] at hx
  obtain ⟨hm, rfl⟩ := boolV_some hx
  rw [hc, hz, hzc]
  exact ⟨by simpa using hm, .bool false, by simp [Nat.mod_one], .inl (by rw [hs m hm])⟩
abbrev VlOk (iv : Nat → IntKind × Int) (vv : Nat → Nat → Option AV) (r : VL) : Prop := isLen (iv r.k) ∧ ∀ m b, r.l[m]? = some b → ∃ a, vv r.i ((iv r.k).2.toNat * r.z + r.f + m) = some a ∧ sameAV iv a b
theorem vlI {r : VL} {k A : Nat} {e : Nat → Int} {b : AV} (hk : iv r.k = (.i64, (k : Int))) (h0 : vv r.i = intV A e) (hl : r.l = [b]) (ho : k * r.z + r.f < A) (hb : denI iv b = some (.i64, e (k * r.z + r.f))) : VlOk iv vv r := by
  refine ⟨by rw [hk]; exact ⟨rfl, Int.natCast_nonneg _⟩, fun m x hx => ?_⟩
  rw [hl] at hx
  cases m with
  | succ m => simp at hx
  | zero =>
    simp only [List.getElem?_cons_zero, Option.some.injEq] at hx
    subst hx
    rw [hk, h0]
    simp only [Int.toNat_natCast, Nat.add_zero]
    exact ⟨_, intV_lt ho, sameInt' hb⟩
theorem vlB {r : VL} {k A : Nat} {e : Nat → Bool} {b : Bool} (hk : iv r.k = (.i64, (k : Int))) (h0 : vv r.i = boolV A e) (hl : r.l = [.bool b]) (ho : k * r.z + r.f < A) (hb : e (k * r.z + r.f) = b) : VlOk iv vv r := by
  refine ⟨by rw [hk]; exact ⟨rfl, Int.natCast_nonneg _⟩, fun m x hx => ?_⟩
  rw [hl] at hx
  cases m with
  | succ m => simp at hx
  | zero =>
    simp only [List.getElem?_cons_zero, Option.some.injEq] at hx
    subst hx
    rw [hk, h0]
    simp only [Int.toNat_natCast, Nat.add_zero]
    exact ⟨_, boolV_lt ho, .inl (by rw [hb])⟩
abbrev VsOk (iv : Nat → IntKind × Int) (vv : Nat → Nat → Option AV) (vk : Nat → Nat) (r : VS) : Prop := isLen (iv r.k) ∧ (iv r.k).2.toNat * r.z + r.f + r.l.length ≤ vk r.i ∧ vk r.i' ≤ vk r.i ∧
    ∀ m a, vv r.i' m = some a → ∃ b, (if (iv r.k).2.toNat * r.z + r.f ≤ m ∧ m < (iv r.k).2.toNat * r.z + r.f + r.l.length then r.l[m - ((iv r.k).2.toNat * r.z + r.f)]? else vv r.i m) = some b ∧ sameAV iv b a
theorem vsI {r : VS} {k A : Nat} {e e' : Nat → Int} {b : AV} (hk : iv r.k = (.i64, (k : Int))) (h0 : vv r.i = intV A e) (h1 : vv r.i' = intV A e') (hv : vk r.i = A) (hv' : vk r.i' = A) (hl : r.l = [b]) (ho : k * r.z + r.f < A) (hb : denI iv b = some (.i64, e' (k * r.z + r.f))) (he : ∀ m, m < A → m ≠ k * r.z + r.f → e' m = e m) : VsOk iv vv vk r := by
  refine ⟨by rw [hk]; exact ⟨rfl, Int.natCast_nonneg _⟩, by rw [hk, hv, hl]; simpa [Nat.succ_le_iff] using ho, by rw [hv, hv']; exact Nat.le_refl _, fun m x hx => ?_⟩
  rw [h1] at hx
  obtain ⟨hm, rfl⟩ := intV_some hx
  rw [hk, hl, h0]
  simp only [Int.toNat_natCast, List.length_singleton]
  by_cases c : m = k * r.z + r.f
  · subst c
    rw [if_pos (by omega)]
    exact ⟨b, by simp, sameInt hb⟩
  · rw [if_neg (by omega)]
    exact ⟨_, intV_lt hm, .inl (by rw [he m hm c])⟩
theorem vsB {r : VS} {k A : Nat} {e e' : Nat → Bool} {b : Bool} (hk : iv r.k = (.i64, (k : Int))) (h0 : vv r.i = boolV A e) (h1 : vv r.i' = boolV A e') (hv : vk r.i = A) (hv' : vk r.i' = A) (hl : r.l = [.bool b]) (ho : k * r.z + r.f < A) (hb : e' (k * r.z + r.f) = b) (he : ∀ m, m < A → m ≠ k * r.z + r.f → e' m = e m) : VsOk iv vv vk r := by
  refine ⟨by rw [hk]; exact ⟨rfl, Int.natCast_nonneg _⟩, by rw [hk, hv, hl]; simpa [Nat.succ_le_iff] using ho, by rw [hv, hv']; exact Nat.le_refl _, fun m x hx => ?_⟩
  rw [h1] at hx
  obtain ⟨hm, rfl⟩ := boolV_some hx
  rw [hk, hl, h0]
  simp only [Int.toNat_natCast, List.length_singleton]
  by_cases c : m = k * r.z + r.f
  · subst c
    rw [if_pos (by omega)]
    exact ⟨.bool b, by simp, .inl (by rw [hb])⟩
  · rw [if_neg (by omega)]
    exact ⟨_, boolV_lt hm, .inl (by rw [he m hm c])⟩
end
theorem vecSub {T T' : Tab} {C : Cv} {x i i' : Nat} (hv : ∀ m a, T'.vv i' m = some a → T.vv i m = some a ∧ ((∃ n, a = .int .i64 n) ∨ ∃ b, a = .bool b)) (hk : T'.vk i' ≤ T.vk i) :
    own (x, (.vec i : Blk), i').2.1 = true ∧ ∀ μ l w, @brel T μ (x, (.vec i : Blk), i').2.1 l w → @brel T' (ren C.N0 C.rn μ) (.vec (x, (.vec i : Blk), i').2.2) l w := by
  refine ⟨rfl, fun μ l w h => ?_⟩
  obtain ⟨arr, el, fz, h1, h2, h3, h4, h5⟩ := h
  refine ⟨arr, el, fz, h1, h2, h3, by dsimp only; omega, fun m a ha => ?_⟩
  obtain ⟨g1, g2⟩ := hv m a ha
  obtain ⟨v, v1, v2⟩ := h5 m a g1
  refine ⟨v, v1, ?_⟩
  rcases g2 with ⟨n, rfl⟩ | ⟨b, rfl⟩
  · simpa [vrel] using v2
  · simpa [vrel] using v2
theorem intV_sub {A A' : Nat} {e : Nat → Int} (h : A' ≤ A) : ∀ m a, intV A' e m = some a → intV A e m = some a ∧ ((∃ n, a = .int .i64 n) ∨ ∃ b, a = .bool b) := fun m a ha => by
  obtain ⟨hm, rfl⟩ := intV_some ha
  exact ⟨intV_lt (by omega), .inl ⟨_, rfl⟩⟩
theorem boolV_sub {A A' : Nat} {e : Nat → Bool} (h : A' ≤ A) : ∀ m a, boolV A' e m = some a → boolV A e m = some a ∧ ((∃ n, a = .int .i64 n) ∨ ∃ b, a = .bool b) := fun m a ha => by
  obtain ⟨hm, rfl⟩ := boolV_some ha
  exact ⟨boolV_lt (by omega), .inr ⟨_, rfl⟩⟩
theorem rowVec {T T' : Tab} {C : Cv} {x i : Nat} {l : List AV} {opn : Bool} (hlim : l.length < limit) (hv : ∀ m a, T'.vv i m = some a → ∃ b, l[m]? = some b ∧ ((∃ n, denI T.iv b = some (.i64, n) ∧ a = .int .i64 n) ∨ ∃ c, b = .bool c ∧ a = .bool c)) (hk : T'.vk i ≤ l.length) :
    own (x, rowOf l opn, i).2.1 = true ∧ ∀ μ p w, @brel T μ (x, rowOf l opn, i).2.1 p w → @brel T' (ren C.N0 C.rn μ) (.vec (x, rowOf l opn, i).2.2) p w := by
  refine ⟨rfl, fun μ p w h => ?_⟩
  obtain ⟨arr, el, fz, h1, h2, h3, h4, h5, h6⟩ := h
  refine ⟨arr, el, fz, h1, h2, h3, by dsimp only; omega, fun m a ha => ?_⟩
  obtain ⟨b, g1, g2⟩ := hv m a ha
  have hm : m < l.length := (List.getElem?_eq_some_iff.1 g1).1
  obtain ⟨v, v1, v2⟩ := h6 m b hm (by rw [@cellOf_row T _ _ hlim]; exact g1)
  refine ⟨v, v1, ?_⟩
  rcases g2 with ⟨n, g3, rfl⟩ | ⟨c, rfl, rfl⟩
  · cases b <;> simp [denI] at g3
    · obtain ⟨rfl, rfl⟩ := g3; simpa [vrel] using v2
    · simp only [vrel] at v2 ⊢; rw [v2, g3]
  · simpa [vrel] using v2
theorem ibRem [Tab] {iv : Nat → IntKind × Int} {x y z : AV} {a b c : Int} (hx : denI iv x = some (.i64, a)) (hy : denI iv y = some (.i64, b)) (hz : denI iv z = some (.i64, c)) (h0 : b ≠ 0) (h : a.tmod b = c) : IbOk iv (4, x, y, z) := by
  intro op hop
  have : op = .rem := by cases op <;> simp [bcode] at hop; rfl
  subst this
  refine ⟨.i64, a, .i64, b, .int .i64 (a.tmod b), hx, hy, ?_, ?_⟩
  · show (if b = 0 then none else some (AV.int .i64 (a.tmod b))) = _
    rw [if_neg h0]
  show denI iv z = some (.i64, a.tmod b)
  rw [h]; exact hz
theorem St.yes [τ : Tab] {fn : Func} {fr : Fr} {h h' : H} (hl : leaves P fn .ret fr h = some (.bool true, h')) (s : St τ B w0 μ0 fn.ntmps fr h a w) : Yes P fn B w0 .ret a w := by
  obtain ⟨μ, _, f, r⟩ := s
  obtain ⟨⟨e1, e2, e3, e4, e5, _⟩, _⟩ := r.parts
  obtain ⟨v, hv, e⟩ := ob_some (show ob _ _ = _ from hl)
  cases e
  obtain ⟨v', k1, k2⟩ := results_sound (P := P) f r hv
  simp only [vrel] at k2
  subst k2
  exact ⟨.inr rfl, f.2.1, ⟨e1, e2, e3, e4, e5⟩, k1⟩
theorem ic64 {iv : Nat → IntKind × Int} {k : IntKind} {x y : AV} {n : Int} (hx : denI iv x = some (k, n)) (hy : denI iv y = some (.i64, n)) (h1 : -9223372036854775808 ≤ n) (h2 : n ≤ 9223372036854775807) : ∃ k' m, denI iv ((IntKind.i64, x, y) : IntKind × AV × AV).2.1 = some (k', m) ∧ denI iv ((IntKind.i64, x, y) : IntKind × AV × AV).2.2 = some (.i64, IntKind.i64.wrap m) :=
  ⟨k, n, hx, by rw [wrap64 h1 h2]; exact hy⟩
theorem wrapU64 {n : Int} (h1 : 0 ≤ n) (h2 : n ≤ 18446744073709551615) : IntKind.u64.wrap n = n := by
  unfold IntKind.wrap IntKind.bits IntKind.signed
  simp only [Bool.false_and, Bool.false_eq_true, if_false]
  omega
theorem icU64 {iv : Nat → IntKind × Int} {k : IntKind} {x y : AV} {n : Int} (hx : denI iv x = some (k, n)) (hy : denI iv y = some (.u64, n)) (h1 : 0 ≤ n) (h2 : n ≤ 18446744073709551615) : ∃ k' m, denI iv ((IntKind.u64, x, y) : IntKind × AV × AV).2.1 = some (k', m) ∧ denI iv ((IntKind.u64, x, y) : IntKind × AV × AV).2.2 = some (.u64, IntKind.u64.wrap m) :=
  ⟨k, n, hx, by rw [wrapU64 h1 h2]; exact hy⟩
theorem vs0 {iv : Nat → IntKind × Int} {vk : Nat → Nat} {r : VS} {k : Nat} (hk : iv r.k = (.i64, (k : Int))) (ho : k * r.z + r.f + r.l.length ≤ vk r.i) (hv : vk r.i' ≤ vk r.i) : VsOk iv noV vk r :=
  ⟨by rw [hk]; exact ⟨rfl, Int.natCast_nonneg _⟩, by rw [hk]; simpa using ho, hv, fun m a h => by cases h⟩
theorem va1 {iv : Nat → IntKind × Int} {vk : Nat → Nat} {r : VA} {a b c : Nat} (ha : iv r.j = (.i64, (a : Int))) (hb : iv r.j' = (.i64, (b : Int))) (hc : r.src.length = c * r.z) (h : b = a + c) (hl : b < 1000000) (hk : vk r.i' ≤ b * r.z) : VaOk iv noV vk r := by
  refine ⟨by rw [ha]; exact ⟨rfl, Int.natCast_nonneg _⟩, by rw [hb]; exact ⟨rfl, Int.natCast_nonneg _⟩, ?_, by rw [hb]; simpa [limit] using hl, by rw [hb]; simpa using hk, fun m a h => by cases h⟩
  rw [ha, hb, hc]
  simp only [Int.toNat_natCast]
  rw [← Nat.add_mul, h]
theorem vz1 {iv : Nat → IntKind × Int} {vk : Nat → Nat} {r : VZ} {a b c : Nat} (ha : iv r.j = (.i64, (a : Int))) (hc : iv r.k = (.i64, (c : Int))) (hb : iv r.j' = (.i64, (b : Int))) (h : b = a + c) (hl : b < 1000000) (hk : vk r.i' ≤ b * r.z) : VzOk iv noV vk r :=
  ⟨by rw [ha]; exact ⟨rfl, Int.natCast_nonneg _⟩, by rw [hc]; exact ⟨rfl, Int.natCast_nonneg _⟩, by rw [hb]; exact ⟨rfl, Int.natCast_nonneg _⟩, by rw [ha, hb, hc, h]; simp, by rw [hb]; simpa [limit] using hl, by rw [hb]; simpa using hk, fun m a h => by cases h⟩
theorem vn1 {iv : Nat → IntKind × Int} {vk : Nat → Nat} {r : VN} {c : Nat} (hc : iv r.k = (.i64, (c : Int))) (hb : iv r.j' = (.i64, (c : Int))) (h1 : 0 < c) (hl : c < 1000000) (hk : vk r.i' ≤ c * r.z) : VnOk iv noV vk r :=
  ⟨by rw [hc]; exact ⟨rfl, Int.natCast_nonneg _⟩, by rw [hc]; exact Int.natCast_pos.2 h1, by rw [hc, hb], by rw [hc]; simpa [limit] using hl, by rw [hc]; simpa using hk, fun m a h => by cases h⟩
end Go.X
set_option linter.unusedVariables false
set_option linter.unusedSimpArgs false
set_option linter.unusedSectionVars false
namespace Go.X
variable {iv : Nat → IntKind × Int}
theorem bcode_inj {a b : BinOp} (h : bcode a = bcode b) : a = b := by cases a <;> cases b <;> first | rfl | (simp [bcode] at h)
theorem ibOf {op : BinOp} {x y z : AV} {k k' : IntKind} {a b : Int} {v : AV} (hx : denI iv x = some (k, a)) (hy : denI iv y = some (k', b)) (h : intBin op k a k' b = some v) (hz : outI iv z v) : IbOk iv (bcode op, x, y, z) := by
  intro o ho
  obtain rfl := bcode_inj ho
  exact ⟨k, a, k', b, v, hx, hy, h, hz⟩
theorem ibShl {x y z : AV} {k k' : IntKind} {a b c : Int} (hx : denI iv x = some (k, a)) (hy : denI iv y = some (k', b)) (hz : denI iv z = some (k, c)) (h0 : 0 ≤ b) (h : k.wrap (a * 2 ^ (min b.toNat k.bits)) = c) : IbOk iv (15, x, y, z) := by
  refine ibOf (op := .shl) hx hy (v := .int k c) ?_ hz
  show shiftOp .shl k a b = _
  simp only [shiftOp]
  rw [if_neg (by omega), h]
theorem ibShr {x y z : AV} {k k' : IntKind} {a b c : Int} (hx : denI iv x = some (k, a)) (hy : denI iv y = some (k', b)) (hz : denI iv z = some (k, c)) (h0 : 0 ≤ b) (h : a.fdiv (2 ^ (min b.toNat k.bits)) = c) : IbOk iv (16, x, y, z) := by
  refine ibOf (op := .shr) hx hy (v := .int k c) ?_ hz
  show shiftOp .shr k a b = _
  simp only [shiftOp]
  rw [if_neg (by omega), h]
theorem kc (k : IntKind) : Nat.beq (kcode k) (kcode k) = true := by cases k <;> rfl
theorem ibAnd {x y z : AV} {k : IntKind} {a b c : Int} (hx : denI iv x = some (k, a)) (hy : denI iv y = some (k, b)) (hz : denI iv z = some (k, c)) (h : k.wrap (BitVec.ofInt k.bits a &&& BitVec.ofInt k.bits b).toNat = c) : IbOk iv (5, x, y, z) := by
  refine ibOf (op := .and) hx hy (v := .int k c) ?_ hz
  show (Bool.rec (ifb (Nat.beq (kcode k) (kcode k)) (intOp .and k a b)) (shiftOp .and k a b) false : Option AV) = _
  rw [kc, ← h]; rfl
theorem ibOr {x y z : AV} {k : IntKind} {a b c : Int} (hx : denI iv x = some (k, a)) (hy : denI iv y = some (k, b)) (hz : denI iv z = some (k, c)) (h : k.wrap (BitVec.ofInt k.bits a ||| BitVec.ofInt k.bits b).toNat = c) : IbOk iv (6, x, y, z) := by
  refine ibOf (op := .or) hx hy (v := .int k c) ?_ hz
  show (Bool.rec (ifb (Nat.beq (kcode k) (kcode k)) (intOp .or k a b)) (shiftOp .or k a b) false : Option AV) = _
  rw [kc, ← h]; rfl
theorem ibAndNot {x y z : AV} {k : IntKind} {a b c : Int} (hx : denI iv x = some (k, a)) (hy : denI iv y = some (k, b)) (hz : denI iv z = some (k, c)) (h : k.wrap (BitVec.ofInt k.bits a &&& ~~~BitVec.ofInt k.bits b).toNat = c) : IbOk iv (8, x, y, z) := by
  refine ibOf (op := .andNot) hx hy (v := .int k c) ?_ hz
  show (Bool.rec (ifb (Nat.beq (kcode k) (kcode k)) (intOp .andNot k a b)) (shiftOp .andNot k a b) false : Option AV) = _
  rw [kc, ← h]; rfl
theorem ibEqK {x y : AV} {k : IntKind} {a b : Int} {t : Bool} (hx : denI iv x = some (k, a)) (hy : denI iv y = some (k, b)) (h : decide (a = b) = t) : IbOk iv (9, x, y, .bool t) := by
  refine ibOf (op := .eql) hx hy (v := .bool (a == b)) ?_ ?_
  · show (Bool.rec (ifb (Nat.beq (kcode k) (kcode k)) (intOp .eql k a b)) (shiftOp .eql k a b) false : Option AV) = _
    rw [kc]; rfl
  · show AV.bool t = .bool (a == b)
    rw [← h]; congr 1
theorem ibNeK {x y : AV} {k : IntKind} {a b : Int} {t : Bool} (hx : denI iv x = some (k, a)) (hy : denI iv y = some (k, b)) (h : decide (a = b) = !t) : IbOk iv (10, x, y, .bool t) := by
  refine ibOf (op := .neq) hx hy (v := .bool (a != b)) ?_ ?_
  · show (Bool.rec (ifb (Nat.beq (kcode k) (kcode k)) (intOp .neq k a b)) (shiftOp .neq k a b) false : Option AV) = _
    rw [kc]; rfl
  · show AV.bool t = .bool (a != b)
    have : (a == b) = !t := by rw [← h]; rfl
    rw [bne, this, Bool.not_not]
abbrev IcOk (iv : Nat → IntKind × Int) (r : IntKind × AV × AV) : Prop := ∃ k n, denI iv r.2.1 = some (k, n) ∧ denI iv r.2.2 = some (r.1, r.1.wrap n)
theorem icOf {k k' : IntKind} {x y : AV} {n c : Int} (hx : denI iv x = some (k', n)) (hy : denI iv y = some (k, c)) (h : k.wrap n = c) : IcOk iv (k, x, y) := ⟨k', n, hx, by show denI iv y = some (k, k.wrap n); rw [h]; exact hy⟩
theorem wrap_mod (k : IntKind) (n : Int) : k.wrap n % 2 ^ k.bits = n % 2 ^ k.bits := by
  unfold IntKind.wrap
  simp only
  split
  · rw [Int.sub_emod, Int.emod_emod, Int.emod_self, Int.sub_zero, Int.emod_emod]
  · rw [Int.emod_emod]
theorem wrap_congr (k : IntKind) {n m : Int} (h : n % 2 ^ k.bits = m % 2 ^ k.bits) : k.wrap n = k.wrap m := by
  unfold IntKind.wrap
  simp only [h]
theorem wrap_wrap {k l : IntKind} (h : k.bits ≤ l.bits) (n : Int) : k.wrap (l.wrap n) = k.wrap n := by
  refine wrap_congr k ?_
  have hd : (2 ^ k.bits : Int) ∣ 2 ^ l.bits := ⟨2 ^ (l.bits - k.bits), by rw [← Int.pow_add]; congr 1; omega⟩
  rw [← Int.emod_emod_of_dvd (l.wrap n) hd, wrap_mod, Int.emod_emod_of_dvd n hd]
theorem wrapU (W : BitVec 64) : IntKind.u64.wrap (W.toNat : Int) = (W.toNat : Int) := wrapU64 (by omega) (by have := W.isLt; omega)
theorem ofIntU (W : BitVec 64) : BitVec.ofInt IntKind.u64.bits (W.toNat : Int) = W := by
  show BitVec.ofInt 64 (W.toNat : Int) = W
  rw [BitVec.ofInt_natCast, BitVec.ofNat_toNat, BitVec.setWidth_eq]
theorem u64OfInt (v : Int) : IntKind.u64.wrap v = ((BitVec.ofInt 64 v).toNat : Int) := by
  unfold IntKind.wrap IntKind.bits IntKind.signed
  simp only [Bool.false_and]
  rw [BitVec.toNat_ofInt]
  show v % 2 ^ 64 = _
  omega
abbrev wI (W : BitVec 64) : Int := (W.toNat : Int)
theorem ibShlW {x y z : AV} {k' : IntKind} {W V : BitVec 64} {s : Nat} (hx : denI iv x = some (.u64, wI W)) (hy : denI iv y = some (k', (s : Int))) (hz : denI iv z = some (.u64, wI V)) (hs : s < 64) (h : W <<< s = V) : IbOk iv (15, x, y, z) := by
  refine ibShl hx hy hz (by omega) ?_
  subst h
  have hm : min (s : Int).toNat IntKind.u64.bits = s := by show min (s : Int).toNat 64 = s; omega
  rw [hm]
  unfold IntKind.wrap IntKind.bits IntKind.signed
  simp only [Bool.false_and]
  show (W.toNat : Int) * 2 ^ s % 2 ^ 64 = ((W <<< s).toNat : Int)
  rw [BitVec.toNat_shiftLeft, Nat.shiftLeft_eq]
  simp
theorem ibShrW {x y z : AV} {k' : IntKind} {W V : BitVec 64} {s : Nat} (hx : denI iv x = some (.u64, wI W)) (hy : denI iv y = some (k', (s : Int))) (hz : denI iv z = some (.u64, wI V)) (hs : s < 64) (h : W >>> s = V) : IbOk iv (16, x, y, z) := by
  refine ibShr hx hy hz (by omega) ?_
  subst h
  have hm : min (s : Int).toNat IntKind.u64.bits = s := by show min (s : Int).toNat 64 = s; omega
  rw [hm, Int.fdiv_eq_ediv_of_nonneg _ (by exact Int.pow_nonneg (by decide))]
  show (W.toNat : Int) / 2 ^ s = ((W >>> s).toNat : Int)
  rw [BitVec.toNat_ushiftRight, Nat.shiftRight_eq_div_pow]
  simp
theorem ibAndW {x y z : AV} {W U V : BitVec 64} (hx : denI iv x = some (.u64, wI W)) (hy : denI iv y = some (.u64, wI U)) (hz : denI iv z = some (.u64, wI V)) (h : W &&& U = V) : IbOk iv (5, x, y, z) := by
  refine ibAnd hx hy hz ?_
  subst h; rw [ofIntU, ofIntU]; exact wrapU _
theorem ibOrW {x y z : AV} {W U V : BitVec 64} (hx : denI iv x = some (.u64, wI W)) (hy : denI iv y = some (.u64, wI U)) (hz : denI iv z = some (.u64, wI V)) (h : W ||| U = V) : IbOk iv (6, x, y, z) := by
  refine ibOr hx hy hz ?_
  subst h; rw [ofIntU, ofIntU]; exact wrapU _
theorem ibAndNotW {x y z : AV} {W U V : BitVec 64} (hx : denI iv x = some (.u64, wI W)) (hy : denI iv y = some (.u64, wI U)) (hz : denI iv z = some (.u64, wI V)) (h : W &&& ~~~U = V) : IbOk iv (8, x, y, z) := by
  refine ibAndNot hx hy hz ?_
  subst h; rw [ofIntU, ofIntU]; exact wrapU _
def numV (k : IntKind) (A : Nat) (e : Nat → Int) : Nat → Option AV := fun m => if m < A then some (.int k (e m)) else none
theorem numV_some {k : IntKind} {A : Nat} {e : Nat → Int} {m : Nat} {a : AV} (h : numV k A e m = some a) : m < A ∧ a = .int k (e m) := by
  unfold numV at h
  split at h
  · cases h; exact ⟨by assumption, rfl⟩
  · cases h
theorem numV_lt {k : IntKind} {A : Nat} {e : Nat → Int} {m : Nat} (h : m < A) : numV k A e m = some (.int k (e m)) := by unfold numV; rw [if_pos h]
theorem numV_plain {k : IntKind} {A : Nat} {e : Nat → Int} : ∀ m a, numV k A e m = some a → plain a = true := fun m a h => by
  obtain ⟨_, rfl⟩ := numV_some h; rfl
theorem numV_sub {k : IntKind} {A A' : Nat} {e e' : Nat → Int} (h : A' ≤ A) (he : ∀ m, m < A' → e' m = e m) : ∀ m a, numV k A' e' m = some a → numV k A e m = some a ∧ ∃ n, a = .int k n := fun m a ha => by
  obtain ⟨h1, rfl⟩ := numV_some ha
  rw [he m h1]
  exact ⟨numV_lt (by omega), _, rfl⟩
variable {vv : Nat → Nat → Option AV} {vk : Nat → Nat}
theorem vlN {r : VL} {K : IntKind} {k A : Nat} {e : Nat → Int} {b : AV} (hk : iv r.k = (.i64, (k : Int))) (h0 : vv r.i = numV K A e) (hl : r.l = [b]) (ho : k * r.z + r.f < A) (hb : denI iv b = some (K, e (k * r.z + r.f))) : VlOk iv vv r := by
  refine ⟨by rw [hk]; exact ⟨rfl, by simp⟩, fun m x hx => ?_⟩
  rw [hl] at hx
  have hm : m = 0 := by
    have := (List.getElem?_eq_some_iff.1 hx).1
    simpa using this
  subst hm
  simp at hx
  subst hx
  have e1 : (iv r.k).2.toNat = k := by rw [hk]; simp
  rw [e1, h0, Nat.add_zero]
  exact ⟨_, numV_lt ho, .inr ⟨_, rfl, hb⟩⟩
theorem vsN {r : VS} {K : IntKind} {k A : Nat} {e e' : Nat → Int} {b : AV} (hk : iv r.k = (.i64, (k : Int))) (h0 : vv r.i = numV K A e) (h1 : vv r.i' = numV K A e') (hv : vk r.i = A) (hv' : vk r.i' = A) (hl : r.l = [b]) (ho : k * r.z + r.f < A) (hb : denI iv b = some (K, e' (k * r.z + r.f))) (he : ∀ m, m < A → m ≠ k * r.z + r.f → e' m = e m) : VsOk iv vv vk r := by
  have e1 : (iv r.k).2.toNat = k := by rw [hk]; simp
  refine ⟨by rw [hk]; exact ⟨rfl, by simp⟩, by rw [e1, hl, hv]; simp; omega, by rw [hv, hv']; exact Nat.le_refl _, fun m x hx => ?_⟩
  rw [h1] at hx
  obtain ⟨hm, rfl⟩ := numV_some hx
  rw [e1, h0, hl]
  by_cases hmo : m = k * r.z + r.f
  · subst hmo
    rw [if_pos ⟨Nat.le_refl _, by simp⟩]
    simp only [Nat.sub_self]
    exact ⟨b, rfl, .inr ⟨_, hb, rfl⟩⟩
  · rw [if_neg (by simp; omega), numV_lt hm]
    exact ⟨_, rfl, .inl (by rw [he m hm hmo])⟩
theorem vnN {r : VN} {K : IntKind} {c : Nat} {e' : Nat → Int} (hc : iv r.k = (.i64, (c : Int))) (hb : iv r.j' = (.i64, (c : Int))) (h1 : vv r.i' = numV K c e') (hk : vk r.i' = c) (hz : r.z = 1) (hzc : r.zc = [.int K 0]) (h0 : 0 < c) (hl : c < 1000000) (hs : ∀ m, m < c → e' m = 0) : VnOk iv vv vk r := by
  refine ⟨by rw [hc]; exact ⟨rfl, by simp⟩, by rw [hc]; simpa using h0, by rw [hb, hc], by rw [hc]; simpa [limit] using hl, by rw [hk, hc, hz]; simp, fun m a ha => ?_⟩
  rw [h1] at ha
  obtain ⟨hm, rfl⟩ := numV_some ha
  refine ⟨by rw [hc, hz]; simpa using hm, .int K 0, ?_, .inl (by rw [hs m hm])⟩
  rw [hzc]; simp [Nat.mod_one]
def msk (S s : Nat) : BitVec 64 := BitVec.ofNat 64 (2 ^ S - 1) <<< s
def setW (S s : Nat) (W v : BitVec 64) : BitVec 64 := (W &&& ~~~msk S s) ||| ((v <<< s) &&& msk S s)
theorem msk_bit (S s i : Nat) (hi : i < 64) : (msk S s).getLsbD i = (decide (s ≤ i) && decide (i < s + S)) := by
  unfold msk
  rw [BitVec.getLsbD_shiftLeft, BitVec.getLsbD_ofNat, Nat.testBit_two_pow_sub_one]
  by_cases h1 : s ≤ i
  · have h2 : decide (i - s < S) = decide (i < s + S) := by congr 1; simp only [eq_iff_iff]; omega
    have h3 : i - s < 64 := by omega
    simp [hi, h1, h2, h3, show ¬ i < s from by omega]
  · simp [h1, show i < s from by omega]
theorem setW_bit (S s : Nat) (W v : BitVec 64) (i : Nat) (hi : i < 64) : (setW S s W v).getLsbD i = if s ≤ i ∧ i < s + S then v.getLsbD (i - s) else W.getLsbD i := by
  unfold setW
  rw [BitVec.getLsbD_or, BitVec.getLsbD_and, BitVec.getLsbD_and, BitVec.getLsbD_not, msk_bit S s i hi, BitVec.getLsbD_shiftLeft]
  by_cases h1 : s ≤ i ∧ i < s + S
  · simp [hi, h1.1, h1.2, show ¬ i < s from by omega]
  · rw [if_neg h1]
    by_cases h2 : s ≤ i
    · have : ¬ i < s + S := fun h => h1 ⟨h2, h⟩
      simp [hi, this]
    · simp [hi, h2, show i < s from by omega]
def upd (per S : Nat) (c : Nat → BitVec 64) (k : Nat) (v : BitVec 64) : Nat → BitVec 64 := fun m => if m = k / per then setW S (k % per * S) (c m) v else c m
def low (per S : Nat) (c : Nat → BitVec 64) (j : Nat) : BitVec S := (c (j / per) >>> (j % per * S)).setWidth S
theorem place_lt {per S j : Nat} (h : per * S = 64) : j % per * S + S ≤ 64 := by
  have hp : 0 < per := Nat.pos_of_ne_zero (by rintro rfl; simp at h)
  have h1 : j % per + 1 ≤ per := Nat.mod_lt _ hp
  have h2 := Nat.mul_le_mul_right S h1
  rw [Nat.add_mul, Nat.one_mul, h] at h2
  exact h2
theorem low_upd {per S : Nat} (h : per * S = 64) (c : Nat → BitVec 64) (k j : Nat) (v : BitVec 64) : low per S (upd per S c k v) j = if j = k then v.setWidth S else low per S c j := by
  have hj := place_lt (j := j) h
  have hk := place_lt (j := k) h
  have key : ∀ b, b < S → (low per S (upd per S c k v) j).getLsbD b = (if j = k then v.setWidth S else low per S c j).getLsbD b := by
    intro b hb
    unfold low upd
    rw [BitVec.getLsbD_setWidth, BitVec.getLsbD_ushiftRight]
    by_cases e : j / per = k / per
    · rw [if_pos e, setW_bit _ _ _ _ _ (by omega)]
      by_cases e2 : j = k
      · subst e2
        rw [if_pos (by omega), if_pos rfl, BitVec.getLsbD_setWidth]
        congr 2
        omega
      · have hp : 0 < per := Nat.pos_of_ne_zero (by rintro rfl; simp at h)
        have e3 : j % per ≠ k % per := fun e3 => e2 (by rw [← Nat.div_add_mod j per, ← Nat.div_add_mod k per, e, e3])
        have e4 : ¬ (k % per * S ≤ j % per * S + b ∧ j % per * S + b < k % per * S + S) := by
          rcases Nat.lt_or_gt_of_ne e3 with h1 | h1
          · have := Nat.mul_le_mul_right S (show j % per + 1 ≤ k % per from h1)
            rw [Nat.add_mul, Nat.one_mul] at this
            omega
          · have := Nat.mul_le_mul_right S (show k % per + 1 ≤ j % per from h1)
            rw [Nat.add_mul, Nat.one_mul] at this
            omega
        rw [if_neg e4, if_neg e2, BitVec.getLsbD_setWidth, BitVec.getLsbD_ushiftRight]
    · have e2 : j ≠ k := fun h' => e (by rw [h'])
      rw [if_neg e, if_neg e2, BitVec.getLsbD_setWidth, BitVec.getLsbD_ushiftRight]
  exact BitVec.eq_of_getLsbD_eq fun i hi => key i hi
def putsTo (per S : Nat) (f : Nat → BitVec 64) : Nat → Nat → BitVec 64
  | 0 => fun _ => 0
  | i + 1 => upd per S (putsTo per S f i) i (f i)
theorem low_puts {per S : Nat} (h : per * S = 64) (f : Nat → BitVec 64) : ∀ (n j : Nat), j < n → low per S (putsTo per S f n) j = (f j).setWidth S
  | 0, j, hj => by omega
  | n + 1, j, hj => by
    rw [putsTo, low_upd h]
    split
    · rename_i e; rw [e]
    · exact low_puts h f n j (by omega)
theorem low_mod {per S : Nat} (c : Nat → BitVec 64) (j : Nat) : (wI (c (j / per) >>> (j % per * S))) % 2 ^ S = ((low per S c j).toNat : Int) := by
  unfold low wI
  rw [BitVec.toNat_setWidth]
  simp
theorem setWidth_mod {S : Nat} (hS : S ≤ 64) (v : Int) : (((BitVec.ofInt 64 v).setWidth S).toNat : Int) = v % 2 ^ S := by
  rw [BitVec.toNat_setWidth, BitVec.toNat_ofInt]
  have hd : ((2 : Int) ^ S) ∣ 2 ^ 64 := ⟨2 ^ (64 - S), by rw [← Int.pow_add]; congr 1; omega⟩
  have h0 : (0 : Int) ≤ v % (2 ^ 64 : Nat) := Int.emod_nonneg _ (by decide)
  have : (((v % (2 ^ 64 : Nat)).toNat % 2 ^ S : Nat) : Int) = (v % (2 ^ 64 : Nat)) % 2 ^ S := by
    rw [Int.natCast_emod, Int.toNat_of_nonneg h0]; simp
  rw [this]
  exact Int.emod_emod_of_dvd v hd
end Go.X
set_option linter.unusedVariables false
set_option linter.unusedSimpArgs false
set_option linter.unusedSectionVars false
namespace Go.X
open Go.RowKit
variable {P : Program} {B : Kp} {w0 : World} {nt : Nat} {a : Act} {w : World}
def Done [Tab] (P : Program) (fn : Func) (B : Kp) (w0 : World) (μ : M) (v : AV) (h' : H) (e : Exit) (a : Act) (w : World) : Prop :=
  (e = .normal ∨ e = .ret) ∧ a.defers = [] ∧ ∃ v' μ', (results fn a.tmps).run P w = .ok v' w ∧ Ext μ μ' ∧ vrel μ' v v' ∧ HR B w0 μ' h' w
theorem St.done [τ : Tab] {fn : Func} {fr : Fr} {h : H} {v : AV} {μ : M} {e : Ex} (he : e = .normal ∨ e = .ret) (hl : results? P fn fr h = some v) (s : St τ B w0 μ fn.ntmps fr h a w) : Done P fn B w0 μ v h e.to a w := by
  obtain ⟨μ', hx, f, r⟩ := s
  obtain ⟨v', k1, k2⟩ := results_sound (P := P) f r hl
  refine ⟨?_, f.2.1, v', μ', k1, hx, k2, r⟩
  rcases he with rfl | rfl
  · exact .inl rfl
  · exact .inr rfl
theorem Base.of [Tab] {μ : M} {h : H} (r : HR B w0 μ h w) : Base B μ h.next :=
  ⟨fun x l hl => by
    rcases Nat.lt_or_ge x h.next with h1 | h1
    · exact h1
    · have := (r.fresh x h1).2
      rw [hl] at this; simp at this, fun x hx => (r.res x hx).1⟩
theorem callOk_of [τ : Tab] {f : FuncId} {fn : Func} {body : Code} {args : List AV} {h h' : H} {v : AV} (hf : P.funcs[f]? = some fn) (hb : fn.body = some body) (hl : args.length ≤ fn.ntmps) (hlim : args.length < limit)
    (H : ∀ B w0 μ a w, Base B μ h.next → St τ B w0 μ fn.ntmps (T.ofList 0 .leaf args) h a w → body.wp P (Done P fn B w0 μ v h') a w) : CallOk P f args h (v, h') := by
  intro B w0 μ w args' r ha
  have hlen : args'.size = args.length := by rw [← Array.length_toList, vrels_length ha]
  refine calls_of_wp hf hb (wp_mono (H B w0 μ _ w (Base.of r) ⟨μ, Ext.refl _, ⟨?_, rfl, fun t v ht => ?_⟩, r⟩) ?_)
  · simp; omega
  · rw [T.get_ofList _ _ _ _ (by unfold limit at hlim; omega)] at ht
    split at ht
    · simp only [Nat.sub_zero] at ht
      obtain ⟨v', g1, g2⟩ := vrels_get ha ht
      refine ⟨v', ?_, g2⟩
      rw [Array.getElem?_append_left (by omega), ← Array.getElem?_toList]
      exact g1
    · simp at ht
  · rintro e' a' w' ⟨he, hd, v', μ', h1, h2, h3, h4⟩
    rcases he with rfl | rfl
    · exact ⟨hd, v', h1, v', μ', rfl, h2, h3, h4⟩
    · exact ⟨hd, v', h1, v', μ', rfl, h2, h3, h4⟩
noncomputable def heq (h h' : H) : Bool := Nat.beq h.next h'.next && h.t.same beq? h'.t
theorem heq_eq [Tab] {h h' : H} (e : heq h h' = true) : h = h' := by
  unfold heq at e
  simp only [Bool.and_eq_true] at e
  cases h; cases h'
  simp only [nbeq_iff] at e
  rw [e.1, T.same_eq (fun _ _ => beq_eq) _ _ e.2]
noncomputable def handAt (g : FuncId) (xs : List AV) (k : H) (p : AV × H) : Hand := fun f args h =>
  Bool.rec none (Bool.rec none (Bool.rec none (some p) (heq k h)) (veqs xs args)) (Nat.beq g f)
theorem handAt_ok [Tab] {g : FuncId} {xs : List AV} {k : H} {p : AV × H} (hk : CallOk P g xs k p) : HandOk P (handAt g xs k p) := by
  intro f args h q e
  have e' : (Bool.rec none (Bool.rec none (Bool.rec none (some p) (heq k h)) (veqs xs args)) (Nat.beq g f) : Option (AV × H)) = some q := e
  cases h1 : Nat.beq g f with
  | false => rw [h1] at e'; cases e'
  | true =>
  cases h2 : veqs xs args with
  | false => rw [h1, h2] at e'; cases e'
  | true =>
  cases h3 : heq k h with
  | false => rw [h1, h2, h3] at e'; cases e'
  | true =>
    rw [h1, h2, h3] at e'
    cases e'
    rw [← nbeq_iff.1 h1, ← veqs_eq h2, ← heq_eq h3]
    exact hk
end Go.X
set_option linter.unusedVariables false
set_option linter.unusedSimpArgs false
set_option linter.unusedSectionVars false
namespace Go.X
open Go.RowKit
structure Fgn where
  fb : Nat → Nat × Nat
  fcap : Nat → Nat
  fv : Nat → Nat → Option AV
abbrev FlOk (iv : Nat → IntKind × Int) (F : Fgn) (r : VL) : Prop := isLen (iv r.k) ∧ ∀ m b, r.l[m]? = some b → ∃ a, F.fv r.i ((iv r.k).2.toNat * r.z + r.f + m) = some a ∧ sameAV iv a b
variable {iv : Nat → IntKind × Int} {vv : Nat → Nat → Option AV} {vk : Nat → Nat}
abbrev VRows.ftab (R : VRows iv vv vk) (F : Fgn) (fl : List VL) (flok : ∀ r ∈ fl, FlOk iv F r) : Tab :=
  { R.tab with fb := F.fb, fcap := F.fcap, fv := F.fv, fl := fl, flok := flok, vb := [], vbok := by exact fun _ h => nomatch h }
theorem VRows.fsame (R R' : VRows iv vv vk) (F : Fgn) (fl fl' : List VL) (h : ∀ r ∈ fl, FlOk iv F r) (h' : ∀ r ∈ fl', FlOk iv F r) : SameTab (R.ftab F fl h) (R'.ftab F fl' h') := ⟨rfl, rfl, rfl, rfl, rfl, rfl, rfl, rfl, rfl⟩
def intF (k : IntKind) (A : Nat) (e : Nat → Int) : Nat → Option AV := numV k A e
theorem flN {F : Fgn} {r : VL} {K : IntKind} {k A : Nat} {e : Nat → Int} (hk : iv r.k = (.i64, (k : Int))) (h0 : F.fv r.i = numV K A e) (ho : k * r.z + r.f + r.l.length ≤ A) (hb : ∀ m b, r.l[m]? = some b → denI iv b = some (K, e (k * r.z + r.f + m))) : FlOk iv F r := by
  refine ⟨by rw [hk]; exact ⟨rfl, by simp⟩, fun m x hx => ?_⟩
  have hm := (List.getElem?_eq_some_iff.1 hx).1
  have e1 : (iv r.k).2.toNat = k := by rw [hk]; simp
  rw [e1, h0]
  exact ⟨_, numV_lt (by omega), .inr ⟨_, rfl, hb m x hx⟩⟩
theorem glF {T T' : Tab} {B : Kp} {w0 : World} (h : T'.gv = fun _ _ => none) (h1 : T.fb = T'.fb) (h2 : T.fv = T'.fv) (h3 : ∀ i m a, T'.fv i m = some a → ∃ k n, a = .int k n) : @Gl T B w0 → @Gl T' B w0 := fun g =>
  ⟨fun g o a hg => (by rw [h] at hg; cases hg), fun i m a hg => (by
    obtain ⟨k, n, rfl⟩ := h3 i m a hg
    obtain ⟨h4, v, h5, h6⟩ := g.2 i m _ (by rw [h2]; exact hg)
    rw [← h1]
    exact ⟨h4, v, h5, by simp only [vrel] at h6 ⊢; exact h6⟩)⟩
end Go.X
set_option linter.unusedVariables false
set_option linter.unusedSimpArgs false
set_option linter.unusedSectionVars false
namespace Go.X
open Go.RowKit
variable {P : Program}
theorem HR.grow [Tab] {B : Kp} {w0 w w' : World} {μ : M} {h : H} (r : HR B w0 μ h w) (hw : Below w.heap.size w w') : HR B w0 μ h w' where
  below := r.below.below hw
  fresh := r.fresh
  res := r.res
  blk x b hx := by
    obtain ⟨l, h1, h2, h3, h4⟩ := r.blk x b hx
    exact ⟨l, h1, h2, h3, h4.congr (hw.block _ h4.lt)⟩
  sep := r.sep
theorem callStr_ok [Tab] {f : FuncId} {args : List AV} {vs : List Value} {n c : Nat}
    (hc : c < 256 ^ n) (ha : ∀ (μ : M) (l : List Value), vrels μ args l → l = vs)
    (hk : ∀ (w : World), (∀ g o a, Tab.gv g o = some a → ∃ v, w.cell? ⟨g, o, none⟩ = some v ∧ (vrel (fun _ => none) a v ∧ (Tab.gv g (o + 1) = none → w.cell? ⟨g, o + 1, none⟩ = none))) → Calls P f vs.toArray w fun e w' => e = .returned (.string (strOf n c)) ∧ Below w.heap.size w w') (h : H) :
    CallOk P f args h (.str n c, h) := by
  intro B w0 μ w args' r hv
  have e : args' = vs.toArray := by
    cases args' with
    | mk l => rw [ha μ l hv]
  subst e
  refine (hk w fun g o a hg => (r.below.glbs hg).2).mono ?_
  rintro e w' ⟨rfl, hb⟩
  exact ⟨_, μ, rfl, Ext.refl _, by simp only [vrel]; exact ⟨hc, trivial⟩, r.grow hb⟩
theorem callTxt_ok [Tab] {f : FuncId} {args : List AV} {vs : List Value} {i : Nat}
    (ha : ∀ (μ : M) (l : List Value), vrels μ args l → l = vs)
    (hk : ∀ (w : World), (∀ g o a, Tab.gv g o = some a → ∃ v, w.cell? ⟨g, o, none⟩ = some v ∧ (vrel (fun _ => none) a v ∧ (Tab.gv g (o + 1) = none → w.cell? ⟨g, o + 1, none⟩ = none))) → Calls P f vs.toArray w fun e w' => e = .returned (.string (Tab.str i)) ∧ Below w.heap.size w w') (h : H) :
    CallOk P f args h (.ostr i, h) := by
  intro B w0 μ w args' r hv
  have e : args' = vs.toArray := by
    cases args' with
    | mk l => rw [ha μ l hv]
  subst e
  refine (hk w fun g o a hg => (r.below.glbs hg).2).mono ?_
  rintro e w' ⟨rfl, hb⟩
  exact ⟨_, μ, rfl, Ext.refl _, by simp only [vrel], r.grow hb⟩
end Go.X
set_option linter.unusedVariables false
set_option linter.unusedSimpArgs false
set_option linter.unusedSectionVars false
namespace Go.X
open Go.RowKit
variable {P : Program}
theorem CallOk.frame [Tab] {f : FuncId} {args : List AV} {h k h' : H} {p : AV × H} (hc : CallOk P f args k p) (hn : k.next = h.next) (hs : ∀ x b, k.get x = some b → h.get x = some b)
    (hn' : h'.next = p.2.next) (hg : ∀ x b, h'.get x = some b → p.2.get x = some b ∨ (k.get x = none ∧ h.get x = some b)) : CallOk P f args h (p.1, h') := by
  intro B w0 μ w args' r ha
  let E : Nat → Prop := fun j => ∃ x b l, h.get x = some b ∧ k.get x = none ∧ own b = true ∧ μ x = some l ∧ l.block = j
  let B' : Kp := ⟨fun j => B.kept j ∨ E j, B.glob, fun j hj => .inl (B.sub j hj), B.res⟩
  have r' : HR B' w μ k w := by
    refine ⟨⟨rfl, rfl, rfl, Nat.le_refl _, fun _ _ => rfl, ?_, ?_⟩, ?_, ?_, ?_, ?_⟩
    · rintro j (hb | ⟨x, b, l, h1, _, _, h4, h5⟩)
      · exact Nat.lt_of_lt_of_le (r.below.old j hb) r.below.size
      · obtain ⟨l2, g1, _, _, g4⟩ := r.blk x b h1
        rw [h4] at g1; cases g1
        rw [← h5]; exact g4.lt
    · exact ⟨fun g o a hg => let ⟨h1, v, h2, h3⟩ := r.below.glbs hg; ⟨.inl h1, v, h2, h3⟩, fun i m a hg => let ⟨h1, v, h2, h3⟩ := r.below.frgn hg; ⟨.inl h1, v, h2, h3⟩⟩
    · intro x hx
      rw [hn] at hx
      obtain ⟨h1, h2⟩ := r.fresh x hx
      refine ⟨?_, h2⟩
      cases hk : k.get x with
      | none => rfl
      | some b => rw [hs x b hk] at h1; cases h1
    · intro x hx; rw [hn]; exact r.res x hx
    · intro x b hx
      obtain ⟨l, g1, g2, g3, g4⟩ := r.blk x b (hs x b hx)
      refine ⟨l, g1, fun ho => ?_, g3, g4⟩
      rintro (hb | ⟨y, c, m, h1, h2, h3, h4, h5⟩)
      · exact g2 ho hb
      · have hne : x ≠ y := by rintro rfl; rw [hx] at h2; cases h2
        exact r.sep x y b c l m (hs x b hx) h1 hne ho h3 g1 h4 h5.symm
    · intro x y b c l m hx hy
      exact r.sep x y b c l m (hs x b hx) (hs y c hy)
  refine (hc B' w μ w args' r' ha).mono ?_
  rintro e w' ⟨v', μ', rfl, hx, hv, r1⟩
  have keep : ∀ x b, h.get x = some b → k.get x = none → ∃ l, μ x = some l ∧ μ' x = some l ∧ (own b = true → ¬ B.kept l.block ∧ B'.kept l.block) ∧ (own b = false → B.glob l.block) ∧ brel μ' b l w' := by
    intro x b h1 h2
    obtain ⟨l, g1, g2, g3, g4⟩ := r.blk x b h1
    refine ⟨l, g1, hx _ _ g1, fun ho => ⟨g2 ho, .inr ⟨x, b, l, h1, h2, ho, g1, rfl⟩⟩, g3, ?_⟩
    have hw : w'.heap[l.block]? = w.heap[l.block]? := by
      apply r1.below.block
      cases ho : own b with
      | true => exact .inr ⟨x, b, l, h1, h2, ho, g1, rfl⟩
      | false => exact .inl (B.sub _ (g3 ho))
    exact (g4.congr hw).ext hx
  refine ⟨v', μ', rfl, hx, hv, ⟨r1.below.os.trans r.below.os, r1.below.tape.trans r.below.tape, r1.below.output.trans r.below.output, Nat.le_trans r.below.size r1.below.size, fun j hj => (r1.below.block j (.inl hj)).trans (r.below.block j hj), r.below.old, r.below.glb⟩, ?_, ?_, ?_, ?_⟩
  · intro x hx'
    have hx2 : p.2.next ≤ x := by rw [← hn']; exact hx'
    obtain ⟨g1, g2⟩ := r1.fresh x hx2
    refine ⟨?_, g2⟩
    cases hh : H.get h' x with
    | none => rfl
    | some b =>
      rcases hg x b hh with h1 | ⟨h1, h2⟩
      · rw [g1] at h1; cases h1
      · obtain ⟨l, _, h3, _⟩ := keep x b h2 h1
        rw [g2] at h3; cases h3
  · intro x hr
    have := r1.res x hr
    exact ⟨by show x < h'.next; rw [hn']; exact this.1, this.2⟩
  · intro x b hb
    rcases hg x b hb with h1 | ⟨h1, h2⟩
    · obtain ⟨l, g1, g2, g3, g4⟩ := r1.blk x b h1
      exact ⟨l, g1, fun ho hk => g2 ho (.inl hk), g3, g4⟩
    · obtain ⟨l, _, h3, h4, h5, h6⟩ := keep x b h2 h1
      exact ⟨l, h3, fun ho => (h4 ho).1, h5, h6⟩
  · intro x y b c l m hb hc' hne ho ho' hl hm
    rcases hg x b hb with h1 | ⟨h1, h2⟩
    · rcases hg y c hc' with g1 | ⟨g1, g2⟩
      · exact r1.sep x y b c l m h1 g1 hne ho ho' hl hm
      · obtain ⟨l2, _, h3, h4, _⟩ := keep y c g2 g1
        rw [hm] at h3; cases h3
        obtain ⟨l3, k1, k2, _⟩ := r1.blk x b h1
        rw [hl] at k1; cases k1
        intro e
        exact k2 ho (e ▸ (h4 ho').2)
    · obtain ⟨l2, h3, h4, h5, _⟩ := keep x b h2 h1
      rw [hl] at h4; cases h4
      rcases hg y c hc' with g1 | ⟨g1, g2⟩
      · obtain ⟨l3, k1, k2, _⟩ := r1.blk y c g1
        rw [hm] at k1; cases k1
        intro e
        exact k2 ho' (e ▸ (h5 ho).2)
      · obtain ⟨l4, k3, k4, k5, _⟩ := keep y c g2 g1
        rw [hm] at k4; cases k4
        exact r.sep x y b c l m h2 g2 hne ho ho' h3 k3
abbrev BL := List (Nat × Blk)
noncomputable def hIn (N : Nat) (bs : BL) : H := fT (ofPairs bs) fun t => ⟨N, t⟩
noncomputable def hasAll (h : H) (bs : BL) : Bool :=
  List.rec (motive := fun _ => Bool) true (fun p _ ih => Bool.rec false ih (Option.rec false (fun b => beq? p.2 b) (h.get p.1))) bs
noncomputable def dropAll (t : T Blk) (bs : BL) : T Blk :=
  List.rec (motive := fun _ => T Blk → T Blk) (fun t => t) (fun p _ ih t => fT (t.erase p.1) ih) bs t
noncomputable def layAll (t : T Blk) (bs : BL) : T Blk :=
  List.rec (motive := fun _ => T Blk → T Blk) (fun t => t) (fun p _ ih t => fT (t.put p.1 p.2) ih) bs t
structure In where
  f : FuncId
  xs : List AV
  N : Nat
  bs : BL
  v : AV
  N' : Nat
  bs' : BL
noncomputable def inHand (c : In) : Hand := fun f args h =>
  Bool.rec none (Bool.rec none (Bool.rec none (Bool.rec none (some (c.v, fT (dropAll h.t c.bs) fun t => fT (layAll t c.bs') fun t => ⟨c.N', t⟩)) (hasAll h c.bs)) (Nat.beq h.next c.N)) (veqs c.xs args)) (Nat.beq c.f f)
noncomputable def okLim (bs : BL) : Bool := List.rec (motive := fun _ => Bool) true (fun p _ ih => Bool.rec false ih (Nat.blt p.1 limit)) bs
structure InOk (P : Program) (c : In) [Tab] : Prop where
  lim : okLim c.bs' = true
  run : ∃ h', CallOk P c.f c.xs (hIn c.N c.bs) (c.v, h') ∧ c.N' = h'.next ∧ hasAll h' c.bs' = true
theorem hasAll_mem [Tab] {h : H} : ∀ {bs : BL}, hasAll h bs = true → ∀ q ∈ bs, h.get q.1 = some q.2
  | [], _, q, hq => by simp at hq
  | p :: l, e, q, hq => by
    have e' : (@Bool.rec (fun _ => Bool) false (hasAll h l) (@Option.rec _ (fun _ => Bool) false (fun b => beq? p.2 b) (h.get p.1))) = true := e
    cases hp : h.get p.1 with
    | none => rw [hp] at e'; cases e'
    | some b =>
      cases hb : beq? p.2 b with
      | false => rw [hp] at e'; simp only [hb] at e'; cases e'
      | true =>
        rw [hp] at e'; simp only [hb] at e'
        rcases List.mem_cons.1 hq with rfl | hq
        · rw [hp, beq_eq hb]
        · exact hasAll_mem e' q hq
theorem okLim_mem [Tab] : ∀ {bs : BL}, okLim bs = true → ∀ q ∈ bs, q.1 < limit
  | [], _, q, hq => by simp at hq
  | p :: l, e, q, hq => by
    have e' : (@Bool.rec (fun _ => Bool) false (okLim l) (Nat.blt p.1 limit)) = true := e
    cases hp : Nat.blt p.1 limit with
    | false => rw [hp] at e'; cases e'
    | true =>
      rw [hp] at e'
      rcases List.mem_cons.1 hq with rfl | hq
      · exact blt_iff.1 hp
      · exact okLim_mem e' q hq
theorem dropAll_get : ∀ (bs : BL) (t : T Blk) (x : Nat) (b : Blk), (dropAll t bs).get x = some b → (∀ q ∈ bs, q.1 ≠ x) ∧ t.get x = some b
  | [], t, x, b, h => ⟨fun q hq => by simp at hq, h⟩
  | p :: l, t, x, b, h => by
    have h' : (dropAll (t.erase p.1) l).get x = some b := by
      have : dropAll t (p :: l) = fT (t.erase p.1) fun t => dropAll t l := rfl
      rw [this, fT_eq] at h; exact h
    obtain ⟨h1, h2⟩ := dropAll_get l _ x b h'
    rw [T.get_erase] at h2
    by_cases e : x = p.1
    · rw [if_pos e] at h2; cases h2
    · rw [if_neg e] at h2
      refine ⟨fun q hq => ?_, h2⟩
      rcases List.mem_cons.1 hq with rfl | hq
      · exact fun e2 => e e2.symm
      · exact h1 q hq
theorem layAll_get : ∀ (bs : BL) (t : T Blk) (x : Nat) (b : Blk), (∀ q ∈ bs, q.1 < limit) → (layAll t bs).get x = some b → (x, b) ∈ bs ∨ t.get x = some b
  | [], t, x, b, _, h => .inr h
  | p :: l, t, x, b, hl, h => by
    have h' : (layAll (t.put p.1 p.2) l).get x = some b := by
      have : layAll t (p :: l) = fT (t.put p.1 p.2) fun t => layAll t l := rfl
      rw [this, fT_eq] at h; exact h
    rcases layAll_get l _ x b (fun q hq => hl q (List.mem_cons_of_mem _ hq)) h' with h1 | h1
    · exact .inl (List.mem_cons_of_mem _ h1)
    · rw [T.get_put _ _ _ _ (by have := hl p List.mem_cons_self; unfold limit at this; omega)] at h1
      by_cases e : x = p.1
      · rw [if_pos e] at h1; cases h1; subst e; exact .inl List.mem_cons_self
      · rw [if_neg e] at h1; exact .inr h1
theorem hIn_get [Tab] {N : Nat} {bs : BL} (hlim : ∀ q ∈ bs, q.1 < limit) {x : Nat} {b : Blk} (h : (hIn N bs).get x = some b) : (x, b) ∈ bs := by
  unfold hIn at h
  rw [fT_eq] at h
  exact ofPairs_get hlim h
theorem hIn_none [Tab] {N : Nat} {bs : BL} (hlim : ∀ q ∈ bs, q.1 < limit) {x : Nat} (h : ∀ q ∈ bs, q.1 ≠ x) : (hIn N bs).get x = none := by
  cases hg : (hIn N bs).get x with
  | none => rfl
  | some b => exact absurd rfl (h _ (hIn_get hlim hg))
theorem inHand_ok [Tab] {c : In} (o : InOk P c) (hlim : okLim c.bs = true) : HandOk P (inHand c) := by
  intro f args h q e
  have e' : (Bool.rec none (Bool.rec none (Bool.rec none (Bool.rec none (some (c.v, fT (dropAll h.t c.bs) fun t => fT (layAll t c.bs') fun t => ⟨c.N', t⟩)) (hasAll h c.bs)) (Nat.beq h.next c.N)) (veqs c.xs args)) (Nat.beq c.f f) : Option (AV × H)) = some q := e
  cases h1 : Nat.beq c.f f with
  | false => rw [h1] at e'; cases e'
  | true =>
  cases h2 : veqs c.xs args with
  | false => rw [h1, h2] at e'; cases e'
  | true =>
  cases h3 : Nat.beq h.next c.N with
  | false => rw [h1, h2, h3] at e'; cases e'
  | true =>
  cases h4 : hasAll h c.bs with
  | false => rw [h1, h2, h3, h4] at e'; cases e'
  | true =>
    rw [h1, h2, h3, h4] at e'
    rw [fT_eq, fT_eq] at e'
    cases e'
    obtain ⟨hh, g1, g2, g3⟩ := o.run
    rw [← nbeq_iff.1 h1, ← veqs_eq h2]
    have hl := okLim_mem hlim
    have hm := hasAll_mem h4
    refine CallOk.frame (p := (c.v, hh)) g1 ?_ ?_ ?_ ?_
    · rw [nbeq_iff.1 h3]; unfold hIn; rw [fT_eq]
    · intro x b hx
      exact hm _ (hIn_get hl hx)
    · exact g2
    · intro x b hx
      rcases layAll_get c.bs' _ x b (okLim_mem o.lim) hx with k1 | k1
      · exact .inl (hasAll_mem g3 _ k1)
      · obtain ⟨k2, k3⟩ := dropAll_get c.bs _ x b k1
        exact .inr ⟨hIn_none hl k2, k3⟩
noncomputable def inRun (P : Program) [Tab] (K : Hand) (n : Nat) (c : In) : Bool :=
  Option.rec false (fun p => veq c.v p.1 && (Nat.beq c.N' p.2.next && hasAll p.2 c.bs')) (call P K n c.f c.xs (hIn c.N c.bs))
theorem InOk.of_run [Tab] {K : Hand} (hm : P.follows .mixedOrders = true) (hK : HandOk P K) {n : Nat} {c : In} (hl : okLim c.bs' = true) (e : inRun P K n c = true) : InOk P c := by
  unfold inRun at e
  cases h1 : call P K n c.f c.xs (hIn c.N c.bs) with
  | none => rw [h1] at e; cases e
  | some p =>
    rw [h1] at e
    simp only [Bool.and_eq_true] at e
    obtain ⟨e1, e2, e3⟩ := e
    refine ⟨hl, p.2, ?_, nbeq_iff.1 e2, e3⟩
    rw [veq_eq e1]
    exact call_sound hm hK h1
end Go.X
set_option linter.unusedVariables false
set_option linter.unusedSimpArgs false
set_option linter.unusedSectionVars false
namespace Go.X
open Go.RowKit
theorem wrap32 {n : Int} (h1 : -2147483648 ≤ n) (h2 : n ≤ 2147483647) : IntKind.i32.wrap n = n := by
  have hb : IntKind.i32.bits = 32 := rfl
  have hs : IntKind.i32.signed = true := rfl
  unfold IntKind.wrap
  simp only [hb, hs]
  by_cases h : 0 ≤ n
  · have e : n % 2 ^ 32 = n := Int.emod_eq_of_lt h (by omega)
    rw [e]
    simp
    omega
  · have e : n % 2 ^ 32 = n + 2 ^ 32 := by omega
    rw [e]
    simp
    omega
theorem ic32 {iv : Nat → IntKind × Int} {k : IntKind} {x y : AV} {n : Int} (hx : denI iv x = some (k, n)) (hy : denI iv y = some (.i32, n)) (h1 : -2147483648 ≤ n) (h2 : n ≤ 2147483647) : ∃ k' m, denI iv ((IntKind.i32, x, y) : IntKind × AV × AV).2.1 = some (k', m) ∧ denI iv ((IntKind.i32, x, y) : IntKind × AV × AV).2.2 = some (.i32, IntKind.i32.wrap m) :=
  ⟨k, n, hx, by rw [wrap32 h1 h2]; exact hy⟩
abbrev IcOk' (iv : Nat → IntKind × Int) (r : IntKind × AV × AV) : Prop := ∃ k n, denI iv r.2.1 = some (k, n) ∧ denI iv r.2.2 = some (r.1, r.1.wrap n)
theorem icNil {iv : Nat → IntKind × Int} : ∀ r ∈ ([] : List (IntKind × AV × AV)), IcOk' iv r := fun r h => by simp at h
theorem icCons {iv : Nat → IntKind × Int} {r : IntKind × AV × AV} {l : List (IntKind × AV × AV)} (h : IcOk' iv r) (k : ∀ r ∈ l, IcOk' iv r) : ∀ q ∈ r :: l, IcOk' iv q := fun q hq => by
  simp only [List.mem_cons] at hq
  rcases hq with rfl | hq
  · exact h
  · exact k q hq
theorem tmod_lo {a : Int} {n : Int} (h : 0 < n) : -n < a.tmod n := by
  have := Int.lt_tmod_of_pos a h; omega
theorem tmod_hi {a : Int} {n : Int} (h : 0 < n) : a.tmod n < n := Int.tmod_lt_of_pos a h
end Go.X
set_option linter.unusedVariables false
set_option linter.unusedSimpArgs false
set_option linter.unusedSectionVars false
namespace Go.X
open Go.RowKit
structure Txts (iv : Nat → IntKind × Int) where
  str : Nat → ByteArray
  ne : Nat → List (Nat × Nat) := fun _ => []
  ok : ∀ i p, p ∈ ne i → p.2 < 256 ^ p.1 → str i ≠ strOf p.1 p.2 := by exact fun _ _ h => nomatch h
  tr : List (Nat × List AV × AV) := []
  trok : ∀ r ∈ tr, TrOk str iv r.1 r.2.1 r.2.2 := by exact fun _ h => nomatch h
variable {iv : Nat → IntKind × Int} {vv : Nat → Nat → Option AV} {vk : Nat → Nat}
abbrev VRows.ttab (R : VRows iv vv vk) (X : Txts iv) : Tab := { R.tab with str := X.str, ne := X.ne, ok := X.ok, tr := X.tr, trok := X.trok, vt := [], vtok := fun _ h => nomatch h }
variable {str : Nat → ByteArray}
abbrev TRow := Nat × List AV × AV
theorem txNil : ∀ r ∈ ([] : List TRow), TrOk str iv r.1 r.2.1 r.2.2 := fun r h => by simp at h
theorem txCons {r : TRow} {l : List TRow} (h : TrOk str iv r.1 r.2.1 r.2.2) (k : ∀ r ∈ l, TrOk str iv r.1 r.2.1 r.2.2) : ∀ q ∈ r :: l, TrOk str iv q.1 q.2.1 q.2.2 := fun q hq => by
  simp only [List.mem_cons] at hq
  rcases hq with rfl | hq
  · exact h
  · exact k q hq
theorem denS_str {n c : Nat} (h : c < 256 ^ n) : denS str (.str n c) = some (strOf n c) := by simp only [denS]; rw [if_pos h]
def bytesI (l : List Int) : ByteArray := ⟨⟨l.map fun n => UInt8.ofNat n.toNat⟩⟩
theorem tr6 {l : List AV} {ns : List Int} {v : AV} (h : l.map (denI iv) = ns.map fun n => some (.u8, n)) (hb : ∀ n ∈ ns, 0 ≤ n ∧ n < 256) (hv : denS str v = some (bytesI ns)) : TrOk str iv 6 l v := by
  refine ⟨ns.map fun (n : Int) => UInt8.ofNat n.toNat, ?_, hv⟩
  rw [h, List.map_map]
  apply List.map_congr_left
  intro n hn
  obtain ⟨h0, h1⟩ := hb n hn
  simp only [Function.comp, UInt8.toNat_ofNat']
  congr 2
  omega
theorem tr3 {s t v : AV} {a b : ByteArray} (ha : denS str s = some a) (hb : denS str t = some b) (hs : a.size + b.size < 1000000) (hv : denS str v = some (a ++ b)) : TrOk str iv 3 [s, t] v := ⟨a, b, ha, hb, hs, hv⟩
theorem tr4 {s t : AV} {a b : ByteArray} {e : Bool} (ha : denS str s = some a) (hb : denS str t = some b) (h : e = true ↔ a = b) : TrOk str iv 4 [s, t] (.bool e) := ⟨a, b, e, ha, hb, rfl, h⟩
theorem bytesI_inj {l m : List Int} (hl : ∀ n ∈ l, 0 ≤ n ∧ n < 256) (hm : ∀ n ∈ m, 0 ≤ n ∧ n < 256) (h : bytesI l = bytesI m) : l = m := by
  have h : (l.map fun n => UInt8.ofNat n.toNat) = m.map fun n => UInt8.ofNat n.toNat := by
    have := congrArg (fun b : ByteArray => b.data.toList) h
    simpa [bytesI] using this
  have g : ∀ {l : List Int}, (∀ n ∈ l, 0 ≤ n ∧ n < 256) → (l.map fun n => UInt8.ofNat n.toNat).map (fun b => (b.toNat : Int)) = l := by
    intro l hl
    rw [List.map_map]
    conv => rhs; rw [← List.map_id l]
    apply List.map_congr_left
    intro n hn
    obtain ⟨h0, h1⟩ := hl n hn
    simp only [Function.comp, UInt8.toNat_ofNat', id]
    omega
  rw [← g hl, ← g hm, h]
theorem bytesI_append (l m : List Int) : bytesI l ++ bytesI m = bytesI (l ++ m) := by
  apply ByteArray.ext
  apply Array.ext'
  simp [bytesI]
theorem bytesI_size (l : List Int) : (bytesI l).size = l.length := by simp [bytesI, ByteArray.size]
theorem strOf_bytesI (n c : Nat) : strOf n c = bytesI ((dec n c).map fun (k : Nat) => (k : Int)) := by
  unfold strOf bytesI
  rw [List.map_map]
  congr 2
end Go.X
set_option linter.unusedVariables false
set_option linter.unusedSimpArgs false
set_option linter.unusedSectionVars false
namespace Go.X
noncomputable def Hand.at (g : FuncId) (K : Hand) : Hand := fun f args h => Bool.rec Option.none (K f args h) (Nat.beq g f)
theorem HandOk.at [Tab] {P : Program} {K : Hand} (g : FuncId) (hK : HandOk P K) : HandOk P (Hand.at g K) := by
  intro f args h p e
  have e' : (Bool.rec Option.none (K f args h) (Nat.beq g f) : Option (AV × H)) = some p := e
  cases h1 : Nat.beq g f with
  | false => rw [h1] at e'; cases e'
  | true => rw [h1] at e'; exact hK _ _ _ _ e'
noncomputable def Hand.sp (N : Nat) (K L : Hand) : Hand := fun f args h => Bool.rec (L f args h) (K f args h) (Nat.blt h.next N)
theorem HandOk.sp [Tab] {P : Program} {K L : Hand} (N : Nat) (hK : HandOk P K) (hL : HandOk P L) : HandOk P (Hand.sp N K L) := by
  intro f args h p e
  have e' : (Bool.rec (L f args h) (K f args h) (Nat.blt h.next N) : Option (AV × H)) = some p := e
  cases h1 : Nat.blt h.next N with
  | false => rw [h1] at e'; exact hL _ _ _ _ e'
  | true => rw [h1] at e'; exact hK _ _ _ _ e'
end Go.X
set_option linter.unusedVariables false
set_option linter.unusedSimpArgs false
set_option linter.unusedSectionVars false
namespace Go.X
open Go.RowKit
variable {P : Program}
theorem SameTab.symm {T T' : Tab} (e : SameTab T T') : SameTab T' T := ⟨e.rv.symm, e.iv.symm, e.str.symm, e.vv.symm, e.vk.symm, e.gv.symm, e.fb.symm, e.fcap.symm, e.fv.symm⟩
theorem HR.tab {T T' : Tab} (e : SameTab T T') {B : Kp} {w0 w : World} {μ : M} {h : H} (r : @HR T B w0 μ h w) : @HR T' B w0 μ h w := by
  have hf := @HR.fresh T B w0 μ h w r
  obtain ⟨⟨e1, e2, e3, e4, e5, e6⟩, eg, eres, eblk, esep⟩ := @HR.parts B w0 w T μ h r
  refine ⟨⟨e1, e2, e3, e4, e5, e6, Gl.tab e eg⟩, hf, eres, fun x b hb => ?_, esep⟩
  obtain ⟨l, g1, g2, g3, g4⟩ := eblk x b hb
  exact ⟨l, g1, g2, g3, brel.tab e g4⟩
theorem CallOk.tab {T T' : Tab} (e : SameTab T T') {f : FuncId} {args : List AV} {h : H} {p : AV × H} (o : @CallOk T P f args h p) : @CallOk T' P f args h p := by
  intro B w0 μ w args' r ha
  refine (o B w0 μ w args' (HR.tab e.symm r) (vrels.tab e.symm _ _ ha)).mono ?_
  rintro e' w' ⟨v', μ', h1, h2, h3, h4⟩
  exact ⟨v', μ', h1, h2, vrel.tab e _ _ h3, HR.tab e h4⟩
theorem InOk.tab {T T' : Tab} (e : SameTab T T') {c : In} (o : @InOk P c T) : @InOk P c T' := by
  obtain ⟨h', h1, h2, h3⟩ := @InOk.run P c T o
  exact ⟨@InOk.lim P c T o, h', CallOk.tab e h1, h2, h3⟩
theorem SumOk.tab {T T' : Tab} (e : SameTab T T') {f : FuncId} {args : List AV} {s : Sum} (o : @SumOk T P f args s) : @SumOk T' P f args s := by
  obtain ⟨hs, h1, h2, h3⟩ := @SumOk.run T P f args s o
  exact ⟨@SumOk.nm T P f args s o, hs, CallOk.tab e h1, h2, h3⟩
end Go.X
set_option linter.unusedVariables false
set_option linter.unusedSimpArgs false
set_option linter.unusedSectionVars false
namespace Go.X
open Go.RowKit
variable {P : Program} {B : Kp} {w0 w : World} {μ μ0 : M}
noncomputable def sameN (iv : Nat → IntKind × Int) (a b : AV) : Bool :=
  match denI iv a, denI iv b with
  | some p, some q => Nat.beq (kcode p.1) (kcode q.1) && (p.2 == q.2)
  | _, _ => false
noncomputable def sameV (iv : Nat → IntKind × Int) (a b : AV) : Bool := Bool.rec (sameN iv a b) true (veq a b)
noncomputable def sameVs (iv : Nat → IntKind × Int) : List AV → List AV → Bool
  | [], [] => true
  | a :: l, b :: m => sameV iv a b && sameVs iv l m
  | _, _ => false
noncomputable def sameB (iv : Nat → IntKind × Int) (a b : Blk) : Bool :=
  match a, b with
  | .cells n p z t, .cells n' p' z' t' => Nat.beq n n' && ((p == p') && (veqs z z' && t.same (sameV iv) t'))
  | a, b => beq? a b
noncomputable def sameBs (iv : Nat → IntKind × Int) : BL → BL → Bool
  | [], [] => true
  | a :: l, b :: m => Nat.beq a.1 b.1 && (sameB iv a.2 b.2 && sameBs iv l m)
  | _, _ => false
theorem sameN_eq [Tab] {iv : Nat → IntKind × Int} {a b : AV} (h : sameN iv a b = true) : ∃ p, denI iv a = some p ∧ denI iv b = some p := by
  unfold sameN at h
  split at h
  · rename_i p q h1 h2
    simp only [Bool.and_eq_true, beq_iff_eq] at h
    have hk := kcode_inj h.1
    refine ⟨p, h1, ?_⟩
    rw [h2]
    congr 1
    exact Prod.ext hk.symm h.2.symm
  · cases h
theorem sameV_symm [Tab] {iv : Nat → IntKind × Int} {a b : AV} (h : sameV iv a b = true) : a = b ∨ ∃ p, denI iv a = some p ∧ denI iv b = some p := by
  unfold sameV at h
  cases hv : veq a b with
  | true => exact .inl (veq_eq hv)
  | false => rw [hv] at h; exact .inr (sameN_eq h)
theorem sameV_rel [Tab] {a b : AV} {v : Value} (h : sameV Tab.iv a b = true) : vrel μ a v ↔ vrel μ b v := by
  rcases sameV_symm h with rfl | ⟨⟨k, n⟩, h1, h2⟩
  · exact Iff.rfl
  · exact ⟨fun hv => by rw [den_rel h1 hv]; exact den_mk h2, fun hv => by rw [den_rel h2 hv]; exact den_mk h1⟩
theorem sameVs_rel [Tab] : ∀ {l m : List AV} {vs : List Value}, sameVs Tab.iv l m = true → (vrels μ l vs ↔ vrels μ m vs)
  | [], [], vs, _ => Iff.rfl
  | [], _ :: _, vs, h => by simp [sameVs] at h
  | _ :: _, [], vs, h => by simp [sameVs] at h
  | a :: l, b :: m, vs, h => by
    simp only [sameVs, Bool.and_eq_true] at h
    simp only [vrels]
    constructor
    · rintro ⟨v, r, e, h1, h2⟩
      exact ⟨v, r, e, (sameV_rel h.1).1 h1, (sameVs_rel h.2).1 h2⟩
    · rintro ⟨v, r, e, h1, h2⟩
      exact ⟨v, r, e, (sameV_rel h.1).2 h1, (sameVs_rel h.2).2 h2⟩
theorem T.same_get {α : Type} {eq : α → α → Bool} : ∀ (a b : T α), a.same eq b = true → ∀ i, (∀ y, b.get i = some y → ∃ x, a.get i = some x ∧ eq x y = true) ∧ (∀ x, a.get i = some x → ∃ y, b.get i = some y ∧ eq x y = true)
  | .leaf, .leaf, _, i => ⟨fun y h => by simp at h, fun y h => by simp at h⟩
  | .leaf, .node _ _ _, h, i => by have h' : false = true := h; cases h'
  | .node l v r, .leaf, h, i => by have h' : false = true := h; cases h'
  | .node l v r, .node l' v' r', h, i => by
    have h' : (eqO eq v v' && (l.same eq l' && r.same eq r')) = true := h
    simp only [Bool.and_eq_true] at h'
    rw [T.get_node, T.get_node]
    by_cases c0 : i = 0
    · rw [if_pos c0, if_pos c0]
      cases v with
      | none =>
        cases v' with
        | none => exact ⟨fun y h => by simp at h, fun y h => by simp at h⟩
        | some u => have h2 : false = true := h'.1; cases h2
      | some u =>
        cases v' with
        | none => have h2 : false = true := h'.1; cases h2
        | some u' =>
          have h2 : eq u u' = true := h'.1
          exact ⟨fun y e => by cases e; exact ⟨u, rfl, h2⟩, fun y e => by cases e; exact ⟨u', rfl, h2⟩⟩
    · rw [if_neg c0, if_neg c0]
      by_cases c1 : i % 2 = 1
      · rw [if_pos c1, if_pos c1]; exact T.same_get l l' h'.2.1 _
      · rw [if_neg c1, if_neg c1]; exact T.same_get r r' h'.2.2 _
theorem sameB_own [Tab] {iv : Nat → IntKind × Int} {a b : Blk} (h : sameB iv a b = true) : own a = own b := by
  unfold sameB at h
  split at h
  · rfl
  · rw [beq_eq h]
theorem cellsSame [Tab] {n : Nat} {p : Bool} {z : List AV} {t t' : T AV} {l : Loc} (h : ∀ i, ∀ y, t'.get i = some y → ∃ x, t.get i = some x ∧ ∀ v, vrel μ x v → vrel μ y v) (h2 : ∀ i, t'.get i = none → t.get i = none) (hb : brel μ (.cells n p z t) l w) : brel μ (.cells n p z t') l w := by
  obtain ⟨arr, el, fz, g1, g2, g3, g4, g5, g6⟩ := hb
  refine ⟨arr, el, fz, g1, g2, g3, g4, g5, fun i a hi ha => ?_⟩
  unfold cellOf at ha
  cases ht : t'.get i with
  | some y =>
    rw [ht] at ha
    simp only [Option.some.injEq] at ha
    subst ha
    obtain ⟨x, hx, hv⟩ := h i y ht
    obtain ⟨v, v1, v2⟩ := g6 i x hi (by unfold cellOf; rw [hx])
    exact ⟨v, v1, hv v v2⟩
  | none =>
    rw [ht] at ha
    exact g6 i a hi (by unfold cellOf; rw [h2 i ht]; exact ha)
theorem sameB_rel [Tab] {a b : Blk} {l : Loc} (h : sameB Tab.iv a b = true) : brel μ a l w ↔ brel μ b l w := by
  unfold sameB at h
  split at h
  · rename_i n p z t n' p' z' t'
    simp only [Bool.and_eq_true, nbeq_iff, beq_iff_eq] at h
    obtain ⟨rfl, rfl, hz, ht⟩ := h
    have := veqs_eq hz
    subst this
    have g := T.same_get _ _ ht
    constructor
    · refine cellsSame (fun i y hy => ?_) (fun i hn => ?_)
      · obtain ⟨x, h1, h2⟩ := (g i).1 y hy
        exact ⟨x, h1, fun v hv => (sameV_rel h2).1 hv⟩
      · cases hx : t.get i with
        | none => rfl
        | some x => obtain ⟨y, h1, _⟩ := (g i).2 x hx; rw [hn] at h1; cases h1
    · refine cellsSame (fun i y hy => ?_) (fun i hn => ?_)
      · obtain ⟨x, h1, h2⟩ := (g i).2 y hy
        exact ⟨x, h1, fun v hv => (sameV_rel h2).2 hv⟩
      · cases hx : t'.get i with
        | none => rfl
        | some x => obtain ⟨y, h1, _⟩ := (g i).1 x hx; rw [hn] at h1; cases h1
  · rw [beq_eq h]
def SB [Tab] (a b : Blk) : Prop := a = b ∨ sameB Tab.iv a b = true
theorem SB.own [Tab] {a b : Blk} (h : SB a b) : X.own a = X.own b := by
  rcases h with rfl | h
  · rfl
  · exact sameB_own h
theorem SB.rel [Tab] {a b : Blk} {l : Loc} (h : SB a b) : brel μ a l w ↔ brel μ b l w := by
  rcases h with rfl | h
  · exact Iff.rfl
  · exact sameB_rel h
def SameH [Tab] (h k : H) : Prop := h.next ≤ k.next ∧ ∀ x, (∀ b, k.get x = some b → ∃ a, h.get x = some a ∧ SB a b) ∧ (∀ a, h.get x = some a → ∃ b, k.get x = some b)
theorem HR.sameH [Tab] {h k : H} (s : SameH h k) (r : HR B w0 μ h w) : HR B w0 μ k w where
  below := r.below
  fresh := fun x hx => by
    obtain ⟨h1, h2⟩ := r.fresh x (Nat.le_trans s.1 hx)
    refine ⟨?_, h2⟩
    cases hk : k.get x with
    | none => rfl
    | some b => obtain ⟨a, ha, _⟩ := (s.2 x).1 b hk; rw [h1] at ha; cases ha
  res := fun x hx => ⟨Nat.lt_of_lt_of_le (r.res x hx).1 s.1, (r.res x hx).2⟩
  blk := fun x b hb => by
    obtain ⟨a, ha, hs⟩ := (s.2 x).1 b hb
    obtain ⟨l, h1, h2, h3, h4⟩ := r.blk x a ha
    rw [SB.own hs] at h2 h3
    exact ⟨l, h1, h2, h3, (SB.rel hs).1 h4⟩
  sep := fun x y b c l k' hb hc hne ho ho' hl hk => by
    obtain ⟨a, ha, hs⟩ := (s.2 x).1 b hb
    obtain ⟨a', ha', hs'⟩ := (s.2 y).1 c hc
    exact r.sep x y a a' l k' ha ha' hne (by rw [SB.own hs]; exact ho) (by rw [SB.own hs']; exact ho') hl hk
theorem HR.sameH' [Tab] {h k : H} (e : h.next = k.next) (s : SameH h k) (r : HR B w0 μ k w) : HR B w0 μ h w where
  below := r.below
  fresh := fun x hx => by
    obtain ⟨h1, h2⟩ := r.fresh x (by rw [← e]; exact hx)
    refine ⟨?_, h2⟩
    cases hk : h.get x with
    | none => rfl
    | some b => obtain ⟨a, ha⟩ := (s.2 x).2 b hk; rw [h1] at ha; cases ha
  res := fun x hx => by rw [e]; exact r.res x hx
  blk := fun x a ha => by
    obtain ⟨b, hb⟩ := (s.2 x).2 a ha
    obtain ⟨a', ha', hs⟩ := (s.2 x).1 b hb
    rw [ha] at ha'; cases ha'
    obtain ⟨l, h1, h2, h3, h4⟩ := r.blk x b hb
    rw [← SB.own hs] at h2 h3
    exact ⟨l, h1, h2, h3, (SB.rel hs).2 h4⟩
  sep := fun x y a c l k' ha hc hne ho ho' hl hk => by
    obtain ⟨b, hb⟩ := (s.2 x).2 a ha
    obtain ⟨a', ha', hs⟩ := (s.2 x).1 b hb
    rw [ha] at ha'; cases ha'
    obtain ⟨d, hd⟩ := (s.2 y).2 c hc
    obtain ⟨c', hc', hs'⟩ := (s.2 y).1 d hd
    rw [hc] at hc'; cases hc'
    exact r.sep x y b d l k' hb hd hne (by rw [← SB.own hs]; exact ho) (by rw [← SB.own hs']; exact ho') hl hk
theorem CallOk.same [Tab] {f : FuncId} {xs ys : List AV} {h k h' k' : H} {v u : AV} (hx : sameVs Tab.iv xs ys = true) (hv : sameV Tab.iv v u = true) (hn : h.next = k.next) (hh : SameH h k) (hk : SameH h' k') (o : CallOk P f xs h (v, h')) : CallOk P f ys k (u, k') := by
  intro B w0 μ w args' r ha
  refine (o B w0 μ w args' (HR.sameH' hn hh r) ((sameVs_rel hx).2 ha)).mono ?_
  rintro e' w' ⟨v', μ', h1, h2, h3, h4⟩
  exact ⟨v', μ', h1, h2, (sameV_rel hv).1 h3, HR.sameH hk h4⟩
theorem sameBs_get [Tab] {iv : Nat → IntKind × Int} : ∀ {l m : BL}, sameBs iv l m = true → ∀ x, (∀ b, (x, b) ∈ m → ∃ a, (x, a) ∈ l ∧ sameB iv a b = true) ∧ (∀ a, (x, a) ∈ l → ∃ b, (x, b) ∈ m)
  | [], [], _, x => ⟨fun b h => by simp at h, fun b h => by simp at h⟩
  | [], _ :: _, h, _ => by simp [sameBs] at h
  | _ :: _, [], h, _ => by simp [sameBs] at h
  | p :: l, q :: m, h, x => by
    simp only [sameBs, Bool.and_eq_true] at h
    obtain ⟨h1, h2, h3⟩ := h
    have h1 := nbeq_iff.1 h1
    obtain ⟨i1, i2⟩ := sameBs_get h3 x
    constructor
    · intro b hb
      simp only [List.mem_cons] at hb
      rcases hb with hb | hb
      · cases hb
        exact ⟨p.2, by have : x = p.1 := h1.symm; subst this; simp, h2⟩
      · obtain ⟨a, g1, g2⟩ := i1 b hb
        exact ⟨a, List.mem_cons_of_mem _ g1, g2⟩
    · intro a ha
      simp only [List.mem_cons] at ha
      rcases ha with ha | ha
      · cases ha
        exact ⟨q.2, by have : x = q.1 := h1; subst this; simp⟩
      · obtain ⟨b, g1⟩ := i2 a ha
        exact ⟨b, List.mem_cons_of_mem _ g1⟩
noncomputable def once : List Nat → Bool
  | [] => true
  | x :: l => !(l.contains x) && once l
theorem once_eq {bs : BL} (h : once (bs.map (·.1)) = true) {x : Nat} {a b : Blk} (ha : (x, a) ∈ bs) (hb : (x, b) ∈ bs) : a = b := by
  induction bs with
  | nil => simp at ha
  | cons p l ih =>
    simp only [List.map_cons, once, Bool.and_eq_true, Bool.not_eq_true', List.contains_eq_mem, decide_eq_false_iff_not] at h
    simp only [List.mem_cons] at ha hb
    rcases ha with ha | ha <;> rcases hb with hb | hb
    · rw [← ha] at hb; cases hb; rfl
    · subst ha; exact absurd (List.mem_map.2 ⟨_, hb, rfl⟩) h.1
    · subst hb; exact absurd (List.mem_map.2 ⟨_, ha, rfl⟩) h.1
    · exact ih h.2 ha hb
theorem hIn_mem [Tab] {N : Nat} {bs : BL} (hlim : okLim bs = true) (ho : once (bs.map (·.1)) = true) {x : Nat} {b : Blk} (hb : (x, b) ∈ bs) : (hIn N bs).get x = some b := by
  cases h : (hIn N bs).get x with
  | some c => rw [once_eq ho (hIn_get (okLim_mem hlim) h) hb]
  | none =>
    exfalso
    have key : ∀ (l : BL), (∀ p ∈ l, p.1 < limit) → (x, b) ∈ l → (ofPairs l).get x ≠ none := by
      intro l
      induction l with
      | nil => intro _ h; simp at h
      | cons p l ih =>
        intro hl hm e
        have e' : (T.put (ofPairs l) p.1 p.2).get x = none := e
        have hp := hl p (by simp)
        rw [T.get_put _ _ _ _ (by unfold limit at hp; omega)] at e'
        split at e'
        · cases e'
        · rename_i hne
          simp only [List.mem_cons] at hm
          rcases hm with hm | hm
          · subst hm; exact hne rfl
          · exact ih (fun q hq => hl q (by simp [hq])) hm e'
    refine key bs (okLim_mem hlim) hb ?_
    unfold hIn at h
    rw [fT_eq] at h
    exact h
theorem sameH_hIn [Tab] {N : Nat} {bs cs : BL} (h : sameBs Tab.iv bs cs = true) (hb : okLim bs = true) (hc : okLim cs = true) (ob : once (bs.map (·.1)) = true) (oc : once (cs.map (·.1)) = true) : SameH (hIn N bs) (hIn N cs) := by
  refine ⟨by unfold hIn; rw [fT_eq, fT_eq]; exact Nat.le_refl _, fun x => ⟨fun b hx => ?_, fun a hx => ?_⟩⟩
  · have hm := hIn_get (okLim_mem hc) hx
    obtain ⟨a, g1, g2⟩ := (sameBs_get h x).1 b hm
    exact ⟨a, hIn_mem hb ob g1, .inr g2⟩
  · have hm := hIn_get (okLim_mem hb) hx
    obtain ⟨b, g1⟩ := (sameBs_get h x).2 a hm
    exact ⟨b, hIn_mem hc oc g1⟩
theorem layAll_none : ∀ {bs : BL} {t : T Blk} {x : Nat}, (∀ q ∈ bs, q.1 < limit) → (layAll t bs).get x = none → t.get x = none ∧ ∀ q ∈ bs, q.1 ≠ x
  | [], t, x, _, h => ⟨h, fun q hq => by simp at hq⟩
  | p :: l, t, x, hl, h => by
    have h' : (layAll (t.put p.1 p.2) l).get x = none := by
      have : layAll t (p :: l) = fT (t.put p.1 p.2) fun t => layAll t l := rfl
      rw [this, fT_eq] at h; exact h
    obtain ⟨h1, h2⟩ := layAll_none (fun q hq => hl q (List.mem_cons_of_mem _ hq)) h'
    rw [T.get_put _ _ _ _ (by have := hl p List.mem_cons_self; unfold limit at this; omega)] at h1
    by_cases e : x = p.1
    · rw [if_pos e] at h1; cases h1
    · rw [if_neg e] at h1
      refine ⟨h1, fun q hq => ?_⟩
      simp only [List.mem_cons] at hq
      rcases hq with rfl | hq
      · exact fun h => e h.symm
      · exact h2 q hq
theorem layAll_at : ∀ {bs : BL} {t : T Blk} {x : Nat} {b : Blk}, (∀ q ∈ bs, q.1 < limit) → once (bs.map (·.1)) = true → (x, b) ∈ bs → (layAll t bs).get x = some b
  | [], t, x, b, _, _, h => by simp at h
  | p :: l, t, x, b, hl, ho, h => by
    have e0 : layAll t (p :: l) = layAll (t.put p.1 p.2) l := by
      have : layAll t (p :: l) = fT (t.put p.1 p.2) fun t => layAll t l := rfl
      rw [this, fT_eq]
    rw [e0]
    have ho' := ho
    simp only [List.map_cons, once, Bool.and_eq_true, Bool.not_eq_true', List.contains_eq_mem, decide_eq_false_iff_not] at ho'
    have hl' : ∀ q ∈ l, q.1 < limit := fun q hq => hl q (List.mem_cons_of_mem _ hq)
    simp only [List.mem_cons] at h
    rcases h with h | h
    · cases hg : (layAll (t.put p.1 p.2) l).get x with
      | some c =>
        rcases layAll_get l _ x c hl' hg with hm | hm
        · rw [once_eq ho (List.mem_cons_of_mem _ hm) (by rw [h]; simp)]
        · rw [T.get_put _ _ _ _ (by have := hl p List.mem_cons_self; unfold limit at this; omega), ← h, if_pos rfl] at hm
          exact hm.symm
      | none =>
        obtain ⟨h1, _⟩ := layAll_none hl' hg
        rw [T.get_put _ _ _ _ (by have := hl p List.mem_cons_self; unfold limit at this; omega), ← h, if_pos rfl] at h1
        cases h1
    · exact layAll_at hl' ho'.2 h
theorem beq_pair {h : H} : ∀ {bs : BL}, (∀ q ∈ bs, h.get q.1 = some q.2) → (∀ q ∈ bs, beq? q.2 q.2 = true) → hasAll h bs = true
  | [], _, _ => rfl
  | p :: l, hh, hb => by
    show (@Bool.rec (fun _ => Bool) false (hasAll h l) (@Option.rec _ (fun _ => Bool) false (fun b => beq? p.2 b) (h.get p.1))) = true
    rw [hh p (by simp)]
    show (@Bool.rec (fun _ => Bool) false (hasAll h l) (beq? p.2 p.2)) = true
    rw [hb p (by simp)]
    exact beq_pair (fun q hq => hh q (by simp [hq])) (fun q hq => hb q (by simp [hq]))
noncomputable def selfBs (bs : BL) : Bool := bs.all fun p => beq? p.2 p.2
theorem InOk.same [Tab] {c d : In} (hf : c.f = d.f) (hN : c.N = d.N) (hN' : c.N' ≤ d.N') (hx : sameVs Tab.iv c.xs d.xs = true) (hv : sameV Tab.iv c.v d.v = true) (hb : sameBs Tab.iv c.bs d.bs = true) (hb' : sameBs Tab.iv c.bs' d.bs' = true)
    (l1 : okLim c.bs = true) (l2 : okLim d.bs = true) (l3 : okLim d.bs' = true) (l5 : selfBs d.bs' = true) (o1 : once (c.bs.map (·.1)) = true) (o2 : once (d.bs.map (·.1)) = true) (o3 : once (c.bs'.map (·.1)) = true) (o4 : once (d.bs'.map (·.1)) = true) (o : InOk P c) : InOk P d := by
  obtain ⟨h', k1, k2, k3⟩ := o.run
  have l4 := o.lim
  have hmem : ∀ q ∈ d.bs', (⟨d.N', layAll h'.t d.bs'⟩ : H).get q.1 = some q.2 := fun q hq => layAll_at (okLim_mem l3) o4 hq
  have hsame : SameH h' ⟨d.N', layAll h'.t d.bs'⟩ := by
    refine ⟨by rw [← k2]; exact hN', fun x => ⟨fun b hb2 => ?_, fun a ha => ?_⟩⟩
    · rcases layAll_get d.bs' h'.t x b (okLim_mem l3) hb2 with hm | hm
      · obtain ⟨a, g1, g2⟩ := (sameBs_get hb' x).1 b hm
        exact ⟨a, hasAll_mem k3 _ g1, .inr g2⟩
      · exact ⟨b, hm, .inl rfl⟩
    · cases hg : (⟨d.N', layAll h'.t d.bs'⟩ : H).get x with
      | some b => exact ⟨b, rfl⟩
      | none => obtain ⟨h1, _⟩ := layAll_none (okLim_mem l3) hg; rw [show h'.t.get x = some a from ha] at h1; cases h1
  refine ⟨l3, ⟨d.N', layAll h'.t d.bs'⟩, ?_, rfl, ?_⟩
  · rw [← hf]
    exact CallOk.same hx hv (by rw [hN]; unfold hIn; rw [fT_eq, fT_eq]) (by rw [← hN]; exact sameH_hIn hb l1 l2 o1 o2) hsame k1
  · exact beq_pair hmem (by simpa [selfBs] using l5)
theorem St.sameH {τ : Tab} {nt : Nat} {fr fr' : Fr} {h k : H} {a : Act} (hf : fr.same (sameV τ.iv) fr' = true) (hh : @SameH τ h k) (s : St τ B w0 μ0 nt fr h a w) : St τ B w0 μ0 nt fr' k a w := by
  obtain ⟨μ, hx, f, r⟩ := s
  refine ⟨μ, hx, ⟨f.1, f.2.1, fun t v ht => ?_⟩, @HR.sameH B w0 w μ τ h k hh r⟩
  obtain ⟨x, h1, h2⟩ := (T.same_get _ _ hf t).1 v ht
  obtain ⟨v', g1, g2⟩ := f.2.2 t x h1
  exact ⟨v', g1, (@sameV_rel μ τ x v v' h2).1 g2⟩
theorem sameH_hOf [Tab] {N : Nat} {bs cs : BS} (h : sameBs Tab.iv (bsOf bs) (bsOf cs) = true) (hb : okLim (bsOf bs) = true) (hc : okLim (bsOf cs) = true) (ob : once ((bsOf bs).map (·.1)) = true) (oc : once ((bsOf cs).map (·.1)) = true) : SameH (hOf N bs) (hOf N cs) := sameH_hIn h hb hc ob oc
end Go.X
set_option linter.unusedVariables false
set_option linter.unusedSimpArgs false
namespace Go.X
theorem in64 (k : IntKind) (h : k.bits ≤ 32) (n : Int) : IntKind.i64.wrap (k.wrap n) = k.wrap n := by
  refine wrap64 ?_ ?_
  all_goals
    cases k <;> simp [IntKind.bits] at h <;> (unfold IntKind.wrap IntKind.bits IntKind.signed; simp only [Bool.true_and, Bool.false_and, decide_eq_true_eq]; try split) <;> first | omega | (simp; omega)
theorem readK {k : IntKind} (h : k.bits ≤ 32) {x v : Int} (e : x % 2 ^ k.bits = (k.wrap v) % 2 ^ k.bits) : k.wrap (IntKind.i64.wrap x) = k.wrap v := by
  rw [wrap_wrap (show k.bits ≤ IntKind.i64.bits by show _ ≤ 64; omega)]
  exact wrap_congr k (by rw [e, wrap_mod])
theorem readJ {x v : Int} (h1 : -9223372036854775808 ≤ v) (h2 : v ≤ 9223372036854775807) (e : x % 2 ^ 64 = v % 2 ^ 64) : IntKind.i64.wrap x = v := by
  rw [wrap_congr .i64 (n := x) (m := v) e, wrap64 h1 h2]
theorem and1 (n : Int) : IntKind.i64.wrap ((BitVec.ofInt IntKind.i64.bits n &&& BitVec.ofInt IntKind.i64.bits 1).toNat : Int) = n % 2 := by
  have h : (BitVec.ofInt 64 n &&& BitVec.ofInt 64 1).toNat = (n % 2).toNat := by
    rw [BitVec.toNat_and, BitVec.toNat_ofInt, show (BitVec.ofInt 64 1).toNat = 1 from rfl, Nat.and_one_is_mod]
    omega
  show IntKind.i64.wrap ((BitVec.ofInt 64 n &&& BitVec.ofInt 64 1).toNat : Int) = n % 2
  rw [h, wrap64 (by omega) (by omega)]
  omega
theorem readZ {x v : Int} (e : x % 2 ^ 8 = (v % 2) % 2 ^ 8) : (IntKind.i64.wrap x) % 2 = v % 2 := by
  have h := wrap_mod .i64 x
  have h2 : (IntKind.i64.wrap x) % 2 ^ 64 = x % 2 ^ 64 := h
  omega
theorem lowIs {per S : Nat} (h : per * S = 64) (f : Nat → BitVec 64) {n k j : Nat} {v : Int} (hj : j < n) : wI (upd per S (putsTo per S f n) k (BitVec.ofInt 64 v) (j / per) >>> (j % per * S)) % 2 ^ S = if j = k then v % 2 ^ S else (((f j).setWidth S).toNat : Int) := by
  have hS : S ≤ 64 := by
    have hp : 0 < per := Nat.pos_of_ne_zero (by rintro rfl; simp at h)
    have := Nat.mul_le_mul_right S hp
    omega
  rw [low_mod, low_upd h]
  split
  · exact setWidth_mod hS v
  · rw [low_puts h f n j hj]
theorem vecSubN {T T' : Tab} {C : Cv} {x i i' : Nat} (hv : ∀ m a, T'.vv i' m = some a → T.vv i m = some a ∧ ∃ k n, a = .int k n) (hk : T'.vk i' ≤ T.vk i) :
    own (x, (.vec i : Blk), i').2.1 = true ∧ ∀ μ l w, @brel T μ (x, (.vec i : Blk), i').2.1 l w → @brel T' (ren C.N0 C.rn μ) (.vec (x, (.vec i : Blk), i').2.2) l w := by
  refine ⟨rfl, fun μ l w h => ?_⟩
  obtain ⟨arr, el, fz, h1, h2, h3, h4, h5⟩ := h
  refine ⟨arr, el, fz, h1, h2, h3, by dsimp only; omega, fun m a ha => ?_⟩
  obtain ⟨g1, n, k, rfl⟩ := hv m a ha
  obtain ⟨v, v1, v2⟩ := h5 m _ g1
  refine ⟨v, v1, ?_⟩
  simpa [vrel] using v2
theorem ipO {T T' : Tab} {i j : Nat} (q : IntKind × Int) (h1 : T.iv i = q) (h2 : T'.iv j = q) : IpOk1 T T' (.oi i, j) := by
  show some (T.iv i) = some (T'.iv j)
  rw [h1, h2]
theorem ipC {T T' : Tab} {n : Int} {j : Nat} (h2 : T'.iv j = (.i64, n)) : IpOk1 T T' (.int .i64 n, j) := by
  show some (IntKind.i64, n) = some (T'.iv j)
  rw [h2]
theorem leK {a b c : Nat} (h1 : a = c) (h2 : b = c) : a ≤ b := by rw [h1, h2]; exact Nat.le_refl _
theorem numSame (k : IntKind) (A : Nat) (e : Nat → Int) : ∀ m a, numV k A e m = some a → numV k A e m = some a ∧ ∃ k n, a = .int k n := fun m a ha => ⟨ha, k, e m, (numV_some ha).2⟩
theorem numSub {k : IntKind} {A : Nat} {e e' : Nat → Int} (he : ∀ m, m < A → e' m = e m) : ∀ m a, numV k A e' m = some a → numV k A e m = some a ∧ ∃ k n, a = .int k n := fun m a ha => by
  obtain ⟨h1, rfl⟩ := numV_some ha
  rw [he m h1]
  exact ⟨numV_lt h1, _, _, rfl⟩
end Go.X
set_option linter.unusedVariables false
set_option linter.unusedSimpArgs false
set_option linter.unusedSectionVars false
namespace Go.X
open Go.RowKit
def pv (b c : Nat) (l : List AV) : Nat → Option AV := fun m => if m < b then some (.rw (4 * m + c)) else l[m - b]?
def pk (b : Nat) (l : List AV) : Nat := b + l.length
theorem pv_plain {b c : Nat} {l : List AV} (h : ∀ a ∈ l, vplain a = true) : ∀ m a, pv b c l m = some a → vplain a = true := by
  intro m a e
  unfold pv at e
  split at e
  · cases e; rfl
  · exact h a (List.mem_of_getElem? e)
theorem pv_lo {b c : Nat} {l : List AV} {m : Nat} (h : m < b) : pv b c l m = some (.rw (4 * m + c)) := by unfold pv; rw [if_pos h]
theorem pv_hi {b c : Nat} {l : List AV} (o : Nat) : pv b c l (b + o) = l[o]? := by unfold pv; rw [if_neg (by omega)]; congr 1; omega
theorem pv_lt {b c : Nat} {l : List AV} {m : Nat} {a : AV} (h : pv b c l m = some a) : m < b + l.length := by
  unfold pv at h
  split at h
  · omega
  · have := (List.getElem?_eq_some_iff.1 h).1; omega
theorem pv_plainB {b c : Nat} {l : List AV} (h : l.all vplain = true) {m : Nat} {a : AV} (e : pv b c l m = some a) : vplain a = true := pv_plain (fun x hx => List.all_eq_true.1 h x hx) m a e
variable {iv : Nat → IntKind × Int} {vv : Nat → Nat → Option AV} {vk : Nat → Nat}
abbrev VRows.rtab (R : VRows iv vv vk) (rv : Nat → Value) : Tab := { R.tab with rv := rv, rl := [], rlok := fun _ h => nomatch h }
theorem VRows.rsame (R R' : VRows iv vv vk) (rv : Nat → Value) : SameTab (R.rtab rv) (R'.rtab rv) := ⟨rfl, rfl, rfl, rfl, rfl, rfl, rfl, rfl, rfl⟩
theorem vlP {r : VL} {k b c o : Nat} {L : List AV} (hk : iv r.k = (.i64, (k : Int))) (hv : vv r.i = pv b c L) (ho : k * r.z + r.f = b + o) (hl : r.l = (L.drop o).take r.l.length) : VlOk iv vv r := by
  refine ⟨by rw [hk]; exact ⟨rfl, Int.natCast_nonneg _⟩, fun m x hx => ⟨x, ?_, .inl rfl⟩⟩
  have e1 : (iv r.k).2.toNat = k := by rw [hk]; simp
  rw [e1, hv, ho, Nat.add_assoc, pv_hi]
  rw [hl, List.getElem?_take] at hx
  split at hx
  · rw [List.getElem?_drop] at hx; exact hx
  · cases hx
theorem vsP {r : VS} {k b c o : Nat} {L L' : List AV} (hk : iv r.k = (.i64, (k : Int))) (hv : vv r.i = pv b c L) (hv' : vv r.i' = pv b c L') (h1 : vk r.i = pk b L) (h2 : vk r.i' = pk b L') (ho : k * r.z + r.f = b + o)
    (hL : L' = L.take o ++ (r.l ++ L.drop (o + r.l.length))) (hlen : o + r.l.length ≤ L.length) : VsOk iv vv vk r := by
  have e1 : (iv r.k).2.toNat = k := by rw [hk]; simp
  have hl' : L'.length = L.length := by rw [hL]; simp; omega
  refine ⟨by rw [hk]; exact ⟨rfl, Int.natCast_nonneg _⟩, by rw [e1, h1, ho]; unfold pk; omega, by rw [h1, h2]; unfold pk; omega, fun m a ha => ⟨a, ?_, .inl rfl⟩⟩
  rw [e1, ho]
  rw [hv'] at ha
  by_cases c1 : m < b
  · rw [if_neg (by omega), hv, pv_lo c1]
    rw [pv_lo c1] at ha; exact ha
  · obtain ⟨q, rfl⟩ : ∃ q, m = b + q := ⟨m - b, by omega⟩
    rw [pv_hi, hL] at ha
    by_cases c2 : q < o
    · rw [if_neg (by omega), hv, pv_hi]
      rw [List.getElem?_append_left (by simp; omega), List.getElem?_take, if_pos c2] at ha
      exact ha
    · have h3 : (L.take o).length = o := by simp; omega
      rw [List.getElem?_append_right (by omega), h3] at ha
      by_cases c3 : q < o + r.l.length
      · rw [if_pos (by omega)]
        rw [List.getElem?_append_left (by omega)] at ha
        rw [← ha]; congr 1; omega
      · rw [if_neg (by omega), hv, pv_hi]
        rw [List.getElem?_append_right (by omega), List.getElem?_drop] at ha
        rw [← ha]; congr 1; omega
theorem vaP {r : VA} {j j' b c o : Nat} {L L' : List AV} (hj : iv r.j = (.i64, (j : Int))) (hj' : iv r.j' = (.i64, (j' : Int))) (hv : vv r.i = pv b c L) (hv' : vv r.i' = pv b c L') (h2 : vk r.i' = pk b L') (ho : j * r.z = b + o) (ho' : j' * r.z = b + o + r.src.length)
    (hL : L' = L.take o ++ r.src) (hlen : o ≤ L.length) (hlim : j' < limit) : VaOk iv vv vk r := by
  have e1 : (iv r.j).2.toNat = j := by rw [hj]; simp
  have e2 : (iv r.j').2.toNat = j' := by rw [hj']; simp
  have h3 : (L.take o).length = o := by simp; omega
  have hl' : L'.length = o + r.src.length := by rw [hL, List.length_append, h3]
  refine ⟨by rw [hj]; exact ⟨rfl, Int.natCast_nonneg _⟩, by rw [hj']; exact ⟨rfl, Int.natCast_nonneg _⟩, by rw [e1, e2, ho, ho'], by rw [e2]; exact hlim, by rw [h2, e2, ho']; unfold pk; omega, fun m a ha => ⟨a, ?_, .inl rfl⟩⟩
  rw [e1, ho]
  rw [hv'] at ha
  by_cases c1 : m < b
  · rw [if_pos (by omega), hv, pv_lo c1]
    rw [pv_lo c1] at ha; exact ha
  · obtain ⟨q, rfl⟩ : ∃ q, m = b + q := ⟨m - b, by omega⟩
    rw [pv_hi, hL] at ha
    by_cases c2 : q < o
    · rw [if_pos (by omega), hv, pv_hi]
      rw [List.getElem?_append_left (by omega), List.getElem?_take, if_pos c2] at ha
      exact ha
    · rw [if_neg (by omega)]
      rw [List.getElem?_append_right (by omega), h3] at ha
      rw [← ha]; congr 1; omega
end Go.X
set_option linter.unusedVariables false
set_option linter.unusedSimpArgs false
set_option linter.unusedSectionVars false
namespace Go.X
open Go.RowKit
variable {P : Program} {B : Kp} {w0 w : World} {μ0 : M} {nt : Nat} {a : Act}
noncomputable def stepD (ih : Fr → H → Out) (e : Ex) (fr : Fr) (h : H) : Out :=
  match e with
  | .normal => ih fr h
  | e => some [(e, fr, h)]
noncomputable def stepsR (T : Tab) (P : Program) (K : Hand) (m nt : Nat) (c : Code) (k : Nat) : Fr → H → Out :=
  Nat.rec (motive := fun _ => Fr → H → Out) (fun fr h => some [(.normal, fr, h)]) (fun _ ih fr h => obL ((@run? T P K m).run nt c fr h) fun r => Prod.rec (fun e q => Prod.rec (fun fr h => stepD ih e fr h) q) r) k
noncomputable def stepsTo (T : Tab) (P : Program) (K : Hand) (m nt k : Nat) (c : Code) (fr : Fr) (h : H) (ex : Ex) (C : Cv) (vp : VP) (fs : List (Nat × AV)) (bs : BS) : Bool :=
  Option.rec false (okOuts C vp ex fs bs) (stepsR T P K m nt c k fr h)
theorem stepsR_sound {T : Tab} (hm : P.follows .mixedOrders = true) {K : Hand} (hK : @HandOk T P K) {m : Nat} {c : Code} {Q : Exit → Act → World → Prop} {j : Nat} : ∀ (k : Nat) (fr : Fr) (h : H) (l : List (Ex × Fr × H)) (a : Act) (w : World),
    stepsR T P K m nt c k fr h = some l → St T B w0 μ0 nt fr h a w →
    (∀ q ∈ l, ∀ a' w', St T B w0 μ0 nt q.2.1 q.2.2 a' w' → match q.1 with
      | .normal => Code.rounds P c Q j a' w'
      | e => Q e.to a' w') → Code.rounds P c Q (j + k) a w := by
  intro k
  induction k with
  | zero =>
    intro fr h l a w e s hq
    have e' : some [(Ex.normal, fr, h)] = some l := e
    cases e'
    exact hq _ (List.mem_singleton.2 rfl) a w s
  | succ k ih =>
    intro fr h l a w e s hq
    have e' : obL ((@run? T P K m).run nt c fr h) (fun r => Prod.rec (fun e q => Prod.rec (fun fr h => stepD (stepsR T P K m nt c k) e fr h) q) r) = some l := e
    obtain ⟨l1, hl1, hsub⟩ := obL_some e'
    refine rounds_of (wp_mono (s.run hm hK hl1) ?_)
    rintro e1 a' w' ⟨⟨e2, fr2, h2⟩, hmem, rfl, s'⟩
    obtain ⟨l2, hl2, hs2⟩ := hsub _ hmem
    cases e2 with
    | normal =>
      have hl3 : stepsR T P K m nt c k fr2 h2 = some l2 := hl2
      exact ih fr2 h2 l2 a' w' hl3 s' fun q hq2 => hq q (hs2 q hq2)
    | exit id =>
      have hl3 : some [(Ex.exit id, fr2, h2)] = some l2 := hl2
      cases hl3
      exact hq _ (hs2 _ (List.mem_singleton.2 rfl)) a' w' s'
    | ret =>
      have hl3 : some [(Ex.ret, fr2, h2)] = some l2 := hl2
      cases hl3
      exact hq _ (hs2 _ (List.mem_singleton.2 rfl)) a' w' s'
theorem stepsTo_sound {T T' : Tab} {fr : Fr} {h : H} (hm : P.follows .mixedOrders = true) {K : Hand} (hK : @HandOk T P K) {m : Nat} {c : Code} {C : Cv} (hb : Base B μ0 C.N0) {ex : Ex} (hN : C.N0 ≤ C.N) {rl : List (Nat × Nat)} (hrl : C.rn = ofPairs rl) (hrk : okRn C rl = true) (hip : IpOk T T' C.ip) {vp : VP} (hvp : VpOk T T' C vp)
    (hgl : @Gl T B w0 → @Gl T' B w0) {fs : List (Nat × AV)} {bs : BS} {k j : Nat} {Q : Exit → Act → World → Prop} (e : stepsTo T P K m nt k c fr h ex C vp fs bs = true) (s : St T B w0 μ0 nt fr h a w)
    (hQ : ∀ a' w', St T' B w0 μ0 nt (frOf fs) (hOf C.N bs) a' w' → match (generalizing := false) ex with
      | .normal => Code.rounds P c Q j a' w'
      | e => Q e.to a' w') : Code.rounds P c Q (j + k) a w := by
  cases hr : stepsR T P K m nt c k fr h with
  | none => unfold stepsTo at e; rw [hr] at e; simp at e
  | some l =>
    unfold stepsTo at e
    rw [hr] at e
    have e : okOuts C vp ex fs bs l = true := e
    refine stepsR_sound hm hK k fr h l a w hr s fun q hq a' w' s' => ?_
    letI := T
    obtain ⟨g1, g2, g3⟩ := okOuts_mem e q hq
    have := hQ a' w' (s'.weak hb hN hrl hrk hip hvp hgl g2 g3)
    rw [g1]
    exact this
theorem ipN {T T' : Tab} {i j : Nat} (q : IntKind × Int) (h1 : T.iv i = q) (h2 : T'.iv j = q) : IpOk1 T T' (.oi i, j) := by
  show some (T.iv i) = some (T'.iv j)
  rw [h1, h2]
theorem ipK {T T' : Tab} {n : Int} {j : Nat} (h2 : T'.iv j = (.i64, n)) : IpOk1 T T' (.int .i64 n, j) := by
  show some (IntKind.i64, n) = some (T'.iv j)
  rw [h2]
def lpOf : Code → Code
  | .seq (.block _ (.loop c)) _ => c
  | _ => .skip
def tlOf : Code → Code
  | .seq _ t => t
  | _ => .skip
end Go.X
