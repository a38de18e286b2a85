/-
  Frames, calls, and regions in the text's order.
-/
import Derived.Test.YtgdonkfaicdeiaaGreatDoorXQuiet
set_option linter.unusedVariables false
set_option linter.unusedSimpArgs false
set_option linter.unusedSectionVars false
namespace Go.X
open Go.RowKit

variable [Tab]
variable {P : Program} {B : Kp} {w0 : World} {μ μ' : M} {h h' : H} {w w' : World} {fr fr' : Fr} {nt : Nat} {a : Act}

def FR (μ : M) (nt : Nat) (fr : Fr) (a : Act) : Prop := a.tmps.size = nt ∧ a.defers = [] ∧ ∀ t v, fr.get t = some v → ∃ v', a.tmps[t]? = some v' ∧ vrel μ v v'

theorem FR.ext (f : FR μ nt fr a) (e : Ext μ μ') : FR μ' nt fr a := ⟨f.1, f.2.1, fun t v ht => let ⟨v', h1, h2⟩ := f.2.2 t v ht; ⟨v', h1, vrel.ext e _ _ h2⟩⟩

theorem ev_known {x : Operand} {v : AV} (hf : ∀ t v, x = .tmp t → fr.get t = some v → ∃ v', a.tmps[t]? = some v' ∧ vrel μ v v') (e : ev x fr = some v) : vrel μ v (a.eval x) := by
  cases x with
  | tmp t =>
    obtain ⟨v', h1, h2⟩ := hf t v rfl e
    have : a.eval (.tmp t) = v' := by
      show a.tmps.getD t undef = v'
      rw [Array.getD_eq_getD_getElem?, h1]; rfl
    rw [this]; exact h2
  | const c => exact ofValue_sound e
  | func f =>
    have e' : some (AV.fn (.func f) [] []) = some v := e
    cases e'
    simp only [vrel]
    exact ⟨[], [], rfl, by simp [vrels], by simp [vrels]⟩
  | global g =>
    have e' : some (AV.gp g 0) = some v := e
    cases e'
    simp only [vrel]; rfl

theorem FR.ev (f : FR μ nt fr a) (xs : List Operand) : Ev μ fr a.eval xs := fun _ _ _ e => ev_known (fun t v _ ht => f.2.2 t v ht) e

theorem put_some {d : Option Tmp} {v : AV} (e : put? nt d v fr = some fr') : (d = none ∧ fr' = fr) ∨ ∃ t, d = some t ∧ t < nt ∧ t < limit ∧ fr' = fr.put t v := by
  cases d with
  | none => simp only [put?] at e; cases e; exact .inl ⟨rfl, rfl⟩
  | some t =>
    simp only [put?] at e
    obtain ⟨h1, e⟩ := ifb_some e
    cases e
    simp only [Bool.and_eq_true, blt_iff] at h1
    exact .inr ⟨t, rfl, h1.1, h1.2, rfl⟩

theorem FR.put (f : FR μ nt fr a) {d : Option Tmp} {v : AV} {v' : Value} (e : put? nt d v fr = some fr') (hv : vrel μ v v') : FR μ nt fr' (a.put d v') := by
  rcases put_some e with ⟨rfl, rfl⟩ | ⟨t, rfl, h1, h2, rfl⟩
  · exact f
  · refine ⟨by simpa [Act.put] using f.1, f.2.1, fun s u hs => ?_⟩
    rw [T.get_put _ _ _ _ (Nat.lt_of_lt_of_le h2 (by unfold limit; omega))] at hs
    simp only [Act.put, Array.getElem?_setIfInBounds]
    by_cases c : s = t
    · subst c
      rw [if_pos rfl] at hs; cases hs
      rw [if_pos rfl, if_pos (by rw [f.1]; exact h1)]
      exact ⟨v', rfl, hv⟩
    · rw [if_neg c] at hs
      rw [if_neg (fun e => c e.symm)]
      exact f.2.2 s u hs

theorem undef_rel : vrel μ .undef undef := by simp only [AV.undef, undef, vrel]; exact ⟨[], rfl, by simp [vrels]⟩

theorem wanted_known {ops : Array Oper} {o : Oper} {b : Bool} {tmps : Array Value} (hf : ∀ j want g d v, o.guard = some (j, want) → ops[j]? = some g → g.dst = some d → fr.get d = some v → ∃ v', tmps[d]? = some v' ∧ vrel μ v v')
    (e : wanted? ops.toList fr o.guard = some b) : Region.wanted o (yielded ops tmps) = b := by
  unfold wanted? at e
  unfold Region.wanted
  cases hg : o.guard with
  | none => rw [hg] at e; cases e; rfl
  | some p =>
    obtain ⟨j, want⟩ := p
    rw [hg] at e
    simp only at e ⊢
    obtain ⟨g, hg1, e⟩ := ob_some e
    obtain ⟨d, hd, e⟩ := ob_some e
    obtain ⟨v, hv, e⟩ := ob_some e
    rw [Array.getElem?_toList] at hg1
    obtain ⟨v', h1, h2⟩ := hf j want g d v hg hg1 hd hv
    have hy : yielded ops tmps j = match v' with | .bool b => some b | _ => none := by
      simp only [yielded, hg1, Option.bind_some, hd, h1]
      cases v' <;> rfl
    rw [hy]
    unfold guardV at e
    split at e
    · cases e
      simp only [vrel] at h2
      subst h2
      simp
    · cases e
      simp only [vrel] at h2
      obtain ⟨cs, rfl, _⟩ := h2
      rfl
    · simp at e

theorem FR.wanted (f : FR μ nt fr a) {ops : Array Oper} {o : Oper} {b : Bool} (e : wanted? ops.toList fr o.guard = some b) : Region.wanted o (yielded ops a.tmps) = b :=
  wanted_known (fun _ _ _ d v _ _ _ hv => f.2.2 d v hv) e

/- code -/
def Ex.to : Ex → Exit
  | .normal => .normal
  | .exit id => .exit id
  | .ret => .ret

def Post (B : Kp) (w0 : World) (μ : M) (nt : Nat) (e : Ex) (fr' : Fr) (h' : H) (e' : Exit) (a' : Act) (w' : World) : Prop :=
  e' = e.to ∧ ∃ μ', Ext μ μ' ∧ FR μ' nt fr' a' ∧ HR B w0 μ' h' w'

def PostL (B : Kp) (w0 : World) (μ : M) (nt : Nat) (l : List (Ex × Fr × H)) (e' : Exit) (a' : Act) (w' : World) : Prop := ∃ q ∈ l, Post B w0 μ nt q.1 q.2.1 q.2.2 e' a' w'
def RunOk (P : Program) (run : Run) : Prop := ∀ nt c fr h l, run nt c fr h = some l → ∀ B w0 μ a w, FR μ nt fr a → HR B w0 μ h w → c.wp P (PostL B w0 μ nt l) a w

def CallOk (P : Program) (f : FuncId) (args : List AV) (h : H) (p : AV × H) : Prop := ∀ B w0 μ w (args' : Array Value), HR B w0 μ h w → vrels μ args args'.toList →
  Calls P f args' w fun e w' => ∃ v' μ', e = .returned v' ∧ Ext μ μ' ∧ vrel μ' p.1 v' ∧ HR B w0 μ' p.2 w'

structure RecOk (P : Program) (rec : Rec) : Prop where
  run : RunOk P rec.run
  call : ∀ f args h p, rec.call f args h = some p → CallOk P f args h p

def resSem (tmps : Array Value) : ResultVar → Sem Value
  | .tmp t => pure (tmps.getD t undef)
  | .cell q t => do loadVar t (← asAddr (tmps.getD q undef))

theorem ress_sound (f : FR μ nt fr a) (r : HR B w0 μ h w) : ∀ {l : List ResultVar} {vs : List AV}, ress? P fr h l = some vs →
    ∃ us, (l.mapM (resSem a.tmps)).run P w = .ok us w ∧ vrels μ vs us
  | [], vs, e => by
    have e' : some ([] : List AV) = some vs := e
    cases e'
    exact ⟨[], by simp, by simp [vrels]⟩
  | x :: l, vs, e => by
    have e' : ob (res? P fr h x) (fun v => ob (ress? P fr h l) fun vs => some (v :: vs)) = some vs := e
    obtain ⟨v, hv, e'⟩ := ob_some e'
    obtain ⟨vs', hvs, e'⟩ := ob_some e'
    cases e'
    obtain ⟨us, h1, h2⟩ := ress_sound f r hvs
    have hget : ∀ t v, fr.get t = some v → ∃ v', a.tmps.getD t undef = v' ∧ vrel μ v v' := by
      intro t v ht
      obtain ⟨v', g1, g2⟩ := f.2.2 t v ht
      exact ⟨v', by rw [Array.getD_eq_getD_getElem?, g1]; rfl, g2⟩
    cases x with
    | tmp t =>
      obtain ⟨v', g1, g2⟩ := hget t v hv
      exact ⟨v' :: us, by simp only [List.mapM_cons, Sem.run_bind, resSem, g1, Sem.run_pure, Result.andThen_ok, h1], vrels_cons g2 h2⟩
    | cell q t =>
      simp only [res?] at hv
      obtain ⟨pv, hpv, hv⟩ := ob_some hv
      obtain ⟨v', g1, g2⟩ := hget q pv hpv
      cases pv with
      | ptr y o =>
        simp only [resD] at hv
        simp only [vrel] at g2
        obtain ⟨l', hl', rfl⟩ := g2
        obtain ⟨u, k1, k2⟩ := loadVar_sound (P := P) r hl' hv
        have hA : (asAddr (a.tmps.getD q undef)).run P w = .ok ⟨l'.block, l'.base + o, none⟩ w := by rw [g1]; rfl
        exact ⟨u :: us, by simp only [List.mapM_cons, Sem.run_bind, resSem, hA, Sem.run_pure, Result.andThen_ok, k1, h1], vrels_cons k2 h2⟩
      | _ => simp [resD] at hv

theorem results_sound (f : FR μ nt fr a) (r : HR B w0 μ h w) {fn : Func} {v : AV} (e : results? P fn fr h = some v) : ∃ v', (results fn a.tmps).run P w = .ok v' w ∧ vrel μ v v' := by
  obtain ⟨vs, hvs, e⟩ := ob_some e
  cases e
  obtain ⟨us, h1, h2⟩ := ress_sound f r hvs
  have hlen := vrels_length h2
  refine ⟨if hh : (⟨us⟩ : Array Value).size = 1 then (⟨us⟩ : Array Value)[0] else .tuple ⟨us⟩, ?_, ?_⟩
  · have hres : results fn a.tmps = (do let vs ← fn.results.mapM (resSem a.tmps); pure (if h : vs.size = 1 then vs[0] else .tuple vs)) := by
      unfold results
      congr 1
    rw [hres]
    simp only [Array.mapM_eq_mapM_toList, Sem.run_bind, Sem.run_map, h1, Result.andThen_ok, Sem.run_pure]
  · unfold tupD
    split
    · rename_i v
      simp only [vrels] at h2
      obtain ⟨u, _, rfl, hu, rfl⟩ := h2
      simpa using hu
    · rename_i hne
      have : ¬ (⟨us⟩ : Array Value).size = 1 := by
        intro hh
        have hh' : us.length = 1 := hh
        cases vs with
        | nil => simp only [List.length_nil] at hlen; omega
        | cons x l =>
          cases l with
          | nil => exact hne x rfl
          | cons y l => simp only [List.length_cons] at hlen; omega
      rw [dif_neg this]
      simp only [vrel]
      exact ⟨us, rfl, h2⟩

/- outcomes -/
theorem bindL_nil {α β : Type} (f : α → Option (List β)) : bindL [] f = some [] := rfl
theorem bindL_one {α β : Type} (x : α) (f : α → Option (List β)) : bindL [x] f = f x := rfl
theorem bindL_cons {α β : Type} (x y : α) (t : List α) (f : α → Option (List β)) : bindL (x :: y :: t) f = ob (f x) fun a => ob (bindL (y :: t) f) fun b => some (a ++ b) := rfl
theorem bindL_some {α β : Type} {f : α → Option (List β)} : ∀ {l : List α} {r : List β}, bindL l f = some r → ∀ x ∈ l, ∃ a, f x = some a ∧ ∀ y ∈ a, y ∈ r
  | [], r, _, x, hx => by simp at hx
  | [z], r, e, x, hx => by
    simp only [List.mem_singleton] at hx; subst hx
    rw [bindL_one] at e
    exact ⟨r, e, fun _ h => h⟩
  | z :: y :: t, r, e, x, hx => by
    rw [bindL_cons] at e
    obtain ⟨a, ha, e1⟩ := ob_some e
    obtain ⟨b, hb, e2⟩ := ob_some e1
    cases e2
    simp only [List.mem_cons] at hx
    rcases hx with rfl | hx
    · exact ⟨a, ha, fun _ h => List.mem_append_left _ h⟩
    · obtain ⟨c, hc, h2⟩ := bindL_some hb x (by simpa using hx)
      exact ⟨c, hc, fun q hq => List.mem_append_right _ (h2 q hq)⟩
theorem obL_some {α β : Type} {x : Option (List α)} {f : α → Option (List β)} {r : List β} (e : obL x f = some r) : ∃ l, x = some l ∧ ∀ y ∈ l, ∃ a, f y = some a ∧ ∀ z ∈ a, z ∈ r := by
  obtain ⟨l, hl, e⟩ := ob_some e
  exact ⟨l, hl, bindL_some e⟩
theorem mapO_some {α β : Type} {f : α → Option β} : ∀ {l : List α} {r : List β}, mapO l f = some r → ∀ x ∈ l, ∃ b ∈ r, f x = some b
  | [], r, _, x, hx => by simp at hx
  | z :: t, r, e, x, hx => by
    have e' : (ob (f z) fun a => ob (mapO t f) fun b => some (a :: b)) = some r := e
    obtain ⟨a, ha, e1⟩ := ob_some e'
    obtain ⟨b, hb, e2⟩ := ob_some e1
    cases e2
    simp only [List.mem_cons] at hx
    rcases hx with rfl | hx
    · exact ⟨a, by simp, ha⟩
    · obtain ⟨c, hc, h2⟩ := mapO_some hb x hx
      exact ⟨c, by simp [hc], h2⟩

/- what is in common -/
theorem kcode_eq {k k' : IntKind} (h : Nat.beq (kcode k) (kcode k') = true) : k = k' := by
  have h1 := nbeq_iff.1 h
  cases k <;> cases k' <;> first | rfl | (simp [kcode] at h1)
mutual
theorem veq_same : ∀ {a b : AV}, veq a b = true → a = b
  | .bool a, b, h => by cases b <;> simp [veq] at h; rw [h]
  | .int k a, b, h => by
    cases b <;> simp [veq] at h
    obtain ⟨h1, h2⟩ := h
    rw [kcode_eq (nbeq_iff.2 h1), h2]
  | .str n c, b, h => by cases b <;> simp [veq, strEq] at h; rw [h.1, h.2]
  | .nilp, b, h => by cases b <;> simp [veq] at h; rfl
  | .ptr x o, b, h => by cases b <;> simp [veq] at h; rw [h.1, h.2]
  | .gp x o, b, h => by cases b <;> simp [veq] at h; rw [h.1, h.2]
  | .oi x, b, h => by cases b <;> simp [veq] at h; rw [h]
  | .es, b, h => by cases b <;> simp [veq] at h; rfl
  | .fo x j z, b, h => by
    cases b <;> simp only [veq, Bool.and_eq_true, Bool.false_eq_true] at h
    rw [Nat.eq_of_beq_eq_true h.1, Nat.eq_of_beq_eq_true h.2.1, Nat.eq_of_beq_eq_true h.2.2]
  | .fp x j z f, b, h => by
    cases b <;> simp only [veq, Bool.and_eq_true, Bool.false_eq_true] at h
    rw [Nat.eq_of_beq_eq_true h.1, Nat.eq_of_beq_eq_true h.2.1, Nat.eq_of_beq_eq_true h.2.2.1, Nat.eq_of_beq_eq_true h.2.2.2]
  | .ov x j z, b, h => by
    cases b <;> simp only [veq, Bool.and_eq_true, Bool.false_eq_true] at h
    rw [Nat.eq_of_beq_eq_true h.1, Nat.eq_of_beq_eq_true h.2.1, Nat.eq_of_beq_eq_true h.2.2]
  | .op x j z f, b, h => by
    cases b <;> simp only [veq, Bool.and_eq_true, Bool.false_eq_true] at h
    rw [Nat.eq_of_beq_eq_true h.1, Nat.eq_of_beq_eq_true h.2.1, Nat.eq_of_beq_eq_true h.2.2.1, Nat.eq_of_beq_eq_true h.2.2.2]
  | .nils, b, h => by cases b <;> simp [veq] at h; rfl
  | .sl x o n c, b, h => by cases b <;> simp [veq] at h; rw [h.1, h.2.1, h.2.2.1, h.2.2.2]
  | .so x o n c, b, h => by cases b <;> simp [veq] at h; rw [h.1, h.2.1, h.2.2.1, h.2.2.2]
  | .nilm, b, h => by cases b <;> simp [veq] at h; rfl
  | .map x, b, h => by cases b <;> simp [veq] at h; rw [h]
  | .fn f a c, b, h => by
    cases b with
    | fn g d e =>
      cases f <;> cases g <;> simp [veq] at h
      obtain ⟨h1, h2, h3⟩ := h
      rw [h1, veqs_same h2, veqs_same h3]
    | _ => cases f <;> simp [veq] at h
  | .nilf, b, h => by cases b <;> simp [veq] at h; rfl
  | .iface t v, b, h => by
    cases b <;> simp [veq] at h
    rw [h.1, veq_same h.2]
  | .nili, b, h => by cases b <;> simp [veq] at h; rfl
  | .agg l, b, h => by cases b <;> simp [veq] at h; rw [veqs_same h]
  | .tup l, b, h => by cases b <;> simp [veq] at h; rw [veqs_same h]
  | .ostr i, b, h => by cases b <;> simp [veq] at h; rw [h]
theorem veqs_same : ∀ {a b : List AV}, veqs a b = true → a = b
  | [], b, h => by cases b <;> simp [veqs] at h; rfl
  | x :: l, b, h => by
    cases b <;> simp [veqs] at h
    rw [veq_same h.1, veqs_same h.2]
end
theorem T.inter_get {α : Type} {eq : α → α → Bool} (he : ∀ x y, eq x y = true → x = y) : ∀ (a b : T α) (n : Nat) (x : α), (T.inter eq a b).get n = some x → a.get n = some x ∧ b.get n = some x
  | .leaf, b, n, x, h => by have h' : (T.leaf : T α).get n = some x := h; simp at h'
  | .node l v r, .leaf, n, x, h => by have h' : (T.leaf : T α).get n = some x := h; simp at h'
  | .node l v r, .node l' v' r', n, x, h => by
    have h' : (fT (T.inter eq l l') fun p => fT (T.inter eq r r') fun q => T.node p (bothO eq v v') q).get n = some x := h
    rw [fT_eq, fT_eq, T.get_node] at h'
    rw [T.get_node, T.get_node]
    split at h'
    · rename_i h0
      rw [if_pos h0, if_pos h0]
      cases v with
      | none => have h2 : (none : Option α) = some x := h'; simp at h2
      | some u =>
        cases v' with
        | none => have h2 : (none : Option α) = some x := h'; simp at h2
        | some u' =>
          have h2 : (Bool.rec none (some u) (eq u u') : Option α) = some x := h'
          cases hc : eq u u' with
          | false => rw [hc] at h2; simp at h2
          | true =>
            rw [hc] at h2
            have h3 : some u = some x := h2
            rw [← he u u' hc]; exact ⟨h3, h3⟩
    · rename_i h0
      rw [if_neg h0, if_neg h0]
      split at h'
      · rename_i h1
        rw [if_pos h1, if_pos h1]
        exact T.inter_get he l l' _ x h'
      · rename_i h1
        rw [if_neg h1, if_neg h1]
        exact T.inter_get he r r' _ x h'
theorem T.same_eq {α : Type} {eq : α → α → Bool} (he : ∀ x y, eq x y = true → x = y) : ∀ (a b : T α), a.same eq b = true → a = b
  | .leaf, .leaf, _ => rfl
  | .leaf, .node _ _ _, h => by have h' : false = true := h; simp at h'
  | .node l v r, .leaf, h => by have h' : false = true := h; simp at h'
  | .node l v r, .node l' v' r', h => by
    have h' : (eqO eq v v' && (l.same eq l' && r.same eq r')) = true := h
    simp only [Bool.and_eq_true] at h'
    have hv : v = v' := by
      cases v with
      | none =>
        cases v' with
        | none => rfl
        | some u => have h2 : false = true := h'.1; simp at h2
      | some u =>
        cases v' with
        | none => have h2 : false = true := h'.1; simp at h2
        | some u' => have h2 : eq u u' = true := h'.1; rw [he u u' h2]
    rw [hv, T.same_eq he l l' h'.2.1, T.same_eq he r r' h'.2.2]
theorem eqEs_eq : ∀ {a b : List (AV × AV × Nat)}, eqEs a b = true → a = b
  | [], [], _ => rfl
  | [], _ :: _, h => by simp [eqEs] at h
  | _ :: _, [], h => by simp [eqEs] at h
  | (k, v, n) :: l, (k', v', n') :: m, h => by
    simp only [eqEs, Bool.and_eq_true] at h
    rw [veq_same h.1, veq_same h.2.1, nbeq_iff.1 h.2.2.1, eqEs_eq h.2.2.2]
theorem eqNs_eq : ∀ {a b : List Nat}, eqNs a b = true → a = b
  | [], [], _ => rfl
  | [], _ :: _, h => by simp [eqNs] at h
  | _ :: _, [], h => by simp [eqNs] at h
  | k :: l, k' :: m, h => by
    simp only [eqNs, Bool.and_eq_true] at h
    rw [nbeq_iff.1 h.1, eqNs_eq h.2]
theorem beq_eq {a b : Blk} (h : beq? a b = true) : a = b := by
  unfold beq? at h
  split at h
  · simp only [Bool.and_eq_true, beq_iff_eq] at h
    rw [nbeq_iff.1 h.1, h.2.1, veqs_same h.2.2.1, T.same_eq (fun _ _ => veq_same) _ _ h.2.2.2]
  · simp only [Bool.and_eq_true] at h
    rw [nbeq_iff.1 h.1, veqs_same h.2.1, T.same_eq (fun _ _ => veq_same) _ _ h.2.2]
  · simp only [Bool.and_eq_true] at h
    rw [nbeq_iff.1 h.1, eqEs_eq h.2]
  · simp only [Bool.and_eq_true] at h
    rw [nbeq_iff.1 h.1, nbeq_iff.1 h.2.1, nbeq_iff.1 h.2.2]
  · simp only [Bool.and_eq_true] at h
    rw [nbeq_iff.1 h.1, nbeq_iff.1 h.2.1, eqNs_eq h.2.2.1, nbeq_iff.1 h.2.2.2]
  · simp only [Bool.and_eq_true] at h
    rw [nbeq_iff.1 h.1, eqNs_eq h.2.1, nbeq_iff.1 h.2.2]
  · simp only [nbeq_iff] at h; rw [h]
  · simp at h

/-- less is known -/
structure Less (h' h : H) : Prop where
  next : h.next ≤ h'.next
  get : ∀ y b, h'.get y = some b → h.get y = some b
theorem Less.refl (h : H) : Less h h := ⟨Nat.le_refl _, fun _ _ e => e⟩
theorem Less.trans {a b c : H} (h : Less a b) (k : Less b c) : Less a c := ⟨Nat.le_trans k.next h.next, fun y e he => k.get y e (h.get y e he)⟩
theorem HR.less (r : HR B w0 μ h w) (l : Less h' h) : HR B w0 μ h' w :=
  r.weaken (R := B.res) l.next (fun x hx => ⟨Nat.lt_of_lt_of_le (r.res x hx).1 l.next, (r.res x hx).2⟩) l.get
theorem inter_less (a b : H) : Less (a.inter b) a ∧ Less (a.inter b) b := by
  have e : a.inter b = ⟨Nat.max a.next b.next, T.inter beq? a.t b.t⟩ := by unfold H.inter; rw [fN_eq, fT_eq]
  rw [e]
  exact ⟨⟨Nat.le_max_left _ _, fun y c hc => (T.inter_get (fun _ _ => beq_eq) a.t b.t y c hc).1⟩, ⟨Nat.le_max_right _ _, fun y c hc => (T.inter_get (fun _ _ => beq_eq) a.t b.t y c hc).2⟩⟩
def LessF (f' f : Fr) : Prop := ∀ t v, f'.get t = some v → f.get t = some v
theorem FR.less {fr fr' : Fr} (f : FR μ nt fr a) (l : LessF fr' fr) : FR μ nt fr' a := ⟨f.1, f.2.1, fun t v ht => f.2.2 t v (l t v ht)⟩
theorem exEq_eq {a b : Ex} (h : exEq a b = true) : a = b := by
  cases a <;> cases b <;> simp [exEq] at h <;> first | rfl | (rw [h])
/-- q tells no more than p -/
def Under (q p : Ex × Fr × H) : Prop := q.1 = p.1 ∧ LessF q.2.1 p.2.1 ∧ Less q.2.2 p.2.2
theorem merge2_some {a b q : Ex × Fr × H} (e : merge2 a b = some q) : Under q a ∧ Under q b := by
  obtain ⟨h1, e⟩ := ifb_some e
  rw [fT_eq, fH_eq] at e
  cases e
  obtain ⟨g1, g2⟩ := inter_less a.2.2 b.2.2
  exact ⟨⟨rfl, fun t v h => (T.inter_get (fun _ _ => veq_same) _ _ t v h).1, g1⟩, ⟨exEq_eq h1, fun t v h => (T.inter_get (fun _ _ => veq_same) _ _ t v h).2, g2⟩⟩
theorem Under.refl (q : Ex × Fr × H) : Under q q := ⟨rfl, fun _ _ h => h, .refl _⟩
theorem Under.trans {a b c : Ex × Fr × H} (h : Under a b) (k : Under b c) : Under a c := ⟨h.1.trans k.1, fun t v e => k.2.1 t v (h.2.1 t v e), h.2.2.trans k.2.2⟩
theorem mergeGo_some : ∀ {l : List (Ex × Fr × H)} {a q : Ex × Fr × H}, mergeGo l a = some q → Under q a ∧ ∀ p ∈ l, Under q p
  | [], a, q, e => by have e' : some a = some q := e; cases e'; exact ⟨.refl _, fun p hp => by simp at hp⟩
  | b :: l, a, q, e => by
    have e' : ob (merge2 a b) (mergeGo l) = some q := e
    obtain ⟨m, hm, e1⟩ := ob_some e'
    obtain ⟨h1, h2⟩ := merge2_some hm
    obtain ⟨h3, h4⟩ := mergeGo_some e1
    refine ⟨h3.trans h1, fun p hp => ?_⟩
    simp only [List.mem_cons] at hp
    rcases hp with rfl | hp
    · exact h3.trans h2
    · exact h4 p hp
theorem mergeO_some {l r : List (Ex × Fr × H)} (e : mergeO l = some r) : ∀ p ∈ l, ∃ q ∈ r, Under q p := by
  cases l with
  | nil => intro p hp; simp at hp
  | cons x t =>
    cases t with
    | nil =>
      have e' : some [x] = some r := e
      cases e'
      intro p hp
      simp only [List.mem_singleton] at hp
      subst hp
      exact ⟨p, by simp, .refl _⟩
    | cons y t =>
      have e' : (Option.rec (some (x :: y :: t)) (fun q => some [q]) (mergeGo (y :: t) x) : Out) = some r := e
      cases hm : mergeGo (y :: t) x with
      | none =>
        rw [hm] at e'
        have e2 : some (x :: y :: t) = some r := e'
        cases e2
        exact fun p hp => ⟨p, hp, .refl _⟩
      | some q =>
        rw [hm] at e'
        have e2 : some [q] = some r := e'
        cases e2
        obtain ⟨h1, h2⟩ := mergeGo_some hm
        intro p hp
        simp only [List.mem_cons] at hp
        refine ⟨q, by simp, ?_⟩
        rcases hp with rfl | hp
        · exact h1
        · exact h2 p (by simpa using hp)
theorem mergeV_some : ∀ {l : List (AV × H)} {q : AV × H}, mergeV l = some q → ∀ p ∈ l, q.1 = p.1 ∧ Less q.2 p.2
  | [], q, e, p, hp => by simp at hp
  | [x], q, e, p, hp => by
    have e' : some x = some q := e
    cases e'
    simp only [List.mem_singleton] at hp
    subst hp
    exact ⟨rfl, .refl _⟩
  | x :: y :: t, q, e, p, hp => by
    have e' : ob (mergeV (y :: t)) (fun q => mergeV2 x q) = some q := e
    obtain ⟨m, hm, e1⟩ := ob_some e'
    obtain ⟨h1, e2⟩ := ifb_some e1
    rw [fH_eq] at e2
    cases e2
    have h1 := veq_same h1
    obtain ⟨g1, g2⟩ := inter_less x.2 m.2
    simp only [List.mem_cons] at hp
    rcases hp with rfl | hp
    · exact ⟨rfl, g1⟩
    · obtain ⟨k1, k2⟩ := mergeV_some hm p (by simpa using hp)
      exact ⟨h1.trans k1, g2.trans k2⟩

theorem enter_sound {run : Run} (hrec : RunOk P run) (r : HR B w0 μ h w) {f : FuncId} {args : List AV} {args' : Array Value} {p : AV × H} (ha : vrels μ args args'.toList) (e : enter? P run f args h = some p) :
    Calls P f args' w fun e w' => ∃ v' μ', e = .returned v' ∧ Ext μ μ' ∧ vrel μ' p.1 v' ∧ HR B w0 μ' p.2 w' := by
  obtain ⟨fn, hfn, e⟩ := ob_some e
  obtain ⟨body, hb, e⟩ := ob_some e
  obtain ⟨hle, e⟩ := ifb_some e
  simp only [Bool.and_eq_true, ble_iff, blt_iff] at hle
  obtain ⟨l, hq, e⟩ := ob_some e
  obtain ⟨lv, hlv, e⟩ := ob_some e
  have hlen : args'.size = args.length := by rw [← Array.length_toList, vrels_length ha]
  have hf : FR μ fn.ntmps (T.ofList 0 .leaf args) { tmps := args' ++ Array.replicate (fn.ntmps - args'.size) undef, defers := [] } := by
    refine ⟨by simp; omega, rfl, fun t v ht => ?_⟩
    rw [T.get_ofList _ _ _ _ (by have := hle.2; unfold limit at this; omega)] at ht
    split at ht
    · rename_i hc
      simp only [Nat.sub_zero] at ht
      obtain ⟨v', g1, g2⟩ := vrels_get ha ht
      refine ⟨v', ?_, g2⟩
      rw [Array.getElem?_append_left (by omega), ← Array.getElem?_toList]
      exact g1
    · simp at ht
  have hwp := hrec fn.ntmps body _ h l hq B w0 μ _ w hf r
  refine calls_of_wp hfn hb (wp_mono hwp ?_)
  rintro e' a' w' ⟨⟨ex, fr1, h1⟩, hmem, he, μ', g1, g2, g3⟩
  obtain ⟨b, hbm, hbl⟩ := mapO_some hlv _ hmem
  obtain ⟨m1, m2⟩ := mergeV_some e b hbm
  have hbl : leaves P fn ex fr1 h1 = some b := hbl
  dsimp only at he g2 g3
  subst he
  cases ex with
  | normal =>
    obtain ⟨v, hv, e⟩ := ob_some hbl
    cases e
    obtain ⟨v', k1, k2⟩ := results_sound (P := P) g2 g3 hv
    exact ⟨g2.2.1, v', k1, v', μ', rfl, g1, by rw [m1]; exact k2, g3.less m2⟩
  | ret =>
    obtain ⟨v, hv, e⟩ := ob_some hbl
    cases e
    obtain ⟨v', k1, k2⟩ := results_sound (P := P) g2 g3 hv
    exact ⟨g2.2.1, v', k1, v', μ', rfl, g1, by rw [m1]; exact k2, g3.less m2⟩
  | exit id => simp [leaves] at hbl

/-- An operation, whatever it does, and what comes behind it. -/
theorem oper_wp {rec : Rec} (hrec : RecOk P rec) (r : HR B w0 μ h w) (o : Oper) {res : Res} {v : AV} {next : Act → World → Prop} {Q : Exit → Act → World → Prop} (he : Ev μ fr a.eval o.op.operands.toList)
    (e : op? o.op P fr h = some res) (ev : valOf P rec h res = some (v, h')) (hnext : ∀ v' w' μ', Ext μ μ' → vrel μ' v v' → HR B w0 μ' h' w' → next (a.put o.dst v') w') : o.wp P a w next Q := by
  have hop := op_sound r o he e
  cases res with
  | val u h1 =>
    simp only [valOf] at ev
    cases ev
    obtain ⟨nx, v', w', μ', h1, h2, h3, h4, h5⟩ := hop
    unfold Oper.wp
    rw [h1]
    rcases h2 with rfl | ⟨rfl, rfl⟩
    · exact hnext v' w' μ' h3 h4 h5
    · exact hnext undef w' μ' h3 h4 h5
  | call f args =>
    simp only [valOf] at ev
    obtain ⟨args', h1, h2⟩ := hop
    unfold Oper.wp
    rw [h1]
    refine (hrec.call _ _ _ _ ev _ _ _ _ _ r h2).mono ?_
    rintro e w' ⟨v', μ', rfl, g1, g2, g3⟩
    exact hnext v' w' μ' g1 g2 g3
  | pick l => simp [valOf] at ev

theorem putH_eq {d : Option Tmp} {v : AV} : putH nt d fr v h = ob (put? nt d v fr) fun fr => some [(fr, h)] := by simp only [putH, fV_eq, fH_eq, fT_eq]

/-- An operation in the text's order: each outcome. -/
theorem finish_wp {rec : Rec} (hrec : RecOk P rec) (r : HR B w0 μ h w) (f : FR μ nt fr a) (o : Oper) {res : Res} {l : List (Fr × H)} {next : Act → World → Prop} {Q : Exit → Act → World → Prop}
    (e : op? o.op P fr h = some res) (ef : finish P rec nt o.dst fr h res = some l) (hnext : ∀ q ∈ l, ∀ a' w' μ', Ext μ μ' → FR μ' nt q.1 a' → HR B w0 μ' q.2 w' → next a' w') : o.wp P a w next Q := by
  have put : ∀ {v : AV} {h1 : H} {l : List (Fr × H)}, putH nt o.dst fr v h1 = some l → ∃ fr1, put? nt o.dst v fr = some fr1 ∧ l = [(fr1, h1)] := by
    intro v h1 l hp
    rw [putH_eq] at hp
    obtain ⟨fr1, h2, h3⟩ := ob_some hp
    cases h3
    exact ⟨fr1, h2, rfl⟩
  cases res with
  | val u h1 =>
    simp only [finish] at ef
    obtain ⟨fr1, hf, rfl⟩ := put ef
    exact oper_wp hrec r o (f.ev _) e (v := u) (h' := h1) rfl (fun v' w' μ' g1 g2 g3 => hnext (fr1, h1) (by simp) _ w' μ' g1 ((f.ext g1).put hf g2) g3)
  | call g args =>
    simp only [finish] at ef
    obtain ⟨p, hp, ef⟩ := ob2_some ef
    obtain ⟨fr1, hf, rfl⟩ := put ef
    exact oper_wp hrec r o (f.ev _) e (v := p.1) (h' := p.2) (by simp only [valOf]; exact hp) (fun v' w' μ' g1 g2 g3 => hnext (fr1, p.2) (by simp) _ w' μ' g1 ((f.ext g1).put hf g2) g3)
  | pick ps =>
    simp only [finish] at ef
    have hop := op_sound r o (f.ev _) e
    obtain ⟨p, hp, v', w', μ', h1, h2, h3, h4⟩ := hop
    obtain ⟨l1, hl1, hsub⟩ := bindL_some ef p hp
    obtain ⟨fr1, hf, rfl⟩ := put hl1
    unfold Oper.wp
    rw [h1]
    exact hnext (fr1, p.2) (hsub _ (by simp)) _ w' μ' h2 ((f.ext h2).put hf h3) h4

theorem opers_sound {rec : Rec} (hrec : RecOk P rec) {ops : Array Oper} {Q : Exit → Act → World → Prop} : ∀ (l : List Oper) (i : Nat) (fr : Fr) (h : H) (qs : List (Fr × H)) (μ : M) (a : Act) (w : World), ops.toList.drop i = l → opers? P rec nt ops.toList l fr h = some qs → FR μ nt fr a → HR B w0 μ h w →
    (∀ q ∈ qs, ∀ μ' a' w', Ext μ μ' → FR μ' nt q.1 a' → HR B w0 μ' q.2 w' → Q .normal a' w') → wpOps P ops Q (List.range' i l.length) a w
  | [], i, fr, h, qs, μ, a, w, hd, e, f, r, hQ => by
    have e' : some [(fr, h)] = some qs := e
    cases e'
    simpa [wpOps] using hQ (fr, h) (by simp) μ a w (Ext.refl _) f r
  | o :: l, i, fr, h, qs, μ, a, w, hd, e, f, r, hQ => by
    have e' : obL (oper? P rec nt ops.toList o fr h) (fun p => Prod.rec (fun fr h => opers? P rec nt ops.toList l fr h) p) = some qs := e
    obtain ⟨ps, hp, hps⟩ := obL_some e'
    have hi : ops[i]? = some o := by
      rw [← Array.getElem?_toList]
      have := List.getElem?_drop (xs := ops.toList) (i := i) (j := 0)
      rw [hd] at this
      simpa using this.symm
    have hd' : ops.toList.drop (i + 1) = l := by
      rw [← List.drop_drop, hd]; rfl
    simp only [List.length_cons, List.range'_succ, wpOps, hi]
    obtain ⟨b, hb, hp⟩ := ob_some hp
    rw [f.wanted hb]
    have go : ∀ p ∈ ps, ∀ μ' a' w', Ext μ μ' → FR μ' nt p.1 a' → HR B w0 μ' p.2 w' → wpOps P ops Q (List.range' (i + 1) l.length) a' w' := by
      intro p hpm μ' a' w' g1 g2 g3
      obtain ⟨l1, hl1, hsub⟩ := hps p hpm
      have hl1 : opers? P rec nt ops.toList l p.1 p.2 = some l1 := hl1
      exact opers_sound hrec l (i + 1) p.1 p.2 l1 μ' a' w' hd' hl1 g2 g3 (fun q hq μ2 a2 w2 k1 k2 k3 => hQ q (hsub q hq) μ2 a2 w2 (g1.trans k1) k2 k3)
    cases b with
    | false =>
      have hp : putH nt o.dst fr .undef h = some ps := hp
      rw [putH_eq] at hp
      obtain ⟨fr1, hf, hp⟩ := ob_some hp
      cases hp
      rw [if_neg (by simp)]
      exact go (fr1, h) (by simp) μ _ w (Ext.refl _) (f.put hf undef_rel) r
    | true =>
      obtain ⟨res, hres, hp⟩ := ob_some hp
      rw [if_pos rfl]
      exact .inl (finish_wp hrec r f o hres hp (fun q hq a' w' μ' g1 g2 g3 => go q hq μ' a' w' g1 g2 g3))
end Go.X
