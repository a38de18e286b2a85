/-
  Frames, calls, and regions in the text's order.
-/
import Derived.Test.YtdlcefbpckieeaaGreatDoorXQuiet
set_option linter.unusedVariables false
set_option linter.unusedSimpArgs false
set_option linter.unusedSectionVars false
namespace Go.X
open Go.RowKit

variable [Tab]
variable {P : Program} {B : Kp} {w0 : World} {μ μ' : M} {h h' : H} {w w' : World} {fr fr' : Fr} {nt : Nat} {a : Act}

def FR (μ : M) (nt : Nat) (fr : Fr) (a : Act) : Prop := a.tmps.size = nt ∧ a.defers = [] ∧ ∀ t v, fr.get t = some v → ∃ v', a.tmps[t]? = some v' ∧ vrel μ v v'

theorem FR.ext (f : FR μ nt fr a) (e : Ext μ μ') : FR μ' nt fr a := ⟨f.1, f.2.1, fun t v ht => let ⟨v', h1, h2⟩ := f.2.2 t v ht; ⟨v', h1, vrel.ext e _ _ h2⟩⟩

theorem ev_known {x : Operand} {v : AV} (hf : ∀ t v, x = .tmp t → fr.get t = some v → ∃ v', a.tmps[t]? = some v' ∧ vrel μ v v') (e : ev x fr = some v) : vrel μ v (a.eval x) := by
  cases x with
  | tmp t =>
    obtain ⟨v', h1, h2⟩ := hf t v rfl e
    have : a.eval (.tmp t) = v' := by
      show a.tmps.getD t undef = v'
      rw [Array.getD_eq_getD_getElem?, h1]; rfl
    rw [this]; exact h2
  | const c => exact ofValue_sound e
  | func f =>
    have e' : some (AV.fn (.func f) [] []) = some v := e
    cases e'
    simp only [vrel]
    exact ⟨[], [], rfl, by simp [vrels], by simp [vrels]⟩
  | global g =>
    have e' : some (AV.gp g 0) = some v := e
    cases e'
    simp only [vrel]; rfl

theorem FR.ev (f : FR μ nt fr a) (xs : List Operand) : Ev μ fr a.eval xs := fun _ _ _ e => ev_known (fun t v _ ht => f.2.2 t v ht) e

theorem put_some {d : Option Tmp} {v : AV} (e : put? nt d v fr = some fr') : (d = none ∧ fr' = fr) ∨ ∃ t, d = some t ∧ t < nt ∧ t < limit ∧ fr' = fr.put t v := by
  cases d with
  | none => simp only [put?] at e; cases e; exact .inl ⟨rfl, rfl⟩
  | some t =>
    simp only [put?] at e
    obtain ⟨h1, e⟩ := ifb_some e
    cases e
    simp only [Bool.and_eq_true, blt_iff] at h1
    exact .inr ⟨t, rfl, h1.1, h1.2, rfl⟩

theorem FR.put (f : FR μ nt fr a) {d : Option Tmp} {v : AV} {v' : Value} (e : put? nt d v fr = some fr') (hv : vrel μ v v') : FR μ nt fr' (a.put d v') := by
  rcases put_some e with ⟨rfl, rfl⟩ | ⟨t, rfl, h1, h2, rfl⟩
  · exact f
  · refine ⟨by simpa [Act.put] using f.1, f.2.1, fun s u hs => ?_⟩
    rw [T.get_put _ _ _ _ (Nat.lt_of_lt_of_le h2 (by unfold limit; omega))] at hs
    simp only [Act.put, Array.getElem?_setIfInBounds]
    by_cases c : s = t
    · subst c
      rw [if_pos rfl] at hs; cases hs
      rw [if_pos rfl, if_pos (by rw [f.1]; exact h1)]
      exact ⟨v', rfl, hv⟩
    · rw [if_neg c] at hs
      rw [if_neg (fun e => c e.symm)]
      exact f.2.2 s u hs

theorem undef_rel : vrel μ .undef undef := by simp only [AV.undef, undef, vrel]; exact ⟨[], rfl, by simp [vrels]⟩

theorem wanted_known {ops : Array Oper} {o : Oper} {b : Bool} {tmps : Array Value} (hf : ∀ j want g d v, o.guard = some (j, want) → ops[j]? = some g → g.dst = some d → fr.get d = some v → ∃ v', tmps[d]? = some v' ∧ vrel μ v v')
    (e : wanted? ops.toList fr o.guard = some b) : Region.wanted o (yielded ops tmps) = b := by
  unfold wanted? at e
  unfold Region.wanted
  cases hg : o.guard with
  | none => rw [hg] at e; cases e; rfl
  | some p =>
    obtain ⟨j, want⟩ := p
    rw [hg] at e
    simp only at e ⊢
    obtain ⟨g, hg1, e⟩ := ob_some e
    obtain ⟨d, hd, e⟩ := ob_some e
    obtain ⟨v, hv, e⟩ := ob_some e
    rw [Array.getElem?_toList] at hg1
    obtain ⟨v', h1, h2⟩ := hf j want g d v hg hg1 hd hv
    have hy : yielded ops tmps j = match v' with | .bool b => some b | _ => none := by
      simp only [yielded, hg1, Option.bind_some, hd, h1]
      cases v' <;> rfl
    rw [hy]
    unfold guardV at e
    split at e
    · cases e
      simp only [vrel] at h2
      subst h2
      simp
    · cases e
      simp only [vrel] at h2
      obtain ⟨cs, rfl, _⟩ := h2
      rfl
    · simp at e

theorem FR.wanted (f : FR μ nt fr a) {ops : Array Oper} {o : Oper} {b : Bool} (e : wanted? ops.toList fr o.guard = some b) : Region.wanted o (yielded ops a.tmps) = b :=
  wanted_known (fun _ _ _ d v _ _ _ hv => f.2.2 d v hv) e

/- code -/
def Ex.to : Ex → Exit
  | .normal => .normal
  | .exit id => .exit id
  | .ret => .ret

def Post (B : Kp) (w0 : World) (μ : M) (nt : Nat) (e : Ex) (fr' : Fr) (h' : H) (e' : Exit) (a' : Act) (w' : World) : Prop :=
  e' = e.to ∧ ∃ μ', Ext μ μ' ∧ FR μ' nt fr' a' ∧ HR B w0 μ' h' w'

def RunOk (P : Program) (run : Run) : Prop := ∀ nt c fr h e fr' h', run nt c fr h = some (e, fr', h') → ∀ B w0 μ a w, FR μ nt fr a → HR B w0 μ h w → c.wp P (Post B w0 μ nt e fr' h') a w

def CallOk (P : Program) (f : FuncId) (args : List AV) (h : H) (p : AV × H) : Prop := ∀ B w0 μ w (args' : Array Value), HR B w0 μ h w → vrels μ args args'.toList →
  Calls P f args' w fun e w' => ∃ v' μ', e = .returned v' ∧ Ext μ μ' ∧ vrel μ' p.1 v' ∧ HR B w0 μ' p.2 w'

structure RecOk (P : Program) (rec : Rec) : Prop where
  run : RunOk P rec.run
  call : ∀ f args h p, rec.call f args h = some p → CallOk P f args h p

def resSem (tmps : Array Value) : ResultVar → Sem Value
  | .tmp t => pure (tmps.getD t undef)
  | .cell q t => do loadVar t (← asAddr (tmps.getD q undef))

theorem ress_sound (f : FR μ nt fr a) (r : HR B w0 μ h w) : ∀ {l : List ResultVar} {vs : List AV}, ress? P fr h l = some vs →
    ∃ us, (l.mapM (resSem a.tmps)).run P w = .ok us w ∧ vrels μ vs us
  | [], vs, e => by
    have e' : some ([] : List AV) = some vs := e
    cases e'
    exact ⟨[], by simp, by simp [vrels]⟩
  | x :: l, vs, e => by
    have e' : ob (res? P fr h x) (fun v => ob (ress? P fr h l) fun vs => some (v :: vs)) = some vs := e
    obtain ⟨v, hv, e'⟩ := ob_some e'
    obtain ⟨vs', hvs, e'⟩ := ob_some e'
    cases e'
    obtain ⟨us, h1, h2⟩ := ress_sound f r hvs
    have hget : ∀ t v, fr.get t = some v → ∃ v', a.tmps.getD t undef = v' ∧ vrel μ v v' := by
      intro t v ht
      obtain ⟨v', g1, g2⟩ := f.2.2 t v ht
      exact ⟨v', by rw [Array.getD_eq_getD_getElem?, g1]; rfl, g2⟩
    cases x with
    | tmp t =>
      obtain ⟨v', g1, g2⟩ := hget t v hv
      exact ⟨v' :: us, by simp only [List.mapM_cons, Sem.run_bind, resSem, g1, Sem.run_pure, Result.andThen_ok, h1], vrels_cons g2 h2⟩
    | cell q t =>
      simp only [res?] at hv
      obtain ⟨pv, hpv, hv⟩ := ob_some hv
      obtain ⟨v', g1, g2⟩ := hget q pv hpv
      cases pv with
      | ptr y o =>
        simp only [resD] at hv
        simp only [vrel] at g2
        obtain ⟨l', hl', rfl⟩ := g2
        obtain ⟨u, k1, k2⟩ := loadVar_sound (P := P) r hl' hv
        have hA : (asAddr (a.tmps.getD q undef)).run P w = .ok ⟨l'.block, l'.base + o, none⟩ w := by rw [g1]; rfl
        exact ⟨u :: us, by simp only [List.mapM_cons, Sem.run_bind, resSem, hA, Sem.run_pure, Result.andThen_ok, k1, h1], vrels_cons k2 h2⟩
      | _ => simp [resD] at hv

theorem results_sound (f : FR μ nt fr a) (r : HR B w0 μ h w) {fn : Func} {v : AV} (e : results? P fn fr h = some v) : ∃ v', (results fn a.tmps).run P w = .ok v' w ∧ vrel μ v v' := by
  obtain ⟨vs, hvs, e⟩ := ob_some e
  cases e
  obtain ⟨us, h1, h2⟩ := ress_sound f r hvs
  have hlen := vrels_length h2
  refine ⟨if hh : (⟨us⟩ : Array Value).size = 1 then (⟨us⟩ : Array Value)[0] else .tuple ⟨us⟩, ?_, ?_⟩
  · have hres : results fn a.tmps = (do let vs ← fn.results.mapM (resSem a.tmps); pure (if h : vs.size = 1 then vs[0] else .tuple vs)) := by
      unfold results
      congr 1
    rw [hres]
    simp only [Array.mapM_eq_mapM_toList, Sem.run_bind, Sem.run_map, h1, Result.andThen_ok, Sem.run_pure]
  · unfold tupD
    split
    · rename_i v
      simp only [vrels] at h2
      obtain ⟨u, _, rfl, hu, rfl⟩ := h2
      simpa using hu
    · rename_i hne
      have : ¬ (⟨us⟩ : Array Value).size = 1 := by
        intro hh
        have hh' : us.length = 1 := hh
        cases vs with
        | nil => simp only [List.length_nil] at hlen; omega
        | cons x l =>
          cases l with
          | nil => exact hne x rfl
          | cons y l => simp only [List.length_cons] at hlen; omega
      rw [dif_neg this]
      simp only [vrel]
      exact ⟨us, rfl, h2⟩

theorem enter_sound {run : Run} (hrec : RunOk P run) (r : HR B w0 μ h w) {f : FuncId} {args : List AV} {args' : Array Value} {p : AV × H} (ha : vrels μ args args'.toList) (e : enter? P run f args h = some p) :
    Calls P f args' w fun e w' => ∃ v' μ', e = .returned v' ∧ Ext μ μ' ∧ vrel μ' p.1 v' ∧ HR B w0 μ' p.2 w' := by
  obtain ⟨fn, hfn, e⟩ := ob_some e
  obtain ⟨body, hb, e⟩ := ob_some e
  obtain ⟨hle, e⟩ := ifb_some e
  simp only [Bool.and_eq_true, ble_iff, blt_iff] at hle
  obtain ⟨q, hq, e⟩ := ob_some e
  obtain ⟨ex, fr1, h1⟩ := q
  have hlen : args'.size = args.length := by rw [← Array.length_toList, vrels_length ha]
  have hf : FR μ fn.ntmps (T.ofList 0 .leaf args) { tmps := args' ++ Array.replicate (fn.ntmps - args'.size) undef, defers := [] } := by
    refine ⟨by simp; omega, rfl, fun t v ht => ?_⟩
    rw [T.get_ofList _ _ _ _ (by have := hle.2; unfold limit at this; omega)] at ht
    split at ht
    · rename_i hc
      simp only [Nat.sub_zero] at ht
      obtain ⟨v', g1, g2⟩ := vrels_get ha ht
      refine ⟨v', ?_, g2⟩
      rw [Array.getElem?_append_left (by omega), ← Array.getElem?_toList]
      exact g1
    · simp at ht
  have hwp := hrec fn.ntmps body _ h ex fr1 h1 hq B w0 μ _ w hf r
  refine calls_of_wp hfn hb (wp_mono hwp ?_)
  rintro e' a' w' ⟨he, μ', g1, g2, g3⟩
  subst he
  cases ex with
  | normal =>
    obtain ⟨v, hv, e⟩ := ob_some e
    cases e
    obtain ⟨v', k1, k2⟩ := results_sound (P := P) g2 g3 hv
    exact ⟨g2.2.1, v', k1, v', μ', rfl, g1, k2, g3⟩
  | ret =>
    obtain ⟨v, hv, e⟩ := ob_some e
    cases e
    obtain ⟨v', k1, k2⟩ := results_sound (P := P) g2 g3 hv
    exact ⟨g2.2.1, v', k1, v', μ', rfl, g1, k2, g3⟩
  | exit id => simp [leaves] at e

/-- An operation, whatever it does, and what comes behind it. -/
theorem oper_wp {rec : Rec} (hrec : RecOk P rec) (r : HR B w0 μ h w) (o : Oper) {res : Res} {v : AV} {next : Act → World → Prop} {Q : Exit → Act → World → Prop} (he : Ev μ fr a.eval o.op.operands.toList)
    (e : op? o.op P fr h = some res) (ev : valOf P rec h res = some (v, h')) (hnext : ∀ v' w' μ', Ext μ μ' → vrel μ' v v' → HR B w0 μ' h' w' → next (a.put o.dst v') w') : o.wp P a w next Q := by
  have hop := op_sound r o he e
  cases res with
  | val u h1 =>
    simp only [valOf] at ev
    cases ev
    obtain ⟨nx, v', w', μ', h1, h2, h3, h4, h5⟩ := hop
    unfold Oper.wp
    rw [h1]
    rcases h2 with rfl | ⟨rfl, rfl⟩
    · exact hnext v' w' μ' h3 h4 h5
    · exact hnext undef w' μ' h3 h4 h5
  | call f args =>
    simp only [valOf] at ev
    obtain ⟨args', h1, h2⟩ := hop
    unfold Oper.wp
    rw [h1]
    refine (hrec.call _ _ _ _ ev _ _ _ _ _ r h2).mono ?_
    rintro e w' ⟨v', μ', rfl, g1, g2, g3⟩
    exact hnext v' w' μ' g1 g2 g3

theorem putH_eq {d : Option Tmp} {v : AV} : putH nt d fr v h = ob (put? nt d v fr) fun fr => some (fr, h) := by simp only [putH, fV_eq, fH_eq, fT_eq]

theorem finish_some {rec : Rec} {d : Option Tmp} {res : Res} {q : Fr × H} (e : finish P rec nt d fr h res = some q) : ∃ v, valOf P rec h res = some (v, q.2) ∧ put? nt d v fr = some q.1 := by
  cases res with
  | val v h1 =>
    simp only [finish, putH_eq] at e
    obtain ⟨fr1, hf, e⟩ := ob_some e
    cases e
    exact ⟨v, rfl, hf⟩
  | call f args =>
    simp only [finish] at e
    obtain ⟨p, hp, e⟩ := ob2_some e
    rw [putH_eq] at e
    obtain ⟨fr1, hf, e⟩ := ob_some e
    cases e
    exact ⟨p.1, by simp only [valOf]; exact hp, hf⟩

theorem opers_sound {rec : Rec} (hrec : RecOk P rec) {ops : Array Oper} {Q : Exit → Act → World → Prop} : ∀ (l : List Oper) (i : Nat) (fr : Fr) (h : H) (q : Fr × H) (μ : M) (a : Act) (w : World), ops.toList.drop i = l → opers? P rec nt ops.toList l fr h = some q → FR μ nt fr a → HR B w0 μ h w →
    (∀ μ' a' w', Ext μ μ' → FR μ' nt q.1 a' → HR B w0 μ' q.2 w' → Q .normal a' w') → wpOps P ops Q (List.range' i l.length) a w
  | [], i, fr, h, q, μ, a, w, hd, e, f, r, hQ => by
    have e' : some (fr, h) = some q := e
    cases e'
    simpa [wpOps] using hQ μ a w (Ext.refl _) f r
  | o :: l, i, fr, h, q, μ, a, w, hd, e, f, r, hQ => by
    have e' : ob (oper? P rec nt ops.toList o fr h) (fun p => opers? P rec nt ops.toList l p.1 p.2) = some q := e
    obtain ⟨p, hp, e'⟩ := ob_some e'
    have hi : ops[i]? = some o := by
      rw [← Array.getElem?_toList]
      have := List.getElem?_drop (xs := ops.toList) (i := i) (j := 0)
      rw [hd] at this
      simpa using this.symm
    have hd' : ops.toList.drop (i + 1) = l := by
      rw [← List.drop_drop, hd]; rfl
    simp only [List.length_cons, List.range'_succ, wpOps, hi]
    obtain ⟨b, hb, hp⟩ := ob_some hp
    rw [f.wanted hb]
    cases b with
    | false =>
      have hp : putH nt o.dst fr .undef h = some p := hp
      rw [putH_eq] at hp
      obtain ⟨fr1, hf, hp⟩ := ob_some hp
      cases hp
      rw [if_neg (by simp)]
      exact opers_sound hrec l (i + 1) fr1 h q μ _ w hd' e' (f.put hf undef_rel) r hQ
    | true =>
      obtain ⟨res, hres, hp⟩ := ob_some hp
      obtain ⟨v, hv, hput⟩ := finish_some hp
      rw [if_pos rfl]
      refine .inl (oper_wp hrec r o (f.ev _) hres hv ?_)
      intro v' w' μ' g1 g2 g3
      exact opers_sound hrec l (i + 1) p.1 p.2 q μ' _ w' hd' e' ((f.ext g1).put hput g2) g3 (fun μ2 a2 w2 k1 k2 k3 => hQ μ2 a2 w2 (g1.trans k1) k2 k3)
end Go.X
