/-
  An operation of the abstract machine stands for the model's.
-/
import Derived.Test.YtgdonkfaicdeiaaGreatDoorXOps10
import Derived.Laws.Externs
import Derived.Lib.Bytealg
set_option linter.unusedVariables false
set_option linter.unusedSimpArgs false
set_option linter.unusedSectionVars false
namespace Go.X
open Go.RowKit

variable [Tab]
variable {P : Program} {B : Kp} {w0 : World} {μ : M} {h h' : H} {w w' : World} {ρ : Operand → Value} {fr : Fr}

def OkR (P : Program) (B : Kp) (w0 : World) (μ : M) (h : H) (w : World) (s : Sem Next) : Res → Prop
  | .val v h' => ∃ nx v' w' μ', s.run P w = .ok nx w' ∧ (nx = .value v' ∨ (nx = .skip ∧ v' = undef)) ∧ Ext μ μ' ∧ vrel μ' v v' ∧ HR B w0 μ' h' w'
  | .call f args => ∃ args' : Array Value, s.run P w = .ok (.enter f args') w ∧ vrels μ args args'.toList
  | .pick l => ∃ p ∈ l, ∃ v' w' μ', s.run P w = .ok (.value v') w' ∧ Ext μ μ' ∧ vrel μ' p.1 v' ∧ HR B w0 μ' p.2 w'

theorem OkV.toR {s : Sem Value} {v : AV} (hv : OkV P B w0 μ w s v h') : OkR P B w0 μ h w (do pure (.value (← s))) (.val v h') := by
  obtain ⟨v', w', μ', h1, h2, h3, h4⟩ := hv
  exact ⟨_, v', w', μ', by simp [h1], .inl rfl, h2, h3, h4⟩

theorem OkQ.toR {s : Sem Value} {v : AV} (r : HR B w0 μ h w) (hv : OkQ P μ w s v) : OkR P B w0 μ h w (do pure (.value (← s))) (.val v h) := (hv.toV r).toR

theorem rv_some {x : Option AV} {res : Res} (e : rv h x = some res) : ∃ v, x = some v ∧ res = .val v h := by
  obtain ⟨v, hv, e⟩ := ob_some e
  cases e
  exact ⟨v, hv, rfl⟩
theorem rvh_some {x : Option (AV × H)} {res : Res} (e : rvh x = some res) : ∃ p, x = some p ∧ res = .val p.1 p.2 := by
  obtain ⟨v, hv, e⟩ := ob_some e
  cases e
  exact ⟨v, hv, rfl⟩

/-- What the machine knows of operands is so. -/
def Ev (μ : M) (fr : Fr) (ρ : Operand → Value) (xs : List Operand) : Prop := ∀ x ∈ xs, ∀ v, ev x fr = some v → vrel μ v (ρ x)

theorem Ev.one {xs : List Operand} (he : Ev μ fr ρ xs) {x : Operand} {v : AV} (hx : x ∈ xs) (e : ev x fr = some v) : vrel μ v (ρ x) := he x hx v e
theorem Ev.sub {xs ys : List Operand} (he : Ev μ fr ρ xs) (hs : ∀ y ∈ ys, y ∈ xs) : Ev μ fr ρ ys := fun x hx v e => he x (hs x hx) v e

theorem evs_nil (fr : Fr) : evs fr [] = some [] := rfl
theorem evs_cons (fr : Fr) (x : Operand) (l : List Operand) : evs fr (x :: l) = ob (ev x fr) fun a => ob (evs fr l) fun r => some (a :: r) := rfl
theorem evs_sound : ∀ {l : List Operand} {as : List AV}, Ev μ fr ρ l → evs fr l = some as → vrels μ as (l.map ρ)
  | [], as, he, e => by rw [evs_nil] at e; cases e; simp [vrels]
  | x :: l, as, he, e => by
    rw [evs_cons] at e
    obtain ⟨a, ha, e⟩ := ob_some e
    obtain ⟨r, hr, e⟩ := ob_some e
    cases e
    simp only [List.map_cons]
    exact vrels_cons (he.one (by simp) ha) (evs_sound (he.sub (by simp +contextual)) hr)

theorem evParts_sound : ∀ {l : List (Nat × Operand)} {as : List (Nat × AV)}, Ev μ fr ρ (l.map (·.2)) → evParts fr l = some as → prels μ as (l.map fun p => (p.1, ρ p.2))
  | [], as, he, e => by simp only [evParts] at e; cases e; simp [prels]
  | (i, x) :: l, as, he, e => by
    simp only [evParts] at e
    obtain ⟨a, ha, e⟩ := ob_some e
    obtain ⟨r, hr, e⟩ := ob_some e
    cases e
    simp only [List.map_cons, prels]
    exact ⟨_, _, rfl, he.one (by simp) ha, evParts_sound (he.sub (by simp +contextual)) hr⟩

theorem opt_sound {x : Option Operand} {o : Option AV} (he : Ev μ fr ρ x.toList) (e : opt? fr x = some o) : orel μ o (x.map ρ) := by
  cases x with
  | none => simp only [opt?] at e; cases e; trivial
  | some y =>
    simp only [opt?] at e
    obtain ⟨v, hv, e⟩ := ob_some e
    cases e
    exact he.one (by simp) hv

/- calls -/
theorem idxB_eq (k : Nat) (hk : k < 256) : ∀ (l : List Nat) (i : Nat), (∀ b ∈ l, b < 256) → idxB k l i = if Lib.indexByte (l.map UInt8.ofNat) (UInt8.ofNat k) == -1 then -1 else Lib.indexByte (l.map UInt8.ofNat) (UInt8.ofNat k) + i
  | [], i, _ => by simp [idxB, Lib.indexByte]
  | b :: l, i, h => by
    have hb := h b (by simp)
    have ih := idxB_eq k hk l (i + 1) (fun x hx => h x (by simp [hx]))
    have hbk : (UInt8.ofNat b == UInt8.ofNat k) = Nat.beq b k := by
      rw [Bool.eq_iff_iff, beq_iff_eq, nbeq_iff]
      constructor
      · intro e
        have := congrArg UInt8.toNat e
        simp only [UInt8.toNat_ofNat'] at this
        rw [Nat.mod_eq_of_lt (by omega), Nat.mod_eq_of_lt (by omega)] at this
        exact this
      · intro e; rw [e]
    have hge := Lib.indexByte_ge (l.map UInt8.ofNat) (UInt8.ofNat k)
    show (Bool.rec (idxB k l (Nat.succ i)) (Int.ofNat i) (Nat.beq b k) : Int) = _
    simp only [List.map_cons, Lib.indexByte]
    rw [hbk]
    cases hc : Nat.beq b k with
    | true => simp
    | false =>
      show idxB k l (i + 1) = _
      rw [ih]
      by_cases hm : Lib.indexByte (l.map UInt8.ofNat) (UInt8.ofNat k) = -1
      · simp [hm]
      · simp only [beq_iff_eq, hm, if_false, Bool.false_eq_true]
        rw [if_neg (by omega)]
        omega

theorem cntB_eq (k : Nat) (hk : k < 256) : ∀ (l : List Nat), (∀ b ∈ l, b < 256) → cntB k l = Lib.countByte (l.map UInt8.ofNat) (UInt8.ofNat k)
  | [], _ => by simp [cntB, Lib.countByte]
  | b :: l, h => by
    have hb := h b (by simp)
    have ih := cntB_eq k hk l (fun x hx => h x (by simp [hx]))
    have hbk : (UInt8.ofNat b == UInt8.ofNat k) = Nat.beq b k := by
      rw [Bool.eq_iff_iff, beq_iff_eq, nbeq_iff]
      constructor
      · intro e
        have := congrArg UInt8.toNat e
        simp only [UInt8.toNat_ofNat'] at this
        rw [Nat.mod_eq_of_lt (by omega), Nat.mod_eq_of_lt (by omega)] at this
        exact this
      · intro e; rw [e]
    show (Bool.rec (cntB k l) (Nat.succ (cntB k l)) (Nat.beq b k) : Nat) = _
    unfold Lib.countByte at ih ⊢
    rw [List.map_cons, List.count_cons, hbk, ih]
    cases Nat.beq b k <;> simp

theorem ext_indexByte {fn : Func} (hn : fn.name = nmIndex) (ho : fn.origin = "") : Extern.findNext fn = none ∧ Extern.find fn = some Extern.BytealgIndexByte.indexByte := by
  constructor
  · unfold Extern.findNext; rw [hn, ho]; rfl
  · unfold Extern.find; rw [hn, ho]; rfl
theorem ext_count {fn : Func} (hn : fn.name = nmCount) (ho : fn.origin = "") : Extern.findNext fn = none ∧ Extern.find fn = some Extern.BytealgCount.count := by
  constructor
  · unfold Extern.findNext; rw [hn, ho]; rfl
  · unfold Extern.find; rw [hn, ho]; rfl

theorem extOf_sound {f : FuncId} {fn : Func} {args : List AV} {args' : Array Value} {v : AV} (hf : P.funcs[f]? = some fn) (hname : (fn.name == "runtime.NumGoroutine") = false) (hb : fn.body = none) (e : extOf fn args = some v) (ha : vrels μ args args'.toList) :
    ∃ v', (callFunc f args').run P w = .ok (.value v') w ∧ vrel μ v v' := by
  unfold extOf at e
  split at e
  · rename_i n c k
    obtain ⟨hk, e⟩ := ifb_some e
    obtain ⟨ho, e⟩ := ifb_some e
    have hk := blt_iff.1 hk
    have ho : fn.origin = "" := by simpa using ho
    simp only [vrels, vrel] at ha
    obtain ⟨sv, _, hargs, ⟨hc, rfl⟩, kv, _, rfl, rfl, rfl⟩ := ha
    have h1 : args' = #[.string (strOf n c), .int .u8 (Int.ofNat k)] := by apply Array.ext'; simpa using hargs
    subst h1
    have hd : ∀ b ∈ dec n c, b < 256 := dec_lt n c
    have hs : (strOf n c).data.toList = (dec n c).map UInt8.ofNat := by simp [strOf]
    have hkk : (Int.ofNat k).toNat.toUInt8 = UInt8.ofNat k := by simp
    cases h1 : fn.name == nmIndex with
    | true =>
      rw [h1] at e
      have e2 : some (AV.int .i64 (idxB k (dec n c) 0)) = some v := e
      cases e2
      obtain ⟨g1, g2⟩ := ext_indexByte (fn := fn) (by simpa using h1) ho
      refine ⟨_, by rw [run_callFunc_extern hf hname (by simp [hb]) g1 g2, Lib.run_indexByteString]; rfl, ?_⟩
      simp only [vrel]
      rw [idxB_eq k hk _ _ hd, hs, hkk]
      congr 1
      split
      · rename_i h2; simpa using h2
      · simp
    | false =>
      rw [h1] at e
      obtain ⟨h2, e⟩ := ifb_some e
      cases e
      obtain ⟨g1, g2⟩ := ext_count (fn := fn) (by simpa using h2) ho
      refine ⟨_, by rw [run_callFunc_extern hf hname (by simp [hb]) g1 g2, Lib.run_countString]; rfl, ?_⟩
      simp only [vrel]
      rw [cntB_eq k hk _ hd, hs, hkk]
  · simp at e

theorem callFn_sound (r : HR B w0 μ h w) {f : FuncId} {args : List AV} {args' : Array Value} {res : Res} (e : callFn? P h f args = some res) (ha : vrels μ args args'.toList) : OkR P B w0 μ h w (callFunc f args') res := by
  obtain ⟨fn, hfn, e⟩ := ob_some e
  obtain ⟨hc, e⟩ := ifb_some e
  cases hb : fn.body with
  | some c =>
    rw [hb] at e
    have e2 : some (Res.call f args) = some res := e
    cases e2
    simp only [bne_iff_ne, ne_eq] at hc
    refine ⟨args', ?_, ha⟩
    simp only [callFunc, Sem.run_bind, run_program, Result.andThen_ok, hfn]
    rw [if_neg (by simpa using hc), if_neg (by simp [hb])]
    rfl
  | none =>
    rw [hb] at e
    have e2 : rv h (extOf fn args) = some res := e
    obtain ⟨v, hv, rfl⟩ := rv_some e2
    have hname : (fn.name == "runtime.NumGoroutine") = false := by simpa using hc
    obtain ⟨v', g1, g2⟩ := extOf_sound (w := w) hfn hname hb hv ha
    exact ⟨_, v', w, μ, g1, .inl rfl, Ext.refl _, g2, r⟩

theorem builtin_sound (r : HR B w0 μ h w) {b : Builtin} {ats : Array TypeId} {ty : TypeId} {consts : Array Bool} {args : List AV} {args' : Array Value} {res : Res} (ha : vrels μ args args'.toList) (e : builtin? P h b ats.toList args = some res) :
    OkR P B w0 μ h w (builtin b ats ty consts args') res := by
  unfold builtin? at e
  split at e
  · rename_i s x st xt hats
    obtain ⟨p, hp, rfl⟩ := rvh_some e
    simp only [vrels] at ha
    obtain ⟨sv, _, hargs, hs, xv, _, rfl, hx, rfl⟩ := ha
    have h1 : args' = #[sv, xv] := by apply Array.ext'; simpa using hargs
    have h2 : ats = #[st, xt] := by apply Array.ext'; simpa using hats
    subst h1 h2
    exact (append_sound r hs hx hp).toR
  · rename_i d s dt rest hats
    obtain ⟨p, hp, rfl⟩ := rvh_some e
    simp only [vrels] at ha
    obtain ⟨sv, _, hargs, hs, xv, _, rfl, hx, rfl⟩ := ha
    have h1 : args' = #[sv, xv] := by apply Array.ext'; simpa using hargs
    subst h1
    exact OkV.toR (s := Builtin.copy_ ats ty #[sv, xv]) (copy_sound r (dt := dt) (by rw [← Array.getElem?_toList, hats]; rfl) hs hx hp)
  · rename_i x t rest hats
    obtain ⟨v, hv, rfl⟩ := rv_some e
    simp only [vrels] at ha
    obtain ⟨xv, _, hargs, hx, rfl⟩ := ha
    refine OkQ.toR r (len_sound r (t := t) ?_ ?_ hx hv)
    · rw [← Array.getElem?_toList, hats]; rfl
    · rw [← Array.getElem?_toList, hargs]; rfl
  · rename_i x t rest hats
    obtain ⟨v, hv, rfl⟩ := rv_some e
    simp only [vrels] at ha
    obtain ⟨xv, _, hargs, hx, rfl⟩ := ha
    refine OkQ.toR r (cap_sound r (t := t) ?_ ?_ hx hv)
    · rw [← Array.getElem?_toList, hats]; rfl
    · rw [← Array.getElem?_toList, hargs]; rfl
  · obtain ⟨v, hv, rfl⟩ := rv_some e
    simp only [vrels] at ha
    obtain ⟨av, rest, hargs, hx, hrest⟩ := ha
    obtain ⟨v', h1, h2⟩ := min_sound (P := P) r hx hrest hv
    exact OkV.toR (s := Builtin.min_ ats ty args') (.same r (by simp only [Builtin.min_, hargs]; exact h1) h2)
  · obtain ⟨v, hv, rfl⟩ := rv_some e
    simp only [vrels] at ha
    obtain ⟨av, rest, hargs, hx, hrest⟩ := ha
    obtain ⟨v', h1, h2⟩ := max_sound (P := P) r hx hrest hv
    exact OkV.toR (s := Builtin.max_ ats ty args') (.same r (by simp only [Builtin.max_, hargs]; exact h1) h2)
  · rename_i m k t rest hats
    obtain ⟨p, hp, rfl⟩ := rvh_some e
    simp only [vrels] at ha
    obtain ⟨mv, _, hargs, hm, kv, _, rfl, hk, rfl⟩ := ha
    refine OkV.toR (s := Builtin.delete_ ats ty args') (delete_sound r (t := t) ?_ ?_ ?_ hm hk hp)
    · rw [← Array.getElem?_toList, hats]; rfl
    · rw [← Array.getElem?_toList, hargs]; rfl
    · rw [← Array.getElem?_toList, hargs]; rfl
  · rename_i x t rest hats
    obtain ⟨p, hp, rfl⟩ := rvh_some e
    simp only [vrels] at ha
    obtain ⟨xv, _, hargs, hx, rfl⟩ := ha
    refine OkV.toR (s := Builtin.clear_ ats ty args') (clear_sound r (t := t) ?_ ?_ hx hp)
    · rw [← Array.getElem?_toList, hats]; rfl
    · rw [← Array.getElem?_toList, hargs]; rfl
  · simp at e

theorem methodOf_sound {t : TypeId} {name : String} {f : FuncId} {v : Value} {W : World} (e : methodOf P t name = some f) : ∀ n, (method (n + 1) t v name).run P W = .ok (f, v) W := by
  intro n
  obtain ⟨i, hi, e⟩ := ob_some e
  obtain ⟨m, hm, e⟩ := ob_some e
  obtain ⟨q, hq, e⟩ := ob_some e
  obtain ⟨d, hd, e⟩ := ob_some e
  obtain ⟨hp, e⟩ := ifb_some e
  have hpath : m.path = #[] := by simpa using hp
  obtain ⟨g, p⟩ := q
  simp only at e
  cases d <;> cases p <;> simp at e <;> subst e <;> simp [method, run_typeInfo hi, hm, hpath, follow, hq, receiverAt, run_underlying hd, Place.get]

theorem oCall_sound (r : HR B w0 μ h w) {c : Call} {ty : TypeId} {res : Res} (he : Ev μ fr ρ c.operands.toList) (e : oCall c P fr h = some res) :
    OkR P B w0 μ h w (do let d ← resolve ρ c ty; invoke d.target d.args) res := by
  obtain ⟨args, hargs, e1⟩ := ob_some e
  clear e
  have hav : vrels μ args (c.args.map ρ).toList := by
    rw [Array.toList_map]
    exact evs_sound (he.sub (fun y hy => by unfold Call.operands; simp at hy ⊢; exact .inr hy)) hargs
  cases hcal : c.callee with
  | builtin b =>
    rw [hcal] at e1
    have := builtin_sound (ty := ty) (consts := c.args.map fun | .const _ => true | _ => false) r hav e1
    have heq : (do let d ← resolve ρ c ty; invoke d.target d.args : Sem Next) = builtin b c.argTypes ty (c.args.map fun | .const _ => true | _ => false) (c.args.map ρ) := by
      simp only [resolve, hcal]; rfl
    rw [heq]; exact this
  | value f =>
    rw [hcal] at e1
    simp only at e1
    obtain ⟨fv, hf, e2⟩ := ob_some e1
    have hfv := he.one (x := f) (by unfold Call.operands; rw [hcal]; simp) hf
    cases fv with
    | fn g first cap =>
      cases g with
      | func g =>
        simp only [callVal] at e2
        simp only [vrel] at hfv
        obtain ⟨as, bs, hρ, h1, h2⟩ := hfv
        have := callFn_sound r (args' := (⟨as⟩ ++ c.args.map ρ) ++ ⟨bs⟩) e2 (by simp only [Array.toList_append]; exact vrels_append (vrels_append h1 hav) h2)
        have heq : (do let d ← resolve ρ c ty; invoke d.target d.args : Sem Next) = callFunc g ((⟨as⟩ ++ c.args.map ρ) ++ ⟨bs⟩) := by
          simp only [resolve, hcal, hρ, Deferred.ofValue]; rfl
        rw [heq]; exact this
      | _ => simp [callVal] at e2
    | _ => simp [callVal] at e2
  | invoke rc name =>
    rw [hcal] at e1
    simp only at e1
    obtain ⟨rvv, hf, e2⟩ := ob_some e1
    have hfv := he.one (x := rc) (by unfold Call.operands; rw [hcal]; simp) hf
    cases rvv with
    | iface t v =>
      simp only [callMeth] at e2
      obtain ⟨f, hm, e3⟩ := ob_some e2
      simp only [vrel] at hfv
      obtain ⟨vv, hρ, h1⟩ := hfv
      have := callFn_sound r (args' := #[vv] ++ c.args.map ρ) e3 (by simp only [Array.toList_append]; exact vrels_cons h1 hav)
      have hmeth : (method (P.types.size + Made.depth) t vv name).run P w = .ok (f, vv) w := by
        have hd : P.types.size + Made.depth = (P.types.size + Made.depth - 1) + 1 := by unfold Made.depth; omega
        rw [hd]; exact methodOf_sound hm _
      have heq : (do let d ← resolve ρ c ty; invoke d.target d.args : Sem Next).run P w = (callFunc f (#[vv] ++ c.args.map ρ)).run P w := by
        have hex : (#[ρ rc] ++ c.args.map ρ).extract 1 (#[ρ rc] ++ c.args.map ρ).size = c.args.map ρ := by
          apply Array.ext'; simp; exact List.take_of_length_le (by simp)
        simp only [resolve, hcal, Sem.run_bind, Sem.run_pure, Result.andThen_ok, invoke]
        have h0 : (#[ρ rc] ++ c.args.map ρ)[0]? = some (ρ rc) := by rw [← Array.getElem?_toList]; simp
        rw [h0, hex, hρ]
        simp only [callMethod, Sem.run_bind, run_program, Result.andThen_ok, hmeth]
      unfold OkR at this ⊢
      cases res <;> simp only [heq] <;> exact this
    | _ => simp [callMeth] at e2
end Go.X
