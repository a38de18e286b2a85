/-
  Operations that only look, and operations that only make memory.
-/
import Derived.Test.YtgdonkfaicdeiaaGreatDoorXSound2
set_option linter.unusedVariables false
set_option linter.unusedSimpArgs false
set_option linter.unusedSectionVars false
namespace Go.X
open Go.RowKit

variable [Tab]
variable {P : Program} {B : Kp} {w0 : World} {μ : M} {h h' : H} {w w' : World} {ρ : Operand → Value} {fr : Fr}

def OkN (P : Program) (μ : M) (h : H) (w : World) (s : Sem Next) (res : Res) : Prop := ∃ v v', res = .val v h ∧ s.run P w = .ok (.value v') w ∧ vrel μ v v'
theorem OkQ.toN {s : Sem Value} {v : AV} (q : OkQ P μ w s v) : OkN P μ h w (do pure (.value (← s))) (.val v h) := let ⟨v', e, hv⟩ := q; ⟨v, v', rfl, by simp [e], hv⟩
theorem OkN.value {v : AV} {v' : Value} (hv : vrel μ v v') : OkN P μ h w (pure (.value v')) (.val v h) := ⟨v, v', rfl, rfl, hv⟩

theorem conv_quiet (r : HR B w0 μ h w) {src dst : TypeId} {a : AV} {x : Value} {p : AV × H} (hn : (sliceElem P dst).isNone = true) (hx : vrel μ a x) (e : conv? P src dst h a = some p) :
    p.2 = h ∧ OkQ P μ w (convert src dst x) p.1 := by
  obtain ⟨s, hs, e1⟩ := ob_some e
  clear e
  obtain ⟨d, hd, e⟩ := ob_some e1
  clear e1
  cases d <;> simp only at e <;> first | (simp at e; done) | skip
  case int k =>
    unfold convInt at e
    split at e
    · cases e
      simp only [vrel] at hx; subst hx
      exact ⟨rfl, .same r (by simp [convert, run_underlying hs, run_underlying hd, Conv.intToInt]; rfl) (by simp [vrel, wrapF_eq])⟩
    · obtain ⟨v, hv, e⟩ := ob_some e
      cases e
      obtain ⟨k', n, h1, h2⟩ := Tab.icok _ (findC_mem hv)
      rw [den_rel h1 hx]
      exact ⟨rfl, .same r (by simp [convert, run_underlying hs, run_underlying hd, Conv.intToInt]) (den_mk h2)⟩
    · simp at e
  case string =>
    unfold convStr at e
    split at e
    · cases e
      simp only [vrel] at hx
      obtain ⟨hc, rfl⟩ := hx
      exact ⟨rfl, .same r (by simp [convert, run_underlying hs, run_underlying hd]; rfl) (by simp only [vrel]; exact ⟨hc, trivial⟩)⟩
    · cases e
      simp only [vrel] at hx; subst hx
      exact ⟨rfl, .same r (v' := .string (Utf8.encode _)) (by simp [convert, run_underlying hs, run_underlying hd, Conv.intToString]) (vrel_string _)⟩
    · obtain ⟨hu, e⟩ := ifb_some e
      obtain ⟨q, hq, e⟩ := ob_some e
      cases e
      have hu := u8_some hu
      obtain ⟨h1, h2⟩ := bytesString_sound (P := P) r hx hq
      have hsl : ∃ b n c, x = .slice b n c := by
        cases a <;> simp [bytesOfSlice] at hq <;> simp only [vrel] at hx
        · exact ⟨_, _, _, hx⟩
        · obtain ⟨_, _, rfl⟩ := hx; exact ⟨_, _, _, rfl⟩
        · obtain ⟨_, _, _, _, _, rfl⟩ := hx; exact ⟨_, _, _, rfl⟩
      obtain ⟨b, n, c, rfl⟩ := hsl
      exact ⟨rfl, .same r (v' := .string (strOf q.1 q.2)) (by simp [convert, run_underlying hs, run_underlying hd, run_underlying hu, h1]) (by simp only [vrel]; exact ⟨h2, trivial⟩)⟩
    · simp at e
  case slice el => simp [sliceElem, hd, asSlice] at hn

theorem builtin_quiet (r : HR B w0 μ h w) {b : Builtin} {ats : Array TypeId} {ty : TypeId} {consts : Array Bool} {args : List AV} {args' : Array Value} {res : Res} (hb : b = .len ∨ b = .cap ∨ b = .min ∨ b = .max) (ha : vrels μ args args'.toList) (e : builtin? P h b ats.toList args = some res) :
    OkN P μ h w (builtin b ats ty consts args') res := by
  unfold builtin? at e
  split at e
  · simp at hb
  · simp at hb
  · rename_i x t rest hats
    obtain ⟨v, hv, rfl⟩ := rv_some e
    simp only [vrels] at ha
    obtain ⟨xv, _, hargs, hx, rfl⟩ := ha
    refine OkQ.toN (len_sound r (t := t) ?_ ?_ hx hv)
    · rw [← Array.getElem?_toList, hats]; rfl
    · rw [← Array.getElem?_toList, hargs]; rfl
  · rename_i x t rest hats
    obtain ⟨v, hv, rfl⟩ := rv_some e
    simp only [vrels] at ha
    obtain ⟨xv, _, hargs, hx, rfl⟩ := ha
    refine OkQ.toN (cap_sound r (t := t) ?_ ?_ hx hv)
    · rw [← Array.getElem?_toList, hats]; rfl
    · rw [← Array.getElem?_toList, hargs]; rfl
  · obtain ⟨v, hv, rfl⟩ := rv_some e
    simp only [vrels] at ha
    obtain ⟨av, rest, hargs, hx, hrest⟩ := ha
    obtain ⟨v', h1, h2⟩ := min_sound (P := P) r hx hrest hv
    exact OkQ.toN (s := Builtin.min_ ats ty args') (.same r (by simp only [Builtin.min_, hargs]; exact h1) h2)
  · obtain ⟨v, hv, rfl⟩ := rv_some e
    simp only [vrels] at ha
    obtain ⟨av, rest, hargs, hx, hrest⟩ := ha
    obtain ⟨v', h1, h2⟩ := max_sound (P := P) r hx hrest hv
    exact OkQ.toN (s := Builtin.max_ ats ty args') (.same r (by simp only [Builtin.max_, hargs]; exact h1) h2)
  · simp at hb
  · simp at hb
  · simp at e

theorem quiet_sound (r : HR B w0 μ h w) (o : Oper) {res : Res} (hq : quietOp o.op P = true) (he : Ev μ fr ρ o.op.operands.toList) (e : op? o.op P fr h = some res) :
    OkN P μ h w (execOp ρ o) res := by
  cases hop : o.op with
  | move x =>
    rw [hop] at e he
    obtain ⟨v, hv, e⟩ := ob_some e
    cases e
    simp only [execOp, hop]
    exact .value (he.one (by simp [Op.operands]) hv)
  | assign x =>
    rw [hop] at e he
    obtain ⟨v, hv, e⟩ := ob_some e
    cases e
    simp only [execOp, hop]
    exact .value (he.one (by simp [Op.operands]) hv)
  | pick c a b =>
    rw [hop] at e he
    obtain ⟨v, hv, e⟩ := ob_some e
    have hc := he.one (x := c) (by simp [Op.operands]) hv
    cases v with
    | bool t =>
      simp only [vrel] at hc
      simp only [execOp, hop, hc, asBool]
      cases t with
      | true =>
        obtain ⟨u, hu, rfl⟩ := rv_some e
        have := OkN.value (P := P) (h := h) (w := w) (he.one (x := a) (by simp [Op.operands]) hu)
        simpa using this
      | false =>
        obtain ⟨u, hu, rfl⟩ := rv_some e
        have := OkN.value (P := P) (h := h) (w := w) (he.one (x := b) (by simp [Op.operands]) hu)
        simpa using this
    | _ => simp [pickD] at e
  | build t ps =>
    rw [hop] at e he
    obtain ⟨l, hl, e⟩ := ob_some e
    obtain ⟨v, hv, rfl⟩ := rv_some e
    simp only [execOp, hop]
    exact OkQ.toN (build_sound r (by rw [Array.toList_map]; exact evParts_sound (he.sub (by simp [Op.operands])) hl) hv)
  | load t a =>
    rw [hop] at e he
    obtain ⟨v, hv, e⟩ := ob_some e
    have ha := he.one (x := a) (by simp [Op.operands]) hv
    cases v with
    | ptr x off =>
      obtain ⟨u, hu, rfl⟩ := rv_some e
      simp only [execOp, hop]
      exact OkQ.toN (loadAt_sound r ha hu)
    | gp x off =>
      obtain ⟨u, hu, rfl⟩ := rv_some e
      simp only [execOp, hop]
      exact OkQ.toN (gload_sound r ha hu)
    | op x k z f =>
      obtain ⟨u, hu, rfl⟩ := rv_some e
      simp only [execOp, hop]
      exact OkQ.toN (vload_sound r ha hu)
    | fp x k z f =>
      obtain ⟨u, hu, rfl⟩ := rv_some e
      simp only [execOp, hop]
      exact OkQ.toN (fload_sound r ha hu)
    | _ => simp [loadD] at e
  | nilCheck x =>
    rw [hop] at e he
    obtain ⟨v, hv, e⟩ := ob_some e
    have ha := he.one (x := x) (by simp [Op.operands]) hv
    cases v with
    | ptr y off =>
      cases e
      have ha2 := ha
      simp only [vrel] at ha
      obtain ⟨l, hl, hρ⟩ := ha
      simp only [execOp, hop, hρ]
      rw [hρ] at ha2
      exact .value ha2
    | gp y off =>
      cases e
      have ha2 := ha
      simp only [vrel] at ha
      simp only [execOp, hop, ha]
      rw [ha] at ha2
      exact .value ha2
    | op y k z f =>
      cases e
      have ha2 := ha
      simp only [vrel] at ha
      obtain ⟨_, l, hl, hρ⟩ := ha
      simp only [execOp, hop, hρ]
      rw [hρ] at ha2
      exact .value ha2
    | fp y k z f =>
      cases e
      have ha2 := ha
      simp only [vrel] at ha
      obtain ⟨_, hρ⟩ := ha
      simp only [execOp, hop, hρ]
      rw [hρ] at ha2
      exact .value ha2
    | iface t y =>
      cases e
      have ha2 := ha
      simp only [vrel] at ha
      obtain ⟨yv, hρ, _⟩ := ha
      simp only [execOp, hop, hρ]
      rw [hρ] at ha2
      exact .value ha2
    | fn g a b =>
      cases g with
      | func g =>
        cases e
        have ha2 := ha
        simp only [vrel] at ha
        obtain ⟨as, bs, hρ, _⟩ := ha
        simp only [execOp, hop, hρ]
        rw [hρ] at ha2
        exact .value ha2
      | _ => simp [nilD] at e
    | _ => simp [nilD] at e
  | binOp op t x y u =>
    rw [hop] at e he
    obtain ⟨a, ha, e⟩ := ob_some e
    obtain ⟨b, hb, e⟩ := ob_some e
    obtain ⟨v, hv, rfl⟩ := rv_some e
    simp only [execOp, hop]
    exact OkQ.toN (bin_sound r (he.one (x := x) (by simp [Op.operands]) ha) (he.one (x := y) (by simp [Op.operands]) hb) hv)
  | unOp op t x =>
    rw [hop] at e he
    obtain ⟨a, ha, e⟩ := ob_some e
    obtain ⟨v, hv, rfl⟩ := rv_some e
    simp only [execOp, hop]
    exact OkQ.toN (un_sound r (he.one (x := x) (by simp [Op.operands]) ha) hv)
  | convert s d x =>
    rw [hop] at e he hq
    obtain ⟨a, ha, e⟩ := ob_some e
    obtain ⟨p, hp, rfl⟩ := rvh_some e
    simp only [execOp, hop]
    obtain ⟨g1, g2⟩ := conv_quiet r hq (he.one (x := x) (by simp [Op.operands]) ha) hp
    rw [g1]
    exact OkQ.toN g2
  | makeInterface t x =>
    rw [hop] at e he
    obtain ⟨a, ha, e⟩ := ob_some e
    obtain ⟨d, hd, e⟩ := ob_some e
    obtain ⟨hc, e⟩ := ifb_some e
    cases e
    simp only [execOp, hop]
    refine OkQ.toN (s := Instr.makeInterface t (ρ x)) (.same r (v' := .iface t (ρ x)) ?_ ?_)
    · cases d <;> first | (simp [isIface] at hc; done) | simp [Instr.makeInterface, run_underlying hd]
    · simp only [vrel]; exact ⟨_, rfl, he.one (x := x) (by simp [Op.operands]) ha⟩
  | makeFunc f a b =>
    rw [hop] at e he
    obtain ⟨as, ha, e⟩ := ob_some e
    obtain ⟨bs, hb, e⟩ := ob_some e
    cases e
    simp only [execOp, hop]
    refine OkQ.toN (s := Instr.makeFunc f (a.map ρ) (b.map ρ)) (.same r (v' := .func f (a.map ρ) (b.map ρ)) (by simp [Instr.makeFunc]) ?_)
    simp only [vrel]
    exact ⟨(a.map ρ).toList, (b.map ρ).toList, rfl, by rw [Array.toList_map]; exact evs_sound (he.sub (by simp +contextual [Op.operands])) ha, by rw [Array.toList_map]; exact evs_sound (he.sub (by simp +contextual [Op.operands])) hb⟩
  | slice t x lo hi mx =>
    rw [hop] at e he
    obtain ⟨a, ha, e⟩ := ob_some e
    obtain ⟨lo', hlo, e⟩ := ob_some e
    obtain ⟨hi', hhi, e⟩ := ob_some e
    obtain ⟨mx', hmx, e⟩ := ob_some e
    obtain ⟨v, hv, rfl⟩ := rv_some e
    simp only [execOp, hop]
    exact OkQ.toN (slice_sound r (he.one (x := x) (by simp [Op.operands]) ha) (opt_sound (he.sub (by simp +contextual [Op.operands])) hlo) (opt_sound (he.sub (by simp +contextual [Op.operands])) hhi) (opt_sound (he.sub (by simp +contextual [Op.operands])) hmx) hv)
  | fieldAddr t x f =>
    rw [hop] at e he
    obtain ⟨a, ha, e⟩ := ob_some e
    obtain ⟨v, hv, rfl⟩ := rv_some e
    simp only [execOp, hop]
    exact OkQ.toN (fieldAddr_sound r (he.one (x := x) (by simp [Op.operands]) ha) hv)
  | field t x f =>
    rw [hop] at e he
    obtain ⟨a, ha, e⟩ := ob_some e
    obtain ⟨v, hv, rfl⟩ := rv_some e
    simp only [execOp, hop]
    exact OkQ.toN (field_sound r (he.one (x := x) (by simp [Op.operands]) ha) hv)
  | indexAddr t x i =>
    rw [hop] at e he
    obtain ⟨a, ha, e⟩ := ob_some e
    obtain ⟨b, hb, e⟩ := ob_some e
    obtain ⟨v, hv, rfl⟩ := rv_some e
    simp only [execOp, hop]
    exact OkQ.toN (indexAddr_sound r (he.one (x := x) (by simp [Op.operands]) ha) (he.one (x := i) (by simp [Op.operands]) hb) hv)
  | index t x i =>
    rw [hop] at e he
    obtain ⟨a, ha, e⟩ := ob_some e
    obtain ⟨b, hb, e⟩ := ob_some e
    obtain ⟨v, hv, rfl⟩ := rv_some e
    simp only [execOp, hop]
    exact OkQ.toN (index_sound r (he.one (x := x) (by simp [Op.operands]) ha) (he.one (x := i) (by simp [Op.operands]) hb) hv)
  | lookup t x i ok =>
    rw [hop] at e he
    obtain ⟨a, ha, e⟩ := ob_some e
    obtain ⟨b, hb, e⟩ := ob_some e
    obtain ⟨v, hv, rfl⟩ := rv_some e
    simp only [execOp, hop]
    exact OkQ.toN (lookup_sound r (he.one (x := x) (by simp [Op.operands]) ha) (he.one (x := i) (by simp [Op.operands]) hb) hv)
  | typeAssert x t a ok =>
    rw [hop] at e he
    obtain ⟨u, hu, e⟩ := ob_some e
    obtain ⟨v, hv, rfl⟩ := rv_some e
    simp only [execOp, hop]
    exact OkQ.toN (typeAssert_sound r (he.one (x := x) (by simp [Op.operands]) hu) hv)
  | extract x i =>
    rw [hop] at e he
    obtain ⟨u, hu, e⟩ := ob_some e
    obtain ⟨v, hv, rfl⟩ := rv_some e
    have hx := he.one (x := x) (by simp [Op.operands]) hu
    simp only [execOp, hop]
    cases u with
    | tup l =>
      simp only [vrel] at hx
      obtain ⟨cs, hρ, hl⟩ := hx
      obtain ⟨y, h1, h2⟩ := vrels_get hl hv
      exact OkQ.toN (s := Instr.extract (ρ x) i) (.same r (v' := y) (by simp [Instr.extract, hρ, h1]) h2)
    | _ => simp [extractD] at hv
  | call c =>
    rw [hop] at e he hq
    obtain ⟨args, hargs, e1⟩ := ob_some e
    clear e
    have hav : vrels μ args (c.args.map ρ).toList := by
      rw [Array.toList_map]
      exact evs_sound (he.sub (fun y hy => by simp only [Op.operands]; unfold Call.operands; simp at hy ⊢; exact .inr hy)) hargs
    simp only [execOp, hop]
    simp only [quietOp] at hq
    cases hcal : c.callee with
    | builtin b =>
      rw [hcal] at e1 hq
      have hb : b = .len ∨ b = .cap ∨ b = .min ∨ b = .max := by cases b <;> simp at hq <;> simp
      have := builtin_quiet (ty := o.type) (consts := c.args.map fun | .const _ => true | _ => false) r hb hav e1
      have heq : (do let d ← resolve ρ c o.type; invoke d.target d.args : Sem Next) = builtin b c.argTypes o.type (c.args.map fun | .const _ => true | _ => false) (c.args.map ρ) := by
        simp only [resolve, hcal]; rfl
      rw [heq]; exact this
    | value f => rw [hcal] at hq; simp at hq
    | invoke rc name => rw [hcal] at hq; simp at hq
  | _ => rw [hop] at hq; simp [quietOp] at hq

/-- What does not look into memory gives the same over any. -/
theorem pure_same (o : Op) {h2 : H} {res : Res} (hq : quietOp o P = true) (hr : readOp o = false) (e : op? o P fr h = some res) : ∃ v, res = .val v h ∧ op? o P fr h2 = some (.val v h2) := by
  cases o with
  | move x => obtain ⟨v, hv, e⟩ := ob_some e; cases e; exact ⟨v, rfl, by simp [op?, oMove, hv]⟩
  | assign x => obtain ⟨v, hv, e⟩ := ob_some e; cases e; exact ⟨v, rfl, by simp [op?, oMove, hv]⟩
  | pick c a b =>
    obtain ⟨v, hv, e⟩ := ob_some e
    cases v with
    | bool t => cases t <;> (obtain ⟨u, hu, rfl⟩ := rv_some e; exact ⟨u, rfl, by simp [op?, oPick, hv, pickD, rv, hu]⟩)
    | _ => simp [pickD] at e
  | build t ps => obtain ⟨l, hl, e⟩ := ob_some e; obtain ⟨v, hv, rfl⟩ := rv_some e; exact ⟨v, rfl, by simp [op?, oBuild, hl, rv, hv]⟩
  | nilCheck x =>
    obtain ⟨v, hv, e⟩ := ob_some e
    cases v with
    | ptr y p => cases e; exact ⟨_, rfl, by simp [op?, oNil, hv, nilD]⟩
    | gp y p => cases e; exact ⟨_, rfl, by simp [op?, oNil, hv, nilD]⟩
    | op y k z f => cases e; exact ⟨_, rfl, by simp [op?, oNil, hv, nilD]⟩
    | fp y k z f => cases e; exact ⟨_, rfl, by simp [op?, oNil, hv, nilD]⟩
    | iface t y => cases e; exact ⟨_, rfl, by simp [op?, oNil, hv, nilD]⟩
    | fn g a b =>
      cases g with
      | func g => cases e; exact ⟨_, rfl, by simp [op?, oNil, hv, nilD]⟩
      | _ => simp [nilD] at e
    | _ => simp [nilD] at e
  | unOp op t x => obtain ⟨l, hl, e⟩ := ob_some e; obtain ⟨v, hv, rfl⟩ := rv_some e; exact ⟨v, rfl, by simp [op?, oUn, hl, rv, hv]⟩
  | makeInterface t x => obtain ⟨a, ha, e⟩ := ob_some e; obtain ⟨d, hd, e⟩ := ob_some e; obtain ⟨hc, e⟩ := ifb_some e; cases e; exact ⟨_, rfl, by simp [op?, oIface, ha, hd, hc, ifb]⟩
  | makeFunc f a b => obtain ⟨as, ha, e⟩ := ob_some e; obtain ⟨bs, hb, e⟩ := ob_some e; cases e; exact ⟨_, rfl, by simp [op?, oFunc, ha, hb]⟩
  | slice t x lo hi mx =>
    obtain ⟨a, ha, e⟩ := ob_some e
    obtain ⟨lo', hlo, e⟩ := ob_some e
    obtain ⟨hi', hhi, e⟩ := ob_some e
    obtain ⟨mx', hmx, e⟩ := ob_some e
    obtain ⟨v, hv, rfl⟩ := rv_some e
    exact ⟨v, rfl, by simp [op?, oSlice, ha, hlo, hhi, hmx, rv, hv]⟩
  | fieldAddr t x f => obtain ⟨l, hl, e⟩ := ob_some e; obtain ⟨v, hv, rfl⟩ := rv_some e; exact ⟨v, rfl, by simp [op?, oFieldAddr, hl, rv, hv]⟩
  | field t x f => obtain ⟨l, hl, e⟩ := ob_some e; obtain ⟨v, hv, rfl⟩ := rv_some e; exact ⟨v, rfl, by simp [op?, oField, hl, rv, hv]⟩
  | indexAddr t x i => obtain ⟨a, ha, e⟩ := ob_some e; obtain ⟨b, hb, e⟩ := ob_some e; obtain ⟨v, hv, rfl⟩ := rv_some e; exact ⟨v, rfl, by simp [op?, oIndexAddr, ha, hb, rv, hv]⟩
  | index t x i => obtain ⟨a, ha, e⟩ := ob_some e; obtain ⟨b, hb, e⟩ := ob_some e; obtain ⟨v, hv, rfl⟩ := rv_some e; exact ⟨v, rfl, by simp [op?, oIndex, ha, hb, rv, hv]⟩
  | typeAssert x t a ok => obtain ⟨l, hl, e⟩ := ob_some e; obtain ⟨v, hv, rfl⟩ := rv_some e; exact ⟨v, rfl, by simp [op?, oAssert, hl, rv, hv]⟩
  | extract x i => obtain ⟨l, hl, e⟩ := ob_some e; obtain ⟨v, hv, rfl⟩ := rv_some e; exact ⟨v, rfl, by simp [op?, oExtract, hl, rv, hv]⟩
  | load t a => simp [readOp] at hr
  | lookup t x i ok => simp [readOp] at hr
  | binOp op t x y u => simp [readOp] at hr
  | convert s d x => simp [readOp] at hr
  | call c => simp [readOp] at hr
  | _ => simp [quietOp] at hq

/-- What makes memory alone. -/
theorem made_sound (r : HR B w0 μ h w) (o : Oper) {x : Nat} {b : Blk} {v : AV} (he : Ev μ fr ρ o.op.operands.toList) (e : alloc? o.op P fr x = some (b, v)) (hfree : h.get x = none) (hnew : μ x = none) (hlt : x < h.next) (hlim : x < limit) (hres : ¬ B.res x) :
    own b = true ∧ ∃ v' w' μ', (execOp ρ o).run P w = .ok (.value v') w' ∧ Ext μ μ' ∧ vrel μ' v v' ∧ HR B w0 μ' (h.put x b) w' := by
  have hat : ∀ b, At B μ h x b (h.put x b) := fun b => ⟨fun y => H.get_put _ _ _ _ (by unfold limit at hlim; omega), Nat.le_refl _, hlt, hfree, hnew, hres⟩
  have key : ∀ (s : Sem Value) (v : AV) (b : Blk), OkV P B w0 μ w s v (h.put x b) → ∃ v' w' μ', (do pure (.value (← s)) : Sem Next).run P w = .ok (.value v') w' ∧ Ext μ μ' ∧ vrel μ' v v' ∧ HR B w0 μ' (h.put x b) w' := by
    intro s v b ⟨v', w', μ', h1, h2, h3, h4⟩
    exact ⟨v', w', μ', by simp [h1], h2, h3, h4⟩
  cases hop : o.op with
  | alloc el =>
    rw [hop] at e he
    obtain ⟨z, hz, e⟩ := ob_some e
    obtain ⟨hll, e⟩ := ifb_some e
    cases e
    simp only [execOp, hop]
    exact ⟨rfl, key _ _ _ (alloc_sound r hz (hat _) (blt_iff.1 hll))⟩
  | box el y =>
    rw [hop] at e he
    obtain ⟨z, hz, e⟩ := ob_some e
    obtain ⟨hll, e⟩ := ifb_some e
    cases e
    simp only [execOp, hop]
    exact ⟨rfl, key _ _ _ (box_sound r (he.one (x := y) (by simp [Op.operands]) hz) (hat _) (blt_iff.1 hll))⟩
  | buildSlice t n ps =>
    rw [hop] at e he
    obtain ⟨l, hl, e⟩ := ob_some e
    obtain ⟨cl, hcl, e⟩ := ob_some e
    obtain ⟨hll, e⟩ := ifb_some e
    cases e
    simp only [execOp, hop]
    exact ⟨rfl, key _ _ _ (buildSlice_sound r (by rw [Array.toList_map]; exact evParts_sound (he.sub (by simp [Op.operands])) hl) hcl (hat _) (blt_iff.1 hll))⟩
  | makeMap t rs =>
    rw [hop] at e he
    obtain ⟨_, hh, e⟩ := ob_some e
    cases e
    simp only [execOp, hop]
    refine ⟨rfl, key _ _ _ ?_⟩
    have hext : Ext μ (upm μ x ⟨w.heap.size, 0, 0⟩) := Ext.upm _ hnew
    have hr := r.alloc (l := ⟨w.heap.size, 0, 0⟩) (hat (.map [] 0)) rfl (below_push w (.map #[] 0)) (Nat.le_refl _) ⟨[], by simp, by simp [esrel]⟩
    refine ⟨.map (some w.heap.size), _, _, ?_, hext, ?_, hr⟩
    · cases rs with
      | none => simp [Instr.makeMap]
      | some q =>
        simp only [hintOk] at hh
        obtain ⟨d, hd, hh⟩ := ob_some hh
        obtain ⟨ke, hke, hh⟩ := ob_some hh
        obtain ⟨v, hv, hh⟩ := ob_some hh
        obtain ⟨n, hn, hh⟩ := ob_some hh
        obtain rfl := asMap_some hke
        obtain ⟨k, rfl⟩ := nat_some hn
        have hq := he.one (x := q) (by simp [Op.operands]) hv
        simp only [vrel] at hq
        simp [Instr.makeMap, run_underlying hd, hq, asInt, asIntOf]
    · simp only [vrel]; exact ⟨⟨w.heap.size, 0, 0⟩, by simp [upm], rfl⟩
  | makeSlice t l c =>
    rw [hop] at e he
    obtain ⟨a, ha, e⟩ := ob_some e
    obtain ⟨b2, hb, e⟩ := ob_some e
    obtain ⟨q, hq, e⟩ := ob_some e
    cases e
    simp only [execOp, hop]
    refine ⟨?_, key _ _ _ (make_sound r (he.one (x := l) (by simp [Op.operands]) ha) (he.one (x := c) (by simp [Op.operands]) hb) hq (hat _))⟩
    unfold makeBlk at hq
    obtain ⟨_, _, hq⟩ := ob_some hq
    obtain ⟨_, _, hq⟩ := ob_some hq
    obtain ⟨_, _, hq⟩ := ob_some hq
    obtain ⟨_, _, hq⟩ := ob_some hq
    obtain ⟨_, _, hq⟩ := ob_some hq
    obtain ⟨_, _, hq⟩ := ob_some hq
    obtain ⟨_, hq⟩ := ifb_some hq
    cases hq
    rfl
  | _ => rw [hop] at e; simp [alloc?] at e
end Go.X
