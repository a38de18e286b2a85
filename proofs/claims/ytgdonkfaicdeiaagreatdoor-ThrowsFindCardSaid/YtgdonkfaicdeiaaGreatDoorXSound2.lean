/-
  An operation of the abstract machine stands for the model's, whichever it is.
-/
import Derived.Test.YtgdonkfaicdeiaaGreatDoorXSound
set_option linter.unusedVariables false
set_option linter.unusedSimpArgs false
set_option linter.unusedSectionVars false
namespace Go.X
open Go.RowKit

variable [Tab]
variable {P : Program} {B : Kp} {w0 : World} {μ : M} {h h' : H} {w w' : World} {ρ : Operand → Value} {fr : Fr}

theorem OkR.unit {s : Sem Unit} {w' : World} (e : s.run P w = .ok () w') (r : HR B w0 μ h' w') : OkR P B w0 μ h w (do s; pure .skip) (.val .undef h') :=
  ⟨.skip, undef, w', μ, by simp [e], .inr ⟨rfl, rfl⟩, Ext.refl _, by simp only [AV.undef, undef, vrel]; exact ⟨[], rfl, by simp [vrels]⟩, r⟩

theorem OkR.value {v : AV} {v' : Value} (r : HR B w0 μ h w) (hv : vrel μ v v') : OkR P B w0 μ h w (pure (.value v')) (.val v h) :=
  ⟨_, v', w, μ, rfl, .inl rfl, Ext.refl _, hv, r⟩

theorem OkL.toR {s : Sem Value} {l : List (AV × H)} (hl : OkL P B w0 μ w s l) : OkR P B w0 μ h w (do pure (.value (← s))) (resOf l) := by
  obtain ⟨p, hp, v', w', μ', h1, h2, h3, h4⟩ := hl
  unfold resOf
  split
  · rename_i q
    simp only [List.mem_singleton] at hp
    subst hp
    exact ⟨_, v', w', μ', by simp [h1], .inl rfl, h2, h3, h4⟩
  · exact ⟨p, hp, v', w', μ', by simp [h1], h2, h3, h4⟩

theorem op_sound (r : HR B w0 μ h w) (o : Oper) {res : Res} (he : Ev μ fr ρ o.op.operands.toList) (e : op? o.op P fr h = some res) :
    OkR P B w0 μ h w (execOp ρ o) res := by
  cases hop : o.op with
  | move x =>
    rw [hop] at e he
    obtain ⟨v, hv, e⟩ := ob_some e
    cases e
    simp only [execOp, hop]
    exact .value r (he.one (by simp [Op.operands]) hv)
  | assign x =>
    rw [hop] at e he
    obtain ⟨v, hv, e⟩ := ob_some e
    cases e
    simp only [execOp, hop]
    exact .value r (he.one (by simp [Op.operands]) hv)
  | pick c a b =>
    rw [hop] at e he
    obtain ⟨v, hv, e⟩ := ob_some e
    have hc := he.one (x := c) (by simp [Op.operands]) hv
    cases v with
    | bool t =>
      simp only [vrel] at hc
      simp only [execOp, hop, hc, asBool]
      cases t with
      | true =>
        obtain ⟨u, hu, rfl⟩ := rv_some e
        have := OkR.value (P := P) r (he.one (x := a) (by simp [Op.operands]) hu)
        simpa using this
      | false =>
        obtain ⟨u, hu, rfl⟩ := rv_some e
        have := OkR.value (P := P) r (he.one (x := b) (by simp [Op.operands]) hu)
        simpa using this
    | _ => simp [pickD] at e
  | alloc el =>
    rw [hop] at e he
    obtain ⟨z, hz, e⟩ := ob_some e
    obtain ⟨p, hp, e⟩ := ob_some e
    cases e
    simp only [execOp, hop]
    obtain ⟨hll, hp⟩ := H.row_some hp
    exact (alloc_sound r hz (At.ofAlloc r hp) hll).toR
  | box el x =>
    rw [hop] at e he
    obtain ⟨v, hv, e⟩ := ob_some e
    obtain ⟨p, hp, e⟩ := ob_some e
    cases e
    simp only [execOp, hop]
    obtain ⟨hll, hp⟩ := H.row_some hp
    exact (box_sound r (he.one (x := x) (by simp [Op.operands]) hv) (At.ofAlloc r hp) hll).toR
  | build t ps =>
    rw [hop] at e he
    obtain ⟨l, hl, e⟩ := ob_some e
    obtain ⟨v, hv, rfl⟩ := rv_some e
    simp only [execOp, hop]
    exact OkQ.toR r (build_sound r (by rw [Array.toList_map]; exact evParts_sound (he.sub (by simp [Op.operands])) hl) hv)
  | buildSlice t n ps =>
    rw [hop] at e he
    obtain ⟨l, hl, e⟩ := ob_some e
    obtain ⟨p, hp, rfl⟩ := rvh_some e
    obtain ⟨cl, hcl, hp⟩ := ob_some hp
    obtain ⟨q, hq, hp⟩ := ob_some hp
    cases hp
    obtain ⟨hll, hq⟩ := H.row_some hq
    simp only [execOp, hop]
    exact (buildSlice_sound r (by rw [Array.toList_map]; exact evParts_sound (he.sub (by simp [Op.operands])) hl) hcl (At.ofAlloc r hq) hll).toR
  | load t a =>
    rw [hop] at e he
    obtain ⟨v, hv, e⟩ := ob_some e
    have ha := he.one (x := a) (by simp [Op.operands]) hv
    cases v with
    | ptr x off =>
      obtain ⟨u, hu, rfl⟩ := rv_some e
      simp only [execOp, hop]
      exact OkQ.toR r (loadAt_sound r ha hu)
    | gp x off =>
      obtain ⟨u, hu, rfl⟩ := rv_some e
      simp only [execOp, hop]
      exact OkQ.toR r (gload_sound r ha hu)
    | op x k z f =>
      obtain ⟨u, hu, rfl⟩ := rv_some e
      simp only [execOp, hop]
      exact OkQ.toR r (vload_sound r ha hu)
    | fp x k z f =>
      obtain ⟨u, hu, rfl⟩ := rv_some e
      simp only [execOp, hop]
      exact OkQ.toR r (fload_sound r ha hu)
    | _ => simp [loadD] at e
  | store t a x =>
    rw [hop] at e he
    obtain ⟨v, hv, e⟩ := ob_some e
    have ha := he.one (x := a) (by simp [Op.operands]) hv
    cases v with
    | ptr y off =>
      obtain ⟨u, hu, e⟩ := ob_some e
      obtain ⟨h2, hh, e⟩ := ob_some e
      cases e
      obtain ⟨w', h1, h2⟩ := storeVar_sound r ha (he.one (x := x) (by simp [Op.operands]) hu) hh
      simp only [execOp, hop]
      exact .unit h1 h2
    | op y k z f =>
      obtain ⟨u, hu, e⟩ := ob_some e
      obtain ⟨h2, hh, e⟩ := ob_some e
      cases e
      obtain ⟨w', h1, h2⟩ := vstore_sound r ha (he.one (x := x) (by simp [Op.operands]) hu) hh
      simp only [execOp, hop]
      exact .unit h1 h2
    | _ => simp [storeD] at e
  | nilCheck x =>
    rw [hop] at e he
    obtain ⟨v, hv, e⟩ := ob_some e
    have ha := he.one (x := x) (by simp [Op.operands]) hv
    cases v with
    | ptr y off =>
      cases e
      have ha2 := ha
      simp only [vrel] at ha
      obtain ⟨l, hl, hρ⟩ := ha
      simp only [execOp, hop, hρ]
      rw [hρ] at ha2
      exact .value r ha2
    | gp y off =>
      cases e
      have ha2 := ha
      simp only [vrel] at ha
      simp only [execOp, hop, ha]
      rw [ha] at ha2
      exact .value r ha2
    | op y k z f =>
      cases e
      have ha2 := ha
      simp only [vrel] at ha
      obtain ⟨_, l, hl, hρ⟩ := ha
      simp only [execOp, hop, hρ]
      rw [hρ] at ha2
      exact .value r ha2
    | fp y k z f =>
      cases e
      have ha2 := ha
      simp only [vrel] at ha
      obtain ⟨_, hρ⟩ := ha
      simp only [execOp, hop, hρ]
      rw [hρ] at ha2
      exact .value r ha2
    | iface t y =>
      cases e
      have ha2 := ha
      simp only [vrel] at ha
      obtain ⟨yv, hρ, _⟩ := ha
      simp only [execOp, hop, hρ]
      rw [hρ] at ha2
      exact .value r ha2
    | fn g a b =>
      cases g with
      | func g =>
        cases e
        have ha2 := ha
        simp only [vrel] at ha
        obtain ⟨as, bs, hρ, _⟩ := ha
        simp only [execOp, hop, hρ]
        rw [hρ] at ha2
        exact .value r ha2
      | _ => simp [nilD] at e
    | _ => simp [nilD] at e
  | binOp op t x y u =>
    rw [hop] at e he
    obtain ⟨a, ha, e⟩ := ob_some e
    obtain ⟨b, hb, e⟩ := ob_some e
    obtain ⟨v, hv, rfl⟩ := rv_some e
    simp only [execOp, hop]
    exact OkQ.toR r (bin_sound r (he.one (x := x) (by simp [Op.operands]) ha) (he.one (x := y) (by simp [Op.operands]) hb) hv)
  | unOp op t x =>
    rw [hop] at e he
    obtain ⟨a, ha, e⟩ := ob_some e
    obtain ⟨v, hv, rfl⟩ := rv_some e
    simp only [execOp, hop]
    exact OkQ.toR r (un_sound r (he.one (x := x) (by simp [Op.operands]) ha) hv)
  | convert s d x =>
    rw [hop] at e he
    obtain ⟨a, ha, e⟩ := ob_some e
    obtain ⟨p, hp, rfl⟩ := rvh_some e
    simp only [execOp, hop]
    exact (conv_sound r (he.one (x := x) (by simp [Op.operands]) ha) hp).toR
  | makeInterface t x =>
    rw [hop] at e he
    obtain ⟨a, ha, e⟩ := ob_some e
    obtain ⟨d, hd, e⟩ := ob_some e
    obtain ⟨hc, e⟩ := ifb_some e
    cases e
    simp only [execOp, hop]
    refine OkV.toR (s := Instr.makeInterface t (ρ x)) (.same r (v' := .iface t (ρ x)) ?_ ?_)
    · cases d <;> first | (simp [isIface] at hc; done) | simp [Instr.makeInterface, run_underlying hd]
    · simp only [vrel]; exact ⟨_, rfl, he.one (x := x) (by simp [Op.operands]) ha⟩
  | makeFunc f a b =>
    rw [hop] at e he
    obtain ⟨as, ha, e⟩ := ob_some e
    obtain ⟨bs, hb, e⟩ := ob_some e
    cases e
    simp only [execOp, hop]
    refine OkV.toR (s := Instr.makeFunc f (a.map ρ) (b.map ρ)) (.same r (v' := .func f (a.map ρ) (b.map ρ)) (by simp [Instr.makeFunc]) ?_)
    simp only [vrel]
    exact ⟨(a.map ρ).toList, (b.map ρ).toList, rfl, by rw [Array.toList_map]; exact evs_sound (he.sub (by simp +contextual [Op.operands])) ha, by rw [Array.toList_map]; exact evs_sound (he.sub (by simp +contextual [Op.operands])) hb⟩
  | makeMap t rs =>
    rw [hop] at e he
    obtain ⟨_, hh, e⟩ := ob_some e
    obtain ⟨p, hp, e⟩ := ob_some e
    cases e
    simp only [execOp, hop]
    have hx := (H.alloc_some hp).1
    have hext : Ext μ (upm μ p.1 ⟨w.heap.size, 0, 0⟩) := Ext.upm _ (by rw [hx]; exact (r.fresh h.next (Nat.le_refl _)).2)
    have hr := r.alloc (l := ⟨w.heap.size, 0, 0⟩) (At.ofAlloc r hp) rfl (below_push w (.map #[] 0)) (Nat.le_refl _) ⟨[], by simp, by simp [esrel]⟩
    refine OkV.toR (s := Instr.makeMap t (rs.map ρ)) ⟨.map (some w.heap.size), _, _, ?_, hext, ?_, hr⟩
    · cases rs with
      | none => simp [Instr.makeMap]
      | some q =>
        simp only [hintOk] at hh
        obtain ⟨d, hd, hh⟩ := ob_some hh
        obtain ⟨ke, hke, hh⟩ := ob_some hh
        obtain ⟨v, hv, hh⟩ := ob_some hh
        obtain ⟨n, hn, hh⟩ := ob_some hh
        obtain rfl := asMap_some hke
        obtain ⟨k, rfl⟩ := nat_some hn
        have hq := he.one (x := q) (by simp [Op.operands]) hv
        simp only [vrel] at hq
        simp [Instr.makeMap, run_underlying hd, hq, asInt, asIntOf]
    · simp only [vrel]; exact ⟨⟨w.heap.size, 0, 0⟩, by simp [upm], rfl⟩
  | makeSlice t l c =>
    rw [hop] at e he
    obtain ⟨a, ha, e⟩ := ob_some e
    obtain ⟨b, hb, e⟩ := ob_some e
    obtain ⟨p, hp, rfl⟩ := rvh_some e
    simp only [execOp, hop]
    refine (OkV.toR ?_)
    have g1 := he.one (x := l) (by simp [Op.operands]) ha
    have g2 := he.one (x := c) (by simp [Op.operands]) hb
    unfold makeSlice? at hp
    split at hp
    · exact makeVec_sound r g1 g2 hp
    · obtain ⟨q, hq, hp⟩ := ob_some hp
      obtain ⟨p2, hp2, hp⟩ := ob_some hp
      cases hp
      exact make_sound r g1 g2 hq (At.ofAlloc r hp2)
  | slice t x lo hi mx =>
    rw [hop] at e he
    obtain ⟨a, ha, e⟩ := ob_some e
    obtain ⟨lo', hlo, e⟩ := ob_some e
    obtain ⟨hi', hhi, e⟩ := ob_some e
    obtain ⟨mx', hmx, e⟩ := ob_some e
    obtain ⟨v, hv, rfl⟩ := rv_some e
    simp only [execOp, hop]
    exact OkQ.toR r (slice_sound r (he.one (x := x) (by simp [Op.operands]) ha) (opt_sound (he.sub (by simp +contextual [Op.operands])) hlo) (opt_sound (he.sub (by simp +contextual [Op.operands])) hhi) (opt_sound (he.sub (by simp +contextual [Op.operands])) hmx) hv)
  | fieldAddr t x f =>
    rw [hop] at e he
    obtain ⟨a, ha, e⟩ := ob_some e
    obtain ⟨v, hv, rfl⟩ := rv_some e
    simp only [execOp, hop]
    exact OkQ.toR r (fieldAddr_sound r (he.one (x := x) (by simp [Op.operands]) ha) hv)
  | field t x f =>
    rw [hop] at e he
    obtain ⟨a, ha, e⟩ := ob_some e
    obtain ⟨v, hv, rfl⟩ := rv_some e
    simp only [execOp, hop]
    exact OkQ.toR r (field_sound r (he.one (x := x) (by simp [Op.operands]) ha) hv)
  | indexAddr t x i =>
    rw [hop] at e he
    obtain ⟨a, ha, e⟩ := ob_some e
    obtain ⟨b, hb, e⟩ := ob_some e
    obtain ⟨v, hv, rfl⟩ := rv_some e
    simp only [execOp, hop]
    exact OkQ.toR r (indexAddr_sound r (he.one (x := x) (by simp [Op.operands]) ha) (he.one (x := i) (by simp [Op.operands]) hb) hv)
  | index t x i =>
    rw [hop] at e he
    obtain ⟨a, ha, e⟩ := ob_some e
    obtain ⟨b, hb, e⟩ := ob_some e
    obtain ⟨v, hv, rfl⟩ := rv_some e
    simp only [execOp, hop]
    exact OkQ.toR r (index_sound r (he.one (x := x) (by simp [Op.operands]) ha) (he.one (x := i) (by simp [Op.operands]) hb) hv)
  | lookup t x i ok =>
    rw [hop] at e he
    obtain ⟨a, ha, e⟩ := ob_some e
    obtain ⟨b, hb, e⟩ := ob_some e
    obtain ⟨v, hv, rfl⟩ := rv_some e
    simp only [execOp, hop]
    exact OkQ.toR r (lookup_sound r (he.one (x := x) (by simp [Op.operands]) ha) (he.one (x := i) (by simp [Op.operands]) hb) hv)
  | mapUpdate t m k x =>
    rw [hop] at e he
    obtain ⟨a, ha, e⟩ := ob_some e
    obtain ⟨b, hb, e⟩ := ob_some e
    obtain ⟨c, hc, e⟩ := ob_some e
    obtain ⟨p, hp, rfl⟩ := rvh_some e
    simp only [execOp, hop]
    obtain ⟨g0, w', g1, g2⟩ := mapUpdate_sound r (he.one (x := m) (by simp [Op.operands]) ha) (he.one (x := k) (by simp [Op.operands]) hb) (he.one (x := x) (by simp [Op.operands]) hc) hp
    rw [g0]
    exact .unit g1 g2
  | insert t m k x =>
    rw [hop] at e he
    obtain ⟨a, ha, e⟩ := ob_some e
    obtain ⟨b, hb, e⟩ := ob_some e
    obtain ⟨c, hc, e⟩ := ob_some e
    obtain ⟨p, hp, rfl⟩ := rvh_some e
    simp only [execOp, hop]
    obtain ⟨g0, w', g1, g2⟩ := mapUpdate_sound r (he.one (x := m) (by simp [Op.operands]) ha) (he.one (x := k) (by simp [Op.operands]) hb) (he.one (x := x) (by simp [Op.operands]) hc) hp
    rw [g0]
    exact .unit g1 g2
  | mapEntry t m k =>
    rw [hop] at e he
    obtain ⟨a, ha, e⟩ := ob_some e
    obtain ⟨b, hb, e⟩ := ob_some e
    obtain ⟨p, hp, rfl⟩ := rvh_some e
    simp only [execOp, hop]
    exact (mapEntry_sound r (he.one (x := m) (by simp [Op.operands]) ha) (he.one (x := k) (by simp [Op.operands]) hb) hp).toR
  | entryStore t m s x =>
    rw [hop] at e he
    obtain ⟨a, ha, e⟩ := ob_some e
    obtain ⟨b, hb, e⟩ := ob_some e
    obtain ⟨c, hc, e⟩ := ob_some e
    obtain ⟨p, hp, rfl⟩ := rvh_some e
    simp only [execOp, hop]
    obtain ⟨g0, w', g1, g2⟩ := entryStore_sound (P := P) (t := t) r (he.one (x := m) (by simp [Op.operands]) ha) (he.one (x := s) (by simp [Op.operands]) hb) (he.one (x := x) (by simp [Op.operands]) hc) hp
    rw [g0]
    exact .unit g1 g2
  | range t x =>
    rw [hop] at e he
    obtain ⟨a, ha, e⟩ := ob_some e
    obtain ⟨p, hp, rfl⟩ := rvh_some e
    simp only [execOp, hop]
    exact (range_sound r (he.one (x := x) (by simp [Op.operands]) ha) hp).toR
  | next it s =>
    rw [hop] at e he
    obtain ⟨a, ha, e1⟩ := ob_some e
    obtain ⟨l, hl, e2⟩ := ob_some e1
    cases e2
    simp only [execOp, hop]
    exact OkL.toR (next_sound r (he.one (x := it) (by simp [Op.operands]) ha) hl)
  | entry it =>
    rw [hop] at e he
    obtain ⟨a, ha, e1⟩ := ob_some e
    obtain ⟨v, hv, rfl⟩ := rv_some e1
    simp only [execOp, hop]
    exact OkQ.toR r (entry_sound r (he.one (x := it) (by simp [Op.operands]) ha) hv)
  | typeAssert x t a ok =>
    rw [hop] at e he
    obtain ⟨u, hu, e⟩ := ob_some e
    obtain ⟨v, hv, rfl⟩ := rv_some e
    simp only [execOp, hop]
    exact OkQ.toR r (typeAssert_sound r (he.one (x := x) (by simp [Op.operands]) hu) hv)
  | extract x i =>
    rw [hop] at e he
    obtain ⟨u, hu, e⟩ := ob_some e
    obtain ⟨v, hv, rfl⟩ := rv_some e
    have hx := he.one (x := x) (by simp [Op.operands]) hu
    simp only [execOp, hop]
    cases u with
    | tup l =>
      simp only [vrel] at hx
      obtain ⟨cs, hρ, hl⟩ := hx
      obtain ⟨y, h1, h2⟩ := vrels_get hl hv
      exact OkV.toR (s := Instr.extract (ρ x) i) (.same r (v' := y) (by simp [Instr.extract, hρ, h1]) h2)
    | _ => simp [extractD] at hv
  | call c =>
    rw [hop] at e he
    simp only [execOp, hop]
    exact oCall_sound r (he.sub (by simp [Op.operands])) e
  | ready g => rw [hop] at e; simp [op?, oNone] at e
  | waits g => rw [hop] at e; simp [op?, oNone] at e
  | sliceToArrayPointer d x => rw [hop] at e; simp [op?, oNone] at e
  | makeChan t s => rw [hop] at e; simp [op?, oNone] at e
  | go c => rw [hop] at e; simp [op?, oNone] at e
  | defer c => rw [hop] at e; simp [op?, oNone] at e
  | panic x => rw [hop] at e; simp [op?, oNone] at e
  | send c x => rw [hop] at e; simp [op?, oNone] at e
  | recv t c ok => rw [hop] at e; simp [op?, oNone] at e
  | select c b => rw [hop] at e; simp [op?, oNone] at e
end Go.X
