/-
  Each operation of the abstract machine stands for the model's.
-/
import Derived.Test.YtgdonkfaicdeiaaGreatDoorXMem
import Derived.Laws.Append
import GoSem.Dispatch
set_option linter.unusedVariables false
set_option linter.unusedSimpArgs false
set_option linter.unusedSectionVars false
namespace Go.X
open Go.RowKit

variable [Tab]
variable {P : Program} {B : Kp} {w0 : World} {μ : M} {h h' : H} {w w' : World}

/-- A value comes, and memory goes on. -/
def OkV (P : Program) (B : Kp) (w0 : World) (μ : M) (w : World) (s : Sem Value) (v : AV) (h' : H) : Prop :=
  ∃ v' w' μ', s.run P w = .ok v' w' ∧ Ext μ μ' ∧ vrel μ' v v' ∧ HR B w0 μ' h' w'

theorem OkV.same {s : Sem Value} {v : AV} {v' : Value} (r : HR B w0 μ h w) (e : s.run P w = .ok v' w) (hv : vrel μ v v') : OkV P B w0 μ w s v h :=
  ⟨v', w, μ, e, Ext.refl _, hv, r⟩

/-- A value comes, and nothing else happens. -/
def OkQ (P : Program) (μ : M) (w : World) (s : Sem Value) (v : AV) : Prop := ∃ v', s.run P w = .ok v' w ∧ vrel μ v v'
theorem OkQ.same {s : Sem Value} {v : AV} {v' : Value} (_ : HR B w0 μ h w) (e : s.run P w = .ok v' w) (hv : vrel μ v v') : OkQ P μ w s v := ⟨v', e, hv⟩
theorem OkQ.toV {s : Sem Value} {v : AV} (q : OkQ P μ w s v) (r : HR B w0 μ h w) : OkV P B w0 μ w s v h := let ⟨_, e, hv⟩ := q; .same r e hv

/- constants -/
theorem ofAtom_sound {v : Value} {a : AV} (e : ofAtom v = some a) : vrel μ a v := by
  unfold ofAtom at e
  split at e <;> first | (cases e; done) | skip
  all_goals (cases e)
  case h_3 s => exact vrel_string s
  all_goals (simp [vrel, vrels])

theorem ofAtoms_sound : ∀ {l : List Value} {as : List AV}, ofAtoms l = some as → vrels μ as l
  | [], as, e => by cases e; simp [vrels]
  | v :: l, as, e => by
    obtain ⟨a, ha, e⟩ := ob_some e
    obtain ⟨r, hr, e⟩ := ob_some e
    cases e
    exact vrels_cons (ofAtom_sound ha) (ofAtoms_sound hr)

theorem ofValue_sound {v : Value} {a : AV} (e : ofValue v = some a) : vrel μ a v := by
  unfold ofValue at e
  split at e
  · rename_i cs
    obtain ⟨l, hl, e⟩ := ob_some e
    cases e
    simp only [vrel]
    exact ⟨cs.toList, rfl, ofAtoms_sound hl⟩
  · exact ofAtom_sound e

/- types -/
theorem zeroOf_some {t : TypeId} {z : AV} (e : zeroOf P t = some z) : ∃ i v, P.info? t = some i ∧ i.zero = some v ∧ vrel μ z v := by
  obtain ⟨i, hi, e⟩ := ob_some e
  obtain ⟨v, hv, e⟩ := ob_some e
  exact ⟨i, v, hi, hv, ofValue_sound e⟩
theorem sizeOf_some {t : TypeId} {n : Nat} (e : sizeOf? P t = some n) : ∃ i, P.info? t = some i ∧ i.size = n := by
  obtain ⟨i, hi, e⟩ := ob_some e
  cases e
  exact ⟨i, hi, rfl⟩
theorem bytesOf_some {t : TypeId} {n : Nat} (e : bytesOf? P t = some n) : ∃ i, P.info? t = some i ∧ i.bytes = n := by
  obtain ⟨i, hi, e⟩ := ob_some e
  cases e
  exact ⟨i, hi, rfl⟩
theorem run_typeInfo {t : TypeId} {i : TypeInfo} (e : P.info? t = some i) (w : World) : (typeInfo t).run P w = .ok i w := by
  simp [typeInfo, e]
theorem run_sizeOf {t : TypeId} {n : Nat} (e : sizeOf? P t = some n) (w : World) : (sizeOf t).run P w = .ok n w := by
  obtain ⟨i, hi, rfl⟩ := sizeOf_some e
  simp [sizeOf, run_typeInfo hi]
theorem run_zeroValue {t : TypeId} {i : TypeInfo} {v : Value} (e : P.info? t = some i) (hz : i.zero = some v) (w : World) : (zeroValue t).run P w = .ok v w := by
  simp [zeroValue, run_typeInfo e, hz]
theorem run_isAgg {t : TypeId} {b : Bool} (e : isAgg? P t = some b) (w : World) : (isAgg t).run P w = .ok b w := by
  obtain ⟨d, hd, e⟩ := ob_some e
  cases e
  simp only [isAgg, Sem.run_bind, run_underlying hd, Result.andThen_ok]
  cases d <;> rfl

/- cells -/
theorem cell_loads {l : Loc} {o n : Nat} {vs : List Value} (hlen : vs.length = n) (hc : ∀ i, i < n → w.cell? ⟨l.block, l.base + o + i, none⟩ = vs[i]?) :
    (loadCells ⟨l.block, l.base + o, none⟩ n).run P w = .ok ⟨vs⟩ w := by
  rw [run_loadCells w ⟨l.block, l.base + o, none⟩ n (fun j => vs.getD j undef) (fun j hj => by
    rw [Addr.add_lit]
    rw [hc j hj]
    rw [List.getElem?_eq_getElem (by omega)]
    simp [List.getD, List.getElem?_eq_getElem (show j < vs.length by omega)])]
  congr 1
  apply Array.ext'
  simp only [Array.toList]
  apply List.ext_getElem?
  intro i
  by_cases hi : i < n
  · simp [List.getElem?_map, List.getElem?_range, hi, List.getD]
    rw [List.getElem?_eq_getElem (by omega)]
    simp
  · rw [List.getElem?_eq_none (by simp; omega), List.getElem?_eq_none (by omega)]

theorem loadVar_sound (r : HR B w0 μ h w) {t : TypeId} {x o : Nat} {a : AV} {l : Loc} (hl : μ x = some l) (e : loadVar? P h t x o = some a) :
    ∃ v, (loadVar t ⟨l.block, l.base + o, none⟩).run P w = .ok v w ∧ vrel μ a v := by
  obtain ⟨b, hb, e⟩ := ob_some e
  cases b with
  | false =>
    obtain ⟨v, hv, hrel⟩ := r.load e hl
    exact ⟨v, by simp [loadVar, run_isAgg hb, hv], hrel⟩
  | true =>
    obtain ⟨n, hn, e⟩ := ob_some e
    obtain ⟨as, has, e⟩ := ob_some e
    cases e
    obtain ⟨vs, h1, h2, h3⟩ := r.loads hl n o as has
    refine ⟨.agg ⟨vs⟩, ?_, by simp only [vrel]; exact ⟨vs, rfl, h1⟩⟩
    simp [loadVar, run_isAgg hb, run_sizeOf hn, cell_loads h2 h3]

theorem loadAt_sound (r : HR B w0 μ h w) {t : TypeId} {x o : Nat} {a : AV} {pv : Value} (hp : vrel μ (.ptr x o) pv) (e : loadVar? P h t x o = some a) :
    OkQ P μ w (Instr.loadAt t pv) a := by
  simp only [vrel] at hp
  obtain ⟨l, hl, rfl⟩ := hp
  obtain ⟨v, hv, hrel⟩ := loadVar_sound r hl e
  exact .same r (by simp [Instr.loadAt, Instr.sureAddr, hv]) hrel

/- package variables -/
theorem gloads_zero (g o : Nat) : gloads g o 0 = some [] := rfl
theorem gloads_succ (g o n : Nat) : gloads g o (n + 1) = ob (Tab.gv g o) fun v => ob (gloads g (o + 1) n) fun r => some (v :: r) := rfl
theorem vrel_any {a : AV} {v : Value} (h : vrel (fun _ => none) a v) : vrel μ a v := vrel.ext (fun _ _ e => by simp at e) _ _ h
theorem gloads_sound (r : HR B w0 μ h w) {g : Nat} : ∀ (n o : Nat) (as : List AV), gloads g o n = some as → ∃ vs, vrels μ as vs ∧ vs.length = n ∧ ∀ i, i < n → w.cell? ⟨g, o + i, none⟩ = vs[i]?
  | 0, o, as, e => by rw [gloads_zero] at e; cases e; exact ⟨[], by simp [vrels], rfl, fun i hi => by omega⟩
  | n + 1, o, as, e => by
    rw [gloads_succ] at e
    obtain ⟨a, ha, e⟩ := ob_some e
    obtain ⟨as', has, e⟩ := ob_some e
    cases e
    obtain ⟨_, v, hv, hrel⟩ := r.below.glbs ha
    obtain ⟨vs, h1, h2, h3⟩ := gloads_sound r n (o + 1) as' has
    refine ⟨v :: vs, vrels_cons (vrel_any hrel) h1, by simp [h2], fun i hi => ?_⟩
    cases i with
    | zero => simpa using hv
    | succ i =>
      rw [List.getElem?_cons_succ, ← h3 i (by omega)]
      congr 2
      omega
theorem gload_sound (r : HR B w0 μ h w) {t : TypeId} {g o : Nat} {a : AV} {pv : Value} (hp : vrel μ (.gp g o) pv) (e : gload? P t g o = some a) :
    OkQ P μ w (Instr.loadAt t pv) a := by
  simp only [vrel] at hp
  subst hp
  obtain ⟨b, hb, e⟩ := ob_some e
  cases b with
  | false =>
    obtain ⟨_, v, hv, hrel⟩ := r.below.glbs e
    exact .same r (by simp [Instr.loadAt, Instr.sureAddr, loadVar, run_isAgg hb, hv]) (vrel_any hrel)
  | true =>
    obtain ⟨n, hn, e⟩ := ob_some e
    obtain ⟨as, has, e⟩ := ob_some e
    cases e
    obtain ⟨vs, h1, h2, h3⟩ := gloads_sound r n o as has
    have h4 := cell_loads (P := P) (w := w) (l := ⟨g, 0, 0⟩) (o := o) (n := n) (vs := vs) h2 (fun i hi => by simpa using h3 i hi)
    simp only [Nat.zero_add] at h4
    exact .same r (v' := .agg ⟨vs⟩) (by simp [Instr.loadAt, Instr.sureAddr, loadVar, run_isAgg hb, run_sizeOf hn, h4]) (by simp only [vrel]; exact ⟨vs, rfl, h1⟩)

/- stores -/
theorem oneV_iff (v : Value) : oneV v = v.oneCell' := by cases v <;> rfl

theorem run_storeCells {c : Nat} {e : TypeId} {fz : Nat × Nat} : ∀ (vs : List Value) (off i : Nat) (arr : Array Value) (w : World), w.heap[c]? = some (.cells arr e fz) →
    off + i + vs.length ≤ arr.size → (∀ j, j < arr.size → ¬ (fz.1 ≤ j ∧ j < fz.2)) → (∀ v ∈ vs, oneV v = true) →
    ∃ w' arr', (storeCells ⟨c, off, none⟩ vs i).run P w = .ok () w' ∧ Upd c w w' ∧ w'.heap[c]? = some (.cells arr' e fz) ∧ arr'.size = arr.size ∧
      ∀ j, arr'[j]? = if off + i ≤ j ∧ j < off + i + vs.length then vs[j - (off + i)]? else arr[j]?
  | [], off, i, arr, w, hw, hlen, hf, ho => ⟨w, arr, by simp [storeCells], Upd.refl _ _, hw, rfl, fun j => by rw [if_neg (by simp)]⟩
  | v :: vs, off, i, arr, w, hw, hlen, hf, ho => by
    simp only [List.length_cons] at hlen ⊢
    have hv : v.oneCell' = true := by rw [← oneV_iff]; exact ho v (by simp)
    have hcell : w.cell? ⟨c, off + i, none⟩ = some arr[off + i] := by simp [World.cell?, hw]
    have hfz : w.frozen? ⟨c, off + i, none⟩ = false := by
      have := hf (off + i) (by omega)
      simp only [World.frozen?, hw]
      simpa using this
    have hset : (w.setCell ⟨c, off + i, none⟩ v).heap[c]? = some (.cells (arr.setIfInBounds (off + i) v) e fz) := by
      simp only [World.setCell, Array.getElem?_modify, hw]
      simp
    obtain ⟨w', arr', h1, h2, h3, h4, h5⟩ := run_storeCells vs off (i + 1) (arr.setIfInBounds (off + i) v) (w.setCell ⟨c, off + i, none⟩ v) hset (by simp; omega)
      (fun j hj => hf j (by simpa using hj)) (fun u hu => ho u (by simp [hu]))
    refine ⟨w', arr', ?_, (Upd.setCell w ⟨c, off + i, none⟩ v).trans h2, h3, by simpa using h4, fun j => ?_⟩
    · simp only [storeCells, Sem.run_bind, Addr.add_lit, run_store P w _ v _ hv, hcell, hfz]
      simpa using h1
    · rw [h5 j]
      by_cases c1 : off + (i + 1) ≤ j ∧ j < off + (i + 1) + vs.length
      · rw [if_pos c1, if_pos (by omega)]
        rw [show j - (off + i) = (j - (off + (i + 1))) + 1 by omega, List.getElem?_cons_succ]
      · rw [if_neg c1, Array.getElem?_setIfInBounds]
        by_cases c2 : off + i = j
        · subst c2
          rw [if_pos rfl, if_pos (by omega), if_pos (by omega)]
          simp
        · rw [if_neg c2, if_neg (by omega)]

theorem H.store_some {h h' : H} {x o : Nat} {v : AV} (e : h.store x o v = some h') :
    ∃ n p z t, h.get x = some (.cells n p z t) ∧ o < n ∧ o < limit ∧ v.one = true ∧ x < limit ∧ h' = h.put x (.cells n p z (t.put o v)) := by
  obtain ⟨b, hb, e⟩ := ob_some e
  obtain ⟨b', hb', e⟩ := ob_some e
  obtain ⟨hx, e⟩ := ifb_some e
  cases e
  cases b with
  | cells n p z t =>
    obtain ⟨h1, e⟩ := ifb_some hb'
    obtain ⟨h2, e⟩ := ifb_some e
    obtain ⟨h3, e⟩ := ifb_some e
    cases e
    exact ⟨n, p, z, t, hb, blt_iff.1 h1, blt_iff.1 h2, h3, blt_iff.1 hx, rfl⟩
  | glob n z t => simp [storeIn] at hb'
  | map es c => simp [storeIn] at hb'
  | siter n c p => simp [storeIn] at hb'
  | miter m s1 s2 s3 => simp [storeIn] at hb'
  | vec i => simp [storeIn] at hb'

theorem cellOf_put {z : List AV} {t : T AV} {o i : Nat} {v : AV} (ho : o < limit) : cellOf z (t.put o v) i = if i = o then some v else cellOf z t i := by
  unfold cellOf
  rw [T.get_put _ _ _ _ (by unfold limit at ho; omega)]
  by_cases e : i = o
  · rw [if_pos e, if_pos e]
  · rw [if_neg e, if_neg e]

theorem H.stores_nil (h : H) (x o : Nat) : h.stores x o [] = some h := rfl
theorem H.stores_cons (h : H) (x o : Nat) (v : AV) (l : List AV) : h.stores x o (v :: l) = ob (h.store x o v) fun h' => h'.stores x (o + 1) l := rfl

theorem HR.store (r : HR B w0 μ h w) {x o : Nat} {a : AV} {v : Value} {l : Loc} (hl : μ x = some l) (e : h.store x o a = some h') (hv : vrel μ a v) :
    (store ⟨l.block, l.base + o, none⟩ v).run P w = .ok () (w.setCell ⟨l.block, l.base + o, none⟩ v) ∧ HR B w0 μ h' (w.setCell ⟨l.block, l.base + o, none⟩ v) := by
  obtain ⟨n, p, z, t, hx, h1, h2, h3, h4, rfl⟩ := H.store_some e
  obtain ⟨l', hl', _, _, arr, el, fz, g1, g2, g3, g4, g5, g6⟩ := r.blk x _ hx
  rw [hl] at hl'; cases hl'
  have hov : v.oneCell' = true := by rw [← oneV_iff]; exact vrel_one hv h3
  have hcell : w.cell? ⟨l.block, l.base + o, none⟩ = some arr[l.base + o] := by simp [World.cell?, g1]
  have hfz : w.frozen? ⟨l.block, l.base + o, none⟩ = false := by
    have := g3 (l.base + o) (by omega)
    simp only [World.frozen?, g1]
    simpa using this
  refine ⟨by rw [run_store P w _ v _ hov, hcell, hfz]; rfl, ?_⟩
  refine r.upd (b := .cells n p z t) hx hl rfl rfl (by unfold limit at h4; omega) (Upd.setCell w ⟨l.block, l.base + o, none⟩ v) ?_
  refine ⟨arr.setIfInBounds (l.base + o) v, el, fz, ?_, by simpa using g2, g3, g4, g5, ?_⟩
  · simp only [World.setCell, Array.getElem?_modify, g1]
    simp
  · intro i a' hi ha'
    rw [cellOf_put h2] at ha'
    rw [Array.getElem?_setIfInBounds]
    by_cases e : i = o
    · subst e
      rw [if_pos rfl] at ha'; cases ha'
      exact ⟨v, by rw [if_pos rfl, if_pos (by omega)], hv⟩
    · rw [if_neg e] at ha'
      obtain ⟨u, hu, hrel⟩ := g6 i a' hi ha'
      exact ⟨u, by rw [if_neg (by omega)]; exact hu, hrel⟩

theorem HR.stores {x : Nat} {l : Loc} (hl : μ x = some l) : ∀ (as : List AV) (vs : List Value) (o i : Nat) (h h' : H) (w : World), HR B w0 μ h w → h.stores x (o + i) as = some h' → vrels μ as vs →
    ∃ w', (storeCells ⟨l.block, l.base + o, none⟩ vs i).run P w = .ok () w' ∧ HR B w0 μ h' w'
  | [], vs, o, i, h, h', w, r, e, hv => by
    simp only [vrels] at hv; subst hv
    rw [H.stores_nil] at e; cases e
    exact ⟨w, by simp [storeCells], r⟩
  | a :: as, vs, o, i, h, h', w, r, e, hv => by
    simp only [vrels] at hv
    obtain ⟨v, vs, rfl, h1, h2⟩ := hv
    rw [H.stores_cons] at e
    obtain ⟨h1', e1, e⟩ := ob_some e
    obtain ⟨g1, g2⟩ := r.store (P := P) hl e1 h1
    obtain ⟨w', k1, k2⟩ := HR.stores hl as vs o (i + 1) h1' h' _ g2 (by rw [← Nat.add_assoc]; exact e) h2
    refine ⟨w', ?_, k2⟩
    simp only [storeCells, Sem.run_bind, Addr.add_lit]
    rw [show l.base + o + i = l.base + (o + i) by omega, g1]
    exact k1

theorem storeVar_sound (r : HR B w0 μ h w) {t : TypeId} {x o : Nat} {a : AV} {v pv : Value} (hp : vrel μ (.ptr x o) pv) (hv : vrel μ a v) (e : storeVar? P h t x o a = some h') :
    ∃ w', (Instr.storeAt t pv v).run P w = .ok () w' ∧ HR B w0 μ h' w' := by
  simp only [vrel] at hp
  obtain ⟨l, hl, rfl⟩ := hp
  obtain ⟨n, hn, e⟩ := ob_some e
  obtain ⟨hlen, e⟩ := ifb_some e
  have hcells := vrel_cells hv
  obtain ⟨w', h1, h2⟩ := HR.stores (P := P) hl a.cells v.cells.toList o 0 h h' w r e hcells
  refine ⟨w', ?_, h2⟩
  have hsz : v.cells.size = n := by
    have := vrels_length hcells
    rw [Array.length_toList] at this
    rw [this]; exact nbeq_iff.1 hlen
  simp [Instr.storeAt, Instr.sureAddr, storeVar, run_sizeOf hn, hsz, h1]
end Go.X
