/-
  Each operation of the abstract machine stands for the model's: what makes memory.
-/
import Derived.Test.YtgdonkfaicdeiaaGreatDoorXOps
set_option linter.unusedVariables false
set_option linter.unusedSimpArgs false
set_option linter.unusedSectionVars false
namespace Go.X
open Go.RowKit

variable [Tab]
variable {P : Program} {B : Kp} {w0 : World} {μ : M} {h h' : H} {w w' : World}

theorem cellOf_row (l : List AV) (i : Nat) (hl : l.length < limit) : cellOf [] (T.ofList 0 .leaf l) i = l[i]? := by
  unfold cellOf
  rw [T.get_ofList _ _ _ _ (by unfold limit at hl; omega)]
  by_cases hi : i < l.length
  · rw [if_pos (by omega)]
    simp [hi]
  · have hn : l[i]? = none := List.getElem?_eq_none (by omega)
    rw [if_neg (by omega), hn]
    simp

theorem below_push (w : World) (o : Obj) : Below w.heap.size w { w with heap := w.heap.push o } :=
  ⟨rfl, rfl, rfl, by simp, fun k hk => by simp [Array.getElem?_push]; omega⟩

theorem H.row_some {l : List AV} {opn : Bool} {q : Nat × H} (e : h.row l opn = some q) : l.length < limit ∧ h.alloc (rowOf l opn) = some q := by
  obtain ⟨h1, h2⟩ := ifb_some e
  exact ⟨blt_iff.1 h1, h2⟩

/-- A new row of cells; behind those that are known there may be more. -/
theorem HR.row (r : HR B w0 μ h w) {l : List AV} {opn : Bool} {x : Nat} {vs : List Value} {arr : Array Value} {e : TypeId} {fz : Nat × Nat} (he : At B μ h x (rowOf l opn) h') (hlim : l.length < limit) (hv : vrels μ l vs)
    (hw : Below w.heap.size w w') (hb : w'.heap[w.heap.size]? = some (.cells arr e fz)) (hlen : vs.length ≤ arr.size) (harr : ∀ i, i < vs.length → arr[i]? = vs[i]?)
    (hf : ∀ i, i < arr.size → ¬ (fz.1 ≤ i ∧ i < fz.2)) (hf0 : opn = false → fz = (0, 0)) :
    Ext μ (upm μ x ⟨w.heap.size, 0, arr.size⟩) ∧ upm μ x ⟨w.heap.size, 0, arr.size⟩ x = some ⟨w.heap.size, 0, arr.size⟩ ∧ HR B w0 (upm μ x ⟨w.heap.size, 0, arr.size⟩) h' w' := by
  have hext : Ext μ (upm μ x ⟨w.heap.size, 0, arr.size⟩) := Ext.upm _ he.new
  refine ⟨hext, by simp [upm], r.alloc he rfl hw (Nat.le_refl _) ?_⟩
  have hl := vrels_length hv
  refine ⟨arr, e, fz, hb, rfl, hf, by simp; omega, hf0, ?_⟩
  intro i a hi ha
  rw [cellOf_row l i hlim] at ha
  obtain ⟨v, hv1, hv2⟩ := vrels_get hv ha
  exact ⟨v, by simp only [Nat.zero_add]; rw [harr i (by omega)]; exact hv1, vrel.ext hext _ _ hv2⟩

/-- A new row of just these cells. -/
theorem HR.rowNew (r : HR B w0 μ h w) {l : List AV} {x : Nat} {vs : Array Value} {e : TypeId} (he : At B μ h x (rowOf l false) h') (hlim : l.length < limit) (hv : vrels μ l vs.toList) :
    Ext μ (upm μ x ⟨w.heap.size, 0, vs.size⟩) ∧ upm μ x ⟨w.heap.size, 0, vs.size⟩ x = some ⟨w.heap.size, 0, vs.size⟩ ∧ HR B w0 (upm μ x ⟨w.heap.size, 0, vs.size⟩) h' { w with heap := w.heap.push (.cells vs e (0, 0)) } :=
  r.row (vs := vs.toList) (arr := vs) (e := e) (fz := (0, 0)) he hlim hv (below_push w _) (by simp) (by simp) (fun i hi => by simp) (fun i _ => by simp) (fun _ => rfl)

theorem alloc_sound (r : HR B w0 μ h w) {e : TypeId} {z : AV} {x : Nat} (hz : zeroOf P e = some z) (he : At B μ h x (rowOf z.cells false) h') (hlim : z.cells.length < limit) :
    OkV P B w0 μ w (Instr.alloc e true (.tuple #[])) (.ptr x 0) h' := by
  obtain ⟨i, v, hi, hz, hrel⟩ := zeroOf_some (μ := μ) hz
  obtain ⟨h1, h2, h3⟩ := r.rowNew (e := e) he hlim (vrel_cells hrel)
  refine ⟨.pointer (some ⟨w.heap.size, 0, none⟩), _, _, ?_, h1, ?_, h3⟩
  · simp only [Instr.alloc, Sem.run_bind, run_zeroValue hi hz, Result.andThen_ok, newVar, newRow, run_newObj, Sem.run_pure]
  · simp only [vrel]; exact ⟨_, h2, rfl⟩

theorem box_sound (r : HR B w0 μ h w) {e : TypeId} {a : AV} {v : Value} {x : Nat} (hv : vrel μ a v) (he : At B μ h x (rowOf a.cells false) h') (hlim : a.cells.length < limit) :
    OkV P B w0 μ w (Instr.box e v) (.ptr x 0) h' := by
  obtain ⟨h1, h2, h3⟩ := r.rowNew (e := e) he hlim (vrel_cells hv)
  refine ⟨.pointer (some ⟨w.heap.size, 0, none⟩), _, _, ?_, h1, ?_, h3⟩
  · simp only [Instr.box, Sem.run_bind, Result.andThen_ok, newVar, newRow, run_newObj, Sem.run_pure]
  · simp only [vrel]; exact ⟨_, h2, rfl⟩

/- parts laid into cells -/
theorem foldl_get : ∀ (l : List Value) (k off : Nat) (cs : Array Value), off + k + l.length ≤ cs.size →
    ((l.zipIdx k).foldl (fun (cs : Array Value) (p : Value × Nat) => cs.setIfInBounds (off + p.2) p.1) cs).size = cs.size ∧
    ∀ i, ((l.zipIdx k).foldl (fun (cs : Array Value) (p : Value × Nat) => cs.setIfInBounds (off + p.2) p.1) cs)[i]? = if off + k ≤ i ∧ i < off + k + l.length then l[i - (off + k)]? else cs[i]?
  | [], k, off, cs, _ => ⟨rfl, fun i => by rw [if_neg (by simp)]; rfl⟩
  | v :: l, k, off, cs, hlen => by
    simp only [List.length_cons] at hlen
    simp only [List.zipIdx_cons, List.foldl_cons, List.length_cons]
    obtain ⟨h1, h2⟩ := foldl_get l (k + 1) off (cs.setIfInBounds (off + k) v) (by simp; omega)
    refine ⟨by rw [h1]; simp, fun i => ?_⟩
    rw [h2 i]
    by_cases c1 : off + (k + 1) ≤ i ∧ i < off + (k + 1) + l.length
    · rw [if_pos c1, if_pos (by omega)]
      rw [show i - (off + k) = (i - (off + (k + 1))) + 1 by omega, List.getElem?_cons_succ]
    · rw [if_neg c1, Array.getElem?_setIfInBounds]
      by_cases c2 : off + k = i
      · subst c2
        rw [if_pos rfl, if_pos (by omega), if_pos (by omega)]
        simp
      · rw [if_neg c2, if_neg (by omega)]

theorem foldl_set (l : List Value) (off : Nat) (cs : Array Value) (hlen : off + l.length ≤ cs.size) :
    ((l.zipIdx 0).foldl (fun (cs : Array Value) (p : Value × Nat) => cs.setIfInBounds (off + p.2) p.1) cs).toList = cs.toList.take off ++ l ++ cs.toList.drop (off + l.length) := by
  obtain ⟨h1, h2⟩ := foldl_get l 0 off cs (by omega)
  have hsz : cs.toList.length = cs.size := by simp
  apply List.ext_getElem?
  intro i
  rw [Array.getElem?_toList, h2 i, List.append_assoc, List.getElem?_append, List.getElem?_append, List.length_take, hsz]
  by_cases c1 : i < off
  · rw [if_neg (by omega), if_pos (by omega), List.getElem?_take, if_pos c1, Array.getElem?_toList]
  · rw [if_neg (c := i < min off cs.size) (by omega)]
    by_cases c2 : i < off + l.length
    · rw [if_pos (by omega), if_pos (by omega)]
      congr 1
      omega
    · rw [if_neg (by omega), if_neg (by omega), List.getElem?_drop, Array.getElem?_toList]
      congr 1
      omega

theorem vrels_fill {as cs : List AV} {vs us : List Value} (h1 : vrels μ as vs) (h2 : vrels μ cs us) (off : Nat) : vrels μ (fillAt as off cs) (vs.take off ++ us ++ vs.drop (off + us.length)) := by
  unfold fillAt
  rw [← vrels_length h2]
  exact vrels_append (vrels_append (vrels_take off h1) h2) (vrels_drop _ h1)

def prels (μ : M) : List (Nat × AV) → List (Nat × Value) → Prop
  | [], vs => vs = []
  | a :: l, vs => ∃ v r, vs = (a.1, v) :: r ∧ vrel μ a.2 v ∧ prels μ l r

theorem fill_sound {place : Nat → Option (Nat × Nat)} {place' : Nat → Option (Nat × Nat)} (hp : ∀ i p, place i = some p → place' i = some p) : ∀ (parts : List (Nat × AV)) (vparts : List (Nat × Value)) (cells : List AV) (vcells : Array Value) (l : List AV),
    prels μ parts vparts → vrels μ cells vcells.toList → fill? place parts cells = some l → ∃ vs : Array Value, Instr.fill place' vcells vparts = some vs ∧ vrels μ l vs.toList
  | [], vparts, cells, vcells, l, h1, h2, e => by
    simp only [prels] at h1; subst h1
    simp only [fill?] at e; cases e
    exact ⟨vcells, by simp [Instr.fill], h2⟩
  | (i, a) :: parts, vparts, cells, vcells, l, h1, h2, e => by
    simp only [prels] at h1
    obtain ⟨v, r, rfl, hv, h1⟩ := h1
    simp only [fill?] at e
    obtain ⟨p, hpl, e⟩ := ob_some e
    obtain ⟨hc, e⟩ := ifb_some e
    simp only [Bool.and_eq_true, nbeq_iff, ble_iff] at hc
    have hcells := vrel_cells hv
    have hsz : v.cells.size = p.2 := by rw [← Array.length_toList, vrels_length hcells]; exact hc.1
    have hsz2 : vcells.size = cells.length := by rw [← Array.length_toList, vrels_length h2]
    have hfold : (v.cells.zipIdx.foldl (fun cs x => cs.setIfInBounds (p.1 + x.2) x.1) vcells).toList = vcells.toList.take p.1 ++ v.cells.toList ++ vcells.toList.drop (p.1 + v.cells.toList.length) := by
      rw [← Array.foldl_toList, Array.toList_zipIdx]
      exact foldl_set v.cells.toList p.1 vcells (by simp; omega)
    obtain ⟨vs, g1, g2⟩ := fill_sound hp parts r (fillAt cells p.1 a.cells) _ l h1 (by rw [hfold]; exact vrels_fill h2 hcells p.1) e
    refine ⟨vs, ?_, g2⟩
    simp only [Instr.fill, hp i p hpl]
    rw [if_neg (by simp; omega)]
    exact g1

theorem cyc_sound {z : List AV} {zs : Array Value} (hz : vrels μ z zs.toList) (h0 : 0 < z.length) : ∀ (n i : Nat), vrels μ (cyc z i n) ((List.range' i n).map fun j => zs[j % zs.size]!)
  | 0, i => by simp [cyc, vrels]
  | n + 1, i => by
    simp only [cyc, List.range'_succ, List.map_cons]
    have hl := vrels_length hz
    rw [Array.length_toList] at hl
    have hlt : i % z.length < z.length := Nat.mod_lt _ h0
    obtain ⟨y, hy1, hy2⟩ := vrels_get hz (List.getElem?_eq_getElem hlt)
    refine vrels_cons ?_ (cyc_sound hz h0 n (i + 1))
    rw [List.getElem?_eq_getElem hlt, hl]
    simp only [Option.getD_some]
    have : zs[i % z.length]! = y := by
      rw [Array.getElem?_toList] at hy1
      rw [getElem!_def, hy1]
    rw [this]; exact hy2

theorem build_sound (r : HR B w0 μ h w) {t : TypeId} {parts : List (Nat × AV)} {vparts : Array (Nat × Value)} {a : AV} (hp : prels μ parts vparts.toList) (e : build? P t parts = some a) :
    OkQ P μ w (Instr.build t vparts) a := by
  obtain ⟨z, hz, e⟩ := ob_some e
  obtain ⟨d, hd, e⟩ := ob_some e
  obtain ⟨i, zv, hi, hzv, hrel⟩ := zeroOf_some (μ := μ) hz
  have hcells := vrel_cells hrel
  cases d with
  | struct fs =>
    obtain ⟨hall, e⟩ := ifb_some e
    obtain ⟨l, hl, e⟩ := ob_some e
    cases e
    have hmap : ∀ (l : List Field), allSized P l = true → ∀ w, (l.mapM fun (f : Field) => do pure (f.offset, ← sizeOf f.type) : Sem (List (Nat × Nat))).run P w = .ok (l.map fun f => (f.offset, ((P.info? f.type).map (·.size)).getD 0)) w := by
      intro l
      induction l with
      | nil => intro _ w; simp
      | cons f l ih =>
        intro hl w
        have hl' : (Option.rec false (fun _ => allSized P l) (P.info? f.type) : Bool) = true := hl
        cases hi : P.info? f.type with
        | none => rw [hi] at hl'; simp at hl'
        | some j =>
          rw [hi] at hl'
          have := ih hl' w
          simp [List.mapM_cons, sizeOf, run_typeInfo hi, hi]
          simp at this
          simp [sizeOf] at this
          rw [this]
          simp
    obtain ⟨vs, g1, g2⟩ := fill_sound (μ := μ) (place := placeOf P fs) (place' := fun i => (fs.toList.map fun f => (f.offset, ((P.info? f.type).map (·.size)).getD 0))[i]?) (by
      intro i p hpl
      obtain ⟨f, hf, e⟩ := ob_some hpl
      obtain ⟨s, hs, e⟩ := ob_some e
      cases e
      obtain ⟨j, hj, rfl⟩ := sizeOf_some hs
      rw [List.getElem?_map, Array.getElem?_toList, hf]
      simp [hj]) parts vparts.toList z.cells zv.cells l hp hcells hl
    refine .same r (v' := .agg vs) ?_ (by simp only [vrel]; exact ⟨vs.toList, rfl, g2⟩)
    simp only [Instr.build, Sem.run_bind, run_zeroValue hi hzv, Result.andThen_ok, run_underlying hd]
    rw [Array.mapM_eq_mapM_toList, Sem.run_map, hmap fs.toList hall]
    simp only [Result.andThen_ok]
    have : (fun (x : Nat) => (fs.toList.map fun f => (f.offset, ((P.info? f.type).map (·.size)).getD 0)).toArray[x]?) = fun (i : Nat) => (fs.toList.map fun f => (f.offset, ((P.info? f.type).map (·.size)).getD 0))[i]? := by
      funext i; simp
    rw [this, g1]
    rfl
  | array n el =>
    obtain ⟨s, hs, e⟩ := ob_some e
    obtain ⟨l, hl, e⟩ := ob_some e
    cases e
    obtain ⟨vs, g1, g2⟩ := fill_sound (μ := μ) (place := fun i => some (i * s, s)) (place' := fun i => some (i * s, s)) (fun _ _ h => h) parts vparts.toList z.cells zv.cells l hp hcells hl
    refine .same r (v' := .agg vs) ?_ (by simp only [vrel]; exact ⟨vs.toList, rfl, g2⟩)
    simp only [Instr.build, Sem.run_bind, run_zeroValue hi hzv, Result.andThen_ok, run_underlying hd, run_sizeOf hs, g1]
    rfl
  | _ => simp at e

theorem sliceElem_some {t e : TypeId} (he : sliceElem P t = some e) : P.underlying t = some (.slice e) := by
  obtain ⟨d, hd, e⟩ := ob_some he
  cases d <;> simp [asSlice] at e
  subst e; exact hd

theorem buildSlice_sound (r : HR B w0 μ h w) {t : TypeId} {n : Nat} {parts : List (Nat × AV)} {vparts : Array (Nat × Value)} {l : List AV} {x : Nat} (hp : prels μ parts vparts.toList) (e : buildCells P t n parts = some l) (hq : At B μ h x (rowOf l false) h') (hll : l.length < limit) :
    OkV P B w0 μ w (Instr.buildSlice t n vparts) (.sl x 0 n n) h' := by
  obtain ⟨el, hel, e⟩ := ob_some e
  obtain ⟨s, hs, e⟩ := ob_some e
  obtain ⟨z, hz, e⟩ := ob_some e
  obtain ⟨hc, hl⟩ := ifb_some e
  simp only [Bool.and_eq_true, nbeq_iff, blt_iff] at hc
  obtain ⟨i, zv, hi, hzv, hrel⟩ := zeroOf_some (μ := μ) hz
  have hcells := vrel_cells hrel
  have hd := sliceElem_some hel
  have hzs : zv.cells.size = s := by rw [← Array.length_toList, vrels_length hcells]; exact hc.2
  have hlim : n * s < 1000000 := hc.1
  by_cases h0 : n * s = 0
  · have hcyc : vrels μ (cyc z.cells 0 (n * s)) (#[] : Array Value).toList := by rw [h0]; simp [cyc, vrels]
    obtain ⟨vs, g1, g2⟩ := fill_sound (μ := μ) (place := fun i => some (i * s, s)) (place' := fun i => some (i * s, s)) (fun _ _ h => h) parts vparts.toList _ _ l hp hcyc hl
    obtain ⟨h1, h2, h3⟩ := r.rowNew (e := el) hq hll g2
    refine ⟨.slice (some ⟨w.heap.size, 0, none⟩) n n, _, _, ?_, h1, ?_, h3⟩
    · simp only [Instr.buildSlice, Sem.run_bind, Result.andThen_ok, run_underlying hd, run_sizeOf hs]
      rw [if_neg (by omega)]
      simp only [h0, if_true, Sem.run_pure, Result.andThen_ok, Sem.run_bind]
      have e0 : (Array.map (fun x => (#[] : Array Value)[x % (#[] : Array Value).size]!) (Array.range 0)) = #[] := by rw [Array.range_zero']; exact Array.map_empty
      rw [e0, g1]
      simp only [newRow, Sem.run_bind, run_newObj, Result.andThen_ok, Sem.run_pure]
    · simp only [vrel]; exact ⟨_, h2, rfl⟩
  · have hpos : 0 < z.cells.length := by rw [hc.2]; exact Nat.pos_of_ne_zero (by intro e; rw [e] at h0; simp at h0)
    have hcyc := cyc_sound hcells hpos (n * s) 0
    have earr : ((List.range' 0 (n * s)).map fun j => zv.cells[j % zv.cells.size]!) = ((Array.range (n * s)).map (fun x => zv.cells[x % zv.cells.size]!)).toList := by
      simp [List.range_eq_range']
    rw [earr] at hcyc
    obtain ⟨vs, g1, g2⟩ := fill_sound (μ := μ) (place := fun i => some (i * s, s)) (place' := fun i => some (i * s, s)) (fun _ _ h => h) parts vparts.toList _ _ l hp hcyc hl
    obtain ⟨h1, h2, h3⟩ := r.rowNew (e := el) hq hll g2
    refine ⟨.slice (some ⟨w.heap.size, 0, none⟩) n n, _, _, ?_, h1, ?_, h3⟩
    · simp only [Instr.buildSlice, Sem.run_bind, Result.andThen_ok, run_underlying hd, run_sizeOf hs]
      rw [if_neg (by omega)]
      simp only [h0, if_false, Sem.run_pure, Result.andThen_ok, Sem.run_bind, run_zeroValue hi hzv]
      rw [g1]
      simp only [newRow, Sem.run_bind, run_newObj, Result.andThen_ok, Sem.run_pure]
    · simp only [vrel]; exact ⟨_, h2, rfl⟩
end Go.X
