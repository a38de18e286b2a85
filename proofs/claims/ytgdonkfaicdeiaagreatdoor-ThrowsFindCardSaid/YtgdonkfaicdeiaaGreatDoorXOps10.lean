/-
  Each operation of the abstract machine stands for the model's: maps that are written, ranges, assertions.
-/
import Derived.Test.YtgdonkfaicdeiaaGreatDoorXOps9
set_option linter.unusedVariables false
set_option linter.unusedSimpArgs false
set_option linter.unusedSectionVars false
namespace Go.X
open Go.RowKit

variable [Tab]
variable {P : Program} {B : Kp} {w0 : World} {μ : M} {h h' : H} {w w' : World}

theorem esrel_append {k v : AV} {kv vv : Value} {c : Nat} (hk : vrel μ k kv) (hv : vrel μ v vv) : ∀ {es : List (AV × AV × Nat)} {es' : List MapEntry}, esrel μ es es' → esrel μ (es ++ [(k, v, c)]) (es' ++ [{ key := kv, val := vv, born := c }])
  | [], es', e => by
    simp only [esrel] at e; subst e
    simp only [List.nil_append, esrel]
    exact ⟨_, _, rfl, hk, hv, rfl, rfl⟩
  | a :: l, es', e => by
    simp only [esrel] at e
    obtain ⟨x, r, rfl, h1, h2, h3, h4⟩ := e
    simp only [List.cons_append, esrel]
    exact ⟨x, _, rfl, h1, h2, h3, esrel_append hk hv h4⟩

theorem esrel_modify {k v : AV} {kv vv : Value} (hk : vrel μ k kv) (hv : vrel μ v vv) : ∀ {es : List (AV × AV × Nat)} {es' : List MapEntry} (i : Nat), esrel μ es es' → esrel μ (mapSet es i k v) (es'.modify i fun e => { e with key := kv, val := vv })
  | [], es', i, e => by
    simp only [esrel] at e; subst e
    simp [mapSet, esrel]
  | a :: l, es', 0, e => by
    simp only [esrel] at e
    obtain ⟨x, r, rfl, h1, h2, h3, h4⟩ := e
    simp only [mapSet, List.modify_zero_cons, esrel]
    exact ⟨_, _, rfl, hk, hv, h3, h4⟩
  | a :: l, es', i + 1, e => by
    simp only [esrel] at e
    obtain ⟨x, r, rfl, h1, h2, h3, h4⟩ := e
    simp only [mapSet, List.modify_succ_cons, esrel]
    exact ⟨x, _, rfl, h1, h2, h3, esrel_modify hk hv i h4⟩

theorem esrel_erase : ∀ {es : List (AV × AV × Nat)} {es' : List MapEntry} (i : Nat), esrel μ es es' → esrel μ (es.eraseIdx i) (es'.eraseIdx i)
  | [], es', i, e => by
    simp only [esrel] at e; subst e
    simp [esrel]
  | a :: l, es', 0, e => by
    simp only [esrel] at e
    obtain ⟨x, r, rfl, h1, h2, h3, h4⟩ := e
    simpa using h4
  | a :: l, es', i + 1, e => by
    simp only [esrel] at e
    obtain ⟨x, r, rfl, h1, h2, h3, h4⟩ := e
    simp only [List.eraseIdx_cons_succ, esrel]
    exact ⟨x, _, rfl, h1, h2, h3, esrel_erase i h4⟩

/-- A map is written. -/
theorem HR.putMap (r : HR B w0 μ h w) {x : Nat} {es es2 : List (AV × AV × Nat)} {c c2 : Nat} {l : Loc} {es' : Array MapEntry} (hx : h.get x = some (.map es c)) (hl : μ x = some l) (hlim : x < limit) (hw : w.heap[l.block]? = some (.map es' c)) {es2' : Array MapEntry} (he : esrel μ es2 es2'.toList) :
    HR B w0 μ (h.put x (.map es2 c2)) { w with heap := w.heap.setIfInBounds l.block (.map es2' c2) } :=
  r.upd hx hl rfl rfl (by unfold limit at hlim; omega) (upd_setObj w _ _) ⟨es2'.toList, get_setObj hw, he⟩

structure MapAt (P : Program) (μ : M) (h : H) (w : World) (t : TypeId) (m k : AV) (mv kv : Value) (x : Nat) (es : List (AV × AV × Nat)) (clock : Nat) (kt e : TypeId) (kd : TypeDesc) (l : Loc) (es' : Array MapEntry) : Prop where
  type : P.underlying t = some (.map kt e)
  key : P.underlying kt = some kd
  plain : plainKey kd k = true
  map : m = .map x
  val : mv = .map (some l.block)
  got : h.get x = some (.map es clock)
  loc : μ x = some l
  lim : x < limit
  obj : w.heap[l.block]? = some (.map es' clock)
  rel : esrel μ es es'.toList

theorem mapAt_sound (r : HR B w0 μ h w) {t : TypeId} {m k : AV} {mv kv : Value} {f : Nat → List (AV × AV × Nat) → Nat → TypeId → Option (Nat × AV × Nat) → Option (AV × H)} {p : AV × H} (hm : vrel μ m mv) (e : mapAt P h t m k f = some p) :
    ∃ x es clock kt e' kd l es' res, MapAt P μ h w t m k mv kv x es clock kt e' kd l es' ∧ findKey? kd k es 0 = some res ∧ f x es clock e' res = some p := by
  unfold mapAt at e
  split at e
  · rename_i x
    obtain ⟨d, hd, e⟩ := ob_some e
    obtain ⟨ke, hke, e⟩ := ob_some e
    obtain ⟨kd, hkd, e⟩ := ob_some e
    obtain ⟨hp, e⟩ := ifb_some e
    simp only [Bool.and_eq_true, blt_iff] at hp
    obtain ⟨b, hb, e⟩ := ob_some e
    obtain ⟨q, hq, e⟩ := ob_some e
    obtain ⟨res, hres, ef⟩ := ob_some e
    obtain rfl := asMap_some hke
    obtain rfl := mapIn_some hq
    obtain ⟨l, hl, _, _, es', h1, h2⟩ := r.blk _ _ hb
    simp only [vrel] at hm
    obtain ⟨l', hl', rfl⟩ := hm
    rw [hl] at hl'; cases hl'
    exact ⟨x, q.1, q.2, ke.1, ke.2, kd, l, ⟨es'⟩, res, ⟨hd, hkd, hp.1, rfl, rfl, hb, hl, hp.2, h1, h2⟩, hres, ef⟩
  · simp at e

theorem sameBits_self {d : TypeDesc} {k : AV} {kv : Value} (hp : plainKey d k = true) (hk : vrel μ k kv) (n : Nat) : Instr.sameBits n kv kv = true := by
  rcases plain_of hp hk with ⟨q, q', m, rfl, rfl, rfl⟩ | ⟨m, c, rfl, rfl, _, rfl⟩ | ⟨b, rfl, rfl, rfl⟩
  · simp [Instr.sameBits]
  · cases n <;> simp [Instr.sameBits, ba_beq]
  · simp [Instr.sameBits]

theorem mapUpdate_sound (r : HR B w0 μ h w) {t : TypeId} {m k v : AV} {mv kv vv : Value} {p : AV × H} (hm : vrel μ m mv) (hk : vrel μ k kv) (hv : vrel μ v vv) (e : mapUpdate? P h t m k v = some p) :
    p.1 = .undef ∧ ∃ w', (Instr.mapUpdate t mv kv vv).run P w = .ok () w' ∧ HR B w0 μ p.2 w' := by
  obtain ⟨x, es, clock, kt, e', kd, l, es', res, A, hres, e⟩ := mapAt_sound (kv := kv) r hm e
  have hval := A.val
  subst hval
  have hf := findKey_sound hk A.rel hres
  have hck : (Instr.checkKey false 10000 kt kv).run P w = .ok () w := checkKey_sound A.key A.plain hk 9999
  cases res with
  | none =>
    cases e
    refine ⟨rfl, _, ?_, r.putMap A.got A.loc A.lim A.obj (es2' := es'.push { key := kv, val := vv, born := clock }) (by rw [Array.toList_push]; exact esrel_append hk hv A.rel)⟩
    simp only at hf
    simp [Instr.mapUpdate, run_underlying A.type, run_getObj_map A.obj, hck, Instr.findKey, run_underlying A.key, hf, run_setObj_map _ A.obj]
  | some q =>
    obtain ⟨j, v0, b⟩ := q
    cases e
    simp only at hf
    obtain ⟨e0, k1, k2, _, k4, k5, k6⟩ := hf
    simp only [Nat.sub_zero] at k4
    have hg : es'[j]? = some e0 := by rw [← Array.getElem?_toList]; exact k4
    refine ⟨rfl, _, ?_, r.putMap A.got A.loc A.lim A.obj (es2' := es'.modify j fun e => { e with key := kv, val := vv }) (by rw [Array.toList_modify]; exact esrel_modify hk hv j A.rel)⟩
    have hstay : (Instr.keyThatStays kv kv).run P w = .ok kv w := by simp [Instr.keyThatStays, sameBits_self A.plain hk]
    simp [Instr.mapUpdate, run_underlying A.type, run_getObj_map A.obj, hck, Instr.findKey, run_underlying A.key, k1, hg, k6, hstay, run_setObj_map _ A.obj]

theorem mapEntry_sound (r : HR B w0 μ h w) {t : TypeId} {m k : AV} {mv kv : Value} {p : AV × H} (hm : vrel μ m mv) (hk : vrel μ k kv) (e : mapEntry? P h t m k = some p) :
    OkV P B w0 μ w (Instr.mapEntry t mv kv) p.1 p.2 := by
  obtain ⟨x, es, clock, kt, e', kd, l, es', res, A, hres, e⟩ := mapAt_sound (kv := kv) r hm e
  have hval := A.val
  subst hval
  have hf := findKey_sound hk A.rel hres
  have hck : (Instr.checkKey false 10000 kt kv).run P w = .ok () w := checkKey_sound A.key A.plain hk 9999
  cases res with
  | none =>
    obtain ⟨z, hz, e⟩ := ob_some e
    cases e
    obtain ⟨ii, zv, hii, hzv, hrel⟩ := zeroOf_some (μ := μ) hz
    refine ⟨.tuple #[zv, .int .i64 clock], _, μ, ?_, Ext.refl _, ?_, r.putMap A.got A.loc A.lim A.obj (es2' := es'.push { key := kv, val := zv, born := clock }) (by rw [Array.toList_push]; exact esrel_append hk hrel A.rel)⟩
    · simp only at hf
      simp [Instr.mapEntry, run_underlying A.type, run_getObj_map A.obj, hck, Instr.findKey, run_underlying A.key, hf, run_setObj_map _ A.obj, run_zeroValue hii hzv, goInt]
    · simp only [vrel]; exact ⟨_, rfl, vrels_cons hrel (vrels_one (by simp [vrel]))⟩
  | some q =>
    obtain ⟨j, v0, b⟩ := q
    cases e
    simp only at hf
    obtain ⟨e0, k1, k2, _, k4, k5, k6⟩ := hf
    simp only [Nat.sub_zero] at k4
    have hg : es'[j]? = some e0 := by rw [← Array.getElem?_toList]; exact k4
    have hmod : (es'.modify j fun e => { e with key := kv }) = es'.modify j fun e => { e with key := kv, val := e0.val } := by
      apply Array.ext_getElem?
      intro i
      rw [Array.getElem?_modify, Array.getElem?_modify]
      by_cases hij : j = i
      · subst hij
        rw [hg]; simp
      · rw [if_neg hij, if_neg hij]
    refine ⟨.tuple #[e0.val, .int .i64 b], _, μ, ?_, Ext.refl _, ?_, r.putMap A.got A.loc A.lim A.obj (es2' := es'.modify j fun e => { e with key := kv, val := e0.val }) (by rw [Array.toList_modify]; exact esrel_modify hk k2 j A.rel)⟩
    · have hstay : (Instr.keyThatStays kv kv).run P w = .ok kv w := by simp [Instr.keyThatStays, sameBits_self A.plain hk]
      rw [← hmod]
      simp [Instr.mapEntry, run_underlying A.type, run_getObj_map A.obj, hck, Instr.findKey, run_underlying A.key, k1, hg, k6, k5, hstay, run_setObj_map _ A.obj, goInt]
    · simp only [vrel]; exact ⟨_, rfl, vrels_cons k2 (vrels_one (by simp [vrel]))⟩

theorem delete_sound (r : HR B w0 μ h w) {t ty : TypeId} {ats : Array TypeId} {args : Array Value} {m k : AV} {mv kv : Value} {p : AV × H} (hat : ats[0]? = some t) (ha0 : args[0]? = some mv) (ha1 : args[1]? = some kv) (hm : vrel μ m mv) (hk : vrel μ k kv) (e : delete? P h t m k = some p) :
    OkV P B w0 μ w (Builtin.delete_ ats ty args) p.1 p.2 := by
  obtain ⟨x, es, clock, kt, e', kd, l, es', res, A, hres, e⟩ := mapAt_sound (kv := kv) r hm e
  have hval := A.val
  subst hval
  have hf := findKey_sound hk A.rel hres
  have hck : ∀ emp, (Instr.checkKey emp 10000 kt kv).run P w = .ok () w := fun emp => checkKey_sound A.key A.plain hk 9999
  cases res with
  | none =>
    cases e
    refine ⟨.tuple #[], _, μ, ?_, Ext.refl _, by simp only [AV.undef, vrel]; exact ⟨[], rfl, by simp [vrels]⟩, r.putMap A.got A.loc A.lim A.obj (es2' := es') A.rel⟩
    simp only at hf
    simp [Builtin.delete_, hat, ha0, ha1, run_underlying A.type, run_getObj_map A.obj, hck, Instr.findKey, run_underlying A.key, hf, run_setObj_map _ A.obj]
  | some q =>
    obtain ⟨j, v0, b⟩ := q
    cases e
    simp only at hf
    obtain ⟨e0, k1, k2, _, k4, k5, k6⟩ := hf
    simp only [Nat.sub_zero] at k4
    refine ⟨.tuple #[], _, μ, ?_, Ext.refl _, by simp only [AV.undef, vrel]; exact ⟨[], rfl, by simp [vrels]⟩, r.putMap A.got A.loc A.lim A.obj (es2' := es'.eraseIdxIfInBounds j) ?_⟩
    · simp [Builtin.delete_, hat, ha0, ha1, run_underlying A.type, run_getObj_map A.obj, hck, Instr.findKey, run_underlying A.key, k1, run_setObj_map _ A.obj]
    · have : (es'.eraseIdxIfInBounds j).toList = es'.toList.eraseIdx j := by simp
      rw [this]; exact esrel_erase j A.rel

theorem entrySet_sound {n : Int} {x : AV} {xv : Value} (hx : vrel μ x xv) : ∀ {es es2 : List (AV × AV × Nat)} {es' : List MapEntry}, esrel μ es es' → entrySet n x es = some es2 →
    ∃ i, es'.findIdx? (fun e => (e.born : Int) == n) = some i ∧ esrel μ es2 (es'.modify i fun e => { e with val := xv })
  | [], es2, es', he, e => by simp [entrySet] at e
  | (k, v, b) :: es, es2, es', he, e => by
    simp only [esrel] at he
    obtain ⟨y, r, rfl, h1, h2, h3, h4⟩ := he
    simp only [entrySet] at e
    split at e
    · rename_i hb
      cases e
      refine ⟨0, ?_, ?_⟩
      · rw [List.findIdx?_cons]; simp [h3, hb]
      · simp only [List.modify_zero_cons, esrel]
        exact ⟨_, _, rfl, h1, hx, h3, h4⟩
    · rename_i hb
      obtain ⟨r2, hr2, e⟩ := ob_some e
      cases e
      obtain ⟨i, g1, g2⟩ := entrySet_sound hx h4 hr2
      refine ⟨i + 1, ?_, ?_⟩
      · rw [List.findIdx?_cons, g1]; simp [h3, hb]
      · simp only [List.modify_succ_cons, esrel]
        exact ⟨_, _, rfl, h1, h2, h3, g2⟩

theorem entryStore_sound (r : HR B w0 μ h w) {t : TypeId} {m s v : AV} {mv sv vv : Value} {p : AV × H} (hm : vrel μ m mv) (hs : vrel μ s sv) (hv : vrel μ v vv) (e : entryStore? h m s v = some p) :
    p.1 = .undef ∧ ∃ w', (Instr.entryStore t mv sv vv).run P w = .ok () w' ∧ HR B w0 μ p.2 w' := by
  unfold entryStore? at e
  split at e
  · obtain ⟨b, hb, e⟩ := ob_some e
    obtain ⟨q, hq, e⟩ := ob_some e
    obtain ⟨es2, hes, e⟩ := ob_some e
    obtain ⟨hlim, e⟩ := ifb_some e
    cases e
    obtain rfl := mapIn_some hq
    obtain ⟨l, hl, _, _, es', h1, h2⟩ := r.blk _ _ hb
    simp only [vrel] at hm hs
    subst hs
    obtain ⟨l', hl', rfl⟩ := hm
    rw [hl] at hl'; cases hl'
    obtain ⟨i, g1, g2⟩ := entrySet_sound hv h2 hes
    refine ⟨rfl, _, ?_, r.putMap hb hl (blt_iff.1 hlim) h1 (es2' := (⟨es'⟩ : Array MapEntry).modify i fun e => { e with val := vv }) (by rw [Array.toList_modify]; exact g2)⟩
    simp [Instr.entryStore, run_getObj_map h1, asInt, asIntOf, run_setObj_map _ h1]
    simp [g1, run_setObj_map _ h1]
  · simp at e

/- ranges -/
theorem range_sound (r : HR B w0 μ h w) {t : TypeId} {x : AV} {xv : Value} {p : AV × H} (hx : vrel μ x xv) (e : range? P h t x = some p) :
    OkV P B w0 μ w (Instr.range t xv) p.1 p.2 := by
  obtain ⟨d, hd, e⟩ := ob_some e
  have key : ∀ (b : Blk) (o : Obj) (q : Nat × H), own b = true → (∀ l : Loc, l.block = w.heap.size → l.base = 0 → ∀ μ', Ext μ μ' → brel μ' b l { w with heap := w.heap.push o }) → h.alloc b = some q →
      ∃ μ', Ext μ μ' ∧ vrel μ' (.ptr q.1 0) (.pointer (some ⟨w.heap.size, 0, none⟩)) ∧ HR B w0 μ' q.2 { w with heap := w.heap.push o } := by
    intro b o q ho hb hq
    have hx := (H.alloc_some hq).1
    have hext : Ext μ (upm μ q.1 ⟨w.heap.size, 0, 0⟩) := Ext.upm _ (by rw [hx]; exact (r.fresh h.next (Nat.le_refl _)).2)
    refine ⟨_, hext, ?_, r.alloc (At.ofAlloc r hq) ho (below_push w o) (Nat.le_refl _) (hb _ rfl rfl _ hext)⟩
    simp only [vrel]
    exact ⟨⟨w.heap.size, 0, 0⟩, by simp [upm], rfl⟩
  cases d with
  | string =>
    cases x with
    | str n c =>
      simp only [rangeD] at e
      obtain ⟨q, hq, e2⟩ := ob_some e
      cases e2
      simp only [vrel] at hx
      obtain ⟨hc, rfl⟩ := hx
      obtain ⟨μ', g1, g2, g3⟩ := key (.siter n c 0) (.stringIter (strOf n c) 0) q rfl (fun l hl hb μ' _ => ⟨hb, hc, by rw [hl]; simp⟩) hq
      exact ⟨_, _, μ', by simp [Instr.range, run_underlying hd], g1, g2, g3⟩
    | _ => simp [rangeD] at e
  | map kt et =>
    cases x with
    | nilm =>
      simp only [rangeD] at e
      obtain ⟨q, hq, e2⟩ := ob_some e
      cases e2
      simp only [vrel] at hx
      subst hx
      obtain ⟨μ', g1, g2, g3⟩ := key (.miter none 0 [] 0) (.mapIter none 0 #[] 0) q rfl (fun l hl hb μ' _ => ⟨hb, by rw [hl]; simp⟩) hq
      exact ⟨_, _, μ', by simp [Instr.range, run_underlying hd], g1, g2, g3⟩
    | map m =>
      simp only [rangeD] at e
      obtain ⟨b, hb, e2⟩ := ob_some e
      obtain ⟨mq, hmq, e3⟩ := ob_some e2
      obtain ⟨q, hq, e4⟩ := ob_some e3
      cases e4
      obtain rfl := mapIn_some hmq
      obtain ⟨k, hk, _, _, es', h1, h2⟩ := r.blk _ _ hb
      simp only [vrel] at hx
      obtain ⟨k', hk', rfl⟩ := hx
      rw [hk] at hk'; cases hk'
      obtain ⟨μ', g1, g2, g3⟩ := key (.miter (some m) mq.2 [] mq.2) (.mapIter (some k.block) mq.2 #[] mq.2) q rfl (fun l hl hb μ' he => ⟨hb, k, he _ _ hk, by rw [hl]; simp⟩) hq
      exact ⟨_, _, μ', by simp [Instr.range, run_underlying hd, run_getObj_map h1], g1, g2, g3⟩
    | _ => simp [rangeD] at e
  | _ => simp [rangeD] at e

theorem str_at {n c pos : Nat} (hp : pos < n) : (strOf n c).get! pos = UInt8.ofNat (c / 256 ^ pos % 256) := by
  have hs : pos < (strOf n c).size := by rw [strOf_size]; exact hp
  have h2 : (strOf n c).data.toList[pos]? = some (UInt8.ofNat (c / 256 ^ pos % 256)) := by
    simp only [strOf, List.getElem?_map]
    have e1 : (dec n c)[pos]? = (dec (n - pos) (c / 256 ^ pos))[0]? := by
      rw [dec_div pos (n - pos) c, List.getElem?_drop]
      congr 2; omega
    rw [e1]
    cases hnk : n - pos with
    | zero => omega
    | succ q => simp [dec]
  rw [Array.getElem?_toList] at h2
  show (strOf n c).data[pos]! = _
  rw [getElem!_def, h2]

theorem esrel_filter (p : Nat → Bool) : ∀ {es : List (AV × AV × Nat)} {es' : List MapEntry}, esrel μ es es' → esrel μ (es.filter fun e => p e.2.2) (es'.filter fun e => p e.born)
  | [], es', e => by simp only [esrel] at e; subst e; simp [esrel]
  | a :: l, es', e => by
    simp only [esrel] at e
    obtain ⟨x, r, rfl, h1, h2, h3, h4⟩ := e
    have ih := esrel_filter p h4
    simp only [List.filter_cons, h3]
    cases p a.2.2 with
    | false => simpa using ih
    | true => simp only [if_true, esrel]; exact ⟨x, _, rfl, h1, h2, h3, ih⟩

theorem esrel_all (p : Nat → Bool) : ∀ {es : List (AV × AV × Nat)} {es' : List MapEntry}, esrel μ es es' → (es'.all fun e => p e.born) = (es.all fun e => p e.2.2)
  | [], es', e => by simp only [esrel] at e; subst e; simp
  | a :: l, es', e => by
    simp only [esrel] at e
    obtain ⟨x, r, rfl, h1, h2, h3, h4⟩ := e
    simp only [List.all_cons, h3, esrel_all p h4]

theorem choose_next (w : World) (n : Nat) (hn : 0 < n) : ∃ j d, j < n ∧ (choose (.mapNext n)).run P w = .ok j { w with drawn := d } := by
  rw [run_choose]
  by_cases h : n ≤ 1
  · exact ⟨0, w.drawn, hn, by simp [Question.forced, h]⟩
  · exact ⟨w.tape w.drawn (.mapNext n) % n, w.drawn + 1, Nat.mod_lt _ hn, by simp [Question.forced, h, Question.cut]⟩

/-- One of some outcomes. -/
def OkL (P : Program) (B : Kp) (w0 : World) (μ : M) (w : World) (s : Sem Value) (l : List (AV × H)) : Prop := ∃ p ∈ l, OkV P B w0 μ w s p.1 p.2

theorem esrel_get {es : List (AV × AV × Nat)} {es' : List MapEntry} (e : esrel μ es es') : ∀ {i : Nat} {x : MapEntry}, es'[i]? = some x → ∃ a, es[i]? = some a ∧ vrel μ a.1 x.key ∧ vrel μ a.2.1 x.val ∧ x.born = a.2.2 := by
  induction es generalizing es' with
  | nil => intro i x hx; simp only [esrel] at e; subst e; simp at hx
  | cons a l ih =>
    intro i x hx
    simp only [esrel] at e
    obtain ⟨y, r, rfl, h1, h2, h3, h4⟩ := e
    cases i with
    | zero => simp only [List.getElem?_cons_zero, Option.some.injEq] at hx; subst hx; exact ⟨a, rfl, h1, h2, h3⟩
    | succ i => simp only [List.getElem?_cons_succ] at hx ⊢; exact ih h4 hx

theorem next_sound (r : HR B w0 μ h w) {ty : TypeId} {it : AV} {iv : Value} {isString : Bool} {p : List (AV × H)} (hx : vrel μ it iv) (e : next? h it isString = some p) :
    OkL P B w0 μ w (Instr.next iv isString ty) p := by
  unfold next? at e
  split at e
  · rename_i x
    obtain ⟨b, hb, e⟩ := ob_some e
    obtain ⟨l, hl, _, _, hr⟩ := r.blk _ b hb
    simp only [vrel] at hx
    obtain ⟨l', hl', rfl⟩ := hx
    rw [hl] at hl'; cases hl'
    cases b with
    | siter n c pos =>
      cases isString with
      | false => simp [nextD] at e
      | true =>
        simp only [nextD] at e
        obtain ⟨p1, e0, he1⟩ := ob_some e
        cases he1
        clear e
        have e := e0
        clear e0
        refine ⟨p1, by simp [one1], ?_⟩
        obtain ⟨hb0, hc, h1⟩ := hr
        unfold nextStr at e
        by_cases hpos : pos < n
        · rw [if_pos hpos] at e
          obtain ⟨hcond, e2⟩ := ifb_some e
          simp only [Bool.and_eq_true, blt_iff] at hcond
          cases e2
          have hb1 : ((strOf n c).get! pos).toNat = c / 256 ^ pos % 256 := by
            rw [str_at hpos, UInt8.toNat_ofNat']
            omega
          have hdec : Utf8.decode (strOf n c) pos = (c / 256 ^ pos % 256, 1) := by
            unfold Utf8.decode
            simp only [Nat.add_zero, hb1]
            rw [if_pos hcond.1]
          refine ⟨.tuple #[.bool true, .int .i64 pos, .int .i32 ((c / 256 ^ pos % 256 : Nat) : Int)], _, μ, ?_, Ext.refl _, ?_, r.upd (b' := .siter n c (pos + 1)) hb hl rfl rfl (by have := hcond.2; unfold limit at this; omega) (upd_setObj w l.block (.stringIter (strOf n c) (pos + 1))) ⟨hb0, hc, get_setObj h1⟩⟩
          · simp only [hb0, Nat.zero_add]
            simp [Instr.next, run_getObj_siter h1, strOf_size, hpos, hdec, run_setObj_siter _ h1, goInt]
          · simp only [vrel]; exact ⟨_, rfl, vrels_cons (by simp [vrel]) (vrels_cons (by simp [vrel]) (vrels_one (by simp [vrel])))⟩
        · rw [if_neg hpos] at e
          cases e
          refine .same r (v' := .tuple #[.bool false]) ?_ (by simp only [vrel]; exact ⟨_, rfl, vrels_one (by simp [vrel])⟩)
          simp only [hb0, Nat.zero_add]
          simp [Instr.next, run_getObj_siter h1, strOf_size, hpos]
    | miter mm since seen last =>
      cases isString with
      | true => simp [nextD] at e
      | false =>
        cases mm with
        | none =>
          simp only [nextD] at e
          cases e
          obtain ⟨hb0, h1⟩ := hr
          refine ⟨_, List.mem_singleton.2 rfl, .same r (v' := .tuple #[.bool false]) ?_ (by simp only [vrel]; exact ⟨_, rfl, vrels_one (by simp [vrel])⟩)⟩
          simp only [hb0, Nat.zero_add]
          simp [Instr.next, run_getObj_miter h1]
        | some m =>
          simp only [nextD] at e
          obtain ⟨hb0, k, hk, h1⟩ := hr
          obtain ⟨b2, hb2, e2⟩ := ob_some e
          obtain ⟨q, hq, e3⟩ := ob_some e2
          obtain rfl := mapIn_some hq
          obtain ⟨k', hk', _, _, es', g1, g2⟩ := r.blk _ _ hb2
          rw [hk] at hk'; cases hk'
          unfold nextMap at e3
          split at e3
          · simp at e3
          · rename_i hgone
            have hall : (es'.all fun e => decide (last ≤ e.born)) = (q.1.all fun e => decide (last ≤ e.2.2)) := esrel_all (fun n => decide (last ≤ n)) g2
            have hemp : es'.isEmpty = q.1.isEmpty := by
              have := esrel_length g2
              cases es' <;> cases hq1 : q.1 <;> simp_all
            have hgone' : ¬ ((!(⟨seen⟩ : Array Nat).isEmpty && !(⟨es'⟩ : Array MapEntry).isEmpty && (⟨es'⟩ : Array MapEntry).all (fun e => decide (e.born ≥ last))) = true) := by
              intro hh
              apply hgone
              simp only [List.isEmpty_toArray, List.all_toArray] at hh
              simp only [ge_iff_le, hemp, hall] at hh
              exact hh
            have hleft := esrel_filter (fun n => !seen.contains n) g2
            have hfil : (⟨es'⟩ : Array MapEntry).filter (fun e => !(⟨seen⟩ : Array Nat).contains e.born) = ⟨es'.filter fun e => !seen.contains e.born⟩ := by
              apply Array.ext'
              simp
            generalize hf : (q.1.filter fun e => !seen.contains e.2.2) = left at e3 hleft
            generalize hf' : (es'.filter fun e => !seen.contains e.born) = left' at hleft hfil
            cases left with
            | nil =>
              simp only [esrel] at hleft
              subst hleft
              cases e3
              refine ⟨_, List.mem_singleton.2 rfl, .same r (v' := .tuple #[.bool false]) ?_ (by simp only [vrel]; exact ⟨_, rfl, vrels_one (by simp [vrel])⟩)⟩
              simp only [hb0, Nat.zero_add]
              simp only [Instr.next, Sem.run_bind, run_getObj_miter h1, Result.andThen_ok, run_getObj_map g1]
              rw [if_neg hgone']
              simp only [hfil, Sem.run_pure, Result.andThen_ok]
              simp [Question.forced]
            | cons a rest =>
              simp only at e3
              obtain ⟨hcond, e4⟩ := ifb_some e3
              simp only [Bool.and_eq_true] at hcond
              obtain ⟨hold, hlim⟩ := hcond
              have hlim := blt_iff.1 hlim
              have hlen : left'.length = (a :: rest).length := esrel_length hleft
              have hold' : ∀ y ∈ left', y.born < since := by
                intro y hy
                obtain ⟨i, hi⟩ := List.getElem?_of_mem hy
                obtain ⟨c, hc, _, _, hbn⟩ := esrel_get hleft hi
                have := List.all_eq_true.1 hold c (List.mem_of_getElem? hc)
                rw [hbn]; exact blt_iff.1 this
              have hne : left' ≠ [] := by intro hh; rw [hh] at hlen; simp at hlen
              obtain ⟨i, d, hi, hch⟩ := choose_next (P := P) w left'.length (by rw [hlen]; simp)
              obtain ⟨x0, hx0⟩ : ∃ x0, left'[i]? = some x0 := ⟨left'[i], by simp [hi]⟩
              obtain ⟨c, hc, k1, k2, k3⟩ := esrel_get hleft hx0
              cases e4
              refine ⟨_, List.mem_map.2 ⟨c, List.mem_of_getElem? hc, rfl⟩, ?_⟩
              have h1' : ({ w with drawn := d } : World).heap[l.block]? = some (.mapIter (some k.block) since ⟨seen⟩ last) := h1
              refine ⟨.tuple #[.bool true, x0.key, x0.val], _, μ, ?_, Ext.refl _, by simp only [vrel]; exact ⟨_, rfl, vrels_cons (by simp [vrel]) (vrels_cons k1 (vrels_one k2))⟩, (r.drawn d).upd (b' := .miter (some m) since (seen ++ [c.2.2]) q.2) hb hl rfl rfl (by unfold limit at hlim; omega) (upd_setObj { w with drawn := d } l.block (.mapIter (some k.block) since ((⟨seen⟩ : Array Nat).push x0.born) q.2)) ⟨hb0, k, hk, ?_⟩⟩
              · simp only [hb0, Nat.zero_add]
                simp only [Instr.next, Sem.run_bind, run_getObj_miter h1, Result.andThen_ok, run_getObj_map g1]
                rw [if_neg hgone']
                have hfo : (⟨left'⟩ : Array MapEntry).filter (fun e => decide (e.born < since)) = ⟨left'⟩ := by
                  apply Array.ext'
                  simp only [List.filter_toArray, Array.toList]
                  exact List.filter_eq_self.2 fun y hy => by simpa using hold' y hy
                have hfn : (⟨left'⟩ : Array MapEntry).filter (fun e => decide (e.born ≥ since)) = #[] := by
                  apply Array.ext'
                  simp only [List.filter_toArray, Array.toList]
                  exact List.filter_eq_nil_iff.2 fun y hy => by have := hold' y hy; simp; omega
                have hie : (⟨left'⟩ : Array MapEntry).isEmpty = false := by
                  cases left' with
                  | nil => exact absurd rfl hne
                  | cons y l => rfl
                simp only [hfil, Sem.run_pure, Result.andThen_ok, hfo, hfn, hie, Bool.false_eq_true, if_false, Array.append_empty, Array.empty_append]
                have hsz : ((⟨left'⟩ : Array MapEntry).map some).size = left'.length := by simp
                rw [Sem.run_bind, hsz, hch]
                have hgi : ((⟨left'⟩ : Array MapEntry).map some)[i]? = some (some x0) := by simp [hx0]
                simp only [Result.andThen_ok, hgi, Sem.run_bind, run_setObj_miter _ h1', Sem.run_pure]
              · rw [get_setObj h1', k3]
                simp
    | _ => simp [nextD] at e
  · simp at e

theorem findBorn_sound {n : Nat} : ∀ {es : List (AV × AV × Nat)} {es' : List MapEntry} {v : AV}, esrel μ es es' → findBorn n es = some v → ∃ x, es'.find? (fun e => e.born == n) = some x ∧ vrel μ v (.tuple #[x.key, x.val])
  | [], es', v, _, e => by have e' : (none : Option AV) = some v := e; simp at e'
  | a :: l, es', v, h, e => by
    simp only [esrel] at h
    obtain ⟨x, r, rfl, h1, h2, h3, h4⟩ := h
    have e' : (Bool.rec (findBorn n l) (some (.tup [a.1, a.2.1])) (Nat.beq a.2.2 n) : Option AV) = some v := e
    cases hb : Nat.beq a.2.2 n with
    | true =>
      rw [hb] at e'
      have e2 : some (AV.tup [a.1, a.2.1]) = some v := e'
      cases e2
      refine ⟨x, by rw [List.find?_cons, h3, nbeq_iff.1 hb]; simp, ?_⟩
      simp only [vrel]
      exact ⟨_, rfl, vrels_cons h1 (vrels_one h2)⟩
    | false =>
      rw [hb] at e'
      obtain ⟨y, g1, g2⟩ := findBorn_sound h4 e'
      refine ⟨y, ?_, g2⟩
      rw [List.find?_cons, h3]
      have : (a.2.2 == n) = false := by
        rw [beq_eq_false_iff_ne]
        intro hh
        rw [nbeq_iff.2 hh] at hb; simp at hb
      rw [this]; exact g1

theorem entry_sound (r : HR B w0 μ h w) {it v : AV} {iv : Value} (hx : vrel μ it iv) (e : entry? h it = some v) : OkQ P μ w (Instr.entry iv) v := by
  unfold entry? at e
  split at e
  · rename_i x
    obtain ⟨b, hb, e⟩ := ob_some e
    obtain ⟨l, hl, _, _, hr⟩ := r.blk _ b hb
    simp only [vrel] at hx
    obtain ⟨l', hl', rfl⟩ := hx
    rw [hl] at hl'; cases hl'
    cases b with
    | miter mm since seen st =>
     cases mm with
     | none => simp [entryD] at e
     | some m =>
      simp only [entryD] at e
      obtain ⟨n, hn, e1⟩ := ob_some e
      obtain ⟨b2, hb2, e2⟩ := ob_some e1
      obtain ⟨q, hq, e3⟩ := ob_some e2
      obtain ⟨hst, e4⟩ := ifb_some e3
      clear e e1 e2 e3
      obtain rfl := mapIn_some hq
      obtain ⟨hb0, k, hk, h1⟩ := hr
      obtain ⟨k', hk', _, _, es', g1, g2⟩ := r.blk _ _ hb2
      rw [hk] at hk'; cases hk'
      obtain ⟨y, f1, f2⟩ := findBorn_sound g2 e4
      refine .same r (v' := .tuple #[y.key, y.val]) ?_ f2
      have hbk : (⟨seen⟩ : Array Nat).back? = some n := by simp [hn]
      have hfd : (⟨es'⟩ : Array MapEntry).find? (fun e => e.born == n) = some y := by simpa using f1
      simp only [hb0, Nat.zero_add]
      simp only [Instr.entry, Sem.run_bind, run_getObj_miter h1, Result.andThen_ok, hbk, run_getObj_map g1, nbeq_iff.1 hst, bne_self_eq_false, Bool.false_eq_true, if_false, hfd, Sem.run_pure]
    | _ => simp [entryD] at e
  · simp at e

theorem typeAssert_sound (r : HR B w0 μ h w) {t a : TypeId} {x v : AV} {xv : Value} {ok : Bool} (hx : vrel μ x xv) (e : typeAssert? P x a ok = some v) :
    OkQ P μ w (Instr.typeAssert xv t a ok) v := by
  obtain ⟨d, hd, e1⟩ := ob_some e
  clear e
  obtain ⟨hni, e⟩ := ifb_some e1
  clear e1
  cases x with
  | iface u y =>
    simp only [vrel] at hx
    obtain ⟨yv, rfl, hy⟩ := hx
    simp only [assertD] at e
    by_cases hta : u = a
    · subst hta
      rw [Nat.beq_refl] at e
      cases e
      refine .same r (v' := if ok then .tuple #[yv, .bool true] else yv) ?_ ?_
      · cases d <;> first | (simp [isIface] at hni; done) | (cases ok <;> simp [Instr.typeAssert, run_underlying hd])
      · cases ok
        · simpa using hy
        · simp only [if_true, vrel]; exact ⟨_, rfl, vrels_cons hy (vrels_one (by simp [vrel]))⟩
    · rw [nbeq_false hta] at e
      obtain ⟨hok, e2⟩ := ifb_some e
      subst hok
      obtain ⟨z, hz, e3⟩ := ob_some e2
      cases e3
      obtain ⟨ii, zv, hii, hzv, hrel⟩ := zeroOf_some (μ := μ) hz
      refine .same r (v' := .tuple #[zv, .bool false]) ?_ (by simp only [vrel]; exact ⟨_, rfl, vrels_cons hrel (vrels_one (by simp [vrel]))⟩)
      cases d <;> first | (simp [isIface] at hni; done) | simp [Instr.typeAssert, run_underlying hd, hta, run_zeroValue hii hzv]
  | nili =>
    simp only [vrel] at hx
    subst hx
    simp only [assertD] at e
    obtain ⟨hok, e2⟩ := ifb_some e
    subst hok
    obtain ⟨z, hz, e3⟩ := ob_some e2
    cases e3
    obtain ⟨ii, zv, hii, hzv, hrel⟩ := zeroOf_some (μ := μ) hz
    refine .same r (v' := .tuple #[zv, .bool false]) ?_ (by simp only [vrel]; exact ⟨_, rfl, vrels_cons hrel (vrels_one (by simp [vrel]))⟩)
    cases d <;> first | (simp [isIface] at hni; done) | simp [Instr.typeAssert, run_underlying hd, run_zeroValue hii hzv]
  | _ => simp [assertD] at e
end Go.X
