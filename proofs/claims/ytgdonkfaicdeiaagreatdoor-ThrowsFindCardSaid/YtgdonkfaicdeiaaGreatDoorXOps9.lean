/-
  Each operation of the abstract machine stands for the model's: lengths, maps, ranges, assertions.
-/
import Derived.Test.YtgdonkfaicdeiaaGreatDoorXOps8
set_option linter.unusedVariables false
set_option linter.unusedSimpArgs false
set_option linter.unusedSectionVars false
namespace Go.X
open Go.RowKit

variable [Tab]
variable {P : Program} {B : Kp} {w0 : World} {μ : M} {h h' : H} {w w' : World}

theorem run_getObj_map {r : Nat} {es : Array MapEntry} {c : Nat} (hw : w.heap[r]? = some (.map es c)) : (getObj r).run P w = .ok (.map es c) w := by
  simp [getObj, Sem.run, hw]
theorem run_getObj_siter {r : Nat} {s : ByteArray} {c : Nat} (hw : w.heap[r]? = some (.stringIter s c)) : (getObj r).run P w = .ok (.stringIter s c) w := by
  simp [getObj, Sem.run, hw]
theorem run_getObj_miter {r : Nat} {m : Option Nat} {a : Nat} {s : Array Nat} {c : Nat} (hw : w.heap[r]? = some (.mapIter m a s c)) : (getObj r).run P w = .ok (.mapIter m a s c) w := by
  simp [getObj, Sem.run, hw]
theorem run_setObj_map {r : Nat} {es : Array MapEntry} {c : Nat} (o : Obj) (hw : w.heap[r]? = some (.map es c)) : (setObj r o).run P w = .ok () { w with heap := w.heap.setIfInBounds r o } := by
  simp [setObj, Sem.run, hw]
theorem run_setObj_siter {r : Nat} {s : ByteArray} {c : Nat} (o : Obj) (hw : w.heap[r]? = some (.stringIter s c)) : (setObj r o).run P w = .ok () { w with heap := w.heap.setIfInBounds r o } := by
  simp [setObj, Sem.run, hw]
theorem run_setObj_miter {r : Nat} {m : Option Nat} {a : Nat} {s : Array Nat} {c : Nat} (o : Obj) (hw : w.heap[r]? = some (.mapIter m a s c)) : (setObj r o).run P w = .ok () { w with heap := w.heap.setIfInBounds r o } := by
  simp [setObj, Sem.run, hw]
theorem upd_setObj (w : World) (r : Nat) (o : Obj) : Upd r w { w with heap := w.heap.setIfInBounds r o } :=
  ⟨rfl, rfl, rfl, by simp, fun k hk => by
    show (w.heap.setIfInBounds r o)[k]? = _
    rw [Array.getElem?_setIfInBounds, if_neg (fun e => hk e.symm)]⟩
theorem get_setObj {w : World} {r : Nat} {o o' : Obj} (hw : w.heap[r]? = some o') : ({ w with heap := w.heap.setIfInBounds r o } : World).heap[r]? = some o := by
  show (w.heap.setIfInBounds r o)[r]? = _
  have := (Array.getElem?_eq_some_iff.1 hw).1
  rw [Array.getElem?_setIfInBounds, if_pos rfl, if_pos this]

/- lengths -/
theorem esrel_length : ∀ {es : List (AV × AV × Nat)} {es' : List MapEntry}, esrel μ es es' → es'.length = es.length
  | [], es', e => by simp only [esrel] at e; subst e; rfl
  | a :: l, es', e => by
    simp only [esrel] at e
    obtain ⟨x, r, rfl, _, _, _, h5⟩ := e
    simp [esrel_length h5]

theorem clear_sound (r : HR B w0 μ h w) {t ty : TypeId} {ats : Array TypeId} {args : Array Value} {x : AV} {xv : Value} {p : AV × H} (hat : ats[0]? = some t) (har : args[0]? = some xv) (hx : vrel μ x xv) (e : clear? P h t x = some p) :
    OkV P B w0 μ w (Builtin.clear_ ats ty args) p.1 p.2 := by
  obtain ⟨d, hd, e⟩ := ob_some e
  have hu : vrel μ AV.undef (.tuple #[]) := by simp only [AV.undef, vrel]; exact ⟨[], rfl, by simp [vrels]⟩
  have key : ∀ (y o n c : Nat) (l : Loc) (h1 : H), μ y = some l → clearRow P h t y o n = some h1 → args[0]? = some (.slice (some ⟨l.block, l.base + o, none⟩) n c) → OkV P B w0 μ w (Builtin.clear_ ats ty args) .undef h1 := by
    intro y o n c l h1 hl ec har
    unfold clearRow at ec
    cases n with
    | zero =>
      have ec' : some h = some h1 := ec
      cases ec'
      exact .same r (v' := .tuple #[]) (by simp [Builtin.clear_, hat, har, run_underlying hd]) hu
    | succ k =>
      have hb : Nat.beq (k + 1) 0 = false := rfl
      rw [hb] at ec
      obtain ⟨el, hel, ec⟩ := ob_some ec
      obtain ⟨z, hz, ec⟩ := ob_some ec
      obtain ⟨hpos, ec⟩ := ifb_some ec
      have hst := sliceElem_some hel
      rw [hd] at hst
      cases hst
      obtain ⟨i, hi, hz⟩ := ob_some hz
      obtain ⟨zv, hzv, hz⟩ := ob_some hz
      have hzr : vrel μ z zv := ofValue_sound hz
      have hcs := zeroCells_sound hzr (blt_iff.1 hpos) (k + 1)
      obtain ⟨w', k1, k2⟩ := HR.stores (P := P) hl _ _ o 0 h h1 w r ec hcs
      refine ⟨.tuple #[], w', μ, ?_, Ext.refl _, hu, k2⟩
      simp [Builtin.clear_, hat, har, run_underlying hd, run_zeroValue hi hzv, k1]
  cases x with
  | nils =>
    cases e
    simp only [vrel] at hx; subst hx
    exact .same r (v' := .tuple #[]) (by simp [Builtin.clear_, hat, har, run_underlying hd]) hu
  | nilm =>
    cases e
    simp only [vrel] at hx; subst hx
    exact .same r (v' := .tuple #[]) (by simp [Builtin.clear_, hat, har, run_underlying hd]) hu
  | es =>
    cases e
    simp only [vrel] at hx; obtain ⟨b, c, rfl⟩ := hx
    exact .same r (v' := .tuple #[]) (by simp [Builtin.clear_, hat, har, run_underlying hd]) hu
  | sl y o n c =>
    obtain ⟨h1, hc, e⟩ := ob_some e
    cases e
    simp only [vrel] at hx; obtain ⟨l, hl, rfl⟩ := hx
    exact key y o n c l h1 hl hc har
  | so y o n c =>
    obtain ⟨h1, hc, e⟩ := ob_some e
    cases e
    simp only [vrel] at hx; obtain ⟨l, cc, hl, _, _, rfl⟩ := hx
    exact key y o n cc l h1 hl hc har
  | _ => simp at e

theorem len_sound (r : HR B w0 μ h w) {t ty : TypeId} {ats : Array TypeId} {args : Array Value} {x v : AV} {xv : Value} (hat : ats[0]? = some t) (har : args[0]? = some xv) (hx : vrel μ x xv) (e : len? P h t x = some v) :
    OkQ P μ w (Builtin.len_ ats ty args) v := by
  obtain ⟨d, hd, e⟩ := ob_some e
  unfold lenD at e
  split at e
  all_goals first | (simp at e; done) | skip
  case h_7 =>
    obtain ⟨b, hb, e⟩ := ob_some e
    obtain ⟨l, hl, _, _, hr⟩ := r.blk _ b hb
    cases b with
    | map es c =>
      simp only [mapLen] at e
      cases e
      simp only [vrel] at hx
      obtain ⟨l', hl', rfl⟩ := hx
      rw [hl] at hl'; cases hl'
      obtain ⟨es', h1, h2⟩ := hr
      refine .same r (v' := .int .i64 (es'.length : Int)) ?_ (by simp [vrel, esrel_length h2])
      simp [Builtin.len_, hat, har, run_underlying hd, run_getObj_map h1, goInt]
    | _ => simp [mapLen] at e
  all_goals
    cases e
  case h_2 => exact .same r (v' := .int .i64 _) (by simp [Builtin.len_, hat, har, run_underlying hd, goInt]; rfl) (by simp [vrel])
  case h_9 _ _ j _ =>
    simp only [vrel] at hx
    obtain ⟨hj0, l, c, _, _, _, rfl⟩ := hx
    refine .same r (v' := .int .i64 ((Tab.iv j).2.toNat : Int)) (by simp [Builtin.len_, hat, har, run_underlying hd, goInt]) ?_
    simp only [vrel]
    rw [hj0.1, Int.toNat_of_nonneg hj0.2]
  case h_10 _ _ j _ =>
    simp only [vrel] at hx
    obtain ⟨hj0, _, rfl⟩ := hx
    refine .same r (v' := .int .i64 ((Tab.iv j).2.toNat : Int)) (by simp [Builtin.len_, hat, har, run_underlying hd, goInt]) ?_
    simp only [vrel]
    rw [hj0.1, Int.toNat_of_nonneg hj0.2]
  all_goals simp only [vrel] at hx
  all_goals (try obtain ⟨_, _, rfl⟩ := hx)
  all_goals (try obtain ⟨_, _, _, _, _, rfl⟩ := hx)
  all_goals (try obtain ⟨_, rfl⟩ := hx)
  all_goals (try subst hx)
  all_goals exact .same r (v' := .int .i64 _) (by simp [Builtin.len_, hat, har, run_underlying hd, goInt, strOf_size]; try rfl) (by simp [vrel])

theorem cap_sound (r : HR B w0 μ h w) {t ty : TypeId} {ats : Array TypeId} {args : Array Value} {x v : AV} {xv : Value} (hat : ats[0]? = some t) (har : args[0]? = some xv) (hx : vrel μ x xv) (e : cap? P t x = some v) :
    OkQ P μ w (Builtin.cap_ ats ty args) v := by
  obtain ⟨d, hd, e⟩ := ob_some e
  unfold capD at e
  split at e
  all_goals first | (simp at e; done) | skip
  all_goals
    cases e
    simp only [vrel] at hx
  all_goals (try obtain ⟨_, _, rfl⟩ := hx)
  all_goals (try subst hx)
  all_goals exact .same r (v' := .int .i64 _) (by simp [Builtin.cap_, hat, har, run_underlying hd, goInt]; try rfl) (by simp [vrel])

theorem min_sound (r : HR B w0 μ h w) : ∀ {l : List AV} {vs : List Value} {a v : AV} {av : Value}, vrel μ a av → vrels μ l vs → fold2 min2? l a = some v → ∃ v', (vs.foldlM Builtin.min2 av).run P w = .ok v' w ∧ vrel μ v v'
  | [], vs, a, v, av, ha, hl, e => by
    simp only [vrels] at hl; subst hl
    simp only [fold2] at e; cases e
    exact ⟨av, by simp, ha⟩
  | x :: l, vs, a, v, av, ha, hl, e => by
    simp only [vrels] at hl
    obtain ⟨xv, r', rfl, hx, hl⟩ := hl
    obtain ⟨b, hb, e⟩ := ob_some e
    unfold min2? at hb
    split at hb
    · cases hb
      simp only [vrel] at ha hx
      subst ha hx
      obtain ⟨v', h1, h2⟩ := min_sound r (a := .int _ _) (av := .int _ _) (by simp only [vrel]; rfl) hl e
      exact ⟨v', by simp only [List.foldlM_cons, Builtin.min2, Sem.run_bind, Sem.run_pure, Result.andThen_ok]; exact h1, h2⟩
    · simp at hb

theorem max_sound (r : HR B w0 μ h w) : ∀ {l : List AV} {vs : List Value} {a v : AV} {av : Value}, vrel μ a av → vrels μ l vs → fold2 max2? l a = some v → ∃ v', (vs.foldlM Builtin.max2 av).run P w = .ok v' w ∧ vrel μ v v'
  | [], vs, a, v, av, ha, hl, e => by
    simp only [vrels] at hl; subst hl
    simp only [fold2] at e; cases e
    exact ⟨av, by simp, ha⟩
  | x :: l, vs, a, v, av, ha, hl, e => by
    simp only [vrels] at hl
    obtain ⟨xv, r', rfl, hx, hl⟩ := hl
    obtain ⟨b, hb, e⟩ := ob_some e
    unfold max2? at hb
    split at hb
    · cases hb
      simp only [vrel] at ha hx
      subst ha hx
      obtain ⟨v', h1, h2⟩ := max_sound r (a := .int _ _) (av := .int _ _) (by simp only [vrel]; rfl) hl e
      exact ⟨v', by simp only [List.foldlM_cons, Builtin.max2, Sem.run_bind, Sem.run_pure, Result.andThen_ok]; exact h1, h2⟩
    · simp at hb

/- maps -/
theorem plain_of {d : TypeDesc} {k : AV} {kv : Value} (hp : plainKey d k = true) (hk : vrel μ k kv) : (∃ q q' n, d = .int q ∧ k = .int q' n ∧ kv = .int q' n) ∨ (∃ n c, d = .string ∧ k = .str n c ∧ c < 256 ^ n ∧ kv = .string (strOf n c)) ∨ (∃ b, d = .bool ∧ k = .bool b ∧ kv = .bool b) := by
  unfold plainKey at hp
  split at hp
  · simp only [vrel] at hk; exact .inl ⟨_, _, _, rfl, rfl, hk⟩
  · simp only [vrel] at hk; exact .inr (.inl ⟨_, _, rfl, rfl, hk.1, hk.2⟩)
  · simp only [vrel] at hk; exact .inr (.inr ⟨_, rfl, rfl, hk⟩)
  · simp at hp

theorem checkKey_sound {emp : Bool} {t : TypeId} {d : TypeDesc} {k : AV} {kv : Value} (hd : P.underlying t = some d) (hp : plainKey d k = true) (hk : vrel μ k kv) (n : Nat) : (Instr.checkKey emp (n + 1) t kv).run P w = .ok () w := by
  rcases plain_of hp hk with ⟨q, q', m, rfl, rfl, rfl⟩ | ⟨m, c, rfl, rfl, _, rfl⟩ | ⟨b, rfl, rfl, rfl⟩ <;> simp [Instr.checkKey, run_underlying hd]

theorem ba_beq (a b : ByteArray) : (a == b) = true ↔ a = b := by
  cases a with
  | mk x =>
    cases b with
    | mk y =>
      show (x == y) = true ↔ _
      simp

theorem keyEq_sound {d : TypeDesc} {k k' : AV} {kv kv' : Value} {b : Bool} (e : keyEq d k k' = some b) (hk : vrel μ k kv) (hk' : vrel μ k' kv') : Instr.sameNow d kv kv' = some b ∧ (b = true → kv = kv') := by
  unfold keyEq at e
  split at e
  · obtain ⟨h1, e⟩ := ifb_some e
    cases e
    obtain rfl := kcode_inj h1
    simp only [vrel] at hk hk'
    subst hk hk'
    exact ⟨by simp [Instr.sameNow], fun hh => by simp at hh; rw [hh]⟩
  · cases e
    simp only [vrel] at hk hk'
    obtain ⟨hc, rfl⟩ := hk
    obtain ⟨hd, rfl⟩ := hk'
    rename_i n c m q
    have heq : (strOf n c == strOf m q) = strEq n c m q := by
      rw [Bool.eq_iff_iff, ba_beq, strEq_iff hc hd]
    exact ⟨by simp [Instr.sameNow, heq], fun hh => by rw [(strEq_iff hc hd).1 hh]⟩
  · cases e
    simp only [vrel] at hk hk'
    subst hk hk'
    exact ⟨by simp [Instr.sameNow], fun hh => by simp at hh; rw [hh]⟩
  · simp at e

theorem findKey_sound {d : TypeDesc} {k : AV} {kv : Value} (hk : vrel μ k kv) : ∀ {es : List (AV × AV × Nat)} {es' : List MapEntry} {i : Nat} {res : Option (Nat × AV × Nat)}, esrel μ es es' → findKey? d k es i = some res →
    match res with
    | none => Instr.findNow d kv es' i = some none
    | some (j, v, b) => ∃ e', Instr.findNow d kv es' i = some (some (j, e'.val)) ∧ vrel μ v e'.val ∧ i ≤ j ∧ es'[j - i]? = some e' ∧ e'.born = b ∧ e'.key = kv
  | [], es', i, res, he, e => by
    simp only [esrel] at he; subst he
    simp only [findKey?] at e; cases e
    simp [Instr.findNow]
  | a :: es, es', i, res, he, e => by
    simp only [esrel] at he
    obtain ⟨x, r, rfl, h1, h2, h3, h4⟩ := he
    simp only [findKey?] at e
    obtain ⟨b, hb, e⟩ := ob_some e
    obtain ⟨g1, g2⟩ := keyEq_sound hb hk h1
    cases b with
    | true =>
      cases e
      exact ⟨x, by simp [Instr.findNow, g1], h2, Nat.le_refl _, by simp, h3, (g2 rfl).symm⟩
    | false =>
      have ih := findKey_sound hk (i := i + 1) h4 e
      cases res with
      | none => simp only at ih ⊢; simp [Instr.findNow, g1, ih]
      | some q =>
        obtain ⟨j, v, bb⟩ := q
        simp only at ih ⊢
        obtain ⟨e', k1, k2, k3, k4, k5, k6⟩ := ih
        refine ⟨e', by simp [Instr.findNow, g1, k1], k2, by omega, ?_, k5, k6⟩
        rw [show j - i = (j - (i + 1)) + 1 by omega, List.getElem?_cons_succ]; exact k4

theorem asMap_some {d : TypeDesc} {ke : TypeId × TypeId} (e : asMap d = some ke) : d = .map ke.1 ke.2 := by
  cases d <;> simp [asMap] at e
  subst e; rfl
theorem mapIn_some {b : Blk} {p : List (AV × AV × Nat) × Nat} (e : mapIn b = some p) : b = .map p.1 p.2 := by
  cases b <;> simp [mapIn] at e
  subst e; rfl

theorem mapOf_sound (r : HR B w0 μ h w) {x : AV} {xv : Value} {es : List (AV × AV × Nat)} (hx : vrel μ x xv) (e : mapOf h x = some es) :
    ∃ es' : Array MapEntry, esrel μ es es'.toList ∧ (xv = .map none ∧ es' = #[] ∨ ∃ b c, xv = .map (some b) ∧ w.heap[b]? = some (.map es' c)) := by
  unfold mapOf at e
  split at e
  · cases e
    simp only [vrel] at hx
    exact ⟨#[], by simp [esrel], .inl ⟨hx, rfl⟩⟩
  · obtain ⟨b, hb, e⟩ := ob_some e
    obtain ⟨p, hp, e⟩ := ob_some e
    cases e
    obtain rfl := mapIn_some hp
    obtain ⟨l, hl, _, _, es', h1, h2⟩ := r.blk _ _ hb
    simp only [vrel] at hx
    obtain ⟨l', hl', rfl⟩ := hx
    rw [hl] at hl'; cases hl'
    exact ⟨⟨es'⟩, h2, .inr ⟨_, _, rfl, h1⟩⟩
  · simp at e

theorem lookup_sound (r : HR B w0 μ h w) {t : TypeId} {x i v : AV} {xv iv : Value} {ok : Bool} (hx : vrel μ x xv) (hi : vrel μ i iv) (e : lookup? P h t x i ok = some v) :
    OkQ P μ w (Instr.lookup t xv iv ok) v := by
  obtain ⟨d, hd, e⟩ := ob_some e
  obtain ⟨ke, hke, e⟩ := ob_some e
  obtain ⟨kd, hkd, e⟩ := ob_some e
  obtain ⟨hp, e⟩ := ifb_some e
  obtain ⟨es, hes, e⟩ := ob_some e
  obtain ⟨res, hres, e⟩ := ob_some e
  obtain ⟨q, hq, e⟩ := ob_some e
  cases e
  obtain rfl := asMap_some hke
  obtain ⟨es', g1, g2⟩ := mapOf_sound r hx hes
  have hf := findKey_sound hi g1 hres
  have hck : ∀ emp, (Instr.checkKey emp 10000 ke.1 iv).run P w = .ok () w := fun emp => checkKey_sound hkd hp hi 9999
  cases res with
  | none =>
    obtain ⟨z, hz, hq⟩ := ob_some hq
    cases hq
    obtain ⟨ii, zv, hii, hzv, hrel⟩ := zeroOf_some (μ := μ) hz
    simp only at hf
    refine .same r (v' := if ok then .tuple #[zv, .bool false] else zv) ?_ ?_
    · simp only [Instr.lookup, Sem.run_bind, run_underlying hd, Result.andThen_ok]
      rcases g2 with ⟨rfl, rfl⟩ | ⟨b, c, rfl, hb⟩
      · simp [hck, Instr.findKey, run_underlying hkd, hf, run_zeroValue hii hzv]
      · simp [run_getObj_map hb, hck, Instr.findKey, run_underlying hkd, hf, run_zeroValue hii hzv]
    · cases ok
      · simpa using hrel
      · simp only [if_true, vrel]; exact ⟨_, rfl, vrels_cons hrel (vrels_one (by simp [vrel]))⟩
  | some p =>
    obtain ⟨j, v, b⟩ := p
    cases hq
    simp only at hf
    obtain ⟨e', k1, k2, _⟩ := hf
    refine .same r (v' := if ok then .tuple #[e'.val, .bool true] else e'.val) ?_ ?_
    · simp only [Instr.lookup, Sem.run_bind, run_underlying hd, Result.andThen_ok]
      rcases g2 with ⟨rfl, rfl⟩ | ⟨b, c, rfl, hb⟩
      · simp [Instr.findNow] at k1
      · simp [run_getObj_map hb, hck, Instr.findKey, run_underlying hkd, k1]
    · cases ok
      · simpa using k2
      · simp only [if_true, vrel]; exact ⟨_, rfl, vrels_cons k2 (vrels_one (by simp [vrel]))⟩
end Go.X
