/-
  The laws of profile: rows are compared.
-/
import Derived.Test.YtnenjcehicaobaaPFA
set_option linter.unusedVariables false
set_option linter.unusedSimpArgs false
set_option linter.unusedSectionVars false
set_option maxRecDepth 1000000
set_option maxHeartbeats 0
namespace Go.Proofs.Ytnenjcehicaobaa.pf
open Go.X Go.RowKit Go.Proofs
theorem callFact [T : Tab] {f : FuncId} {args : List AV} {res : AV} {h : H} (k : ∀ (B : Kp) (w0 : World) (μ : M) (w : World) (l : List Value), HR B w0 μ h w → vrels μ args l → Calls Try.prog f l.toArray w fun x w' => (∃ v, x = .returned v ∧ ∀ μ, vrel μ res v) ∧ Below w.heap.size w w') : CallOk Try.prog f args h (res, h) := by
  intro B w0 μ w args' r hv
  have := k B w0 μ w args'.toList r hv
  rw [Array.toArray_toList] at this
  refine this.mono ?_
  rintro e w' ⟨⟨v, rfl, hv⟩, hb⟩
  exact ⟨v, μ, rfl, Ext.refl _, hv μ, r.grow hb⟩
theorem rrBelow (T : Tab) {w w' : World} {μ : M} {h : H} (rr : @HR T (Kp.below w.heap.size) w μ h w') : Below w.heap.size w w' := rr.below.toBelow
/-- two rows alone -/
structure Cq where
  a : Row
  b : Row
abbrev ivC (q : Cq) : Nat → IntKind × Int
  | 0 => (.i64, q.a.2)
  | 1 => (.i64, q.b.2)
  | 2 => (.i64, cmpS q.a.1 q.b.1)
  | 3 => (.i64, cmpR q.a q.b)
  | _ => (.i64, 0)
noncomputable abbrev NmC (q : Cq) : Nms := ⟨ivC q, fun k => if k = 0 then q.a.1 else q.b.1, fun _ => .nilIface⟩
noncomputable abbrev TC (q : Cq) (l : List BRow) (h : ∀ r ∈ l, IbOk (ivC q) r) : Tab := { tabG (NmC q) (fun _ _ => none) (fun _ => 0) (fun _ _ _ h => nomatch h) (fun _ => (0, 0)) (fun _ => 0) (fun _ _ => none) (fun _ _ => none) (fun _ => ([], 0)) (fun _ => (0, [], 0)) with ib := l, ibok := h }
noncomputable abbrev KS : Hand := oneHand 39 [.ostr 0, .ostr 1] (.oi 2)
theorem KS_ok {q : Cq} {l : List BRow} {h : ∀ r ∈ l, IbOk (ivC q) r} : @HandOk (TC q l h) Try.prog KS := by
  letI := TC q l h
  refine oneHand_ok fun h' => callFact fun B w0 μ w l r hv => ?_
  simp only [vrels, vrel] at hv
  obtain ⟨v, _, rfl, rfl, u, _, rfl, rfl, rfl⟩ := hv
  refine (cmpString q.a.1 q.b.1 w).mono ?_
  rintro x w' ⟨rfl, rfl⟩
  exact ⟨⟨_, rfl, fun μ => by simp only [vrel]; rfl⟩, Below.refl _ _⟩
theorem cmpN_gt {x y : Int} (h : y < x) : cmpN x y = 1 := by unfold cmpN; rw [if_neg (by omega), if_pos h]
theorem cmpN_lt {x y : Int} (h : x < y) : cmpN x y = -1 := by unfold cmpN; rw [if_pos h]
theorem cmpN_eq (x : Int) : cmpN x x = 0 := by unfold cmpN; rw [if_neg (by omega), if_neg (by omega)]
noncomputable abbrev cArgs : List AV := [.agg [.ostr 0, .oi 0], .agg [.ostr 1, .oi 1]]
section
variable {q : Cq}
abbrev rwA (t u : Bool) : List BRow := [(10, .oi 1, .oi 1, .bool false), (10, .oi 0, .oi 0, .bool false), (11, .oi 1, .oi 0, .bool t), (13, .oi 1, .oi 0, .bool u)]
theorem rwA_ok {t u : Bool} (h1 : decide (q.b.2 < q.a.2) = t) (h2 : decide (q.b.2 > q.a.2) = u) {l : List BRow} (k : ∀ r ∈ l, IbOk (ivC q) r) : ∀ r ∈ rwA t u ++ l, IbOk (ivC q) r :=
  rNe (a := q.b.2) (b := q.b.2) (rNe (a := q.a.2) (b := q.a.2) (rLt (rGt k rfl rfl h2) rfl rfl h1) rfl rfl (by simp)) rfl rfl (by simp)
abbrev rwE (t : Bool) : List BRow := rwA false false ++ [(10, .oi 2, .int .i64 0, .bool t)]
theorem rwE_ok {t : Bool} (h1 : q.b.2 = q.a.2) (h2 : decide (cmpS q.a.1 q.b.1 = 0) = !t) : ∀ r ∈ rwE t, IbOk (ivC q) r :=
  rwA_ok (decide_eq_false (by omega)) (decide_eq_false (by omega)) (rNe ibNil rfl rfl h2)
theorem ofIn {T : Tab} {K : Hand} {v : AV} (hK : @HandOk T Try.prog K) (h : @inRun Try.prog T K 500 ⟨34, cArgs, 0, [], v, 3, []⟩ = true) : ∃ p, @CallOk T Try.prog 34 cArgs H.empty (v, p) := by
  have o := @InOk.of_run Try.prog T K mixed hK 500 ⟨34, cArgs, 0, [], v, 3, []⟩ (by kernel_rfl) h
  obtain ⟨h', k1, _, _⟩ := @InOk.run Try.prog _ T o
  exact ⟨h', k1⟩
theorem cGt (u : Bool) (h1 : decide (q.b.2 < q.a.2) = true) (h2 : decide (q.b.2 > q.a.2) = u) : ∃ p, @CallOk (TC q (rwA true u ++ []) (rwA_ok h1 h2 ibNil)) Try.prog 34 cArgs H.empty (.int .i64 (-1), p) := ofIn KS_ok (by cases u <;> as_aux_lemma => kernel_rfl)
theorem cLt (h1 : decide (q.b.2 < q.a.2) = false) (h2 : decide (q.b.2 > q.a.2) = true) : ∃ p, @CallOk (TC q (rwA false true ++ []) (rwA_ok h1 h2 ibNil)) Try.prog 34 cArgs H.empty (.int .i64 1, p) := ofIn KS_ok (by as_aux_lemma => kernel_rfl)
theorem cEn (h1 : q.b.2 = q.a.2) (h2 : decide (cmpS q.a.1 q.b.1 = 0) = !true) : ∃ p, @CallOk (TC q (rwE true) (rwE_ok h1 h2)) Try.prog 34 cArgs H.empty (.oi 2, p) := ofIn KS_ok (by as_aux_lemma => kernel_rfl)
theorem cEz (h1 : q.b.2 = q.a.2) (h2 : decide (cmpS q.a.1 q.b.1 = 0) = !false) : ∃ p, @CallOk (TC q (rwE false) (rwE_ok h1 h2)) Try.prog 34 cArgs H.empty (.int .i64 0, p) := ofIn KS_ok (by as_aux_lemma => kernel_rfl)
theorem intOf {l : List BRow} {h : ∀ r ∈ l, IbOk (ivC q) r} {v : AV} {n : Int} {w : World} (k : ∃ p, @CallOk (TC q l h) Try.prog 34 cArgs H.empty (v, p)) (hn : denI (ivC q) v = some (.i64, n)) :
    Calls Try.prog 34 #[.agg ⟨[.string q.a.1, .int .i64 q.a.2]⟩, .agg ⟨[.string q.b.1, .int .i64 q.b.2]⟩] w fun x w' => x = .returned (.int .i64 n) ∧ Below w.heap.size w w' := by
  obtain ⟨p, k⟩ := k
  letI := TC q l h
  have hr : ∀ (i j : Nat) (r : Row), @Tab.str (TC q l h) i = r.1 → @Tab.iv (TC q l h) j = (.i64, r.2) → @vrel (TC q l h) (fun _ => none) (.agg [.ostr i, .oi j]) (.agg ⟨[.string r.1, .int .i64 r.2]⟩) := by
    intro i j r e1 e2
    simp only [vrel, vrels]
    exact ⟨_, rfl, _, _, rfl, by rw [e1], _, _, rfl, by rw [e2], rfl⟩
  refine (@CallOk.closed (TC q l h) Try.prog 34 _ #[.agg ⟨[.string q.a.1, .int .i64 q.a.2]⟩, .agg ⟨[.string q.b.1, .int .i64 q.b.2]⟩] _ k ⟨_, _, rfl, hr 0 0 q.a rfl rfl, _, _, rfl, hr 1 1 q.b rfl rfl, rfl⟩ w ⟨fun g o a hg => (nomatch hg), fun i m a hg => (nomatch hg)⟩).mono ?_
  rintro x w' ⟨v', μ', rfl, hr, rr⟩
  have h2 := @den_mk (TC q l h) μ' v .i64 n hn
  have : v' = .int .i64 n := by
    cases v with
    | int k m => simp only [vrel] at hr h2; rw [hr, ← h2]
    | oi i => simp only [vrel] at hr h2; rw [hr, ← h2]
    | _ => simp [denI] at hn
  exact ⟨by rw [this], rrBelow _ rr⟩
/-- two rows are compared -/
theorem cmp_is (a b : Row) (w : World) : Calls Try.prog 34 #[.agg ⟨[.string a.1, .int .i64 a.2]⟩, .agg ⟨[.string b.1, .int .i64 b.2]⟩] w fun x w' => x = .returned (.int .i64 (cmpR a b)) ∧ Below w.heap.size w w' := by
  by_cases h1 : b.2 < a.2
  · have e : cmpR a b = -1 := by unfold cmpR; rw [cmpN_lt h1, if_neg (by decide)]
    rw [e]
    exact intOf (q := ⟨a, b⟩) (cGt _ (decide_eq_true h1) rfl) rfl
  by_cases h2 : a.2 < b.2
  · have e : cmpR a b = 1 := by unfold cmpR; rw [cmpN_gt h2, if_neg (by decide)]
    rw [e]
    exact intOf (q := ⟨a, b⟩) (cLt (decide_eq_false h1) (decide_eq_true h2)) rfl
  have h3 : b.2 = a.2 := by omega
  have e : cmpR a b = cmpS a.1 b.1 := by unfold cmpR; rw [h3, cmpN_eq, if_pos rfl]
  rw [e]
  by_cases h4 : cmpS a.1 b.1 = 0
  · rw [h4]
    exact intOf (q := ⟨a, b⟩) (cEz h3 (decide_eq_true h4)) rfl
  · exact intOf (q := ⟨a, b⟩) (cEn h3 (decide_eq_false h4)) rfl
end
/-- such a call as a hand: texts i, i'; counts j, j'; what it gives -/
noncomputable abbrev cmpH (i j i' j' r : Nat) : Hand := oneHand 34 [.agg [.ostr i, .oi j], .agg [.ostr i', .oi j']] (.oi r)
theorem cmpH_ok {T : Tab} {a b : Row} {i j i' j' r : Nat} (h1 : T.str i = a.1) (h2 : T.iv j = (.i64, a.2)) (h3 : T.str i' = b.1) (h4 : T.iv j' = (.i64, b.2)) (h5 : T.iv r = (.i64, cmpR a b)) : @HandOk T Try.prog (cmpH i j i' j' r) := by
  letI := T
  refine oneHand_ok fun h' => callFact fun B w0 μ w l r hv => ?_
  simp only [vrels, vrel] at hv
  obtain ⟨v, _, rfl, ⟨c1, rfl, x1, _, rfl, rfl, x2, _, rfl, rfl, rfl⟩, u, _, rfl, ⟨c2, rfl, x3, _, rfl, rfl, x4, _, rfl, rfl, rfl⟩, rfl⟩ := hv
  rw [h1, h2, h3, h4]
  refine (cmp_is a b w).mono ?_
  rintro x w' ⟨rfl, hb⟩
  exact ⟨⟨_, rfl, fun μ => by simp only [vrel]; rw [h5]⟩, hb⟩
end Go.Proofs.Ytnenjcehicaobaa.pf
