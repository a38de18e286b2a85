/-
  The law StringsAll: elements as values; what calls over them give; such calls as hands.
-/
import Derived.Test.YtifdjfcakkdgeaaGreatDoorSAG
set_option linter.unusedVariables false
set_option linter.unusedSimpArgs false
set_option linter.unusedSectionVars false
set_option maxRecDepth 1000000
set_option maxHeartbeats 0
namespace Go.Proofs.YtifdjfcakkdgeaaGreatDoor.sa
open Go.X Go.RowKit Go.Proofs
structure ElOk (e : El) : Prop where
  a40 : e.la ≤ 40
  hA : ∀ m, 0 ≤ e.A m ∧ e.A m < 65536
  k0 : e.ek = 0 → 0 < e.la ∧ e.v = .slice (some ⟨e.ba, e.oa, none⟩) e.la e.ca ∧ e.la ≤ e.ca
  k1 : e.ek = 1 → e.la = 40 ∧ 40 < e.fa ∧ e.fa < 9223372036854775808 ∧ e.v = .slice (some ⟨e.ba, e.oa, none⟩) e.fa e.ca ∧ e.fa ≤ e.ca
  k2 : e.ek = 2 → e.la = 0 ∧ e.v = .slice none 0 0
  k3 : 3 ≤ e.ek → e.la = 0 ∧ ∃ b c, e.v = .slice (some b) 0 c
/-- its chars in the world -/
def Cl (w : World) (e : El) : Prop := ∀ m, m < e.la → w.cell? ⟨e.ba, e.oa + m, none⟩ = some (.int .u16 (e.A m))
theorem ElOk.cv {e : El} (o : ElOk e) : (0 < e.la ∧ e.cv = .slice (some ⟨e.ba, e.oa, none⟩) e.la e.ca ∧ e.la ≤ e.ca) ∨ (e.la = 0 ∧ e.cv = .slice none 0 0) ∨ (e.la = 0 ∧ ∃ b c, e.cv = .slice (some b) 0 c) := by
  obtain ⟨k, hk⟩ : ∃ k, e.ek = k := ⟨_, rfl⟩
  match k, hk with
  | 0, hk =>
    obtain ⟨h1, h2, h3⟩ := o.k0 hk
    exact .inl ⟨h1, by unfold El.cv; rw [if_neg (by omega)]; exact h2, h3⟩
  | 1, hk =>
    obtain ⟨h1, h2, h3, h4, h5⟩ := o.k1 hk
    exact .inl ⟨by omega, by unfold El.cv; rw [if_pos hk], by omega⟩
  | 2, hk =>
    obtain ⟨h1, h2⟩ := o.k2 hk
    exact .inr (.inl ⟨h1, by unfold El.cv; rw [if_neg (by omega)]; exact h2⟩)
  | k + 3, hk =>
    obtain ⟨h1, h2⟩ := o.k3 (by omega)
    exact .inr (.inr ⟨h1, by unfold El.cv; rw [if_neg (by omega)]; exact h2⟩)
theorem cell_lt {w : World} {b f : Nat} {v : Value} (h : w.cell? ⟨b, f, none⟩ = some v) : b < w.heap.size := by
  unfold World.cell? at h
  cases e : w.heap[b]? with
  | none => simp only [e] at h; cases h
  | some x => exact (Array.getElem?_eq_some_iff.1 e).1
theorem foRel {T : Tab} {μ : M} {i j n b o c : Nat} (h1 : T.iv j = (.i64, (n : Int))) (h2 : T.fb i = (b, o)) (h3 : T.fcap i = c) (hc : n ≤ c) : @vrel T μ (.fo i j 1) (.slice (some ⟨b, o, none⟩) n c) := by
  simp only [vrel]
  rw [h1, h2, h3]
  exact ⟨⟨rfl, Int.natCast_nonneg _⟩, by simpa using hc, by simp⟩
theorem rrBelow (T : Tab) {w w' : World} {μ : M} {h : H} (rr : @HR T (Kp.below w.heap.size) w μ h w') : Below w.heap.size w w' := rr.below.toBelow
/- a text's key -/
theorem encSl {w : World} {n b o c : Nat} {f : Nat → Int} (hn : n ≤ 60) (h0 : 0 < n) (hf : ∀ m, 0 ≤ f m ∧ f m < 65536) (hc : n ≤ c) (h : ∀ m, m < n → w.cell? ⟨b, o + m, none⟩ = some (.int .u16 (f m))) :
    Calls Tryz.prog 19 #[.slice (some ⟨b, o, none⟩) n c] w fun x w' => x = .returned (.string (key f n)) ∧ Below w.heap.size w w' := by
  obtain ⟨q, k⟩ := enc_ok (e := ⟨n, 0, f, b, o, c⟩) ⟨hn, fun m => (hf m).1, fun m => (hf m).2⟩ h0
  refine (@CallOk.closed (TE ((⟨n, 0, f, b, o, c⟩ : En).at 0)) Tryz.prog 19 _ #[.slice (some ⟨b, o, none⟩) n c] _ k ?_ w ?_).mono ?_
  · exact ⟨_, _, rfl, foRel rfl rfl rfl hc, rfl⟩
  · refine ⟨fun g o a hg => (nomatch hg), fun i m a hg => ?_⟩
    match i, hg with
    | 0, hg =>
      obtain ⟨hm, rfl⟩ := numV_some (show numV .u16 n f m = some a from hg)
      exact ⟨cell_lt (h m hm), _, h m hm, by simp only [vrel]⟩
    | (i + 1), hg => nomatch hg
  · rintro x w' ⟨v', μ', rfl, hr, rr⟩
    have hr' : @vrel (TE ((⟨n, 0, f, b, o, c⟩ : En).at 0)) μ' (.ostr 0) v' := hr
    simp only [vrel] at hr'
    exact ⟨by rw [hr']; rfl, rrBelow _ rr⟩
theorem glEmpty {w : World} {B : Kp} : @Gl Tab.empty B w := ⟨fun g o a hg => (nomatch hg), fun i m a hg => (nomatch hg)⟩
theorem encZ {w : World} {x : AV} {v : Value} (k : ∃ q, @CallOk Tab.empty Tryz.prog 19 [x] H.empty (.str 0 0, q)) (hx : @vrel Tab.empty (fun _ => none) x v) (f : Nat → Int) : Calls Tryz.prog 19 #[v] w fun x w' => x = .returned (.string (key f 0)) ∧ Below w.heap.size w w' := by
  obtain ⟨q, k⟩ := k
  refine (@CallOk.closed Tab.empty Tryz.prog 19 _ #[v] _ k ⟨_, _, rfl, hx, rfl⟩ w glEmpty).mono ?_
  rintro x w' ⟨v', μ', rfl, hr, rr⟩
  have hr' : (0 : Nat) < 256 ^ 0 ∧ v' = .string (strOf 0 0) := by simpa only [vrel] using hr
  exact ⟨by rw [hr'.2]; rfl, rrBelow _ rr⟩
theorem encEl {w : World} {e : El} (o : ElOk e) (hc : Cl w e) : Calls Tryz.prog 19 #[e.cv] w fun x w' => x = .returned (.string (keyE e)) ∧ Below w.heap.size w w' := by
  have h1 := o.a40
  rcases o.cv with ⟨h0, hv, hle⟩ | ⟨h0, hv⟩ | ⟨h0, b, c, hv⟩
  · rw [hv]; exact encSl (by omega) h0 o.hA hle hc
  · unfold keyE
    rw [hv, h0]
    exact encZ encN_ok (by simp only [vrel]) e.A
  · unfold keyE
    rw [hv, h0]
    exact encZ encE_ok (by simp only [vrel]; exact ⟨_, _, rfl⟩) e.A
/- two texts compared -/
def sameT (e e' : El) : Prop := e.la = e'.la ∧ ∀ k, k < e.la → e.A k = e'.A k
theorem cmpT {n1 n2 : Nat} {e1 e2 : Nat → Int} {t : Bool} (h : t = true ↔ n1 = n2 ∧ ∀ k, k < n1 → e1 k = e2 k) : (t = true ∧ n1 = n2 ∧ ∀ k, k < n1 → e1 k = e2 k) ∨ (t = false ∧ n1 ≠ n2) ∨ (t = false ∧ n1 = n2 ∧ ∃ d, d < n1 ∧ e1 d ≠ e2 d ∧ ∀ k, k < d → e1 k = e2 k) := by
  cases t with
  | true => exact .inl ⟨rfl, h.1 rfl⟩
  | false =>
    by_cases c : n1 = n2
    · refine .inr (.inr ⟨rfl, c, ?_⟩)
      have hn : ¬ ∀ k, k < n1 → e1 k = e2 k := fun g => Bool.noConfusion (h.2 ⟨c, g⟩)
      have : ∀ m, (∀ k, k < m → e1 k = e2 k) ∨ ∃ d, d < m ∧ e1 d ≠ e2 d ∧ ∀ k, k < d → e1 k = e2 k := by
        intro m
        induction m with
        | zero => exact .inl fun k hk => absurd hk (Nat.not_lt_zero k)
        | succ m ih =>
          rcases ih with a | ⟨d, d1, d2, d3⟩
          · by_cases g : e1 m = e2 m
            · refine .inl fun k hk => ?_
              by_cases hkm : k = m
              · rw [hkm]; exact g
              · exact a k (by omega)
            · exact .inr ⟨m, Nat.lt_succ_self m, g, a⟩
          · exact .inr ⟨d, by omega, d2, d3⟩
      rcases this n1 with a | a
      · exact absurd a hn
      · exact a
    · exact .inr (.inl ⟨rfl, c⟩)
theorem clGl {q : Cq} {T : Tab} {w : World} (h1 : T.fb = (fgQ q).fb) (h2 : T.fv = (fgQ q).fv) (h3 : T.gv = fun _ _ => none) (c1 : ∀ m, m < q.n1 → w.cell? ⟨q.b, q.o + m, none⟩ = some (.int .u16 (q.e1 m))) (c2 : ∀ m, m < q.n2 → w.cell? ⟨q.b', q.o' + m, none⟩ = some (.int .u16 (q.e2 m))) : @Gl T (Kp.below w.heap.size) w := by
  refine ⟨fun g o a hg => (by rw [h3] at hg; cases hg), fun i m a hg => ?_⟩
  rw [h2] at hg
  rw [h1]
  match i, hg with
  | 0, hg =>
    obtain ⟨hm, rfl⟩ := numV_some (show numV .u16 q.n1 q.e1 m = some a from hg)
    exact ⟨cell_lt (c1 m hm), _, c1 m hm, by simp only [vrel]⟩
  | 1, hg =>
    obtain ⟨hm, rfl⟩ := numV_some (show numV .u16 q.n2 q.e2 m = some a from hg)
    exact ⟨cell_lt (c2 m hm), _, c2 m hm, by simp only [vrel]⟩
  | (i + 2), hg => nomatch hg
theorem yesB {T : Tab} {x y : AV} {v u : Value} {t : Bool} {w : World} (k : ∃ q, @CallOk T Tryz.prog 9 [x, y] H.empty (.bool t, q)) (hx : @vrel T (fun _ => none) x v) (hy : @vrel T (fun _ => none) y u) (hg : @Gl T (Kp.below w.heap.size) w) : Calls Tryz.prog 9 #[v, u] w fun x w' => x = .returned (.bool t) ∧ Below w.heap.size w w' := by
  obtain ⟨q, k⟩ := k
  refine (@CallOk.closed T Tryz.prog 9 _ #[v, u] _ k ⟨_, _, rfl, hx, _, _, rfl, hy, rfl⟩ w hg).mono ?_
  rintro x w' ⟨v', μ', rfl, hr, rr⟩
  have hr' : v' = .bool t := by simpa only [vrel] using hr
  exact ⟨by rw [hr'], rrBelow _ rr⟩
noncomputable abbrev rwZ (x y : AV) : List BRow := [(10, x, y, .bool true)]
theorem noB {q : Cq} {x y : AV} {l : List BRow} {hl : ∀ r ∈ l, IbOk (ivQ q) r} (h : @inRun Tryz.prog (RQ q l hl [] allNil).T Hand.none 500 ⟨9, [x, y], 0, [], .bool false, 0, []⟩ = true) : ∃ p, @CallOk (RQ q l hl [] allNil).T Tryz.prog 9 [x, y] H.empty (.bool false, p) := by
  have o := @InOk.of_run Tryz.prog (RQ q l hl [] allNil).T Hand.none mixed hNo 500 ⟨9, [x, y], 0, [], .bool false, 0, []⟩ (by kernel_rfl) h
  obtain ⟨h', k1, _, _⟩ := @InOk.run Tryz.prog _ (RQ q l hl [] allNil).T o
  exact ⟨h', k1⟩
theorem sNN : ∃ q, @CallOk Tab.empty Tryz.prog 9 [.nils, .nils] H.empty (.bool true, q) := @CallOk.of_okTrue Tab.empty Tryz.prog Hand.none mixed hNo 500 _ _ (by as_aux_lemma => kernel_rfl)
theorem sNE : ∃ q, @CallOk Tab.empty Tryz.prog 9 [.nils, .es] H.empty (.bool true, q) := @CallOk.of_okTrue Tab.empty Tryz.prog Hand.none mixed hNo 500 _ _ (by as_aux_lemma => kernel_rfl)
theorem sEN : ∃ q, @CallOk Tab.empty Tryz.prog 9 [.es, .nils] H.empty (.bool true, q) := @CallOk.of_okTrue Tab.empty Tryz.prog Hand.none mixed hNo 500 _ _ (by as_aux_lemma => kernel_rfl)
theorem sEE : ∃ q, @CallOk Tab.empty Tryz.prog 9 [.es, .es] H.empty (.bool true, q) := @CallOk.of_okTrue Tab.empty Tryz.prog Hand.none mixed hNo 500 _ _ (by as_aux_lemma => kernel_rfl)
section
variable {q : Cq}
theorem zl (h : 0 < q.n1) : ∀ r ∈ rwZ (.oi 0) (.int .i64 0), IbOk (ivQ q) r := rNe ibNil
theorem zr (h : 0 < q.n2) : ∀ r ∈ rwZ (.int .i64 0) (.oi 1), IbOk (ivQ q) r := rNe ibNil
theorem sFN (h : 0 < q.n1) : ∃ p, @CallOk (RQ q _ (zl h) [] allNil).T Tryz.prog 9 [.fo 0 0 1, .nils] H.empty (.bool false, p) := noB (by as_aux_lemma => kernel_rfl)
theorem sFE (h : 0 < q.n1) : ∃ p, @CallOk (RQ q _ (zl h) [] allNil).T Tryz.prog 9 [.fo 0 0 1, .es] H.empty (.bool false, p) := noB (by as_aux_lemma => kernel_rfl)
theorem sNF (h : 0 < q.n2) : ∃ p, @CallOk (RQ q _ (zr h) [] allNil).T Tryz.prog 9 [.nils, .fo 1 1 1] H.empty (.bool false, p) := noB (by as_aux_lemma => kernel_rfl)
theorem sEF (h : 0 < q.n2) : ∃ p, @CallOk (RQ q _ (zr h) [] allNil).T Tryz.prog 9 [.es, .fo 1 1 1] H.empty (.bool false, p) := noB (by as_aux_lemma => kernel_rfl)
end
theorem sameEl {w : World} {e e' : El} {t : Bool} (o : ElOk e) (o' : ElOk e') (hc : Cl w e) (hc' : Cl w e') (h : t = true ↔ sameT e e') : Calls Tryz.prog 9 #[e.cv, e'.cv] w fun x w' => x = .returned (.bool t) ∧ Below w.heap.size w w' := by
  have a1 := o.a40; have a2 := o'.a40
  have g : ∀ {T : Tab}, T.fb = (fgQ ⟨e.la, e'.la, 0, e.A, e'.A, e.ba, e.oa, e.ca, e'.ba, e'.oa, e'.ca⟩).fb → T.fv = (fgQ ⟨e.la, e'.la, 0, e.A, e'.A, e.ba, e.oa, e.ca, e'.ba, e'.oa, e'.ca⟩).fv → T.gv = (fun _ _ => none) → @Gl T (Kp.below w.heap.size) w := fun h1 h2 h3 => clGl h1 h2 h3 hc hc'
  rcases o.cv with ⟨z, hv, hle⟩ | ⟨z, hv⟩ | ⟨z, b, c, hv⟩ <;> rcases o'.cv with ⟨z', hv', hle'⟩ | ⟨z', hv'⟩ | ⟨z', b', c', hv'⟩ <;> rw [hv, hv']
  · exact yesB (q9.call (q := ⟨e.la, e'.la, 0, e.A, e'.A, e.ba, e.oa, e.ca, e'.ba, e'.oa, e'.ca⟩) (by show e.la < 1000000; omega) (cmpT h)) (foRel rfl rfl rfl hle) (foRel rfl rfl rfl hle') (g rfl rfl rfl)
  · have ht : t = false := by cases t with | false => rfl | true => have := (h.1 rfl).1; omega
    subst ht
    exact yesB (sFN (q := ⟨e.la, e'.la, 0, e.A, e'.A, e.ba, e.oa, e.ca, e'.ba, e'.oa, e'.ca⟩) z) (foRel rfl rfl rfl hle) (by simp only [vrel]) (g rfl rfl rfl)
  · have ht : t = false := by cases t with | false => rfl | true => have := (h.1 rfl).1; omega
    subst ht
    exact yesB (sFE (q := ⟨e.la, e'.la, 0, e.A, e'.A, e.ba, e.oa, e.ca, e'.ba, e'.oa, e'.ca⟩) z) (foRel rfl rfl rfl hle) (by simp only [vrel]; exact ⟨_, _, rfl⟩) (g rfl rfl rfl)
  · have ht : t = false := by cases t with | false => rfl | true => have := (h.1 rfl).1; omega
    subst ht
    exact yesB (sNF (q := ⟨e.la, e'.la, 0, e.A, e'.A, e.ba, e.oa, e.ca, e'.ba, e'.oa, e'.ca⟩) z') (by simp only [vrel]) (foRel rfl rfl rfl hle') (g rfl rfl rfl)
  · have ht : t = true := h.2 ⟨by omega, fun k hk => by omega⟩
    subst ht
    exact yesB sNN (by simp only [vrel]) (by simp only [vrel]) glEmpty
  · have ht : t = true := h.2 ⟨by omega, fun k hk => by omega⟩
    subst ht
    exact yesB sNE (by simp only [vrel]) (by simp only [vrel]; exact ⟨_, _, rfl⟩) glEmpty
  · have ht : t = false := by cases t with | false => rfl | true => have := (h.1 rfl).1; omega
    subst ht
    exact yesB (sEF (q := ⟨e.la, e'.la, 0, e.A, e'.A, e.ba, e.oa, e.ca, e'.ba, e'.oa, e'.ca⟩) z') (by simp only [vrel]; exact ⟨_, _, rfl⟩) (foRel rfl rfl rfl hle') (g rfl rfl rfl)
  · have ht : t = true := h.2 ⟨by omega, fun k hk => by omega⟩
    subst ht
    exact yesB sEN (by simp only [vrel]; exact ⟨_, _, rfl⟩) (by simp only [vrel]) glEmpty
  · have ht : t = true := h.2 ⟨by omega, fun k hk => by omega⟩
    subst ht
    exact yesB sEE (by simp only [vrel]; exact ⟨_, _, rfl⟩) (by simp only [vrel]; exact ⟨_, _, rfl⟩) glEmpty
end Go.Proofs.YtifdjfcakkdgeaaGreatDoor.sa
