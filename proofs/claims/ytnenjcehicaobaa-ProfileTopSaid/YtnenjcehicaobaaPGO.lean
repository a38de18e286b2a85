/-
  The law ProfileTop: whatever comes in.
-/
import Derived.Test.YtnenjcehicaobaaPGN
import Derived.SliceStrings
import Derived.ChangeSlices
import Derived.WideShapes
set_option linter.unusedVariables false
set_option linter.unusedSimpArgs false
set_option linter.unusedSectionVars false
set_option maxRecDepth 1000000
set_option maxHeartbeats 0
namespace Go.Proofs.Ytnenjcehicaobaa.pf
open Go.X Go.RowKit Go.Proofs
abbrev Ends (w : World) (v u : Value) (n : Int) : Prop := Calls Try.prog 3 #[v, u, .int .i64 n] w fun e w' => e = .returned (.bool true) ∧ Below w.heap.size w w'
theorem cell_at {w : World} {a : Addr} {v : Value} (h : w.cell? a = some v) : a.block < w.heap.size ∧ a.spot = none := by
  unfold World.cell? at h
  split at h
  · rename_i e
    refine ⟨(Array.getElem?_eq_some_iff.1 e).1, ?_⟩
    cases hs : a.spot with
    | none => rfl
    | some x => rw [hs] at h; simp at h
  all_goals cases h
theorem yesL {T : Tab} {x y : AV} {v u : Value} {n : Int} {w : World} (k : ∃ p, @CallOk T Try.prog 3 [x, y, .oi 40] H.empty (.bool true, p)) (hx : @vrel T (fun _ => none) x v) (hy : @vrel T (fun _ => none) y u) (hn : T.iv 40 = (.i64, n)) (hg : @Gl T (Kp.below w.heap.size) w) : Ends w v u n := by
  obtain ⟨p, k⟩ := k
  refine (@CallOk.closed T Try.prog 3 _ #[v, u, .int .i64 n] _ k ⟨_, _, rfl, hx, _, _, rfl, hy, _, _, rfl, by simp only [vrel]; rw [hn], rfl⟩ w hg).mono ?_
  rintro e w' ⟨v', μ', rfl, hr, rr⟩
  have hr' : v' = .bool true := by simpa only [vrel] using hr
  exact ⟨by rw [hr'], rrBelow _ rr⟩
/- no names -/
abbrev ivZ (n : Int) : Nat → IntKind × Int
  | 40 => (.i64, n)
  | _ => (.i64, 0)
noncomputable abbrev TZ (n : Int) (u : Value) (t : Bool) (h : decide (0 < n) = t) : Tab := { tabG ⟨ivZ n, fun _ => .empty, fun _ => u⟩ (fun _ _ => none) (fun _ => 0) (fun _ _ _ h => nomatch h) (fun _ => (0, 0)) (fun _ => 0) (fun _ _ => none) (fun _ _ => none) (fun _ => ([], 0)) (fun _ => (0, [], 0)) with
  ib := [(11, .int .i64 0, .oi 40, .bool t), (13, .oi 40, .int .i64 0, .bool t)]
  ibok := rLt (a := 0) (b := n) (rGt (a := n) (b := 0) ibNil (by exact rfl) (by exact rfl) h) (by exact rfl) (by exact rfl) h }
theorem zN1 (n : Int) (u : Value) (t : Bool) (h : decide (0 < n) = t) : ∃ q, @CallOk (TZ n u t h) Try.prog 3 [.nils, .rw 0, .oi 40] H.empty (.bool true, q) := @CallOk.of_okTrue (TZ n u t h) Try.prog begunH mixed begunH_ok 3000 _ _ (by cases t <;> as_aux_lemma => kernel_rfl)
theorem zN2 (n : Int) (u : Value) (t : Bool) (h : decide (0 < n) = t) : ∃ q, @CallOk (TZ n u t h) Try.prog 3 [.es, .rw 0, .oi 40] H.empty (.bool true, q) := @CallOk.of_okTrue (TZ n u t h) Try.prog begunH mixed begunH_ok 3000 _ _ (by cases t <;> as_aux_lemma => kernel_rfl)
/- names, no counts -/
noncomputable abbrev RZC {p : Lw} (t : Bool) (h : decide (0 < p.K) = t) (h1 : 0 < p.n1) : Rl p where
  ib := [(11, .int .i64 0, .oi 0, .bool true), (11, .int .i64 0, .oi 40, .bool t), (13, .oi 40, .int .i64 0, .bool t)]
  ibok := rLt (a := 0) (b := (p.n1 : Int)) (rLt (a := 0) (b := p.K) (rGt (a := p.K) (b := 0) ibNil (by exact rfl) (by exact rfl) h) (by exact rfl) (by exact rfl) h)
theorem zC1 {p : Lw} (t : Bool) (h : decide (0 < p.K) = t) (h1 : 0 < p.n1) : ∃ q, @CallOk (RZC t h h1).T Try.prog 3 [.fo 0 0 1, .nils, .oi 40] H.empty (.bool true, q) := @CallOk.of_okTrue (RZC t h h1).T Try.prog begunH mixed begunH_ok 3000 _ _ (by cases t <;> as_aux_lemma => kernel_rfl)
theorem zC2 {p : Lw} (t : Bool) (h : decide (0 < p.K) = t) (h1 : 0 < p.n1) : ∃ q, @CallOk (RZC t h h1).T Try.prog 3 [.fo 0 0 1, .es, .oi 40] H.empty (.bool true, q) := @CallOk.of_okTrue (RZC t h h1).T Try.prog begunH mixed begunH_ok 3000 _ _ (by cases t <;> as_aux_lemma => kernel_rfl)
/- what lies in memory -/
theorem gLw {p : Lw} {w : World} (h1 : ∀ m, m < p.n1 → w.cell? ⟨p.a1.1, p.a1.2 + m, none⟩ = some (.string (p.e1 m))) (h2 : ∀ m, m < p.n2 → w.cell? ⟨p.a2.1, p.a2.2 + m, none⟩ = some (.int .i64 (p.e2 m))) : @Gl (L0 p) (Kp.below w.heap.size) w := by
  refine ⟨fun x o a hg => (nomatch hg), fun i m a hg => ?_⟩
  match i, hg with
  | 0, hg =>
    obtain ⟨hm, rfl⟩ := celV_some (show celV p.n1 (fun m => AV.ostr (102 + 4 * m)) m = some a from hg)
    refine ⟨(cell_at (h1 m hm)).1, _, h1 m hm, ?_⟩
    simp only [vrel]
    show _ = Value.string (strL p (102 + 4 * m))
    rw [strL_e]
  | 1, hg =>
    obtain ⟨hm, rfl⟩ := numV_some (show numV .i64 p.n2 p.e2 m = some a from hg)
    exact ⟨(cell_at (h2 m hm)).1, _, h2 m hm, by simp only [vrel]⟩
  | (i + 2), hg => cases hg
theorem foRel {T : Tab} {μ : M} {i j n b o c : Nat} (h1 : T.iv j = (.i64, (n : Int))) (h2 : T.fb i = (b, o)) (h3 : T.fcap i = c) (hc : n ≤ c) : @vrel T μ (.fo i j 1) (.slice (some ⟨b, o, none⟩) n c) := by
  simp only [vrel]
  rw [h1, h2, h3]
  exact ⟨⟨rfl, Int.natCast_nonneg _⟩, by simpa using hc, by simp⟩
/-- all is there -/
theorem full {w : World} {n : Int} {b o n1 c1 b' o' n2 c2 : Nat} {e1 : Nat → ByteArray} {e2 : Nat → Int} (hc1 : n1 ≤ c1) (hc2 : n2 ≤ c2) (h1 : ∀ m, m < n1 → w.cell? ⟨b, o + m, none⟩ = some (.string (e1 m))) (h2 : ∀ m, m < n2 → w.cell? ⟨b', o' + m, none⟩ = some (.int .i64 (e2 m))) :
    Ends w (.slice (some ⟨b, o, none⟩) n1 c1) (.slice (some ⟨b', o', none⟩) n2 c2) n := by
  obtain ⟨q0, hq0⟩ : ∃ q0 : Lw, q0 = ⟨n1, n2, (b, o), (b', o'), c1, c2, e1, e2, 0, ([], 0), ([], 0), fun _ => .empty, 0, n, 0, fun _ => (.empty, 0), 0, 0⟩ := ⟨_, rfl⟩
  obtain ⟨q1, hq1⟩ : ∃ q1 : Lw, q1 = { q0 with kt := fun m => (kL (fL q0) (nL' q0)).getD m .empty } := ⟨_, rfl⟩
  have hkt : Kt q1 := ⟨fun m => by rw [hq1]; rfl⟩
  have hnd : ((List.range (nK q1)).map (fun m => ((q1.kt m, vK' q1 m) : Row))).Nodup := by
    have inj := hkt.inj (Nat.le_refl (nL' q1))
    have hn : (List.range (nK q1)).Nodup := List.nodup_range
    have hlt : ∀ m ∈ List.range (nK q1), m < nK q1 := fun m hm => List.mem_range.1 hm
    generalize List.range (nK q1) = l at hn hlt
    induction l with
    | nil => exact List.nodup_nil
    | cons x l ih =>
      rw [List.nodup_cons] at hn
      rw [List.map_cons, List.nodup_cons]
      refine ⟨fun c => ?_, ih hn.2 fun m hm => hlt m (List.mem_cons_of_mem _ hm)⟩
      obtain ⟨y, hy, e⟩ := List.mem_map.1 c
      have e1 : q1.kt y = q1.kt x := (Prod.ext_iff.1 e).1
      have := inj y x (hlt y (List.mem_cons_of_mem _ hy)) (hlt x List.mem_cons_self) e1
      rw [this] at hy
      exact hn.1 hy
  obtain ⟨F, hp, hs⟩ := sort_ex _ hnd
  obtain ⟨q, hq⟩ : ∃ q : Lw, q = { q1 with R := fun i => F.getD i (.empty, 0), o := min n.toNat F.length } := ⟨_, rfl⟩
  have hf : Fr' q F := by
    subst hq
    refine ⟨⟨hkt.kt⟩, hs, hp, fun i hi => ?_, by rw [hq1, hq0]⟩
    show F[i]? = some (F.getD i (.empty, 0))
    rw [List.getD_eq_getElem?_getD, List.getElem?_eq_getElem hi]
    rfl
  have g1 : q.n1 = n1 := by rw [hq, hq1, hq0]
  have g2 : q.n2 = n2 := by rw [hq, hq1, hq0]
  have g3 : q.a1 = (b, o) := by rw [hq, hq1, hq0]
  have g4 : q.a2 = (b', o') := by rw [hq, hq1, hq0]
  have g5 : q.c1 = c1 := by rw [hq, hq1, hq0]
  have g6 : q.c2 = c2 := by rw [hq, hq1, hq0]
  have g7 : q.e1 = e1 := by rw [hq, hq1, hq0]
  have g8 : q.e2 = e2 := by rw [hq, hq1, hq0]
  have g9 : q.K = n := by rw [hq, hq1, hq0]
  refine yesL (T := L0 (atI q 0)) ⟨_, lAll hf⟩ (foRel (by show ((IntKind.i64, (q.n1 : Int)) : IntKind × Int) = _; rw [g1]) g3 g5 hc1) (foRel (by show ((IntKind.i64, (q.n2 : Int)) : IntKind × Int) = _; rw [g2]) g4 g6 hc2) (by show ((IntKind.i64, q.K) : IntKind × Int) = _; rw [g9]) (gLw (p := atI q 0) (fun m hm => ?_) (fun m hm => ?_))
  · show w.cell? ⟨q.a1.1, q.a1.2 + m, none⟩ = some (.string (q.e1 m))
    rw [g3, g7]
    exact h1 m (by have hm : m < q.n1 := hm; omega)
  · show w.cell? ⟨q.a2.1, q.a2.2 + m, none⟩ = some (.int .i64 (q.e2 m))
    rw [g4, g8]
    exact h2 m (by have hm : m < q.n2 := hm; omega)
theorem noCounts {w : World} {n : Int} {b o n1 c1 : Nat} {e1 : Nat → ByteArray} {y : AV} {u : Value} (hy : y = .nils ∨ y = .es) (hu : ∀ T : Tab, @vrel T (fun _ => none) y u) (h0 : 0 < n1) (hc1 : n1 ≤ c1) (h1 : ∀ m, m < n1 → w.cell? ⟨b, o + m, none⟩ = some (.string (e1 m))) :
    Ends w (.slice (some ⟨b, o, none⟩) n1 c1) u n := by
  obtain ⟨q, hq⟩ : ∃ q : Lw, q = ⟨n1, 0, (b, o), (b, o), c1, 0, e1, fun _ => 0, 0, ([], 0), ([], 0), fun _ => .empty, 0, n, 0, fun _ => (.empty, 0), 0, 0⟩ := ⟨_, rfl⟩
  subst hq
  have hg := gLw (p := ⟨n1, 0, (b, o), (b, o), c1, 0, e1, fun _ => 0, 0, ([], 0), ([], 0), fun _ => .empty, 0, n, 0, fun _ => (.empty, 0), 0, 0⟩) (w := w) h1 (fun m hm => absurd hm (Nat.not_lt_zero m))
  rcases hy with rfl | rfl
  · exact yesL (zC1 (p := ⟨n1, 0, (b, o), (b, o), c1, 0, e1, fun _ => 0, 0, ([], 0), ([], 0), fun _ => .empty, 0, n, 0, fun _ => (.empty, 0), 0, 0⟩) _ rfl h0) (foRel (by exact rfl) (by exact rfl) (by exact rfl) hc1) (hu _) (by exact rfl) (Gl.tab (Rl.same _).toSameV hg)
  · exact yesL (zC2 (p := ⟨n1, 0, (b, o), (b, o), c1, 0, e1, fun _ => 0, 0, ([], 0), ([], 0), fun _ => .empty, 0, n, 0, fun _ => (.empty, 0), 0, 0⟩) _ rfl h0) (foRel (by exact rfl) (by exact rfl) (by exact rfl) hc1) (hu _) (by exact rfl) (Gl.tab (Rl.same _).toSameV hg)
theorem noNames {w : World} {n : Int} {x : AV} {v u : Value} (hx : x = .nils ∨ x = .es) (hv : ∀ T : Tab, @vrel T (fun _ => none) x v) (hu : oneV u = true) : Ends w v u n := by
  rcases hx with rfl | rfl
  · exact yesL (zN1 n u _ rfl) (hv _) (vrw rfl hu) rfl ⟨fun g o a hg => (nomatch hg), fun i m a hg => (nomatch hg)⟩
  · exact yesL (zN2 n u _ rfl) (hv _) (vrw rfl hu) rfl ⟨fun g o a hg => (nomatch hg), fun i m a hg => (nomatch hg)⟩
section
variable {w : World} {H : Type} {enc : TypeId × Value → H} {base fuel fuel' : Nat} {spare spare' : Nat → Bool} {held held' : Bool}
theorem walkAny {v u : Value} {n : Int} {x y : DataW H × List MemPlace} (h0 : DataW.trod enc Try.prog w base spare held fuel 22 [v] = some x) (h1 : DataW.trod enc Try.prog w base spare' held' fuel' 23 [u] = some y) : Ends w v u n := by
  have hu : oneV u = true ∧ ((∀ T : Tab, @vrel T (fun _ => none) .nils u) ∨ (∀ T : Tab, @vrel T (fun _ => none) .es u) ∨ ∃ (b o n2 c2 : Nat) (e2 : Nat → Int), 0 < n2 ∧ n2 ≤ c2 ∧ u = .slice (some ⟨b, o, none⟩) n2 c2 ∧ ∀ m, m < n2 → w.cell? ⟨b, o + m, none⟩ = some (.int .i64 (e2 m))) := by
    rcases ChangeShapes.open_ints Try.underlying23 Try.underlying2 (by kernel_rfl) h1 with ⟨k0, _⟩ | ⟨a, len, cap, zs, k0, _, hcap, hm, hz, _, hc, hw⟩
    · have k1 : u = .slice none 0 0 := by simpa using k0
      subst k1
      exact ⟨rfl, .inl fun T => by simp only [vrel]⟩
    · have k1 : u = .slice (some a) len cap := by simpa using k0
      subst k1
      refine ⟨rfl, .inr ?_⟩
      rcases Nat.eq_zero_or_pos len with e | e
      · subst e
        exact .inl fun T => by simp only [vrel]; exact ⟨_, _, rfl⟩
      · have hA : len ≤ zs.length := by rw [hz]; split <;> omega
        have hs : a.spot = none := (cell_at (hc 0 (by omega))).2
        obtain ⟨b, o, sp⟩ := a
        simp only at hs
        subst hs
        exact .inr ⟨b, o, len, cap, fun m => zs.getD m 0, e, hcap, rfl, fun m hm => by rw [← WideShapes.add_plain]; exact hc m (by omega)⟩
  rcases ChangeShapes.open_strings Try.underlying22 Try.underlying9 (by kernel_rfl) h0 with ⟨k0, _⟩ | ⟨a, len, cap, ss, k0, _, hcap, hm, hz, _, hc, hw⟩
  · have k1 : v = .slice none 0 0 := by simpa using k0
    subst k1
    exact noNames (.inl rfl) (fun T => by simp only [vrel]) hu.1
  · have k1 : v = .slice (some a) len cap := by simpa using k0
    subst k1
    rcases Nat.eq_zero_or_pos len with e | e
    · subst e
      exact noNames (.inr rfl) (fun T => by simp only [vrel]; exact ⟨_, _, rfl⟩) hu.1
    · have hA : len ≤ ss.length := by rw [hz]; split <;> omega
      have hs : a.spot = none := (cell_at (hc 0 (by omega))).2
      obtain ⟨b, o, sp⟩ := a
      simp only at hs
      subst hs
      have cells : ∀ m, m < len → w.cell? ⟨b, o + m, none⟩ = some (.string (ss.getD m .empty)) := fun m hm => by rw [← WideShapes.add_plain]; exact hc m (by omega)
      rcases hu.2 with k | k | ⟨b', o', n2, c2, e2, h2, h3, rfl, h4⟩
      · exact noCounts (e1 := fun m => ss.getD m .empty) (.inl rfl) k e hcap cells
      · exact noCounts (e1 := fun m => ss.getD m .empty) (.inr rfl) k e hcap cells
      · exact full (e1 := fun m => ss.getD m .empty) hcap h3 cells h4
end
end Go.Proofs.Ytnenjcehicaobaa.pf
