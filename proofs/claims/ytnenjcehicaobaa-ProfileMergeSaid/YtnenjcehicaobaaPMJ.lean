/-
  The law ProfileMerge: whatever comes in.
-/
import Derived.Test.YtnenjcehicaobaaPMI
import Derived.SliceStrings
import Derived.ChangeSlices
import Derived.WideShapes
import Derived.Deep.Slices
set_option linter.unusedVariables false
set_option linter.unusedSimpArgs false
set_option linter.unusedSectionVars false
set_option maxRecDepth 1000000
set_option maxHeartbeats 0
namespace Go.Proofs.Ytnenjcehicaobaa.pf
open Go.X Go.RowKit Go.Proofs
theorem cell_at {w : World} {a : Addr} {v : Value} (h : w.cell? a = some v) : a.block < w.heap.size ∧ a.spot = none := by
  unfold World.cell? at h
  split at h
  · rename_i e
    refine ⟨(Array.getElem?_eq_some_iff.1 e).1, ?_⟩
    cases hs : a.spot with
    | none => rfl
    | some x => rw [hs] at h; simp at h
  all_goals cases h
abbrev ivZ (n : Int) : Nat → IntKind × Int
  | 40 => (.i64, n)
  | _ => (.i64, 0)
noncomputable abbrev TZ (n : Int) (u : Value) (t : Bool) (h : decide (0 < n) = t) : Tab := { tabG ⟨ivZ n, fun _ => .empty, fun _ => u⟩ (fun _ _ => none) (fun _ => 0) (fun _ _ _ h => nomatch h) (fun _ => (0, 0)) (fun _ => 0) (fun _ _ => none) (fun _ _ => none) (fun _ => ([], 0)) (fun _ => (0, [], 0)) with
  ib := [(11, .int .i64 0, .oi 40, .bool t), (13, .oi 40, .int .i64 0, .bool t)]
  ibok := rLt (a := 0) (b := n) (rGt (a := n) (b := 0) ibNil (by exact rfl) (by exact rfl) h) (by exact rfl) (by exact rfl) h }
theorem foRel {T : Tab} {μ : M} {i j n b o c : Nat} (h1 : T.iv j = (.i64, (n : Int))) (h2 : T.fb i = (b, o)) (h3 : T.fcap i = c) (hc : n ≤ c) : @vrel T μ (.fo i j 1) (.slice (some ⟨b, o, none⟩) n c) := by
  simp only [vrel]
  rw [h1, h2, h3]
  exact ⟨⟨rfl, Int.natCast_nonneg _⟩, by simpa using hc, by simp⟩
abbrev EndM (w : World) (v : Value) (n : Int) : Prop := Calls Try.prog 4 #[v, .int .i64 n] w fun e w' => e = .returned (.bool true) ∧ Below w.heap.size w w'
theorem yesM {T : Tab} {x : AV} {v : Value} {n : Int} {w : World} (k : ∃ p, @CallOk T Try.prog 4 [x, .oi 40] H.empty (.bool true, p)) (hx : @vrel T (fun _ => none) x v) (hn : T.iv 40 = (.i64, n)) (hg : @Gl T (Kp.below w.heap.size) w) : EndM w v n := by
  obtain ⟨p, k⟩ := k
  refine (@CallOk.closed T Try.prog 4 _ #[v, .int .i64 n] _ k ⟨_, _, rfl, hx, _, _, rfl, by simp only [vrel]; rw [hn], rfl⟩ w hg).mono ?_
  rintro e w' ⟨v', μ', rfl, hr, rr⟩
  have hr' : v' = .bool true := by simpa only [vrel] using hr
  exact ⟨by rw [hr'], rrBelow _ rr⟩
theorem zM1 (n : Int) (t : Bool) (h : decide (0 < n) = t) : ∃ q, @CallOk (TZ n .nilIface t h) Try.prog 4 [.nils, .oi 40] H.empty (.bool true, q) := @CallOk.of_okTrue (TZ n .nilIface t h) Try.prog begunH mixed begunH_ok 3000 _ _ (by cases t <;> as_aux_lemma => kernel_rfl)
theorem zM2 (n : Int) (t : Bool) (h : decide (0 < n) = t) : ∃ q, @CallOk (TZ n .nilIface t h) Try.prog 4 [.es, .oi 40] H.empty (.bool true, q) := @CallOk.of_okTrue (TZ n .nilIface t h) Try.prog begunH mixed begunH_ok 3000 _ _ (by cases t <;> as_aux_lemma => kernel_rfl)
theorem noRows {w : World} {n : Int} {x : AV} {v : Value} (hx : x = .nils ∨ x = .es) (hv : ∀ T : Tab, @vrel T (fun _ => none) x v) : EndM w v n := by
  rcases hx with rfl | rfl
  · exact yesM (zM1 n _ rfl) (hv _) rfl ⟨fun g o a hg => (nomatch hg), fun i m a hg => (nomatch hg)⟩
  · exact yesM (zM2 n _ rfl) (hv _) rfl ⟨fun g o a hg => (nomatch hg), fun i m a hg => (nomatch hg)⟩
/-- a row as it comes in -/
structure RwT where
  ra : Nat × Nat
  rc : Nat
  rn : Nat
  e : Nat → Int
structure RwOk (w : World) (v : Value) (r : RwT) : Prop where
  one : oneV v = true
  sl : ∃ b c, v = .slice b r.rn c
  sl' : 0 < r.rn → v = .slice (some ⟨r.ra.1, r.ra.2, none⟩) r.rn r.rc ∧ r.rn ≤ r.rc
  c : ∀ m, m < r.rn → w.cell? ⟨r.ra.1, r.ra.2 + m, none⟩ = some (.int .i64 (r.e m))
theorem row_of {w : World} {v : Value} {H : Type} {enc : TypeId × Value → H} {base fuel : Nat} {spare : Nat → Bool} {held : Bool} {x : DataW H × List MemPlace} (h : DataW.trod enc Try.prog w base spare held fuel 23 [v] = some x) : ∃ r, RwOk w v r := by
  rcases ChangeShapes.open_ints Try.underlying23 Try.underlying2 (by kernel_rfl) h with ⟨k0, _⟩ | ⟨a, len, cap, zs, k0, _, hcap, hm, hz, _, hc, hw⟩
  · have k1 : v = .slice none 0 0 := by simpa using k0
    subst k1
    exact ⟨⟨(0, 0), 0, 0, fun _ => 0⟩, rfl, ⟨_, _, rfl⟩, fun c => absurd c (Nat.lt_irrefl 0), fun m hm => absurd hm (Nat.not_lt_zero m)⟩
  · have k1 : v = .slice (some a) len cap := by simpa using k0
    subst k1
    rcases Nat.eq_zero_or_pos len with e | e
    · subst e
      exact ⟨⟨(0, 0), 0, 0, fun _ => 0⟩, rfl, ⟨_, _, rfl⟩, fun c => absurd c (Nat.lt_irrefl 0), fun m hm => absurd hm (Nat.not_lt_zero m)⟩
    · have hA : len ≤ zs.length := by rw [hz]; split <;> omega
      have hs : a.spot = none := (cell_at (hc 0 (by omega))).2
      obtain ⟨b, o, sp⟩ := a
      simp only at hs
      subst hs
      exact ⟨⟨(b, o), cap, len, fun m => zs.getD m 0⟩, rfl, ⟨_, _, rfl⟩, fun _ => ⟨rfl, hcap⟩, fun m hm => by rw [← WideShapes.add_plain]; exact hc m (by have hm : m < len := hm; omega)⟩
theorem rowsOf {w : World} {n : Nat} {V : Nat → Value} (h : ∀ j, j < n → ∃ r, RwOk w (V j) r) : ∃ f : Nat → RwT, (∀ j, j < n → RwOk w (V j) (f j)) ∧ ∀ j, n ≤ j → (f j).rn = 0 := by
  refine ⟨fun j => if hj : j < n then Classical.choose (h j hj) else ⟨(0, 0), 0, 0, fun _ => 0⟩, fun j hj => ?_, fun j hj => ?_⟩
  · simp only [dif_pos hj]; exact Classical.choose_spec (h j hj)
  · simp only [dif_neg (show ¬ j < n by omega)]
theorem nodup_map {α β : Type} {f : α → β} : ∀ (l : List α), l.Nodup → (∀ a ∈ l, ∀ b ∈ l, f a = f b → a = b) → (l.map f).Nodup
  | [], _, _ => List.nodup_nil
  | a :: l, h, i => by
    rw [List.nodup_cons] at h
    rw [List.map_cons, List.nodup_cons]
    refine ⟨fun c => ?_, nodup_map l h.2 fun x hx y hy => i x (List.mem_cons_of_mem _ hx) y (List.mem_cons_of_mem _ hy)⟩
    obtain ⟨b, hb, e⟩ := List.mem_map.1 c
    have := i b (List.mem_cons_of_mem _ hb) a List.mem_cons_self e
    rw [this] at hb
    exact h.1 hb
theorem rows_in {w : World} {n : Int} {b o len cap : Nat} {V : Nat → Value} {f : Nat → RwT} (h0 : 0 < len) (hc : len ≤ cap) (hv : ∀ j, j < len → w.cell? ⟨b, o + j, none⟩ = some (V j)) (h1 : ∀ j, j < len → RwOk w (V j) (f j)) (h2 : ∀ j, len ≤ j → (f j).rn = 0) : EndM w (.slice (some ⟨b, o, none⟩) len cap) n := by
  obtain ⟨q, hq⟩ : ∃ q : Lm, q = ⟨len, (b, o), cap, V, fun j => (f j).ra, fun j => (f j).rc, fun j => (f j).rn, fun j => (f j).e, 0, 0, 0, ([], 0), ([], 0), ([], 0), ([], 0), gm 0 (fun _ => 0) (fun _ => (0, 0)) (fun _ => 0) (fun _ => []), 0, n, 0, fun _ => (.empty, 0)⟩ := ⟨_, rfl⟩
  have hI : Iq q ≤ 6 := by unfold Iq; omega
  have ex : ∀ i, ∃ l : List Row, i < Iq q → l.Perm ((List.range (Lq q i)).map fun j => ((K2 i j, q.e i j) : Row)) ∧ l.Pairwise Lt := by
    intro i
    by_cases hi : i < Iq q
    · have hL := Lq_le (q := q) (i := i)
      obtain ⟨l, l1, l2⟩ := sort_ex ((List.range (Lq q i)).map fun j => ((K2 i j, q.e i j) : Row)) (nodup_map _ List.nodup_range (fun x hx y hy e => by
        have hx := List.mem_range.1 hx
        have hy := List.mem_range.1 hy
        exact (K2_inj (by omega) (by omega) (by omega) (by omega) (Prod.ext_iff.1 e).1).2))
      exact ⟨l, fun _ => ⟨l1, l2⟩⟩
    · exact ⟨[], fun c => absurd c hi⟩
  obtain ⟨F, F1, F2⟩ := sort_ex ((List.range (tq q)).map fun t => ((kA q t, vA q t) : Row)) (nodup_map _ List.nodup_range (fun x hx y hy e => kA_inj (List.mem_range.1 hx) (List.mem_range.1 hy) (Prod.ext_iff.1 e).1))
  have g1 : q.n = len := by rw [hq]
  have g2 : q.a = (b, o) := by rw [hq]
  have g3 : q.c = cap := by rw [hq]
  have g4 : q.rk = V := by rw [hq]
  have g5 : q.ra = fun j => (f j).ra := by rw [hq]
  have g6 : q.rc = fun j => (f j).rc := by rw [hq]
  have g7 : q.rn = fun j => (f j).rn := by rw [hq]
  have g8 : q.e = fun j => (f j).e := by rw [hq]
  have g9 : q.K = n := by rw [hq]
  have hw : Fw q (fun i => Classical.choose (ex i)) F := {
    sf := fun i hi => (Classical.choose_spec (ex i) hi).2
    pm := fun i hi => (Classical.choose_spec (ex i) hi).1
    sl := fun i hi => by rw [g4, g7]; exact (h1 i (by omega)).sl
    sl' := fun i hi => by rw [g4, g5, g6, g7]; exact (h1 i (by omega)).sl'
    z := fun i hi => by rw [g7]; exact h2 i (by omega)
    n0 := by omega
    sfA := F2
    pmA := F1 }
  have cw : CW q (Kp.below w.heap.size) w := by
    refine ⟨fun m hm => ?_, fun x hx m hm => ?_⟩
    · rw [g1] at hm
      rw [g2, g4]
      exact ⟨(cell_at (hv m hm)).1, hv m hm, (h1 m hm).one⟩
    · rw [g1] at hx
      rw [g7] at hm
      rw [g5, g8]
      have := (h1 x hx).c m hm
      exact ⟨(cell_at this).1, this⟩
  refine yesM (T := M0 (at2 q (fun i => Classical.choose (ex i)) (fun _ => (0, 0)) (fun _ => 0) 0 0)) ⟨_, qAll hw⟩ (foRel (by show ((IntKind.i64, (q.n : Int)) : IntKind × Int) = _; rw [g1]) (by show fbM _ 0 = _; unfold fbM; rw [if_pos rfl]; exact g2) (by show fcM _ 0 = _; unfold fcM; rw [if_pos rfl]; exact g3) hc) (by show ((IntKind.i64, q.K) : IntKind × Int) = _; rw [g9]) (cw_gl hw.toFq.hi (CW.same (p := q) rfl rfl rfl rfl rfl rfl cw) (fun e he => ?_))
  have := (gm_len (M := 0) (L := Lq q) (ad := fun _ => (0, 0)) (cp := fun _ => 0) (Fs := fun i => Classical.choose (ex i)) (e := e)).1 he
  omega
end Go.Proofs.Ytnenjcehicaobaa.pf
