/-
  The law StringsAll: two slices of chars compared.
-/
import Derived.Test.YtifdjfcakkdgeaaGreatDoorSAF
set_option linter.unusedVariables false
set_option linter.unusedSimpArgs false
set_option linter.unusedSectionVars false
set_option maxRecDepth 1000000
set_option maxHeartbeats 0
namespace Go.Proofs.YtifdjfcakkdgeaaGreatDoor.sa
open Go.X Go.RowKit Go.Proofs
structure Cq where
  n1 : Nat
  n2 : Nat
  k : Nat
  e1 : Nat → Int
  e2 : Nat → Int
  b : Nat
  o : Nat
  c : Nat
  b' : Nat
  o' : Nat
  c' : Nat
def Cq.at (q : Cq) (k : Nat) : Cq := { q with k := k }
abbrev ivQ (q : Cq) : Nat → IntKind × Int
  | 0 => (.i64, (q.n1 : Int))
  | 1 => (.i64, (q.n2 : Int))
  | 2 => (.i64, (q.k : Int))
  | 3 => (.i64, ((q.k + 1 : Nat) : Int))
  | 4 => (.u16, q.e1 q.k)
  | 5 => (.u16, q.e2 q.k)
  | _ => (.i64, 0)
abbrev fgQ (q : Cq) : Fgn where
  fb := fun i => match i with | 0 => (q.b, q.o) | _ => (q.b', q.o')
  fcap := fun i => match i with | 0 => q.c | _ => q.c'
  fv := fun i => match i with | 0 => numV .u16 q.n1 q.e1 | 1 => numV .u16 q.n2 q.e2 | _ => fun _ => none
abbrev txQ (q : Cq) : Txts (ivQ q) where
  str := fun _ => default
abbrev RQ (q : Cq) (l : List BRow) (h : ∀ r ∈ l, IbOk (ivQ q) r) (fl : List VL) (hfl : ∀ r ∈ fl, FlOk (ivQ q) (fgQ q) r) : Rw (ivQ q) noV noK (fgQ q) (txQ q) where
  vvp := noVp
  ib := l
  ibok := h
  fl := fl
  flok := hfl
abbrev TQ (q : Cq) : Tab := (RQ q [] ibNil [] allNil).T
theorem glQ {q q' : Cq} {T T' : Tab} {B : Kp} {w0 : World} (h1 : T.fb = (fgQ q).fb := by exact rfl) (h2 : T.fv = (fgQ q).fv := by exact rfl) (h3 : T'.fb = (fgQ q).fb := by exact rfl) (h4 : T'.fv = (fgQ q).fv := by exact rfl) (h5 : T'.gv = fun _ _ => none := by exact rfl) : @Gl T B w0 → @Gl T' B w0 :=
  glF h5 (h1.trans h3.symm) (h2.trans h4.symm) fun i m a h => by
    rw [h4] at h
    match i, h with
    | 0, h => obtain ⟨_, e⟩ := numV_some h; exact ⟨_, _, e⟩
    | 1, h => obtain ⟨_, e⟩ := numV_some h; exact ⟨_, _, e⟩
    | (i + 2), h => cases h
noncomputable abbrev ipQ (k : AV) : IP := [(.fo 0 0 1, 0), (.fo 1 1 1, 1), (.oi 0, 0), (.oi 1, 1), (k, 2)]
noncomputable abbrev cvQ (k : AV) : Cv := ⟨0, 0, ofPairs [], ipQ k⟩
noncomputable abbrev fl45 : List VL := [⟨0, 2, 1, 0, [.oi 4]⟩, ⟨1, 2, 1, 0, [.oi 5]⟩]
theorem fl45_ok {q : Cq} (h : q.k < q.n1) (e : q.n1 = q.n2) : ∀ r ∈ fl45, FlOk (ivQ q) (fgQ q) r := fgN (n := q.n1) (e := q.e1) (fgN (n := q.n2) (e := q.e2) allNil)
noncomputable abbrev rw1 (t : Bool) : List BRow := [(11, .oi 2, .oi 0, .bool true), (11, .oi 2, .oi 1, .bool true), (14, .oi 2, .int .i64 0, .bool true), (10, .oi 4, .oi 5, .bool t), (0, .oi 2, .int .i64 1, .oi 3)]
theorem rw1_ok {q : Cq} {t : Bool} (h : q.k < q.n1) (e : q.n1 = q.n2) (hL : q.n1 < 1000000) (ht : decide (q.e1 q.k = q.e2 q.k) = !t) : ∀ r ∈ rw1 t, IbOk (ivQ q) r := rLt (rLt (rGe (rNe (h := ht) (rAdd ibNil))))
noncomputable abbrev rw2 : List BRow := [(11, .oi 2, .oi 0, .bool false)]
theorem rw2_ok {q : Cq} (h : ¬ q.k < q.n1) : ∀ r ∈ rw2, IbOk (ivQ q) r := rLt ibNil
noncomputable abbrev rw0 (t : Bool) : List BRow := [(10, .oi 0, .oi 1, .bool t)]
theorem rw0_ok {q : Cq} {t : Bool} (ht : decide ((q.n1 : Int) = q.n2) = !t) : ∀ r ∈ rw0 t, IbOk (ivQ q) r := rNe (h := ht) ibNil

namespace q9
noncomputable def s : Code := codeOf Tryz.f9
theorem s_eq : Tryz.f9.body = some s := by kernel_rfl
noncomputable def sI : Code := hd (hd (restn 2 s))
noncomputable def sL : Code := lpIn (tl (hd (restn 2 s)))
theorem s2_eq : restn 2 s = .seq (.seq sI (.block 0 (.loop sL))) (restn 3 s) := by kernel_rfl
noncomputable abbrev f0 : List (Nat × AV) := [(0, .fo 0 0 1), (1, .fo 1 1 1)]
noncomputable abbrev fk : List (Nat × AV) := [(0, .fo 0 0 1), (1, .fo 1 1 1), (5, .oi 2)]
def S (q : Cq) (B : Kp) (w0 : World) (μ : M) (a : Act) (w : World) : Prop := St (TQ q) B w0 μ Tryz.f9.ntmps (frOf fk) (hOf 0 []) a w
section
variable {q : Cq} {B : Kp} {w0 w : World} {μ : M} {a : Act}
theorem go (hb : Base B μ 0) (h : q.k < q.n1) (e : q.n1 = q.n2) (hL : q.n1 < 1000000) (ht : q.e1 q.k = q.e2 q.k) (s : S q B w0 μ a w) : sL.wp Tryz.prog (fun e a' w' => e = .normal ∧ S (q.at (q.k + 1)) B w0 μ a' w') a w :=
  runTo_sound (T := (RQ q (rw1 false) (rw1_ok h e hL (decide_eq_true ht)) fl45 (fl45_ok h e)).T) (T' := TQ (q.at (q.k + 1))) (n := 500) mixed hNo (C := cvQ (.oi 3)) (rl := []) (ex := .normal) (vp := []) (fs := fk) (bs := []) hb (Nat.le_refl _) rfl (by kernel_rfl) (ipF (ipF (ipE (ipE (ipE ipNil))))) vpNil (glQ (q := q) (q' := q)) (by as_aux_lemma => kernel_rfl) (St.same (Rw.same _ _) s)
theorem no (hb : Base B μ 0) (h : q.k < q.n1) (e : q.n1 = q.n2) (hL : q.n1 < 1000000) (ht : q.e1 q.k ≠ q.e2 q.k) (s : S q B w0 μ a w) : sL.wp Tryz.prog (fun e a' w' => e = .ret ∧ St (TQ (q.at 0)) B w0 μ Tryz.f9.ntmps (frOf [(4, .bool false)]) (hOf 0 []) a' w') a w :=
  runTo_sound (T := (RQ q (rw1 true) (rw1_ok h e hL (decide_eq_false ht)) fl45 (fl45_ok h e)).T) (T' := TQ (q.at 0)) (n := 500) mixed hNo (C := ⟨0, 0, ofPairs [], []⟩) (rl := []) (ex := .ret) (vp := []) (fs := [(4, .bool false)]) (bs := []) hb (Nat.le_refl _) rfl (by kernel_rfl) ipNil vpNil (glQ (q := q) (q' := q)) (by as_aux_lemma => kernel_rfl) (St.same (Rw.same _ _) s)
theorem out (hb : Base B μ 0) (h : ¬ q.k < q.n1) (s : S q B w0 μ a w) : sL.wp Tryz.prog (fun e a' w' => e = .exit 0 ∧ S q B w0 μ a' w') a w :=
  runTo_sound (T := (RQ q rw2 (rw2_ok h) [] allNil).T) (T' := TQ q) (n := 500) mixed hNo (C := cvQ (.oi 2)) (rl := []) (ex := .exit 0) (vp := []) (fs := fk) (bs := []) hb (Nat.le_refl _) rfl (by kernel_rfl) (ipF (ipF (ipE (ipE (ipE ipNil))))) vpNil (glQ (q := q) (q' := q)) (by as_aux_lemma => kernel_rfl) (St.same (Rw.same _ _) s)
theorem ini (hb : Base B μ 0) (s : St (TQ (q.at 0)) B w0 μ Tryz.f9.ntmps (frOf f0) (hOf 0 []) a w) : sI.wp Tryz.prog (fun e a' w' => e = .normal ∧ S (q.at 0) B w0 μ a' w') a w :=
  runTo_sound (T := TQ (q.at 0)) (T' := TQ (q.at 0)) (n := 500) mixed hNo (C := cvQ (.int .i64 0)) (rl := []) (ex := .normal) (vp := []) (fs := fk) (bs := []) hb (Nat.le_refl _) rfl (by kernel_rfl) (ipF (ipF (ipE (ipE (ipK' ipNil (e := rfl)))))) vpNil (glQ (q := q) (q' := q)) (by as_aux_lemma => kernel_rfl) s
theorem las (hb : Base B μ 0) (s : S q B w0 μ a w) : (restn 3 sa.q9.s).wp Tryz.prog (fun e a' w' => e = .ret ∧ St (TQ (q.at 0)) B w0 μ Tryz.f9.ntmps (frOf [(4, .bool true)]) (hOf 0 []) a' w') a w :=
  runTo_sound (T := TQ q) (T' := TQ (q.at 0)) (n := 500) mixed hNo (C := ⟨0, 0, ofPairs [], []⟩) (rl := []) (ex := .ret) (vp := []) (fs := [(4, .bool true)]) (bs := []) hb (Nat.le_refl _) rfl (by kernel_rfl) ipNil vpNil (glQ (q := q) (q' := q)) (by as_aux_lemma => kernel_rfl) s
theorem rT (hb : Base B μ 0) (e : q.n1 = q.n2) (hL : q.n1 < 1000000) (ht : ∀ k, k < q.n1 → q.e1 k = q.e2 k) : ∀ (j k : Nat) (a : Act) (w : World), k + j = q.n1 + 1 → k ≤ q.n1 → S (q.at k) B w0 μ a w → Code.rounds Tryz.prog sL (fun e a w => e = .exit 0 ∧ S (q.at q.n1) B w0 μ a w) j a w
  | 0, k, a, w, h1, h2, s => by omega
  | j + 1, k, a, w, h1, h2, s => by
    by_cases hk : k < q.n1
    · refine rounds_of (wp_mono (go (q := q.at k) hb hk e hL (ht k hk) s) ?_)
      rintro e a' w' ⟨rfl, s'⟩
      exact rT hb e hL ht j (k + 1) a' w' (by omega) (by omega) s'
    · have hkL : k = q.n1 := by omega
      refine rounds_of (wp_mono (out (q := q.at k) hb hk s) ?_)
      rintro e a' w' ⟨rfl, s'⟩
      rw [hkL] at s'
      exact ⟨rfl, s'⟩
theorem rF {d : Nat} (hb : Base B μ 0) (e : q.n1 = q.n2) (hL : q.n1 < 1000000) (hd : d < q.n1) (hne : q.e1 d ≠ q.e2 d) (ht : ∀ k, k < d → q.e1 k = q.e2 k) : ∀ (j k : Nat) (a : Act) (w : World), k + j = d + 1 → k ≤ d → S (q.at k) B w0 μ a w → Code.rounds Tryz.prog sL (fun e a w => e = .ret ∧ St (TQ (q.at 0)) B w0 μ Tryz.f9.ntmps (frOf [(4, .bool false)]) (hOf 0 []) a w) j a w
  | 0, k, a, w, h1, h2, s => by omega
  | j + 1, k, a, w, h1, h2, s => by
    by_cases hk : k < d
    · refine rounds_of (wp_mono (go (q := q.at k) hb (Nat.lt_trans hk hd) e hL (ht k hk) s) ?_)
      rintro e a' w' ⟨rfl, s'⟩
      exact rF hb e hL hd hne ht j (k + 1) a' w' (by omega) (by omega) s'
    · have hkL : k = d := by omega
      subst hkL
      refine rounds_of (wp_mono (no (q := q.at k) hb hd e hL hne s) ?_)
      rintro e a' w' ⟨rfl, s'⟩
      exact ⟨rfl, s'⟩
end
theorem first {q : Cq} (e : q.n1 = q.n2) : firstTo (RQ q (rw0 false) (rw0_ok (decide_eq_true (congrArg Nat.cast e))) [] allNil).T Tryz.prog Hand.none 500 Tryz.f9.ntmps 2 s (T.ofList 0 .leaf [.fo 0 0 1, .fo 1 1 1]) H.empty ⟨0, 0, ofPairs [], [(.fo 0 0 1, 0), (.fo 1 1 1, 1), (.oi 0, 0), (.oi 1, 1)]⟩ [] f0 [] = true := by as_aux_lemma => kernel_rfl
/-- the table at a call -/
abbrev TC (q : Cq) : Tab := TQ (q.at 0)
theorem call_of {q : Cq} {t : Bool} (e : q.n1 = q.n2) (HH : ∀ (B : Kp) (w0 : World) (μ : M) (a : Act) (w : World), Base B μ 0 → St (TQ (q.at 0)) B w0 μ Tryz.f9.ntmps (frOf f0) (hOf 0 []) a w → (restn 2 s).wp Tryz.prog (@Done (TC q) Tryz.prog Tryz.f9 B w0 μ (.bool t) (hOf 0 [])) a w) : @CallOk (TC q) Tryz.prog 9 [.fo 0 0 1, .fo 1 1 1] H.empty (.bool t, hOf 0 []) := by
  letI : Tab := TC q
  refine callOk_of (fn := Tryz.f9) Tryz.func9 s_eq (show 2 ≤ Tryz.f9.ntmps by decide +kernel) (show 2 < limit by decide) fun B w0 μ a w hb s => ?_
  exact firstTo_sound (T := (RQ (q.at 0) (rw0 false) (rw0_ok (decide_eq_true (congrArg Nat.cast e))) [] allNil).T) (T' := TQ (q.at 0)) (m := 500) (n := 2) mixed hNo (C := ⟨0, 0, ofPairs [], [(.fo 0 0 1, 0), (.fo 1 1 1, 1), (.oi 0, 0), (.oi 1, 1)]⟩) (rl := []) (vp := []) (fs := f0) (bs := [])
    hb (Nat.le_refl _) rfl (by kernel_rfl) (ipF (ipF (ipE (ipE ipNil)))) vpNil (glQ (q := q) (q' := q)) (first (q := q.at 0) e) (St.same (Rw.same _ _) s) fun a1 w1 s1 => HH B w0 μ a1 w1 hb s1
theorem call {q : Cq} {t : Bool} (hL : q.n1 < 1000000) (ht : (t = true ∧ q.n1 = q.n2 ∧ ∀ k, k < q.n1 → q.e1 k = q.e2 k) ∨ (t = false ∧ q.n1 ≠ q.n2) ∨ (t = false ∧ q.n1 = q.n2 ∧ ∃ d, d < q.n1 ∧ q.e1 d ≠ q.e2 d ∧ ∀ k, k < d → q.e1 k = q.e2 k)) : ∃ h', @CallOk (TC q) Tryz.prog 9 [.fo 0 0 1, .fo 1 1 1] H.empty (.bool t, h') := by
  rcases ht with ⟨rfl, e, he⟩ | ⟨rfl, e⟩ | ⟨rfl, e, d, hd, hne, he⟩
  · refine ⟨_, call_of e fun B w0 μ a w hb s1 => ?_⟩
    rw [s2_eq]
    refine wp_seq (wp_seq (wp_mono (ini (q := q) hb s1) ?_))
    rintro e' a2 w2 ⟨rfl, s2⟩
    show (Code.block 0 (.loop sL)).wp _ _ _ _
    refine wp_block (wp_mono (wp_loop_rounds (Q := fun e a w => e = .exit 0 ∧ S (q.at q.n1) B w0 μ a w) (q.n1 + 1) (rT (q := q) hb e hL he (q.n1 + 1) 0 a2 w2 (by omega) (Nat.zero_le _) s2)) ?_)
    rintro e' a3 w3 ⟨rfl, s3⟩
    show (restn 3 s).wp _ _ _ _
    refine wp_mono (las (q := q.at q.n1) hb s3) ?_
    rintro e' a4 w4 ⟨rfl, s4⟩
    exact St.done (τ := TC q) (e := .ret) (.inr rfl) (by kernel_rfl) s4
  · have hd : decide (((q.at 0).n1 : Int) = (q.at 0).n2) = !true := decide_eq_false (by show ¬ ((q.n1 : Int) = q.n2); omega)
    have o : @InOk Tryz.prog ⟨9, [.fo 0 0 1, .fo 1 1 1], 0, [], .bool false, 0, []⟩ (RQ (q.at 0) (rw0 true) (rw0_ok hd) [] allNil).T :=
      @InOk.of_run Tryz.prog (RQ (q.at 0) (rw0 true) (rw0_ok hd) [] allNil).T Hand.none mixed hNo 500 _ (by kernel_rfl) (by as_aux_lemma => kernel_rfl)
    obtain ⟨h', k1, _, _⟩ := @InOk.run Tryz.prog _ (RQ (q.at 0) (rw0 true) (rw0_ok hd) [] allNil).T o
    exact ⟨h', CallOk.tab (T := (RQ (q.at 0) (rw0 true) (rw0_ok hd) [] allNil).T) (T' := TC q) (Rw.same _ _) k1⟩
  · refine ⟨_, call_of e fun B w0 μ a w hb s1 => ?_⟩
    rw [s2_eq]
    refine wp_seq (wp_seq (wp_mono (ini (q := q) hb s1) ?_))
    rintro e' a2 w2 ⟨rfl, s2⟩
    show (Code.block 0 (.loop sL)).wp _ _ _ _
    refine wp_block (wp_mono (wp_loop_rounds (Q := fun e a w => e = .ret ∧ St (TQ (q.at 0)) B w0 μ Tryz.f9.ntmps (frOf [(4, .bool false)]) (hOf 0 []) a w) (d + 1) (rF (q := q) hb e hL hd hne he (d + 1) 0 a2 w2 (by omega) (Nat.zero_le _) s2)) ?_)
    rintro e' a3 w3 ⟨rfl, s3⟩
    exact St.done (τ := TC q) (e := .ret) (.inr rfl) (by kernel_rfl) s3
end q9

end Go.Proofs.YtifdjfcakkdgeaaGreatDoor.sa
