/-
  Types that are not too many, and may be: what the law's cut gives, whatever comes in.
-/
import Derived.Test.YtlnkclamdiohnaaGreatDoorFSU
set_option linter.unusedVariables false
set_option linter.unusedSimpArgs false
set_option linter.unusedSectionVars false
set_option maxRecDepth 1000000
set_option maxHeartbeats 0
namespace Go.Proofs.YtlnkclamdiohnaaGreatDoor.fp
open Go.X Go.RowKit Go.Proofs
theorem intEq {p : IntKind × Int} {k : IntKind} {n : Int} (h : p = (k, n)) : some (Value.int p.1 p.2) = some (.int k n) := by rw [h]
abbrev Rec3 := (Nat → Int) × (Nat → ByteArray) × (Nat → Int)
def valU (V : Vs) (m : Nat) : Value := if m % 3 = 0 then .int .i64 (V.kf (m / 3)) else if m % 3 = 1 then .string (V.nf (m / 3)) else .int .i64 (V.af (m / 3))
def valR (r : Rec3) (m : Nat) : Value := if m % 3 = 0 then .int .i64 (r.1 (m / 3)) else if m % 3 = 1 then .string (r.2.1 (m / 3)) else .int .i64 (r.2.2 (m / 3))
theorem cellsU_len : ∀ i, (cellsU i).length = 3 * i
  | 0 => rfl
  | i + 1 => by
    show (cellsU i ++ ([.oi (9 + 2 * i), .ostr (3 + 2 * i), .oi (10 + 2 * i)] : List AV)).length = _
    rw [List.length_append, cellsU_len i]
    simp
    omega
theorem cellsU_at : ∀ i m, m < 3 * i → (cellsU i)[m]? = some (if m % 3 = 0 then .oi (9 + 2 * (m / 3)) else if m % 3 = 1 then .ostr (3 + 2 * (m / 3)) else .oi (10 + 2 * (m / 3)))
  | 0, m, h => by omega
  | i + 1, m, h => by
    show (cellsU i ++ ([.oi (9 + 2 * i), .ostr (3 + 2 * i), .oi (10 + 2 * i)] : List AV))[m]? = _
    by_cases hm : m < 3 * i
    · rw [List.getElem?_append_left (by rw [cellsU_len]; exact hm)]
      exact cellsU_at i m hm
    · rw [List.getElem?_append_right (by rw [cellsU_len]; omega), cellsU_len]
      obtain ⟨q, rfl⟩ : ∃ q, m = 3 * i + q := ⟨m - 3 * i, by omega⟩
      rw [show 3 * i + q - 3 * i = q by omega]
      match q with
      | 0 => rw [if_pos (by omega), show (3 * i + 0) / 3 = i by omega]; rfl
      | 1 => rw [if_neg (by omega), if_pos (by omega), show (3 * i + 1) / 3 = i by omega]; rfl
      | 2 => rw [if_neg (by omega), if_neg (by omega), show (3 * i + 2) / 3 = i by omega]; rfl
      | q + 3 => omega
section
variable {len n : Nat} {V : Vs} {B : Kp} {w0 w : World} {μ : M} {a : Act}
theorem stepU6 (i : Nat) (hi : i < 8) (hn : i < n) (hl : i < len) (hc : len ≤ V.cnt) : ∃ kv nv av, ∀ B w0 μ, Base B μ 0 → ∀ Ks Ns As a w, SU6 i len n V Ks Ns As B w0 μ a w → uL.wp Tryz.prog (fun e a' w' => e = .normal ∧ SU6 (i + 1) len n V (upd Ks i kv) (upd Ns i nv) (upd As i av) B w0 μ a' w') a w := by
  have ha := aU6at i (by omega)
  by_cases h7 : V.kf i = 7
  · by_cases hsz : (V.nf i).size ≤ 60
    · obtain ⟨tK, tn, tD, tE, ok, h16⟩ := field_ans (V.nf i) hsz
      obtain ⟨c, h17⟩ := class_ans (V.nf i) (by omega)
      cases c with
      | true =>
        cases ok with
        | true =>
          cases h91 : (tK == 91) with
          | true =>
            exact ⟨_, _, _, fun B w0 μ hb Ks Ns As a w s' => goU6_o0ck ha (aU6_o0ck i hi) hb hn hl hc h7 rfl hsz h91 h16 h17 s'⟩
          | false =>
            exact ⟨_, _, _, fun B w0 μ hb Ks Ns As a w s' => goU6_o0co ha (aU6_o0co i hi) hb hn hl hc h7 rfl hsz h91 h16 h17 s'⟩
        | false =>
          exact ⟨_, _, _, fun B w0 μ hb Ks Ns As a w s' => goU6_o0cn ha (aU6_o0cn i hi) hb hn hl hc h7 rfl hsz h16 h17 s'⟩
      | false =>
        cases ok with
        | true =>
          cases h91 : (tK == 91) with
          | true =>
            exact ⟨_, _, _, fun B w0 μ hb Ks Ns As a w s' => goU6_o0fk ha (aU6_o0fk i hi) hb hn hl hc h7 rfl hsz h91 h16 h17 s'⟩
          | false =>
            exact ⟨_, _, _, fun B w0 μ hb Ks Ns As a w s' => goU6_o0fo ha (aU6_o0fo i hi) hb hn hl hc h7 rfl hsz h91 h16 h17 s'⟩
        | false =>
          exact ⟨_, _, _, fun B w0 μ hb Ks Ns As a w s' => goU6_o0fn ha (aU6_o0fn i hi) hb hn hl hc h7 rfl hsz h16 h17 s'⟩
    · have hx : ((V.nf i).extract 0 60).size ≤ 60 := by rw [ByteArray.size_extract]; omega
      obtain ⟨tK, tn, tD, tE, ok, h16⟩ := field_ans ((V.nf i).extract 0 60) hx
      obtain ⟨c, h17⟩ := class_ans ((V.nf i).extract 0 60) (by omega)
      cases c with
      | true =>
        cases ok with
        | true =>
          cases h91 : (tK == 91) with
          | true =>
            exact ⟨_, _, _, fun B w0 μ hb Ks Ns As a w s' => goU6_o1ck ha (aU6_o1ck i hi) hb hn hl hc h7 rfl hsz rfl h91 h16 h17 s'⟩
          | false =>
            exact ⟨_, _, _, fun B w0 μ hb Ks Ns As a w s' => goU6_o1co ha (aU6_o1co i hi) hb hn hl hc h7 rfl hsz rfl h91 h16 h17 s'⟩
        | false =>
          exact ⟨_, _, _, fun B w0 μ hb Ks Ns As a w s' => goU6_o1cn ha (aU6_o1cn i hi) hb hn hl hc h7 rfl hsz rfl h16 h17 s'⟩
      | false =>
        cases ok with
        | true =>
          cases h91 : (tK == 91) with
          | true =>
            exact ⟨_, _, _, fun B w0 μ hb Ks Ns As a w s' => goU6_o1fk ha (aU6_o1fk i hi) hb hn hl hc h7 rfl hsz rfl h91 h16 h17 s'⟩
          | false =>
            exact ⟨_, _, _, fun B w0 μ hb Ks Ns As a w s' => goU6_o1fo ha (aU6_o1fo i hi) hb hn hl hc h7 rfl hsz rfl h91 h16 h17 s'⟩
        | false =>
          exact ⟨_, _, _, fun B w0 μ hb Ks Ns As a w s' => goU6_o1fn ha (aU6_o1fn i hi) hb hn hl hc h7 rfl hsz rfl h16 h17 s'⟩
  by_cases h8 : V.kf i = 8
  · exact ⟨_, _, _, fun B w0 μ hb Ks Ns As a w s' => goU6_w ha (aU6_w i hi) hb hn hl hc h8 s'⟩
  by_cases h0 : V.kf i = 0
  · exact ⟨_, _, _, fun B w0 μ hb Ks Ns As a w s' => goU6_p0 ha (aU6_p0 i hi) hb hn hl hc h0 s'⟩
  by_cases h1 : V.kf i = 1
  · exact ⟨_, _, _, fun B w0 μ hb Ks Ns As a w s' => goU6_p1 ha (aU6_p1 i hi) hb hn hl hc h1 s'⟩
  by_cases h4 : V.kf i = 4
  · exact ⟨_, _, _, fun B w0 μ hb Ks Ns As a w s' => goU6_p4 ha (aU6_p4 i hi) hb hn hl hc h4 s'⟩
  by_cases h5 : V.kf i = 5
  · exact ⟨_, _, _, fun B w0 μ hb Ks Ns As a w s' => goU6_p5 ha (aU6_p5 i hi) hb hn hl hc h5 s'⟩
  by_cases h6 : V.kf i = 6
  · exact ⟨_, _, _, fun B w0 μ hb Ks Ns As a w s' => goU6_p6 ha (aU6_p6 i hi) hb hn hl hc h6 s'⟩
  exact ⟨_, _, _, fun B w0 μ hb Ks Ns As a w s' => goU6_d ha (aU6_d i hi) hb hn hl hc ⟨h7, h8, h0, h1, h4, h5, h6⟩ s'⟩
theorem roundsU6 (hc : len ≤ V.cnt) (hn8 : n ≤ 8) : ∀ j i, i + j = n → i ≤ len → ∃ G : Rec3 → Rec3, ∀ B w0 μ, Base B μ 0 → ∀ r : Rec3, ∀ a w, SU6 i len n V r.1 r.2.1 r.2.2 B w0 μ a w → Code.rounds Tryz.prog uL (fun e a w => e = .exit 0 ∧ SU6 (min len n) len n V (G r).1 (G r).2.1 (G r).2.2 B w0 μ a w) (j + 1) a w := by
  intro j
  induction j with
  | zero =>
    intro i h1 h2
    have hin : i = n := by omega
    refine ⟨id, fun B w0 μ hb r a w s' => ?_⟩
    by_cases h : i < len
    · refine rounds_of (wp_mono (outU61 (aU6x1 i (by omega)) hb ⟨h, by omega⟩ s') ?_)
      rintro e a' w' ⟨rfl, s2⟩
      rw [show min len n = i by omega]
      exact ⟨rfl, s2⟩
    · refine rounds_of (wp_mono (outU60 (aU6x0 i (by omega)) hb h s') ?_)
      rintro e a' w' ⟨rfl, s2⟩
      rw [show min len n = i by omega]
      exact ⟨rfl, s2⟩
  | succ j ih =>
    intro i h1 h2
    by_cases hl : i < len
    · obtain ⟨kv, nv, av, hs⟩ := stepU6 (n := n) i (by omega) (by omega) hl hc
      obtain ⟨G, hr⟩ := ih (i + 1) (by omega) (by omega)
      refine ⟨fun r => G (upd r.1 i kv, upd r.2.1 i nv, upd r.2.2 i av), fun B w0 μ hb r a w s' => ?_⟩
      refine rounds_of (wp_mono (hs B w0 μ hb r.1 r.2.1 r.2.2 a w s') ?_)
      rintro e a' w' ⟨rfl, s2⟩
      exact hr B w0 μ hb (upd r.1 i kv, upd r.2.1 i nv, upd r.2.2 i av) a' w' s2
    · refine ⟨id, fun B w0 μ hb r a w s' => ?_⟩
      refine rounds_of (wp_mono (outU60 (aU6x0 i (by omega)) hb hl s') ?_)
      rintro e a' w' ⟨rfl, s2⟩
      rw [show min len n = i by omega]
      exact ⟨rfl, s2⟩
theorem firstU6 (r : Rec3) : firstTo (plU len n Rd0 V r.1 r.2.1 r.2.2) Tryz.prog Hand.none 100 Tryz.f6.ntmps 2 ub (T.ofList 0 .leaf [.fo 0 0 3, .oi 8]) H.empty (⟨0, 0, ofPairs [], ipU 0⟩ : Cv) [] [(0, .fo 0 0 3), (1, .oi 8), (5, .nils)] [] = true := by kernel_rfl
def r0 : Rec3 := (fun _ => 0, fun _ => strOf 0 0, fun _ => 0)
theorem startU6 (hb : Base B μ 0) (s' : St (plU len n Rd0 V r0.1 r0.2.1 r0.2.2) B w0 μ Tryz.f6.ntmps (frOf [(0, .fo 0 0 3), (1, .oi 8), (5, .nils)]) (hOf 0 []) a w) : uA.wp Tryz.prog (fun e a' w' => e = .normal ∧ SU6 0 len n V r0.1 r0.2.1 r0.2.2 B w0 μ a' w') a w :=
  runTo_sound (T := plU len n Rd0 V r0.1 r0.2.1 r0.2.2) (T' := plU len n Rd0 V r0.1 r0.2.1 r0.2.2) (K := Hand.none) (n := 100) mixed (@HandOk.none (plU len n Rd0 V r0.1 r0.2.1 r0.2.2) Tryz.prog) (C := (⟨0, 0, ofPairs [], ipU 0⟩ : Cv)) (rl := []) (ex := .normal) (vp := []) (fs := fsU6 0) (bs := [])
    hb (Nat.zero_le _) rfl (by kernel_rfl) (ipU_ok (i := 0) (by rfl) (by rfl) (by rfl) (by rfl) (fun t ht => by omega)) vpNil (glU rfl rfl rfl rfl (strU_at _ _ _) (strU_at _ _ _)) (by as_aux_lemma => kernel_rfl) s'
end
theorem resU6 (i : Nat) (h : H) : results? Tryz.prog Tryz.f6 (frOf [(4, rU i)]) h = some (rU i) := by kernel_rfl
theorem callU6 {len n : Nat} {V : Vs} (hc : len ≤ V.cnt) (hn8 : n ≤ 8) : ∃ r : Rec3, @CallOk (plU len n Rd0 V r.1 r.2.1 r.2.2) Tryz.prog 6 [.fo 0 0 3, .oi 8] H.empty (rU (min len n), hOf (NU (min len n)) (bsU 0 (min len n))) := by
  obtain ⟨G, hr⟩ := roundsU6 (n := n) hc hn8 n 0 (by omega) (Nat.zero_le _)
  refine ⟨G r0, ?_⟩
  refine @callOk_of Tryz.prog (plU len n Rd0 V (G r0).1 (G r0).2.1 (G r0).2.2) 6 Tryz.f6 ub [.fo 0 0 3, .oi 8] H.empty _ _ Tryz.func6 ub_eq (show 2 ≤ Tryz.f6.ntmps by decide +kernel) (show 2 < limit by decide) fun B w0 μ a w hb s' => ?_
  have hb : Base B μ 0 := hb
  refine firstTo_sound (T := plU len n Rd0 V (G r0).1 (G r0).2.1 (G r0).2.2) (T' := plU len n Rd0 V r0.1 r0.2.1 r0.2.2) (K := Hand.none) (m := 100) (n := 2) mixed (@HandOk.none (plU len n Rd0 V (G r0).1 (G r0).2.1 (G r0).2.2) Tryz.prog) (C := (⟨0, 0, ofPairs [], ipU 0⟩ : Cv)) (rl := []) (vp := []) (fs := [(0, .fo 0 0 3), (1, .oi 8), (5, .nils)]) (bs := [])
    hb (Nat.le_refl _) rfl (by kernel_rfl) (ipU_ok (i := 0) (by rfl) (by rfl) (by rfl) (by rfl) (fun t ht => by omega)) vpNil (glU rfl rfl rfl rfl (strU_at _ _ _) (strU_at _ _ _)) (firstU6 _) s' fun a1 w1 s1 => ?_
  rw [u_eq]
  refine wp_seq (wp_seq (wp_mono (startU6 hb s1) ?_))
  rintro e a2 w2 ⟨rfl, s2⟩
  show (Code.block 0 (.loop uL)).wp _ _ _ _
  refine wp_block (wp_mono (wp_loop_rounds _ (hr B w0 μ hb r0 a2 w2 s2)) ?_)
  rintro e a3 w3 ⟨rfl, s3⟩
  show uT.wp _ _ _ _
  refine wp_mono (endU6 (aU6e _ (by omega)) hb s3) ?_
  rintro e a4 w4 ⟨rfl, s4⟩
  exact St.done (τ := plU len n Rd0 V (G r0).1 (G r0).2.1 (G r0).2.2) (e := .ret) (.inr rfl) (resU6 _ _) s4
theorem ldU6_1 : (hOf 1 (bsU 0 1)).loads 0 0 (3 * 1) = some (cellsU 1) := by kernel_rfl
theorem ldU6_2 : (hOf 1 (bsU 0 2)).loads 0 0 (3 * 2) = some (cellsU 2) := by kernel_rfl
theorem ldU6_3 : (hOf 1 (bsU 0 3)).loads 0 0 (3 * 3) = some (cellsU 3) := by kernel_rfl
theorem ldU6_4 : (hOf 1 (bsU 0 4)).loads 0 0 (3 * 4) = some (cellsU 4) := by kernel_rfl
theorem ldU6_5 : (hOf 1 (bsU 0 5)).loads 0 0 (3 * 5) = some (cellsU 5) := by kernel_rfl
theorem ldU6_6 : (hOf 1 (bsU 0 6)).loads 0 0 (3 * 6) = some (cellsU 6) := by kernel_rfl
theorem ldU6_7 : (hOf 1 (bsU 0 7)).loads 0 0 (3 * 7) = some (cellsU 7) := by kernel_rfl
theorem ldU6_8 : (hOf 1 (bsU 0 8)).loads 0 0 (3 * 8) = some (cellsU 8) := by kernel_rfl
theorem ldU6 : ∀ i, 1 ≤ i → i ≤ 8 → (hOf 1 (bsU 0 i)).loads 0 0 (3 * i) = some (cellsU i)
  | 0, h, _ => by omega
  | 1, _, _ => ldU6_1
  | 2, _, _ => ldU6_2
  | 3, _, _ => ldU6_3
  | 4, _, _ => ldU6_4
  | 5, _, _ => ldU6_5
  | 6, _, _ => ldU6_6
  | 7, _, _ => ldU6_7
  | 8, _, _ => ldU6_8
  | i + 9, _, h => by omega
/-- what Cut gives in the world -/
def GivU6 (n : Nat) (V : Vs) (len : Nat) (r : Rec3) : Prop := ∀ w : World, (∀ m, m < 3 * V.cnt → w.cell? ⟨V.b, V.o + m, none⟩ = some (valU V m)) → Calls Tryz.prog 6 #[.slice (some ⟨V.b, V.o, none⟩) len V.cap, .int .i64 (n : Int)] w fun e w' => Below w.heap.size w w' ∧ ((min len n = 0 ∧ e = .returned (.slice none 0 0)) ∨
  (0 < min len n ∧ ∃ b base cap, e = .returned (.slice (some ⟨b, base, none⟩) (min len n) cap) ∧ w.heap.size ≤ b ∧ min len n ≤ cap ∧ (∃ arr el fz, w'.heap[b]? = some (.cells arr el fz) ∧ arr.size = base + cap * 3 ∧ ∀ i, i < base + cap * 3 → ¬ (fz.1 ≤ i ∧ i < fz.2)) ∧ ∀ m, m < 3 * min len n → w'.cell? ⟨b, base + m, none⟩ = some (valR r m)))
theorem givU6 {n : Nat} {V : Vs} {len : Nat} (hn8 : n ≤ 8) (hc : len ≤ V.cnt) (hcap : len ≤ V.cap) : ∃ r, GivU6 n V len r := by
  obtain ⟨r, o⟩ := callU6 hc hn8
  refine ⟨r, fun w hw => ?_⟩
  letI : Tab := plU len n Rd0 V r.1 r.2.1 r.2.2
  have hg : Gl (Kp.below w.heap.size) w := ⟨fun g o a h => (by cases h), fun i m a h => by
    match i, h with
    | 0, h =>
      have h' : (if m < 3 * V.cnt then some (cellU V m) else none) = some a := h
      by_cases hm : m < 3 * V.cnt
      · rw [if_pos hm] at h'
        cases h'
        have hcm := hw m hm
        refine ⟨World.block_lt_of_cell? _ _ hcm, _, hcm, ?_⟩
        by_cases m0 : m % 3 = 0
        · have e : cellU V m = .int .i64 (V.kf (m / 3)) := by unfold cellU; rw [if_pos m0]
          have e2 : valU V m = .int .i64 (V.kf (m / 3)) := by unfold valU; rw [if_pos m0]
          rw [e, e2]; simp only [vrel]
        · by_cases m1 : m % 3 = 1
          · have e : cellU V m = .ostr (2 + 2 * (m / 3)) := by unfold cellU; rw [if_neg m0, if_pos m1]
            have e2 : valU V m = .string (V.nf (m / 3)) := by unfold valU; rw [if_neg m0, if_pos m1]
            rw [e, e2]; simp only [vrel]
            exact congrArg Value.string (strU_at _ _ _ _).symm
          · have e : cellU V m = .int .i64 (V.af (m / 3)) := by unfold cellU; rw [if_neg m0, if_neg m1]
            have e2 : valU V m = .int .i64 (V.af (m / 3)) := by unfold valU; rw [if_neg m0, if_neg m1]
            rw [e, e2]; simp only [vrel]
      · rw [if_neg hm] at h'
        cases h'
    | (i + 1), h => cases h⟩
  refine (o.closed (args' := #[.slice (some ⟨V.b, V.o, none⟩) len V.cap, .int .i64 (n : Int)]) (vrels_cons (by simp only [vrel]; exact ⟨⟨rfl, Int.natCast_nonneg _⟩, hcap, rfl⟩) (vrels_cons (by simp only [vrel]; rfl) (by simp [vrels]))) w hg).mono ?_
  rintro e w' ⟨v', μ', rfl, hr, r'⟩
  have r2 : HR (Kp.below w.heap.size) w μ' (hOf (NU (min len n)) (bsU 0 (min len n))) w' := r'
  refine ⟨r2.below.toBelow, ?_⟩
  have hr2 : vrel μ' (rU (min len n)) v' := hr
  have hm : min len n ≤ 8 := Nat.le_trans (Nat.min_le_right _ _) hn8
  generalize min len n = q at hr2 r2 hm ⊢
  cases q with
  | zero =>
    refine .inl ⟨rfl, ?_⟩
    have hr3 : vrel μ' .nils v' := hr2
    simp only [vrel] at hr3
    rw [hr3]
  | succ q =>
    refine .inr ⟨by omega, ?_⟩
    have hr3 : vrel μ' (.so 0 0 (q + 1) 3) v' := hr2
    simp only [vrel] at hr3
    obtain ⟨l, cap, k1, k2, k3, rfl⟩ := hr3
    have r3 : HR (Kp.below w.heap.size) w μ' (hOf 1 (bsU 0 (q + 1))) w' := r2
    obtain ⟨l', g1, g2, _, g4⟩ := r3.blk 0 (rowOf (cellsU (q + 1)) true) rfl
    rw [k1] at g1; cases g1
    obtain ⟨arr, el, fz, m1, m2, m3, m4, m5, m6⟩ := g4
    obtain ⟨xs, h1, h2, h3⟩ := r3.loads k1 (3 * (q + 1)) 0 _ (ldU6 (q + 1) (by omega) hm)
    have hlt : w.heap.size ≤ l.block := Nat.le_of_not_lt (g2 rfl)
    have hz : l.base + 0 + cap * 3 = l.total := by omega
    refine ⟨l.block, l.base + 0, cap, rfl, hlt, k2, ⟨arr, el, fz, m1, by rw [hz]; exact m2, by rw [hz]; exact m3⟩, fun m hm' => ?_⟩
    rw [h3 m hm']
    obtain ⟨y, y1, y2⟩ := vrels_get h1 (cellsU_at (q + 1) m hm')
    rw [y1]
    by_cases m0 : m % 3 = 0
    · rw [if_pos m0] at y2
      simp only [vrel] at y2
      have e2 : valR r m = .int .i64 (r.1 (m / 3)) := by unfold valR; rw [if_pos m0]
      rw [y2, e2]
      exact intEq (ivU_k _ _ _ _ _ _)
    · rw [if_neg m0] at y2
      by_cases m1' : m % 3 = 1
      · rw [if_pos m1'] at y2
        simp only [vrel] at y2
        have e2 : valR r m = .string (r.2.1 (m / 3)) := by unfold valR; rw [if_neg m0, if_pos m1']
        rw [y2, e2]
        exact congrArg some (congrArg Value.string (strU_n _ _ _ _))
      · rw [if_neg m1'] at y2
        simp only [vrel] at y2
        have e2 : valR r m = .int .i64 (r.2.2 (m / 3)) := by unfold valR; rw [if_neg m0, if_neg m1']
        rw [y2, e2]
        exact intEq (ivU_a _ _ _ _ _ _)
end Go.Proofs.YtlnkclamdiohnaaGreatDoor.fp
