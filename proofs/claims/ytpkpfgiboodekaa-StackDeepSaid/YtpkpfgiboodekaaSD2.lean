/-
  The law StackDeep returns true: its first round, its beginning, and all of it.
-/
import Derived.Test.YtpkpfgiboodekaaSD
set_option linter.unusedVariables false
set_option linter.unusedSimpArgs false
set_option maxRecDepth 100000
namespace Go.Proofs.Ytpkpfgiboodekaa.deep
open Go.X Go.RowKit

abbrev rOne : List BRow := [(11, cI 0, .oi 0, .bool true), (11, .oi 12, cI 0, .bool false), (13, .oi 12, cI 2048, .bool false), (0, .oi 12, cI 2, .oi 13), (0, .oi 13, cI 4, .oi 14), (13, .oi 14, cI 2048, .bool false), (0, cI 0, .oi 14, .oi 14), (1, .oi 12, cI 1, .oi 15), (11, .oi 15, cI 0, .bool false), (14, .oi 15, .oi 12, .bool false), (0, cI 0, .oi 15, .oi 9), (14, .oi 9, cI 0, .bool true), (11, .oi 9, .oi 7, .bool true)]
theorem rOne_ok {c k n : Nat} (hc : c = 1 ∨ c = 2 ∨ c = 3 ∨ c = 4 ∨ c = 5) (hk : k = 0) (hn : 0 < n) : ∀ r ∈ rOne, IbOk (ivD c k n) r := by
  letI := Tab.empty
  exact (ibCons (ibLt (a := (0)) (b := ((n : Int))) rfl rfl (decide_eq_true (by (rcases hc with rfl | rfl | rfl | rfl | rfl <;> omega))))
    (ibCons (ibLt (a := ((c : Int))) (b := (0)) rfl rfl (decide_eq_false (by (rcases hc with rfl | rfl | rfl | rfl | rfl <;> omega))))
    (ibCons (ibGt (a := ((c : Int))) (b := (2048)) rfl rfl (decide_eq_false (by (rcases hc with rfl | rfl | rfl | rfl | rfl <;> omega))))
    (ibCons (ibAdd (a := ((c : Int))) (b := (2)) (c := ((c : Int) + 2)) rfl rfl rfl (by (rcases hc with rfl | rfl | rfl | rfl | rfl <;> omega)) (by (rcases hc with rfl | rfl | rfl | rfl | rfl <;> omega)) (by (rcases hc with rfl | rfl | rfl | rfl | rfl <;> omega)))
    (ibCons (ibAdd (a := ((c : Int) + 2)) (b := (4)) (c := ((c : Int) + 6)) rfl rfl rfl (by (rcases hc with rfl | rfl | rfl | rfl | rfl <;> omega)) (by (rcases hc with rfl | rfl | rfl | rfl | rfl <;> omega)) (by (rcases hc with rfl | rfl | rfl | rfl | rfl <;> omega)))
    (ibCons (ibGt (a := ((c : Int) + 6)) (b := (2048)) rfl rfl (decide_eq_false (by (rcases hc with rfl | rfl | rfl | rfl | rfl <;> omega))))
    (ibCons (ibAdd (a := (0)) (b := ((c : Int) + 6)) (c := ((c : Int) + 6)) rfl rfl rfl (by (rcases hc with rfl | rfl | rfl | rfl | rfl <;> omega)) (by (rcases hc with rfl | rfl | rfl | rfl | rfl <;> omega)) (by (rcases hc with rfl | rfl | rfl | rfl | rfl <;> omega)))
    (ibCons (ibSub (a := ((c : Int))) (b := (1)) (c := (((c - 1 : Nat) : Int))) rfl rfl rfl (by (rcases hc with rfl | rfl | rfl | rfl | rfl <;> omega)) (by (rcases hc with rfl | rfl | rfl | rfl | rfl <;> omega)) (by (rcases hc with rfl | rfl | rfl | rfl | rfl <;> omega)))
    (ibCons (ibLt (a := (((c - 1 : Nat) : Int))) (b := (0)) rfl rfl (decide_eq_false (by (rcases hc with rfl | rfl | rfl | rfl | rfl <;> omega))))
    (ibCons (ibGe (a := (((c - 1 : Nat) : Int))) (b := ((c : Int))) rfl rfl (decide_eq_false (by (rcases hc with rfl | rfl | rfl | rfl | rfl <;> omega))))
    (ibCons (ibAdd (a := (0)) (b := (((c - 1 : Nat) : Int))) (c := (((k * (c + 1) + (c - 1) : Nat) : Int))) rfl rfl rfl (by (rcases hc with rfl | rfl | rfl | rfl | rfl <;> omega)) (by (rcases hc with rfl | rfl | rfl | rfl | rfl <;> omega)) (by (rcases hc with rfl | rfl | rfl | rfl | rfl <;> omega)))
    (ibCons (ibGe (a := (((k * (c + 1) + (c - 1) : Nat) : Int))) (b := (0)) rfl rfl (decide_eq_true (by (rcases hc with rfl | rfl | rfl | rfl | rfl <;> omega))))
    (ibCons (ibLt (a := (((k * (c + 1) + (c - 1) : Nat) : Int))) (b := (((k * (c + 1) + c : Nat) : Int))) rfl rfl (decide_eq_true (by (rcases hc with rfl | rfl | rfl | rfl | rfl <;> omega))))
    ibNil)))))))))))))

abbrev rIn : List BRow := [(11, .oi 0, cI 0, .bool false), (13, .oi 0, cI 200, .bool false), (11, .oi 12, cI 1, .bool false), (13, .oi 12, cI 5, .bool false)]
theorem rIn_ok {c k n : Nat} (hc : c = 1 ∨ c = 2 ∨ c = 3 ∨ c = 4 ∨ c = 5) (hn : n ≤ 200) : ∀ r ∈ rIn, IbOk (ivD c k n) r := by
  letI := Tab.empty
  exact (ibCons (ibLt (a := ((n : Int))) (b := (0)) rfl rfl (decide_eq_false (by (rcases hc with rfl | rfl | rfl | rfl | rfl <;> omega))))
    (ibCons (ibGt (a := ((n : Int))) (b := (200)) rfl rfl (decide_eq_false (by (rcases hc with rfl | rfl | rfl | rfl | rfl <;> omega))))
    (ibCons (ibLt (a := ((c : Int))) (b := (1)) rfl rfl (decide_eq_false (by (rcases hc with rfl | rfl | rfl | rfl | rfl <;> omega))))
    (ibCons (ibGt (a := ((c : Int))) (b := (5)) rfl rfl (decide_eq_false (by (rcases hc with rfl | rfl | rfl | rfl | rfl <;> omega))))
    ibNil))))

abbrev ivE (x y : Int) : Nat → IntKind × Int := fun i => (.i64, match i with | 0 => x | 1 => y | _ => 0)
abbrev rE1 : List BRow := [(11, .oi 0, cI 0, .bool true)]
theorem rE1_ok {x y : Int} (h : x < 0) : ∀ r ∈ rE1, IbOk (ivE x y) r := by
  letI := Tab.empty
  exact (ibCons (ibLt (a := (x)) (b := (0)) rfl rfl (decide_eq_true (by omega)))
    ibNil)

abbrev rE2 : List BRow := [(11, .oi 0, cI 0, .bool false), (13, .oi 0, cI 200, .bool true)]
theorem rE2_ok {x y : Int} (h : ¬ x < 0) (h2 : x > 200) : ∀ r ∈ rE2, IbOk (ivE x y) r := by
  letI := Tab.empty
  exact (ibCons (ibLt (a := (x)) (b := (0)) rfl rfl (decide_eq_false (by omega)))
    (ibCons (ibGt (a := (x)) (b := (200)) rfl rfl (decide_eq_true (by omega)))
    ibNil))

abbrev rE3 : List BRow := [(11, .oi 0, cI 0, .bool false), (13, .oi 0, cI 200, .bool false), (11, .oi 1, cI 1, .bool true)]
theorem rE3_ok {x y : Int} (h : ¬ x < 0) (h2 : ¬ x > 200) (h3 : y < 1) : ∀ r ∈ rE3, IbOk (ivE x y) r := by
  letI := Tab.empty
  exact (ibCons (ibLt (a := (x)) (b := (0)) rfl rfl (decide_eq_false (by omega)))
    (ibCons (ibGt (a := (x)) (b := (200)) rfl rfl (decide_eq_false (by omega)))
    (ibCons (ibLt (a := (y)) (b := (1)) rfl rfl (decide_eq_true (by omega)))
    ibNil)))

abbrev rE4 : List BRow := [(11, .oi 0, cI 0, .bool false), (13, .oi 0, cI 200, .bool false), (11, .oi 1, cI 1, .bool false), (13, .oi 1, cI 5, .bool true)]
theorem rE4_ok {x y : Int} (h : ¬ x < 0) (h2 : ¬ x > 200) (h3 : ¬ y < 1) (h4 : y > 5) : ∀ r ∈ rE4, IbOk (ivE x y) r := by
  letI := Tab.empty
  exact (ibCons (ibLt (a := (x)) (b := (0)) rfl rfl (decide_eq_false (by omega)))
    (ibCons (ibGt (a := (x)) (b := (200)) rfl rfl (decide_eq_false (by omega)))
    (ibCons (ibLt (a := (y)) (b := (1)) rfl rfl (decide_eq_false (by omega)))
    (ibCons (ibGt (a := (y)) (b := (5)) rfl rfl (decide_eq_true (by omega)))
    ibNil))))

section
variable {c n : Nat} {w0 w : World} {a : Act}
theorem slots0 (hc : CC c) : VnOk (ivD c 0 n) (vvD c 0) (vkD c 0) ⟨1, 12, [cI 0], 5, 7⟩ :=
  vnI (c := c) (e' := fun m => if m < 0 * (c + 1) then eS c m else 0) rfl (by show (IntKind.i64, ((0 * (c + 1) + c : Nat) : Int)) = _; simp) (by show intV (0 * (c + 1) + c) _ = _; rw [Nat.zero_mul, Nat.zero_add]) (by show 0 * (c + 1) + c = c; omega) rfl rfl (by omega) (by omega) (fun m _ => if_neg (by omega))
theorem marks0 (hc : CC c) : VnOk (ivD c 0 n) (vvD c 0) (vkD c 0) ⟨1, 12, [.bool false], 9, 7⟩ :=
  vnB (c := c) (e' := fun m => if m < 0 * (c + 1) then eM c m else false) rfl (by show (IntKind.i64, ((0 * (c + 1) + c : Nat) : Int)) = _; simp) (by show boolV (0 * (c + 1) + c) _ = _; rw [Nat.zero_mul, Nat.zero_add]) (by show 0 * (c + 1) + c = c; omega) rfl rfl (by omega) (by omega) (fun m _ => if_neg (by omega))
theorem slotAt0 (hc : CC c) : VsOk (ivD c 0 n) (vvD c 0) (vkD c 0) ⟨5, 9, 1, 0, [cI 0], 6⟩ :=
  vsI (k := 0 * (c + 1) + (c - 1)) (A := 0 * (c + 1) + c) (e := fun m => if m < 0 * (c + 1) then eS c m else 0) (e' := eS c) rfl rfl rfl rfl rfl rfl (by show (0 * (c + 1) + (c - 1)) * 1 + 0 < _; rcases hc with rfl | rfl | rfl | rfl | rfl <;> omega)
    (ciIs (by show (0 : Int) = eS c ((0 * (c + 1) + (c - 1)) * 1 + 0); rw [Nat.mul_one, Nat.add_zero, eS_at hc 0 (c - 1) (by omega), if_pos (by rcases hc with rfl | rfl | rfl | rfl | rfl <;> omega)]; rfl))
    (fun m hA hm => by
      have hm : m ≠ (0 * (c + 1) + (c - 1)) * 1 + 0 := hm
      have hA : m < 0 * (c + 1) + c := hA
      show eS c m = if m < 0 * (c + 1) then eS c m else 0
      rw [if_neg (by omega)]
      have e : m = 0 * (c + 1) + m := by omega
      have hlt : c ≤ m + 1 → False := by intro h1; apply hm; rcases hc with rfl | rfl | rfl | rfl | rfl <;> omega
      rw [e, eS_at hc 0 _ (by omega), if_neg hlt])
theorem slot0 (hc : CC c) : VaOk (ivD c 0 n) (vvD c 0) (vkD c 0) ⟨6, 7, 1, [cI 0], 7, 10⟩ := by
  refine vaI (a := 0 * (c + 1) + c) (b := (0 + 1) * (c + 1)) (A' := (0 + 1) * (c + 1)) (e := eS c) (e' := eS c) rfl rfl (by show _ = intV (_ * 1) _; rw [Nat.mul_one]; rfl) rfl rfl
    (by show _ = _ * 1 + 1; rw [Nat.mul_one, Nat.add_mul]; omega) (Nat.mul_one _) (by rcases hc with rfl | rfl | rfl | rfl | rfl <;> omega) (fun _ _ => rfl) fun q x hx => ?_
  have hq : q < 1 := (List.getElem?_eq_some_iff.1 hx).1
  obtain rfl : q = 0 := by omega
  have hx' : some (cI 0) = some x := hx
  cases hx'
  refine ciIs ?_
  show (0 : Int) = eS c ((0 * (c + 1) + c) * 1 + 0)
  rw [Nat.mul_one, Nat.add_zero, eS_at hc 0 c (Nat.le_refl _), if_pos (by omega)]; rfl

abbrev ROne (hc : CC c) (hn : 0 < n) : VRows (ivD c 0 n) (vvD c 0) (vkD c 0) where
  vvp := vvp c 0
  ib := rOne
  ibok := rOne_ok hc rfl hn
  va := [⟨6, 7, 1, [cI 0], 7, 10⟩, ⟨10, 7, 1, [.bool true], 11, 10⟩]
  vaok := allCons (slot0 hc) (allCons (mark_ok hc (by rcases hc with rfl | rfl | rfl | rfl | rfl <;> omega) (by simp)) allNil)
  vn := [⟨1, 12, [cI 0], 5, 7⟩, ⟨1, 12, [.bool false], 9, 7⟩]
  vnok := allCons (slots0 hc) (allCons (marks0 hc) allNil)
  vs := [⟨5, 9, 1, 0, [cI 0], 6⟩, ⟨9, 9, 1, 0, [.bool true], 10⟩]
  vsok := allCons (slotAt0 hc) (allCons (markAt_ok hc (by simp)) allNil)
noncomputable abbrev fs0 : List (Nat × AV) := [(0, .oi 0), (1, .oi 12), (4, .bool false), (5, .bool true), (6, .ptr 0 0)]
noncomputable abbrev fs1 : List (Nat × AV) := [(0, .oi 0), (1, .oi 12), (4, .bool false), (5, .bool true), (6, .ptr 0 0), (7, cI 0)]
noncomputable abbrev bs0 (a : Nat) : BS := [(0, a, rowOf [.nils, .nils, .nils, cI 0] false)]
/-- no frame yet -/
def S0 (c n : Nat) (w0 : World) (a : Act) (w : World) : Prop := St (plainD c 0 n) (Kp.below w0.heap.size) w0 (fun _ => none) 159 (frOf fs0) (hOf 1 (bs0 0)) a w
def S1 (c n : Nat) (w0 : World) (a : Act) (w : World) : Prop := St (plainD c 0 n) (Kp.below w0.heap.size) w0 (fun _ => none) 159 (frOf fs1) (hOf 1 (bs0 0)) a w
abbrev rlOne : List (Nat × Nat) := [(0, 0), (1, 7), (2, 8), (3, 2)]
noncomputable abbrev cvOne : Cv := ⟨0, 4, ofPairs rlOne, [(.oi 0, 0), (cI 1, 1), (.oi 14, 2), (.oi 10, 3), (.oi 12, 12)]⟩
noncomputable abbrev vpOne : VP := [(7, .vec 7, 4), (8, .vec 11, 8), (2, rowOf [cI 0, cI 1, cI 0, cI 0, .oi 12, cI 2, cI 1] true, 0)]
theorem frame0 {T : Tab} {C : Cv} {x : Nat} (hT : T.iv = ivD c 0 n) : own (x, rowOf [cI 0, cI 1, cI 0, cI 0, .oi 12, cI 2, cI 1] true, 0).2.1 = true ∧ ∀ μ p w, @brel T μ (x, rowOf [cI 0, cI 1, cI 0, cI 0, .oi 12, cI 2, cI 1] true, 0).2.1 p w → @brel (plainD c 1 n) (ren C.N0 C.rn μ) (.vec (x, rowOf [cI 0, cI 1, cI 0, cI 0, .oi 12, cI 2, cI 1] true, 0).2.2) p w := by
  refine rowVec (l := [cI 0, cI 1, cI 0, cI 0, .oi 12, cI 2, cI 1]) (show 7 < limit by decide) (fun m a h => ?_) (Nat.le_refl _)
  obtain ⟨hm, rfl⟩ := intV_some (show intV (1 * 7) (eF c) m = some a from h)
  rw [hT]
  have e0 : eF c m = fld c 0 m := by have := eF_at c 0 m (by omega); rwa [Nat.zero_mul, Nat.zero_add] at this
  rw [e0]
  obtain rfl | rfl | rfl | rfl | rfl | rfl | rfl : m = 0 ∨ m = 1 ∨ m = 2 ∨ m = 3 ∨ m = 4 ∨ m = 5 ∨ m = 6 := by omega
  · exact ⟨_, rfl, .inl ⟨_, rfl, rfl⟩⟩
  · exact ⟨_, rfl, .inl ⟨_, rfl, rfl⟩⟩
  · exact ⟨_, rfl, .inl ⟨_, rfl, rfl⟩⟩
  · refine ⟨_, rfl, .inl ⟨_, rfl, ?_⟩⟩
    show AV.int .i64 ((0 * (c + 1) : Nat) : Int) = AV.int .i64 0
    rw [Nat.zero_mul]; rfl
  · exact ⟨_, rfl, .inl ⟨_, rfl, rfl⟩⟩
  · exact ⟨_, rfl, .inl ⟨_, rfl, rfl⟩⟩
  · exact ⟨_, rfl, .inl ⟨_, rfl, rfl⟩⟩
theorem one (hc : CC c) (hn : 0 < n) (s : S1 c n w0 a w) : up.wp Try.prog (fun e a' w' => e = .normal ∧ SA c 1 n w0 a' w') a w :=
  runTo_sound (T := (ROne hc hn).tab) (T' := plainD c 1 n) (K := Hand.none) (n := 300) mixed (@HandOk.none (ROne hc hn).tab Try.prog) (C := cvOne) (rl := rlOne) (ex := .normal) (vp := vpOne) (fs := fsA) (bs := bsD 7 8 2)
    (Base.none _) (Nat.zero_le _) rfl (by kernel_rfl) (ipCons rfl (ipCons rfl (ipCons (ivEq (show (c : Int) + 6 = ((1 * (c + 6) : Nat) : Int) by omega)) (ipCons rfl (ipCons rfl ipNil)))))
    (vpCons (vecSub (intV_sub (Nat.le_refl _)) (Nat.le_refl _)) (vpCons (vecSub (boolV_sub (Nat.le_refl _)) (Nat.le_refl _)) (vpCons (frame0 rfl) vpNil))) (glNone rfl) (by kernel_rfl) (St.same (VRows.same _ _) s)
noncomputable abbrev cvS : Cv := ⟨0, 1, ofPairs [(0, 0)], [(.oi 0, 0), (.oi 12, 12)]⟩
theorem begins (s : S0 c n w0 a w) : up0.wp Try.prog (fun e a' w' => e = .normal ∧ S1 c n w0 a' w') a w :=
  runTo_sound (T := plainD c 0 n) (T' := plainD c 0 n) (K := Hand.none) (n := 300) mixed (@HandOk.none (plainD c 0 n) Try.prog) (C := cvS) (rl := [(0, 0)]) (ex := .normal) (vp := []) (fs := fs1) (bs := bs0 0)
    (Base.none _) (Nat.zero_le _) rfl (by kernel_rfl) (ipCons rfl (ipCons rfl ipNil)) vpNil (glNone rfl) (by kernel_rfl) s
theorem none0 (hn : n = 0) (hc : CC c) (s : S0 c n w0 a w) : (restn 5 body).wp Try.prog (Out w0) a w :=
  @runTrue_sound _ _ _ _ _ _ (only (rZero_ok (k := 0) hn hc)).tab (frOf fs0) (hOf 1 (bs0 0)) mixed Hand.none (@HandOk.none (only (rZero_ok (k := 0) hn hc)).tab Try.prog) 300 Try.f4 (restn 5 body) (by kernel_rfl) (St.same (VRows.same _ _) s)

/-- behind the way up: all frames are there, or the next did not fit -/
def Up (c n : Nat) (w0 : World) (e : Exit) (a : Act) (w : World) : Prop := (e = .exit 0 ∧ SA c n n w0 a w) ∨ (e = .ret ∧ Out w0 e a w)
theorem goUp (hc : CC c) (hn : n ≤ 200) : ∀ (j k : Nat) (a : Act) (w : World), k ≤ n → n < k + j → k * (c + 6) ≤ 2048 → SA c k n w0 a w → Code.rounds Try.prog up (Up c n w0) j a w
  | 0, k, a, w, h1, h2, hw, s => by omega
  | j + 1, k, a, w, h1, h2, hw, s => by
    by_cases hk : k < n
    · by_cases hw2 : (k + 1) * (c + 6) ≤ 2048
      · refine rounds_of (wp_mono (pushAny hc hk hn hw2 s) ?_)
        rintro e a' w' ⟨rfl, s'⟩
        exact goUp hc hn j (k + 1) a' w' (by omega) (by omega) hw2 s'
      · refine rounds_of (wp_mono (over hc hk hn hw hw2 s) ?_)
        rintro e a' w' ⟨rfl, y⟩
        exact .inr ⟨rfl, y⟩
    · obtain rfl : k = n := by omega
      refine rounds_of (wp_mono (stop hc hk s) ?_)
      rintro e a' w' ⟨rfl, s'⟩
      exact .inl ⟨rfl, s'⟩
theorem goDown (hc : CC c) : ∀ (j k : Nat) (a : Act) (w : World), k ≤ 200 → k < j → SB c k n w0 a w → Code.rounds Try.prog down (fun e a w => e = .exit 2 ∧ SB c 0 n w0 a w) j a w
  | 0, k, a, w, h1, h2, s => by omega
  | j + 1, k, a, w, h1, h2, s => by
    by_cases hk : k = 0
    · subst hk
      refine rounds_of (wp_mono (empty rfl hc s) ?_)
      rintro e a' w' ⟨rfl, s'⟩
      exact ⟨rfl, s'⟩
    · refine rounds_of (wp_mono (popAny hc (by omega) h1 s) ?_)
      rintro e a' w' ⟨rfl, s'⟩
      exact goDown hc j (k - 1) a' w' (by omega) (by omega) s'

theorem back (hc : CC c) (hn : n ≤ 200) (s : S0 c n w0 a w) : (restn 5 body).wp Try.prog (Out w0) a w := by
  by_cases h0 : n = 0
  · exact none0 h0 hc s
  · rw [body_rest]
    refine wp_seq (wp_seq (wp_mono (begins s) ?_))
    rintro e a' w' ⟨rfl, s'⟩
    show (Code.block 0 (.loop up)).wp _ _ _ _
    refine wp_block (wp_mono (wp_loop_rounds (Q := Up c n w0) 300 (rounds_of (wp_mono (one hc (by omega) s') ?_))) ?_)
    · rintro e a2 w2 ⟨rfl, s2⟩
      exact goUp hc hn 299 1 a2 w2 (by omega) (by omega) (by rcases hc with rfl | rfl | rfl | rfl | rfl <;> omega) s2
    · rintro e a2 w2 (⟨rfl, s2⟩ | ⟨rfl, y⟩)
      · show (Code.seq (.seq down0 (.block 2 (.loop down))) last).wp _ _ _ _
        refine wp_seq (wp_seq (wp_mono (turns rfl hn hc s2) ?_))
        rintro e a3 w3 ⟨rfl, s3⟩
        show (Code.block 2 (.loop down)).wp _ _ _ _
        refine wp_block (wp_mono (wp_loop_rounds 300 (goDown hc 300 n a3 w3 hn (by omega) s3)) ?_)
        rintro e a4 w4 ⟨rfl, s4⟩
        exact ends rfl hc s4
      · exact y

abbrev onlyE {x y : Int} {ib : List BRow} (h : ∀ r ∈ ib, IbOk (ivE x y) r) : VRows (ivE x y) noV noK where
  vvp := noVp
  ib := ib
  ibok := h
noncomputable abbrev act0 (x y : Int) : Act := { tmps := #[.int .i64 x, .int .i64 y] ++ Array.replicate (Try.f4.ntmps - 2) undef, defers := [] }
theorem startE {x y : Int} (U : Tab) (hg : U.gv = fun _ _ => none) (p q : AV) (hp : @vrel U (fun _ => none) p (.int .i64 x)) (hq : @vrel U (fun _ => none) q (.int .i64 y)) (w : World) : St U (Kp.below w.heap.size) w (fun _ => none) Try.f4.ntmps (T.ofList 0 .leaf [p, q]) H.empty (act0 x y) w :=
  @St.start U [p, q] #[.int .i64 x, .int .i64 y] Try.f4.ntmps w (fun g o a h => by rw [hg] at h; cases h) (@vrels_cons U _ _ _ _ _ hp (@vrels_cons U _ _ _ _ _ hq (by simp [vrels]))) (show 2 ≤ Try.f4.ntmps by decide +kernel) (show 2 < limit by decide)
noncomputable abbrev cvI : Cv := ⟨0, 1, ofPairs [(0, 11)], [(.oi 0, 0), (.oi 12, 12)]⟩

theorem stackDeep_any (x y : Int) (w : World) : Calls Try.prog 4 #[.int .i64 x, .int .i64 y] w fun e w' => e = .returned (.bool true) ∧ Below w.heap.size w w' := by
  refine yes_calls Try.func4 body_eq w ?_
  show body.wp Try.prog (Out w) (act0 x y) w
  have out : ∀ {ib : List BRow} (h : ∀ r ∈ ib, IbOk (ivE x y) r), runTrue (onlyE h).tab Try.prog Hand.none 400 Try.f4 body (T.ofList 0 .leaf [.oi 0, .oi 1]) H.empty = true → body.wp Try.prog (Out w) (act0 x y) w := fun h e =>
    @runTrue_sound _ _ _ _ _ _ (onlyE h).tab _ _ mixed Hand.none (@HandOk.none (onlyE h).tab Try.prog) 400 Try.f4 body e (startE (onlyE h).tab rfl (.oi 0) (.oi 1) (by simp only [vrel]; rfl) (by simp only [vrel]; rfl) w)
  by_cases h1 : x < 0
  · exact out (rE1_ok h1) (by kernel_rfl)
  by_cases h2 : x > 200
  · exact out (rE2_ok h1 h2) (by kernel_rfl)
  by_cases h3 : y < 1
  · exact out (rE3_ok h1 h2 h3) (by kernel_rfl)
  by_cases h4 : y > 5
  · exact out (rE4_ok h1 h2 h3 h4) (by kernel_rfl)
  obtain ⟨n, rfl⟩ : ∃ n : Nat, x = (n : Int) := ⟨x.toNat, by omega⟩
  obtain ⟨c, rfl⟩ : ∃ c : Nat, y = (c : Int) := ⟨y.toNat, by omega⟩
  have hc : CC c := by unfold CC; omega
  have hn : n ≤ 200 := by omega
  refine firstTo_sound (T := (only (rIn_ok (k := 0) hc hn)).tab) (T' := plainD c 0 n) (K := Hand.none) (m := 400) (n := 5) mixed (@HandOk.none (only (rIn_ok (k := 0) hc hn)).tab Try.prog) (C := cvI) (rl := [(0, 11)]) (vp := []) (fs := fs0) (bs := bs0 11)
      (Base.none _) (Nat.zero_le _) rfl (by kernel_rfl) (ipCons rfl (ipCons rfl ipNil)) vpNil (glNone rfl) (by kernel_rfl) (startE (only (rIn_ok (k := 0) hc hn)).tab rfl (.oi 0) (.oi 12) (by simp only [vrel]; rfl) (by simp only [vrel]; rfl) w) fun a' w' s => ?_
  exact back hc hn s
end

end Go.Proofs.Ytpkpfgiboodekaa.deep
