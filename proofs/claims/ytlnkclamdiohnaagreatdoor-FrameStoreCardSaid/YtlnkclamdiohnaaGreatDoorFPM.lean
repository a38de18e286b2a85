/-
  The reference reads a field type: it answers, whatever the bytes.
-/
import Derived.Test.YtlnkclamdiohnaaGreatDoorFPL0
import Derived.Test.YtlnkclamdiohnaaGreatDoorFPL1
import Derived.Test.YtlnkclamdiohnaaGreatDoorFPL2
import Derived.Test.YtlnkclamdiohnaaGreatDoorFPL3
set_option linter.unusedVariables false
set_option linter.unusedSimpArgs false
set_option linter.unusedSectionVars false
set_option maxRecDepth 1000000
set_option maxHeartbeats 0
namespace Go.Proofs.YtlnkclamdiohnaaGreatDoor.fp
open Go.X Go.RowKit Go.Proofs
theorem find59 (s : ByteArray) (d : Nat) : ∀ k j, d + 1 + j + k = s.size → Run s d j → ∃ j', Run s d j' ∧ (d + 1 + j' = s.size ∨ (d + 1 + j' < s.size ∧ (byt s (d + 1 + j') != 59) = false))
  | 0, j, h, hr => ⟨j, hr, .inl (by omega)⟩
  | k + 1, j, h, hr => by
    cases hb : (byt s (d + 1 + j) != 59) with
    | false => exact ⟨j, hr, .inr ⟨by omega, hb⟩⟩
    | true =>
      refine find59 s d k (j + 1) (by omega) fun t ht => ?_
      by_cases he : t = j
      · subst he
        exact ⟨by omega, hb⟩
      · exact hr t (by omega)
section
variable {s : ByteArray} {B : Kp} {w0 w : World} {μ : M} {a : Act}
abbrev EndsF (s : ByteArray) (d : Nat) : Prop := ∃ K nm D E n, ∀ B w0 μ, Base B μ 0 → ∀ a w, FS s d B w0 μ a w → fT.wp Tryz.prog (fun e a' w' => e = .ret ∧ FZ s K nm D E n B w0 μ a' w') a w
theorem endLnf {d j : Nat} (hg : GLnf j) (hs : s.size ≤ 60) (hlt : d < s.size) (c0 : (byt s d == 66) = false) (c1 : (byt s d == 67) = false) (c2 : (byt s d == 73) = false) (c3 : (byt s d == 74) = false) (c4 : (byt s d == 83) = false) (c5 : (byt s d == 90) = false) (c6 : (byt s d == 76) = true) (hr : Run s d j) (hj : d + 1 + j = s.size)  : EndsF s d := ⟨_, _, _, _, _, fun B w0 μ hb a w s' => (show fT.wp Tryz.prog (fun e a' w' => e = .ret ∧ FZ s 0 (strOf 0 0) 0 0 0 B w0 μ a' w') a w from
  runTo_sound (fr := frOf fsF) (h := hOf 1 bsF) (T := TLnf hs hlt c0 c1 c2 c3 c4 c5 c6 hr hj) (T' := plZ s 0 (strOf 0 0) 0 0 0) (K := Hand.none) (n := 3000) mixed (@HandOk.none (TLnf hs hlt c0 c1 c2 c3 c4 c5 c6 hr hj) Tryz.prog) (C := (⟨0, 1, ofPairs [(0, 0)], [(.int .u8 0, 0), (.str 0 0, 0), (.int .i64 0, 1), (.int .u8 0, 2), (.int .i64 0, 3)]⟩ : Cv)) (rl := [(0, 0)]) (ex := .ret) (vp := []) (fs := [(2, .ptr 0 0), (3, .oi 3)]) (bs := [(0, 0, rowOf rowZ false)])
    hb (Nat.zero_le _) rfl (by kernel_rfl) (ipCons (ipK2 rfl) (ipCons (ipT (by rfl)) (ipCons (ipC rfl) (ipCons (ipK2 rfl) (ipCons (ipC rfl) ipNil))))) vpNil (glNone rfl rfl) (hg s d hs hlt c0 c1 c2 c3 c4 c5 c6 hr hj) (St.same sameRT (s'.at j hb)))⟩
theorem endLbad {d j : Nat} (hg : GLbad j) (hs : s.size ≤ 60) (hlt : d < s.size) (c0 : (byt s d == 66) = false) (c1 : (byt s d == 67) = false) (c2 : (byt s d == 73) = false) (c3 : (byt s d == 74) = false) (c4 : (byt s d == 83) = false) (c5 : (byt s d == 90) = false) (c6 : (byt s d == 76) = true) (hr : Run s d j) (hj : d + 1 + j < s.size) (h59 : (byt s (d + 1 + j) != 59) = false) (hp17 : Ans 17 #[.string (s.extract (d + 1) (d + 1 + j))] (.bool false)) : EndsF s d := ⟨_, _, _, _, _, fun B w0 μ hb a w s' => (show fT.wp Tryz.prog (fun e a' w' => e = .ret ∧ FZ s 0 (strOf 0 0) 0 0 0 B w0 μ a' w') a w from
  runTo_sound (fr := frOf fsF) (h := hOf 1 bsF) (T := TLbad hs hlt c0 c1 c2 c3 c4 c5 c6 hr hj h59) (T' := plZ s 0 (strOf 0 0) 0 0 0) (K := (oneHand 17 [.ostr 1] (.bool false))) (n := 3000) mixed (@valHand (TLbad hs hlt c0 c1 c2 c3 c4 c5 c6 hr hj h59) _ _ [.string (s.extract (d + 1) (d + 1 + j))] _ _ (@one_s (TLbad hs hlt c0 c1 c2 c3 c4 c5 c6 hr hj h59) _ _ rfl) (fun μ => by simp only [vrel]) hp17) (C := (⟨0, 1, ofPairs [(0, 0)], [(.int .u8 0, 0), (.str 0 0, 0), (.int .i64 0, 1), (.int .u8 0, 2), (.int .i64 0, 3)]⟩ : Cv)) (rl := [(0, 0)]) (ex := .ret) (vp := []) (fs := [(2, .ptr 0 0), (3, .oi 3)]) (bs := [(0, 0, rowOf rowZ false)])
    hb (Nat.zero_le _) rfl (by kernel_rfl) (ipCons (ipK2 rfl) (ipCons (ipT (by rfl)) (ipCons (ipC rfl) (ipCons (ipK2 rfl) (ipCons (ipC rfl) ipNil))))) vpNil (glNone rfl rfl) (hg s d hs hlt c0 c1 c2 c3 c4 c5 c6 hr hj h59) (St.same sameRT (s'.at j hb)))⟩
theorem endLok0 {d j : Nat} (hg : GLok0 j) (hs : s.size ≤ 60) (hlt : d < s.size) (c0 : (byt s d == 66) = false) (c1 : (byt s d == 67) = false) (c2 : (byt s d == 73) = false) (c3 : (byt s d == 74) = false) (c4 : (byt s d == 83) = false) (c5 : (byt s d == 90) = false) (c6 : (byt s d == 76) = true) (hr : Run s d j) (hj : d + 1 + j < s.size) (h59 : (byt s (d + 1 + j) != 59) = false) (hp : d = 0) (hp17 : Ans 17 #[.string (s.extract (d + 1) (d + 1 + j))] (.bool true)) : EndsF s d := ⟨_, _, _, _, _, fun B w0 μ hb a w s' => (show fT.wp Tryz.prog (fun e a' w' => e = .ret ∧ FZ s (byt s d) (s.extract (d + 1) (d + 1 + j)) 0 0 ((d + 1 + (j + 1) : Nat) : Int) B w0 μ a' w') a w from
  runTo_sound (fr := frOf fsF) (h := hOf 1 bsF) (T := TLok0 hs hlt c0 c1 c2 c3 c4 c5 c6 hr hj h59 hp) (T' := plZ s (byt s d) (s.extract (d + 1) (d + 1 + j)) 0 0 ((d + 1 + (j + 1) : Nat) : Int)) (K := (oneHand 17 [.ostr 1] (.bool true))) (n := 3000) mixed (@valHand (TLok0 hs hlt c0 c1 c2 c3 c4 c5 c6 hr hj h59 hp) _ _ [.string (s.extract (d + 1) (d + 1 + j))] _ _ (@one_s (TLok0 hs hlt c0 c1 c2 c3 c4 c5 c6 hr hj h59 hp) _ _ rfl) (fun μ => by simp only [vrel]) hp17) (C := (⟨0, 1, ofPairs [(0, 0)], [(.oi 3, 0), (.ostr 1, 0), (.int .i64 0, 1), (.int .u8 0, 2), (.oi (5 + 2 * (j + 1)), 3)]⟩ : Cv)) (rl := [(0, 0)]) (ex := .ret) (vp := []) (fs := [(2, .ptr 0 0), (3, .oi 3)]) (bs := [(0, 0, rowOf rowZ false)])
    hb (Nat.zero_le _) rfl (by kernel_rfl) (ipCons (ipO (.u8, byt s d) rfl rfl) (ipCons (ipS rfl) (ipCons (ipC rfl) (ipCons (ipK2 rfl) (ipCons (ipO (.i64, ((d + 1 + (j + 1) : Nat) : Int)) (ivFn s d (j + 1)) rfl) ipNil))))) vpNil (glNone rfl rfl) (hg s d hs hlt c0 c1 c2 c3 c4 c5 c6 hr hj h59 hp) (St.same sameRT (s'.at j hb)))⟩
theorem endLok1 {d j : Nat} (hg : GLok1 j) (hs : s.size ≤ 60) (hlt : d < s.size) (c0 : (byt s d == 66) = false) (c1 : (byt s d == 67) = false) (c2 : (byt s d == 73) = false) (c3 : (byt s d == 74) = false) (c4 : (byt s d == 83) = false) (c5 : (byt s d == 90) = false) (c6 : (byt s d == 76) = true) (hr : Run s d j) (hj : d + 1 + j < s.size) (h59 : (byt s (d + 1 + j) != 59) = false) (hp : 0 < d) (hp17 : Ans 17 #[.string (s.extract (d + 1) (d + 1 + j))] (.bool true)) : EndsF s d := ⟨_, _, _, _, _, fun B w0 μ hb a w s' => (show fT.wp Tryz.prog (fun e a' w' => e = .ret ∧ FZ s 91 (s.extract (d + 1) (d + 1 + j)) (d : Int) (byt s d) ((d + 1 + (j + 1) : Nat) : Int) B w0 μ a' w') a w from
  runTo_sound (fr := frOf fsF) (h := hOf 1 bsF) (T := TLok1 hs hlt c0 c1 c2 c3 c4 c5 c6 hr hj h59 hp) (T' := plZ s 91 (s.extract (d + 1) (d + 1 + j)) (d : Int) (byt s d) ((d + 1 + (j + 1) : Nat) : Int)) (K := (oneHand 17 [.ostr 1] (.bool true))) (n := 3000) mixed (@valHand (TLok1 hs hlt c0 c1 c2 c3 c4 c5 c6 hr hj h59 hp) _ _ [.string (s.extract (d + 1) (d + 1 + j))] _ _ (@one_s (TLok1 hs hlt c0 c1 c2 c3 c4 c5 c6 hr hj h59 hp) _ _ rfl) (fun μ => by simp only [vrel]) hp17) (C := (⟨0, 1, ofPairs [(0, 0)], [(.int .u8 91, 0), (.ostr 1, 0), (.oi 1, 1), (.oi 3, 2), (.oi (5 + 2 * (j + 1)), 3)]⟩ : Cv)) (rl := [(0, 0)]) (ex := .ret) (vp := []) (fs := [(2, .ptr 0 0), (3, .oi 3)]) (bs := [(0, 0, rowOf rowZ false)])
    hb (Nat.zero_le _) rfl (by kernel_rfl) (ipCons (ipK2 rfl) (ipCons (ipS rfl) (ipCons (ipO (.i64, (d : Int)) rfl rfl) (ipCons (ipO (.u8, byt s d) rfl rfl) (ipCons (ipO (.i64, ((d + 1 + (j + 1) : Nat) : Int)) (ivFn s d (j + 1)) rfl) ipNil))))) vpNil (glNone rfl rfl) (hg s d hs hlt c0 c1 c2 c3 c4 c5 c6 hr hj h59 hp) (St.same sameRT (s'.at j hb)))⟩
theorem ends (hs : s.size ≤ 60) (d : Nat) : EndsF s d := by
  by_cases hlt : d < s.size
  · cases c0 : (byt s d == 66) with
    | true =>
      by_cases hp : 0 < d
      · exact ⟨_, _, _, _, _, fun B w0 μ hb a w s' => endF01 hb hs hlt c0 hp s'⟩
      · exact ⟨_, _, _, _, _, fun B w0 μ hb a w s' => endF00 hb hs hlt c0 (by omega) s'⟩
    | false =>
    cases c1 : (byt s d == 67) with
    | true =>
      by_cases hp : 0 < d
      · exact ⟨_, _, _, _, _, fun B w0 μ hb a w s' => endF11 hb hs hlt c0 c1 hp s'⟩
      · exact ⟨_, _, _, _, _, fun B w0 μ hb a w s' => endF10 hb hs hlt c0 c1 (by omega) s'⟩
    | false =>
    cases c2 : (byt s d == 73) with
    | true =>
      by_cases hp : 0 < d
      · exact ⟨_, _, _, _, _, fun B w0 μ hb a w s' => endF21 hb hs hlt c0 c1 c2 hp s'⟩
      · exact ⟨_, _, _, _, _, fun B w0 μ hb a w s' => endF20 hb hs hlt c0 c1 c2 (by omega) s'⟩
    | false =>
    cases c3 : (byt s d == 74) with
    | true =>
      by_cases hp : 0 < d
      · exact ⟨_, _, _, _, _, fun B w0 μ hb a w s' => endF31 hb hs hlt c0 c1 c2 c3 hp s'⟩
      · exact ⟨_, _, _, _, _, fun B w0 μ hb a w s' => endF30 hb hs hlt c0 c1 c2 c3 (by omega) s'⟩
    | false =>
    cases c4 : (byt s d == 83) with
    | true =>
      by_cases hp : 0 < d
      · exact ⟨_, _, _, _, _, fun B w0 μ hb a w s' => endF41 hb hs hlt c0 c1 c2 c3 c4 hp s'⟩
      · exact ⟨_, _, _, _, _, fun B w0 μ hb a w s' => endF40 hb hs hlt c0 c1 c2 c3 c4 (by omega) s'⟩
    | false =>
    cases c5 : (byt s d == 90) with
    | true =>
      by_cases hp : 0 < d
      · exact ⟨_, _, _, _, _, fun B w0 μ hb a w s' => endF51 hb hs hlt c0 c1 c2 c3 c4 c5 hp s'⟩
      · exact ⟨_, _, _, _, _, fun B w0 μ hb a w s' => endF50 hb hs hlt c0 c1 c2 c3 c4 c5 (by omega) s'⟩
    | false =>
    cases c6 : (byt s d == 76) with
    | false => exact ⟨_, _, _, _, _, fun B w0 μ hb a w s' => endF7 hb hs hlt c0 c1 c2 c3 c4 c5 c6 s'⟩
    | true =>
      obtain ⟨j, hr, hj | ⟨hj, h59⟩⟩ := find59 s d (s.size - (d + 1)) 0 (by omega) (fun t ht => by omega)
      · exact endLnf (lnf j (by omega)) hs hlt c0 c1 c2 c3 c4 c5 c6 hr hj
      · obtain ⟨b, hp17⟩ := class_ans (s.extract (d + 1) (d + 1 + j)) (by rw [ByteArray.size_extract]; omega)
        cases b with
        | false => exact endLbad (lbad j (by omega)) hs hlt c0 c1 c2 c3 c4 c5 c6 hr hj h59 hp17
        | true =>
          by_cases hp : 0 < d
          · exact endLok1 (lok1 j (by omega)) hs hlt c0 c1 c2 c3 c4 c5 c6 hr hj h59 hp hp17
          · exact endLok0 (lok0 j (by omega)) hs hlt c0 c1 c2 c3 c4 c5 c6 hr hj h59 (by omega) hp17
  · exact ⟨_, _, _, _, _, fun B w0 μ hb a w s' => endFnone hb hlt s'⟩
theorem roundsF (hs : s.size < 1900) : ∀ j i, s.size ≤ i + j → i ≤ s.size → ∃ d, ∀ B w0 μ, Base B μ 0 → ∀ a w, FS s i B w0 μ a w → Code.rounds Tryz.prog fL (fun e a w => e = .exit 0 ∧ FS s d B w0 μ a w) (j + 1) a w := by
  have stop : ∀ j i, (∀ B w0 μ, Base B μ 0 → ∀ a w, FS s i B w0 μ a w → fL.wp Tryz.prog (fun e a' w' => e = .exit 0 ∧ FS s i B w0 μ a' w') a w) → ∃ d, ∀ B w0 μ, Base B μ 0 → ∀ a w, FS s i B w0 μ a w → Code.rounds Tryz.prog fL (fun e a w => e = .exit 0 ∧ FS s d B w0 μ a w) (j + 1) a w := by
    intro j i h
    refine ⟨i, fun B w0 μ hb a w s' => rounds_of (wp_mono (h B w0 μ hb a w s') ?_)⟩
    rintro e a' w' ⟨rfl, s2⟩
    exact ⟨rfl, s2⟩
  intro j
  induction j with
  | zero => exact fun i h1 h2 => stop 0 i fun B w0 μ hb a w s' => goFX0 hb (by omega) (by omega) s'
  | succ j ih =>
    intro i h1 h2
    by_cases hlt : i < s.size
    · cases e0 : (byt s i == 91) with
      | false => exact stop (j + 1) i fun B w0 μ hb a w s' => goFX1 hb (by omega) hlt e0 s'
      | true =>
        obtain ⟨d, hr⟩ := ih (i + 1) (by omega) (by omega)
        refine ⟨d, fun B w0 μ hb a w s' => rounds_of (wp_mono (goFG hb (by omega) hlt e0 s') ?_)⟩
        rintro e a' w' ⟨rfl, s2⟩
        exact hr B w0 μ hb a' w' s2
    · exact stop (j + 1) i fun B w0 μ hb a w s' => goFX0 hb (by omega) hlt s'
theorem firstF (K : Int) (nm : ByteArray) (D E n : Int) : firstTo (plZ s K nm D E n) Tryz.prog Hand.none 100 Tryz.f24.ntmps 2 fb (T.ofList 0 .leaf [.ostr 1]) H.empty (⟨0, 1, ofPairs [(0, 0)], [(.ostr 1, 0), (.int .i64 0, 1)]⟩ : Cv) [] fsF bsF = true := by kernel_rfl
end
theorem resFr (K : Int) : results? Tryz.prog Tryz.f24 (frOf [(2, .ptr 0 0), (3, .oi 3)]) (hOf 1 [(0, 0, rowOf rowZ false)]) = some (.tup [.agg rowZ, .oi 3]) := by kernel_rfl
theorem isAgg4 [Tab] {x0 x1 x2 x3 : AV} {v0 v1 v2 v3 : Value} (h0 : ∀ (μ : M) v, vrel μ x0 v → v = v0) (h1 : ∀ (μ : M) v, vrel μ x1 v → v = v1) (h2 : ∀ (μ : M) v, vrel μ x2 v → v = v2) (h3 : ∀ (μ : M) v, vrel μ x3 v → v = v3) (μ : M) (v' : Value) (h : vrel μ (.agg [x0, x1, x2, x3]) v') : v' = .agg #[v0, v1, v2, v3] := by
  simp only [vrel] at h
  obtain ⟨cs, rfl, a0, l0, rfl, g0, a1, l1, rfl, g1, a2, l2, rfl, g2, a3, l3, rfl, g3, g4⟩ := h
  have : l3 = [] := g4
  rw [this, h0 μ a0 g0, h1 μ a1 g1, h2 μ a2 g2, h3 μ a3 g3]
theorem isOiV [Tab] {j : Nat} {k : IntKind} {n : Int} (hj : Tab.iv j = (k, n)) (μ : M) (v : Value) (g : vrel μ (.oi j) v) : v = .int k n := by
  simp only [vrel] at g
  rw [g, hj]
theorem isOst [Tab] {j : Nat} {s : ByteArray} (hj : Tab.str j = s) (μ : M) (v : Value) (g : vrel μ (.ostr j) v) : v = .string s := by
  simp only [vrel] at g
  rw [g, hj]
theorem front_ans (s : ByteArray) (hs : s.size ≤ 60) : ∃ K nm D E n, Ans 24 #[.string s] (.tuple #[.agg #[.int .u8 K, .string nm, .int .i64 D, .int .u8 E], .int .i64 n]) := by
  obtain ⟨d, hr⟩ := roundsF (s := s) (by omega) s.size 0 (by omega) (Nat.zero_le _)
  obtain ⟨K, nm, D, E, n, he⟩ := ends hs d
  refine ⟨K, nm, D, E, n, ?_⟩
  letI : Tab := plZ s K nm D E n
  refine ans_of (args := [.ostr 1]) (a := .tup [.agg rowZ, .oi 3]) (q := hOf 1 [(0, 0, rowOf rowZ false)]) ?_ (tup2 (isAgg4 (isOiV rfl) (isOst rfl) (isOiV rfl) (isOiV rfl)) (isOiV rfl)) (vrels_cons (by simp only [vrel]; rfl) (by simp [vrels])) rfl rfl
  refine @callOk_of Tryz.prog (plZ s K nm D E n) 24 Tryz.f24 fb [.ostr 1] H.empty _ _ Tryz.func24 fb_eq (show 1 ≤ Tryz.f24.ntmps by decide +kernel) (show 1 < limit by decide) fun B w0 μ a w hb s' => ?_
  have hb : Base B μ 0 := hb
  refine firstTo_sound (T := plZ s K nm D E n) (T' := plF s 0 0) (K := Hand.none) (m := 100) (n := 2) mixed (@HandOk.none (plZ s K nm D E n) Tryz.prog) (C := (⟨0, 1, ofPairs [(0, 0)], [(.ostr 1, 0), (.int .i64 0, 1)]⟩ : Cv)) (rl := [(0, 0)]) (vp := []) (fs := fsF) (bs := bsF)
    hb (Nat.zero_le _) rfl (by kernel_rfl) (ipCons (ipS rfl) (ipCons (ipC rfl) ipNil)) vpNil (glNone rfl rfl) (firstF K nm D E n) s' fun a1 w1 s1 => ?_
  rw [f_eq]
  refine wp_seq ?_
  refine wp_block (wp_mono (wp_loop_rounds _ (hr B w0 μ hb a1 w1 s1)) ?_)
  rintro e a3 w3 ⟨rfl, s3⟩
  show fT.wp _ _ _ _
  refine wp_mono (he B w0 μ hb a3 w3 s3) ?_
  rintro e a4 w4 ⟨rfl, s4⟩
  exact St.done (τ := plZ s K nm D E n) (e := .ret) (.inr rfl) (resFr K) s4
/- Field -/
abbrev ivY (s : ByteArray) (K D E n : Int) : Nat → IntKind × Int
  | 0 => (.u8, K)
  | 1 => (.i64, D)
  | 2 => (.u8, E)
  | 3 => (.i64, n)
  | _ => (.i64, (s.size : Int))
abbrev TYR (s : ByteArray) (K : Int) (nm : ByteArray) (D E n : Int) (ib : List BRow) (hib : ∀ r ∈ ib, IbOk (ivY s K D E n) r) : Tab := RT (ivY s K D E n) (strZ nm s) ib hib [] icNil [(0, [.ostr 1], .oi 4)] (txCons (trLen rfl) txNil) [] allNil
noncomputable abbrev KY : Hand := oneHand 24 [.ostr 1] (.tup [.agg rowZ, .oi 3])
section
variable {s nm : ByteArray} {K D E n : Int}
theorem y0 (h : n = 0) : ∀ r ∈ ([(9, .oi 3, .int .i64 0, .bool true)] : List BRow), IbOk (ivY s K D E n) r := ibCons (ibB (op := .eql) rfl rfl (k := .i64) (a := n) (b := 0) rfl rfl (tB (by simp [h]))) ibNil
theorem y1 (h : n ≠ 0) (h2 : n ≠ (s.size : Int)) : ∀ r ∈ ([(9, .oi 3, .int .i64 0, .bool false), (10, .oi 3, .oi 4, .bool true)] : List BRow), IbOk (ivY s K D E n) r := ibCons (ibB (op := .eql) rfl rfl (k := .i64) (a := n) (b := 0) rfl rfl (tB (by simp [h]))) (ibCons (ibB (op := .neq) rfl rfl (k := .i64) (a := n) (b := (s.size : Int)) rfl rfl (tB (by simp [h2]))) ibNil)
theorem y2 (h : n ≠ 0) (h2 : n = (s.size : Int)) : ∀ r ∈ ([(9, .oi 3, .int .i64 0, .bool false), (10, .oi 3, .oi 4, .bool false)] : List BRow), IbOk (ivY s K D E n) r := ibCons (ibB (op := .eql) rfl rfl (k := .i64) (a := n) (b := 0) rfl rfl (tB (by simp [h]))) (ibCons (ibB (op := .neq) rfl rfl (k := .i64) (a := n) (b := (s.size : Int)) rfl rfl (tB (by simp [h2]))) ibNil)
noncomputable abbrev rZ0 : AV := .tup [.agg [.int .u8 0, .str 0 0, .int .i64 0, .int .u8 0], .bool false]
theorem runY0 (h : n = 0) : @retIs (TYR s K nm D E n _ (y0 h)) KY 200 16 [.ostr 1] rZ0 = true := by as_aux_lemma => kernel_rfl
theorem runY1 (h : n ≠ 0) (h2 : n ≠ (s.size : Int)) : @retIs (TYR s K nm D E n _ (y1 h h2)) KY 200 16 [.ostr 1] rZ0 = true := by as_aux_lemma => kernel_rfl
theorem runY2 (h : n ≠ 0) (h2 : n = (s.size : Int)) : @retIs (TYR s K nm D E n _ (y2 h h2)) KY 200 16 [.ostr 1] (.tup [.agg rowZ, .bool true]) = true := by as_aux_lemma => kernel_rfl
end
theorem mkAgg4 [Tab] {x0 x1 x2 x3 : AV} {v0 v1 v2 v3 : Value} {μ : M} (h0 : vrel μ x0 v0) (h1 : vrel μ x1 v1) (h2 : vrel μ x2 v2) (h3 : vrel μ x3 v3) : vrel μ (.agg [x0, x1, x2, x3]) (.agg #[v0, v1, v2, v3]) := by
  simp only [vrel]
  exact ⟨[v0, v1, v2, v3], rfl, vrels_cons h0 (vrels_cons h1 (vrels_cons h2 (vrels_cons h3 (by simp [vrels]))))⟩
theorem isInt [Tab] {k : IntKind} {n : Int} (μ : M) (v : Value) (g : vrel μ (.int k n) v) : v = .int k n := by
  simp only [vrel] at g
  exact g
theorem isStr0 [Tab] (μ : M) (v : Value) (g : vrel μ (.str 0 0) v) : v = .string (strOf 0 0) := by
  simp only [vrel] at g
  exact g.2
theorem field_ans (s : ByteArray) (hs : s.size ≤ 60) : ∃ K nm D E b, Ans 16 #[.string s] (.tuple #[.agg #[.int .u8 K, .string nm, .int .i64 D, .int .u8 E], .bool b]) := by
  obtain ⟨K, nm, D, E, n, hf⟩ := front_ans s hs
  have hand : ∀ (T : Tab), T.iv = ivY s K D E n → T.str = strZ nm s → @HandOk T Tryz.prog KY := by
    intro T hv hs'
    letI : Tab := T
    exact valHand (vs := [.string s]) (one_s (by rw [hs']; rfl)) (fun μ => mk2 (mkAgg4 (by simp only [vrel]; rw [hv]; rfl) (by simp only [vrel]; rw [hs']; rfl) (by simp only [vrel]; rw [hv]; rfl) (by simp only [vrel]; rw [hv]; rfl)) (by simp only [vrel]; rw [hv]; rfl)) hf
  by_cases h : n = 0
  · refine ⟨0, strOf 0 0, 0, 0, false, ?_⟩
    letI : Tab := TYR s K nm D E n _ (y0 h)
    obtain ⟨q, o⟩ := ret_of (hand _ rfl rfl) (runY0 (s := s) (nm := nm) (K := K) (D := D) (E := E) h)
    exact ans_of o (tup2 (isAgg4 isInt isStr0 isInt isInt) isBool) (vrels_cons (by simp only [vrel]; rfl) (by simp [vrels])) rfl rfl
  · by_cases h2 : n = (s.size : Int)
    · refine ⟨K, nm, D, E, true, ?_⟩
      letI : Tab := TYR s K nm D E n _ (y2 h h2)
      obtain ⟨q, o⟩ := ret_of (hand _ rfl rfl) (runY2 (s := s) (nm := nm) (K := K) (D := D) (E := E) h h2)
      exact ans_of o (tup2 (isAgg4 (isOiV rfl) (isOst rfl) (isOiV rfl) (isOiV rfl)) isBool) (vrels_cons (by simp only [vrel]; rfl) (by simp [vrels])) rfl rfl
    · refine ⟨0, strOf 0 0, 0, 0, false, ?_⟩
      letI : Tab := TYR s K nm D E n _ (y1 h h2)
      obtain ⟨q, o⟩ := ret_of (hand _ rfl rfl) (runY1 (s := s) (nm := nm) (K := K) (D := D) (E := E) h h2)
      exact ans_of o (tup2 (isAgg4 isInt isStr0 isInt isInt) isBool) (vrels_cons (by simp only [vrel]; rfl) (by simp [vrels])) rfl rfl
end Go.Proofs.YtlnkclamdiohnaaGreatDoor.fp
