/-
  What the law TopSort gives: the law itself.
-/
import Derived.Test.YtaabcpibfignfaaGreatDoorSOT
set_option linter.unusedSectionVars false
set_option linter.unusedVariables false
set_option maxRecDepth 1000000
set_option maxHeartbeats 0
namespace Go.Proofs.YtaabcpibfignfaaGreatDoor.so
open Go.X Go.RowKit Go.Proofs.YtaabcpibfignfaaGreatDoor.tq Go.Proofs.YtaabcpibfignfaaGreatDoor
section
variable {w0 : World} {a : Act} {w : World}
def SLw (n y s i : Nat) (A : Nat → Nat) (w0 : World) (a : Act) (w : World) : Prop := St (PK n y s A) (Kp.below w0.heap.size) w0 (fun _ => none) NT (frOf (fsL i)) (hOf 17251 (bsK i)) a w
def SKw (n y s i k : Nat) (A : Nat → Nat) (w0 : World) (a : Act) (w : World) : Prop := St (PK n y s A) (Kp.below w0.heap.size) w0 (fun _ => none) NT (frOf (fsK i k)) (hOf 17251 (bsK (i + 1))) a w
def SEw (n y s i : Nat) (A : Nat → Nat) (w0 : World) (a : Act) (w : World) : Prop := St (PK n y s A) (Kp.below w0.heap.size) w0 (fun _ => none) NT (frOf (fsE i)) (hOf 17251 (bsK (i + 1))) a w
theorem okRn_append {C : Cv} : ∀ {l m : List (Nat × Nat)}, okRn C l = true → okRn C m = true → okRn C (l ++ m) = true
  | [], m, _, h => h
  | p :: l, m, h1, h2 => by
    have e' : (@Bool.rec (fun _ => Bool) false (okRn C l) (Nat.blt p.1 C.N && Nat.blt p.1 limit)) = true := h1
    show (@Bool.rec (fun _ => Bool) false (okRn C (l ++ m)) (Nat.blt p.1 C.N && Nat.blt p.1 limit)) = true
    cases h3 : (Nat.blt p.1 C.N && Nat.blt p.1 limit) with
    | false => rw [h3] at e'; cases e'
    | true => rw [h3] at e'; exact okRn_append (l := l) e' h2
theorem rl_ok (ip : IP) (x i : Nat) (r : List (Nat × Nat)) : okRn ⟨0, 17251, ofPairs r, ip⟩ (rlL ++ rlA x i) = true := by
  refine okRn_append (by kernel_rfl) ?_
  cases i with
  | zero => rfl
  | succ i => show okRn ⟨0, 17251, ofPairs r, ip⟩ [(17250, x)] = true; kernel_rfl
theorem goHd {n y s i : Nat} {A : Nat → Nat} (hi : i < 24) (h : i < n) (hn : n < 25) (hs : s < 1009) (st : SLw n y s i A w0 a w) : c1.wp Tryz.prog (fun e a' w' => e = .normal ∧ SLw n y s i A w0 a' w') a w :=
  runTo_sound (T := (RHd (y := y) (A := A) h hn hs).tab) (T' := PK n y s A) (K := HN) (n := 300) mixed (@HandOk.none (RHd (y := y) (A := A) h hn hs).tab Tryz.prog) (C := ⟨0, 17251, ofPairs (rlK i), ipB 1 idf i⟩) (ex := .normal) (rl := rlK i) (vp := []) (fs := fsL i) (bs := bsK i)
    (Base.none _) (Nat.zero_le _) rfl (rl_ok _ _ _ _) (ipB_ok (n := n) (y := y) (s := s) (s' := s) (A := A) (A' := A) rfl rfl rfl fun m _ => rfl) vpNil (glNone rfl rfl) (hd_all i (nums_all i hi) h hn hs) (St.same (VRows.same _ _) st)
theorem ipH_ok {T T' : Tab} {n y s : Nat} {A : Nat → Nat} {i : Nat} (e : T.iv = ivK n y s A) (e' : T'.iv = ivK n y ((s * 61 + 17) % 1009) (put A i ((s * 61 + 17) % 1009))) : IpOk T T' (ipH i) := by
  refine ipCons (ipN (.i64, ((n : Nat) : Int)) (by rw [e]) (by rw [e'])) (ipCons (ipN (.i64, (((s * 61 + 17) % 1009 : Nat) : Int)) (by rw [e]) (by rw [e'])) (ipCons (ipN (.i64, ((y : Nat) : Int)) (by rw [e]) (by rw [e'])) ?_))
  intro p hp
  obtain ⟨m, hm, rfl⟩ := List.mem_map.1 hp
  show IpOk1 T T' (.oi (if m = i then 5 else m + 6), m + 6)
  by_cases c : m = i
  · rw [if_pos c]
    exact ipN (.i64, (((s * 61 + 17) % 1009 : Nat) : Int)) (by rw [e]) (by rw [e']; show (IntKind.i64, ((put A i ((s * 61 + 17) % 1009) m : Nat) : Int)) = _; unfold put; rw [if_pos c])
  · rw [if_neg c]
    exact ipN (.i64, ((A m : Nat) : Int)) (by rw [e]) (by rw [e']; show (IntKind.i64, ((put A i ((s * 61 + 17) % 1009) m : Nat) : Int)) = _; unfold put; rw [if_neg c])
theorem bsNx (i : Nat) : hOf 17251 (bsL ++ bsA 17252 (i + 1)) = hOf 17251 (bsK (i + 1)) := hOf_congr (by kernel_rfl)
theorem goAp {n y s i : Nat} {A : Nat → Nat} (hi : i < 24) (h : i < n) (hn : n < 25) (hs : s < 1009) {Q : Exit → Act → World → Prop} (st : SLw n y s i A w0 a w)
    (k : ∀ a' w', SKw n y ((s * 61 + 17) % 1009) i i (put A i ((s * 61 + 17) % 1009)) w0 a' w' → (Code.block 2 (.loop l2)).wp Tryz.prog Q a' w') : cA.wp Tryz.prog Q a w := by
  refine firstTo_sound (T := (RHd (y := y) (A := A) h hn hs).tab) (T' := PK n y ((s * 61 + 17) % 1009) (put A i ((s * 61 + 17) % 1009))) (K := HN) (m := 300) (n := 3) mixed (@HandOk.none (RHd (y := y) (A := A) h hn hs).tab Tryz.prog) (C := ⟨0, 17251, ofPairs (rlL ++ rlA 17252 (i + 1)), ipH i⟩) (rl := rlL ++ rlA 17252 (i + 1)) (vp := []) (fs := fsK i i) (bs := bsL ++ bsA 17252 (i + 1))
    (Base.none _) (Nat.zero_le _) rfl (rl_ok _ _ _ _) (ipH_ok rfl rfl) vpNil (glNone rfl rfl) (ap_all i (nums_all i hi) h hn hs) (St.same (VRows.same _ _) st) fun a' w' q => ?_
  rw [cA_eq]
  refine k a' w' ?_
  rw [bsNx] at q
  exact q
theorem goSw {n y s i k : Nat} {A : Nat → Nat} (hi : i < 24) (hk : k < i) (h : A (k + 1) < A k) (st : SKw n y s i (k + 1) A w0 a w) : l2.wp Tryz.prog (fun e a' w' => e = .normal ∧ SKw n y s i k (swp A k) w0 a' w') a w :=
  runTo_sound (T := (RSw (n := n) (y := y) (s := s) h).tab) (T' := PK n y s (swp A k)) (K := HN) (n := 300) mixed (@HandOk.none (RSw (n := n) (y := y) (s := s) h).tab Tryz.prog) (C := ⟨0, 17251, ofPairs (rlK (i + 1)), ipB 1 (swf k) (i + 1)⟩) (ex := .normal) (rl := rlK (i + 1)) (vp := []) (fs := fsK i k) (bs := bsK (i + 1))
    (Base.none _) (Nat.zero_le _) rfl (rl_ok _ _ _ _) (ipB_ok (n := n) (y := y) (s := s) (s' := s) (A := A) (A' := swp A k) rfl rfl rfl fun m _ => by show (IntKind.i64, ((A (swf k m) : Nat) : Int)) = _; rw [swf_ok A k m]) vpNil (glNone rfl rfl) (sw_all (i, k) (prs_all i hi k hk) h) (St.same (VRows.same _ _) st)
theorem goSx {n y s i k : Nat} {A : Nat → Nat} (hi : i < 24) (hk : k < i) (h : ¬ A (k + 1) < A k) (st : SKw n y s i (k + 1) A w0 a w) : l2.wp Tryz.prog (fun e a' w' => e = .exit 2 ∧ SEw n y s i A w0 a' w') a w :=
  runTo_sound (T := (RSx (n := n) (y := y) (s := s) h).tab) (T' := PK n y s A) (K := HN) (n := 300) mixed (@HandOk.none (RSx (n := n) (y := y) (s := s) h).tab Tryz.prog) (C := ⟨0, 17251, ofPairs (rlK (i + 1)), ipB 1 idf (i + 1)⟩) (ex := .exit 2) (rl := rlK (i + 1)) (vp := []) (fs := fsE i) (bs := bsK (i + 1))
    (Base.none _) (Nat.zero_le _) rfl (rl_ok _ _ _ _) (ipB_ok (n := n) (y := y) (s := s) (s' := s) (A := A) (A' := A) rfl rfl rfl fun m _ => rfl) vpNil (glNone rfl rfl) (sx_all (i, k) (prs_all i hi k hk) h) (St.same (VRows.same _ _) st)
theorem goSz {n y s i : Nat} {A : Nat → Nat} (hi : i < 24) (st : SKw n y s i 0 A w0 a w) : l2.wp Tryz.prog (fun e a' w' => e = .exit 2 ∧ SEw n y s i A w0 a' w') a w :=
  runTo_sound (T := PK n y s A) (T' := PK n y s A) (K := HN) (n := 300) mixed (@HandOk.none (PK n y s A) Tryz.prog) (C := ⟨0, 17251, ofPairs (rlK (i + 1)), ipB 1 idf (i + 1)⟩) (ex := .exit 2) (rl := rlK (i + 1)) (vp := []) (fs := fsE i) (bs := bsK (i + 1))
    (Base.none _) (Nat.zero_le _) rfl (rl_ok _ _ _ _) (ipB_ok (n := n) (y := y) (s := s) (s' := s) (A := A) (A' := A) rfl rfl rfl fun m _ => rfl) vpNil (glNone rfl rfl) (sz_all i (nums_all i hi)) st
theorem goUp {n y s i : Nat} {A : Nat → Nat} (hi : i < 24) (st : SEw n y s i A w0 a w) : cE.wp Tryz.prog (fun e a' w' => e = .normal ∧ SLw n y s (i + 1) A w0 a' w') a w :=
  runTo_sound (T := PK n y s A) (T' := PK n y s A) (K := HN) (n := 300) mixed (@HandOk.none (PK n y s A) Tryz.prog) (C := ⟨0, 17251, ofPairs (rlK (i + 1)), ipB 1 idf (i + 1)⟩) (ex := .normal) (rl := rlK (i + 1)) (vp := []) (fs := fsL (i + 1)) (bs := bsK (i + 1))
    (Base.none _) (Nat.zero_le _) rfl (rl_ok _ _ _ _) (ipB_ok (n := n) (y := y) (s := s) (s' := s) (A := A) (A' := A) rfl rfl rfl fun m _ => rfl) vpNil (glNone rfl rfl) (up_all i (nums_all i hi)) st
def QL (n y : Nat) (c q : Int) (A : Nat → Nat) (g1 : (0 : Int) ≤ (n : Nat)) (g2 : ((n : Nat) : Int) < 25) (g3 : (0 : Int) ≤ (y : Nat)) (g4 : ((y : Nat) : Int) < 1009) (g5 : -2147483648 ≤ c) (g6 : c ≤ 2147483647) (w0 : World) (e : Exit) (a : Act) (w : World) : Prop := e = .exit 0 ∧ St (TF (EA A) q g1 g2 g3 g4 g5 g6) (Kp.below w0.heap.size) w0 (fun _ => none) NT (frOf (fsM n)) (hOf 17251 (bsM n)) a w
theorem goM {n y s : Nat} {c q : Int} {A : Nat → Nat} (hn : n < 25) (g1 : (0 : Int) ≤ (n : Nat)) (g2 : ((n : Nat) : Int) < 25) (g3 : (0 : Int) ≤ (y : Nat)) (g4 : ((y : Nat) : Int) < 1009) (g5 : -2147483648 ≤ c) (g6 : c ≤ 2147483647) (st : SLw n y s n A w0 a w) : c1.wp Tryz.prog (QL n y c q A g1 g2 g3 g4 g5 g6 w0) a w := by
  refine wp_mono (runTo_sound (T := (RHx (n := n) (y := y) (s := s) (A := A)).tab) (T' := TF (EA A) q g1 g2 g3 g4 g5 g6) (K := HN) (n := 300) mixed (@HandOk.none (RHx (n := n) (y := y) (s := s) (A := A)).tab Tryz.prog) (C := ⟨0, 17251, ofPairs (rlK n), ipM n⟩) (ex := .exit 0) (rl := rlK n) (vp := []) (fs := fsM n) (bs := bsM n)
    (Base.none _) (Nat.zero_le _) rfl (rl_ok _ _ _ _) (ipCons (ipN (.i64, ((n : Nat) : Int)) rfl rfl) (ipCons (ipN (.i64, ((y : Nat) : Int)) rfl rfl) fun p hp => ?_)) vpNil (glNone rfl rfl) (m_all n (nums5_all n hn)) (St.same (VRows.same _ _) st)) ?_
  · obtain ⟨m, hm, rfl⟩ := List.mem_map.1 hp
    exact ipN (.i64, ((A m : Nat) : Int)) rfl (by show EA A (4 * m) = _; rw [EA0])
  · rintro e a' w' ⟨rfl, s'⟩
    exact ⟨rfl, s'⟩
theorem innerL {n y s i : Nat} (hi : i < 24) : ∀ (k : Nat) (A : Nat → Nat) (a : Act) (w : World), k ≤ i → SKw n y s i k A w0 a w →
    Code.rounds Tryz.prog l2 (fun e a' w' => e = .exit 2 ∧ SEw n y s i (insA k A) w0 a' w') (k + 1) a w
  | 0, A, a, w, _, st => by
    rw [rounds_succ]
    refine wp_mono (goSz hi st) ?_
    rintro e a' w' ⟨rfl, s'⟩
    exact ⟨rfl, s'⟩
  | k + 1, A, a, w, hk, st => by
    rw [rounds_succ]
    by_cases h : A (k + 1) < A k
    · have e1 : insA (k + 1) A = insA k (swp A k) := if_pos h
      rw [e1]
      refine wp_mono (goSw hi (by omega) h st) ?_
      rintro e a' w' ⟨rfl, s'⟩
      exact innerL hi k (swp A k) a' w' (by omega) s'
    · have e1 : insA (k + 1) A = A := if_neg h
      rw [e1]
      refine wp_mono (goSx hi (by omega) h st) ?_
      rintro e a' w' ⟨rfl, s'⟩
      exact ⟨rfl, s'⟩
theorem outerL {n y : Nat} {c q : Int} (hn : n < 25) (hy : y < 1009) (g1 : (0 : Int) ≤ (n : Nat)) (g2 : ((n : Nat) : Int) < 25) (g3 : (0 : Int) ≤ (y : Nat)) (g4 : ((y : Nat) : Int) < 1009) (g5 : -2147483648 ≤ c) (g6 : c ≤ 2147483647) : ∀ (m i : Nat) (a : Act) (w : World), m + i = n → SLw n y (gs y i) i (lawA y i) w0 a w →
    Code.rounds Tryz.prog laL (QL n y c q (lawA y n) g1 g2 g3 g4 g5 g6 w0) (m + 1) a w
  | 0, i, a, w, e, st => by
    have : i = n := by omega
    subst this
    rw [rounds_succ, laL_eq]
    refine wp_seq (wp_mono (goM (c := c) (q := q) hn g1 g2 g3 g4 g5 g6 st) ?_)
    rintro e a' w' ⟨rfl, s'⟩
    exact ⟨rfl, s'⟩
  | m + 1, i, a, w, e, st => by
    have hi : i < 24 := by omega
    rw [rounds_succ, laL_eq]
    refine wp_seq (wp_mono (goHd hi (by omega) hn (gs_lt hy i) st) ?_)
    rintro e1 a1 w1 ⟨rfl, s1⟩
    refine wp_seq (wp_block (goAp hi (by omega) hn (gs_lt hy i) s1 fun a2 w2 s2 => ?_))
    refine wp_block (wp_mono (wp_loop_rounds _ (innerL hi i _ a2 w2 (Nat.le_refl _) s2)) ?_)
    rintro e3 a3 w3 ⟨rfl, s3⟩
    show cE.wp _ _ _ _
    refine wp_mono (goUp hi s3) ?_
    rintro e4 a4 w4 ⟨rfl, s4⟩
    exact outerL hn hy g1 g2 g3 g4 g5 g6 m (i + 1) a4 w4 (by omega) s4
def SSw (n y : Nat) (w0 : World) (a : Act) (w : World) : Prop := St (PK n y y fun _ => 0) (Kp.below w0.heap.size) w0 (fun _ => none) NT (frOf fsS) (hOf 17251 bsL) a w
theorem headL {n y : Nat} (st : SSw n y w0 a w) : hdL.wp Tryz.prog (fun e a' w' => e = .normal ∧ SLw n y y 0 (fun _ => 0) w0 a' w') a w := by
  refine runTo_sound (T := PK n y y fun _ => 0) (T' := PK n y y fun _ => 0) (K := HN) (n := 300) mixed (@HandOk.none (PK n y y fun _ => 0) Tryz.prog) (C := ⟨0, 17251, ofPairs (rlK 0), [(.oi 0, 0), (.oi 1, 1), (.oi 2, 2)]⟩) (ex := .normal) (rl := rlK 0) (vp := []) (fs := fsL 0) (bs := bsK 0)
    (Base.none _) (Nat.zero_le _) rfl (by kernel_rfl) (ipCons (ipN (.i64, ((n : Nat) : Int)) rfl rfl) (ipCons (ipN (.i64, ((y : Nat) : Int)) rfl rfl) (ipCons (ipN (.i64, ((y : Nat) : Int)) rfl rfl) ipNil))) vpNil (glNone rfl rfl) (by as_aux_lemma => kernel_rfl) st
theorem backL {n y : Nat} (hn : n < 25) (hy : y < 1009) (st : SSw n y w0 a w) : (restn 42 fullL).wp Tryz.prog (Yes Tryz.prog Tryz.f3 (Kp.below w0.heap.size) w0) a w := by
  rw [restL_eq]
  refine wp_seq (wp_seq (wp_mono (headL st) ?_))
  rintro e1 a1 w1 ⟨rfl, s1⟩
  have g1 : (0 : Int) ≤ (n : Nat) := Int.natCast_nonneg n
  have g2 : ((n : Nat) : Int) < 25 := by omega
  have g3 : (0 : Int) ≤ (y : Nat) := Int.natCast_nonneg y
  have g4 : ((y : Nat) : Int) < 1009 := by omega
  have g5 := sm_lo (lawA y n) n
  have g6 := sm_hi (lawA y n) n
  refine wp_block (wp_mono (wp_loop_rounds _ (outerL (c := sm (lawA y n) n) (q := ((tot n y : Nat) : Int) + 5) hn hy g1 g2 g3 g4 g5 g6 n 0 a1 w1 rfl s1)) ?_)
  rintro e2 a2 w2 ⟨rfl, s2⟩
  have hA := lawA_lt hy n
  have hc : sm (lawA y n) n = sm (outA n fun k => gs y (k + 1)) n := (sm_congr (same_srt y n)).symm
  letI : Tab := (RT (q := ((tot n y : Nat) : Int) + 5) (x := ((n : Nat) : Int)) (y := ((y : Nat) : Int)) (A := lawA y n) (n := n) rfl g1 g2 g3 g4 hA rfl).tab
  exact runTrue_sound (T := (RT (q := ((tot n y : Nat) : Int) + 5) (x := ((n : Nat) : Int)) (y := ((y : Nat) : Int)) (A := lawA y n) (n := n) rfl g1 g2 g3 g4 hA rfl).tab) mixed (HandOk.or (inHand_ok (InOk.tab (VRows.same _ _) (CR_ok (E := EA (lawA y n)) n y g1 g2 g3 g4 g5 g6 rfl rfl hc rfl)) (by kernel_rfl)) K_top0_ok) (tl_all n (nums5_all n hn) rfl g1 g2 g3 g4 hA rfl) (St.same (VRows.same _ _) s2)
abbrev ivUu (m k r u : Int) : Nat → IntKind × Int
  | 0 => (.i64, m)
  | 1 => (.i64, r)
  | 2 => (.i64, if r < 0 then -r else r)
  | 4 => (.i64, k)
  | 5 => (.i64, u)
  | 6 => (.i64, if u < 0 then -u else u)
  | _ => (.i64, 0)
theorem ibUupp {m k r u : Int} (hx : m.tmod 25 = r) (hy : k.tmod 1000 = u) (r1 : -25 < r) (r2 : r < 25) (u1 : -1000 < u) (u2 : u < 1000) (gx : 0 ≤ r) (gy : 0 ≤ u) : ∀ x_ ∈ ([(4, .oi 0, .int .i64 25, .oi 1), (11, .oi 1, .int .i64 0, .bool false), (4, .oi 4, .int .i64 1000, .oi 5), (11, .oi 5, .int .i64 0, .bool false)] : List BRow), IbOk (ivUu m k r u) x_ := by
  letI := Tab.empty
  exact (ibCons (ibRem (a := m) (b := 25) (c := r) rfl rfl rfl (by decide) hx) (ibCons (ibLt (a := r) (b := 0) rfl rfl (decide_eq_false (by omega))) (ibCons (ibRem (a := k) (b := 1000) (c := u) rfl rfl rfl (by decide) hy) (ibCons (ibLt (a := u) (b := 0) rfl rfl (decide_eq_false (by omega))) ibNil))))
abbrev RUupp {m k r u : Int} (hx : m.tmod 25 = r) (hy : k.tmod 1000 = u) (r1 : -25 < r) (r2 : r < 25) (u1 : -1000 < u) (u2 : u < 1000) (gx : 0 ≤ r) (gy : 0 ≤ u) : VRows (ivUu m k r u) noV noK where
  vvp := noVp
  ib := [(4, .oi 0, .int .i64 25, .oi 1), (11, .oi 1, .int .i64 0, .bool false), (4, .oi 4, .int .i64 1000, .oi 5), (11, .oi 5, .int .i64 0, .bool false)]
  ibok := ibUupp hx hy r1 r2 u1 u2 gx gy
abbrev TUupp {m k r u : Int} (hx : m.tmod 25 = r) (hy : k.tmod 1000 = u) (r1 : -25 < r) (r2 : r < 25) (u1 : -1000 < u) (u2 : u < 1000) (gx : 0 ≤ r) (gy : 0 ≤ u) : Tab := (RUupp hx hy r1 r2 u1 u2 gx gy).tab
theorem yespp {m k r u : Int} (hx : m.tmod 25 = r) (hy : k.tmod 1000 = u) (r1 : -25 < r) (r2 : r < 25) (u1 : -1000 < u) (u2 : u < 1000) (gx : 0 ≤ r) (gy : 0 ≤ u) {n y : Nat} (hn : (n : Int) = r) (hs : (y : Int) = u) (w : World) : Calls Tryz.prog 3 #[.int .i64 m, .int .i64 k] w fun e w' => e = .returned (.bool true) ∧ Below w.heap.size w w' := by
  refine yes_calls Tryz.func3 bodyL_eq w ?_
  have s0 := @St.start (TUupp hx hy r1 r2 u1 u2 gx gy) [.oi 0, .oi 4] #[.int .i64 m, .int .i64 k] NT w ⟨fun g o a h => (by cases h), fun i m a h => (by cases h)⟩ (@vrels_cons (TUupp hx hy r1 r2 u1 u2 gx gy) _ _ _ _ _ (by simp only [vrel]; rfl) (@vrels_cons (TUupp hx hy r1 r2 u1 u2 gx gy) _ _ _ _ _ (by simp only [vrel]; rfl) (by simp [vrels]))) (show 2 ≤ NT by decide +kernel) (show 2 < limit by decide)
  refine firstTo_sound (T := (TUupp hx hy r1 r2 u1 u2 gx gy)) (T' := PK n y y fun _ => 0) (K := K_top0) (m := 5000) (n := 42) mixed (@K_top0_ok (TUupp hx hy r1 r2 u1 u2 gx gy)) (C := ⟨0, 17251, ofPairs rlL, [(.oi 1, 0), (.oi 5, 1), (.oi 5, 2)]⟩) (rl := rlL) (vp := []) (fs := fsS) (bs := bsL)
      (Base.none _) (Nat.zero_le _) rfl (by kernel_rfl) (ipCons (ipN (.i64, r) rfl (show (IntKind.i64, ((n : Nat) : Int)) = (IntKind.i64, r) from Prod.ext rfl (show ((n : Nat) : Int) = r by omega))) (ipCons (ipN (.i64, u) rfl (show (IntKind.i64, ((y : Nat) : Int)) = (IntKind.i64, u) from Prod.ext rfl (show ((y : Nat) : Int) = u by omega))) (ipCons (ipN (.i64, u) rfl (show (IntKind.i64, ((y : Nat) : Int)) = (IntKind.i64, u) from Prod.ext rfl (show ((y : Nat) : Int) = u by omega))) ipNil))) vpNil (glNone rfl rfl) (by as_aux_lemma => kernel_rfl) s0 fun a' w' s => ?_
  exact backL (by omega) (by omega) s
theorem ibUupn {m k r u : Int} (hx : m.tmod 25 = r) (hy : k.tmod 1000 = u) (r1 : -25 < r) (r2 : r < 25) (u1 : -1000 < u) (u2 : u < 1000) (gx : 0 ≤ r) (gy : u < 0) : ∀ x_ ∈ ([(4, .oi 0, .int .i64 25, .oi 1), (11, .oi 1, .int .i64 0, .bool false), (4, .oi 4, .int .i64 1000, .oi 5), (11, .oi 5, .int .i64 0, .bool true)] : List BRow), IbOk (ivUu m k r u) x_ := by
  letI := Tab.empty
  exact (ibCons (ibRem (a := m) (b := 25) (c := r) rfl rfl rfl (by decide) hx) (ibCons (ibLt (a := r) (b := 0) rfl rfl (decide_eq_false (by omega))) (ibCons (ibRem (a := k) (b := 1000) (c := u) rfl rfl rfl (by decide) hy) (ibCons (ibLt (a := u) (b := 0) rfl rfl (decide_eq_true (by omega))) ibNil))))
abbrev RUupn {m k r u : Int} (hx : m.tmod 25 = r) (hy : k.tmod 1000 = u) (r1 : -25 < r) (r2 : r < 25) (u1 : -1000 < u) (u2 : u < 1000) (gx : 0 ≤ r) (gy : u < 0) : VRows (ivUu m k r u) noV noK where
  vvp := noVp
  ib := [(4, .oi 0, .int .i64 25, .oi 1), (11, .oi 1, .int .i64 0, .bool false), (4, .oi 4, .int .i64 1000, .oi 5), (11, .oi 5, .int .i64 0, .bool true)]
  ibok := ibUupn hx hy r1 r2 u1 u2 gx gy
theorem iuTpn {m k r u : Int} (hx : m.tmod 25 = r) (hy : k.tmod 1000 = u) (r1 : -25 < r) (r2 : r < 25) (u1 : -1000 < u) (u2 : u < 1000) (gx : 0 ≤ r) (gy : u < 0) : ∀ q ∈ ([(0, .oi 5, .oi 6)] : List (Nat × AV × AV)), ∀ op, ucode op = q.1 → ∃ k_ n_ v, denI (ivUu m k r u) q.2.1 = some (k_, n_) ∧ unI op k_ n_ = some v ∧ outI (ivUu m k r u) q.2.2 v := fun q hq op hop => by
  simp only [List.mem_cons, List.not_mem_nil, or_false] at hq
  subst hq
  · have : op = .neg := by cases op <;> simp [ucode] at hop; rfl
    subst this
    exact ⟨.i64, u, .int .i64 (IntKind.i64.wrap (0 - u)), rfl, rfl, by rw [wrap64 (by omega) (by omega)]; show some (IntKind.i64, if u < 0 then -u else u) = some (IntKind.i64, 0 - u); rw [if_pos (by omega)]; congr 2; omega⟩
abbrev TUupn {m k r u : Int} (hx : m.tmod 25 = r) (hy : k.tmod 1000 = u) (r1 : -25 < r) (r2 : r < 25) (u1 : -1000 < u) (u2 : u < 1000) (gx : 0 ≤ r) (gy : u < 0) : Tab := { (RUupn hx hy r1 r2 u1 u2 gx gy).tab with
  iu := [(0, .oi 5, .oi 6)]
  iuok := iuTpn hx hy r1 r2 u1 u2 gx gy }
theorem yespn {m k r u : Int} (hx : m.tmod 25 = r) (hy : k.tmod 1000 = u) (r1 : -25 < r) (r2 : r < 25) (u1 : -1000 < u) (u2 : u < 1000) (gx : 0 ≤ r) (gy : u < 0) {n y : Nat} (hn : (n : Int) = r) (hs : (y : Int) = -u) (w : World) : Calls Tryz.prog 3 #[.int .i64 m, .int .i64 k] w fun e w' => e = .returned (.bool true) ∧ Below w.heap.size w w' := by
  refine yes_calls Tryz.func3 bodyL_eq w ?_
  have s0 := @St.start (TUupn hx hy r1 r2 u1 u2 gx gy) [.oi 0, .oi 4] #[.int .i64 m, .int .i64 k] NT w ⟨fun g o a h => (by cases h), fun i m a h => (by cases h)⟩ (@vrels_cons (TUupn hx hy r1 r2 u1 u2 gx gy) _ _ _ _ _ (by simp only [vrel]; rfl) (@vrels_cons (TUupn hx hy r1 r2 u1 u2 gx gy) _ _ _ _ _ (by simp only [vrel]; rfl) (by simp [vrels]))) (show 2 ≤ NT by decide +kernel) (show 2 < limit by decide)
  refine firstTo_sound (T := (TUupn hx hy r1 r2 u1 u2 gx gy)) (T' := PK n y y fun _ => 0) (K := K_top0) (m := 5000) (n := 42) mixed (@K_top0_ok (TUupn hx hy r1 r2 u1 u2 gx gy)) (C := ⟨0, 17251, ofPairs rlL, [(.oi 1, 0), (.oi 6, 1), (.oi 6, 2)]⟩) (rl := rlL) (vp := []) (fs := fsS) (bs := bsL)
      (Base.none _) (Nat.zero_le _) rfl (by kernel_rfl) (ipCons (ipN (.i64, r) rfl (show (IntKind.i64, ((n : Nat) : Int)) = (IntKind.i64, r) from Prod.ext rfl (show ((n : Nat) : Int) = r by omega))) (ipCons (ipN (.i64, (if u < 0 then -u else u)) rfl (show (IntKind.i64, ((y : Nat) : Int)) = (IntKind.i64, (if u < 0 then -u else u)) from Prod.ext rfl (show ((y : Nat) : Int) = (if u < 0 then -u else u) by rw [if_pos (by omega)]; omega))) (ipCons (ipN (.i64, (if u < 0 then -u else u)) rfl (show (IntKind.i64, ((y : Nat) : Int)) = (IntKind.i64, (if u < 0 then -u else u)) from Prod.ext rfl (show ((y : Nat) : Int) = (if u < 0 then -u else u) by rw [if_pos (by omega)]; omega))) ipNil))) vpNil (glNone rfl rfl) (by as_aux_lemma => kernel_rfl) s0 fun a' w' s => ?_
  exact backL (by omega) (by omega) s
theorem ibUunp {m k r u : Int} (hx : m.tmod 25 = r) (hy : k.tmod 1000 = u) (r1 : -25 < r) (r2 : r < 25) (u1 : -1000 < u) (u2 : u < 1000) (gx : r < 0) (gy : 0 ≤ u) : ∀ x_ ∈ ([(4, .oi 0, .int .i64 25, .oi 1), (11, .oi 1, .int .i64 0, .bool true), (4, .oi 4, .int .i64 1000, .oi 5), (11, .oi 5, .int .i64 0, .bool false)] : List BRow), IbOk (ivUu m k r u) x_ := by
  letI := Tab.empty
  exact (ibCons (ibRem (a := m) (b := 25) (c := r) rfl rfl rfl (by decide) hx) (ibCons (ibLt (a := r) (b := 0) rfl rfl (decide_eq_true (by omega))) (ibCons (ibRem (a := k) (b := 1000) (c := u) rfl rfl rfl (by decide) hy) (ibCons (ibLt (a := u) (b := 0) rfl rfl (decide_eq_false (by omega))) ibNil))))
abbrev RUunp {m k r u : Int} (hx : m.tmod 25 = r) (hy : k.tmod 1000 = u) (r1 : -25 < r) (r2 : r < 25) (u1 : -1000 < u) (u2 : u < 1000) (gx : r < 0) (gy : 0 ≤ u) : VRows (ivUu m k r u) noV noK where
  vvp := noVp
  ib := [(4, .oi 0, .int .i64 25, .oi 1), (11, .oi 1, .int .i64 0, .bool true), (4, .oi 4, .int .i64 1000, .oi 5), (11, .oi 5, .int .i64 0, .bool false)]
  ibok := ibUunp hx hy r1 r2 u1 u2 gx gy
theorem iuTnp {m k r u : Int} (hx : m.tmod 25 = r) (hy : k.tmod 1000 = u) (r1 : -25 < r) (r2 : r < 25) (u1 : -1000 < u) (u2 : u < 1000) (gx : r < 0) (gy : 0 ≤ u) : ∀ q ∈ ([(0, .oi 1, .oi 2)] : List (Nat × AV × AV)), ∀ op, ucode op = q.1 → ∃ k_ n_ v, denI (ivUu m k r u) q.2.1 = some (k_, n_) ∧ unI op k_ n_ = some v ∧ outI (ivUu m k r u) q.2.2 v := fun q hq op hop => by
  simp only [List.mem_cons, List.not_mem_nil, or_false] at hq
  subst hq
  · have : op = .neg := by cases op <;> simp [ucode] at hop; rfl
    subst this
    exact ⟨.i64, r, .int .i64 (IntKind.i64.wrap (0 - r)), rfl, rfl, by rw [wrap64 (by omega) (by omega)]; show some (IntKind.i64, if r < 0 then -r else r) = some (IntKind.i64, 0 - r); rw [if_pos (by omega)]; congr 2; omega⟩
abbrev TUunp {m k r u : Int} (hx : m.tmod 25 = r) (hy : k.tmod 1000 = u) (r1 : -25 < r) (r2 : r < 25) (u1 : -1000 < u) (u2 : u < 1000) (gx : r < 0) (gy : 0 ≤ u) : Tab := { (RUunp hx hy r1 r2 u1 u2 gx gy).tab with
  iu := [(0, .oi 1, .oi 2)]
  iuok := iuTnp hx hy r1 r2 u1 u2 gx gy }
theorem yesnp {m k r u : Int} (hx : m.tmod 25 = r) (hy : k.tmod 1000 = u) (r1 : -25 < r) (r2 : r < 25) (u1 : -1000 < u) (u2 : u < 1000) (gx : r < 0) (gy : 0 ≤ u) {n y : Nat} (hn : (n : Int) = -r) (hs : (y : Int) = u) (w : World) : Calls Tryz.prog 3 #[.int .i64 m, .int .i64 k] w fun e w' => e = .returned (.bool true) ∧ Below w.heap.size w w' := by
  refine yes_calls Tryz.func3 bodyL_eq w ?_
  have s0 := @St.start (TUunp hx hy r1 r2 u1 u2 gx gy) [.oi 0, .oi 4] #[.int .i64 m, .int .i64 k] NT w ⟨fun g o a h => (by cases h), fun i m a h => (by cases h)⟩ (@vrels_cons (TUunp hx hy r1 r2 u1 u2 gx gy) _ _ _ _ _ (by simp only [vrel]; rfl) (@vrels_cons (TUunp hx hy r1 r2 u1 u2 gx gy) _ _ _ _ _ (by simp only [vrel]; rfl) (by simp [vrels]))) (show 2 ≤ NT by decide +kernel) (show 2 < limit by decide)
  refine firstTo_sound (T := (TUunp hx hy r1 r2 u1 u2 gx gy)) (T' := PK n y y fun _ => 0) (K := K_top0) (m := 5000) (n := 42) mixed (@K_top0_ok (TUunp hx hy r1 r2 u1 u2 gx gy)) (C := ⟨0, 17251, ofPairs rlL, [(.oi 2, 0), (.oi 5, 1), (.oi 5, 2)]⟩) (rl := rlL) (vp := []) (fs := fsS) (bs := bsL)
      (Base.none _) (Nat.zero_le _) rfl (by kernel_rfl) (ipCons (ipN (.i64, (if r < 0 then -r else r)) rfl (show (IntKind.i64, ((n : Nat) : Int)) = (IntKind.i64, (if r < 0 then -r else r)) from Prod.ext rfl (show ((n : Nat) : Int) = (if r < 0 then -r else r) by rw [if_pos (by omega)]; omega))) (ipCons (ipN (.i64, u) rfl (show (IntKind.i64, ((y : Nat) : Int)) = (IntKind.i64, u) from Prod.ext rfl (show ((y : Nat) : Int) = u by omega))) (ipCons (ipN (.i64, u) rfl (show (IntKind.i64, ((y : Nat) : Int)) = (IntKind.i64, u) from Prod.ext rfl (show ((y : Nat) : Int) = u by omega))) ipNil))) vpNil (glNone rfl rfl) (by as_aux_lemma => kernel_rfl) s0 fun a' w' s => ?_
  exact backL (by omega) (by omega) s
theorem ibUunn {m k r u : Int} (hx : m.tmod 25 = r) (hy : k.tmod 1000 = u) (r1 : -25 < r) (r2 : r < 25) (u1 : -1000 < u) (u2 : u < 1000) (gx : r < 0) (gy : u < 0) : ∀ x_ ∈ ([(4, .oi 0, .int .i64 25, .oi 1), (11, .oi 1, .int .i64 0, .bool true), (4, .oi 4, .int .i64 1000, .oi 5), (11, .oi 5, .int .i64 0, .bool true)] : List BRow), IbOk (ivUu m k r u) x_ := by
  letI := Tab.empty
  exact (ibCons (ibRem (a := m) (b := 25) (c := r) rfl rfl rfl (by decide) hx) (ibCons (ibLt (a := r) (b := 0) rfl rfl (decide_eq_true (by omega))) (ibCons (ibRem (a := k) (b := 1000) (c := u) rfl rfl rfl (by decide) hy) (ibCons (ibLt (a := u) (b := 0) rfl rfl (decide_eq_true (by omega))) ibNil))))
abbrev RUunn {m k r u : Int} (hx : m.tmod 25 = r) (hy : k.tmod 1000 = u) (r1 : -25 < r) (r2 : r < 25) (u1 : -1000 < u) (u2 : u < 1000) (gx : r < 0) (gy : u < 0) : VRows (ivUu m k r u) noV noK where
  vvp := noVp
  ib := [(4, .oi 0, .int .i64 25, .oi 1), (11, .oi 1, .int .i64 0, .bool true), (4, .oi 4, .int .i64 1000, .oi 5), (11, .oi 5, .int .i64 0, .bool true)]
  ibok := ibUunn hx hy r1 r2 u1 u2 gx gy
theorem iuTnn {m k r u : Int} (hx : m.tmod 25 = r) (hy : k.tmod 1000 = u) (r1 : -25 < r) (r2 : r < 25) (u1 : -1000 < u) (u2 : u < 1000) (gx : r < 0) (gy : u < 0) : ∀ q ∈ ([(0, .oi 1, .oi 2), (0, .oi 5, .oi 6)] : List (Nat × AV × AV)), ∀ op, ucode op = q.1 → ∃ k_ n_ v, denI (ivUu m k r u) q.2.1 = some (k_, n_) ∧ unI op k_ n_ = some v ∧ outI (ivUu m k r u) q.2.2 v := fun q hq op hop => by
  simp only [List.mem_cons, List.not_mem_nil, or_false] at hq
  rcases hq with rfl | rfl
  · have : op = .neg := by cases op <;> simp [ucode] at hop; rfl
    subst this
    exact ⟨.i64, r, .int .i64 (IntKind.i64.wrap (0 - r)), rfl, rfl, by rw [wrap64 (by omega) (by omega)]; show some (IntKind.i64, if r < 0 then -r else r) = some (IntKind.i64, 0 - r); rw [if_pos (by omega)]; congr 2; omega⟩
  · have : op = .neg := by cases op <;> simp [ucode] at hop; rfl
    subst this
    exact ⟨.i64, u, .int .i64 (IntKind.i64.wrap (0 - u)), rfl, rfl, by rw [wrap64 (by omega) (by omega)]; show some (IntKind.i64, if u < 0 then -u else u) = some (IntKind.i64, 0 - u); rw [if_pos (by omega)]; congr 2; omega⟩
abbrev TUunn {m k r u : Int} (hx : m.tmod 25 = r) (hy : k.tmod 1000 = u) (r1 : -25 < r) (r2 : r < 25) (u1 : -1000 < u) (u2 : u < 1000) (gx : r < 0) (gy : u < 0) : Tab := { (RUunn hx hy r1 r2 u1 u2 gx gy).tab with
  iu := [(0, .oi 1, .oi 2), (0, .oi 5, .oi 6)]
  iuok := iuTnn hx hy r1 r2 u1 u2 gx gy }
theorem yesnn {m k r u : Int} (hx : m.tmod 25 = r) (hy : k.tmod 1000 = u) (r1 : -25 < r) (r2 : r < 25) (u1 : -1000 < u) (u2 : u < 1000) (gx : r < 0) (gy : u < 0) {n y : Nat} (hn : (n : Int) = -r) (hs : (y : Int) = -u) (w : World) : Calls Tryz.prog 3 #[.int .i64 m, .int .i64 k] w fun e w' => e = .returned (.bool true) ∧ Below w.heap.size w w' := by
  refine yes_calls Tryz.func3 bodyL_eq w ?_
  have s0 := @St.start (TUunn hx hy r1 r2 u1 u2 gx gy) [.oi 0, .oi 4] #[.int .i64 m, .int .i64 k] NT w ⟨fun g o a h => (by cases h), fun i m a h => (by cases h)⟩ (@vrels_cons (TUunn hx hy r1 r2 u1 u2 gx gy) _ _ _ _ _ (by simp only [vrel]; rfl) (@vrels_cons (TUunn hx hy r1 r2 u1 u2 gx gy) _ _ _ _ _ (by simp only [vrel]; rfl) (by simp [vrels]))) (show 2 ≤ NT by decide +kernel) (show 2 < limit by decide)
  refine firstTo_sound (T := (TUunn hx hy r1 r2 u1 u2 gx gy)) (T' := PK n y y fun _ => 0) (K := K_top0) (m := 5000) (n := 42) mixed (@K_top0_ok (TUunn hx hy r1 r2 u1 u2 gx gy)) (C := ⟨0, 17251, ofPairs rlL, [(.oi 2, 0), (.oi 6, 1), (.oi 6, 2)]⟩) (rl := rlL) (vp := []) (fs := fsS) (bs := bsL)
      (Base.none _) (Nat.zero_le _) rfl (by kernel_rfl) (ipCons (ipN (.i64, (if r < 0 then -r else r)) rfl (show (IntKind.i64, ((n : Nat) : Int)) = (IntKind.i64, (if r < 0 then -r else r)) from Prod.ext rfl (show ((n : Nat) : Int) = (if r < 0 then -r else r) by rw [if_pos (by omega)]; omega))) (ipCons (ipN (.i64, (if u < 0 then -u else u)) rfl (show (IntKind.i64, ((y : Nat) : Int)) = (IntKind.i64, (if u < 0 then -u else u)) from Prod.ext rfl (show ((y : Nat) : Int) = (if u < 0 then -u else u) by rw [if_pos (by omega)]; omega))) (ipCons (ipN (.i64, (if u < 0 then -u else u)) rfl (show (IntKind.i64, ((y : Nat) : Int)) = (IntKind.i64, (if u < 0 then -u else u)) from Prod.ext rfl (show ((y : Nat) : Int) = (if u < 0 then -u else u) by rw [if_pos (by omega)]; omega))) ipNil))) vpNil (glNone rfl rfl) (by as_aux_lemma => kernel_rfl) s0 fun a' w' s => ?_
  exact backL (by omega) (by omega) s
end
end Go.Proofs.YtaabcpibfignfaaGreatDoor.so
