/-
  The law CollectChain: the law's loops, from its beginning to its end.
-/
import Derived.Test.YtbabfeloandpdaaGreatDoorCCN
set_option linter.unusedVariables false
set_option linter.unusedSimpArgs false
set_option linter.unusedSectionVars false
set_option maxRecDepth 1000000
set_option maxHeartbeats 0
namespace Go.Proofs.YtbabfeloandpdaaGreatDoor.cc
open Go.X Go.RowKit Go.Proofs
theorem ge1 (p : Pc) (i : Chn p true) (hc : p.c = p.f) : runTrue (Tb (RH p true i hc) (MH p)) Tryz.prog KH 3000 Tryz.f3 (restn 9 lC) (frOf (fsX true)) (hOf 20010 bJ) = true := by as_aux_lemma => kernel_rfl
theorem ge0 (p : Pc) (i : Chn p false) (hc : p.c = p.f) : runTrue (Tb (RH p false i hc) (MH p)) Tryz.prog KH 3000 Tryz.f3 (restn 9 lC) (frOf (fsX false)) (hOf 20010 bJ) = true := by as_aux_lemma => kernel_rfl
section
variable {n f g k : Nat} {r : Bool} {W : Nat → BitVec 64} {B : Kp} {w0 : World} {μ : M} {a : Act} {w : World}
/-- objects are made -/
def SB (n f g : Nat) (r : Bool) (k : Nat) (B : Kp) (w0 : World) (μ : M) (a : Act) (w : World) : Prop := St (T0 (pL n f g WZ) k) B w0 μ nt (frOf (fsB r (.ov 20003 10 1))) (hOf 20010 (bI 0 1 2 12 10)) a w
def SX (n f g : Nat) (r : Bool) (W : Nat → BitVec 64) (k : Nat) (B : Kp) (w0 : World) (μ : M) (a : Act) (w : World) : Prop := St (T0 (pL n f g W) k) B w0 μ nt (frOf (fsX r)) (hOf 20010 bJ) a w
def SC (n f g : Nat) (r : Bool) (W : Nat → BitVec 64) (k : Nat) (B : Kp) (w0 : World) (μ : M) (a : Act) (w : World) : Prop := St (T0 (pL n f g W) k) B w0 μ nt (frOf (fsC r)) (hOf 20010 bJ) a w
theorem vN {T T' : Tab} {C : Cv} {x i i' m : Nat} {K : IntKind} {e e' : Nat → Int} {l : VP} (k : VpOk T T' C l) (h1 : T.vv i = numV K m e) (h2 : T'.vv i' = numV K m e') (h3 : T.vk i = m) (h4 : T'.vk i' = m) (he : ∀ q, q < m → e' q = e q) : VpOk T T' C ((x, .vec i, i') :: l) := vpNum k h1 h2 h3 h4 rfl he
theorem lMore (h : Ok (pL n f g WZ)) (hb : Base B μ 20000) (hk : k < n) (s : SB n f g r k B w0 μ a w) : lL.wp Tryz.prog (fun e a' w' => e = .normal ∧ SB n f g r (k + 1) B w0 μ a' w') a w :=
  runTo_sound (T := Tb (RM (pL n f g WZ) k h hk) (M0 (pL n f g WZ) k)) (T' := T0 (pL n f g WZ) (k + 1)) mixed hNo (C := CLa 20021 20023 20025 20004 20005 iM') (bs := bsL 20021 20023 20025 20004 20005 0 1 2 12 10) (ex := .normal) hb (show 20000 ≤ 20010 by decide) (rl := rlL 20021 20023 20025 20004 20005) rfl (by kernel_rfl)
    (ipZ (a := ((3 * k + 3 : Nat) : Int)) (b := ((3 * (k + 1) : Nat) : Int)) (q := .i64) (ipE (ipE (ipE ipNil))) rfl rfl (by omega))
    (vN (m := 3 * k + 3) (K := .u64) (e := fun _ => 0) (e' := fun _ => 0) (vN (m := k + 1) (K := .i64) (e := fun m => ((3 * m : Nat) : Int)) (e' := fun m => ((3 * m : Nat) : Int)) (vN (m := k + 1) (K := .i64) (e := fun m => ((3 * m + 1 : Nat) : Int)) (e' := fun m => ((3 * m + 1 : Nat) : Int)) vpNil rfl rfl rfl rfl (fun _ _ => rfl)) rfl rfl rfl rfl (fun _ _ => rfl)) rfl rfl rfl rfl (fun _ _ => rfl)) glL (glM _ k r h hk) (St.same (Tb.same _ _ _ _) s)
theorem lExit (hb : Base B μ 20000) (s : SB n f g r n B w0 μ a w) : lL.wp Tryz.prog (fun e a' w' => e = .exit 0 ∧ SX n f g r WZ 0 B w0 μ a' w') a w :=
  runTo_sound (T := Tb (RE (pL n f g WZ) n (Nat.lt_irrefl _)) (M0 (pL n f g WZ) n)) (T' := T0 (pL n f g WZ) 0) mixed hNo (C := CLi iX) (ex := .exit 0) hb (show 20000 ≤ 20010 by decide) (rl := rlI) rfl (by kernel_rfl)
    (ipE (q := (.i64, ((3 * n : Nat) : Int))) (ipE (q := (.i64, (n : Int))) (ipE (ipE ipNil)) rfl rfl) rfl rfl)
    (vN (m := 3 * n) (K := .u64) (e := fun _ => 0) (e' := fun m => wI (WZ m)) (vN (m := n) (K := .i64) (e := fun m => ((3 * m : Nat) : Int)) (e' := fun m => ((3 * m : Nat) : Int)) (vN (m := n) (K := .i64) (e := fun m => ((3 * m + 1 : Nat) : Int)) (e' := fun m => ((3 * m + 1 : Nat) : Int)) vpNil rfl rfl rfl rfl (fun _ _ => rfl)) rfl rfl rfl rfl (fun _ _ => rfl)) rfl rfl rfl rfl (fun _ _ => rfl)) glL (glX _ n r _) (St.same (Tb.same _ _ _ _) s)
theorem lRounds (h : Ok (pL n f g WZ)) (hb : Base B μ 20000) : ∀ (j k : Nat) (a : Act) (w : World), k + j = n + 1 → k ≤ n → SB n f g r k B w0 μ a w → Code.rounds Tryz.prog lL (fun e a w => e = .exit 0 ∧ SX n f g r WZ 0 B w0 μ a w) j a w
  | 0, k, a, w, h1, h2, s => by omega
  | j + 1, k, a, w, h1, h2, s => by
    by_cases hk : k < n
    · refine rounds_of (wp_mono (lMore h hb hk s) ?_)
      rintro e a' w' ⟨rfl, s'⟩
      exact lRounds h hb j (k + 1) a' w' (by omega) (by omega) s'
    · obtain rfl : k = n := by omega
      refine rounds_of (wp_mono (lExit hb s) ?_)
      rintro e a' w' ⟨rfl, s'⟩
      exact ⟨rfl, s'⟩
/-- k links are laid -/
structure Lk (n : Nat) (W : Nat → BitVec 64) (k : Nat) : Prop where
  z : ∀ m, m < n → W (3 * m) = 0#64
  y : ∀ c, c < k → wI (W (3 * c + 2)) = ((3 * (c + 1) + 1 : Nat) : Int)
  o : ∀ c, k ≤ c → wI (W (3 * c + 2)) = 0
theorem vJok {T T' : Tab} {C : Cv} {i : Nat} {W W' : Nat → BitVec 64} {n : Nat} (h1 : T.vv i = numV .u64 (3 * n) (fun m => wI (W m)) := by exact rfl) (h2 : T.vk i = 3 * n := by exact rfl) (h3 : T'.vv 10 = numV .u64 (3 * n) (fun m => wI (W' m)) := by exact rfl) (h4 : T'.vk 10 = 3 * n := by exact rfl)
    (h5 : T.vv 11 = numV .i64 n (fun m => ((3 * m : Nat) : Int)) := by exact rfl) (h6 : T.vk 11 = n := by exact rfl) (h7 : T'.vv 11 = numV .i64 n (fun m => ((3 * m : Nat) : Int)) := by exact rfl) (h8 : T'.vk 11 = n := by exact rfl)
    (h9 : T.vv 12 = numV .i64 n (fun m => ((3 * m + 1 : Nat) : Int)) := by exact rfl) (ha : T.vk 12 = n := by exact rfl) (hb : T'.vv 12 = numV .i64 n (fun m => ((3 * m + 1 : Nat) : Int)) := by exact rfl) (hc : T'.vk 12 = n := by exact rfl) (he : ∀ m, W' m = W m := by exact fun _ => rfl) : VpOk T T' C (vJ i) :=
  vN (vN (vN vpNil h9 hb ha hc (fun _ _ => rfl)) h5 h7 h6 h8 (fun _ _ => rfl)) h1 h3 h2 h4 (fun m _ => congrArg wI (he m))
theorem okW (h : Ok (pL n f g WZ)) : Ok (pL n f g W) := ⟨h.n1, h.n6, h.f1, h.g1⟩
theorem cMore (h : Ok (pL n f g WZ)) (hl : Lk n W k) (hb : Base B μ 20000) (hk : k + 1 < n) (s : SC n f g r W k B w0 μ a w) : lM.wp Tryz.prog (fun e a' w' => e = .normal ∧ SC n f g r (put W (3 * k + 2) ((3 * k + 4 : Nat) : Int)) (k + 1) B w0 μ a' w') a w :=
  have hkn : k < n := by omega
  runTo_sound (T := Tb (RP (pL n f g W) k (okW h) hk ⟨hl.z⟩) (M0 (pL n f g W) k)) (T' := T0 (pL n f g (put W (3 * k + 2) ((3 * k + 4 : Nat) : Int))) (k + 1)) mixed (K := hK) (hK_ok (okW h) hkn _ _) (C := CLi ((.oi 11, 10) :: iL2)) (ex := .normal) hb (show 20000 ≤ 20010 by decide) (rl := rlI) rfl (by kernel_rfl)
    (ipE (ipE (ipE (ipE ipNil)))) (vJok (n := n) (W := put W (3 * k + 2) ((3 * k + 4 : Nat) : Int)) (W' := put W (3 * k + 2) ((3 * k + 4 : Nat) : Int))) glL (gcP _ k r (okW h) hk ⟨hl.z⟩) (St.same (Tb.same _ _ _ _) s)
theorem lkMore (h6 : n ≤ 600) (hk : k + 1 < n) (hl : Lk n W k) : Lk n (put W (3 * k + 2) ((3 * k + 4 : Nat) : Int)) (k + 1) := by
  refine ⟨fun m hm => by rw [put_ne (by omega)]; exact hl.z m hm, fun c hc => ?_, fun c hc => by rw [put_ne (by omega)]; exact hl.o c (by omega)⟩
  by_cases e : c = k
  · subst e
    rw [put_at (by omega)]; congr 1
  · rw [put_ne (by omega)]; exact hl.y c (by omega)
theorem cExit (h : Ok (pL n f g WZ)) (hb : Base B μ 20000) (hk : k + 1 = n) (s : SC n f g r W k B w0 μ a w) : lM.wp Tryz.prog (fun e a' w' => e = .exit 2 ∧ SC n f g r W k B w0 μ a' w') a w :=
  runTo_sound (T := Tb (RPx (pL n f g W) k (okW h) hk) (M0 (pL n f g W) k)) (T' := T0 (pL n f g W) k) mixed hNo (C := CLi ((.oi 10, 10) :: iL2)) (ex := .exit 2) hb (show 20000 ≤ 20010 by decide) (rl := rlI) rfl (by kernel_rfl)
    (ipE (ipE (ipE (ipE ipNil)))) (vJok (n := n) (W := W) (W' := W)) glL (gcX _ k r (okW h) hk) (St.same (Tb.same _ _ _ _) s)
theorem cRounds (h : Ok (pL n f g WZ)) (hb : Base B μ 20000) : ∀ (j k : Nat) (W : Nat → BitVec 64) (a : Act) (w : World), k + j = n → k + 1 ≤ n → Lk n W k → SC n f g r W k B w0 μ a w → Code.rounds Tryz.prog lM (fun e a w => e = .exit 2 ∧ ∃ k W, k + 1 = n ∧ Lk n W k ∧ SC n f g r W k B w0 μ a w) j a w := by
  intro j
  induction j with
  | zero => intro k W a w h1 h2 hl s; omega
  | succ j ih =>
    intro k W a w h1 h2 hl s
    by_cases hk : k + 1 < n
    · refine rounds_of (wp_mono (cMore h hl hb hk s) ?_)
      rintro e a' w' ⟨rfl, s'⟩
      exact ih (k + 1) _ a' w' (by omega) (by omega) (lkMore h.n6 hk hl) s'
    · have hk : k + 1 = n := by omega
      refine rounds_of (wp_mono (cExit h hb hk s) ?_)
      rintro e a' w' ⟨rfl, s'⟩
      exact ⟨rfl, k, W, hk, hl, s'⟩
/-- the end is tied, or not -/
theorem qTie (h : Ok (pL n f g WZ)) (hl : Lk n W k) (hb : Base B μ 20000) (hk : k + 1 = n) (hg : g = if r then 0 else f) (s : SC n f g r W k B w0 μ a w) : l8.wp Tryz.prog (fun e a' w' => e = .normal ∧ ∃ W, Chn (pL n f g W) r ∧ SX n f g r W 0 B w0 μ a' w') a w := by
  have hkn : k < n := by omega
  have h6 : n ≤ 600 := h.n6
  cases r with
  | true =>
    refine wp_mono (runTo_sound (T := Tb (RQ (pL n f g W) k (okW h) hk ⟨hl.z⟩) (M0 (pL n f g W) k)) (T' := T0 (pL n f g (put W (3 * k + 2) 1)) 0) mixed (K := hK) (hK_ok (okW h) hkn _ _) (C := CLi iL2) (ex := .normal) hb (show 20000 ≤ 20010 by decide) (rl := rlI) rfl (by kernel_rfl)
      (ipE (ipE (ipE ipNil))) (vJok (i := 14) (n := n) (W := put W (3 * k + 2) 1) (W' := put W (3 * k + 2) 1)) glL (gq1 _ k (okW h) hk ⟨hl.z⟩) (St.same (Tb.same _ _ _ _) s)) ?_
    rintro e a' w' ⟨rfl, s'⟩
    refine ⟨rfl, put W (3 * k + 2) 1, ⟨okW h, ⟨fun m hm => by show put W (3 * k + 2) 1 (3 * m) = _; rw [put_ne (by omega)]; exact hl.z m hm⟩, fun c hc => ?_, hg⟩, s'⟩
    have hc : c < n := hc
    show wI (put W (3 * k + 2) 1 (3 * c + 2)) = chW n true c
    unfold chW
    by_cases e : c = k
    · subst e
      rw [put_x (by decide) (by decide), if_neg (by omega)]; rfl
    · rw [put_ne (by omega), if_pos (by omega)]; exact hl.y c (by omega)
  | false =>
    refine wp_mono (runTo_sound (T := T0 (pL n f g W) k) (T' := T0 (pL n f g W) 0) mixed hNo (C := CLi iL2) (ex := .normal) hb (show 20000 ≤ 20010 by decide) (rl := rlI) rfl (by kernel_rfl)
      (ipE (ipE (ipE ipNil))) (vJok (n := n) (W := W) (W' := W)) glL (gq0 _ k) s) ?_
    rintro e a' w' ⟨rfl, s'⟩
    refine ⟨rfl, W, ⟨okW h, ⟨hl.z⟩, fun c hc => ?_, hg⟩, s'⟩
    have hc : c < n := hc
    show wI (W (3 * c + 2)) = chW n false c
    unfold chW
    by_cases e : c = k
    · subst e
      rw [if_neg (by omega)]; exact hl.o c (Nat.le_refl _)
    · rw [if_pos (by omega)]; exact hl.y c (by omega)
theorem lEnd (i : Chn (pL n f g W) r) (s : SX n f g r W 0 B w0 μ a w) : (restn 9 lC).wp Tryz.prog (Yes Tryz.prog Tryz.f3 B w0) a w := by
  have kh : ∀ (R : RwP (pL n f g W) 0) (M : Mw (pL n f g W) 0), @HandOk (Tb R M) Tryz.prog KH := fun R M =>
    orOk (@inHand_ok Tryz.prog (Tb R M) runI (InOk.tab (Tb.same _ _ _ _) (runI_ok i rfl rfl)) rnLim0) (@inHand_ok Tryz.prog (Tb R M) allI (InOk.tab (Tb.same _ _ _ _) (allI_ok i.ok)) alLim0)
  cases r with
  | true => exact runTrue_sound (T := Tb (RH _ true i rfl) (MH _)) mixed (kh _ _) (ge1 _ i rfl) (St.same (Tb.same _ _ _ _) s)
  | false => exact runTrue_sound (T := Tb (RH _ false i rfl) (MH _)) mixed (kh _ _) (ge0 _ i rfl) (St.same (Tb.same _ _ _ _) s)
theorem lk0 : Lk n WZ 0 := ⟨fun _ _ => rfl, fun c hc => by omega, fun _ _ => rfl⟩
/-- the numbers are in range -/
theorem walkIn {n f : Nat} (r : Bool) (h1 : 1 ≤ n) (h2 : n ≤ 600) (h3 : f < n) (w : World) : Calls Tryz.prog 3 #[.int .i64 (n : Int), .int .i64 (f : Int), .bool r] w fun e w' => e = .returned (.bool true) ∧ Below w.heap.size w w' := by
  refine yes_calls Tryz.func3 lC_eq w ?_
  obtain ⟨g, hg⟩ : ∃ g : Nat, g = if r then 0 else f := ⟨_, rfl⟩
  have h : Ok (pL n f g WZ) := ⟨h1, h2, h3, by show g ≤ f; rw [hg]; split <;> omega⟩
  have gg : @Gl (Tb (RS (pL n f g WZ) h) (M0 (pL n f g WZ) 0)) (Kp.below w.heap.size) w := ⟨fun g o a h => (by cases h), fun i m a h => (by cases h)⟩
  have s0 := @St.start (Tb (RS (pL n f g WZ) h) (M0 (pL n f g WZ) 0)) [.oi 0, .oi 1, .bool r] #[.int .i64 (n : Int), .int .i64 (f : Int), .bool r] Tryz.f3.ntmps w gg
    (@vrels_cons (Tb (RS (pL n f g WZ) h) (M0 (pL n f g WZ) 0)) _ _ _ _ _ (by simp only [vrel]; rfl) (@vrels_cons (Tb (RS (pL n f g WZ) h) (M0 (pL n f g WZ) 0)) _ _ _ _ _ (by simp only [vrel]; rfl) (@vrels_cons (Tb (RS (pL n f g WZ) h) (M0 (pL n f g WZ) 0)) _ _ _ _ _ (by simp only [vrel]) (by simp [vrels])))) (show 3 ≤ Tryz.f3.ntmps by decide +kernel) (show 3 < limit by decide)
  have hb : Base (Kp.below w.heap.size) (fun _ => none) 20000 := baseUp (Base.none _) (Nat.zero_le _)
  refine firstTo_sound (T := Tb (RS (pL n f g WZ) h) (M0 (pL n f g WZ) 0)) (T' := T0 (pL n f g WZ) 0) (n := 6) mixed (K := K0) K0_ok (C := CL0 iL) (rl := []) (fs := fsA r) (bs := bsA)
    hb (show 20000 ≤ 20010 by decide) rfl (by kernel_rfl) (ipE (ipE ipNil)) vpNil glL (gl0 _ r h) s0 fun a1 w1 s1 => ?_
  rw [l6_eq]
  refine wp_seq (wp_seq (wp_mono (runTo_sound (T := T0 (pL n f g WZ) 0) (T' := T0 (pL n f g WZ) 0) mixed hNo (C := CL0 ((.int .i64 0, 10) :: iL)) (ex := .normal) hb (show 20000 ≤ 20010 by decide) (rl := []) rfl (by kernel_rfl) (ipK' (b := ((0 : Nat) : Int)) (ipE (ipE ipNil)) rfl rfl) vpNil glL (gl1 _ r) s1) ?_))
  rintro x a2 w2 ⟨rfl, s2⟩
  show (Code.block 0 (.loop lL)).wp _ _ _ _
  refine wp_block (wp_mono (wp_loop_rounds (Q := fun e a w' => e = .exit 0 ∧ SX n f g r WZ 0 (Kp.below w.heap.size) w (fun _ => none) a w') (n + 1) ?_) ?_)
  · refine rounds_of (wp_mono (runTo_sound (T := Tb (RF (pL n f g WZ) h) (M0 (pL n f g WZ) 0)) (T' := T0 (pL n f g WZ) 1) mixed hNo (C := CLa 20096 20098 20100 20095 20093 iF) (bs := bsL 20096 20098 20100 20095 20093 0 1 2 12 10) (ex := .normal) hb (show 20000 ≤ 20010 by decide) (rl := rlL 20096 20098 20100 20095 20093) rfl (by kernel_rfl)
      (ipK' (b := ((3 * 1 : Nat) : Int)) (ipK' (b := ((1 : Nat) : Int)) (ipE (ipE (ipE ipNil))) rfl rfl) rfl rfl)
      (vpRow (n := 3) (K := .u64) (f := fun _ => 0) (vpRow (n := 1) (K := .i64) (f := fun m => ((3 * m : Nat) : Int)) (vpRow (n := 1) (K := .i64) (f := fun m => ((3 * m + 1 : Nat) : Int)) vpNil rfl (by decide) rfl rfl (fun m hm => by
        have e : m = 0 := by omega
        subst e
        exact ⟨_, rfl, rfl⟩)) rfl (by decide) rfl rfl (fun m hm => by
        have e : m = 0 := by omega
        subst e
        exact ⟨_, rfl, rfl⟩)) rfl (by decide) rfl rfl (fun m hm => by
        refine ⟨.int .u64 0, by match m, hm with | 0, _ => rfl | 1, _ => rfl | 2, _ => rfl, rfl⟩)) glL (glF _ r h) (St.same (Tb.same _ _ _ _) s2)) ?_)
    rintro e a' w' ⟨rfl, s'⟩
    exact lRounds h hb n 1 a' w' (by omega) h1 s'
  rintro x a3 w3 ⟨rfl, s3⟩
  show (restn 7 lC).wp _ _ _ _
  rw [l7_eq]
  refine wp_seq (wp_seq (wp_mono (runTo_sound (T := T0 (pL n f g WZ) 0) (T' := T0 (pL n f g WZ) 0) mixed hNo (C := CLi ((.int .i64 0, 10) :: iL2)) (ex := .normal) hb (show 20000 ≤ 20010 by decide) (rl := rlI) rfl (by kernel_rfl) (ipK' (b := ((0 : Nat) : Int)) (ipE (ipE (ipE ipNil))) rfl rfl) (vJok (n := n) (W := WZ) (W' := WZ)) glL (gc0 _ r) s3) ?_))
  rintro x a4 w4 ⟨rfl, s4⟩
  show (Code.block 2 (.loop lM)).wp _ _ _ _
  refine wp_block (wp_mono (wp_loop_rounds (Q := fun e a w' => e = .exit 2 ∧ ∃ k W, k + 1 = n ∧ Lk n W k ∧ SC n f g r W k (Kp.below w.heap.size) w (fun _ => none) a w') n (cRounds h hb n 0 WZ a4 w4 (by omega) (by omega) lk0 s4)) ?_)
  rintro x a5 w5 ⟨rfl, k, W, hk, hl, s5⟩
  show (restn 8 lC).wp _ _ _ _
  rw [l8_eq]
  refine wp_seq (wp_mono (qTie h hl hb hk hg s5) ?_)
  rintro x a6 w6 ⟨rfl, W', i, s6⟩
  exact lEnd i s6
end
/- the numbers are out of range -/
abbrev ivO (a b : Int) : Nat → IntKind × Int
  | 0 => (.i64, a)
  | _ => (.i64, b)
abbrev RO (a b : Int) (l : List BRow) (h : ∀ r ∈ l, IbOk (ivO a b) r) : Rw (ivO a b) noV noK fg0 (tx0 (ivO a b)) where
  vvp := noVp
  ib := l
  ibok := h
theorem out_ok {a b : Int} {l : List BRow} (h : ∀ r ∈ l, IbOk (ivO a b) r) {r : Bool} (w : World) (hq : okTrue (@call (RO a b l h).T Tryz.prog K0 3000 3 [.oi 0, .oi 1, .bool r] H.empty) = true) : Calls Tryz.prog 3 #[.int .i64 a, .int .i64 b, .bool r] w fun e w' => e = .returned (.bool true) ∧ Below w.heap.size w w' := by
  letI := (RO a b l h).T
  obtain ⟨q, hq⟩ := CallOk.of_okTrue (P := Tryz.prog) mixed (K0_ok (T := (RO a b l h).T)) hq
  exact CallOk.yes hq (vrels_cons (by simp only [vrel]; rfl) (vrels_cons (by simp only [vrel]; rfl) (vrels_cons (by simp only [vrel]) (by simp [vrels])))) w ⟨fun g o a h => (by cases h), fun i m a h => (by cases h)⟩
theorem o1 (a b : Int) (r : Bool) (h) : okTrue (@call (RO a b [(11, .oi 0, .int .i64 1, .bool true)] h).T Tryz.prog K0 3000 3 [.oi 0, .oi 1, .bool r] H.empty) = true := by cases r <;> (as_aux_lemma => kernel_rfl)
theorem o2 (a b : Int) (r : Bool) (h) : okTrue (@call (RO a b [(11, .oi 0, .int .i64 1, .bool false), (13, .oi 0, .int .i64 600, .bool true)] h).T Tryz.prog K0 3000 3 [.oi 0, .oi 1, .bool r] H.empty) = true := by cases r <;> (as_aux_lemma => kernel_rfl)
theorem o3 (a b : Int) (r : Bool) (h) : okTrue (@call (RO a b [(11, .oi 0, .int .i64 1, .bool false), (13, .oi 0, .int .i64 600, .bool false), (11, .oi 1, .int .i64 0, .bool true)] h).T Tryz.prog K0 3000 3 [.oi 0, .oi 1, .bool r] H.empty) = true := by cases r <;> (as_aux_lemma => kernel_rfl)
theorem o4 (a b : Int) (r : Bool) (h) : okTrue (@call (RO a b [(11, .oi 0, .int .i64 1, .bool false), (13, .oi 0, .int .i64 600, .bool false), (11, .oi 1, .int .i64 0, .bool false), (14, .oi 1, .oi 0, .bool true)] h).T Tryz.prog K0 3000 3 [.oi 0, .oi 1, .bool r] H.empty) = true := by cases r <;> (as_aux_lemma => kernel_rfl)
theorem walkAny (a b : Int) (r : Bool) (w : World) : Calls Tryz.prog 3 #[.int .i64 a, .int .i64 b, .bool r] w fun e w' => e = .returned (.bool true) ∧ Below w.heap.size w w' := by
  by_cases c1 : a < 1
  · exact out_ok (rLt (iv := ivO a b) (a := a) (b := 1) (t := true) ibNil rfl rfl (decide_eq_true c1)) w (o1 a b r _)
  by_cases c2 : a > 600
  · exact out_ok (rLt (iv := ivO a b) (a := a) (b := 1) (t := false) (rGt (iv := ivO a b) (a := a) (b := 600) (t := true) ibNil rfl rfl (decide_eq_true c2)) rfl rfl (decide_eq_false c1)) w (o2 a b r _)
  by_cases c3 : b < 0
  · exact out_ok (rLt (iv := ivO a b) (a := a) (b := 1) (t := false) (rGt (iv := ivO a b) (a := a) (b := 600) (t := false) (rLt (iv := ivO a b) (a := b) (b := 0) (t := true) ibNil rfl rfl (decide_eq_true c3)) rfl rfl (decide_eq_false c2)) rfl rfl (decide_eq_false c1)) w (o3 a b r _)
  by_cases c4 : b ≥ a
  · exact out_ok (rLt (iv := ivO a b) (a := a) (b := 1) (t := false) (rGt (iv := ivO a b) (a := a) (b := 600) (t := false) (rLt (iv := ivO a b) (a := b) (b := 0) (t := false) (rGe (iv := ivO a b) (a := b) (b := a) (t := true) ibNil rfl rfl (decide_eq_true c4)) rfl rfl (decide_eq_false c3)) rfl rfl (decide_eq_false c2)) rfl rfl (decide_eq_false c1)) w (o4 a b r _)
  obtain ⟨n, rfl⟩ := Int.eq_ofNat_of_zero_le (show 0 ≤ a by omega)
  obtain ⟨f, rfl⟩ := Int.eq_ofNat_of_zero_le (show 0 ≤ b by omega)
  exact walkIn r (by omega) (by omega) (by omega) w
end Go.Proofs.YtbabfeloandpdaaGreatDoor.cc
