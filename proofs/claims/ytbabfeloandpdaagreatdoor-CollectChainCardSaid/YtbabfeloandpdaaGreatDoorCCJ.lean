/-
  The law CollectChain: the contract of Slide; what is reached is marked: runs.
-/
import Derived.Test.YtbabfeloandpdaaGreatDoorCCI
set_option linter.unusedVariables false
set_option linter.unusedSimpArgs false
set_option linter.unusedSectionVars false
set_option maxRecDepth 1000000
set_option maxHeartbeats 0
namespace Go.Proofs.YtbabfeloandpdaaGreatDoor.cc
open Go.X Go.RowKit Go.Proofs
theorem hIn_next {N : Nat} {bs : BL} : (hIn N bs).next = N := by unfold hIn; rw [fT_eq]
theorem baseUp {B : Kp} {μ : M} {n m : Nat} (h : Base B μ n) (hn : n ≤ m) : Base B μ m := ⟨fun x l e => Nat.lt_of_lt_of_le (h.names x l e) hn, fun x e => Nat.lt_of_lt_of_le (h.res x e) hn⟩
theorem hOf_next' {N : Nat} {bs : BS} : (hOf N bs).next = N := by unfold hOf; rw [fT_eq]
theorem St.evB {τ : Tab} {B : Kp} {w0 : World} {μ0 : M} {nt : Nat} {fr : Fr} {h : H} {a : Act} {w : World} {t : Nat} {b : Bool} (s : St τ B w0 μ0 nt fr h a w) (e : ev (.tmp t) fr = some (.bool b)) : a.eval (.tmp t) = .bool b := by
  obtain ⟨μ, hx, f, r⟩ := s
  have := ev_known (fun t v _ ht => f.2.2 t v ht) e
  simpa only [vrel] using this
noncomputable def slI : In := ⟨32, [.ptr 3255 0, fnK], 30006, preS, .map 30011, 30020, bsOf (postS 40001 40003)⟩
theorem slLim : okLim slI.bs' = true := by as_aux_lemma => kernel_rfl
theorem slLim0 : okLim slI.bs = true := by as_aux_lemma => kernel_rfl
theorem slAll : hasAll (hOf 30020 (postS 40001 40003)) slI.bs' = true := by as_aux_lemma => kernel_rfl
theorem slRes : results? Tryz.prog Tryz.f32 (frOf [(4, .map 30011)]) (hOf 30020 (postS 40001 40003)) = some (.map 30011) := by as_aux_lemma => kernel_rfl
theorem rkZ : ∀ ip, okRn (C4 40001 40003 ip) [(30011, 40001), (30012, 40003)] = true := fun ip => by kernel_rfl
theorem rkX : ∀ a ip, okRn (C1 a ip) (rl1 a) = okRn (C1 a []) (rl1 a) := fun a ip => rfl
section
variable {p : Pc} {k : Nat} {B : Kp} {w0 : World} {μ : M} {a : Act} {w : World}
theorem vpU {T T' : Tab} {C : Cv} {x i i' : Nat} {l : VP} (k : VpOk T T' C l) (hv : T'.vv i' = fun _ => none := by exact rfl) (hk : T'.vk i' ≤ T.vk i) : VpOk T T' C ((x, .vec i, i') :: l) :=
  vpCons (vecSubN (fun m a h => by rw [hv] at h; cases h) hk) k
theorem vp23 {T T' : Tab} {C : Cv} {x n : Nat} {l : VP} (k : VpOk T T' C l) (h1 : T.vv 23 = numV .i64 n (fun m => ((3 * m : Nat) : Int)) := by exact rfl) (h2 : T'.vv 23 = numV .i64 n (fun m => ((3 * m : Nat) : Int)) := by exact rfl) (h3 : T.vk 23 = n := by exact rfl) (h4 : T'.vk 23 = n := by exact rfl) : VpOk T T' C ((x, .vec 23, 23) :: l) :=
  vpNum k h1 h2 h3 h4 rfl (fun _ _ => rfl)
/-- the end of Slide -/
theorem zEnd (h : Ok p) (hb : Base B μ 30006) {W : Nat → BitVec 64} {c : Nat} {x : Int} {q q' : Nat × List Nat × Nat} (s : SZ { p with W := W, c := c, x := x, q := q, q' := q' } B w0 μ a w) : (restn 8 sC).wp Tryz.prog (fun e a' w' => e = .ret ∧ St (T0 p 0) B w0 μ ntS (frOf [(4, .map 30011)]) (hOf 30020 (postS 40001 40003)) a' w') a w := by
  have hok : Ok { p with W := W, c := c, x := x, q := q, q' := q' } := ⟨h.n1, h.n6, h.f1, h.g1⟩
  have hcn : p.cnt ≤ p.n := Nat.sub_le _ _
  unfold SZ tE at s
  by_cases hg : p.g = 0
  · rw [if_pos hg] at s
    exact runTo_sound (T := Tb (RX2 { p with W := W, c := c, x := x, q := q, q' := q' } 0 hok) (M0 { p with W := W, c := c, x := x, q := q, q' := q' } 0)) (T' := T0 p 0) mixed hNo (C := C4 40001 40003 ((.oi 2, 4) :: iZ)) (ex := .ret) hb (show 30006 ≤ 30020 by decide) (rl := [(30011, 40001), (30012, 40003)]) rfl (rkZ _)
      (ipZ (a := ((3 * p.n : Nat) : Int)) (b := ((3 * p.cnt : Nat) : Int)) (q := .i64) (ipM (ipE (ipE ipNil))) rfl rfl (by unfold Pc.cnt; omega)) (vpU (vp23 (n := p.cnt) vpNil) rfl (by show 3 * p.cnt ≤ 3 * p.n; omega)) glL (gZ2 _ hok) (St.same (Tb.same _ _ _ _) s)
  · rw [if_neg hg] at s
    exact runTo_sound (T := Tb (RX1 { p with W := W, c := c, x := x, q := q, q' := q' } 0 hok) (MX1 { p with W := W, c := c, x := x, q := q, q' := q' } 0 hok (by show 0 < p.g; omega))) (T' := T0 p 0) mixed hNo (C := C4 40001 40003 iZ) (ex := .ret) hb (show 30006 ≤ 30020 by decide) (rl := [(30011, 40001), (30012, 40003)]) rfl (rkZ _)
      (ipM (ipE (ipE ipNil))) (vpU (vp23 (n := p.cnt) vpNil) rfl (by show 3 * p.cnt ≤ 3 * p.n; omega)) glL (gZ1 _ hok (by show 0 < p.g; omega)) (St.same (Tb.same _ _ _ _) s)
theorem slI_ok (i : Inv p) (hm : Mok p) (hq : p.q = (p.cnt, [], p.cnt)) : @InOk Tryz.prog slI (T0 p 0) := by
  letI : Tab := T0 p 0
  refine ⟨slLim, hOf 30020 (postS 40001 40003), ?_, hOf_next'.symm, slAll⟩
  refine callOk_of (fn := Tryz.f32) Tryz.func32 sC_eq (show 2 ≤ Tryz.f32.ntmps by decide +kernel) (show 2 < limit by decide) fun B w0 μ a0 w hb s => ?_
  have hb : Base B μ 30006 := by
    have h := hb
    rw [show (hIn slI.N slI.bs).next = 30006 from hIn_next] at h
    exact h
  have hbU : Base B μ 40000 := baseUp hb (by decide)
  refine firstTo_sound (T := T0 p 0) (T' := T0 p 0) (n := 4) mixed (K := Hand.none) hNo (C := C1 30006 iA0) (rl := rl1 30006) (fs := fsF0) (bs := bsF 30006 2)
    hbU (show 40000 ≤ 40002 by decide) rfl (by kernel_rfl) (ipMZ (ipE (ipE (ipM ipNil))) (by show toM p.g (0 - p.g) = ([], 0); rw [Nat.zero_sub]; rfl)) (vW0 (n := p.n) (W := p.W) (W' := p.W)) glL (gA0 p) s fun a1 w1 s1 => ?_
  rw [s4_eq]
  refine wp_seq (wp_seq (wp_mono (runTo_sound (T := T0 p 0) (T' := T0 p 0) mixed hNo (C := C1 40001 iA1) (ex := .normal) hbU (show 40000 ≤ 40002 by decide) (rl := rl1 40001) rfl (by kernel_rfl)
    (ipM (ipK' (b := ((3 * (0 - p.g) : Nat) : Int)) (ipK' (b := ((0 : Nat) : Int)) (ipE (ipE (ipM ipNil))) rfl rfl) rfl (by omega))) (vW0 (n := p.n) (W := p.W) (W' := p.W)) glL (gA1 p) s1) ?_))
  rintro e a2 w2 ⟨rfl, s2⟩
  show (Code.block 0 (.loop s4L)).wp _ _ _ _
  refine wp_block (wp_mono (wp_loop_rounds (Q := fun e a w => e = .exit 0 ∧ SG p B w0 μ a w) (p.n + 1) (fRounds i.ok hm hbU (p.n + 1) 0 a2 w2 (by omega) (Nat.zero_le _) s2)) ?_)
  rintro e a3 w3 ⟨rfl, s3⟩
  show (restn 5 sC).wp _ _ _ _
  rw [s5_eq]
  refine wp_seq (wp_seq (wp_mono (runTo_sound (T := Tb (R0 p 0) (MA p 0 hq)) (T' := T0 p 0) mixed hNo (C := C2 40001 40002 ((.ptr 0 0, 0) :: iR)) (ex := .normal) hbU (show 40000 ≤ 40003 by decide) (rl := rl2 40001 40002) rfl (rk2 _)
    (ipQ (ipM (ipE (ipE (ipE (ipM ipNil)))))) (vW0 (n := p.n) (W := p.W) (W' := p.W)) glL (gR p hq) (St.same (Tb.same _ _ _ _) s3)) ?_))
  rintro e a4 w4 ⟨rfl, s4⟩
  show (Code.block 2 (.loop s5L)).wp _ _ _ _
  refine wp_block (wp_mono (wp_loop_rounds (Q := fun e a w => e = .exit 2 ∧ ∃ W c x q q', SG { p with W := W, c := c, x := x, q := q, q' := q' } B w0 μ a w) (un p.cnt p.q.2.1 + 1) (iRounds hbU _ p a4 w4 i (Nat.le_refl _) s4)) ?_)
  rintro e a5 w5 ⟨rfl, W, c, x, q, q', s5⟩
  show (restn 6 sC).wp _ _ _ _
  rw [s6_eq]
  refine wp_seq (wp_mono (runTo_sound (T := T0 { p with W := W, c := c, x := x, q := q, q' := q' } 0) (T' := T0 { p with W := W, c := c, x := x, q := q, q' := q' } 0) mixed hNo (C := C1 40001 iR) (ex := .normal) hbU (show 40000 ≤ 40002 by decide) (rl := rl1 40001) rfl (by kernel_rfl)
    (ipM (ipE (ipE (ipE (ipM ipNil))))) (vW0 (n := p.n) (W := W) (W' := W)) glL (gJ0 _) s5) ?_)
  rintro e a6 w6 ⟨rfl, s6⟩
  show (restn 7 sC).wp _ _ _ _
  rw [s7_eq]
  refine wp_seq (wp_seq (wp_mono (runTo_sound (T := T0 { p with W := W, c := c, x := x, q := q, q' := q' } 0) (T' := T0 { p with W := W, c := c, x := x, q := q, q' := q' } 0) mixed hNo (C := C1 40001 ((.int .i64 0, 10) :: iR)) (ex := .normal) hbU (show 40000 ≤ 40002 by decide) (rl := rl1 40001) rfl (by kernel_rfl)
    (ipK' (b := ((0 : Nat) : Int)) (ipM (ipE (ipE (ipE (ipM ipNil))))) rfl rfl) (vW0 (n := p.n) (W := W) (W' := W)) glL (gJ1 _) s6) ?_))
  rintro e a7 w7 ⟨rfl, s7⟩
  show (Code.block 6 (.loop s7L)).wp _ _ _ _
  refine wp_block (wp_mono (wp_loop_rounds (Q := fun e a w => e = .exit 6 ∧ ∃ W', SZ { p with W := W', c := c, x := x, q := q, q' := q' } B w0 μ a w) (p.n + 1) (jRounds0 (p := { p with W := W, c := c, x := x, q := q, q' := q' }) hbU ⟨i.ok.n1, i.ok.n6, i.ok.f1, i.ok.g1⟩ (p.n + 1) 0 a7 w7 (by show 0 + (p.n + 1) = p.n + 1; omega) (Nat.zero_le _) s7)) ?_)
  rintro e a8 w8 ⟨rfl, W', s8⟩
  show (restn 8 sC).wp _ _ _ _
  refine wp_mono (zEnd i.ok hb s8) ?_
  rintro e a9 w9 ⟨rfl, s9⟩
  exact St.done (τ := T0 p 0) (e := .ret) (.inr rfl) slRes s9
end
end Go.Proofs.YtbabfeloandpdaaGreatDoor.cc
