/-
  The law StringsAll: a text's chars as a contract.
-/
import Derived.Test.YtifdjfcakkdgeaaGreatDoorSAE
import Derived.Test.YtifdjfcakkdgeaaGreatDoorSBN
set_option linter.unusedVariables false
set_option linter.unusedSimpArgs false
set_option linter.unusedSectionVars false
set_option maxRecDepth 1000000
set_option maxHeartbeats 0
namespace Go.Proofs.YtifdjfcakkdgeaaGreatDoor.sa
open Go.X Go.RowKit Go.Proofs
noncomputable def cC : Code := codeOf Tryz.f25
theorem cC_eq : Tryz.f25.body = some cC := by kernel_rfl
noncomputable def cI : Code := hd (hd (restn 3 cC))
noncomputable def cL : Code := lpIn (tl (hd (restn 3 cC)))
theorem c3_eq : restn 3 cC = .seq (.seq cI (.block 0 (.loop cL))) (restn 4 cC) := by kernel_rfl
/-- the heap behind a text -/
noncomputable def bH (z : Nat) : BL := [(3255, hp 20011 3 20012 7 (hN z)), (20011, .vec 3), (20012, .vec 4), (hN z, shp)]
noncomputable def bC (z v a : Nat) : BS := (30001, a, .vec v) :: same (bH z)
noncomputable abbrev fsB : List (Nat × AV) := [(0, .ptr 3255 0), (1, .oi 4), (5, .ov 30001 0 1)]
noncomputable abbrev fsC : List (Nat × AV) := [(0, .ptr 3255 0), (1, .oi 4), (5, .ov 30001 0 1), (18, .oi 0), (19, .oi 40)]
/-- what the search for an address asks -/
noncomputable abbrev KB : Hand := (bs.bsHand 4 7 1 2).or (bs.bsHandC 4 7 0 97)
section
variable {p : Pm} {k : Nat}
theorem S1_0 (h : Ar p) : p.S1 0 = 0 := by
  show (if 0 < p.cnt then p.S 0 else (p.tot : Int)) = _
  by_cases c : 0 < p.cnt
  · rw [if_pos c]; exact h.s0 c
  · rw [if_neg c, h.ct.1 (by omega)]; rfl
theorem S1_inc (h : Ar p) : ∀ m k, m < k → k < p.cnt + 1 → p.S1 m < p.S1 k := fun m k h1 h2 => by
  show (if m < p.cnt then p.S m else _) < (if k < p.cnt then p.S k else _)
  rw [if_pos (by omega)]
  split
  · exact h.inc m k h1 (by omega)
  · exact h.sm m (by omega)
theorem KB_ok {T : Tab} (h : Ar p) (e : SameTab (T0 p k) T) : @HandOk T Tryz.prog KB := by
  have hs : ∀ m, m < p.cnt + 1 → ∃ a, T.vv 4 m = some a ∧ ∀ μ v, @vrel T μ a v → v = .int .i64 (p.S1 m) := fun m hm => ⟨.int .i64 (p.S1 m), by rw [← e.vv]; show numV .i64 (p.cnt + 1) p.S1 m = _; unfold numV; rw [if_pos hm], fun μ v hv => by simpa only [vrel] using hv⟩
  have h2 := h.c2
  exact @HandOk.or T Tryz.prog _ _ (bs.bsHand_ok (n := p.cnt + 1) (p := p.cnt) (F := p.S1) (by rw [← e.iv]; rfl) (by rw [← e.iv]; show ((IntKind.i64, (p.tot : Int)) : IntKind × Int) = _; rw [S1_tot]) (by rw [← e.iv]; rfl) hs (by omega) (by omega) (S1_inc h))
    (bs.bsHandC_ok (n := p.cnt + 1) (p := 0) (F := p.S1) (by rw [← e.iv]; rfl) (S1_0 h) (by rw [← e.iv]; rfl) hs (by omega) (by omega) (S1_inc h))
end
noncomputable abbrev rowsG : List BRow := [(1, .oi 4, .int .i64 1, .oi 1), (11, .oi 1, .oi 3, .bool true), (14, .oi 1, .int .i64 0, .bool true), (0, .oi 4, .int .i64 1, .oi 12), (11, .oi 12, .oi 3, .bool true), (14, .oi 12, .int .i64 0, .bool true)]
section
variable {p : Pm} {k : Nat}
theorem rowsG_ok (h : Ar p) (hf : p.t1 ≤ 2048) : ∀ r ∈ rowsG, IbOk (ivP p k) r := by
  have h1 := t1_gt p
  exact rSub (rLt (rGe (rAdd (rLt (rGe ibNil)))))
theorem vlG_ok (h : Ar p) : ∀ r ∈ ([⟨3, 1, 1, 0, [.int .u64 0]⟩, ⟨3, 12, 1, 0, [.oi 13]⟩] : List VL), VlOk (ivP p k) (vvP p k) r := by
  have h1 := t1_gt p; have h2 := h.a60
  have n0 := w0_n p (by omega) p.la
  have n1 := w_0 p p.la
  exact lC (lN allNil (n := p.t1) (q := p.tot + 2) (e := fun m => wI (p.w p.la m)) (hy := congrArg (Prod.mk IntKind.u64) n0.symm)) (n := p.t1) (q := p.tot) (e := fun m => wI (p.w p.la m)) (hy := n1)
end
noncomputable abbrev RB (p : Pm) (h : Ar p) (hf : p.t1 ≤ 2048) (h0 : 0 < p.la) : Rw (ivP p 0) (vvP p 0) (vkP p 0) (fgP p) (txP p 0) where
  vvp := vvPp p 0
  ib := rowsG
  ibok := rowsG_ok h hf
  ic := [(.i64, .oi 13, .oi 0)]
  icok := by have h1 := h.a60; exact rConv icNil
  vl := [⟨3, 1, 1, 0, [.int .u64 0]⟩, ⟨3, 12, 1, 0, [.oi 13]⟩]
  vlok := vlG_ok h
  vn := [⟨1, 0, [.int .u16 0], 20, 0⟩]
  vnok := by have h1 := h.a60; exact nN (n := p.la) (e := fun _ => 0) allNil
noncomputable abbrev ipC : IP := [(.oi 4, 4), (.oi 0, 0), (.oi 3, 3), (.oi 7, 7)]
noncomputable abbrev cvB (N : Nat) : Cv := ⟨30000, 30002, ofPairs [(30001, N)], ipC⟩
def GB (N z : Nat) : Prop := ∀ p h hf h0, firstTo (Pt p (RB p h hf h0)) Tryz.prog KB 3000 Tryz.f25.ntmps 3 cC (T.ofList 0 .leaf [.ptr 3255 0, .oi 4]) (hIn N (bH z)) (cvB N) [(N, .vec 20, 12), (20011, .vec 3, 3), (20012, .vec 4, 4)] fsB (bC z 12 N) = true
noncomputable abbrev ipCk (k : Nat) : IP := (.oi k, 40) :: ipC
noncomputable abbrev cvI' : Cv := ⟨30000, 30002, ofPairs [(30001, 30001)], (.int .i64 0, 40) :: ipC⟩
noncomputable abbrev vpC (v v' : Nat) : VP := [(30001, .vec v, v'), (20011, .vec 3, 3), (20012, .vec 4, 4)]
def GI (z : Nat) : Prop := ∀ p, runTo (TP p) Tryz.prog Hand.none 3000 Tryz.f25.ntmps cI (frOf fsB) (hOf 30002 (bC z 12 30001)) .normal cvI' (vpC 12 12) fsC (bC z 12 30001) = true
noncomputable abbrev rowsC : List BRow := [(11, .oi 40, .oi 0, .bool true), (14, .oi 40, .int .i64 0, .bool true), (3, .oi 40, .int .i64 4, .oi 44), (4, .oi 40, .int .i64 4, .oi 48), (2, .oi 48, .int .i64 2, .oi 49), (2, .oi 49, .int .i64 8, .oi 50), (0, .oi 40, .int .i64 1, .oi 41), (11, .oi 47, .oi 3, .bool true), (14, .oi 47, .int .i64 0, .bool true),
  (1, .oi 4, .int .i64 1, .oi 1), (0, .oi 1, .int .i64 3, .oi 46), (0, .oi 46, .oi 44, .oi 47), (16, .oi 51, .oi 50, .oi 52)]
theorem rowsC_ok {p : Pm} {k : Nat} (h : Ar p) (hf : p.t1 ≤ 2048) (hk : k < p.la) : ∀ r ∈ rowsC, IbOk (ivP p k) r := by
  have h1 := h.a60; have h2 := wd_k hk
  have h3 : p.t1 = p.tot + wd p.la := rfl
  exact rLt (rGe (rQuo (rRem (rMul (rMul (rAdd (rLt (rGe (rSub (rAdd (rAdd (rShr ibNil))))))))))))
noncomputable abbrev RC (p : Pm) (k : Nat) (h : Ar p) (hf : p.t1 ≤ 2048) (hk : k < p.la) : Rw (ivP p k) (vvP p k) (vkP p k) (fgP p) (txP p k) where
  vvp := vvPp p k
  ib := rowsC
  ibok := rowsC_ok h hf hk
  ic := [(.u16, .oi 52, .oi 53)]
  icok := by
    have h1 := w_c p h hk
    as_aux_lemma => exact (rConv icNil)
  vl := [⟨3, 47, 1, 0, [.oi 51]⟩]
  vlok := by
    have h2 := wd_k hk
    have h3 : p.t1 = p.tot + wd p.la := rfl
    as_aux_lemma => exact lN allNil
  vs := [⟨12, 40, 1, 0, [.oi 53], 13⟩]
  vsok := by
    as_aux_lemma => exact sN (e' := upTo p.A (k + 1)) allNil (hy := congrArg some (congrArg (Prod.mk _) (upTo_eq (Nat.lt_succ_self _)).symm)) (hw := fun m _ h => upTo_ne h)
noncomputable abbrev cvC (k : Nat) : Cv := ⟨30000, 30002, ofPairs [(30001, 30001)], ipCk k⟩
def GC (z : Nat) : Prop := ∀ p k h hf hk, runTo (Pt p (RC p k h hf hk)) Tryz.prog Hand.none 3000 Tryz.f25.ntmps cL (frOf fsC) (hOf 30002 (bC z 12 30001)) .normal (cvC 41) (vpC 13 12) fsC (bC z 12 30001) = true
def GX (z : Nat) : Prop := ∀ p k hk, runTo (Pt p (RY p k hk)) Tryz.prog Hand.none 3000 Tryz.f25.ntmps cL (frOf fsC) (hOf 30002 (bC z 12 30001)) (.exit 0) (cvC 40) (vpC 12 12) fsC (bC z 12 30001) = true
noncomputable abbrev cvE' (N : Nat) : Cv := ⟨N, Nat.add N 10, ofPairs [(N, 30001)], ipC⟩
noncomputable def bE (N z : Nat) : BS := (N, 30001, .vec 5) :: same (bH z)
/-- behind the loop -/
def GE (N z : Nat) : Prop := ∀ p k, runTo (T0 p k) Tryz.prog Hand.none 3000 Tryz.f25.ntmps (restn 4 cC) (frOf fsC) (hOf 30002 (bC z 12 30001)) .ret (cvE' N) (vpC 12 5) [(4, .ov N 0 1)] (bE N z) = true
noncomputable def chI (N z : Nat) : In := ⟨25, [.ptr 3255 0, .oi 4], N, bH z, .ov N 0 1, Nat.add N 10, (N, .vec 5) :: bH z⟩
def SC (p : Pm) (z k : Nat) (B : Kp) (w0 : World) (μ : M) (a : Act) (w : World) : Prop := St (T0 p k) B w0 μ Tryz.f25.ntmps (frOf fsC) (hOf 30002 (bC z 12 30001)) a w
section
variable {p : Pm} {z k : Nat} {B : Kp} {w0 : World} {μ : M} {a : Act} {w : World}
theorem vp34 {k k' : Nat} {T T' : Tab} {C : Cv} (h1 : T.vv = vvP p k := by exact rfl) (h2 : T'.vv = vvP p k' := by exact rfl) (h3 : T.vk = vkP p k := by exact rfl) (h4 : T'.vk = vkP p k' := by exact rfl) : VpOk T T' C [(20011, .vec 3, 3), (20012, .vec 4, 4)] :=
  vpNum (K := .u64) (n := p.t1) (e := fun m => wI (p.w p.la m)) (e' := fun m => wI (p.w p.la m)) (vpNum (K := .i64) (n := p.cnt + 1) (e := p.S1) (e' := p.S1) vpNil (by rw [h1]; rfl) (by rw [h2]; rfl) (by rw [h3]; rfl) (by rw [h4]; rfl) (fun _ _ => rfl)) (by rw [h1]; rfl) (by rw [h2]; rfl) (by rw [h3]; rfl) (by rw [h4]; rfl) (fun _ _ => rfl)
theorem cRound (g : GC z) (h : Ar p) (hf : p.t1 ≤ 2048) (hb : Base B μ 30000) (hk : k < p.la) (s : SC p z k B w0 μ a w) : cL.wp Tryz.prog (fun e a' w' => e = .normal ∧ SC p z (k + 1) B w0 μ a' w') a w :=
  runTo_sound (T := (Pt p (RC p k h hf hk))) (T' := T0 p (k + 1)) mixed hNo (C := cvC 41) (ex := .normal) hb (show 30000 ≤ 30002 by decide) (rl := [(30001, 30001)]) rfl (by kernel_rfl) (ipE (ipE (ipE (ipE (ipE ipNil))))) (vpNum (n := p.la) (e := upTo p.A (k + 1)) (e' := upTo p.A (k + 1)) (vp34 (p := p) (k := k) (k' := k + 1))) (glL (p := p)) (g p k h hf hk) (St.same (Pt.same _ _) s)
theorem cExit (g : GX z) (hb : Base B μ 30000) (hk : ¬ k < p.la) (s : SC p z k B w0 μ a w) : cL.wp Tryz.prog (fun e a' w' => e = .exit 0 ∧ SC p z k B w0 μ a' w') a w :=
  runTo_sound (T := (Pt p (RY p k hk))) (T' := T0 p k) mixed hNo (C := cvC 40) (ex := .exit 0) hb (show 30000 ≤ 30002 by decide) (rl := [(30001, 30001)]) rfl (by kernel_rfl) (ipE (ipE (ipE (ipE (ipE ipNil))))) (vpNum (n := p.la) (e := upTo p.A k) (e' := upTo p.A k) (vp34 (p := p) (k := k) (k' := k))) (glL (p := p)) (g p k hk) (St.same (Pt.same _ _) s)
theorem cRounds (g : GC z) (gX : GX z) (h : Ar p) (hf : p.t1 ≤ 2048) (hb : Base B μ 30000) : ∀ (j k : Nat) (a : Act) (w : World), k + j = p.la + 1 → k ≤ p.la → SC p z k B w0 μ a w → Code.rounds Tryz.prog cL (fun e a w => e = .exit 0 ∧ SC p z p.la B w0 μ a w) j a w
  | 0, k, a, w, h1, h2, s => by omega
  | j + 1, k, a, w, h1, h2, s => by
    by_cases hk : k < p.la
    · refine rounds_of (wp_mono (cRound g h hf hb hk s) ?_)
      rintro e a' w' ⟨rfl, s'⟩
      exact cRounds g gX h hf hb j (k + 1) a' w' (by omega) (by omega) s'
    · have hkL : k = p.la := by omega
      refine rounds_of (wp_mono (cExit gX hb hk s) ?_)
      rintro e a' w' ⟨rfl, s'⟩
      rw [hkL] at s'
      exact ⟨rfl, s'⟩
end
/-- a text's chars: a contract -/
theorem chI_ok {p : Pm} {N z : Nat} (h : Ar p) (hf : p.t1 ≤ 2048) (h0 : 0 < p.la) (b : GB N z) (gi : GI z) (gc : GC z) (gx : GX z) (ge : GE N z) (hN : N ≤ 30000) (l : okLim (chI N z).bs' = true) (hl : hasAll (hOf (Nat.add N 10) (bE N z)) (chI N z).bs' = true) (rk1 : okRn (cvB N) [(30001, N)] = true) (rk2 : okRn (cvE' N) [(N, 30001)] = true)
    (hr : results? Tryz.prog Tryz.f25 (frOf [(4, .ov N 0 1)]) (hOf (Nat.add N 10) (bE N z)) = some (.ov N 0 1)) : @InOk Tryz.prog (chI N z) (TP p) := by
  letI : Tab := TP p
  refine ⟨l, hOf (Nat.add N 10) (bE N z), ?_, hOf_next'.symm, hl⟩
  refine callOk_of (fn := Tryz.f25) Tryz.func25 cC_eq (show 2 ≤ Tryz.f25.ntmps by decide +kernel) (show 2 < limit by decide) fun B w0 μ a0 w hb s => ?_
  have hb : Base B μ N := by
    have h := hb
    rw [show (hIn (chI N z).N (chI N z).bs).next = N from hIn_next] at h
    exact h
  have hbU : Base B μ 30000 := baseUp hb hN
  refine firstTo_sound (T := (Pt p (RB p h hf h0))) (T' := TP p) (n := 3) mixed (K := KB) (KB_ok (k := 0) h (Pt.same (R0 p 0) (RB p h hf h0))) (C := cvB N) (rl := [(30001, N)]) (fs := fsB) (bs := bC z 12 N)
    hbU (show 30000 ≤ 30002 by decide) rfl rk1 (ipE (ipE (ipE (ipE ipNil)))) (vpNum (n := p.la) (e := fun _ => 0) (e' := upTo p.A 0) (vp34 (p := p) (k := 0) (k' := 0)) (he := fun m _ => if_neg (Nat.not_lt_zero m))) (glL (p := p)) (b p h hf h0) (St.same (Pt.same _ _) s) fun a1 w1 s1 => ?_
  have s1 : St (TP p) B w0 μ Tryz.f25.ntmps (frOf fsB) (hOf 30002 (bC z 12 30001)) a1 w1 := s1
  rw [c3_eq]
  refine wp_seq (wp_seq (wp_mono (runTo_sound (T := TP p) (T' := TP p) mixed hNo (C := cvI') (ex := .normal) hbU (show 30000 ≤ 30002 by decide) (rl := [(30001, 30001)]) rfl (by kernel_rfl) (ipK' (ipE (ipE (ipE (ipE ipNil)))) (e := rfl)) (vpNum (n := p.la) (e := upTo p.A 0) (e' := upTo p.A 0) (vp34 (p := p) (k := 0) (k' := 0))) (glL (p := p)) (gi p) s1) ?_))
  rintro e a2 w2 ⟨rfl, s2⟩
  show (Code.block 0 (.loop cL)).wp _ _ _ _
  refine wp_block (wp_mono (wp_loop_rounds (Q := fun e a w => e = .exit 0 ∧ SC p z p.la B w0 μ a w) (p.la + 1) (cRounds gc gx h hf hbU (p.la + 1) 0 a2 w2 (by omega) (Nat.zero_le _) s2)) ?_)
  rintro e a3 w3 ⟨rfl, s3⟩
  show (restn 4 cC).wp _ _ _ _
  refine wp_mono (runTo_sound (T := T0 p p.la) (T' := TP p) mixed hNo (C := cvE' N) (ex := .ret) hb (Nat.le_add_right N 10) (rl := [(N, 30001)]) rfl rk2 (ipE (ipE (ipE (ipE ipNil)))) (vpNum (n := p.la) (e := upTo p.A p.la) (e' := p.A) (vp34 (p := p) (k := p.la) (k' := 0)) (he := fun m hm => (upTo_eq hm).symm)) (glL (p := p)) (ge p p.la) s3) ?_
  rintro e a4 w4 ⟨rfl, s4⟩
  exact St.done (τ := TP p) (e := .ret) (.inr rfl) hr s4
theorem gi0 : GI 0 := fun p => by as_aux_lemma => kernel_rfl
theorem gi1 : GI 1 := fun p => by as_aux_lemma => kernel_rfl
theorem gc0 : GC 0 := fun p k h hf hk => by as_aux_lemma => kernel_rfl
theorem gc1 : GC 1 := fun p k h hf hk => by as_aux_lemma => kernel_rfl
theorem gx0 : GX 0 := fun p k hk => by as_aux_lemma => kernel_rfl
theorem gx1 : GX 1 := fun p k hk => by as_aux_lemma => kernel_rfl
theorem gb0 : GB 20050 0 := fun p h hf h0 => by as_aux_lemma => kernel_rfl
theorem gb1 : GB 20050 1 := fun p h hf h0 => by as_aux_lemma => kernel_rfl
theorem ge0 : GE 20050 0 := fun p k => by as_aux_lemma => kernel_rfl
theorem ge1 : GE 20050 1 := fun p k => by as_aux_lemma => kernel_rfl
theorem ch0_ok {p : Pm} (h : Ar p) (hf : p.t1 ≤ 2048) (h0 : 0 < p.la) : @InOk Tryz.prog (chI 20050 0) (TP p) := chI_ok h hf h0 gb0 gi0 gc0 gx0 ge0 (by decide) (by kernel_rfl) (by kernel_rfl) (by kernel_rfl) (by kernel_rfl) (by kernel_rfl)
theorem ch1_ok {p : Pm} (h : Ar p) (hf : p.t1 ≤ 2048) (h0 : 0 < p.la) : @InOk Tryz.prog (chI 20050 1) (TP p) := chI_ok h hf h0 gb1 gi1 gc1 gx1 ge1 (by decide) (by kernel_rfl) (by kernel_rfl) (by kernel_rfl) (by kernel_rfl) (by kernel_rfl)
/-- of an empty text -/
noncomputable abbrev zB : Blk := .cells 0 false [.int .u16 0] .leaf
noncomputable abbrev RBZ (p : Pm) (h : Ar p) (hf : p.t1 ≤ 2048) (hz : p.la = 0) : Rw (ivP p 0) (vvP p 0) (vkP p 0) (fgP p) (txP p 0) where
  vvp := vvPp p 0
  ib := rowsG
  ibok := rowsG_ok h hf
  ic := [(.i64, .oi 13, .int .i64 0)]
  icok := rConv (n := (p.la : Int)) icNil (h := by rw [hz]; rfl)
  vl := [⟨3, 1, 1, 0, [.int .u64 0]⟩, ⟨3, 12, 1, 0, [.oi 13]⟩]
  vlok := vlG_ok h
noncomputable def czI (N z : Nat) : In := ⟨25, [.ptr 3255 0, .oi 4], N, bH z, .sl N 0 0 0, Nat.succ N, (N, zB) :: bH z⟩
theorem cz0_ok {p : Pm} (h : Ar p) (hf : p.t1 ≤ 2048) (hz : p.la = 0) : @InOk Tryz.prog (upIn (czI 20050 0) 20060) (TP p) := @upOk (TP p) Tryz.prog (czI 20050 0) 20060 (by decide +kernel) (InOk.tab (Pt.same _ _) (@InOk.of_run Tryz.prog (Pt p (RBZ p h hf hz)) KB mixed (KB_ok (k := 0) h (Pt.same (R0 p 0) (RBZ p h hf hz))) 3000 (czI 20050 0) (by kernel_rfl) (by as_aux_lemma => kernel_rfl)))
theorem cz1_ok {p : Pm} (h : Ar p) (hf : p.t1 ≤ 2048) (hz : p.la = 0) : @InOk Tryz.prog (upIn (czI 20050 1) 20060) (TP p) := @upOk (TP p) Tryz.prog (czI 20050 1) 20060 (by decide +kernel) (InOk.tab (Pt.same _ _) (@InOk.of_run Tryz.prog (Pt p (RBZ p h hf hz)) KB mixed (KB_ok (k := 0) h (Pt.same (R0 p 0) (RBZ p h hf hz))) 3000 (czI 20050 1) (by kernel_rfl) (by as_aux_lemma => kernel_rfl)))
end Go.Proofs.YtifdjfcakkdgeaaGreatDoor.sa
