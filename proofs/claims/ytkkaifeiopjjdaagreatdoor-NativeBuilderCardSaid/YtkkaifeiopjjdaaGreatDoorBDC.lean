/-
  The law NativeBuilder: a text's chars as contracts.
-/
import Derived.Test.YtkkaifeiopjjdaaGreatDoorBDU
import Derived.Test.YtkkaifeiopjjdaaGreatDoorNBM
set_option linter.unusedVariables false
set_option linter.unusedSimpArgs false
set_option linter.unusedSectionVars false
set_option maxRecDepth 1000000
set_option maxHeartbeats 0
namespace Go.Proofs.YtkkaifeiopjjdaaGreatDoor.bd
open Go.X Go.RowKit Go.Proofs
noncomputable def cC : Code := codeOf Tryz.f13
theorem cC_eq : Tryz.f13.body = some cC := by kernel_rfl
noncomputable def cI : Code := hd (hd (restn 3 cC))
noncomputable def cL : Code := lpIn (tl (hd (restn 3 cC)))
theorem c3_eq : restn 3 cC = .seq (.seq cI (.block 0 (.loop cL))) (restn 4 cC) := by kernel_rfl
/-- a text that stands in the words, where the heap finds it -/
structure TextOk (x : Tx) (s i n : Nat) (F : Nat → Int) : Prop where
  at_ : At x.W s n F
  il : i < x.cnt
  ix : x.S i = (s : Int)
  s3 : 3 ≤ s
  room : s + wd n ≤ x.tot
  n7 : n ≤ 700
  hF : ∀ m, 0 ≤ F m ∧ F m < 65536
noncomputable def bH : BL := [(9899, hp 20001 1 20002 2), (20001, .vec 0), (20002, .vec 1), (13316, shp)]
noncomputable def bC (v a : Nat) : BS := (30001, a, .vec v) :: same bH
noncomputable abbrev KO : Hand := bs.bsHandC 1 2 0 97
noncomputable abbrev KBB : Hand := bs.bsHand 1 2 80 83
noncomputable abbrev KBA : Hand := bs.bsHand 1 2 120 123
section
variable {p : P} {k : Nat} {T : Tab}
theorem hs_ (e : SameTab (T0 p k) T) : ∀ m, m < p.x.cnt → ∃ a, T.vv 1 m = some a ∧ ∀ μ v, @vrel T μ a v → v = .int .i64 (p.x.S m) := fun m hm => ⟨.int .i64 (p.x.S m), by rw [← e.vv]; show numV .i64 p.x.cnt p.x.S m = _; unfold numV; rw [if_pos hm], fun μ v hv => by simpa only [vrel] using hv⟩
theorem KO_ok (h : TxOk p.x) (e : SameTab (T0 p k) T) : @HandOk T Tryz.prog KO := by
  have h1 := h.c0; have h2 := h.c2
  exact bs.bsHandC_ok (n := p.x.cnt) (p := 0) (F := p.x.S) (by rw [← e.iv]; rfl) h.s0 (by rw [← e.iv]; rfl) (hs_ e) (by omega) (by omega) h.inc
theorem KBB_ok (h : TxOk p.x) (b : TextOk p.x p.sb p.ix p.lt p.C) (e : SameTab (T0 p k) T) : @HandOk T Tryz.prog KBB := by
  have h1 := h.c0; have h2 := h.c2; have h3 := b.il
  exact bs.bsHand_ok (n := p.x.cnt) (p := p.ix) (F := p.x.S) (by rw [← e.iv]; rfl) (by rw [← e.iv]; show ((IntKind.i64, (p.sb : Int)) : IntKind × Int) = _; rw [b.ix]) (by rw [← e.iv]; rfl) (hs_ e) (by omega) (by omega) h.inc
theorem KBA_ok (h : TxOk p.x) (b : TextOk p.x p.sa p.ia p.pl p.A) (e : SameTab (T0 p k) T) : @HandOk T Tryz.prog KBA := by
  have h1 := h.c0; have h2 := h.c2; have h3 := b.il
  exact bs.bsHand_ok (n := p.x.cnt) (p := p.ia) (F := p.x.S) (by rw [← e.iv]; rfl) (by rw [← e.iv]; show ((IntKind.i64, (p.sa : Int)) : IntKind × Int) = _; rw [b.ix]) (by rw [← e.iv]; rfl) (hs_ e) (by omega) (by omega) h.inc
end
noncomputable abbrev zB : Blk := .cells 0 false [.int .u16 0] .leaf
noncomputable abbrev rowsGB : List BRow := [(1, .oi 81, .int .i64 1, .oi 80), (11, .oi 80, .oi 1, .bool true), (14, .oi 80, .int .i64 0, .bool true), (0, .oi 81, .int .i64 1, .oi 82), (11, .oi 82, .oi 1, .bool true), (14, .oi 82, .int .i64 0, .bool true)]
noncomputable abbrev vlGB : List VL := [⟨0, 80, 1, 0, [.int .u64 1]⟩, ⟨0, 82, 1, 0, [.oi 85]⟩]
section
variable {p : P} {k : Nat}
theorem rowsGB_ok (h : TxOk p.x) (b : TextOk p.x p.sb p.ix p.lt p.C) : ∀ r ∈ rowsGB, IbOk (ivP p k) r := by
  have h1 := b.room; have h2 := wd_pos p.lt; have h3 := h.t2; have h4 := t1_gt p.x
  exact rSub (rLt (rGe (rAdd (rLt (rGe ibNil)))))
theorem vlGB_ok (h : TxOk p.x) (b : TextOk p.x p.sb p.ix p.lt p.C) : ∀ r ∈ vlGB, VlOk (ivP p k) (vvP p k) r := by
  have h1 := b.room; have h2 := wd_pos p.lt
  exact lC (lN allNil (n := p.x.tot) (q := p.sb + 2) (e := fun m => wI (p.x.W m)) (hy := congrArg (Prod.mk IntKind.u64) b.at_.ln.symm)) (n := p.x.tot) (q := p.sb) (e := fun m => wI (p.x.W m)) (hy := b.at_.sh)
end
noncomputable abbrev RBB (p : P) (h : TxOk p.x) (b : TextOk p.x p.sb p.ix p.lt p.C) (h0 : 0 < p.lt) : Rw (ivP p 0) (vvP p 0) (vkP p 0) (fgP p) (txP p 0) where
  vvp := vvPp p 0
  ib := rowsGB
  ibok := rowsGB_ok h b
  ic := [(.i64, .oi 85, .oi 84)]
  icok := by have h1 := b.n7; exact rConv icNil
  vl := vlGB
  vlok := vlGB_ok h b
  vn := [⟨1, 84, [.int .u16 0], 54, 84⟩]
  vnok := by have h1 := b.n7; exact nN (n := p.lt) (e := fun _ => 0) allNil
noncomputable abbrev ipCB : IP := [(.oi 81, 81), (.oi 84, 84), (.oi 1, 1), (.oi 2, 2)]
noncomputable abbrev fsBB : List (Nat × AV) := [(0, .ptr 9899 0), (1, .oi 81), (5, .ov 30001 84 1)]
noncomputable abbrev fsCB : List (Nat × AV) := [(0, .ptr 9899 0), (1, .oi 81), (5, .ov 30001 84 1), (18, .oi 84), (19, .oi 40)]
noncomputable abbrev cvBB (N : Nat) : Cv := ⟨30000, 30002, ofPairs [(30001, N)], ipCB⟩
noncomputable abbrev vpCB (v v' : Nat) : VP := [(30001, .vec v, v'), (20001, .vec 0, 0), (20002, .vec 1, 1)]
def GBB (N : Nat) : Prop := ∀ p h b h0, firstTo (Pt (RBB p h b h0)) Tryz.prog KBB 3000 Tryz.f13.ntmps 3 cC (T.ofList 0 .leaf [.ptr 9899 0, .oi 81]) (hIn N bH) (cvBB N) [(N, .vec 54, 52), (20001, .vec 0, 0), (20002, .vec 1, 1)] fsBB (bC 52 N) = true
noncomputable abbrev cvIB' : Cv := ⟨30000, 30002, ofPairs [(30001, 30001)], (.int .i64 0, 40) :: ipCB⟩
theorem giB : ∀ p, runTo (TP p) Tryz.prog Hand.none 3000 Tryz.f13.ntmps cI (frOf fsBB) (hOf 30002 (bC 52 30001)) .normal cvIB' (vpCB 52 52) fsCB (bC 52 30001) = true := fun p => by as_aux_lemma => kernel_rfl
noncomputable abbrev rowsCB : List BRow := [(11, .oi 40, .oi 84, .bool true), (14, .oi 40, .int .i64 0, .bool true), (3, .oi 40, .int .i64 4, .oi 44), (4, .oi 40, .int .i64 4, .oi 48), (2, .oi 48, .int .i64 2, .oi 49), (2, .oi 49, .int .i64 8, .oi 50), (0, .oi 40, .int .i64 1, .oi 41), (11, .oi 87, .oi 1, .bool true), (14, .oi 87, .int .i64 0, .bool true),
  (1, .oi 81, .int .i64 1, .oi 80), (0, .oi 80, .int .i64 3, .oi 86), (0, .oi 86, .oi 44, .oi 87), (16, .oi 88, .oi 50, .oi 89)]
theorem rowsCB_ok {p : P} {k : Nat} (h : TxOk p.x) (b : TextOk p.x p.sb p.ix p.lt p.C) (hk : k < p.lt) : ∀ r ∈ rowsCB, IbOk (ivP p k) r := by
  have h1 := b.n7; have h2 := wd_k hk; have h3 := b.room; have h4 := h.t2; have h5 := t1_gt p.x
  exact rLt (rGe (rQuo (rRem (rMul (rMul (rAdd (rLt (rGe (rSub (rAdd (rAdd (rShr ibNil))))))))))))
noncomputable abbrev RCB (p : P) (k : Nat) (h : TxOk p.x) (b : TextOk p.x p.sb p.ix p.lt p.C) (hk : k < p.lt) : Rw (ivP p k) (vvP p k) (vkP p k) (fgP p) (txP p k) where
  vvp := vvPp p k
  ib := rowsCB
  ibok := rowsCB_ok h b hk
  ic := [(.u16, .oi 89, .oi 90)]
  icok := by
    have h1 := b.at_.ch k hk
    as_aux_lemma => exact (rConv icNil)
  vl := [⟨0, 87, 1, 0, [.oi 88]⟩]
  vlok := by
    have h2 := wd_k hk; have h3 := b.room
    as_aux_lemma => exact lN (n := p.x.tot) (q := p.sb + 3 + k / 4) (e := fun m => wI (p.x.W m)) allNil
  vs := [⟨52, 40, 1, 0, [.oi 90], 53⟩]
  vsok := by
    as_aux_lemma => exact sN (e' := upTo p.C (k + 1)) allNil (hy := congrArg some (congrArg (Prod.mk _) (upTo_eq (Nat.lt_succ_self _)).symm)) (hw := fun m _ h => upTo_ne h)
noncomputable abbrev cvCB (k : Nat) : Cv := ⟨30000, 30002, ofPairs [(30001, 30001)], (.oi k, 40) :: ipCB⟩
theorem gcB : ∀ p k h b hk, runTo (Pt (RCB p k h b hk)) Tryz.prog Hand.none 3000 Tryz.f13.ntmps cL (frOf fsCB) (hOf 30002 (bC 52 30001)) .normal (cvCB 41) (vpCB 53 52) fsCB (bC 52 30001) = true := fun p k h b hk => by as_aux_lemma => kernel_rfl
abbrev RXB (p : P) (k : Nat) (hk : ¬ k < p.lt) : Rw (ivP p k) (vvP p k) (vkP p k) (fgP p) (txP p k) where
  vvp := vvPp p k
  ib := [(11, .oi 40, .oi 84, .bool false)]
  ibok := by as_aux_lemma => exact rLt ibNil
theorem gxB : ∀ p k hk, runTo (Pt (RXB p k hk)) Tryz.prog Hand.none 3000 Tryz.f13.ntmps cL (frOf fsCB) (hOf 30002 (bC 52 30001)) (.exit 0) (cvCB 40) (vpCB 52 52) fsCB (bC 52 30001) = true := fun p k hk => by as_aux_lemma => kernel_rfl
noncomputable abbrev cvEB' (N : Nat) : Cv := ⟨N, Nat.add N 10, ofPairs [(N, 30001)], ipCB⟩
noncomputable def bEB (N : Nat) : BS := (N, 30001, .vec 50) :: same bH
def GEB (N : Nat) : Prop := ∀ p k, runTo (T0 p k) Tryz.prog Hand.none 3000 Tryz.f13.ntmps (restn 4 cC) (frOf fsCB) (hOf 30002 (bC 52 30001)) .ret (cvEB' N) (vpCB 52 50) [(4, .ov N 84 1)] (bEB N) = true
noncomputable def chIB (N : Nat) : In := ⟨13, [.ptr 9899 0, .oi 81], N, bH, .ov N 84 1, Nat.add N 10, (N, .vec 50) :: bH⟩
def SCB (p : P) (k : Nat) (B : Kp) (w0 : World) (μ : M) (a : Act) (w : World) : Prop := St (T0 p k) B w0 μ Tryz.f13.ntmps (frOf fsCB) (hOf 30002 (bC 52 30001)) a w
section
variable {p : P} {k : Nat} {B : Kp} {w0 : World} {μ : M} {a : Act} {w : World}
theorem vp34B {k k' : Nat} {T T' : Tab} {C : Cv} (h1 : T.vv = vvP p k := by exact rfl) (h2 : T'.vv = vvP p k' := by exact rfl) (h3 : T.vk = vkP p k := by exact rfl) (h4 : T'.vk = vkP p k' := by exact rfl) : VpOk T T' C [(20001, .vec 0, 0), (20002, .vec 1, 1)] :=
  vpNum (K := .u64) (n := p.x.tot) (e := fun m => wI (p.x.W m)) (e' := fun m => wI (p.x.W m)) (vpNum (K := .i64) (n := p.x.cnt) (e := p.x.S) (e' := p.x.S) vpNil (by rw [h1]; rfl) (by rw [h2]; rfl) (by rw [h3]; rfl) (by rw [h4]; rfl) (fun _ _ => rfl)) (by rw [h1]; rfl) (by rw [h2]; rfl) (by rw [h3]; rfl) (by rw [h4]; rfl) (fun _ _ => rfl)
theorem cRoundB (h : TxOk p.x) (b : TextOk p.x p.sb p.ix p.lt p.C) (hb : Base B μ 30000) (hk : k < p.lt) (s : SCB p k B w0 μ a w) : cL.wp Tryz.prog (fun e a' w' => e = .normal ∧ SCB p (k + 1) B w0 μ a' w') a w :=
  runTo_sound (T := Pt (RCB p k h b hk)) (T' := T0 p (k + 1)) mixed hNo (C := cvCB 41) (ex := .normal) hb (show 30000 ≤ 30002 by decide) (rl := [(30001, 30001)]) rfl (by kernel_rfl) (ipE (ipE (ipE (ipE (ipE ipNil))))) (vpNum (n := p.lt) (e := upTo p.C (k + 1)) (e' := upTo p.C (k + 1)) (vp34B (p := p) (k := k) (k' := k + 1))) (glL (p := p)) (gcB p k h b hk) (St.same (Pt.same _ _) s)
theorem cExitB (hb : Base B μ 30000) (hk : ¬ k < p.lt) (s : SCB p k B w0 μ a w) : cL.wp Tryz.prog (fun e a' w' => e = .exit 0 ∧ SCB p k B w0 μ a' w') a w :=
  runTo_sound (T := Pt (RXB p k hk)) (T' := T0 p k) mixed hNo (C := cvCB 40) (ex := .exit 0) hb (show 30000 ≤ 30002 by decide) (rl := [(30001, 30001)]) rfl (by kernel_rfl) (ipE (ipE (ipE (ipE (ipE ipNil))))) (vpNum (n := p.lt) (e := upTo p.C k) (e' := upTo p.C k) (vp34B (p := p) (k := k) (k' := k))) (glL (p := p)) (gxB p k hk) (St.same (Pt.same _ _) s)
theorem cRoundsB (h : TxOk p.x) (b : TextOk p.x p.sb p.ix p.lt p.C) (hb : Base B μ 30000) : ∀ (j k : Nat) (a : Act) (w : World), k + j = p.lt + 1 → k ≤ p.lt → SCB p k B w0 μ a w → Code.rounds Tryz.prog cL (fun e a w => e = .exit 0 ∧ SCB p p.lt B w0 μ a w) j a w
  | 0, k, a, w, h1, h2, s => by omega
  | j + 1, k, a, w, h1, h2, s => by
    by_cases hk : k < p.lt
    · refine rounds_of (wp_mono (cRoundB h b hb hk s) ?_)
      rintro e a' w' ⟨rfl, s'⟩
      exact cRoundsB h b hb j (k + 1) a' w' (by omega) (by omega) s'
    · have hkL : k = p.lt := by omega
      refine rounds_of (wp_mono (cExitB hb hk s) ?_)
      rintro e a' w' ⟨rfl, s'⟩
      rw [hkL] at s'
      exact ⟨rfl, s'⟩
end
theorem chIB_ok {p : P} {N : Nat} (h : TxOk p.x) (b : TextOk p.x p.sb p.ix p.lt p.C) (h0 : 0 < p.lt) (gb : GBB N) (ge : GEB N) (hN : N ≤ 30000) (l : okLim (chIB N).bs' = true) (hl : hasAll (hOf (Nat.add N 10) (bEB N)) (chIB N).bs' = true) (rk1 : okRn (cvBB N) [(30001, N)] = true) (rk2 : okRn (cvEB' N) [(N, 30001)] = true)
    (hr : results? Tryz.prog Tryz.f13 (frOf [(4, .ov N 84 1)]) (hOf (Nat.add N 10) (bEB N)) = some (.ov N 84 1)) : @InOk Tryz.prog (chIB N) (TP p) := by
  letI : Tab := TP p
  refine ⟨l, hOf (Nat.add N 10) (bEB N), ?_, hOf_next'.symm, hl⟩
  refine callOk_of (fn := Tryz.f13) Tryz.func13 cC_eq (show 2 ≤ Tryz.f13.ntmps by decide +kernel) (show 2 < limit by decide) fun B w0 μ a0 w hb s => ?_
  have hb : Base B μ N := by
    have h := hb
    rw [show (hIn (chIB N).N (chIB N).bs).next = N from hIn_next] at h
    exact h
  have hbU : Base B μ 30000 := baseUp hb hN
  refine firstTo_sound (T := Pt (RBB p h b h0)) (T' := TP p) (n := 3) mixed (K := KBB) (KBB_ok (k := 0) h b (Pt.same (R0 p 0) (RBB p h b h0))) (C := cvBB N) (rl := [(30001, N)]) (fs := fsBB) (bs := bC 52 N)
    hbU (show 30000 ≤ 30002 by decide) rfl rk1 (ipE (ipE (ipE (ipE ipNil)))) (vpNum (n := p.lt) (e := fun _ => 0) (e' := upTo p.C 0) (vp34B (p := p) (k := 0) (k' := 0)) (he := fun m _ => if_neg (Nat.not_lt_zero m))) (glL (p := p)) (gb p h b h0) (St.same (Pt.same _ _) s) fun a1 w1 s1 => ?_
  have s1 : St (TP p) B w0 μ Tryz.f13.ntmps (frOf fsBB) (hOf 30002 (bC 52 30001)) a1 w1 := s1
  rw [c3_eq]
  refine wp_seq (wp_seq (wp_mono (runTo_sound (T := TP p) (T' := TP p) mixed hNo (C := cvIB') (ex := .normal) hbU (show 30000 ≤ 30002 by decide) (rl := [(30001, 30001)]) rfl (by kernel_rfl) (ipK' (ipE (ipE (ipE (ipE ipNil)))) (e := rfl)) (vpNum (n := p.lt) (e := upTo p.C 0) (e' := upTo p.C 0) (vp34B (p := p) (k := 0) (k' := 0))) (glL (p := p)) (giB p) s1) ?_))
  rintro e a2 w2 ⟨rfl, s2⟩
  show (Code.block 0 (.loop cL)).wp _ _ _ _
  refine wp_block (wp_mono (wp_loop_rounds (Q := fun e a w => e = .exit 0 ∧ SCB p p.lt B w0 μ a w) (p.lt + 1) (cRoundsB h b hbU (p.lt + 1) 0 a2 w2 (by omega) (Nat.zero_le _) s2)) ?_)
  rintro e a3 w3 ⟨rfl, s3⟩
  show (restn 4 cC).wp _ _ _ _
  refine wp_mono (runTo_sound (T := T0 p p.lt) (T' := TP p) mixed hNo (C := cvEB' N) (ex := .ret) hb (Nat.le_add_right N 10) (rl := [(N, 30001)]) rfl rk2 (ipE (ipE (ipE (ipE ipNil)))) (vpNum (n := p.lt) (e := upTo p.C p.lt) (e' := p.C) (vp34B (p := p) (k := p.lt) (k' := 0)) (he := fun m hm => (upTo_eq hm).symm)) (glL (p := p)) (ge p p.lt) s3) ?_
  rintro e a4 w4 ⟨rfl, s4⟩
  exact St.done (τ := TP p) (e := .ret) (.inr rfl) hr s4
/- of an empty text -/
noncomputable abbrev RZB (p : P) (h : TxOk p.x) (b : TextOk p.x p.sb p.ix p.lt p.C) (hz : p.lt = 0) : Rw (ivP p 0) (vvP p 0) (vkP p 0) (fgP p) (txP p 0) where
  vvp := vvPp p 0
  ib := rowsGB
  ibok := rowsGB_ok h b
  ic := [(.i64, .oi 85, .int .i64 0)]
  icok := rConv (n := (p.lt : Int)) icNil (h := by rw [hz]; rfl)
  vl := vlGB
  vlok := vlGB_ok h b
noncomputable def czIB (N : Nat) : In := ⟨13, [.ptr 9899 0, .oi 81], N, bH, .sl N 0 0 0, Nat.succ N, (N, zB) :: bH⟩
noncomputable abbrev rowsGA : List BRow := [(1, .oi 121, .int .i64 1, .oi 120), (11, .oi 120, .oi 1, .bool true), (14, .oi 120, .int .i64 0, .bool true), (0, .oi 121, .int .i64 1, .oi 122), (11, .oi 122, .oi 1, .bool true), (14, .oi 122, .int .i64 0, .bool true)]
noncomputable abbrev vlGA : List VL := [⟨0, 120, 1, 0, [.int .u64 1]⟩, ⟨0, 122, 1, 0, [.oi 125]⟩]
section
variable {p : P} {k : Nat}
theorem rowsGA_ok (h : TxOk p.x) (b : TextOk p.x p.sa p.ia p.pl p.A) : ∀ r ∈ rowsGA, IbOk (ivP p k) r := by
  have h1 := b.room; have h2 := wd_pos p.pl; have h3 := h.t2; have h4 := t1_gt p.x
  exact rSub (rLt (rGe (rAdd (rLt (rGe ibNil)))))
theorem vlGA_ok (h : TxOk p.x) (b : TextOk p.x p.sa p.ia p.pl p.A) : ∀ r ∈ vlGA, VlOk (ivP p k) (vvP p k) r := by
  have h1 := b.room; have h2 := wd_pos p.pl
  exact lC (lN allNil (n := p.x.tot) (q := p.sa + 2) (e := fun m => wI (p.x.W m)) (hy := congrArg (Prod.mk IntKind.u64) b.at_.ln.symm)) (n := p.x.tot) (q := p.sa) (e := fun m => wI (p.x.W m)) (hy := b.at_.sh)
end
noncomputable abbrev RBA (p : P) (h : TxOk p.x) (b : TextOk p.x p.sa p.ia p.pl p.A) (h0 : 0 < p.pl) : Rw (ivP p 0) (vvP p 0) (vkP p 0) (fgP p) (txP p 0) where
  vvp := vvPp p 0
  ib := rowsGA
  ibok := rowsGA_ok h b
  ic := [(.i64, .oi 125, .oi 100)]
  icok := by have h1 := b.n7; exact rConv icNil
  vl := vlGA
  vlok := vlGA_ok h b
  vn := [⟨1, 100, [.int .u16 0], 64, 100⟩]
  vnok := by have h1 := b.n7; exact nN (n := p.pl) (e := fun _ => 0) allNil
noncomputable abbrev ipCA : IP := [(.oi 121, 121), (.oi 100, 100), (.oi 1, 1), (.oi 2, 2)]
noncomputable abbrev fsBA : List (Nat × AV) := [(0, .ptr 9899 0), (1, .oi 121), (5, .ov 30001 100 1)]
noncomputable abbrev fsCA : List (Nat × AV) := [(0, .ptr 9899 0), (1, .oi 121), (5, .ov 30001 100 1), (18, .oi 100), (19, .oi 40)]
noncomputable abbrev cvBA (N : Nat) : Cv := ⟨30000, 30002, ofPairs [(30001, N)], ipCA⟩
noncomputable abbrev vpCA (v v' : Nat) : VP := [(30001, .vec v, v'), (20001, .vec 0, 0), (20002, .vec 1, 1)]
def GBA (N : Nat) : Prop := ∀ p h b h0, firstTo (Pt (RBA p h b h0)) Tryz.prog KBA 3000 Tryz.f13.ntmps 3 cC (T.ofList 0 .leaf [.ptr 9899 0, .oi 121]) (hIn N bH) (cvBA N) [(N, .vec 64, 62), (20001, .vec 0, 0), (20002, .vec 1, 1)] fsBA (bC 62 N) = true
noncomputable abbrev cvIA' : Cv := ⟨30000, 30002, ofPairs [(30001, 30001)], (.int .i64 0, 40) :: ipCA⟩
theorem giA : ∀ p, runTo (TP p) Tryz.prog Hand.none 3000 Tryz.f13.ntmps cI (frOf fsBA) (hOf 30002 (bC 62 30001)) .normal cvIA' (vpCA 62 62) fsCA (bC 62 30001) = true := fun p => by as_aux_lemma => kernel_rfl
noncomputable abbrev rowsCA : List BRow := [(11, .oi 40, .oi 100, .bool true), (14, .oi 40, .int .i64 0, .bool true), (3, .oi 40, .int .i64 4, .oi 44), (4, .oi 40, .int .i64 4, .oi 48), (2, .oi 48, .int .i64 2, .oi 49), (2, .oi 49, .int .i64 8, .oi 50), (0, .oi 40, .int .i64 1, .oi 41), (11, .oi 127, .oi 1, .bool true), (14, .oi 127, .int .i64 0, .bool true),
  (1, .oi 121, .int .i64 1, .oi 120), (0, .oi 120, .int .i64 3, .oi 126), (0, .oi 126, .oi 44, .oi 127), (16, .oi 128, .oi 50, .oi 129)]
theorem rowsCA_ok {p : P} {k : Nat} (h : TxOk p.x) (b : TextOk p.x p.sa p.ia p.pl p.A) (hk : k < p.pl) : ∀ r ∈ rowsCA, IbOk (ivP p k) r := by
  have h1 := b.n7; have h2 := wd_k hk; have h3 := b.room; have h4 := h.t2; have h5 := t1_gt p.x
  exact rLt (rGe (rQuo (rRem (rMul (rMul (rAdd (rLt (rGe (rSub (rAdd (rAdd (rShr ibNil))))))))))))
noncomputable abbrev RCA (p : P) (k : Nat) (h : TxOk p.x) (b : TextOk p.x p.sa p.ia p.pl p.A) (hk : k < p.pl) : Rw (ivP p k) (vvP p k) (vkP p k) (fgP p) (txP p k) where
  vvp := vvPp p k
  ib := rowsCA
  ibok := rowsCA_ok h b hk
  ic := [(.u16, .oi 129, .oi 130)]
  icok := by
    have h1 := b.at_.ch k hk
    as_aux_lemma => exact (rConv icNil)
  vl := [⟨0, 127, 1, 0, [.oi 128]⟩]
  vlok := by
    have h2 := wd_k hk; have h3 := b.room
    as_aux_lemma => exact lN (n := p.x.tot) (q := p.sa + 3 + k / 4) (e := fun m => wI (p.x.W m)) allNil
  vs := [⟨62, 40, 1, 0, [.oi 130], 63⟩]
  vsok := by
    as_aux_lemma => exact sN (e' := upTo p.A (k + 1)) allNil (hy := congrArg some (congrArg (Prod.mk _) (upTo_eq (Nat.lt_succ_self _)).symm)) (hw := fun m _ h => upTo_ne h)
noncomputable abbrev cvCA (k : Nat) : Cv := ⟨30000, 30002, ofPairs [(30001, 30001)], (.oi k, 40) :: ipCA⟩
theorem gcA : ∀ p k h b hk, runTo (Pt (RCA p k h b hk)) Tryz.prog Hand.none 3000 Tryz.f13.ntmps cL (frOf fsCA) (hOf 30002 (bC 62 30001)) .normal (cvCA 41) (vpCA 63 62) fsCA (bC 62 30001) = true := fun p k h b hk => by as_aux_lemma => kernel_rfl
abbrev RXA (p : P) (k : Nat) (hk : ¬ k < p.pl) : Rw (ivP p k) (vvP p k) (vkP p k) (fgP p) (txP p k) where
  vvp := vvPp p k
  ib := [(11, .oi 40, .oi 100, .bool false)]
  ibok := by as_aux_lemma => exact rLt ibNil
theorem gxA : ∀ p k hk, runTo (Pt (RXA p k hk)) Tryz.prog Hand.none 3000 Tryz.f13.ntmps cL (frOf fsCA) (hOf 30002 (bC 62 30001)) (.exit 0) (cvCA 40) (vpCA 62 62) fsCA (bC 62 30001) = true := fun p k hk => by as_aux_lemma => kernel_rfl
noncomputable abbrev cvEA' (N : Nat) : Cv := ⟨N, Nat.add N 10, ofPairs [(N, 30001)], ipCA⟩
noncomputable def bEA (N : Nat) : BS := (N, 30001, .vec 60) :: same bH
def GEA (N : Nat) : Prop := ∀ p k, runTo (T0 p k) Tryz.prog Hand.none 3000 Tryz.f13.ntmps (restn 4 cC) (frOf fsCA) (hOf 30002 (bC 62 30001)) .ret (cvEA' N) (vpCA 62 60) [(4, .ov N 100 1)] (bEA N) = true
noncomputable def chIA (N : Nat) : In := ⟨13, [.ptr 9899 0, .oi 121], N, bH, .ov N 100 1, Nat.add N 10, (N, .vec 60) :: bH⟩
def SCA (p : P) (k : Nat) (B : Kp) (w0 : World) (μ : M) (a : Act) (w : World) : Prop := St (T0 p k) B w0 μ Tryz.f13.ntmps (frOf fsCA) (hOf 30002 (bC 62 30001)) a w
section
variable {p : P} {k : Nat} {B : Kp} {w0 : World} {μ : M} {a : Act} {w : World}
theorem vp34A {k k' : Nat} {T T' : Tab} {C : Cv} (h1 : T.vv = vvP p k := by exact rfl) (h2 : T'.vv = vvP p k' := by exact rfl) (h3 : T.vk = vkP p k := by exact rfl) (h4 : T'.vk = vkP p k' := by exact rfl) : VpOk T T' C [(20001, .vec 0, 0), (20002, .vec 1, 1)] :=
  vpNum (K := .u64) (n := p.x.tot) (e := fun m => wI (p.x.W m)) (e' := fun m => wI (p.x.W m)) (vpNum (K := .i64) (n := p.x.cnt) (e := p.x.S) (e' := p.x.S) vpNil (by rw [h1]; rfl) (by rw [h2]; rfl) (by rw [h3]; rfl) (by rw [h4]; rfl) (fun _ _ => rfl)) (by rw [h1]; rfl) (by rw [h2]; rfl) (by rw [h3]; rfl) (by rw [h4]; rfl) (fun _ _ => rfl)
theorem cRoundA (h : TxOk p.x) (b : TextOk p.x p.sa p.ia p.pl p.A) (hb : Base B μ 30000) (hk : k < p.pl) (s : SCA p k B w0 μ a w) : cL.wp Tryz.prog (fun e a' w' => e = .normal ∧ SCA p (k + 1) B w0 μ a' w') a w :=
  runTo_sound (T := Pt (RCA p k h b hk)) (T' := T0 p (k + 1)) mixed hNo (C := cvCA 41) (ex := .normal) hb (show 30000 ≤ 30002 by decide) (rl := [(30001, 30001)]) rfl (by kernel_rfl) (ipE (ipE (ipE (ipE (ipE ipNil))))) (vpNum (n := p.pl) (e := upTo p.A (k + 1)) (e' := upTo p.A (k + 1)) (vp34A (p := p) (k := k) (k' := k + 1))) (glL (p := p)) (gcA p k h b hk) (St.same (Pt.same _ _) s)
theorem cExitA (hb : Base B μ 30000) (hk : ¬ k < p.pl) (s : SCA p k B w0 μ a w) : cL.wp Tryz.prog (fun e a' w' => e = .exit 0 ∧ SCA p k B w0 μ a' w') a w :=
  runTo_sound (T := Pt (RXA p k hk)) (T' := T0 p k) mixed hNo (C := cvCA 40) (ex := .exit 0) hb (show 30000 ≤ 30002 by decide) (rl := [(30001, 30001)]) rfl (by kernel_rfl) (ipE (ipE (ipE (ipE (ipE ipNil))))) (vpNum (n := p.pl) (e := upTo p.A k) (e' := upTo p.A k) (vp34A (p := p) (k := k) (k' := k))) (glL (p := p)) (gxA p k hk) (St.same (Pt.same _ _) s)
theorem cRoundsA (h : TxOk p.x) (b : TextOk p.x p.sa p.ia p.pl p.A) (hb : Base B μ 30000) : ∀ (j k : Nat) (a : Act) (w : World), k + j = p.pl + 1 → k ≤ p.pl → SCA p k B w0 μ a w → Code.rounds Tryz.prog cL (fun e a w => e = .exit 0 ∧ SCA p p.pl B w0 μ a w) j a w
  | 0, k, a, w, h1, h2, s => by omega
  | j + 1, k, a, w, h1, h2, s => by
    by_cases hk : k < p.pl
    · refine rounds_of (wp_mono (cRoundA h b hb hk s) ?_)
      rintro e a' w' ⟨rfl, s'⟩
      exact cRoundsA h b hb j (k + 1) a' w' (by omega) (by omega) s'
    · have hkL : k = p.pl := by omega
      refine rounds_of (wp_mono (cExitA hb hk s) ?_)
      rintro e a' w' ⟨rfl, s'⟩
      rw [hkL] at s'
      exact ⟨rfl, s'⟩
end
theorem chIA_ok {p : P} {N : Nat} (h : TxOk p.x) (b : TextOk p.x p.sa p.ia p.pl p.A) (h0 : 0 < p.pl) (gb : GBA N) (ge : GEA N) (hN : N ≤ 30000) (l : okLim (chIA N).bs' = true) (hl : hasAll (hOf (Nat.add N 10) (bEA N)) (chIA N).bs' = true) (rk1 : okRn (cvBA N) [(30001, N)] = true) (rk2 : okRn (cvEA' N) [(N, 30001)] = true)
    (hr : results? Tryz.prog Tryz.f13 (frOf [(4, .ov N 100 1)]) (hOf (Nat.add N 10) (bEA N)) = some (.ov N 100 1)) : @InOk Tryz.prog (chIA N) (TP p) := by
  letI : Tab := TP p
  refine ⟨l, hOf (Nat.add N 10) (bEA N), ?_, hOf_next'.symm, hl⟩
  refine callOk_of (fn := Tryz.f13) Tryz.func13 cC_eq (show 2 ≤ Tryz.f13.ntmps by decide +kernel) (show 2 < limit by decide) fun B w0 μ a0 w hb s => ?_
  have hb : Base B μ N := by
    have h := hb
    rw [show (hIn (chIA N).N (chIA N).bs).next = N from hIn_next] at h
    exact h
  have hbU : Base B μ 30000 := baseUp hb hN
  refine firstTo_sound (T := Pt (RBA p h b h0)) (T' := TP p) (n := 3) mixed (K := KBA) (KBA_ok (k := 0) h b (Pt.same (R0 p 0) (RBA p h b h0))) (C := cvBA N) (rl := [(30001, N)]) (fs := fsBA) (bs := bC 62 N)
    hbU (show 30000 ≤ 30002 by decide) rfl rk1 (ipE (ipE (ipE (ipE ipNil)))) (vpNum (n := p.pl) (e := fun _ => 0) (e' := upTo p.A 0) (vp34A (p := p) (k := 0) (k' := 0)) (he := fun m _ => if_neg (Nat.not_lt_zero m))) (glL (p := p)) (gb p h b h0) (St.same (Pt.same _ _) s) fun a1 w1 s1 => ?_
  have s1 : St (TP p) B w0 μ Tryz.f13.ntmps (frOf fsBA) (hOf 30002 (bC 62 30001)) a1 w1 := s1
  rw [c3_eq]
  refine wp_seq (wp_seq (wp_mono (runTo_sound (T := TP p) (T' := TP p) mixed hNo (C := cvIA') (ex := .normal) hbU (show 30000 ≤ 30002 by decide) (rl := [(30001, 30001)]) rfl (by kernel_rfl) (ipK' (ipE (ipE (ipE (ipE ipNil)))) (e := rfl)) (vpNum (n := p.pl) (e := upTo p.A 0) (e' := upTo p.A 0) (vp34A (p := p) (k := 0) (k' := 0))) (glL (p := p)) (giA p) s1) ?_))
  rintro e a2 w2 ⟨rfl, s2⟩
  show (Code.block 0 (.loop cL)).wp _ _ _ _
  refine wp_block (wp_mono (wp_loop_rounds (Q := fun e a w => e = .exit 0 ∧ SCA p p.pl B w0 μ a w) (p.pl + 1) (cRoundsA h b hbU (p.pl + 1) 0 a2 w2 (by omega) (Nat.zero_le _) s2)) ?_)
  rintro e a3 w3 ⟨rfl, s3⟩
  show (restn 4 cC).wp _ _ _ _
  refine wp_mono (runTo_sound (T := T0 p p.pl) (T' := TP p) mixed hNo (C := cvEA' N) (ex := .ret) hb (Nat.le_add_right N 10) (rl := [(N, 30001)]) rfl rk2 (ipE (ipE (ipE (ipE ipNil)))) (vpNum (n := p.pl) (e := upTo p.A p.pl) (e' := p.A) (vp34A (p := p) (k := p.pl) (k' := 0)) (he := fun m hm => (upTo_eq hm).symm)) (glL (p := p)) (ge p p.pl) s3) ?_
  rintro e a4 w4 ⟨rfl, s4⟩
  exact St.done (τ := TP p) (e := .ret) (.inr rfl) hr s4
/- of an empty text -/
noncomputable abbrev RZA (p : P) (h : TxOk p.x) (b : TextOk p.x p.sa p.ia p.pl p.A) (hz : p.pl = 0) : Rw (ivP p 0) (vvP p 0) (vkP p 0) (fgP p) (txP p 0) where
  vvp := vvPp p 0
  ib := rowsGA
  ibok := rowsGA_ok h b
  ic := [(.i64, .oi 125, .int .i64 0)]
  icok := rConv (n := (p.pl : Int)) icNil (h := by rw [hz]; rfl)
  vl := vlGA
  vlok := vlGA_ok h b
noncomputable def czIA (N : Nat) : In := ⟨13, [.ptr 9899 0, .oi 121], N, bH, .sl N 0 0 0, Nat.succ N, (N, zB) :: bH⟩
end Go.Proofs.YtkkaifeiopjjdaaGreatDoor.bd
