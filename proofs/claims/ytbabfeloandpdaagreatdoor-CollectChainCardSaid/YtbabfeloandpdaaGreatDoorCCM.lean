/-
  The law CollectChain: all addresses; the beginning.
-/
import Derived.Test.YtbabfeloandpdaaGreatDoorCCL
import Derived.Test.YtbabfeloandpdaaGreatDoorCGT0
set_option linter.unusedVariables false
set_option linter.unusedSimpArgs false
set_option linter.unusedSectionVars false
set_option maxRecDepth 1000000
set_option maxHeartbeats 0
namespace Go.Proofs.YtbabfeloandpdaaGreatDoor.cc
open Go.X Go.RowKit Go.Proofs
theorem callFact [T : Tab] {f : FuncId} {args : List AV} {res : AV} {h : H} (k : ∀ (B : Kp) (w0 : World) (μ : M) (w : World) (l : List Value), HR B w0 μ h w → vrels μ args l → Calls Tryz.prog f l.toArray w fun x w' => (∃ v, x = .returned v ∧ ∀ μ, vrel μ res v) ∧ Below w.heap.size w w') : CallOk Tryz.prog f args h (res, h) := by
  intro B w0 μ w args' r hv
  have := k B w0 μ w args'.toList r hv
  rw [Array.toArray_toList] at this
  refine this.mono ?_
  rintro e w' ⟨⟨v, rfl, hv⟩, hb⟩
  exact ⟨v, μ, rfl, Ext.refl _, hv μ, r.grow hb⟩
noncomputable abbrev KG : Hand := cg.K_top0
theorem KG_ok {T : Tab} : @HandOk T Tryz.prog KG := @cg.K_top0_ok T
theorem beg0 : okTrue (@call Tab.empty Tryz.prog KG 3000 5 [] H.empty) = true := by as_aux_lemma => kernel_rfl
theorem begun_is {w : World} : Calls Tryz.prog 5 #[] w fun e w' => e = .returned (.bool true) ∧ Below w.heap.size w w' := by
  letI := Tab.empty
  obtain ⟨q, hq⟩ := CallOk.of_okTrue (P := Tryz.prog) mixed (KG_ok (T := Tab.empty)) beg0
  exact CallOk.yes hq (by simp [vrels]) w ⟨fun g o a h => (by cases h), fun i m a h => (by cases h)⟩
noncomputable def begH : Hand := fun f args h => ifb (Nat.beq 5 f) (match args with
  | [] => some (.bool true, h)
  | _ => none)
theorem begH_ok {T : Tab} : @HandOk T Tryz.prog begH := by
  letI := T
  intro f args h q e0
  unfold begH at e0
  obtain ⟨h1, e1⟩ := ifb_some e0
  clear e0
  have h1 := nbeq_iff.1 h1
  subst h1
  rcases args with _ | ⟨u, l⟩ <;> first | (cases e1; done) | skip
  have e2 : some ((.bool true, h) : AV × H) = some q := e1
  cases e2
  refine callFact fun B w0 μ w l r hv => ?_
  have hv : l = [] := hv
  subst hv
  refine begun_is.mono ?_
  rintro x w' ⟨rfl, hb⟩
  exact ⟨⟨_, rfl, fun μ => by simp only [vrel]⟩, hb⟩
noncomputable abbrev K0 : Hand := begH.or KN
theorem K0_ok {T : Tab} : @HandOk T Tryz.prog K0 := orOk begH_ok KN_ok
/- all addresses -/
noncomputable def aC : Code := codeOf Tryz.f11
theorem aC_eq : Tryz.f11.body = some aC := by kernel_rfl
noncomputable abbrev ntA : Nat := Tryz.f11.ntmps
noncomputable def a3 : Code := hd (hd (restn 3 aC))
noncomputable def aL : Code := lpIn (tl (hd (restn 3 aC)))
theorem a3_eq : restn 3 aC = .seq (.seq a3 (.block 0 (.loop aL))) (restn 4 aC) := by kernel_rfl
noncomputable abbrev bsA0 : BS := [(20022, 20022, .vec 23), (3255, 3255, hp 20001 4 20022 3 20004)]
noncomputable def preA : BL := bsOf bsA0
noncomputable abbrev fsA0 : List (Nat × AV) := [(0, .ptr 3255 0), (3, .nils)]
noncomputable abbrev fsA1 (l : AV) : List (Nat × AV) := [(3, l), (11, .ov 20022 3 1), (12, .oi 3), (13, .oi 10)]
noncomputable abbrev bsA1 (a v : Nat) : BS := (50001, a, .vec v) :: bsA0
noncomputable abbrev CA0 (ip : IP) : Cv := ⟨50000, 50001, ofPairs [], ip⟩
noncomputable abbrev CA1 (a : Nat) (ip : IP) : Cv := ⟨50000, 50002, ofPairs [(50001, a)], ip⟩
noncomputable abbrev iAl : IP := [(.oi 3, 3), (.oi 4, 4)]
section
variable {p : Pc} {k : Nat} {B : Kp} {w0 : World} {μ : M} {a : Act} {w : World}
noncomputable abbrev RA (p : Pc) (k : Nat) (h : Ok p) (hk : k < p.cnt) : RwP p k where
  vvp := vvPp p k
  ib := [(11, .oi 10, .oi 3, .bool true), (14, .oi 10, .int .i64 0, .bool true), (0, .oi 12, .int .i64 1, .oi 13), (0, .oi 10, .int .i64 1, .oi 11)]
  ibok := by
    have h2 := h.n6
    have h3 : p.cnt = p.n - p.g := rfl
    as_aux_lemma => exact rLt (rGe (rAdd (rAdd ibNil)))
  vl := [⟨23, 10, 1, 0, [.oi 12]⟩]
  vlok := by as_aux_lemma => exact lN (i := 23) (j := 10) (y := 12) (q := k) (n := p.cnt) (K := .i64) (e := fun m => ((3 * m : Nat) : Int)) allNil (hk := rfl) (hv := rfl) (hy := rfl)
  va := [⟨2, 10, 1, [.oi 13], 5, 11⟩]
  vaok := by
    have h2 := h.n6
    have h3 : p.cnt = p.n - p.g := rfl
    as_aux_lemma => exact aN (i := 2) (j := 10) (i' := 5) (j' := 11) (x := .oi 13) (n := k) (K := .i64) (e := fun m => ((3 * m + 1 : Nat) : Int)) (e' := fun m => ((3 * m + 1 : Nat) : Int)) allNil (hj := rfl) (hj' := rfl) (hv := rfl) (hv' := rfl) (hl := by omega) (hy := rfl) (h1 := fun _ _ => rfl)
noncomputable abbrev RAx (p : Pc) (k : Nat) (hk : ¬ k < p.cnt) : RwP p k where
  vvp := vvPp p k
  ib := [(11, .oi 10, .oi 3, .bool false)]
  ibok := by as_aux_lemma => exact rLt ibNil
noncomputable abbrev vA : VP := [(20022, .vec 23, 23)]
noncomputable abbrev zA : Blk := rowOf [.oi 13] true
theorem gL0 (p : Pc) : firstTo (T0 p 0) Tryz.prog Hand.none 3000 ntA 3 aC (T.ofList 0 .leaf [.ptr 3255 0]) (hIn 20050 preA) (CA0 iAl) vA fsA0 bsA0 = true := by as_aux_lemma => kernel_rfl
theorem gL1 (p : Pc) : runTo (T0 p 0) Tryz.prog Hand.none 3000 ntA a3 (frOf fsA0) (hOf 50001 bsA0) .normal (CA0 ((.int .i64 0, 10) :: iAl)) vA (fsA1 .nils) bsA0 = true := by as_aux_lemma => kernel_rfl
theorem gL2 (p : Pc) (h : Ok p) (hk : 0 < p.cnt) : runTo (Tb (RA p 0 h hk) (M0 p 0)) Tryz.prog Hand.none 3000 ntA aL (frOf (fsA1 .nils)) (hOf 50001 bsA0) .normal (CA1 50002 ((.int .i64 1, 10) :: (.oi 11, 10) :: iAl)) ((50002, zA, 2) :: vA) (fsA1 (.ov 50001 10 1)) (bsA1 50002 2) = true := by as_aux_lemma => kernel_rfl
theorem gL3 (p : Pc) (k : Nat) (h : Ok p) (hk : k < p.cnt) : runTo (Tb (RA p k h hk) (M0 p k)) Tryz.prog Hand.none 3000 ntA aL (frOf (fsA1 (.ov 50001 10 1))) (hOf 50002 (bsA1 50001 2)) .normal (CA1 50003 ((.oi 11, 10) :: iAl)) ((50003, .vec 5, 2) :: vA) (fsA1 (.ov 50001 10 1)) (bsA1 50003 2) = true := by as_aux_lemma => kernel_rfl
theorem gL4 (p : Pc) (k : Nat) (hk : ¬ k < p.cnt) : runTo (Tb (RAx p k hk) (M0 p k)) Tryz.prog Hand.none 3000 ntA aL (frOf (fsA1 (.ov 50001 10 1))) (hOf 50002 (bsA1 50001 2)) (.exit 0) (CA1 50001 ((.oi 10, 3) :: iAl)) ((50001, .vec 2, 24) :: vA) [(3, .ov 50001 3 1)] (bsA1 50001 24) = true := by as_aux_lemma => kernel_rfl
noncomputable abbrev postA : BS := [(20061, 50001, .vec 24)]
noncomputable abbrev CA2 : Cv := ⟨20050, 20070, ofPairs [(20061, 50001)], iAl⟩
theorem gL5 (p : Pc) : runTo (T0 p 0) Tryz.prog Hand.none 3000 ntA (restn 4 aC) (frOf [(3, .ov 50001 3 1)]) (hOf 50002 (bsA1 50001 24)) .ret CA2 [(50001, .vec 24, 24)] [(2, .ov 20061 3 1)] postA = true := by as_aux_lemma => kernel_rfl
noncomputable def allI : In := ⟨11, [.ptr 3255 0], 20050, preA, .ov 20061 3 1, 20070, bsOf postA⟩
theorem alLim : okLim allI.bs' = true := by as_aux_lemma => kernel_rfl
theorem alLim0 : okLim allI.bs = true := by as_aux_lemma => kernel_rfl
theorem alAll : hasAll (hOf 20070 postA) allI.bs' = true := by as_aux_lemma => kernel_rfl
theorem alRes : results? Tryz.prog Tryz.f11 (frOf [(2, .ov 20061 3 1)]) (hOf 20070 postA) = some (.ov 20061 3 1) := by as_aux_lemma => kernel_rfl
def SA (p : Pc) (k : Nat) (B : Kp) (w0 : World) (μ : M) (a : Act) (w : World) : Prop := St (T0 p k) B w0 μ ntA (frOf (fsA1 (.ov 50001 10 1))) (hOf 50002 (bsA1 50001 2)) a w
def SAx (p : Pc) (B : Kp) (w0 : World) (μ : M) (a : Act) (w : World) : Prop := St (T0 p 0) B w0 μ ntA (frOf [(3, .ov 50001 3 1)]) (hOf 50002 (bsA1 50001 24)) a w
theorem aMore (h : Ok p) (hb : Base B μ 50000) (hk : k < p.cnt) (s : SA p k B w0 μ a w) : aL.wp Tryz.prog (fun e a' w' => e = .normal ∧ SA p (k + 1) B w0 μ a' w') a w :=
  runTo_sound (T := Tb (RA p k h hk) (M0 p k)) (T' := T0 p (k + 1)) mixed hNo (C := CA1 50003 ((.oi 11, 10) :: iAl)) (bs := bsA1 50003 2) (ex := .normal) hb (show 50000 ≤ 50002 by decide) (rl := [(50001, 50003)]) rfl (by kernel_rfl) (ipE (ipE (ipE ipNil)))
    (vpNum (n := k + 1) (n' := k + 1) (K := .i64) (e := fun m => ((3 * m + 1 : Nat) : Int)) (e' := fun m => ((3 * m + 1 : Nat) : Int)) (vp23 (n := p.cnt) vpNil) rfl rfl rfl rfl rfl (fun _ _ => rfl)) glL (gL3 p k h hk) (St.same (Tb.same _ _ _ _) s)
theorem aExit (hb : Base B μ 50000) (s : SA p p.cnt B w0 μ a w) : aL.wp Tryz.prog (fun e a' w' => e = .exit 0 ∧ SAx p B w0 μ a' w') a w :=
  runTo_sound (T := Tb (RAx p p.cnt (Nat.lt_irrefl _)) (M0 p p.cnt)) (T' := T0 p 0) mixed hNo (C := CA1 50001 ((.oi 10, 3) :: iAl)) (bs := bsA1 50001 24) (ex := .exit 0) hb (show 50000 ≤ 50002 by decide) (rl := [(50001, 50001)]) rfl (by kernel_rfl) (ipE (ipE (ipE ipNil)))
    (vpNum (n := p.cnt) (n' := p.cnt) (K := .i64) (e := fun m => ((3 * m + 1 : Nat) : Int)) (e' := fun m => ((3 * m + 1 : Nat) : Int)) (vp23 (n := p.cnt) vpNil) rfl rfl rfl rfl rfl (fun _ _ => rfl)) glL (gL4 p p.cnt _) (St.same (Tb.same _ _ _ _) s)
theorem aRounds (h : Ok p) (hb : Base B μ 50000) : ∀ (j k : Nat) (a : Act) (w : World), k + j = p.cnt + 1 → k ≤ p.cnt → SA p k B w0 μ a w → Code.rounds Tryz.prog aL (fun e a w => e = .exit 0 ∧ SAx p B w0 μ a w) j a w
  | 0, k, a, w, h1, h2, s => by omega
  | j + 1, k, a, w, h1, h2, s => by
    by_cases hk : k < p.cnt
    · refine rounds_of (wp_mono (aMore h hb hk s) ?_)
      rintro e a' w' ⟨rfl, s'⟩
      exact aRounds h hb j (k + 1) a' w' (by omega) (by omega) s'
    · obtain rfl : k = p.cnt := by omega
      refine rounds_of (wp_mono (aExit hb s) ?_)
      rintro e a' w' ⟨rfl, s'⟩
      exact ⟨rfl, s'⟩
theorem allI_ok (h : Ok p) : @InOk Tryz.prog allI (T0 p 0) := by
  letI : Tab := T0 p 0
  have hc := h.c1
  refine ⟨alLim, hOf 20070 postA, ?_, hOf_next'.symm, alAll⟩
  refine callOk_of (fn := Tryz.f11) Tryz.func11 aC_eq (show 1 ≤ Tryz.f11.ntmps by decide +kernel) (show 1 < limit by decide) fun B w0 μ a0 w hb s => ?_
  have hb : Base B μ 20050 := by
    have h := hb
    rw [show (hIn allI.N allI.bs).next = 20050 from hIn_next] at h
    exact h
  have hbU : Base B μ 50000 := baseUp hb (by decide)
  refine firstTo_sound (T := T0 p 0) (T' := T0 p 0) (n := 3) mixed (K := Hand.none) hNo (C := CA0 iAl) (rl := []) (fs := fsA0) (bs := bsA0)
    hbU (show 50000 ≤ 50001 by decide) rfl (by kernel_rfl) (ipE (ipE ipNil)) (vp23 (n := p.cnt) vpNil) glL (gL0 p) s fun a1 w1 s1 => ?_
  rw [a3_eq]
  refine wp_seq (wp_seq (wp_mono (runTo_sound (T := T0 p 0) (T' := T0 p 0) mixed hNo (C := CA0 ((.int .i64 0, 10) :: iAl)) (ex := .normal) hbU (show 50000 ≤ 50001 by decide) (rl := []) rfl (by kernel_rfl) (ipK' (b := ((0 : Nat) : Int)) (ipE (ipE ipNil)) rfl rfl) (vp23 (n := p.cnt) vpNil) glL (gL1 p) s1) ?_))
  rintro e a2 w2 ⟨rfl, s2⟩
  show (Code.block 0 (.loop aL)).wp _ _ _ _
  refine wp_block (wp_mono (wp_loop_rounds (Q := fun e a w => e = .exit 0 ∧ SAx p B w0 μ a w) (p.cnt + 1) ?_) ?_)
  · refine rounds_of (wp_mono (runTo_sound (T := Tb (RA p 0 h hc) (M0 p 0)) (T' := T0 p 1) mixed hNo (C := CA1 50002 ((.int .i64 1, 10) :: (.oi 11, 10) :: iAl)) (ex := .normal) hbU (show 50000 ≤ 50002 by decide) (rl := [(50001, 50002)]) rfl (by kernel_rfl) (ipK' (b := ((1 : Nat) : Int)) (ipE (ipE (ipE ipNil))) rfl rfl)
      (vpRow (n := 1) (K := .i64) (f := fun m => ((3 * m + 1 : Nat) : Int)) (vp23 (n := p.cnt) vpNil) rfl (by decide) rfl rfl (fun m hm => by
        have e : m = 0 := by omega
        subst e
        exact ⟨_, rfl, rfl⟩)) glL (gL2 p h hc) (St.same (Tb.same _ _ _ _) s2)) ?_)
    rintro e a' w' ⟨rfl, s'⟩
    exact aRounds h hbU p.cnt 1 a' w' (by omega) hc s'
  · rintro e a3 w3 ⟨rfl, s3⟩
    show (restn 4 aC).wp _ _ _ _
    refine wp_mono (runTo_sound (T := T0 p 0) (T' := T0 p 0) mixed hNo (C := CA2) (ex := .ret) hb (show 20050 ≤ 20070 by decide) (rl := [(20061, 50001)]) rfl (by kernel_rfl) (ipE (ipE ipNil)) (vpNum (n := p.cnt) (n' := p.cnt) (K := .i64) (e := fun m => ((3 * m + 1 : Nat) : Int)) (e' := fun m => ((3 * m + 1 : Nat) : Int)) vpNil rfl rfl rfl rfl rfl (fun _ _ => rfl)) glL (gL5 p) s3) ?_
    rintro e a4 w4 ⟨rfl, s4⟩
    exact St.done (τ := T0 p 0) (e := .ret) (.inr rfl) alRes s4
end
end Go.Proofs.YtbabfeloandpdaaGreatDoor.cc
