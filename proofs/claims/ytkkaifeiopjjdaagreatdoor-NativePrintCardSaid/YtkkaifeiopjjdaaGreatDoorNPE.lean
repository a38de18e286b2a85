/-
  The law NativePrint: a text is made: contracts.
-/
import Derived.Test.YtkkaifeiopjjdaaGreatDoorNPD
set_option linter.unusedVariables false
set_option linter.unusedSimpArgs false
set_option linter.unusedSectionVars false
set_option maxRecDepth 1000000
set_option maxHeartbeats 0
namespace Go.Proofs.YtkkaifeiopjjdaaGreatDoor.np
open Go.X Go.RowKit Go.Proofs
theorem St.evB {τ : Tab} {B : Kp} {w0 : World} {μ0 : M} {nt : Nat} {fr : Fr} {h : H} {a : Act} {w : World} {t : Nat} {b : Bool} (s : St τ B w0 μ0 nt fr h a w) (e : ev (.tmp t) fr = some (.bool b)) : a.eval (.tmp t) = .bool b := by
  obtain ⟨μ, hx, f, r⟩ := s
  have := ev_known (fun t v _ ht => f.2.2 t v ht) e
  simpa only [vrel] using this
theorem ipG {T T' : Tab} {i j z q : Nat} {l : IP} (k : IpOk T T' l) (h1 : T'.fb q = T.fb i := by exact rfl) (h2 : T'.fcap q = T.fcap i := by exact rfl) : IpOk T T' ((.fo i j z, q) :: l) := ipCons ⟨h1, h2⟩ k
theorem hIn_next {N : Nat} {bs : BL} : (hIn N bs).next = N := by unfold hIn; rw [fT_eq]
theorem baseUp {B : Kp} {μ : M} {n m : Nat} (h : Base B μ n) (hn : n ≤ m) : Base B μ m := ⟨fun x l e => Nat.lt_of_lt_of_le (h.names x l e) hn, fun x e => Nat.lt_of_lt_of_le (h.res x e) hn⟩
theorem hOf_next' {N : Nat} {bs : BS} : (hOf N bs).next = N := by unfold hOf; rw [fT_eq]
theorem elTab {T T' : Tab} (h0 : T.iv 0 = T'.iv 0) (h1 : T.iv 19 = T'.iv 19) (h2 : T.fb 1 = T'.fb 1) (h3 : T.fcap 1 = T'.fcap 1) {μ : M} {v : Value} : ∀ k, @vrel T μ (elK k) v → @vrel T' μ (elK k) v
  | 0, h => by simp only [elK, vrel] at h ⊢; rw [← h0, ← h2, ← h3]; exact h
  | 1, h => by simp only [elK, vrel] at h ⊢; rw [← h1, ← h2, ← h3]; exact h
  | 2, h => by simpa only [elK, vrel] using h
  | _ + 3, h => by simpa only [elK, vrel] using h
/-- tables of this law that differ in names alone -/
theorem glL {p : Pm} {T T' : Tab} {B : Kp} {w0 : World} (h1 : T.fb = (fgP p).fb := by exact rfl) (h2 : T.fv = (fgP p).fv := by exact rfl) (h3 : T'.fb = (fgP p).fb := by exact rfl) (h4 : T'.fv = (fgP p).fv := by exact rfl) (h5 : T'.gv = fun _ _ => none := by exact rfl) (h6 : T.iv 0 = T'.iv 0 := by exact rfl) (h7 : T.iv 19 = T'.iv 19 := by exact rfl) (h8 : T.fcap = T'.fcap := by exact rfl) : @Gl T B w0 → @Gl T' B w0 := by
  intro g
  refine ⟨fun g' o a h => (by rw [h5] at h; cases h), fun i m a h => ?_⟩
  rw [h4] at h
  obtain ⟨k1, v, k2, k3⟩ := g.2 i m a (by rw [h2]; exact h)
  have e : T'.fb = T.fb := h3.trans h1.symm
  refine ⟨by rw [e]; exact k1, v, by rw [e]; exact k2, ?_⟩
  match i, h with
  | 0, h =>
    have h : (if m = p.i % p.lu then some (elK p.ek) else none) = some a := h
    split at h
    · cases h
      exact elTab h6 h7 (congrFun e.symm 1) (congrFun h8 1) _ k3
    · cases h
  | 1, h => obtain ⟨_, rfl⟩ := numV_some h; simpa only [vrel] using k3
  | i + 2, h => cases h
theorem vpNum {T T' : Tab} {C : Cv} {l : VP} {x i i' n : Nat} {K : IntKind} {e e' : Nat → Int} (k : VpOk T T' C l) (h1 : T.vv i = numV K n e := by exact rfl) (h2 : T'.vv i' = numV K n e' := by exact rfl) (h3 : T.vk i = n := by exact rfl) (h4 : T'.vk i' = n := by exact rfl) (he : ∀ m, m < n → e' m = e m := by first | assumption | exact fun _ _ => rfl) : VpOk T T' C ((x, .vec i, i') :: l) :=
  vpCons (vecSubN (fun m a h => by
    rw [h2] at h
    rw [h1]
    exact numSub he m a h) (by rw [h3, h4]; exact Nat.le_refl _)) k
def SW (p : Pm) (z k : Nat) (B : Kp) (w0 : World) (μ : M) (a : Act) (w : World) : Prop := St (T0 p k) B w0 μ Tryz.f9.ntmps (frOf fsL) (hOf 30004 (bsT z 10 30001 30002 (hM z))) a w
section
variable {p : Pm} {z k : Nat} {B : Kp} {w0 : World} {μ : M} {a : Act} {w : World}
theorem rkW : ∀ z, okRn (cvW z k) (rlM z 30001 30002 30003) = true
  | 0 => by kernel_rfl
  | _ + 1 => by kernel_rfl
theorem wRound (g : HW z) (h : Ar p) (hf : p.t1 ≤ 2048) (hb : Base B μ 30000) (hk : k < p.la) (s : SW p z k B w0 μ a w) : tL.wp Tryz.prog (fun e a' w' => e = .normal ∧ SW p z (k + 1) B w0 μ a' w') a w :=
  runTo_sound (T := (RW p k h hf hk).T) (T' := T0 p (k + 1)) mixed hNo (C := cvW z 41) (ex := .normal) hb (show 30000 ≤ 30004 by decide) (rl := rlM z 30001 30002 30003) rfl (rkW z) (ipG (ipE (ipE (ipE (ipE (ipE (ipE (ipE ipNil)))))))) (vpNum (n := p.t1) (e := fun m => wI (p.w (k + 1) m)) (e' := fun m => wI (p.w (k + 1) m)) (vpNum (n := p.cnt + 1) (e := p.S1) (e' := p.S1) vpNil)) (glL (p := p)) (g p k h hf hk) (St.same (Rw.same _ _) s)
theorem wExit (g : HY z) (hb : Base B μ 30000) (hk : ¬ k < p.la) (s : SW p z k B w0 μ a w) : tL.wp Tryz.prog (fun e a' w' => e = .exit 0 ∧ SW p z k B w0 μ a' w') a w :=
  runTo_sound (T := (RY p k hk).T) (T' := T0 p k) mixed hNo (C := cvW z 40) (ex := .exit 0) hb (show 30000 ≤ 30004 by decide) (rl := rlM z 30001 30002 30003) rfl (rkW z) (ipG (ipE (ipE (ipE (ipE (ipE (ipE (ipE ipNil)))))))) (vpNum (n := p.t1) (e := fun m => wI (p.w k m)) (e' := fun m => wI (p.w k m)) (vpNum (n := p.cnt + 1) (e := p.S1) (e' := p.S1) vpNil)) (glL (p := p)) (g p k hk) (St.same (Rw.same _ _) s)
theorem wRounds (g : HW z) (gY : HY z) (h : Ar p) (hf : p.t1 ≤ 2048) (hb : Base B μ 30000) : ∀ (j k : Nat) (a : Act) (w : World), k + j = p.la + 1 → k ≤ p.la → SW p z k B w0 μ a w → Code.rounds Tryz.prog tL (fun e a w => e = .exit 0 ∧ SW p z p.la B w0 μ a w) j a w
  | 0, k, a, w, h1, h2, s => by omega
  | j + 1, k, a, w, h1, h2, s => by
    by_cases hk : k < p.la
    · refine rounds_of (wp_mono (wRound g h hf hb hk s) ?_)
      rintro e a' w' ⟨rfl, s'⟩
      exact wRounds g gY h hf hb j (k + 1) a' w' (by omega) (by omega) s'
    · have hkL : k = p.la := by omega
      refine rounds_of (wp_mono (wExit gY hb hk s) ?_)
      rintro e a' w' ⟨rfl, s'⟩
      rw [hkL] at s'
      exact ⟨rfl, s'⟩
end
noncomputable def txI (z : Nat) : In := ⟨9, [.ptr 9899 0, src], 20010, preT z, .oi 4, 20050, bsOf (postT z 30001 30002 (hM z))⟩
theorem txI_ok {p : Pm} {z a b h0 : Nat} (h : Ar p) (hf : p.t1 ≤ 2048) (A : HA z a b h0) (R : HR_ z) (I : HI z) (W : HW z) (Y : HY z) (Z : HZ z) (l : okLim (txI z).bs' = true) (hl : hasAll (hOf 20050 (postT z 30001 30002 (hM z))) (txI z).bs' = true)
    (rk1 : okRn (cvA z a b h0) (rlM z a b h0) = true) (rk2 : okRn (cvA z 30001 30002 30003) (rlM z 30001 30002 30003) = true) (rk3 : okRn (cvI z) (rlM z 30001 30002 30003) = true) (rk4 : okRn (cvZ z 30001 30002 30003) (rlZ z 30001 30002 30003) = true) (hr : results? Tryz.prog Tryz.f9 (frOf [(4, .oi 4)]) (hOf 20050 (postT z 30001 30002 (hM z))) = some (.oi 4)) (e1 : hOf 30004 (bsT z 27 a b h0) = hOf 30004 (bsT z 27 30001 30002 (hM z))) : @InOk Tryz.prog (txI z) (TP p) := by
  letI : Tab := TP p
  refine ⟨l, hOf 20050 (postT z 30001 30002 (hM z)), ?_, hOf_next'.symm, hl⟩
  refine callOk_of (fn := Tryz.f9) Tryz.func9 tC_eq (show 2 ≤ Tryz.f9.ntmps by decide +kernel) (show 2 < limit by decide) fun B w0 μ a0 w hb s => ?_
  have hb : Base B μ 20010 := by
    have h := hb
    rw [show (hIn (txI z).N (txI z).bs).next = 20010 from hIn_next] at h
    exact h
  have hbU : Base B μ 30000 := baseUp hb (by decide)
  refine firstTo_sound (T := (RT p h hf).T) (T' := TP p) (n := 3) mixed (K := KT z) (KT_ok (p := p) (Rw.same (R0 p 0) (RT p h hf)) z) (C := cvA z a b h0) (rl := rlM z a b h0) (fs := fsA) (bs := bsT z 27 a b h0)
    hbU (show 30000 ≤ 30004 by decide) rfl rk1 (ipG (ipE (ipE (ipE (ipE (ipE (ipE (ipE ipNil)))))))) (vpNum (n := p.t1) (e := fun m => wI (p.WY m)) (e' := fun m => wI (p.WY m)) (vpNum (n := p.cnt + 1) (e := p.S1) (e' := p.S1) vpNil)) (glL (p := p)) (A p h hf) (St.same (Rw.same _ _) s) fun a1 w1 s1 => ?_
  have s1 : St (TP p) B w0 μ Tryz.f9.ntmps (frOf fsA) (hOf 30004 (bsT z 27 a b h0)) a1 w1 := s1
  rw [e1] at s1
  rw [t3_eq]
  refine wp_seq (wp_seq (wp_mono (runTo_sound (T := (RT p h hf).T) (T' := TP p) mixed (K := KN) KN_ok (C := cvA z 30001 30002 30003) (ex := .normal) hbU (show 30000 ≤ 30004 by decide) (rl := rlM z 30001 30002 30003) rfl rk2 (ipG (ipE (ipE (ipE (ipE (ipE (ipE (ipE ipNil)))))))) (vpNum (n := p.t1) (e := fun m => wI (p.WY m)) (e' := fun m => wI (p.WY m)) (vpNum (n := p.cnt + 1) (e := p.S1) (e' := p.S1) vpNil)) (glL (p := p)) (R p h hf) (St.same (Rw.same _ _) s1)) ?_))
  rintro e a2 w2 ⟨rfl, s2⟩
  show (Code.cond (.tmp 18) tX .skip).wp _ _ _ _
  refine wp_cond (t := true) (St.evB s2 (by kernel_rfl)) ?_
  show tX.wp _ _ _ _
  refine firstTo_sound (T := (RT p h hf).T) (T' := TP p) (n := 2) mixed (K := KN) KN_ok (C := cvI z) (rl := rlM z 30001 30002 30003) (fs := fsL) (bs := bsT z 10 30001 30002 (hM z))
    hbU (show 30000 ≤ 30004 by decide) rfl rk3 (ipG (ipE (ipE (ipE (ipE (ipE (ipE (ipK' ipNil (e := rfl))))))))) (vpNum (n := p.t1) (e := fun m => wI (p.w 0 m)) (e' := fun m => wI (p.w 0 m)) (vpNum (n := p.cnt + 1) (e := p.S1) (e' := p.S1) vpNil)) (glL (p := p)) (I p h hf) (St.same (Rw.same _ _) s2) fun a3 w3 s3 => ?_
  rw [tX_eq]
  refine wp_block (wp_mono (wp_loop_rounds (Q := fun e a w => e = .exit 0 ∧ SW p z p.la B w0 μ a w) (p.la + 1) (wRounds W Y h hf hbU (p.la + 1) 0 a3 w3 (by omega) (Nat.zero_le _) s3)) ?_)
  rintro e a4 w4 ⟨rfl, s4⟩
  show (restn 4 tC).wp _ _ _ _
  refine wp_mono (runTo_sound (T := T0 p p.la) (T' := TP p) mixed hNo (C := cvZ z 30001 30002 30003) (ex := .ret) hb (show (20010 : Nat) ≤ 20050 by decide) (rl := rlZ z 30001 30002 30003) rfl rk4 (ipG (ipE (ipE (ipE (ipE (ipE (ipE ipNil))))))) (vpNum (n := p.t1) (e := fun m => wI (p.w p.la m)) (e' := fun m => wI (p.w p.la m)) (vpNum (n := p.cnt + 1) (e := p.S1) (e' := p.S1) vpNil)) (glL (p := p)) (Z p p.la) s4) ?_
  rintro e a5 w5 ⟨rfl, s5⟩
  exact St.done (τ := TP p) (e := .ret) (.inr rfl) hr s5
section
variable {p : Pm}
theorem tx0_ok (h : Ar p) (hf : p.t1 ≤ 2048) : @InOk Tryz.prog (txI 0) (TP p) := txI_ok h hf ha0 hr0 hi0 hw0 hy0 hz0 (by kernel_rfl) (by kernel_rfl) (by kernel_rfl) (by kernel_rfl) (by kernel_rfl) (by kernel_rfl) (by kernel_rfl) rfl
theorem tx1_ok (h : Ar p) (hf : p.t1 ≤ 2048) : @InOk Tryz.prog (txI 1) (TP p) := txI_ok h hf ha1 hr1 hi1 hw1 hy1 hz1 (by kernel_rfl) (by kernel_rfl) (by kernel_rfl) (by kernel_rfl) (by kernel_rfl) (by kernel_rfl) (by kernel_rfl) rfl
/-- it does not fit -/
noncomputable def tnI (s : AV) : In := ⟨9, [.ptr 9899 0, s], 20010, preT 1, .int .i64 0, 20010, preT 1⟩
theorem tn_ok (h : Ar p) (hf : 2048 < p.t1) : @InOk Tryz.prog (upIn (tnI src) 20050) (TP p) := @upOk (TP p) Tryz.prog (tnI src) 20050 (by decide +kernel) (InOk.tab (Rw.same _ _) (@InOk.of_run Tryz.prog (RN p h hf).T KN mixed KN_ok 3000 (tnI src) (by kernel_rfl) (by as_aux_lemma => kernel_rfl)))
theorem tnz_ok (h : Ar p) (hf : 2048 < p.t1) (hz : p.la = 0) : @InOk Tryz.prog (upIn (tnI .nils) 20050) (TP p) := @upOk (TP p) Tryz.prog (tnI .nils) 20050 (by decide +kernel) (InOk.tab (Rw.same _ _) (@InOk.of_run Tryz.prog (RNZ p h hf hz).T KN mixed KN_ok 3000 (tnI .nils) (by kernel_rfl) (by as_aux_lemma => kernel_rfl)))
theorem tne_ok (h : Ar p) (hf : 2048 < p.t1) (hz : p.la = 0) : @InOk Tryz.prog (upIn (tnI .es) 20050) (TP p) := @upOk (TP p) Tryz.prog (tnI .es) 20050 (by decide +kernel) (InOk.tab (Rw.same _ _) (@InOk.of_run Tryz.prog (RNZ p h hf hz).T KN mixed KN_ok 3000 (tnI .es) (by kernel_rfl) (by as_aux_lemma => kernel_rfl)))
end
/- an empty text -/
noncomputable def cvE (z a b h : Nat) : Cv := ⟨20010, 20050, ofPairs (rlZ z a b h), [(.oi 0, 0), (.oi 1, 1), (.oi 2, 2), (.oi 3, 3), (.oi 4, 4), (.oi 7, 7)]⟩
def HE (z : Nat) (s : AV) (a b h : Nat) : Prop := ∀ p hh hf hz, runTo (RTZ p hh hf hz).T Tryz.prog (KT z) 3000 Tryz.f9.ntmps tC (T.ofList 0 .leaf [.ptr 9899 0, s]) (hIn 20010 (preT z)) .ret (cvE z a b h) [(a, .vec 3, 3), (b, .vec 4, 4)] [(4, .oi 4)] (postT z a b h) = true
theorem he0n : HE 0 .nils 20030 20032 20024 := fun p h hf hz => by as_aux_lemma => kernel_rfl
theorem he0e : HE 0 .es 20030 20032 20024 := fun p h hf hz => by as_aux_lemma => kernel_rfl
theorem he1n : HE 1 .nils 20010 20012 20003 := fun p h hf hz => by as_aux_lemma => kernel_rfl
theorem he1e : HE 1 .es 20010 20012 20003 := fun p h hf hz => by as_aux_lemma => kernel_rfl
noncomputable def teI (z : Nat) (s : AV) : In := ⟨9, [.ptr 9899 0, s], 20010, preT z, .oi 4, 20050, bsOf (postT z 30001 30002 (hM z))⟩
theorem teI_ok {p : Pm} {z a b h0 : Nat} {s : AV} (h : Ar p) (hf : p.t1 ≤ 2048) (hz : p.la = 0) (E : HE z s a b h0) (l : okLim (teI z s).bs' = true) (hl : hasAll (hOf 20050 (postT z a b h0)) (teI z s).bs' = true)
    (rk : okRn (cvE z a b h0) (rlZ z a b h0) = true) (hr : results? Tryz.prog Tryz.f9 (frOf [(4, .oi 4)]) (hOf 20050 (postT z a b h0)) = some (.oi 4)) : @InOk Tryz.prog (teI z s) (TP p) := by
  letI : Tab := TP p
  refine ⟨l, hOf 20050 (postT z a b h0), ?_, hOf_next'.symm, hl⟩
  refine callOk_of (fn := Tryz.f9) Tryz.func9 tC_eq (show 2 ≤ Tryz.f9.ntmps by decide +kernel) (show 2 < limit by decide) fun B w0 μ a0 w hb st => ?_
  have hb : Base B μ 20010 := by
    have h := hb
    rw [show (hIn (teI z s).N (teI z s).bs).next = 20010 from hIn_next] at h
    exact h
  refine wp_mono (runTo_sound (T := (RTZ p h hf hz).T) (T' := TP p) mixed (K := KT z) (KT_ok (p := p) (Rw.same (R0 p 0) (RTZ p h hf hz)) z) (C := cvE z a b h0) (ex := .ret) hb (show (20010 : Nat) ≤ 20050 by decide) (rl := rlZ z a b h0) rfl rk (ipE (ipE (ipE (ipE (ipE (ipE ipNil)))))) (vpNum (n := p.t1) (e := fun m => wI (p.w p.la m)) (e' := fun m => wI (p.w p.la m)) (vpNum (n := p.cnt + 1) (e := p.S1) (e' := p.S1) vpNil)) (glL (p := p)) (E p h hf hz) (St.same (Rw.same _ _) st)) ?_
  rintro e a4 w4 ⟨rfl, s4⟩
  exact St.done (τ := TP p) (e := .ret) (.inr rfl) hr s4
section
variable {p : Pm}
theorem te0n_ok (h : Ar p) (hf : p.t1 ≤ 2048) (hz : p.la = 0) : @InOk Tryz.prog (teI 0 .nils) (TP p) := teI_ok h hf hz he0n (by kernel_rfl) (by kernel_rfl) (by kernel_rfl) (by kernel_rfl)
theorem te0e_ok (h : Ar p) (hf : p.t1 ≤ 2048) (hz : p.la = 0) : @InOk Tryz.prog (teI 0 .es) (TP p) := teI_ok h hf hz he0e (by kernel_rfl) (by kernel_rfl) (by kernel_rfl) (by kernel_rfl)
theorem te1n_ok (h : Ar p) (hf : p.t1 ≤ 2048) (hz : p.la = 0) : @InOk Tryz.prog (teI 1 .nils) (TP p) := teI_ok h hf hz he1n (by kernel_rfl) (by kernel_rfl) (by kernel_rfl) (by kernel_rfl)
theorem te1e_ok (h : Ar p) (hf : p.t1 ≤ 2048) (hz : p.la = 0) : @InOk Tryz.prog (teI 1 .es) (TP p) := teI_ok h hf hz he1e (by kernel_rfl) (by kernel_rfl) (by kernel_rfl) (by kernel_rfl)
end
end Go.Proofs.YtkkaifeiopjjdaaGreatDoor.np
