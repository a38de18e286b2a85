/-
  The law NativeString: a text is made: a contract.
-/
import Derived.Test.YtkkaifeiopjjdaaGreatDoorNSG1
set_option linter.unusedVariables false
set_option linter.unusedSimpArgs false
set_option linter.unusedSectionVars false
set_option maxRecDepth 1000000
set_option maxHeartbeats 0
namespace Go.Proofs.YtkkaifeiopjjdaaGreatDoor.ns
open Go.X Go.RowKit Go.Proofs
theorem St.evB {τ : Tab} {B : Kp} {w0 : World} {μ0 : M} {nt : Nat} {fr : Fr} {h : H} {a : Act} {w : World} {t : Nat} {b : Bool} (s : St τ B w0 μ0 nt fr h a w) (e : ev (.tmp t) fr = some (.bool b)) : a.eval (.tmp t) = .bool b := by
  obtain ⟨μ, hx, f, r⟩ := s
  have := ev_known (fun t v _ ht => f.2.2 t v ht) e
  simpa only [vrel] using this
theorem vZ_eq (p : Pm) (q : Lq) : ∀ o, o < 3 → vvL p q (Nat.add 26 o) = numV .u64 (tS p o) (fun m => wI (WZ p o m)) ∧ vkL p q (Nat.add 26 o) = tS p o
  | 0, _ => ⟨rfl, rfl⟩
  | 1, _ => ⟨rfl, rfl⟩
  | 2, _ => ⟨rfl, rfl⟩
  | _ + 3, h => by omega
theorem vB_eq (p : Pm) (q : Lq) : ∀ o, o < 3 → vvL p q (Nat.add 23 o) = numV .u64 (tS p o) (fun m => wI (WB p o m)) ∧ vkL p q (Nat.add 23 o) = tS p o
  | 0, _ => ⟨rfl, rfl⟩
  | 1, _ => ⟨rfl, rfl⟩
  | 2, _ => ⟨rfl, rfl⟩
  | _ + 3, h => by omega
theorem wB (p : Pm) : ∀ o, o < 3 → WB p o = (qT p o 0).w
  | 0, _ => rfl
  | 1, _ => rfl
  | 2, _ => rfl
  | _ + 3, h => by omega
theorem wS (p : Pm) : ∀ o, o < 3 → WS p o = (qT p o (oN p o)).w
  | 0, _ => rfl
  | 1, _ => rfl
  | 2, _ => rfl
  | _ + 3, h => by omega
theorem tf {p : Pm} (h : Ar p) {o : Nat} (o3 : o < 3) (k : Nat) : TF p (qT p o k) o where
  hn := h.hN o
  ht := by have := h.tS o o3; show ns.tS p o ≤ 300; omega
  hs := h.oT o o (Nat.le_refl _) o3
  hf := h.hF o k
  en := rfl
  ef := rfl
  et := rfl
  es := rfl
theorem vp5 {p : Pm} {q q' : Lq} {T T' : Tab} {C : Cv} (h1 : T.vv = vvL p q := by exact rfl) (h2 : T'.vv = vvL p q' := by exact rfl) (h3 : T.vk = vkL p q := by exact rfl) (h4 : T'.vk = vkL p q' := by exact rfl) : VpOk T T' C [(xN, .vec 5, 5)] :=
  vpNum (K := .u16) (n := p.lc) (e := p.C) (e' := p.C) vpNil (by rw [h1]; rfl) (by rw [h2]; rfl) (by rw [h3]; rfl) (by rw [h4]; rfl) (fun _ _ => rfl)
def SW (p : Pm) (o k : Nat) (B : Kp) (w0 : World) (μ : M) (a : Act) (w : World) : Prop := St (T0 p (qT p o k) o) B w0 μ Tryz.f9.ntmps (frOf (fsL o)) (hOf 20003 (bsT o 54 10 20001 20002)) a w
section
variable {p : Pm} {o k : Nat} {B : Kp} {w0 : World} {μ : M} {a : Act} {w : World}
theorem wRound (g : HW o) (h : Ar p) (o3 : o < 3) (hb : Base B μ 20000) (hk : k < oN p o) (s : SW p o k B w0 μ a w) : tL.wp Tryz.prog (fun e a' w' => e = .normal ∧ SW p o (k + 1) B w0 μ a' w') a w :=
  runTo_sound (T := (RW p (qT p o k) o (tf h o3 k) o3 hk).T) (T' := T0 p (qT p o (k + 1)) o) mixed hNo (C := cvW 41) (ex := .normal) hb (show 20000 ≤ 20003 by decide) (rl := [(20001, 20001), (20002, 20002)]) rfl (by kernel_rfl) (ipF (ipF (ipE (ipE (ipE (ipE (ipE (ipE (ipE (ipE (ipE (ipE ipNil))))))))))) ) (vpNum (n := tS p o) (e := fun m => wI ((qT p o (k + 1)).w m)) (e' := fun m => wI ((qT p o (k + 1)).w m)) (vp5 (p := p) (q := qT p o k) (q' := qT p o (k + 1)))) (glL (p := p) (q := qT p o k) (q' := qT p o (k + 1)) (st := o) (st' := o)) (g p (qT p o k) (tf h o3 k) o3 hk) (St.same (Rw.same _ _) s)
theorem wExit (g : HY o) (hb : Base B μ 20000) (hk : ¬ k < oN p o) (s : SW p o k B w0 μ a w) : tL.wp Tryz.prog (fun e a' w' => e = .exit 0 ∧ SW p o k B w0 μ a' w') a w :=
  runTo_sound (T := (RY p (qT p o k) o hk).T) (T' := T0 p (qT p o k) o) mixed hNo (C := cvW 40) (ex := .exit 0) hb (show 20000 ≤ 20003 by decide) (rl := [(20001, 20001), (20002, 20002)]) rfl (by kernel_rfl) (ipF (ipF (ipE (ipE (ipE (ipE (ipE (ipE (ipE (ipE (ipE (ipE ipNil))))))))))) ) (vpNum (n := tS p o) (e := fun m => wI ((qT p o k).w m)) (e' := fun m => wI ((qT p o k).w m)) (vp5 (p := p) (q := qT p o k) (q' := qT p o k))) (glL (p := p) (q := qT p o k) (q' := qT p o k) (st := o) (st' := o)) (g p (qT p o k) hk) (St.same (Rw.same _ _) s)
theorem wRounds (g : HW o) (gY : HY o) (h : Ar p) (o3 : o < 3) (hb : Base B μ 20000) : ∀ (j k : Nat) (a : Act) (w : World), k + j = oN p o + 1 → k ≤ oN p o → SW p o k B w0 μ a w → Code.rounds Tryz.prog tL (fun e a w => e = .exit 0 ∧ SW p o (oN p o) B w0 μ a w) j a w
  | 0, k, a, w, h1, h2, s => by omega
  | j + 1, k, a, w, h1, h2, s => by
    by_cases hk : k < oN p o
    · refine rounds_of (wp_mono (wRound g h o3 hb hk s) ?_)
      rintro e a' w' ⟨rfl, s'⟩
      exact wRounds g gY h o3 hb j (k + 1) a' w' (by omega) (by omega) s'
    · have hkL : k = oN p o := by omega
      refine rounds_of (wp_mono (wExit gY hb hk s) ?_)
      rintro e a' w' ⟨rfl, s'⟩
      rw [hkL] at s'
      exact ⟨rfl, s'⟩
end
noncomputable def txI (o : Nat) : In := ⟨9, [.ptr 9899 0, srcT o], tNo o, preT o, adO o, Nat.add (tNo o) 40, bsOf (postT o)⟩
theorem txI_ok {p : Pm} {o : Nat} (h : Ar p) (o3 : o < 3) (A : HA o (aT o) (bT o)) (R : HR_ o) (I : HI o) (W : HW o) (Y : HY o) (Z : HZ o) (hN : tNo o ≤ 20000) (l : okLim (bsOf (postT o)) = true) (hl : hasAll (hOf (Nat.add (tNo o) 40) (postT o)) (bsOf (postT o)) = true)
    (rk1 : okRn (cvA (aT o) (bT o)) [(20001, aT o), (20002, bT o)] = true) (rk2 : okRn (cvIn o) [(20001, 20001), (20002, 20002)] = true) (rk3 : okRn (cvZ o) [(nW o, 20001), (nS o, 20002), (13256, 13256)] = true) (hr : results? Tryz.prog Tryz.f9 (frOf [(4, adO o)]) (hOf (Nat.add (tNo o) 40) (postT o)) = some (adO o)) (he : ev (.tmp 18) (frOf (fsA2 o)) = some (.bool true)) : @InOk Tryz.prog (txI o) (TL p) := by
  letI : Tab := TL p
  refine ⟨l, hOf (Nat.add (tNo o) 40) (postT o), ?_, hOf_next'.symm, hl⟩
  refine callOk_of (fn := Tryz.f9) Tryz.func9 tC_eq (show 2 ≤ Tryz.f9.ntmps by decide +kernel) (show 2 < limit by decide) fun B w0 μ a w hb s => ?_
  have hb : Base B μ (tNo o) := by
    have h := hb
    rw [show (hIn (txI o).N (txI o).bs).next = tNo o from hIn_next] at h
    exact h
  have hbU : Base B μ 20000 := baseUp hb hN
  refine firstTo_sound (T := (RT p h).T) (T' := T0 p qZ 0) (n := 3) mixed (K := KK) (@nq.K_top0_ok (RT p h).T) (C := cvA (aT o) (bT o)) (rl := [(20001, aT o), (20002, bT o)]) (fs := fsA o) (bs := bsT o (lw o) (Nat.add 26 o) (aT o) (bT o))
    hbU (show 20000 ≤ 20003 by decide) rfl rk1 (ipF (ipF (ipE (ipE (ipE (ipE (ipE (ipE (ipE (ipE ipNil)))))))))) (vpNum (n := tS p o) (e := fun m => wI (WZ p o m)) (e' := fun m => wI (WZ p o m)) (vp5 (p := p) (q := qZ) (q' := qZ)) (vZ_eq p qZ o o3).1 (vZ_eq p qZ o o3).1 (vZ_eq p qZ o o3).2 (vZ_eq p qZ o o3).2 (fun _ _ => rfl)) (glL (p := p) (q := qZ) (q' := qZ) (st := 0) (st' := 0)) (A p h) (St.same (Rw.same _ _) s) fun a1 w1 s1 => ?_
  have s1 : St (T0 p qZ 0) B w0 μ Tryz.f9.ntmps (frOf (fsA o)) (hOf 20003 (bsT o (lw o) (Nat.add 26 o) 20001 20002)) a1 w1 := s1
  rw [t3_eq]
  refine wp_seq (wp_seq (wp_mono (runTo_sound (T := (RT p h).T) (T' := T0 p qZ 0) mixed (K := KK) (@nq.K_top0_ok (RT p h).T) (C := cvA 20001 20002) (ex := .normal) hbU (show 20000 ≤ 20003 by decide) (rl := [(20001, 20001), (20002, 20002)]) rfl (by kernel_rfl) (ipF (ipF (ipE (ipE (ipE (ipE (ipE (ipE (ipE (ipE ipNil)))))))))) (vpNum (n := tS p o) (e := fun m => wI (WZ p o m)) (e' := fun m => wI (WZ p o m)) (vp5 (p := p) (q := qZ) (q' := qZ)) (vZ_eq p qZ o o3).1 (vZ_eq p qZ o o3).1 (vZ_eq p qZ o o3).2 (vZ_eq p qZ o o3).2 (fun _ _ => rfl)) (glL (p := p) (q := qZ) (q' := qZ) (st := 0) (st' := 0)) (R p h) (St.same (Rw.same _ _) s1)) ?_))
  rintro e a2 w2 ⟨rfl, s2⟩
  show (Code.cond (.tmp 18) tX .skip).wp _ _ _ _
  refine wp_cond (t := true) (St.evB s2 he) ?_
  show tX.wp _ _ _ _
  refine firstTo_sound (T := (RT p h).T) (T' := T0 p (qT p o 0) o) (n := 2) mixed (K := KK) (@nq.K_top0_ok (RT p h).T) (C := cvIn o) (rl := [(20001, 20001), (20002, 20002)]) (fs := fsL o) (bs := bsT o 54 10 20001 20002)
    hbU (show 20000 ≤ 20003 by decide) rfl rk2 (ipF (ipF (ipE (ipE (ipE (ipE (ipE (ipE (ipE (ipE (ipK' (ipE ipNil (lw_iv p qZ 0 o o3) rfl) (e := rfl)) (jO_iv p qZ 0 o o3) rfl))))))))) ) (vpNum (n := tS p o) (e := fun m => wI (WB p o m)) (e' := fun m => wI ((qT p o 0).w m)) (vp5 (p := p) (q := qZ) (q' := qT p o 0)) (vB_eq p qZ o o3).1 rfl (vB_eq p qZ o o3).2 rfl (fun m _ => by rw [wB p o o3])) (glL (p := p) (q := qZ) (q' := qZ) (st := 0) (st' := 0)) (I p h) (St.same (Rw.same _ _) s2) fun a3 w3 s3 => ?_
  rw [tX_eq]
  refine wp_block (wp_mono (wp_loop_rounds (Q := fun e a w => e = .exit 0 ∧ SW p o (oN p o) B w0 μ a w) (oN p o + 1) (wRounds W Y h o3 hbU (oN p o + 1) 0 a3 w3 (by omega) (Nat.zero_le _) s3)) ?_)
  rintro e a4 w4 ⟨rfl, s4⟩
  show (restn 4 tC).wp _ _ _ _
  refine wp_mono (runTo_sound (T := T0 p (qT p o (oN p o)) o) (T' := TL p) mixed hNo (C := cvZ o) (ex := .ret) hb (Nat.le_add_right _ 40) (rl := [(nW o, 20001), (nS o, 20002), (13256, 13256)]) rfl rk3 (ipF (ipF (ipE (ipE (ipE (ipE (ipE (ipE (ipE (ipE ipNil rfl (lw_iv p qZ 0 o o3)))))))))) ) (vpNum (n := tS p o) (e := fun m => wI ((qT p o (oN p o)).w m)) (e' := fun m => wI (WS p o m)) (vp5 (p := p) (q := qT p o (oN p o)) (q' := qZ)) rfl (vS_eq p qZ o o3) rfl (vkS_eq p qZ o o3) (fun m _ => by rw [wS p o o3])) (glL (p := p) (q := qZ) (q' := qZ) (st := 0) (st' := 0)) (Z p (qT p o (oN p o))) s4) ?_
  rintro e a5 w5 ⟨rfl, s5⟩
  exact St.done (τ := TL p) (e := .ret) (.inr rfl) hr s5
end Go.Proofs.YtkkaifeiopjjdaaGreatDoor.ns
