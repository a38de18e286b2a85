/-
  The law StringsAll: a text is made: contracts.
-/
import Derived.Test.YtifdjfcakkdgeaaGreatDoorSAD
set_option linter.unusedVariables false
set_option linter.unusedSimpArgs false
set_option linter.unusedSectionVars false
set_option maxRecDepth 1000000
set_option maxHeartbeats 0
namespace Go.Proofs.YtifdjfcakkdgeaaGreatDoor.sa
open Go.X Go.RowKit Go.Proofs
theorem St.evB {τ : Tab} {B : Kp} {w0 : World} {μ0 : M} {nt : Nat} {fr : Fr} {h : H} {a : Act} {w : World} {t : Nat} {b : Bool} (s : St τ B w0 μ0 nt fr h a w) (e : ev (.tmp t) fr = some (.bool b)) : a.eval (.tmp t) = .bool b := by
  obtain ⟨μ, hx, f, r⟩ := s
  have := ev_known (fun t v _ ht => f.2.2 t v ht) e
  simpa only [vrel] using this
theorem ipG {T T' : Tab} {i j z q : Nat} {l : IP} (k : IpOk T T' l) (h1 : T'.fb q = T.fb i := by exact rfl) (h2 : T'.fcap q = T.fcap i := by exact rfl) : IpOk T T' ((.fo i j z, q) :: l) := ipCons ⟨h1, h2⟩ k
theorem hIn_next {N : Nat} {bs : BL} : (hIn N bs).next = N := by unfold hIn; rw [fT_eq]
theorem baseUp {B : Kp} {μ : M} {n m : Nat} (h : Base B μ n) (hn : n ≤ m) : Base B μ m := ⟨fun x l e => Nat.lt_of_lt_of_le (h.names x l e) hn, fun x e => Nat.lt_of_lt_of_le (h.res x e) hn⟩
theorem hOf_next' {N : Nat} {bs : BS} : (hOf N bs).next = N := by unfold hOf; rw [fT_eq]
/-- tables of one p that differ in names alone -/
theorem glL {p : Pm} {T T' : Tab} {B : Kp} {w0 : World} (h1 : T.fb = (fgP p).fb := by exact rfl) (h2 : T.fv = (fgP p).fv := by exact rfl) (h3 : T'.fb = (fgP p).fb := by exact rfl) (h4 : T'.fv = (fgP p).fv := by exact rfl) (h5 : T'.gv = fun _ _ => none := by exact rfl) (h6 : T.rv = rvP p := by exact rfl) (h7 : T'.rv = rvP p := by exact rfl) : @Gl T B w0 → @Gl T' B w0 := by
  intro g
  refine ⟨fun g' o a h => (by rw [h5] at h; cases h), fun i m a h => ?_⟩
  rw [h4] at h
  obtain ⟨k1, v, k2, k3⟩ := g.2 i m a (by rw [h2]; exact h)
  have e : T'.fb = T.fb := h3.trans h1.symm
  refine ⟨by rw [e]; exact k1, v, by rw [e]; exact k2, ?_⟩
  match i, h with
  | 0, h =>
    have h : (if m = p.i ∧ p.i < p.lu then some (AV.rw 0) else none) = some a := h
    split at h
    · cases h
      simp only [vrel] at k3 ⊢
      rw [h7, ← h6]; exact k3
    · cases h
  | 1, h => obtain ⟨_, rfl⟩ := numV_some h; simpa only [vrel] using k3
  | i + 2, h => obtain ⟨_, rfl⟩ := numV_some (show numV .u16 (p.q (i + 2 - 10)).la (p.q (i + 2 - 10)).A m = some a from h); simpa only [vrel] using k3
theorem vpRow {T T' : Tab} {C : Cv} {l : VP} {x i n : Nat} {K : IntKind} {r : List AV} {f : Nat → Int} (k : VpOk T T' C l) (hr : r.length = n) (hl : n < 1000000) (h2 : T'.vv i = numV K n f) (h4 : T'.vk i = n) (h : ∀ m, m < n → ∃ v, r[m]? = some v ∧ denI T.iv v = some (K, f m)) : VpOk T T' C ((x, rowOf r true, i) :: l) := by
  refine vpCons ⟨rfl, fun μ p w hh => ?_⟩ k
  obtain ⟨arr, el, fz, g1, g2, g3, g4, g5, g6⟩ := hh
  refine ⟨arr, el, fz, g1, g2, g3, by dsimp only; rw [h4]; omega, fun m a ha => ?_⟩
  dsimp only at ha
  rw [h2] at ha
  obtain ⟨hm, rfl⟩ := numV_some ha
  obtain ⟨b, b1, b2⟩ := h m hm
  obtain ⟨v, v1, v2⟩ := g6 m b (by omega) (by rw [@cellOf_row T _ _ (by rw [hr]; exact hl)]; exact b1)
  refine ⟨v, v1, ?_⟩
  cases b <;> simp [denI] at b2
  · obtain ⟨rfl, rfl⟩ := b2; simpa [vrel] using v2
  · simp only [vrel] at v2 ⊢; rw [v2, b2]
theorem vpNum {T T' : Tab} {C : Cv} {l : VP} {x i i' n : Nat} {K : IntKind} {e e' : Nat → Int} (k : VpOk T T' C l) (h1 : T.vv i = numV K n e := by exact rfl) (h2 : T'.vv i' = numV K n e' := by exact rfl) (h3 : T.vk i = n := by exact rfl) (h4 : T'.vk i' = n := by exact rfl) (he : ∀ m, m < n → e' m = e m := by first | assumption | exact fun _ _ => rfl) : VpOk T T' C ((x, .vec i, i') :: l) :=
  vpCons (vecSubN (fun m a h => by
    rw [h2] at h
    rw [h1]
    exact numSub he m a h) (by rw [h3, h4]; exact Nat.le_refl _)) k
def SW (p : Pm) (z k : Nat) (B : Kp) (w0 : World) (μ : M) (a : Act) (w : World) : Prop := St (T0 p k) B w0 μ Tryz.f11.ntmps (frOf fsL) (hOf 30004 (bsT z 10 30001 30002 (hM z))) a w
section
variable {p : Pm} {z k : Nat} {B : Kp} {w0 : World} {μ : M} {a : Act} {w : World}
theorem rkW : ∀ z, okRn (cvW z k) (rlM z 30001 30002 30003) = true
  | 0 => by kernel_rfl
  | _ + 1 => by kernel_rfl
theorem wRound (g : HW z) (h : Ar p) (hf : p.t1 ≤ 2048) (hb : Base B μ 30000) (hk : k < p.la) (s : SW p z k B w0 μ a w) : tL.wp Tryz.prog (fun e a' w' => e = .normal ∧ SW p z (k + 1) B w0 μ a' w') a w :=
  runTo_sound (T := Pt p (RW p k h hf hk)) (T' := T0 p (k + 1)) mixed hNo (C := cvW z 41) (ex := .normal) hb (show 30000 ≤ 30004 by decide) (rl := rlM z 30001 30002 30003) rfl (rkW z) (ipG (ipE (ipE (ipE (ipE (ipE (ipE (ipE ipNil)))))))) (vpNum (n := p.t1) (e := fun m => wI (p.w (k + 1) m)) (e' := fun m => wI (p.w (k + 1) m)) (vpNum (n := p.cnt + 1) (e := p.S1) (e' := p.S1) vpNil)) (glL (p := p)) (g p k h hf hk) (St.same (Pt.same _ _) s)
theorem wExit (g : HY z) (hb : Base B μ 30000) (hk : ¬ k < p.la) (s : SW p z k B w0 μ a w) : tL.wp Tryz.prog (fun e a' w' => e = .exit 0 ∧ SW p z k B w0 μ a' w') a w :=
  runTo_sound (T := Pt p (RY p k hk)) (T' := T0 p k) mixed hNo (C := cvW z 40) (ex := .exit 0) hb (show 30000 ≤ 30004 by decide) (rl := rlM z 30001 30002 30003) rfl (rkW z) (ipG (ipE (ipE (ipE (ipE (ipE (ipE (ipE ipNil)))))))) (vpNum (n := p.t1) (e := fun m => wI (p.w k m)) (e' := fun m => wI (p.w k m)) (vpNum (n := p.cnt + 1) (e := p.S1) (e' := p.S1) vpNil)) (glL (p := p)) (g p k hk) (St.same (Pt.same _ _) s)
theorem wRounds (g : HW z) (gY : HY z) (h : Ar p) (hf : p.t1 ≤ 2048) (hb : Base B μ 30000) : ∀ (j k : Nat) (a : Act) (w : World), k + j = p.la + 1 → k ≤ p.la → SW p z k B w0 μ a w → Code.rounds Tryz.prog tL (fun e a w => e = .exit 0 ∧ SW p z p.la B w0 μ a w) j a w
  | 0, k, a, w, h1, h2, s => by omega
  | j + 1, k, a, w, h1, h2, s => by
    by_cases hk : k < p.la
    · refine rounds_of (wp_mono (wRound g h hf hb hk s) ?_)
      rintro e a' w' ⟨rfl, s'⟩
      exact wRounds g gY h hf hb j (k + 1) a' w' (by omega) (by omega) s'
    · have hkL : k = p.la := by omega
      refine rounds_of (wp_mono (wExit gY hb hk s) ?_)
      rintro e a' w' ⟨rfl, s'⟩
      rw [hkL] at s'
      exact ⟨rfl, s'⟩
end
noncomputable def txI (z : Nat) : In := ⟨11, [.ptr 3255 0, src], 20010, preT z, .oi 4, 20050, bsOf (postT z 30001 30002 (hM z))⟩
theorem first1 {p : Pm} (h : Ar p) (hf : p.t1 ≤ 2048) {B : Kp} {w0 : World} {μ : M} {a0 : Act} {w : World} {Q : Exit → Act → World → Prop} (hb : Base B μ 20010) (hbU : Base B μ 30000) (s : @St (TP p) B w0 μ Tryz.f11.ntmps (T.ofList 0 .leaf [.ptr 3255 0, src]) (hIn 20010 (preT 1)) a0 w) (k : ∀ a w, @St (TP p) B w0 μ Tryz.f11.ntmps (frOf fsA) (hOf 30004 (bsT 1 27 30001 30002 (hM 1))) a w → (restn 3 tC).wp Tryz.prog Q a w) : tC.wp Tryz.prog Q a0 w := by
  refine firstTo_sound (T := Pt p (RT p h hf)) (T' := TP p) (n := 3) mixed (K := KN) KN_ok (C := cvA 1 20010 20012 20003) (rl := rlM 1 20010 20012 20003) (fs := fsA) (bs := bsT 1 27 20010 20012 20003)
    hbU (show 30000 ≤ 30004 by decide) rfl (by kernel_rfl) (ipG (ipE (ipE (ipE (ipE (ipE (ipE (ipE ipNil)))))))) (vpNum (n := p.t1) (e := fun m => wI (p.WY m)) (e' := fun m => wI (p.WY m)) (vpNum (n := p.cnt + 1) (e := p.S1) (e' := p.S1) vpNil)) (glL (p := p)) (ha1 p h hf) (St.same (Pt.same _ _) s) fun a1 w1 s1 => ?_
  exact k a1 w1 s1
theorem first0 {p : Pm} (h : Ar p) (hf : p.t1 ≤ 2048) (h0 : 0 < p.la) (ht : p.tot = 0) {B : Kp} {w0 : World} {μ : M} {a0 : Act} {w : World} {Q : Exit → Act → World → Prop} (hb : Base B μ 20010) (hbU : Base B μ 30000) (s : @St (TP p) B w0 μ Tryz.f11.ntmps (T.ofList 0 .leaf [.ptr 3255 0, src]) (hIn 20010 (preT 0)) a0 w) (k : ∀ a w, @St (TP p) B w0 μ Tryz.f11.ntmps (frOf fsA) (hOf 30004 (bsT 0 27 30001 30002 (hM 0))) a w → (restn 3 tC).wp Tryz.prog Q a w) : tC.wp Tryz.prog Q a0 w := by
  have hc : p.cnt = 0 := h.ct.2 ht
  have e5 : p.t1 = wd p.la := by show p.tot + wd p.la = _; omega
  refine firstTo_sound (T := Pt p (RT0 p h hf h0 ht)) (T' := TP p) (n := 3) mixed (K := KN) KN_ok (C := cvA0 20025 20027 20024) (rl := rlM 0 20025 20027 20024) (fs := fsA) (bs := bsT 0 27 20025 20027 20024)
    hbU (show 30000 ≤ 30004 by decide) rfl (by kernel_rfl) (ipG (ipE (ipE (ipE (Go.X.ipZ (a := ((wd p.la : Nat) : Int)) (b := ((p.t1 : Nat) : Int)) (ipK' (ipK' (ipE ipNil) (b := ((p.cnt + 1 : Nat) : Int))) (b := ((p.tot + 1 : Nat) : Int))))))))
    (vpNum (n := p.t1) (K := .u64) (e := fun m => wI (p.WY m)) (e' := fun m => wI (p.WY m)) (vpRow (n := p.cnt + 1) (K := .i64) (f := p.S1) vpNil (by rw [hc]; rfl) (by omega) rfl rfl (fun m hm => by
      have e : m = 0 := by omega
      subst e
      refine ⟨_, rfl, ?_⟩
      show some ((IntKind.i64, (0 : Int)) : IntKind × Int) = some (.i64, if 0 < p.cnt then p.S 0 else (p.tot : Int))
      rw [if_neg (by omega), ht]; rfl))) (glL (p := p)) (ha0 p h hf h0 ht) (St.same (Pt.same _ _) s) fun a1 w1 s1 => ?_
  exact k a1 w1 s1
theorem txI_ok {p : Pm} {z : Nat} (h : Ar p) (hf : p.t1 ≤ 2048) (A : ∀ {B : Kp} {w0 : World} {μ : M} {a0 : Act} {w : World} {Q : Exit → Act → World → Prop}, Base B μ 20010 → Base B μ 30000 → @St (TP p) B w0 μ Tryz.f11.ntmps (T.ofList 0 .leaf [.ptr 3255 0, src]) (hIn 20010 (preT z)) a0 w → (∀ a w, @St (TP p) B w0 μ Tryz.f11.ntmps (frOf fsA) (hOf 30004 (bsT z 27 30001 30002 (hM z))) a w → (restn 3 tC).wp Tryz.prog Q a w) → tC.wp Tryz.prog Q a0 w) (R : HR_ z) (I : HI z) (W : HW z) (Y : HY z) (Z : HZ z) (l : okLim (txI z).bs' = true) (hl : hasAll (hOf 20050 (postT z 30001 30002 (hM z))) (txI z).bs' = true)
    (rk2 : okRn (cvA z 30001 30002 30003) (rlM z 30001 30002 30003) = true) (rk3 : okRn (cvI z) (rlM z 30001 30002 30003) = true) (rk4 : okRn (cvZ z 30001 30002 30003) (rlZ z 30001 30002 30003) = true) (hr : results? Tryz.prog Tryz.f11 (frOf [(4, .oi 4)]) (hOf 20050 (postT z 30001 30002 (hM z))) = some (.oi 4)) : @InOk Tryz.prog (txI z) (TP p) := by
  letI : Tab := TP p
  refine ⟨l, hOf 20050 (postT z 30001 30002 (hM z)), ?_, hOf_next'.symm, hl⟩
  refine callOk_of (fn := Tryz.f11) Tryz.func11 tC_eq (show 2 ≤ Tryz.f11.ntmps by decide +kernel) (show 2 < limit by decide) fun B w0 μ a0 w hb s => ?_
  have hb : Base B μ 20010 := by
    have h := hb
    rw [show (hIn (txI z).N (txI z).bs).next = 20010 from hIn_next] at h
    exact h
  have hbU : Base B μ 30000 := baseUp hb (by decide)
  refine A hb hbU s fun a1 w1 s1 => ?_
  rw [t3_eq]
  refine wp_seq (wp_seq (wp_mono (runTo_sound (T := Pt p (RT p h hf)) (T' := TP p) mixed (K := KN) KN_ok (C := cvA z 30001 30002 30003) (ex := .normal) hbU (show 30000 ≤ 30004 by decide) (rl := rlM z 30001 30002 30003) rfl rk2 (ipG (ipE (ipE (ipE (ipE (ipE (ipE (ipE ipNil)))))))) (vpNum (n := p.t1) (e := fun m => wI (p.WY m)) (e' := fun m => wI (p.WY m)) (vpNum (n := p.cnt + 1) (e := p.S1) (e' := p.S1) vpNil)) (glL (p := p)) (R p h hf) (St.same (Pt.same _ _) s1)) ?_))
  rintro e a2 w2 ⟨rfl, s2⟩
  show (Code.cond (.tmp 18) tX .skip).wp _ _ _ _
  refine wp_cond (t := true) (St.evB s2 (by kernel_rfl)) ?_
  show tX.wp _ _ _ _
  refine firstTo_sound (T := Pt p (RT p h hf)) (T' := TP p) (n := 2) mixed (K := KN) KN_ok (C := cvI z) (rl := rlM z 30001 30002 30003) (fs := fsL) (bs := bsT z 10 30001 30002 (hM z))
    hbU (show 30000 ≤ 30004 by decide) rfl rk3 (ipG (ipE (ipE (ipE (ipE (ipE (ipE (ipK' ipNil (e := rfl))))))))) (vpNum (n := p.t1) (e := fun m => wI (p.w 0 m)) (e' := fun m => wI (p.w 0 m)) (vpNum (n := p.cnt + 1) (e := p.S1) (e' := p.S1) vpNil)) (glL (p := p)) (I p h hf) (St.same (Pt.same _ _) s2) fun a3 w3 s3 => ?_
  rw [tX_eq]
  refine wp_block (wp_mono (wp_loop_rounds (Q := fun e a w => e = .exit 0 ∧ SW p z p.la B w0 μ a w) (p.la + 1) (wRounds W Y h hf hbU (p.la + 1) 0 a3 w3 (by omega) (Nat.zero_le _) s3)) ?_)
  rintro e a4 w4 ⟨rfl, s4⟩
  show (restn 4 tC).wp _ _ _ _
  refine wp_mono (runTo_sound (T := T0 p p.la) (T' := TP p) mixed hNo (C := cvZ z 30001 30002 30003) (ex := .ret) hb (show (20010 : Nat) ≤ 20050 by decide) (rl := rlZ z 30001 30002 30003) rfl rk4 (ipG (ipE (ipE (ipE (ipE (ipE (ipE ipNil))))))) (vpNum (n := p.t1) (e := fun m => wI (p.w p.la m)) (e' := fun m => wI (p.w p.la m)) (vpNum (n := p.cnt + 1) (e := p.S1) (e' := p.S1) vpNil)) (glL (p := p)) (Z p p.la) s4) ?_
  rintro e a5 w5 ⟨rfl, s5⟩
  exact St.done (τ := TP p) (e := .ret) (.inr rfl) hr s5
section
variable {p : Pm}
theorem tx0_ok (h : Ar p) (hf : p.t1 ≤ 2048) (h0 : 0 < p.la) (ht : p.tot = 0) : @InOk Tryz.prog (txI 0) (TP p) := txI_ok h hf (first0 h hf h0 ht) hr0 hi0 hw0 hy0 hz0 (by kernel_rfl) (by kernel_rfl) (by kernel_rfl) (by kernel_rfl) (by kernel_rfl) (by kernel_rfl)
theorem tx1_ok (h : Ar p) (hf : p.t1 ≤ 2048) : @InOk Tryz.prog (txI 1) (TP p) := txI_ok h hf (first1 h hf) hr1 hi1 hw1 hy1 hz1 (by kernel_rfl) (by kernel_rfl) (by kernel_rfl) (by kernel_rfl) (by kernel_rfl) (by kernel_rfl)
end
/- an empty text -/
noncomputable def cvE (z a b h : Nat) : Cv := ⟨20010, 20050, ofPairs (rlZ z a b h), [(.oi 0, 0), (.oi 1, 1), (.oi 2, 2), (.oi 3, 3), (.oi 4, 4), (.oi 7, 7)]⟩
def HE1 (s : AV) : Prop := ∀ p hh hf hz, runTo (Pt p (RTZ p hh hf hz)) Tryz.prog KN 3000 Tryz.f11.ntmps tC (T.ofList 0 .leaf [.ptr 3255 0, s]) (hIn 20010 (preT 1)) .ret (cvE 1 20010 20012 20003) [(20010, .vec 3, 3), (20012, .vec 4, 4)] [(4, .oi 4)] (postT 1 20010 20012 20003) = true
noncomputable def cvE0 : Cv := ⟨20010, 20050, ofPairs (rlZ 0 20025 20027 20024), [(.oi 0, 0), (.oi 1, 1), (.oi 2, 2), (.int .i64 3, 3), (.int .i64 1, 4), (.int .i64 1, 7)]⟩
noncomputable abbrev z3 : Blk := rowOf [.int .u64 0, .int .u64 0, .int .u64 0] true
noncomputable abbrev z1 : Blk := rowOf [.int .i64 0] true
def HE0 (s : AV) : Prop := ∀ p, runTo (TP p) Tryz.prog KN 3000 Tryz.f11.ntmps tC (T.ofList 0 .leaf [.ptr 3255 0, s]) (hIn 20010 (preT 0)) .ret cvE0 [(20025, z3, 3), (20027, z1, 4)] [(4, .oi 4)] (postT 0 20025 20027 20024) = true
theorem he0n : HE0 .nils := fun p => by as_aux_lemma => kernel_rfl
theorem he0e : HE0 .es := fun p => by as_aux_lemma => kernel_rfl
theorem he1n : HE1 .nils := fun p h hf hz => by as_aux_lemma => kernel_rfl
theorem he1e : HE1 .es := fun p h hf hz => by as_aux_lemma => kernel_rfl
noncomputable def teI (z : Nat) (s : AV) : In := ⟨11, [.ptr 3255 0, s], 20010, preT z, .oi 4, 20050, bsOf (postT z 30001 30002 (hM z))⟩
theorem te1_ok {p : Pm} {s : AV} (h : Ar p) (hf : p.t1 ≤ 2048) (hz : p.la = 0) (E : HE1 s) : @InOk Tryz.prog (teI 1 s) (TP p) := by
  letI : Tab := TP p
  refine ⟨by kernel_rfl, hOf 20050 (postT 1 20010 20012 20003), ?_, hOf_next'.symm, by kernel_rfl⟩
  refine callOk_of (fn := Tryz.f11) Tryz.func11 tC_eq (show 2 ≤ Tryz.f11.ntmps by decide +kernel) (show 2 < limit by decide) fun B w0 μ a0 w hb st => ?_
  have hb : Base B μ 20010 := by
    have h := hb
    rw [show (hIn (teI 1 s).N (teI 1 s).bs).next = 20010 from hIn_next] at h
    exact h
  refine wp_mono (runTo_sound (T := Pt p (RTZ p h hf hz)) (T' := TP p) mixed (K := KN) KN_ok (C := cvE 1 20010 20012 20003) (ex := .ret) hb (show (20010 : Nat) ≤ 20050 by decide) (rl := rlZ 1 20010 20012 20003) rfl (by kernel_rfl) (ipE (ipE (ipE (ipE (ipE (ipE ipNil)))))) (vpNum (n := p.t1) (e := fun m => wI (p.w p.la m)) (e' := fun m => wI (p.w p.la m)) (vpNum (n := p.cnt + 1) (e := p.S1) (e' := p.S1) vpNil)) (glL (p := p)) (E p h hf hz) (St.same (Pt.same _ _) st)) ?_
  rintro e a4 w4 ⟨rfl, s4⟩
  exact St.done (τ := TP p) (e := .ret) (.inr rfl) (by kernel_rfl) s4
theorem te0_ok {p : Pm} {s : AV} (h : Ar p) (hz : p.la = 0) (ht : p.tot = 0) (E : HE0 s) : @InOk Tryz.prog (teI 0 s) (TP p) := by
  have hc : p.cnt = 0 := h.ct.2 ht
  have e5 : p.t1 = 3 := by rw [t1z hz, ht]
  letI : Tab := TP p
  refine ⟨by kernel_rfl, hOf 20050 (postT 0 20025 20027 20024), ?_, hOf_next'.symm, by kernel_rfl⟩
  refine callOk_of (fn := Tryz.f11) Tryz.func11 tC_eq (show 2 ≤ Tryz.f11.ntmps by decide +kernel) (show 2 < limit by decide) fun B w0 μ a0 w hb st => ?_
  have hb : Base B μ 20010 := by
    have h := hb
    rw [show (hIn (teI 0 s).N (teI 0 s).bs).next = 20010 from hIn_next] at h
    exact h
  refine wp_mono (runTo_sound (T := TP p) (T' := TP p) mixed (K := KN) KN_ok (C := cvE0) (ex := .ret) hb (show (20010 : Nat) ≤ 20050 by decide) (rl := rlZ 0 20025 20027 20024) rfl (by kernel_rfl) (ipE (ipE (ipE (ipK' (ipK' (ipK' ipNil (b := ((p.cnt + 1 : Nat) : Int))) (b := ((p.tot + 1 : Nat) : Int))) (b := ((p.t1 : Nat) : Int))))))
    (vpRow (n := p.t1) (K := .u64) (f := fun m => wI (p.w p.la m)) (vpRow (n := p.cnt + 1) (K := .i64) (f := p.S1) vpNil (by rw [hc]; rfl) (by omega) rfl rfl (fun m hm => by
      have e : m = 0 := by omega
      subst e
      refine ⟨_, rfl, ?_⟩
      show some ((IntKind.i64, (0 : Int)) : IntKind × Int) = some (.i64, if 0 < p.cnt then p.S 0 else (p.tot : Int))
      rw [if_neg (by omega), ht]; rfl)) (by rw [e5]; rfl) (by omega) rfl rfl (fun m hm => by
      have e : p.w p.la m = 0#64 := by
        show wn p.tot p.la p.A p.W p.la m = _
        rw [show m = p.tot + m by omega, wn_hi, hz]
        unfold objW
        split
        · rfl
        · split <;> rfl
      refine ⟨.int .u64 0, by match m, (show m < 3 by omega) with | 0, _ => rfl | 1, _ => rfl | 2, _ => rfl, ?_⟩
      rw [e]; rfl)) (glL (p := p)) (E p) st) ?_
  rintro e a4 w4 ⟨rfl, s4⟩
  exact St.done (τ := TP p) (e := .ret) (.inr rfl) (by kernel_rfl) s4
/-- whatever the text is -/
noncomputable def tuI (z : Nat) : In := ⟨11, [.ptr 3255 0, .rw 1], 20010, preT z, .oi 4, 20050, bsOf (postT z 30001 30002 (hM z))⟩
/-- a contract's arguments may be told by less -/
theorem InOk.args {T : Tab} {P : Go.Program} {c : In} {xs : List AV} (h : ∀ (μ : M) (l : List Value), @vrels T μ xs l → @vrels T μ c.xs l) (o : @InOk P c T) : @InOk P ⟨c.f, xs, c.N, c.bs, c.v, c.N', c.bs'⟩ T := by
  obtain ⟨h', k1, k2, k3⟩ := o.run
  exact ⟨o.lim, h', fun B w0 μ w args' r ha => k1 B w0 μ w args' r (h _ _ ha), k2, k3⟩
end Go.Proofs.YtifdjfcakkdgeaaGreatDoor.sa
