/-
  The law NativeString: a text's chars as a contract, at any names.
-/
import Derived.Test.YtkkaifeiopjjdaaGreatDoorNSD
set_option linter.unusedVariables false
set_option linter.unusedSimpArgs false
set_option linter.unusedSectionVars false
set_option maxRecDepth 1000000
set_option maxHeartbeats 0
namespace Go.Proofs.YtkkaifeiopjjdaaGreatDoor.ns
open Go.X Go.RowKit Go.Proofs
noncomputable abbrev fsB : List (Nat × AV) := [(0, .ptr 9899 0), (1, .oi 43), (5, .ov 20001 42 1)]
noncomputable abbrev cvI : Cv := ⟨20000, 20002, ofPairs [(20001, 20001)], [(.int .i64 0, 40), (.oi 42, 42), (.oi 43, 43), (.oi 4, 4), (.oi 5, 5), (.oi 6, 6), (.oi 54, 54)]⟩
/-- to the loop -/
def GI (st : Nat) : Prop := ∀ p q, runTo (T0 p q st) Tryz.prog Hand.none 3000 Tryz.f13.ntmps cI (frOf fsB) (hOf 20002 (bsC st 12)) .normal cvI [(20001, .vec 12, 12), (nW st, .vec st, st)] fsC (bsC st 12) = true
abbrev RX (p : Pm) (q : Lq) (st : Nat) (hk : ¬ q.k < q.n) : Rw (ivL p q st) (vvL p q) (vkL p q) (fgL p) (txL p q st) where
  vvp := vvLp p q
  ib := [(11, .oi 40, .oi 42, .bool false)]
  ibok := by as_aux_lemma => exact rLt ibNil
noncomputable abbrev cvX : Cv := ⟨20000, 20002, ofPairs [(20001, 20001)], [(.oi 40, 40), (.oi 42, 42), (.oi 43, 43), (.oi 4, 4), (.oi 5, 5), (.oi 6, 6), (.oi 54, 54)]⟩
def GX (st : Nat) : Prop := ∀ p q hk, runTo (RX p q st hk).T Tryz.prog Hand.none 3000 Tryz.f13.ntmps cL (frOf fsC) (hOf 20002 (bsC st 12)) (.exit 0) cvX [(20001, .vec 12, 12), (nW st, .vec st, st)] fsC (bsC st 12) = true
noncomputable abbrev cvE (N st o : Nat) : Cv := ⟨N, Nat.succ N, ofPairs [(N, 20001)], [(.oi 42, jO o), (.oi 4, 4), (.oi 5, 5), (.oi 6, 6), (.oi 54, lw st)]⟩
/-- behind the loop: told by the law's names -/
def GE (N st o : Nat) : Prop := ∀ p q, runTo (T0 p q st) Tryz.prog Hand.none 3000 Tryz.f13.ntmps (restn 4 cC) (frOf fsC) (hOf 20002 (bsC st 12)) .ret (cvE N st o) [(20001, .vec 12, Nat.add 3 o), (nW st, .vec st, st)] [(4, .ov N (jO o) 1)] ((N, 20001, .vec (Nat.add 3 o)) :: same (bL st)) = true
theorem gi1 : GI 1 := fun p q => by as_aux_lemma => kernel_rfl
theorem gi2 : GI 2 := fun p q => by as_aux_lemma => kernel_rfl
theorem gx1 : GX 1 := fun p q hk => by as_aux_lemma => kernel_rfl
theorem gx2 : GX 2 := fun p q hk => by as_aux_lemma => kernel_rfl
theorem hIn_next {N : Nat} {bs : BL} : (hIn N bs).next = N := by unfold hIn; rw [fT_eq]
theorem baseUp {B : Kp} {μ : M} {n m : Nat} (h : Base B μ n) (hn : n ≤ m) : Base B μ m := ⟨fun x l e => Nat.lt_of_lt_of_le (h.names x l e) hn, fun x e => Nat.lt_of_lt_of_le (h.res x e) hn⟩
theorem hOf_next' {N : Nat} {bs : BS} : (hOf N bs).next = N := by unfold hOf; rw [fT_eq]
section
variable {p : Pm} {q : Lq} {st : Nat} {B : Kp} {w0 : World} {μ : M} {a : Act} {w : World}
theorem cExit (g : GX st) (hst : st < 3) (hb : Base B μ 20000) (hk : ¬ q.k < q.n) (s : SC p q st B w0 μ a w) : cL.wp Tryz.prog (fun e a' w' => e = .exit 0 ∧ SC p q st B w0 μ a' w') a w :=
  runTo_sound (T := (RX p q st hk).T) (T' := T0 p q st) mixed hNo (C := cvX) (ex := .exit 0) hb (show 20000 ≤ 20002 by decide) (rl := (20001, 20001) :: []) rfl (by kernel_rfl) (ipE (ipE (ipE (ipE (ipE (ipE (ipE ipNil))))))) (vpNum (vpSt hst vpNil)) (glL (q := q) (q' := q) (st := st) (st' := st)) (g p q hk) (St.same (Rw.same _ _) s)
theorem cRounds (g : GC st) (gX : GX st) (hst : st < 3) (hb : Base B μ 20000) (c : ∀ k, CF p (q.at k) st) : ∀ (j k : Nat) (a : Act) (w : World), k + j = q.n + 1 → k ≤ q.n → SC p (q.at k) st B w0 μ a w → Code.rounds Tryz.prog cL (fun e a w => e = .exit 0 ∧ SC p (q.at q.n) st B w0 μ a w) j a w
  | 0, k, a, w, h1, h2, s => by omega
  | j + 1, k, a, w, h1, h2, s => by
    by_cases hk : k < q.n
    · refine rounds_of (wp_mono (cRound (q := q.at k) g hst hb (c k) hk s) ?_)
      rintro e a' w' ⟨rfl, s'⟩
      exact cRounds g gX hst hb c j (k + 1) a' w' (by omega) (by omega) s'
    · have hkL : k = q.n := by omega
      refine rounds_of (wp_mono (cExit (q := q.at k) gX hst hb hk s) ?_)
      rintro e a' w' ⟨rfl, s'⟩
      rw [hkL] at s'
      exact ⟨rfl, s'⟩
theorem cInit (g : GI st) (hst : st < 3) (hb : Base B μ 20000) (s : St (T0 p (q.at 0) st) B w0 μ Tryz.f13.ntmps (frOf fsB) (hOf 20002 (bsC st 12)) a w) : cI.wp Tryz.prog (fun e a' w' => e = .normal ∧ SC p (q.at 0) st B w0 μ a' w') a w :=
  runTo_sound (T := T0 p (q.at 0) st) (T' := T0 p (q.at 0) st) mixed hNo (C := cvI) (ex := .normal) hb (show 20000 ≤ 20002 by decide) (rl := (20001, 20001) :: []) rfl (by kernel_rfl) (ipK' (ipE (ipE (ipE (ipE (ipE (ipE ipNil)))))) (e := by show ((0 : Nat) : Int) = 0; rfl)) (vpNum (vpSt hst vpNil)) (glL (q := q) (q' := q) (st := st) (st' := st)) (g p (q.at 0)) s
end
theorem ipAd {p : Pm} {st : Nat} {T T' : Tab} {l : IP} (k : IpOk T T' l) (h1 : T.iv = ivL p qZ st) : ∀ o, (h2 : T'.iv 43 = (.i64, ((oS p o + 1 : Nat) : Int))) → o < 3 → IpOk T T' ((adO o, 43) :: l)
  | 0, h2, _ => ipK' k h2 rfl
  | 1, h2, _ => ipE k (by rw [h1]; rfl) h2
  | 2, h2, _ => ipE k (by rw [h1]; rfl) h2
  | _ + 3, _, h => by omega
theorem jO_iv (p : Pm) (q : Lq) (st : Nat) : ∀ o, o < 3 → ivL p q st (jO o) = (.i64, (oN p o : Int))
  | 0, _ => rfl
  | 1, _ => rfl
  | 2, _ => rfl
  | _ + 3, h => by omega
theorem lw_iv (p : Pm) (q : Lq) (s0 : Nat) : ∀ st, st < 3 → ivL p q s0 (lw st) = (.i64, (tS p st : Int))
  | 0, _ => rfl
  | 1, _ => rfl
  | 2, _ => rfl
  | _ + 3, h => by omega
theorem zO_vv (p : Pm) (q : Lq) : ∀ o, o < 3 → vvL p q (Nat.add 20 o) = numV .u16 (oN p o) (fun _ => 0) ∧ vkL p q (Nat.add 20 o) = oN p o
  | 0, _ => ⟨rfl, rfl⟩
  | 1, _ => ⟨rfl, rfl⟩
  | 2, _ => ⟨rfl, rfl⟩
  | _ + 3, h => by omega
theorem cO_vv (p : Pm) (q : Lq) : ∀ o, o < 3 → vvL p q (Nat.add 3 o) = numV .u16 (oN p o) (oF p o) ∧ vkL p q (Nat.add 3 o) = oN p o
  | 0, _ => ⟨rfl, rfl⟩
  | 1, _ => ⟨rfl, rfl⟩
  | 2, _ => ⟨rfl, rfl⟩
  | _ + 3, h => by omega
/-- a text's chars: a contract -/
theorem chI_ok {p : Pm} {N st o : Nat} (h : Ar p) (o3 : o < 3) (ho : o ≤ st) (g2 : st < 3) (R : Rw (ivL p qZ 0) (vvL p qZ) (vkL p qZ) (fgL p) (txL p qZ 0)) (gc : GC st) (gi : GI st) (gx : GX st) (hN : N ≤ 20000)
    (l : okLim (chI N st o).bs' = true) (hl : hasAll (hOf (Nat.succ N) ((N, 20001, .vec (Nat.add 3 o)) :: same (bL st))) (chI N st o).bs' = true) (rk : okRn (cvE N st o) [(N, 20001)] = true) (rk2 : okRn (cvB N st o) [(20001, N)] = true)
    (b : firstTo R.T Tryz.prog Hand.none 3000 Tryz.f13.ntmps 3 cC (T.ofList 0 .leaf [.ptr 9899 0, adO o]) (hIn N (bL st)) (cvB N st o) [(N, .vec (Nat.add 20 o), 12), (nW st, .vec st, st)] fsB ((20001, N, .vec 12) :: same (bH st)) = true)
    (ge : GE N st o) (hr : results? Tryz.prog Tryz.f13 (frOf [(4, .ov N (jO o) 1)]) (hOf (Nat.succ N) ((N, 20001, .vec (Nat.add 3 o)) :: same (bL st))) = some (.ov N (jO o) 1)) : @InOk Tryz.prog (chI N st o) (TL p) := by
  letI : Tab := TL p
  refine ⟨l, hOf (Nat.succ N) ((N, 20001, .vec (Nat.add 3 o)) :: same (bL st)), ?_, hOf_next'.symm, hl⟩
  refine callOk_of (fn := Tryz.f13) Tryz.func13 cC_eq (show 2 ≤ Tryz.f13.ntmps by decide +kernel) (show 2 < limit by decide) fun B w0 μ a w hb s => ?_
  have hb : Base B μ N := by
    have h := hb
    rw [show (hIn (chI N st o).N (chI N st o).bs).next = N from hIn_next] at h
    exact h
  have hbU : Base B μ 20000 := baseUp hb hN
  refine firstTo_sound (T := R.T) (T' := T0 p (qO p o 0) st) (n := 3) mixed hNo (C := (cvB N st o)) (rl := [(20001, N)]) (fs := fsB) (bs := (20001, N, .vec 12) :: same (bH st))
    hbU (show 20000 ≤ 20002 by decide) rfl rk2 (ipAd (p := p) (st := 0) (ipE (ipE (ipE (ipE (ipE ipNil (lw_iv p qZ 0 st g2) rfl)))) (jO_iv p qZ 0 o o3) rfl) rfl o rfl o3) (vpNum (n := oN p o) (e := fun _ => 0) (e' := upTo (oF p o) 0) (vpSt g2 vpNil) (zO_vv p qZ o o3).1 rfl (zO_vv p qZ o o3).2 rfl (fun m _ => if_neg (Nat.not_lt_zero m))) (glL (q := qZ) (q' := qZ) (st := st) (st' := st)) b (St.same (Rw.same _ _) s) fun a1 w1 s1 => ?_
  rw [c3_eq]
  refine wp_seq (wp_seq (wp_mono (cInit (q := qO p o 0) gi g2 hbU s1) ?_))
  rintro e a2 w2 ⟨rfl, s2⟩
  show (Code.block 0 (.loop cL)).wp _ _ _ _
  refine wp_block (wp_mono (wp_loop_rounds (Q := fun e a w => e = .exit 0 ∧ SC p ((qO p o 0).at (oN p o)) st B w0 μ a w) (oN p o + 1) (cRounds (q := qO p o 0) gc gx g2 hbU (fun k => h.cf ho g2 k) (oN p o + 1) 0 a2 w2 (by show 0 + (oN p o + 1) = oN p o + 1; omega) (Nat.zero_le _) s2)) ?_)
  rintro e a3 w3 ⟨rfl, s3⟩
  show (restn 4 cC).wp _ _ _ _
  refine wp_mono (runTo_sound (T := T0 p ((qO p o 0).at (oN p o)) st) (T' := TL p) mixed hNo (C := cvE N st o) (ex := .ret) hb (Nat.le_succ N) (rl := [(N, 20001)]) rfl rk (ipE (ipE (ipE (ipE (ipE ipNil rfl (lw_iv p qZ 0 st g2))))) rfl (jO_iv p qZ 0 o o3)) (vpNum (n := oN p o) (e := upTo (oF p o) (oN p o)) (e' := oF p o) (vpSt g2 vpNil) rfl (cO_vv p qZ o o3).1 rfl (cO_vv p qZ o o3).2 (fun m hm => (upTo_eq hm).symm)) (glL (q := qZ) (q' := qZ) (st := st) (st' := st)) (ge p ((qO p o 0).at (oN p o))) s3) ?_
  rintro e a4 w4 ⟨rfl, s4⟩
  exact St.done (τ := TL p) (e := .ret) (.inr rfl) hr s4
end Go.Proofs.YtkkaifeiopjjdaaGreatDoor.ns
