/-
  The laws of profile: Merge's contract.
-/
import Derived.Test.YtnenjcehicaobaaPFR
set_option linter.unusedVariables false
set_option linter.unusedSimpArgs false
set_option linter.unusedSectionVars false
set_option maxRecDepth 1000000
set_option maxHeartbeats 0
namespace Go.Proofs.Ytnenjcehicaobaa.pf
open Go.X Go.RowKit Go.Proofs
/-- what Merge is handed: lists, each in order; all their rows in order -/
structure MIn (p : Pm) (F : List Row) : Prop where
  g : Gok p.G
  M : p.M < 999999
  so : ∀ m, m < p.M → (rest p.G (p.ls m)).Pairwise Lt
  sf : F.Pairwise Lt
  pm : F.Perm (qR p.G p.ls p.M)
  f : Fok p F
noncomputable abbrev bsX0 : BS := []
noncomputable abbrev bsX1 : BS := [(20003, 20003, .vec 30)]
noncomputable def moI0 : In := ⟨9, [.oi 40, .ov 19004 24 1], 20000, [(19004, .vec 24)], .nils, 20010, bsOf bsX0⟩
noncomputable def moI1 : In := ⟨9, [.oi 40, .ov 19004 24 1], 20000, [(19004, .vec 24)], .ov 20003 30 2, 20010, bsOf bsX1⟩
theorem gMz {p : Pm} (t u : Bool) (ht : decide ((0 : Int) < p.K) = t) (hu : decide (0 < p.N) = u) : runTo (RCn t u ht hu).T Try.prog Hand.none 3000 ntM (restn 3 mC) (frOf fsM3) (hOf 20010 [(20001, 20001, cel .nils)]) .ret (CM [] []) [] [(4, .nils)] bsX0 = true := by cases t <;> cases u <;> as_aux_lemma => kernel_rfl
theorem gE6n (p : Pm) : runTo (T0 p) Try.prog Hand.none 3000 ntM (restn 6 mC) (frOf [(8, .nils)]) (hOf 20010 []) .ret (CM [] []) [] [(4, .nils)] bsX0 = true := by as_aux_lemma => kernel_rfl
theorem gE6v (p : Pm) : runTo (T0 p) Try.prog Hand.none 3000 ntM (restn 6 mC) (frOf fsX) (hOf 20010 [(20003, 20003, .vec 30)]) .ret CX [(20003, .vec 30, 30)] [(4, .ov 20003 30 2)] bsX1 = true := by as_aux_lemma => kernel_rfl
theorem ini_ok {G : Gi} {F : List Row} {N : Nat} : ∀ (a : Nat) (it : Nat → Nat), II G F it N a → II G F (ini G N a it) N 0
  | 0, it, i => i
  | a + 1, it, i => ini_ok a _ i.down
section
variable {p : Pm} {B : Kp} {w0 : World} {μ : M} {a : Act} {w : World} {F : List Row}
def at3 (p : Pm) : Pm := { atL p p.M with ita := qI p.G p.ls p.M, itb := ini p.G (qs p.G p.ls p.M).length ((qs p.G p.ls p.M).length / 2) (qI p.G p.ls p.M) }
def SE (p : Pm) (B : Kp) (w0 : World) (μ : M) (a : Act) (w : World) : Prop := ((qs p.G p.ls p.M).length = 0 ∧ St (T0 (at3 p)) B w0 μ ntM (frOf fsM3) (hOf 20010 [(20001, 20001, cel .nils)]) a w) ∨ (0 < (qs p.G p.ls p.M).length ∧ St (T0 (at3 p)) B w0 μ ntM (frOf fsM3) (hOf 20010 (bsC 20)) a w)
theorem lExit (hb : Base B μ 20000) (s : SL p p.M B w0 μ a w) : m2L.wp Try.prog (fun e a' w' => e = .exit 0 ∧ SE p B w0 μ a' w') a w := by
  have hr : ¬ (atL p p.M).r < (atL p p.M).M := by show ¬ p.M < p.M; omega
  rcases s with ⟨h0, s⟩ | ⟨h0, s⟩
  · refine wp_mono (runTo_sound (T := (RLe hr).T) (T' := T0 (at3 p)) mixed hNo (C := CM [(20001, 20001)] [(.oi 40, 40)]) (ex := .exit 0) hb (by decide) (rl := [(20001, 20001)]) rfl (by kernel_rfl) (ipE (q := (.i64, p.K)) ipNil (by exact rfl) (by exact rfl)) vpNil (fun g => glM (p := atL p p.M) (by exact rfl) g) (gLe0 hr) (St.same (Rz.same _) s)) ?_
    rintro e a' w' ⟨rfl, s'⟩
    exact ⟨rfl, .inl ⟨h0, s'⟩⟩
  · refine wp_mono (runTo_sound (T := (RLe hr).T) (T' := T0 (at3 p)) mixed hNo (C := CM [(20001, 20001), (20002, 20002)] [(.oi 22, 22), (.oi 40, 40)]) (ex := .exit 0) hb (by decide) (rl := [(20001, 20001), (20002, 20002)]) rfl (by kernel_rfl) (ipE (q := (.i64, (((qs p.G p.ls p.M).length : Nat) : Int))) (ipE (q := (.i64, p.K)) ipNil (by exact rfl) (by exact rfl)) (by exact rfl) (by exact rfl)) (vpQ (n := (qs p.G p.ls p.M).length) (f := qI p.G p.ls p.M) (f' := qI p.G p.ls p.M) (k := vpNil)) (fun g => glM (p := atL p p.M) (by exact rfl) g) (gLe1 hr) (St.same (Rz.same _) s)) ?_
    rintro e a' w' ⟨rfl, s'⟩
    exact ⟨rfl, .inr ⟨h0, s'⟩⟩
theorem lRounds (g : Gok p.G) (hM : p.M < 999999) (hb : Base B μ 20000) : ∀ (k r : Nat) (a : Act) (w : World), r + k = p.M → SL p r B w0 μ a w → Code.rounds Try.prog m2L (fun e a w => e = .exit 0 ∧ SE p B w0 μ a w) (k + 1) a w
  | 0, r, a, w, h, s => by
    obtain rfl : r = p.M := by omega
    refine rounds_of (wp_mono (lExit hb s) ?_)
    rintro e a' w' ⟨rfl, s'⟩
    exact ⟨rfl, s'⟩
  | k + 1, r, a, w, h, s => by
    refine rounds_of (wp_mono (lRound g hM hb (by omega) s) ?_)
    rintro e a' w' ⟨rfl, s'⟩
    exact lRounds g hM hb k (r + 1) a' w' (by omega) s'
theorem qs_zero (G : Gi) (ls : Nat → Nat) : (qs G ls 0).length = 0 := rfl
/-- how many come out -/
def outN (p : Pm) (F : List Row) : Nat := min p.K.toNat F.length
/-- the whole of it -/
theorem mAll (h : MIn p F) (hoo : p.o = outN p F) (hb : Base B μ 20000) (s : St (T0 p) B w0 μ ntM (T.ofList 0 .leaf [.oi 40, .ov 19004 24 1]) (hIn 20000 [(19004, .vec 24)]) a w) :
    mC.wp Try.prog (fun e a' w' => e = .ret ∧ ((outN p F = 0 ∧ St (T0 p) B w0 μ ntM (frOf [(4, .nils)]) (hOf 20010 bsX0) a' w') ∨ (0 < outN p F ∧ St (T0 p) B w0 μ ntM (frOf [(4, .ov 20003 30 2)]) (hOf 20010 bsX1) a' w'))) a w := by
  have hM := h.M
  have hql := qs_len p.ls p.G p.M
  refine firstTo_sound (T := T0 p) (T' := T0 (atL p 0)) (n := 2) mixed (K := Hand.none) hNo (C := CM [(20001, 20000)] iM) (rl := [(20001, 20000)]) (fs := fsM0) (bs := bsL0 20000)
    hb (by decide) rfl (by kernel_rfl) (iM_ok (x := p.K) (y := (p.M : Int)) rfl rfl rfl rfl) (vpQ (n := p.M) (f := p.ls) (f' := p.ls) (k := vpNil)) (fun g => glP (p := p) (by exact rfl) g) (gM0 p) s fun a1 w1 s1 => ?_
  rw [m2_eq, m2_in]
  refine wp_seq (wp_seq (wp_mono (runTo_sound (T := T0 (atL p 0)) (T' := T0 (atL p 0)) mixed hNo (C := CM [(20001, 20001)] ((.int .i64 0, 25) :: iM)) (ex := .normal) hb (by decide) (rl := [(20001, 20001)]) rfl (by kernel_rfl) (ipK' (b := ((0 : Nat) : Int)) (iM_ok (x := p.K) (y := (p.M : Int)) rfl rfl rfl rfl) (by exact rfl) rfl) (vpQ (n := p.M) (f := p.ls) (f' := p.ls) (k := vpNil)) (fun g => g) (gM1 _) s1) ?_))
  rintro e a2 w2 ⟨rfl, s2⟩
  show (Code.block 0 (.loop m2L)).wp _ _ _ _
  refine wp_block (wp_mono (wp_loop_rounds (Q := fun e a w => e = .exit 0 ∧ SE p B w0 μ a w) (p.M + 1) (lRounds h.g hM hb p.M 0 a2 w2 (by omega) (.inl ⟨rfl, s2⟩))) ?_)
  rintro e a3 w3 ⟨rfl, s3⟩
  show (restn 3 mC).wp _ _ _ _
  have hst := II.start (F := F) h.g h.so h.sf h.pm
  rcases s3 with ⟨h0, s3⟩ | ⟨h0, s3⟩
  · have hF : F.length = 0 := by
      have := hst.pm.length_eq
      rw [this, h0]; rfl
    have ho : outN p F = 0 := by unfold outN; omega
    refine wp_mono (runTo_sound (T := (RCn (p := at3 p) _ _ rfl rfl).T) (T' := T0 p) mixed hNo (C := CM [] []) (ex := .ret) hb (by decide) (rl := []) rfl (by kernel_rfl) ipNil vpNil (fun g => glM (p := at3 p) (by exact rfl) g) (gMz _ _ _ _) (St.same (Rz.same _) s3)) ?_
    rintro e a4 w4 ⟨rfl, s4⟩
    exact ⟨rfl, .inl ⟨ho, s4⟩⟩
  · have o := nI_ok (p := at3 p) h.g (by show (qs p.G p.ls p.M).length < 1000000; omega) hst.ne (fun m _ => rfl)
    rw [m3_eq]
    refine wp_seq (wp_mono (runTo_sound (T := T0 (at3 p)) (T' := T0 { at3 p with ita := (at3 p).itb }) mixed (inH o nLim0) (C := CM [(20001, 20001), (20002, 20002)] [(.oi 22, 22), (.oi 40, 40)]) (ex := .normal) hb (by decide) (rl := [(20001, 20001), (20002, 20002)]) rfl (by kernel_rfl) (ipE (q := (.i64, (((qs p.G p.ls p.M).length : Nat) : Int))) (ipE (q := (.i64, p.K)) ipNil (by exact rfl) (by exact rfl)) (by exact rfl) (by exact rfl)) (vpQ (n := (qs p.G p.ls p.M).length) (f := (at3 p).itb) (f' := (at3 p).itb) (k := vpNil)) (fun g => glP (p := at3 p) (by exact rfl) g) (gM3 _) s3) ?_)
    rintro e a4 w4 ⟨rfl, s4⟩
    show (restn 4 mC).wp _ _ _ _
    rw [m4_eq]
    refine wp_seq (wp_mono (runTo_sound (T := T0 { at3 p with ita := (at3 p).itb }) (T' := T0 (atM p (qs p.G p.ls p.M).length (at3 p).itb 0)) mixed hNo (C := CM [(20001, 20001), (20002, 20002)] [(.oi 22, 22), (.oi 40, 40)]) (ex := .normal) hb (by decide) (rl := [(20001, 20001), (20002, 20002)]) rfl (by kernel_rfl) (ipE (q := (.i64, (((qs p.G p.ls p.M).length : Nat) : Int))) (ipE (q := (.i64, p.K)) ipNil (by exact rfl) (by exact rfl)) (by exact rfl) (by exact rfl)) (vpQ (n := (qs p.G p.ls p.M).length) (f := (at3 p).itb) (f' := (at3 p).itb) (k := vpNil)) (fun g => glP (p := { at3 p with ita := (at3 p).itb }) (by exact rfl) g) (gM4 _) s4) ?_)
    rintro e a5 w5 ⟨rfl, s5⟩
    show (restn 5 mC).wp _ _ _ _
    rw [m5_eq]
    refine wp_seq (wp_block (wp_mono (wp_loop_rounds (Q := fun e a w => e = .exit 2 ∧ ∃ N it, SX (atM p N it (outN p F)) B w0 μ a w) (F.length + 1) (mRounds hb h.f F.length (qs p.G p.ls p.M).length 0 (at3 p).itb a5 w5 (by omega) (Nat.zero_le _) (by omega) (fun _ => h0) (ini_ok _ _ hst).done (.inl ⟨rfl, s5⟩))) ?_))
    rintro e a6 w6 ⟨rfl, N, it, s6⟩
    show (restn 6 mC).wp _ _ _ _
    rcases s6 with ⟨h1, s6⟩ | ⟨h1, s6⟩
    · refine wp_mono (runTo_sound (T := T0 (atM p N it (outN p F))) (T' := T0 p) mixed hNo (C := CM [] []) (ex := .ret) hb (by decide) (rl := []) rfl (by kernel_rfl) ipNil vpNil (fun g => glP (p := atM p N it (outN p F)) (by exact rfl) g) (gE6n _) s6) ?_
      rintro e a7 w7 ⟨rfl, s7⟩
      exact ⟨rfl, .inl ⟨h1, s7⟩⟩
    · refine wp_mono (runTo_sound (T := T0 (atM p N it (outN p F))) (T' := T0 p) mixed hNo (C := CX) (ex := .ret) hb (by decide) (rl := [(20003, 20003)]) rfl (by kernel_rfl) (ipE (q := (.i64, ((outN p F : Nat) : Int))) ipNil (by exact rfl) (by show ((IntKind.i64, (p.o : Int)) : IntKind × Int) = _; rw [hoo])) (vpOut (i := 30) (n := outN p F) vpNil (hv' := by show celV (2 * p.o) co = _; rw [hoo]) (hk' := by show 2 * p.o = _; rw [hoo]) (he := fun j _ => outSame (atM p N it (outN p F)) p rfl j)) (fun g => glP (p := atM p N it (outN p F)) (by exact rfl) g) (gE6v _) s6) ?_
      rintro e a7 w7 ⟨rfl, s7⟩
      exact ⟨rfl, .inr ⟨h1, s7⟩⟩
theorem moLim0 : okLim moI0.bs' = true := by kernel_rfl
theorem moLim1 : okLim moI1.bs' = true := by kernel_rfl
theorem moLim : okLim moI0.bs = true := by kernel_rfl
theorem moAll0 : hasAll (hOf 20010 bsX0) moI0.bs' = true := by as_aux_lemma => kernel_rfl
theorem moAll1 : hasAll (hOf 20010 bsX1) moI1.bs' = true := by as_aux_lemma => kernel_rfl
theorem moRes0 : results? Try.prog Try.f9 (frOf [(4, .nils)]) (hOf 20010 bsX0) = some .nils := by as_aux_lemma => kernel_rfl
theorem moRes1 : results? Try.prog Try.f9 (frOf [(4, .ov 20003 30 2)]) (hOf 20010 bsX1) = some (.ov 20003 30 2) := by as_aux_lemma => kernel_rfl
theorem moI0_ok (h : MIn p F) (hoo : p.o = outN p F) (hz : outN p F = 0) : @InOk Try.prog moI0 (T0 p) := by
  letI : Tab := T0 p
  refine ⟨moLim0, hOf 20010 bsX0, ?_, hOf_next'.symm, moAll0⟩
  refine callOk_of (fn := Try.f9) Try.func9 mC_eq (show 2 ≤ Try.f9.ntmps by decide +kernel) (show 2 < limit by decide) fun B w0 μ a0 w hb s => ?_
  have hb : Base B μ 20000 := by
    have h := hb
    rw [show (hIn moI0.N moI0.bs).next = 20000 from hIn_next] at h
    exact h
  refine wp_mono (mAll h hoo hb s) ?_
  rintro e a1 w1 ⟨rfl, ⟨_, s1⟩ | ⟨c, _⟩⟩
  · exact St.done (τ := T0 p) (e := .ret) (.inr rfl) moRes0 s1
  · omega
theorem moI1_ok (h : MIn p F) (hoo : p.o = outN p F) (hz : 0 < outN p F) : @InOk Try.prog moI1 (T0 p) := by
  letI : Tab := T0 p
  refine ⟨moLim1, hOf 20010 bsX1, ?_, hOf_next'.symm, moAll1⟩
  refine callOk_of (fn := Try.f9) Try.func9 mC_eq (show 2 ≤ Try.f9.ntmps by decide +kernel) (show 2 < limit by decide) fun B w0 μ a0 w hb s => ?_
  have hb : Base B μ 20000 := by
    have h := hb
    rw [show (hIn moI1.N moI1.bs).next = 20000 from hIn_next] at h
    exact h
  refine wp_mono (mAll h hoo hb s) ?_
  rintro e a1 w1 ⟨rfl, ⟨c, _⟩ | ⟨_, s1⟩⟩
  · omega
  · exact St.done (τ := T0 p) (e := .ret) (.inr rfl) moRes1 s1
end
end Go.Proofs.Ytnenjcehicaobaa.pf
