/-
  The laws of profile: Merge: its main loop.
-/
import Derived.Test.YtnenjcehicaobaaPFO
set_option linter.unusedVariables false
set_option linter.unusedSimpArgs false
set_option linter.unusedSectionVars false
set_option maxRecDepth 1000000
set_option maxHeartbeats 0
namespace Go.Proofs.Ytnenjcehicaobaa.pf
open Go.X Go.RowKit Go.Proofs
/-- the queue, how many are out -/
def atM (p : Pm) (N : Nat) (it : Nat → Nat) (o : Nat) : Pm := { p with N := N, it := it, o := o }
/-- what the next call is handed, and gives -/
def atF (p : Pm) (N : Nat) (it : Nat → Nat) (o : Nat) (ita itb : Nat → Nat) : Pm := { p with N := N, it := it, o := o, ita := ita, itb := itb }
section
variable {p : Pm} {B : Kp} {w0 : World} {μ : M} {a : Act} {w : World} {N o : Nat} {it : Nat → Nat} {F : List Row}
def SM (p : Pm) (B : Kp) (w0 : World) (μ : M) (a : Act) (w : World) : Prop := (p.o = 0 ∧ St (T0 p) B w0 μ ntM (frOf fsM5) (hOf 20010 (bsC 10)) a w) ∨ (0 < p.o ∧ St (T0 p) B w0 μ ntM (frOf fsM5v) (hOf 20010 (bsO 20003 10 30)) a w)
def SX (p : Pm) (B : Kp) (w0 : World) (μ : M) (a : Act) (w : World) : Prop := (p.o = 0 ∧ St (T0 p) B w0 μ ntM (frOf [(8, .nils)]) (hOf 20010 []) a w) ∨ (0 < p.o ∧ St (T0 p) B w0 μ ntM (frOf fsX) (hOf 20010 [(20003, 20003, .vec 30)]) a w)
theorem i5_ok {T T' : Tab} {x y : Int} (h1 : T.iv 22 = (.i64, y)) (h2 : T'.iv 22 = (.i64, y)) (h3 : T.iv 40 = (.i64, x)) (h4 : T'.iv 40 = (.i64, x)) : IpOk T T' i5 := ipE (ipE ipNil h3 h4) h1 h2
theorem vpOut {T T' : Tab} {C : Cv} {x i n : Nat} {l : VP} (k : VpOk T T' C l) (hv : T.vv i = celV (2 * n) co := by exact rfl) (hv' : T'.vv 30 = celV (2 * n) co := by exact rfl) (hk : T.vk i = 2 * n := by exact rfl) (hk' : T'.vk 30 = 2 * n := by exact rfl) (he : ∀ j, j < n → T.str (2 * j + 1) = T'.str (2 * j + 1) ∧ T.iv (1002 + 3 * j) = T'.iv (1002 + 3 * j)) : VpOk T T' C ((x, .vec i, 30) :: l) :=
  vpVec k hv hv' (Nat.le_refl _) (by rw [hk, hk']; exact Nat.le_refl _) (fun m hm μ μ' v h => by
    have hj := he (m / 2) (by omega)
    by_cases c : m % 2 = 0
    · have e : m = 2 * (m / 2) := by omega
      rw [e, co_even] at h ⊢
      simp only [vrel] at h ⊢
      rw [← hj.1]; exact h
    · have e : m = 2 * (m / 2) + 1 := by omega
      rw [e, co_odd] at h ⊢
      simp only [vrel] at h ⊢
      rw [← hj.2]; exact h)
theorem outSame (p p' : Pm) (h : p'.R = p.R) (j : Nat) : (T0 p).str (2 * j + 1) = (T0 p').str (2 * j + 1) ∧ (T0 p).iv (1002 + 3 * j) = (T0 p').iv (1002 + 3 * j) := by
  constructor
  · show strP p (2 * j + 1) = strP p' (2 * j + 1)
    rw [str_out, str_out, h]
  · show ivP p (1002 + 3 * j) = ivP p' (1002 + 3 * j)
    rw [iv_out, iv_out, h]
/-- the loop's condition holds: the head's first row comes out -/
theorem mOut {p' : Pm} (hb : Base B μ 20000) (h : Hok p) (hK : (p.o : Int) < p.K) (hp : p' = { p with o := p.o + 1, ita := p'.ita, itb := p'.itb }) (s : SM p B w0 μ a w) :
    m5a.wp Try.prog (fun e a' w' => e = .normal ∧ m5b.wp Try.prog (fun e a' w' => e = .normal ∧ St (T0 p') B w0 μ ntM (frOf fsM5v) (hOf 20010 (bsO 20003 10 30)) a' w') a' w') a w := by
  have eG : p'.G = p.G := by rw [hp]
  have eN : p'.N = p.N := by rw [hp]
  have eK : p'.K = p.K := by rw [hp]
  have eo : p'.o = p.o + 1 := by rw [hp]
  have eR : p'.R = p.R := by rw [hp]
  have ei : p'.it = p.it := by rw [hp]
  have i5' : IpOk (T0 p) (T0 p') i5 := i5_ok (x := p.K) (y := (p.N : Int)) rfl (by show ((IntKind.i64, (p'.N : Int)) : IntKind × Int) = _; rw [eN]) rfl (by show ((IntKind.i64, p'.K) : IntKind × Int) = _; rw [eK])
  have v5' : ∀ C, VpOk (RH h).T (T0 p') C (v5 10) := fun C => vpVec (n := p.N) (n' := p'.N) (e := cq p.it) (e' := cq p'.it) vpNil (by exact rfl) (by exact rfl) (by rw [eN]; exact Nat.le_refl _) (by show p'.N ≤ p.N; rw [eN]; exact Nat.le_refl _) (fun m hm μ μ' v h => rwRel (by show p.G.rv (p.it m) = p'.G.rv (p'.it m); rw [eG, ei]) h)
  rcases s with ⟨h0, s⟩ | ⟨h0, s⟩
  · have hK0 : (0 : Int) < p.K := by rw [h0] at hK; exact hK
    refine wp_mono (runTo_sound (T := (RCn true true (decide_eq_true hK0) (decide_eq_true h.N0)).T) (T' := T0 p) mixed hNo (C := C5 i5) (ex := .normal) hb (by decide) (rl := [(20001, 20001), (20002, 20002)]) rfl (by kernel_rfl) (i5_ok (x := p.K) (y := (p.N : Int)) (by exact rfl) (by exact rfl) (by exact rfl) (by exact rfl)) (vpQ (n := p.N) (f := p.it) (f' := p.it) (k := vpNil)) (fun g => glM rfl g) (gCnt (decide_eq_true hK0) (decide_eq_true h.N0)) (St.same (Rz.same _) s)) ?_
    rintro e a' w' ⟨rfl, s1⟩
    refine ⟨rfl, wp_mono (runTo_sound (T := (RH h).T) (T' := T0 p') mixed hNo (C := C5v 20011 ((.int .i64 1, 30) :: i5)) (ex := .normal) hb (by decide) (rl := [(20001, 20001), (20002, 20002), (20003, 20011)]) rfl (by kernel_rfl)
      (ipK' (b := ((p'.o : Nat) : Int)) i5' (by exact rfl) (by rw [eo, h0]; rfl)) ?_ (fun g => glM eG g) (gHn h) (St.same (Rz.same _) s1)) (fun e a'' w'' k => k)⟩
    refine vpRowC (n := 2) (L := [.ostr 8, .oi 1012]) (e' := co) (v5' _) rfl (by decide) (by show celV (2 * p'.o) co = _; rw [eo, h0]) (by show 2 * p'.o ≤ 2; omega) (fun m a ha μ μ' v k => ?_)
    have hR := h.R
    rw [h0] at hR
    match m, ha with
    | 0, ha =>
      cases ha
      rw [show co 0 = .ostr (2 * 0 + 1) from rfl]
      simp only [vrel] at k ⊢
      rw [k]
      show Value.string (strP p (2 * 4)) = Value.string (strP p' (2 * 0 + 1))
      rw [str_txt, str_out, eR, hR]
    | 1, ha =>
      cases ha
      rw [show co 1 = .oi (1002 + 3 * 0) from rfl]
      simp only [vrel] at k ⊢
      rw [k]
      show Value.int (ivP p (1000 + 3 * 4)).1 (ivP p (1000 + 3 * 4)).2 = Value.int (ivP p' (1002 + 3 * 0)).1 (ivP p' (1002 + 3 * 0)).2
      rw [iv_cnt, iv_out, eR, hR]
    | (m + 2), ha => simp at ha
  · refine wp_mono (runTo_sound (T := (RCv true true (decide_eq_true hK) (decide_eq_true h.N0)).T) (T' := T0 p) mixed hNo (C := C5v 20003 i5v) (ex := .normal) hb (by decide) (rl := [(20001, 20001), (20002, 20002), (20003, 20003)]) rfl (by kernel_rfl) (ipE (q := (.i64, (p.o : Int))) (i5_ok (x := p.K) (y := (p.N : Int)) (by exact rfl) (by exact rfl) (by exact rfl) (by exact rfl)) (by exact rfl) (by exact rfl)) (vpOut (i := 30) (n := p.o) (vpQ (n := p.N) (f := p.it) (f' := p.it) (k := vpNil)) (he := fun j _ => outSame p p rfl j)) (fun g => glM rfl g) (gCvt (decide_eq_true hK) (decide_eq_true h.N0)) (St.same (Rz.same _) s)) ?_
    rintro e a' w' ⟨rfl, s1⟩
    exact ⟨rfl, wp_mono (runTo_sound (T := (RH h).T) (T' := T0 p') mixed hNo (C := C5v 20011 ((.oi 31, 30) :: i5)) (ex := .normal) hb (by decide) (rl := [(20001, 20001), (20002, 20002), (20003, 20011)]) rfl (by kernel_rfl)
      (ipZ (a := ((p.o + 1 : Nat) : Int)) (b := (p'.o : Int)) (q := .i64) i5' (by exact rfl) (by exact rfl) (by rw [eo])) (vpOut (i := 31) (n := p.o + 1) (v5' _) (hv' := by show celV (2 * p'.o) co = _; rw [eo]) (hk' := by show 2 * p'.o = _; rw [eo]) (he := fun j _ => outSame p p' eR j)) (fun g => glM eG g) (gHv h) (St.same (Rz.same _) s1)) (fun e a'' w'' k => k)⟩
end
end Go.Proofs.Ytnenjcehicaobaa.pf
