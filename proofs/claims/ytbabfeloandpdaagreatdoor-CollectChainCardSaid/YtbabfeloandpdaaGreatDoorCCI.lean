/-
  The law CollectChain: objects slide: the range, the third loop, the contract.
-/
import Derived.Test.YtbabfeloandpdaaGreatDoorCCH
set_option linter.unusedVariables false
set_option linter.unusedSimpArgs false
set_option linter.unusedSectionVars false
set_option maxRecDepth 1000000
set_option maxHeartbeats 0
namespace Go.Proofs.YtbabfeloandpdaaGreatDoor.cc
open Go.X Go.RowKit Go.Proofs
theorem filter_le {f g : Nat → Bool} (h : ∀ x, g x = true → f x = true) : ∀ l : List Nat, (l.filter g).length ≤ (l.filter f).length
  | [] => Nat.le_refl _
  | x :: l => by
    have ih := filter_le h l
    simp only [List.filter_cons]
    cases hg : g x with
    | true => rw [h x hg]; simpa using ih
    | false =>
      cases hf : f x with
      | true => simp; omega
      | false => simpa using ih
theorem filter_lt {f g : Nat → Bool} (h : ∀ x, g x = true → f x = true) {j : Nat} (h1 : f j = true) (h2 : g j = false) : ∀ l : List Nat, j ∈ l → (l.filter g).length < (l.filter f).length
  | [], hj => by cases hj
  | x :: l, hj => by
    have il := filter_le h l
    simp only [List.filter_cons]
    by_cases c : x = j
    · rw [c, h1, h2]; simp; omega
    · have ih := filter_lt h h1 h2 l (by rcases List.mem_cons.1 hj with e | e; exact absurd e.symm c; exact e)
      cases hg : g x with
      | true => rw [h x hg]; simpa using ih
      | false =>
        cases hf : f x with
        | true => simp; omega
        | false => simpa using ih
def un (n : Nat) (s : List Nat) : Nat := ((List.range n).filter fun i => !s.contains i).length
theorem un_lt {n j : Nat} {s : List Nat} (h1 : j < n) (h2 : j ∉ s) : un n (s ++ [j]) < un n s := by
  refine filter_lt (fun x hx => ?_) (j := j) (by simpa using h2) (by simp) _ (List.mem_range.2 h1)
  simp at hx ⊢
  exact hx.1
structure Inv (p : Pc) : Prop where
  ok : Ok p
  w : Wok p
  s : Sok p
  f : Fok p
section
variable {p : Pc} {k : Nat} {B : Kp} {w0 : World} {μ : M} {a : Act} {w : World}
theorem put3 {p : Pc} {W : Nat → BitVec 64} {c m : Nat} {v : Int} (e : m % 3 ≠ 2) : put W (3 * c + 2) v m = W m := put_ne (by omega)
/-- a round -/
theorem iRound (hb : Base B μ 40000) (i : Inv p) (hn : ∃ j, j < p.cnt ∧ j ∉ p.q.2.1) (s : SI p B w0 μ a w) :
    s5L.wp Tryz.prog (fun e a' w' => e = .normal ∧ ∃ W c x q q', Inv { p with W := W, c := c, x := x, q := q, q' := q' } ∧ un p.cnt q.2.1 < un p.cnt p.q.2.1 ∧ SI { p with W := W, c := c, x := x, q := q, q' := q' } B w0 μ a' w') a w := by
  rw [s5L_eq]
  refine wp_seq (wp_mono (iDraw hb i.s hn s) ?_)
  rintro e a1 w1 ⟨rfl, j, j1, j2, s1⟩
  show b5.wp _ _ _ _
  have hj : p.g + j < p.n := by have := i.ok.g2; unfold Pc.cnt at j1; omega
  have lt := un_lt j1 j2
  have hok : ∀ x, Ok { p with c := p.g + j, x := x, q' := (p.cnt, p.q.2.1 ++ [j], p.cnt) } := fun x => ⟨i.ok.n1, i.ok.n6, i.ok.f1, i.ok.g1⟩
  have hqk : ∀ x, Qok { p with c := p.g + j, x := x, q' := (p.cnt, p.q.2.1 ++ [j], p.cnt) } := fun x => ⟨by show (p.q.2.1 ++ [j]).getLast? = some (p.g + j - p.g); rw [List.getLast?_append, show p.g + j - p.g = j by omega]; rfl, rfl, Nat.le_add_right _ _, hj⟩
  have keep : ∀ c, p.g ≤ c → c < p.n → c - p.g ∉ p.q.2.1 ++ [j] → c - p.g ∉ p.q.2.1 ∧ c ≠ p.g + j := fun c h1 h2 h3 => by
    simp only [List.mem_append, List.mem_singleton, not_or] at h3
    exact ⟨h3.1, by omega⟩
  rcases i.f.u (p.g + j) (Nat.le_add_right _ _) hj (by rw [show p.g + j - p.g = j by omega]; exact j2) with hz | ⟨d, d1, d2, d3⟩
  · refine wp_mono (runTo_sound (T := Tb (RZ { p with c := p.g + j, x := 0, q' := (p.cnt, p.q.2.1 ++ [j], p.cnt) } 0 (hok 0) ⟨i.w.z⟩ hj hz) (MRz { p with c := p.g + j, x := 0, q' := (p.cnt, p.q.2.1 ++ [j], p.cnt) } 0 (hqk 0)))
      (T' := T0 { p with c := p.g + j, x := 0, q := (p.cnt, p.q.2.1 ++ [j], p.cnt), q' := (p.cnt, p.q.2.1 ++ [j], p.cnt) } 0) mixed (K := hC) (hC_ok (hok 0) hj _ _) (C := C2 40001 40002 ((.ptr 1 0, 0) :: iR)) (ex := .normal) hb (show 40000 ≤ 40003 by decide) (rl := rl2 40001 40002) rfl (rk2 _)
      (ipQ (ipM (ipE (ipE (ipE (ipM ipNil)))))) (vW0 (n := p.n) (W := p.W) (W' := p.W)) glL (gBz _ (hok 0) _ _ _ _) (St.same (Tb.same _ _ _ _) (s1 0))) ?_
    rintro e a2 w2 ⟨rfl, s2⟩
    exact ⟨rfl, p.W, p.g + j, 0, (p.cnt, p.q.2.1 ++ [j], p.cnt), (p.cnt, p.q.2.1 ++ [j], p.cnt), ⟨⟨i.ok.n1, i.ok.n6, i.ok.f1, i.ok.g1⟩, ⟨i.w.z⟩, ⟨rfl, rfl⟩, ⟨fun c h1 h2 h3 => i.f.u c h1 h2 (keep c h1 h2 h3).1⟩⟩, lt, s2⟩
  · have hv : ∀ x, Vok { p with c := p.g + j, x := x, q' := (p.cnt, p.q.2.1 ++ [j], p.cnt) } d := fun x => ⟨d3, d2⟩
    refine wp_mono (runTo_sound (T := Tb (RR { p with c := p.g + j, x := ((3 * (d - p.g) + 1 : Nat) : Int), q' := (p.cnt, p.q.2.1 ++ [j], p.cnt) } 0 d (hok _) ⟨i.w.z⟩ hj (hv _) ⟨rfl, d1⟩) (MR { p with c := p.g + j, x := ((3 * (d - p.g) + 1 : Nat) : Int), q' := (p.cnt, p.q.2.1 ++ [j], p.cnt) } 0 d (hqk _) (hv _) ⟨rfl, d1⟩))
      (T' := T0 { p with W := put p.W (3 * (p.g + j) + 2) ((3 * (d - p.g) + 1 : Nat) : Int), c := p.g + j, x := ((3 * (d - p.g) + 1 : Nat) : Int), q := (p.cnt, p.q.2.1 ++ [j], p.cnt), q' := (p.cnt, p.q.2.1 ++ [j], p.cnt) } 0) mixed (K := hC) (hC_ok (hok _) hj _ _) (C := C2 40001 40002 ((.ptr 1 0, 0) :: iR)) (ex := .normal) hb (show 40000 ≤ 40003 by decide) (rl := rl2 40001 40002) rfl (rk2 _)
      (ipQ (ipM (ipE (ipE (ipE (ipM ipNil)))))) (vW0 (i := 15) (n := p.n) (W := put p.W (3 * (p.g + j) + 2) ((3 * (d - p.g) + 1 : Nat) : Int)) (W' := put p.W (3 * (p.g + j) + 2) ((3 * (d - p.g) + 1 : Nat) : Int))) glL (gB _ d (hok _) _ _ _ _ _) (St.same (Tb.same _ _ _ _) (s1 _))) ?_
    rintro e a2 w2 ⟨rfl, s2⟩
    refine ⟨rfl, put p.W (3 * (p.g + j) + 2) ((3 * (d - p.g) + 1 : Nat) : Int), p.g + j, ((3 * (d - p.g) + 1 : Nat) : Int), (p.cnt, p.q.2.1 ++ [j], p.cnt), (p.cnt, p.q.2.1 ++ [j], p.cnt), ⟨⟨i.ok.n1, i.ok.n6, i.ok.f1, i.ok.g1⟩, ⟨fun m hm => ?_⟩, ⟨rfl, rfl⟩, ⟨fun c h1 h2 h3 => ?_⟩⟩, lt, s2⟩
    · show put p.W (3 * (p.g + j) + 2) _ (3 * m) = _
      rw [put_ne (by omega)]; exact i.w.z m hm
    · have k1 := keep c h1 h2 h3
      show wI (put p.W (3 * (p.g + j) + 2) _ (3 * c + 2)) = 0 ∨ ∃ d', p.g ≤ d' ∧ d' < p.n ∧ wI (put p.W (3 * (p.g + j) + 2) _ (3 * c + 2)) = _
      rw [put_ne (by have := k1.2; omega)]
      exact i.f.u c h1 h2 k1.1
theorem iExit (hb : Base B μ 40000) (hs : Sok p) (hn : ∀ j, j < p.cnt → j ∈ p.q.2.1) (s : SI p B w0 μ a w) : s5L.wp Tryz.prog (fun e a' w' => e = .exit 2 ∧ SG p B w0 μ a' w') a w :=
  runTo_sound (T := Tb (R0 p 0) (MXf p 0 hs hn)) (T' := T0 p 0) mixed hNo (C := C1 40001 iR) (ex := .exit 2) hb (show 40000 ≤ 40002 by decide) (rl := rl1 40001) rfl (by kernel_rfl) (ipM (ipE (ipE (ipE (ipM ipNil))))) (vW0 (n := p.n) (W := p.W) (W' := p.W)) glL (gNf p hs hn) (St.same (Tb.same _ _ _ _) s)
theorem iRounds (hb : Base B μ 40000) : ∀ (m : Nat) (p : Pc) (a : Act) (w : World), Inv p → un p.cnt p.q.2.1 ≤ m → SI p B w0 μ a w → Code.rounds Tryz.prog s5L (fun e a w => e = .exit 2 ∧ ∃ W c x q q', SG { p with W := W, c := c, x := x, q := q, q' := q' } B w0 μ a w) (m + 1) a w := by
  intro m
  induction m with
  | zero =>
    intro p a w i hm s
    have hn : ∀ j, j < p.cnt → j ∈ p.q.2.1 := fun j hj => by
      by_cases c : j ∈ p.q.2.1
      · exact c
      · have := un_lt hj c; omega
    refine rounds_of (wp_mono (iExit hb i.s hn s) ?_)
    rintro e a' w' ⟨rfl, s'⟩
    exact ⟨rfl, p.W, p.c, p.x, p.q, p.q', s'⟩
  | succ m ih =>
    intro p a w i hm s
    by_cases hn : ∃ j, j < p.cnt ∧ j ∉ p.q.2.1
    · refine rounds_of (wp_mono (iRound hb i hn s) ?_)
      rintro e a' w' ⟨rfl, W, c, x, q, q', i', lt, s'⟩
      exact ih { p with W := W, c := c, x := x, q := q, q' := q' } a' w' i' (by show un p.cnt q.2.1 ≤ m; omega) s'
    · have hn : ∀ j, j < p.cnt → j ∈ p.q.2.1 := fun j hj => by
        by_cases c : j ∈ p.q.2.1
        · exact c
        · exact absurd ⟨j, hj, c⟩ hn
      refine rounds_of (wp_mono (iExit hb i.s hn s) ?_)
      rintro e a' w' ⟨rfl, s'⟩
      exact ⟨rfl, p.W, p.c, p.x, p.q, p.q', s'⟩
/- the third loop -/
def SJ0 (p : Pc) (k : Nat) (B : Kp) (w0 : World) (μ : M) (a : Act) (w : World) : Prop := St (T0 p k) B w0 μ ntS (frOf (fsJ .nils (.oi 10))) (hOf 40002 (bsJ 40001 10)) a w
def SJ1 (p : Pc) (k : Nat) (B : Kp) (w0 : World) (μ : M) (a : Act) (w : World) : Prop := St (T0 p k) B w0 μ ntS (frOf (fsJ (.ov 40003 43 1) (.oi 10))) (hOf 40004 (bsK 40001 40003 20 10)) a w
def mvd (p : Pc) (k : Nat) : Nat → BitVec 64 := fun m => if 3 * (k - p.g) ≤ m ∧ m < 3 * (k - p.g) + 3 then p.W (3 * k + (m - 3 * (k - p.g))) else p.W m
theorem jGone (h : Ok p) (hb : Base B μ 40000) (hk : k < p.g) (s : SJ0 p k B w0 μ a w) : s7L.wp Tryz.prog (fun e a' w' => e = .normal ∧ SJ0 p (k + 1) B w0 μ a' w') a w :=
  have hkn : k < p.n := by have := h.g2; omega
  runTo_sound (T := Tb (RG p k h hkn) (MW p k hk)) (T' := T0 p (k + 1)) mixed hNo (C := C1 40001 ((.oi 11, 10) :: iR)) (ex := .normal) hb (show 40000 ≤ 40002 by decide) (rl := rl1 40001) rfl (by kernel_rfl) (ipE (ipM (ipE (ipE (ipE (ipM ipNil)))))) (vW0 (n := p.n) (W := p.W) (W' := p.W)) glL (gW p k h hkn hk) (St.same (Tb.same _ _ _ _) s)
theorem rk3 : ∀ x ip, okRn (C3 40001 x ip) (rl3 40001 x) = true → okRn (C3 40001 x ip) (rl3 40001 x) = true := fun _ _ h => h
theorem jFirst (h : Ok p) (hb : Base B μ 40000) (hk : k = p.g) (s : SJ0 p k B w0 μ a w) : s7L.wp Tryz.prog (fun e a' w' => e = .normal ∧ SJ1 { p with W := mvd p k } (k + 1) B w0 μ a' w') a w := by
  have hkn : k < p.n := by have := h.g2; omega
  have hg : p.g ≤ k := by omega
  have hip : ∀ (R : RwP p k) (M : Mw p k), IpOk (Tb R M) (T0 { p with W := mvd p k } (k + 1)) iV0 := fun R M => ipK' (b := ((k + 1 - p.g : Nat) : Int)) (ipE (ipM (ipE (ipE (ipE (ipM ipNil)))))) rfl (by omega)
  have hvp : ∀ (R : RwP p k) (M : Mw p k) (C : Cv), VpOk (Tb R M) (T0 { p with W := mvd p k } (k + 1)) C ((40003, z1, 20) :: vW 16 10) := fun R M C =>
    vpRow (n := k + 1 - p.g) (K := .i64) (f := fun m => ((3 * m : Nat) : Int)) (vW0 (i := 16) (n := p.n) (W := mvd p k) (W' := mvd p k)) (by show 1 = _; omega) (by omega) rfl rfl (fun m hm => by
      have e : m = 0 := by omega
      subst e
      refine ⟨_, rfl, ?_⟩
      show some ((IntKind.i64, ((3 * (k - p.g) : Nat) : Int)) : IntKind × Int) = some (.i64, ((3 * 0 : Nat) : Int))
      rw [show k - p.g = 0 by omega])
  by_cases ht : k + 1 < p.n
  · exact runTo_sound (T := Tb (RV p k true h hkn hg (decide_eq_true ht)) (MV p k h hkn hg)) (T' := T0 { p with W := mvd p k } (k + 1)) mixed hNo (C := C3 40001 40003 iV0) (ex := .normal) hb (show 40000 ≤ 40004 by decide) (rl := rl3 40001 40003) rfl (by kernel_rfl) (hip _ _) (hvp _ _ _) glL (gF1 p k h hkn hg _) (St.same (Tb.same _ _ _ _) s)
  · exact runTo_sound (T := Tb (RV p k false h hkn hg (decide_eq_false ht)) (MV p k h hkn hg)) (T' := T0 { p with W := mvd p k } (k + 1)) mixed hNo (C := C3 40001 40003 iV0) (ex := .normal) hb (show 40000 ≤ 40004 by decide) (rl := rl3 40001 40003) rfl (by kernel_rfl) (hip _ _) (hvp _ _ _) glL (gF0 p k h hkn hg _) (St.same (Tb.same _ _ _ _) s)
theorem jMore (h : Ok p) (hb : Base B μ 40000) (hkn : k < p.n) (hg : p.g ≤ k) (s : SJ1 p k B w0 μ a w) : s7L.wp Tryz.prog (fun e a' w' => e = .normal ∧ SJ1 { p with W := mvd p k } (k + 1) B w0 μ a' w') a w := by
  have hip : ∀ (R : RwP p k) (M : Mw p k), IpOk (Tb R M) (T0 { p with W := mvd p k } (k + 1)) iV := fun R M => ipZ (a := ((k - p.g + 1 : Nat) : Int)) (b := ((k + 1 - p.g : Nat) : Int)) (q := .i64) (ipE (ipM (ipE (ipE (ipE (ipM ipNil)))))) rfl rfl (by omega)
  have hvp : ∀ (R : RwP p k) (M : Mw p k) (C : Cv), VpOk (Tb R M) (T0 { p with W := mvd p k } (k + 1)) C ((40005, .vec 21, 20) :: vW 16 10) := fun R M C =>
    vpNum (n := k - p.g + 1) (n' := k + 1 - p.g) (K := .i64) (e := fun m => ((3 * m : Nat) : Int)) (e' := fun m => ((3 * m : Nat) : Int)) (vW0 (i := 16) (n := p.n) (W := mvd p k) (W' := mvd p k)) rfl rfl rfl rfl (by omega) (fun _ _ => rfl)
  by_cases ht : k + 1 < p.n
  · exact runTo_sound (T := Tb (RV p k true h hkn hg (decide_eq_true ht)) (MV p k h hkn hg)) (T' := T0 { p with W := mvd p k } (k + 1)) mixed hNo (C := C3 40001 40005 iV) (bs := bsK 40001 40005 20 10) (ex := .normal) hb (show 40000 ≤ 40004 by decide) (rl := rl3 40001 40005) rfl (by kernel_rfl) (hip _ _) (hvp _ _ _) glL (gV1 p k h hkn hg _) (St.same (Tb.same _ _ _ _) s)
  · exact runTo_sound (T := Tb (RV p k false h hkn hg (decide_eq_false ht)) (MV p k h hkn hg)) (T' := T0 { p with W := mvd p k } (k + 1)) mixed hNo (C := C3 40001 40005 iV) (bs := bsK 40001 40005 20 10) (ex := .normal) hb (show 40000 ≤ 40004 by decide) (rl := rl3 40001 40005) rfl (by kernel_rfl) (hip _ _) (hvp _ _ _) glL (gV0 p k h hkn hg _) (St.same (Tb.same _ _ _ _) s)
/-- ahead of the end -/
noncomputable def tE (g : Nat) : AV := if g = 0 then .oi 2 else .oi 4
def SZ (p : Pc) (B : Kp) (w0 : World) (μ : M) (a : Act) (w : World) : Prop := St (T0 p 0) B w0 μ ntS (frOf (fsZ (tE p.g))) (hOf 40004 (bsK 40001 40003 23 10)) a w
theorem jExit (hb : Base B μ 40000) (s : SJ1 p p.n B w0 μ a w) : s7L.wp Tryz.prog (fun e a' w' => e = .exit 6 ∧ SZ p B w0 μ a' w') a w := by
  have hvp : VpOk (Tb (RE p p.n (Nat.lt_irrefl _)) (M0 p p.n)) (T0 p 0) (C3 40001 40003 ((.oi 43, 3) :: iR)) ((40003, .vec 20, 23) :: vW 10 10) := vpNum (n := p.n - p.g) (n' := p.cnt) (K := .i64) (e := fun m => ((3 * m : Nat) : Int)) (e' := fun m => ((3 * m : Nat) : Int)) (vW0 (n := p.n) (W := p.W) (W' := p.W)) rfl rfl rfl rfl rfl (fun _ _ => rfl)
  have hvp2 : VpOk (Tb (RE p p.n (Nat.lt_irrefl _)) (M0 p p.n)) (T0 p 0) (C3 40001 40003 ((.oi 43, 3) :: (.oi 4, 2) :: iR)) ((40003, .vec 20, 23) :: vW 10 10) := vpNum (n := p.n - p.g) (n' := p.cnt) (K := .i64) (e := fun m => ((3 * m : Nat) : Int)) (e' := fun m => ((3 * m : Nat) : Int)) (vW0 (n := p.n) (W := p.W) (W' := p.W)) rfl rfl rfl rfl rfl (fun _ _ => rfl)
  unfold SZ tE
  by_cases hg : p.g = 0
  · rw [if_pos hg]
    exact runTo_sound (T := Tb (RE p p.n (Nat.lt_irrefl _)) (M0 p p.n)) (T' := T0 p 0) mixed hNo (C := C3 40001 40003 ((.oi 43, 3) :: (.oi 4, 2) :: iR)) (ex := .exit 6) hb (show 40000 ≤ 40004 by decide) (rl := rl3 40001 40003) rfl (by kernel_rfl) (ipE (q := (.i64, (p.cnt : Int))) (ipZ (a := ((3 * p.cnt : Nat) : Int)) (b := ((3 * p.n : Nat) : Int)) (q := .i64) (ipM (ipE (ipE (ipE (ipM ipNil))))) rfl rfl (by unfold Pc.cnt; omega)) rfl rfl) hvp2 glL (gY2 p p.n _) (St.same (Tb.same _ _ _ _) s)
  · rw [if_neg hg]
    exact runTo_sound (T := Tb (RE p p.n (Nat.lt_irrefl _)) (M0 p p.n)) (T' := T0 p 0) mixed hNo (C := C3 40001 40003 ((.oi 43, 3) :: iR)) (ex := .exit 6) hb (show 40000 ≤ 40004 by decide) (rl := rl3 40001 40003) rfl (by kernel_rfl) (ipE (q := (.i64, (p.cnt : Int))) (ipM (ipE (ipE (ipE (ipM ipNil))))) rfl rfl) hvp glL (gY1 p p.n _) (St.same (Tb.same _ _ _ _) s)
theorem jRounds1 (hb : Base B μ 40000) : ∀ (j : Nat) (p : Pc) (k : Nat) (a : Act) (w : World), Ok p → k + j = p.n + 1 → k ≤ p.n → p.g ≤ k → SJ1 p k B w0 μ a w → Code.rounds Tryz.prog s7L (fun e a w => e = .exit 6 ∧ ∃ W, SZ { p with W := W } B w0 μ a w) j a w := by
  intro j
  induction j with
  | zero => intro p k a w h h1 h2 hg s; omega
  | succ j ih =>
    intro p k a w h h1 h2 hg s
    by_cases hk : k < p.n
    · refine rounds_of (wp_mono (jMore h hb hk hg s) ?_)
      rintro e a' w' ⟨rfl, s'⟩
      exact ih { p with W := mvd p k } (k + 1) a' w' ⟨h.n1, h.n6, h.f1, h.g1⟩ (by show k + 1 + j = p.n + 1; omega) (by show k + 1 ≤ p.n; omega) (by show p.g ≤ k + 1; omega) s'
    · obtain rfl : k = p.n := by omega
      refine rounds_of (wp_mono (jExit hb s) ?_)
      rintro e a' w' ⟨rfl, s'⟩
      exact ⟨rfl, p.W, s'⟩
theorem jRounds0 (hb : Base B μ 40000) (h : Ok p) : ∀ (j k : Nat) (a : Act) (w : World), k + j = p.n + 1 → k ≤ p.g → SJ0 p k B w0 μ a w → Code.rounds Tryz.prog s7L (fun e a w => e = .exit 6 ∧ ∃ W, SZ { p with W := W } B w0 μ a w) j a w := by
  intro j
  induction j with
  | zero => intro k a w h1 h2 s; have := h.g2; omega
  | succ j ih =>
    intro k a w h1 h2 s
    by_cases hk : k < p.g
    · refine rounds_of (wp_mono (jGone h hb hk s) ?_)
      rintro e a' w' ⟨rfl, s'⟩
      exact ih (k + 1) a' w' (by omega) (by omega) s'
    · have hk : k = p.g := by omega
      refine rounds_of (wp_mono (jFirst h hb hk s) ?_)
      rintro e a' w' ⟨rfl, s'⟩
      have := h.g2
      exact jRounds1 hb j { p with W := mvd p k } (k + 1) a' w' ⟨h.n1, h.n6, h.f1, h.g1⟩ (by show k + 1 + j = p.n + 1; omega) (by show k + 1 ≤ p.n; omega) (by show p.g ≤ k + 1; omega) s'
end
end Go.Proofs.YtbabfeloandpdaaGreatDoor.cc
