/-
  The law ProfileMerge: what is there by name, tables.
-/
import Derived.Test.YtnenjcehicaobaaPGG
import Derived.Test.YtnenjcehicaobaaPFX
set_option linter.unusedVariables false
set_option linter.unusedSimpArgs false
set_option linter.unusedSectionVars false
set_option maxRecDepth 1000000
set_option maxHeartbeats 0
namespace Go.Proofs.Ytnenjcehicaobaa.pf
open Go.X Go.RowKit Go.Proofs
/-- rows of counts as they come in; where one is; the maps; the lists so far; what comes out -/
structure Lm where
  n : Nat
  a : Nat × Nat
  c : Nat
  rk : Nat → Value
  ra : Nat → Nat × Nat
  rc : Nat → Nat
  rn : Nat → Nat
  e : Nat → Nat → Int
  i : Nat
  j : Nat
  t : Nat
  E0 : List En × Nat
  E1 : List En × Nat
  E2 : List En × Nat
  E3 : List En × Nat
  G : Gi
  M : Nat
  K : Int
  o : Nat
  R : Nat → Row
def K2 (i j : Nat) : ByteArray := ⟨⟨[UInt8.ofNat (97 + i), UInt8.ofNat (97 + j)]⟩⟩
abbrev iv1M (p : Lm) : Nat → IntKind × Int
  | 0 => (.i64, (p.n : Int))
  | 2 => (.i64, (p.i : Int))
  | 3 => (.i64, ((p.i + 1 : Nat) : Int))
  | 4 => (.i64, (p.rn p.i : Int))
  | 5 => (.i64, (p.j : Int))
  | 6 => (.i64, ((p.j + 1 : Nat) : Int))
  | 7 => (.i64, ((97 + p.i : Nat) : Int))
  | 8 => (.u8, ((97 + p.i : Nat) : Int))
  | 9 => (.i64, ((97 + p.j : Nat) : Int))
  | 10 => (.u8, ((97 + p.j : Nat) : Int))
  | 11 => (.i64, p.e p.i p.j)
  | 12 => (.i64, (p.t : Int))
  | 13 => (.i64, ((p.t + 1 : Nat) : Int))
  | 24 => (.i64, (p.M : Int))
  | 26 => (.i64, ((p.M + 1 : Nat) : Int))
  | 30 => (.i64, (p.o : Int))
  | 40 => (.i64, p.K)
  | _ => (.i64, 0)
abbrev ivM (p : Lm) : Nat → IntKind × Int := fun k => bif Nat.blt k 1000 then iv1M p k else if (k - 1000) % 3 = 2 then (.i64, (p.R ((k - 1000) / 3)).2) else (.i64, (p.G.row ((k - 1000) / 3)).2)
abbrev strM (p : Lm) : Nat → ByteArray := fun k => if k % 2 = 1 then (p.R (k / 2)).1 else bif Nat.blt k 100 then K2 p.i p.j else (p.G.row ((k - 100) / 2)).1
abbrev rvM (p : Lm) : Nat → Value := fun k => bif Nat.blt k 10 then p.rk p.i else if (k - 10) % 2 = 0 then p.G.rv ((k - 10) / 2) else p.rk ((k - 10) / 2)
noncomputable abbrev NmM (p : Lm) : Nms := ⟨ivM p, strM p, rvM p⟩
def cm : Nat → AV := fun m => .rw (2 * m + 10)
def cm1 (M : Nat) : Nat → AV := fun m => if m = M then .ov 20003 30 2 else .rw (2 * m + 10)
def cm2 (M : Nat) : Nat → AV := fun m => if m = M then .ov 18004 30 2 else .rw (2 * m + 10)
def cm0 (M : Nat) : Nat → AV := fun m => if m = M then .nils else .rw (2 * m + 10)
abbrev vnM (p : Lm) : Nat → Nat
  | 24 => p.M
  | 25 => p.M + 1
  | 27 => p.M + 1
  | 28 => p.M + 1
  | 30 => 2 * p.o
  | _ => 0
abbrev vcM (p : Lm) : Nat → Nat → AV
  | 24 => cm
  | 25 => cm1 p.M
  | 27 => cm0 p.M
  | 28 => cm2 p.M
  | _ => co
abbrev vvM (p : Lm) : Nat → Nat → Option AV := fun i => celV (vnM p i) (vcM p i)
theorem vvMp (p : Lm) : ∀ i m a, vvM p i m = some a → vplain a = true := fun i m a h => by
  obtain ⟨_, rfl⟩ := celV_some h
  have h1 : vplain (co m) = true := by unfold co; split <;> rfl
  have h2 : ∀ M, vplain (cm1 M m) = true := fun M => by unfold cm1; split <;> rfl
  have h3 : ∀ M, vplain (cm0 M m) = true := fun M => by unfold cm0; split <;> rfl
  have h4 : ∀ M, vplain (cm2 M m) = true := fun M => by unfold cm2; split <;> rfl
  unfold vcM
  split <;> first | exact h1 | exact h4 _ | exact h2 _ | exact h3 _ | rfl
def fvM (p : Lm) : Nat → Nat → Option AV := fun k => if k = 0 then celV p.n (fun m => .rw (2 * m + 11)) else if k = 1 then numV .i64 (p.rn p.i) (p.e p.i) else if 10 ≤ k ∧ k % 2 = 1 then (if (k - 10) / 2 < p.n then numV .i64 (p.rn ((k - 10) / 2)) (p.e ((k - 10) / 2)) else fun _ => none) else if 10 ≤ k then (fun m => if 0 < p.G.len ((k - 10) / 2) then (match m with
  | 0 => some (.ostr (100 + 2 * ((k - 10) / 2)))
  | 1 => some (.oi (1000 + 3 * ((k - 10) / 2)))
  | _ => none) else none) else fun _ => none
def fbM (p : Lm) : Nat → Nat × Nat := fun k => if k = 0 then p.a else if k = 1 then p.ra p.i else if k % 2 = 1 then p.ra ((k - 10) / 2) else p.G.adr ((k - 10) / 2)
def fcM (p : Lm) : Nat → Nat := fun k => if k = 0 then p.c else if k = 1 then p.rc p.i else if k % 2 = 1 then p.rc ((k - 10) / 2) else p.G.cap ((k - 10) / 2)
abbrev mmM (p : Lm) : Nat → List En × Nat
  | 0 => p.E0
  | 1 => p.E1
  | 2 => p.E2
  | _ => p.E3
noncomputable abbrev M0 (p : Lm) : Tab := tabG (NmM p) (vvM p) (vnM p) (vvMp p) (fbM p) (fcM p) (fvM p) (fun _ _ => none) (mmM p) (fun _ => (0, [], 0))
theorem blt_false {a b : Nat} (h : b ≤ a) : Nat.blt a b = false := by
  rw [Bool.eq_false_iff]
  intro c
  have := Nat.le_of_ble_eq_true c
  omega
theorem strM_g (p : Lm) (e : Nat) : strM p (100 + 2 * e) = (p.G.row e).1 := by
  unfold strM
  rw [if_neg (by omega), blt_false (by omega), cond_false, show (100 + 2 * e - 100) / 2 = e by omega]
theorem strM_R (p : Lm) (m : Nat) : strM p (2 * m + 1) = (p.R m).1 := by
  unfold strM
  rw [if_pos (by omega), show (2 * m + 1) / 2 = m by omega]
theorem ivM_g (p : Lm) (e : Nat) : ivM p (1000 + 3 * e) = (.i64, (p.G.row e).2) := by
  unfold ivM
  rw [blt_false (by omega), cond_false, if_neg (by omega), show (1000 + 3 * e - 1000) / 3 = e by omega]
theorem ivM_R (p : Lm) (m : Nat) : ivM p (1002 + 3 * m) = (.i64, (p.R m).2) := by
  unfold ivM
  rw [blt_false (by omega), cond_false, if_pos (by omega), show (1002 + 3 * m - 1000) / 3 = m by omega]
theorem rvM_g (p : Lm) (e : Nat) : rvM p (2 * e + 10) = p.G.rv e := by
  unfold rvM
  rw [blt_false (by omega), cond_false, if_pos (by omega), show (2 * e + 10 - 10) / 2 = e by omega]
theorem rvM_r (p : Lm) (x : Nat) : rvM p (2 * x + 11) = p.rk x := by
  unfold rvM
  rw [blt_false (by omega), cond_false, if_neg (by omega), show (2 * x + 11 - 10) / 2 = x by omega]
/-- what lies in memory as it came in -/
structure CW (p : Lm) (B : Kp) (w : World) : Prop where
  o : ∀ m, m < p.n → B.kept p.a.1 ∧ w.cell? ⟨p.a.1, p.a.2 + m, none⟩ = some (p.rk m) ∧ oneV (p.rk m) = true
  r : ∀ x, x < p.n → ∀ m, m < p.rn x → B.kept (p.ra x).1 ∧ w.cell? ⟨(p.ra x).1, (p.ra x).2 + m, none⟩ = some (.int .i64 (p.e x m))
theorem fvM_0 (p : Lm) : fvM p 0 = celV p.n (fun m => .rw (2 * m + 11)) := if_pos rfl
theorem fvM_1 (p : Lm) : fvM p 1 = numV .i64 (p.rn p.i) (p.e p.i) := by unfold fvM; rw [if_neg (by decide), if_pos rfl]
theorem cw_gl {p : Lm} {B : Kp} {w : World} (hi : p.i < p.n ∨ p.rn p.i = 0) (h : CW p B w) (g : GW p.G B w) : @Gl (M0 p) B w := by
  refine ⟨fun x o a hg => (nomatch hg), fun k m a hg => ?_⟩
  have hg : fvM p k m = some a := hg
  show B.kept (fbM p k).1 ∧ ∃ v, w.cell? ⟨(fbM p k).1, (fbM p k).2 + m, none⟩ = some v ∧ _
  unfold fvM at hg
  unfold fbM
  by_cases c0 : k = 0
  · rw [if_pos c0] at hg ⊢
    obtain ⟨hm, rfl⟩ := celV_some hg
    obtain ⟨h1, h2, h3⟩ := h.o m hm
    refine ⟨h1, _, h2, ?_⟩
    exact vrw (T := M0 p) (rvM_r p m).symm h3
  · rw [if_neg c0] at hg ⊢
    by_cases c1 : k = 1
    · rw [if_pos c1] at hg ⊢
      obtain ⟨hm, rfl⟩ := numV_some hg
      rcases hi with hi | hi
      · obtain ⟨h1, h2⟩ := h.r p.i hi m hm
        exact ⟨h1, _, h2, by simp only [vrel]⟩
      · omega
    · rw [if_neg c1] at hg ⊢
      by_cases c2 : 10 ≤ k ∧ k % 2 = 1
      · rw [if_pos c2] at hg
        rw [if_pos c2.2]
        split at hg
        · rename_i c3
          obtain ⟨hm, rfl⟩ := numV_some hg
          obtain ⟨h1, h2⟩ := h.r _ c3 m hm
          exact ⟨h1, _, h2, by simp only [vrel]⟩
        · cases hg
      · rw [if_neg c2] at hg
        by_cases c3 : 10 ≤ k
        · rw [if_pos c3] at hg
          rw [if_neg (by omega)]
          split at hg
          · rename_i c4
            obtain ⟨h1, h2, h3⟩ := g _ c4
            match m, hg with
            | 0, hg =>
              cases hg
              refine ⟨h1, _, h2, ?_⟩
              simp only [vrel]
              show Value.string _ = Value.string (strM p (100 + 2 * ((k - 10) / 2)))
              rw [strM_g]
            | 1, hg =>
              cases hg
              refine ⟨h1, _, h3, ?_⟩
              simp only [vrel]
              show Value.int _ _ = Value.int (ivM p (1000 + 3 * ((k - 10) / 2))).1 (ivM p (1000 + 3 * ((k - 10) / 2))).2
              rw [ivM_g]
            | (m + 2), hg => cases hg
          · cases hg
        · rw [if_neg c3] at hg; cases hg
theorem gl_cw {p : Lm} {B : Kp} {w : World} (h : @Gl (M0 p) B w) : CW p B w ∧ GW p.G B w := by
  refine ⟨⟨fun m hm => ?_, fun x hx m hm => ?_⟩, fun e he => ?_⟩
  · obtain ⟨h1, v, h2, h3⟩ := h.2 0 m (.rw (2 * m + 11)) (by show fvM p 0 m = _; rw [fvM_0]; exact celV_lt hm)
    have e0 : (M0 p).fb 0 = p.a := by show fbM p 0 = _; exact if_pos rfl
    rw [e0] at h1 h2
    simp only [vrel] at h3
    have h3 : v = rvM p (2 * m + 11) ∧ oneV v = true := h3
    rw [rvM_r] at h3
    exact ⟨h1, by rw [h2, h3.1], by rw [← h3.1]; exact h3.2⟩
  · have ef : fvM p (2 * x + 11) = numV .i64 (p.rn x) (p.e x) := by
      unfold fvM
      rw [if_neg (by omega), if_neg (by omega), if_pos (by omega), show (2 * x + 11 - 10) / 2 = x by omega, if_pos hx]
    obtain ⟨h1, v, h2, h3⟩ := h.2 (2 * x + 11) m (.int .i64 (p.e x m)) (by show fvM p (2 * x + 11) m = _; rw [ef]; unfold numV; rw [if_pos hm])
    have e0 : (M0 p).fb (2 * x + 11) = p.ra x := by
      show fbM p (2 * x + 11) = _
      unfold fbM
      rw [if_neg (by omega), if_neg (by omega), if_pos (by omega), show (2 * x + 11 - 10) / 2 = x by omega]
    rw [e0] at h1 h2
    simp only [vrel] at h3
    exact ⟨h1, by rw [h2, h3]⟩
  · have ef : ∀ m, fvM p (2 * e + 10) m = (match m with
        | 0 => some (.ostr (100 + 2 * e))
        | 1 => some (.oi (1000 + 3 * e))
        | _ => none) := fun m => by
      unfold fvM
      rw [if_neg (by omega), if_neg (by omega), if_neg (by omega), if_pos (by omega), show (2 * e + 10 - 10) / 2 = e by omega, if_pos he]
    have e0 : (M0 p).fb (2 * e + 10) = p.G.adr e := by
      show fbM p (2 * e + 10) = _
      unfold fbM
      rw [if_neg (by omega), if_neg (by omega), if_neg (by omega), show (2 * e + 10 - 10) / 2 = e by omega]
    obtain ⟨h1, v, h2, h3⟩ := h.2 (2 * e + 10) 0 (.ostr (100 + 2 * e)) (by show fvM p (2 * e + 10) 0 = _; rw [ef]; rfl)
    obtain ⟨h4, v', h5, h6⟩ := h.2 (2 * e + 10) 1 (.oi (1000 + 3 * e)) (by show fvM p (2 * e + 10) 1 = _; rw [ef]; rfl)
    rw [e0] at h1 h2 h5
    simp only [vrel] at h3 h6
    have h3 : v = .string (strM p (100 + 2 * e)) := h3
    have h6 : v' = .int (ivM p (1000 + 3 * e)).1 (ivM p (1000 + 3 * e)).2 := h6
    rw [strM_g] at h3
    rw [ivM_g] at h6
    exact ⟨h1, by rw [← h3]; exact h2, h5.trans (by rw [h6])⟩
structure Rq (p : Lm) where
  ib : List BRow := []
  ibok : ∀ r ∈ ib, IbOk (ivM p) r := by exact fun _ h => nomatch h
  ic : List (IntKind × AV × AV) := []
  icok : ∀ r ∈ ic, ∃ k n, denI (ivM p) r.2.1 = some (k, n) ∧ denI (ivM p) r.2.2 = some (r.1, r.1.wrap n) := by exact fun _ h => nomatch h
  va : List VA := []
  vaok : ∀ r ∈ va, VaT (NmM p) (vvM p) (vnM p) r := by exact fun _ h => nomatch h
  fl : List VL := []
  flok : ∀ r ∈ fl, isLen (ivM p r.k) ∧ ∀ m b, r.l[m]? = some b → ∃ a, fvM p r.i ((ivM p r.k).2.toNat * r.z + r.f + m) = some a ∧ sameT (strM p) (rvM p) (ivM p) a b := by exact fun _ h => nomatch h
  tr : List (Nat × List AV × AV) := []
  trok : ∀ r ∈ tr, TrOk (strM p) (ivM p) r.1 r.2.1 r.2.2 := by exact fun _ h => nomatch h
  rl : List (Nat × AV) := []
  rlok : ∀ r ∈ rl, ∃ b n c, rvM p r.1 = .slice b n c ∧ denI (ivM p) r.2 = some (.i64, ((n : Nat) : Int)) := by exact fun _ h => nomatch h
  rf : List (Nat × Nat × Nat × Nat) := []
  rfok : ∀ r ∈ rf, isLen (ivM p r.2.2.1) ∧ (ivM p r.2.2.1).2.toNat ≤ fcM p r.2.1 ∧ rvM p r.1 = .slice (some ⟨(fbM p r.2.1).1, (fbM p r.2.1).2, none⟩) (ivM p r.2.2.1).2.toNat (fcM p r.2.1) := by exact fun _ h => nomatch h
  mu : List (Nat × AV × AV × Nat) := []
  muok : ∀ r ∈ mu, ∃ k n, denK (strM p) (ivM p) r.2.1 k ∧ (∀ e ∈ (mmM p r.1).1, e.1.txt = k.txt) ∧ denI (ivM p) r.2.2.1 = some (.i64, n) ∧ mmM p r.2.2.2 = mapU (mmM p r.1) k n := by exact fun _ h => nomatch h
noncomputable abbrev Rq.T {p : Lm} (R : Rq p) : Tab := { M0 p with
  ib := R.ib
  ibok := R.ibok
  ic := R.ic
  icok := R.icok
  va := R.va
  vaok := R.vaok
  fl := R.fl
  flok := R.flok
  tr := R.tr
  trok := R.trok
  rl := R.rl
  rlok := R.rlok
  rf := R.rf
  rfok := R.rfok
  mu := R.mu
  muok := R.muok }
theorem Rq.same {p : Lm} (R : Rq p) : SameTab (M0 p) R.T := ⟨⟨rfl, rfl, rfl, rfl, rfl, rfl, rfl, rfl, rfl⟩, rfl, rfl⟩
end Go.Proofs.Ytnenjcehicaobaa.pf
