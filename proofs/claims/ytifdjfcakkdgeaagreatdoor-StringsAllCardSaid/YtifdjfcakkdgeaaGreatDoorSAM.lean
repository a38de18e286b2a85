/-
  The law StringsAll: tables and hands of a round.
-/
import Derived.Test.YtifdjfcakkdgeaaGreatDoorSAL
set_option linter.unusedVariables false
set_option linter.unusedSimpArgs false
set_option linter.unusedSectionVars false
set_option maxRecDepth 1000000
set_option maxHeartbeats 0
namespace Go.Proofs.YtifdjfcakkdgeaaGreatDoor.sa
open Go.X Go.RowKit Go.Proofs
/- keys differ with the texts -/
theorem encC_inj {c d : Int} (c0 : 0 ≤ c) (c1 : c < 65536) (d0 : 0 ≤ d) (d1 : d < 65536) {l m : List Int} (h : encC c ++ l = encC d ++ m) : c = d ∧ l = m := by
  by_cases a : 0 < c ∧ c < 128
  · rw [encA a] at h
    by_cases b : 0 < d ∧ d < 128
    · rw [encA b] at h
      simp at h; exact h
    · by_cases b2 : d < 2048
      · rw [encB b b2] at h; simp at h; omega
      · rw [encD b b2] at h; simp at h; omega
  · by_cases a2 : c < 2048
    · rw [encB a a2] at h
      by_cases b : 0 < d ∧ d < 128
      · rw [encA b] at h; simp at h; omega
      · by_cases b2 : d < 2048
        · rw [encB b b2] at h; simp at h
          obtain ⟨h1, h2, h3⟩ := h
          exact ⟨by omega, h3⟩
        · rw [encD b b2] at h; simp at h; omega
    · rw [encD a a2] at h
      by_cases b : 0 < d ∧ d < 128
      · rw [encA b] at h; simp at h; omega
      · by_cases b2 : d < 2048
        · rw [encB b b2] at h; simp at h; omega
        · rw [encD b b2] at h; simp at h
          obtain ⟨h1, h2, h3, h4⟩ := h
          exact ⟨by omega, h4⟩
theorem encL_front (f : Nat → Int) : ∀ k, encL f (k + 1) = encC (f 0) ++ encL (fun m => f (m + 1)) k
  | 0 => by show [] ++ encC (f 0) = encC (f 0) ++ []; simp
  | k + 1 => by
    show encL f (k + 1) ++ encC (f (k + 1)) = encC (f 0) ++ (encL (fun m => f (m + 1)) k ++ encC (f (k + 1)))
    rw [encL_front f k, List.append_assoc]
theorem encL_inj : ∀ (n m : Nat) (f g : Nat → Int), (∀ k, 0 ≤ f k ∧ f k < 65536) → (∀ k, 0 ≤ g k ∧ g k < 65536) → encL f n = encL g m → n = m ∧ ∀ k, k < n → f k = g k
  | 0, 0, f, g, _, _, _ => ⟨rfl, fun k h => absurd h (Nat.not_lt_zero k)⟩
  | 0, m + 1, f, g, hf, hg, h => by
    rw [encL_front g m] at h
    have := congrArg List.length h
    rw [List.length_append, show (encL f 0).length = 0 from rfl] at this
    have h2 := (encC_len (g 0)).1
    omega
  | n + 1, 0, f, g, hf, hg, h => by
    rw [encL_front f n] at h
    have := congrArg List.length h
    rw [List.length_append, show (encL g 0).length = 0 from rfl] at this
    have h2 := (encC_len (f 0)).1
    omega
  | n + 1, m + 1, f, g, hf, hg, h => by
    rw [encL_front f n, encL_front g m] at h
    obtain ⟨h1, h2⟩ := encC_inj (hf 0).1 (hf 0).2 (hg 0).1 (hg 0).2 h
    obtain ⟨h3, h4⟩ := encL_inj n m _ _ (fun k => hf (k + 1)) (fun k => hg (k + 1)) h2
    refine ⟨by omega, fun k hk => ?_⟩
    match k with
    | 0 => exact h1
    | k + 1 => exact h4 k (by omega)
theorem encL_eq {f g : Nat → Int} : ∀ n, (∀ k, k < n → f k = g k) → encL f n = encL g n
  | 0, _ => rfl
  | n + 1, h => by show encL f n ++ encC (f n) = encL g n ++ encC (g n); rw [encL_eq n fun k hk => h k (by omega), h n (by omega)]
theorem key_iff {e e' : El} (o : ElOk e) (o' : ElOk e') : keyE e = keyE e' ↔ sameT e e' := by
  constructor
  · intro h
    exact encL_inj e.la e'.la e.A e'.A o.hA o'.hA (bytesI_inj (encL_b (fun m => (o.hA m).1) (fun m => (o.hA m).2) _) (encL_b (fun m => (o'.hA m).1) (fun m => (o'.hA m).2) _) h)
  · rintro ⟨e1, e2⟩
    show bytesI (encL e.A e.la) = bytesI (encL e'.A e'.la)
    rw [← e1, encL_eq e.la e2]
/- what is known in a round -/
structure Rd (p : Pm) (m k : Nat) (s : Bool) : Prop where
  ar : Ar p
  ok : ElOk p.e
  oq : ∀ j, j < m → ElOk (p.q j)
  hs : ∀ j, j < m → (sameT (p.q j) p.e ↔ j = k)
  zz : s = true ↔ p.la = 0
  il : p.i < p.lu
  i15 : p.i < 15
  ul : p.lu < 9223372036854775808
  ad : ∀ j, j < m → 1 ≤ p.adr j
  zt : m = 0 → p.tot = 0
  m99 : m ≤ 15
theorem Rd.hf {p : Pm} {m k : Nat} {s : Bool} (h : Rd p m k s) : p.t1 ≤ 2048 := by
  have h1 := h.ar.t2; have h2 := wd_le h.ar.a60
  show p.tot + wd p.la ≤ 2048; omega
section
variable {p : Pm} {k0 : Nat}
theorem iv200 (j : Nat) : ivP p k0 (Nat.add 200 j) = (.i64, ((p.adr j : Nat) : Int)) := by
  show ivP p k0 (200 + j) = _
  unfold ivP
  split <;> first | (rename_i h; omega) | skip
  rename_i n _ _ _ _ _ _ _ _ _ _ _ _ _ _ _ _ _ _ _ _ _ _ _ _ _ _ _ _ _ _ _ _ _ _ _ _ _ _ _ _
  rw [if_pos (by omega), Nat.add_sub_cancel_left]
theorem rowsE_ok : ∀ m, (∀ j, j < m → 1 ≤ p.adr j) → ∀ r ∈ rowsE m, IbOk (ivP p k0) r
  | 0, _ => ibNil
  | m + 1, h => by
    have h1 := h m (Nat.lt_succ_self m)
    have e := iv200 (p := p) (k0 := k0) m
    have d : denI (ivP p k0) (.oi (Nat.add 200 m)) = some (.i64, ((p.adr m : Nat) : Int)) := by show some (ivP p k0 (Nat.add 200 m)) = _; rw [e]
    exact rNe (hx := d) (hy := d) (h := by simp) (rNe (hx := d) (hy := rfl) (h := decide_eq_false (by omega)) (rowsE_ok m fun j hj => h j (by omega)))
theorem rowsR_ok {m k : Nat} {s : Bool} (h : Rd p m k s) : ∀ r ∈ rowsR m, IbOk (ivP p k0) r := by
  have h1 := h.il; have h2 := h.i15; have h3 := t1_gt p; have h4 := h.ar.t2; have h5 := h.ul
  exact catR (rLt (rGe (rLt (rAdd (rSub (rLt (rGe (rNe (h := by simp) ibNil)))))))) (rowsE_ok m h.ad)
theorem rowsK_ok {m k : Nat} {s : Bool} (h : Rd p m k s) : ∀ n, n ≤ m → ∀ r ∈ rowsK n k, TrOk (stP p) (ivP p k0) r.1 r.2.1 r.2.2
  | 0, _ => txNil
  | n + 1, hn => by
    refine txCons (tr4 (a := keyE p.e) (b := keyE (p.q n)) rfl (by
      have := h.m99
      show some (if n = 99 then keyE p.e else keyE (p.q n)) = _
      rw [if_neg (by omega)]) ?_) (rowsK_ok h n (by omega))
    have e := h.hs n (by omega)
    constructor
    · intro hb
      have := Nat.eq_of_beq_eq_true hb
      exact ((key_iff (h.oq n (by omega)) h.ok).2 (e.2 this)).symm
    · intro hk
      have := e.1 ((key_iff (h.oq n (by omega)) h.ok).1 hk.symm)
      rw [this]; exact Nat.beq_refl k
end
noncomputable abbrev txR (p : Pm) (m k : Nat) (s : Bool) (h : Rd p m k s) : Txts (ivP p 0) where
  str := stP p
  tr := rowsK m k
  trok := rowsK_ok h m (Nat.le_refl _)
theorem rwFl {p : Pm} {m k : Nat} {s : Bool} (h : Rd p m k s) : ∀ r ∈ ([⟨0, 14, 1, 0, [.rw 0]⟩] : List VL), FlOk (ivP p 0) (fgP p) r := by
  refine allCons ⟨⟨rfl, Int.natCast_nonneg _⟩, fun m b hb => ?_⟩ allNil
  have hm : m = 0 := by have := (List.getElem?_eq_some_iff.1 hb).1; simpa using this
  subst hm
  cases hb
  refine ⟨.rw 0, ?_, .inl rfl⟩
  show (if ((p.i : Nat) : Int).toNat * 1 + 0 + 0 = p.i ∧ p.i < p.lu then some (AV.rw 0) else none) = _
  rw [if_pos ⟨by simp, h.il⟩]
noncomputable abbrev RL (p : Pm) (m k : Nat) (s : Bool) (h : Rd p m k s) : Rw (ivP p 0) (vvP p 0) (vkP p 0) (fgP p) (txR p m k s h) where
  vvp := vvPp p 0
  ib := rowsR m
  ibok := rowsR_ok h
  vl := [⟨3, 1, 1, 0, [.int .u64 0]⟩]
  vlok := by
    have h1 := t1_gt p
    exact Go.X.lC (n := p.t1) (q := p.tot) (e := fun m => wI (p.w p.la m)) allNil (hy := w_0 p p.la)
  fl := [⟨0, 14, 1, 0, [.rw 0]⟩]
  flok := rwFl h
theorem KL_ok {p : Pm} {T : Tab} {m k : Nat} {s : Bool} (h : Rd p m k s) (e : SameTab (TP p) T) : @HandOk T Tryz.prog (KL m k s) := by
  letI := T
  have hf := h.hf
  refine HandOk.or (cutH_ok e h.ok) (HandOk.or (sameH_ok e h.ok h.oq h.hs) (HandOk.or (encH_ok e h.ok h.zz) (HandOk.or ?_ (HandOk.or ?_ (KB_ok (k := 0) h.ar e)))))
  · match m with
    | 0 => exact inHand_ok (InOk.tab e (tu0 h.ok h.ar hf (h.zt rfl))) (by kernel_rfl)
    | m + 1 => exact inHand_ok (InOk.tab e (tu1 h.ok h.ar hf)) (by kernel_rfl)
  · match m with
    | 0 => exact inHand_ok (InOk.tab e (cu0 h.zz h.ar hf)) (by cases s <;> kernel_rfl)
    | m + 1 => exact inHand_ok (InOk.tab e (cu1 h.zz h.ar hf)) (by cases s <;> kernel_rfl)
/- how a state is told again -/
noncomputable def ipM (m : Nat) : IP := Nat.rec [] (fun j ih => (.oi (Nat.add 200 j), Nat.add 200 j) :: (.ostr j, j) :: (.rw (Nat.add 300 j), Nat.add 300 j) :: ih) m
noncomputable abbrev ipB : IP := [(.fo 0 15 1, 0), (.oi 30, 30), (.oi 15, 15), (.oi 18, 14), (.oi 3, 1), (.oi 7, 2)]
noncomputable def ipN (m : Nat) : IP := [(.oi 4, Nat.add 200 m), (.ostr 99, m), (.rw 1, Nat.add 300 m)]
/-- the same text again -/
noncomputable def rlO (m : Nat) : List (Nat × Nat) := [(20001, 20011), (20002, 20012), (20003, 20003), (20004, 20004), (20005, 20005), (20006, 20006)]
noncomputable def cvO (m : Nat) : Cv := ⟨20000, 20010, ofPairs (rlO m), ipB ++ ipM m⟩
def GO (m k : Nat) (s : Bool) : Prop := ∀ p h, runTo (Pt p (RL p m k s h)) Tryz.prog (KL m k s) 5000 Tryz.f3.ntmps lL (frOf (fsL' m)) (hL m) .normal (cvO m) [(20011, .vec 3, 0), (20012, .vec 4, 1)] (fsL' m) (bsL m 20011 20012 20003 20004 20005 20006) = true
/-- a new one -/
noncomputable def rlN (m : Nat) : List (Nat × Nat) := [(20001, 20011), (20002, 20012), (20003, hN (zOf m)), (20004, 20061), (20005, 20063), (20006, 20065)]
noncomputable def cvN (m : Nat) : Cv := ⟨20000, 20010, ofPairs (rlN m), ipB ++ (ipN m ++ ipM m)⟩
def GN (m : Nat) (s : Bool) : Prop := ∀ p h, runTo (Pt p (RL p m m s h)) Tryz.prog (KL m m s) 5000 Tryz.f3.ntmps lL (frOf (fsL' m)) (hL m) .normal (cvN m) [(20011, .vec 3, 0), (20012, .vec 4, 1)] (fsL' (Nat.succ m)) (bsL (Nat.succ m) 20011 20012 (hN (zOf m)) 20061 20063 20065) = true
end Go.Proofs.YtifdjfcakkdgeaaGreatDoor.sa
