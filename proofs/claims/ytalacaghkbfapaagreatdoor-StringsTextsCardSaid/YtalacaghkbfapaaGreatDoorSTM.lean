/-
  The law StringsTexts: its table, by the lengths of what comes in.
-/
import Derived.Test.YtalacaghkbfapaaGreatDoorSTE
import Derived.Test.YtalacaghkbfapaaGreatDoorXN4
set_option linter.unusedVariables false
set_option linter.unusedSimpArgs false
set_option linter.unusedSectionVars false
set_option maxRecDepth 1000000
set_option maxHeartbeats 0
namespace Go.Proofs.YtalacaghkbfapaaGreatDoor.stx
open Go.X Go.RowKit Go.Proofs
noncomputable def lnc (c : Nat) : Nat := Bool.rec (Nat.sub c 1) 40 (Nat.ble 40 (Nat.sub c 1))
noncomputable def lenOf (c : Nat) (x : Int) : Int := if c = 42 then x else (lnc c : Int)
/-- what comes in, and the number's chars -/
structure Pm where
  n : Int
  ln : Nat
  C : Nat → Int
  A : Nat → Int
  B : Nat → Int
  xa : Int
  xb : Int
  ba : Nat
  oa : Nat
  ca : Nat
  bb : Nat
  ob : Nat
  cb : Nat
structure Lng (p : Pm) : Prop where
  a0 : 40 < p.xa
  a1 : p.xa ≤ 9223372036854775807
  b0 : 40 < p.xb
  b1 : p.xb ≤ 9223372036854775807
noncomputable abbrev ivM (p : Pm) (c d : Nat) : Nat → IntKind × Int
  | 0 => (.i64, p.n)
  | 1 => (.i64, lenOf c p.xa)
  | 2 => (.i64, lenOf d p.xb)
  | 3 => (.i64, (p.ln : Int))
  | 4 => (.i64, 0)
  | 5 => (.i64, 40)
  | m + 6 => (.u16, if m % 3 = 0 then p.A (m / 3) else if m % 3 = 1 then p.B (m / 3) else p.C (m / 3))
theorem ivM_ge {p : Pm} {c d : Nat} : ∀ i, 6 ≤ i → (ivM p c d i).1 = .u16
  | 0, h => by omega
  | 1, h => by omega
  | 2, h => by omega
  | 3, h => by omega
  | 4, h => by omega
  | 5, h => by omega
  | m + 6, _ => rfl
abbrev vvM (p : Pm) : Nat → Nat → Option AV := fun i => match i with | 0 => numV .u16 p.ln p.C | _ => fun _ => none
theorem vvM_p {p : Pm} : ∀ i m a, vvM p i m = some a → vplain a = true := fun i m a h => by
  match i, h with
  | 0, h => obtain ⟨_, rfl⟩ := numV_some h; rfl
  | (i + 1), h => cases h
noncomputable abbrev fgM (p : Pm) (c d : Nat) : Fgn where
  fb := fun i => match i with | 0 => (p.ba, p.oa) | _ => (p.bb, p.ob)
  fcap := fun i => match i with | 0 => p.ca | _ => p.cb
  fv := fun i m => match i with | 0 => numV .u16 (lnc c) p.A m | 1 => numV .u16 (lnc d) p.B m | _ => none
noncomputable def rowsOf (j c : Nat) (l : List BRow) : List BRow := (13, .oi j, .int .i64 40, .bool (Nat.beq c 42)) :: Bool.rec l ((12, .oi 5, .oi j, .bool true) :: (14, .oi 5, .int .i64 0, .bool true) :: l) (Nat.beq c 42)
theorem lnc_le (c : Nat) : lnc c ≤ 40 := by
  unfold lnc
  cases h : Nat.ble 40 (Nat.sub c 1) with
  | false =>
    have : ¬ 40 ≤ c - 1 := fun e => by rw [show Nat.ble 40 (Nat.sub c 1) = true from Nat.ble_eq_true_of_le e] at h; cases h
    show c - 1 ≤ 40
    omega
  | true => exact Nat.le_refl 40
theorem lnc_is {c : Nat} (h : c ≤ 41) : lnc c = c - 1 := by
  unfold lnc
  cases h1 : Nat.ble 40 (Nat.sub c 1) with
  | false => rfl
  | true =>
    have : 40 ≤ c - 1 := Nat.le_of_ble_eq_true h1
    show 40 = c - 1
    omega
theorem rowsOf_ok {iv : Nat → IntKind × Int} {j c : Nat} {x : Int} (hj : iv j = (.i64, lenOf c x)) (h5 : iv 5 = (.i64, 40)) (h0 : 40 < x) {l : List BRow} (hl : ∀ r ∈ l, IbOk iv r) : ∀ r ∈ rowsOf j c l, IbOk iv r := by
  letI := Tab.empty
  have hd : denI iv (.oi j) = some (.i64, lenOf c x) := by show some (iv j) = _; rw [hj]
  have h5' : denI iv (.oi 5) = some (.i64, 40) := by show some (iv 5) = _; rw [h5]
  have hle := lnc_le c
  unfold rowsOf
  cases h : Nat.beq c 42 with
  | false =>
    have hne : c ≠ 42 := fun e => by rw [e] at h; exact absurd h (by decide)
    have e : lenOf c x = (lnc c : Int) := by unfold lenOf; rw [if_neg hne]
    exact ibCons (ibGt (a := lenOf c x) (b := 40) hd rfl (decide_eq_false (by omega))) hl
  | true =>
    have hne : c = 42 := Nat.eq_of_beq_eq_true h
    have e : lenOf c x = x := by unfold lenOf; rw [if_pos hne]
    exact ibCons (ibGt (a := lenOf c x) (b := 40) hd rfl (decide_eq_true (by omega))) (ibCons (ibLe (a := 40) (b := lenOf c x) h5' hd (decide_eq_true (by omega))) (ibCons (ibGe (a := 40) (b := 0) h5' rfl (decide_eq_true (by decide))) hl))
noncomputable def vcOf (j c : Nat) (l : List (Nat × Nat)) : List (Nat × Nat) := Bool.rec ((lnc c, j) :: l) l (Nat.beq c 42)
theorem vcOf_ok {iv : Nat → IntKind × Int} {j c : Nat} {x : Int} (hj : iv j = (.i64, lenOf c x)) {l : List (Nat × Nat)} (hl : ∀ p ∈ l, iv p.2 = (.i64, (p.1 : Int))) : ∀ p ∈ vcOf j c l, iv p.2 = (.i64, (p.1 : Int)) := by
  unfold vcOf
  cases h : Nat.beq c 42 with
  | false =>
    have hne : c ≠ 42 := fun e => by rw [e] at h; exact absurd h (by decide)
    refine allCons ?_ hl
    rw [hj]
    unfold lenOf
    rw [if_neg hne]
  | true => exact hl
noncomputable def cells (b k : Nat) : List AV := (List.range k).map fun t => .oi (b + 3 * t)
theorem fl_row {iv : Nat → IntKind × Int} {F : Fgn} {i b k : Nat} {e : Nat → Int} (h4 : iv 4 = (.i64, 0)) (hF : F.fv i = numV .u16 k e) (hb : ∀ t, iv (b + 3 * t) = (.u16, e t)) : FlOk iv F ⟨i, 4, 1, 0, cells b k⟩ := by
  refine flN (K := .u16) (k := 0) (A := k) (e := e) h4 hF (show 0 * 1 + 0 + (cells b k).length ≤ k by simp [cells]) fun m x hx => ?_
  have hm : m < k := by
    have := (List.getElem?_eq_some_iff.1 hx).1
    simpa [cells] using this
  have hx' : (cells b k)[m]? = some x := hx
  unfold cells at hx'
  rw [List.getElem?_map, List.getElem?_range hm] at hx'
  cases hx'
  show some (iv (b + 3 * m)) = some (.u16, e (0 * 1 + 0 + m))
  rw [hb, show 0 * 1 + 0 + m = m by omega]
noncomputable abbrev flM (c d : Nat) : List VL := [⟨0, 4, 1, 0, cells 6 (lnc c)⟩, ⟨1, 4, 1, 0, cells 7 (lnc d)⟩]
theorem ivA (p : Pm) (c d t : Nat) : ivM p c d (6 + 3 * t) = (.u16, p.A t) := by
  rw [show 6 + 3 * t = 3 * t + 6 by omega]
  show (IntKind.u16, if 3 * t % 3 = 0 then p.A (3 * t / 3) else if 3 * t % 3 = 1 then p.B (3 * t / 3) else p.C (3 * t / 3)) = _
  rw [if_pos (by omega), show 3 * t / 3 = t by omega]
theorem ivB (p : Pm) (c d t : Nat) : ivM p c d (7 + 3 * t) = (.u16, p.B t) := by
  rw [show 7 + 3 * t = (3 * t + 1) + 6 by omega]
  show (IntKind.u16, if (3 * t + 1) % 3 = 0 then p.A ((3 * t + 1) / 3) else if (3 * t + 1) % 3 = 1 then p.B ((3 * t + 1) / 3) else p.C ((3 * t + 1) / 3)) = _
  rw [if_neg (by omega), if_pos (by omega), show (3 * t + 1) / 3 = t by omega]
noncomputable abbrev RM (p : Pm) (c d : Nat) (h : Lng p) : VRows (ivM p c d) (vvM p) noK where
  vvp := vvM_p
  ib := rowsOf 1 c (rowsOf 2 d [])
  ibok := rowsOf_ok rfl rfl h.a0 (rowsOf_ok rfl rfl h.b0 ibNil)
  vc := (0, 4) :: (40, 5) :: vcOf 1 c (vcOf 2 d [])
  vcok := allCons rfl (allCons rfl (vcOf_ok (x := p.xa) rfl (vcOf_ok (x := p.xb) rfl (by exact fun _ h => nomatch h))))
noncomputable abbrev TM (p : Pm) (c d : Nat) (h : Lng p) : Tab :=
  { (RM p c d h).ftab (fgM p c d) (flM c d) (allCons (fl_row (e := p.A) rfl rfl (ivA p c d)) (allCons (fl_row (e := p.B) rfl rfl (ivB p c d)) (by exact fun _ h => nomatch h))) with gv := gvP }
/- hands -/
noncomputable def K1 : Hand := (oneHand 4 [] (.bool true)).or ((newHand 8 [.oi 0] (.vec 0) fun x => .ov x 3 1).or ((newHand 9 [.oi 0] (.vec 0) fun x => .ov x 3 1).or ((vecSame 0 3).or (rowSame 6))))
noncomputable def K2 : Hand := (oneHand 4 [] (.bool true)).or ((newHand 8 [.oi 0] (rowOf [.oi 8] true) fun x => .so x 0 1 1).or ((newHand 9 [.oi 0] (rowOf [.oi 8] true) fun x => .sl x 0 1 1).or (rowSame 6)))
noncomputable def argF (i j c : Nat) : AV := Bool.rec (.fo i j 1) .nils (Nat.beq c 0)
noncomputable def chk (T : Tab) (K : Hand) (c d : Nat) : Bool := okTrue (@call T Tryz.prog K 500 3 [.oi 0, argF 0 1 c, argF 1 2 d] H.empty)
noncomputable def allTo (f : Nat → Bool) (n : Nat) : Bool := Nat.rec (motive := fun _ => Bool) true (fun k ih => Bool.rec false ih (f k)) n
theorem allTo_at {f : Nat → Bool} : ∀ {n : Nat}, allTo f n = true → ∀ d, d < n → f d = true
  | 0, _, d, h => by omega
  | n + 1, e, d, h => by
    have e' : (@Bool.rec (fun _ => Bool) false (allTo f n) (f n)) = true := e
    cases h1 : f n with
    | false => rw [h1] at e'; cases e'
    | true =>
      rw [h1] at e'
      by_cases hd : d = n
      · rw [hd]; exact h1
      · exact allTo_at e' d (by omega)
def M1 (c : Nat) : Prop := ∀ (p : Pm) (h : Lng p), allTo (fun d => chk (TM p c d h) K1 c d) 43 = true
def M2 (c : Nat) : Prop := ∀ (p : Pm) (h : Lng p), allTo (fun d => chk (TM p c d h) K2 c d) 43 = true
end Go.Proofs.YtalacaghkbfapaaGreatDoor.stx
