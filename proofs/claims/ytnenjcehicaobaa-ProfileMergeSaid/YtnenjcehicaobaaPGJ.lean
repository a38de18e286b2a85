/-
  The law ProfileTop: what came out is looked at: loops' runs.
-/
import Derived.Test.YtnenjcehicaobaaPGI
set_option linter.unusedVariables false
set_option linter.unusedSimpArgs false
set_option linter.unusedSectionVars false
set_option maxRecDepth 1000000
set_option maxHeartbeats 0
namespace Go.Proofs.Ytnenjcehicaobaa.pf
open Go.X Go.RowKit Go.Proofs
section
variable {p : Lw}
theorem vlO {q k s c : Nat} (hk : ivL p k = (.i64, (q : Int))) (h : q < p.o) (hs : strL p s = (p.R q).1) (hc : ivL p c = (.i64, (p.R q).2)) {l : List VL} (t : ∀ r ∈ l, VlT (NmL p) (vvL p) r) : ∀ r ∈ (⟨30, k, 2, 0, [.ostr s, .oi c]⟩ : VL) :: (⟨30, k, 2, 0, [.ostr s]⟩ : VL) :: (⟨30, k, 2, 1, [.oi c]⟩ : VL) :: l, VlT (NmL p) (vvL p) r := by
  have il : isLen (ivL p k) := by rw [hk]; exact ⟨rfl, Int.natCast_nonneg _⟩
  have ek : (ivL p k).2.toNat = q := by rw [hk]; exact Int.toNat_natCast q
  have c0 : vvL p 30 (2 * q) = some (.ostr (2 * q + 1)) := by show celV (2 * p.o) co (2 * q) = _; rw [celV_lt (by omega), co_even]
  have c1 : vvL p 30 (2 * q + 1) = some (.oi (1002 + 3 * q)) := by show celV (2 * p.o) co (2 * q + 1) = _; rw [celV_lt (by omega), co_odd]
  have s0 : sameT (NmL p).str (NmL p).rv (NmL p).iv (.ostr (2 * q + 1)) (.ostr s) := sameS (s := (p.R q).1) (by show some (strL p (2 * q + 1)) = _; rw [strL_R]) (by show some (strL p s) = _; rw [hs])
  have s1 : sameT (NmL p).str (NmL p).rv (NmL p).iv (.oi (1002 + 3 * q)) (.oi c) := sameI (q := (.i64, (p.R q).2)) (by show some (ivL p (1002 + 3 * q)) = _; rw [ivL_R]) (by show some (ivL p c) = _; rw [hc])
  refine allCons ⟨il, fun m b hb => ?_⟩ (allCons ⟨il, fun m b hb => ?_⟩ (allCons ⟨il, fun m b hb => ?_⟩ t))
  · show ∃ a, vvL p 30 ((ivL p k).2.toNat * 2 + 0 + m) = some a ∧ _
    rw [ek]
    match m, hb with
    | 0, hb => cases hb; exact ⟨_, by rw [show q * 2 + 0 + 0 = 2 * q by omega]; exact c0, s0⟩
    | 1, hb => cases hb; exact ⟨_, by rw [show q * 2 + 0 + 1 = 2 * q + 1 by omega]; exact c1, s1⟩
    | (m + 2), hb => simp at hb
  · show ∃ a, vvL p 30 ((ivL p k).2.toNat * 2 + 0 + m) = some a ∧ _
    rw [ek]
    match m, hb with
    | 0, hb => cases hb; exact ⟨_, by rw [show q * 2 + 0 + 0 = 2 * q by omega]; exact c0, s0⟩
    | (m + 1), hb => simp at hb
  · show ∃ a, vvL p 30 ((ivL p k).2.toNat * 2 + 1 + m) = some a ∧ _
    rw [ek]
    match m, hb with
    | 0, hb => cases hb; exact ⟨_, by rw [show q * 2 + 1 + 0 = 2 * q + 1 by omega]; exact c1, s1⟩
    | (m + 1), hb => simp at hb
theorem rLtL (n m : Nat) {j k : Nat} {l : List BRow} (hj : ivL p j = (.i64, (n : Int))) (hk : ivL p k = (.i64, (m : Int))) (h : n < m) (t : ∀ r ∈ l, IbOk (ivL p) r) : ∀ r ∈ (11, .oi j, .oi k, .bool true) :: l, IbOk (ivL p) r :=
  rLt (a := (n : Int)) (b := (m : Int)) t (by show some (ivL p j) = _; rw [hj]) (by show some (ivL p k) = _; rw [hk]) (decide_eq_true (by omega))
theorem rGeL (n : Nat) {k : Nat} {l : List BRow} (h : ivL p k = (.i64, (n : Int))) (t : ∀ r ∈ l, IbOk (ivL p) r) : ∀ r ∈ (14, .oi k, .int .i64 0, .bool true) :: l, IbOk (ivL p) r :=
  rGe (a := (n : Int)) (b := 0) t (by show some (ivL p k) = _; rw [h]) (by exact rfl) (decide_eq_true (Int.natCast_nonneg n))
/- the j-th -/
structure Dj (p : Lw) : Prop where
  j : p.j < p.o
  o : p.o < 1000
  tx : ∀ e ∈ p.E.1, e.1.txt = true
  m : mapL (.s (p.R p.j).1) p.E.1 = some (p.R p.j).2
theorem mlD (h : Dj p) : ∀ r ∈ ([(0, .ostr 4, .oi 8, true)] : List (Nat × AV × AV × Bool)), ∃ k, denK (strL p) (ivL p) r.2.1 k ∧ (∀ e ∈ (mmL p r.1).1, e.1.txt = k.txt) ∧ (r.2.2.2 = true → ∃ n, denI (ivL p) r.2.2.1 = some (.i64, n) ∧ mapL k (mmL p r.1).1 = some n) ∧ (r.2.2.2 = false → mapL k (mmL p r.1).1 = none) :=
  allCons ⟨.s (p.R p.j).1, (by show some (strL p 4) = _; rfl), h.tx, (fun _ => ⟨(p.R p.j).2, rfl, h.m⟩), fun c => by cases c⟩ (fun _ h => nomatch h)
noncomputable abbrev RD0 (h : Dj p) (h0 : p.j = 0) : Rl p where
  ib := [(11, .oi 11, .oi 30, .bool true), (14, .oi 11, .int .i64 0, .bool true), (10, .oi 8, .oi 8, .bool false), (13, .oi 11, .int .i64 0, .bool false), (0, .oi 11, .int .i64 1, .oi 12)]
  ibok := by
    have ho := h.o; have hj := h.j
    exact rLtL p.j p.o (by exact rfl) (by exact rfl) h.j (rGeL p.j (by exact rfl) (rNe (a := (p.R p.j).2) (b := (p.R p.j).2) (K := .i64) (rGt (a := (p.j : Int)) (b := 0) (rAdd (a := (p.j : Int)) (b := 1) (c := ((p.j + 1 : Nat) : Int)) ibNil)) (by exact rfl) (by exact rfl) (by simp)))
  vl := [⟨30, 11, 2, 0, [.ostr 4, .oi 8]⟩, ⟨30, 11, 2, 0, [.ostr 4]⟩, ⟨30, 11, 2, 1, [.oi 8]⟩]
  vlok := vlO (q := p.j) (by exact rfl) h.j (by exact rfl) (by exact rfl) (fun _ h => nomatch h)
  ml := [(0, .ostr 4, .oi 8, true)]
  mlok := mlD h
noncomputable abbrev RD1' (h : Dj p) (h0 : 0 < p.j) : Rl p where
  ib := [(11, .oi 11, .oi 30, .bool true), (14, .oi 11, .int .i64 0, .bool true), (10, .oi 8, .oi 8, .bool false), (13, .oi 11, .int .i64 0, .bool true), (0, .oi 11, .int .i64 1, .oi 12), (1, .oi 11, .int .i64 1, .oi 13), (11, .oi 13, .oi 30, .bool true), (14, .oi 13, .int .i64 0, .bool true)]
  ibok := by
    have ho := h.o; have hj := h.j
    exact rLtL p.j p.o (by exact rfl) (by exact rfl) h.j (rGeL p.j (by exact rfl) (rNe (a := (p.R p.j).2) (b := (p.R p.j).2) (K := .i64) (rGt (a := (p.j : Int)) (b := 0) (rAdd (a := (p.j : Int)) (b := 1) (c := ((p.j + 1 : Nat) : Int)) (rSub (a := (p.j : Int)) (b := 1) (c := ((p.j - 1 : Nat) : Int)) (rLtL (p.j - 1) p.o (by exact rfl) (by exact rfl) (by omega) (rGeL (p.j - 1) (by exact rfl) ibNil))))) (by exact rfl) (by exact rfl) (by simp)))
  vl := [⟨30, 11, 2, 0, [.ostr 4, .oi 8]⟩, ⟨30, 11, 2, 0, [.ostr 4]⟩, ⟨30, 11, 2, 1, [.oi 8]⟩, ⟨30, 13, 2, 0, [.ostr 6, .oi 9]⟩, ⟨30, 13, 2, 0, [.ostr 6]⟩, ⟨30, 13, 2, 1, [.oi 9]⟩]
  vlok := by
    have hj := h.j
    exact vlO (q := p.j) (by exact rfl) h.j (by exact rfl) (by exact rfl) (vlO (q := p.j - 1) (by exact rfl) (by omega) (by exact rfl) (by exact rfl) (fun _ h => nomatch h))
  ml := [(0, .ostr 4, .oi 8, true)]
  mlok := mlD h
noncomputable abbrev RDx (h : ¬ p.j < p.o) : Rl p where
  ib := [(11, .oi 11, .oi 30, .bool false)]
  ibok := rLt (a := (p.j : Int)) (b := (p.o : Int)) ibNil
noncomputable abbrev KA : Hand := ahH 6 9 4 8
theorem gD0 (p : Lw) : runTo (L0 p) Try.prog Hand.none 3000 ntL l9a (frOf fsG) (hOf 21000 bsG) .normal (CG rlG ((.int .i64 0, 11) :: iG)) vG fsDd bsG = true := by as_aux_lemma => kernel_rfl
theorem gD1 (h : Dj p) (h0 : p.j = 0) : runTo (RD0 h h0).T Try.prog Hand.none 3000 ntL l9L (frOf fsDd) (hOf 21000 bsG) .normal (CG rlG ((.oi 12, 11) :: iG)) vG fsDd bsG = true := by as_aux_lemma => kernel_rfl
theorem gD2 (h : Dj p) (h0 : 0 < p.j) : runTo (RD1' h h0).T Try.prog KA 3000 ntL l9L (frOf fsDd) (hOf 21000 bsG) .normal (CG rlG ((.oi 12, 11) :: iG)) vG fsDd bsG = true := by as_aux_lemma => kernel_rfl
theorem gD3 (h : ¬ p.j < p.o) : runTo (RDx h).T Try.prog Hand.none 3000 ntL l9L (frOf fsDd) (hOf 21000 bsG) (.exit 2) (CG rlG iG) vG fsG bsG = true := by as_aux_lemma => kernel_rfl
/- the i-th key -/
noncomputable abbrev fsE : List (Nat × AV) := (17, .oi 2) :: fsG
noncomputable abbrev fsI (b : Bool) : List (Nat × AV) := (17, .oi 2) :: (18, .bool b) :: (19, .oi 11) :: fsG
noncomputable abbrev fsJ (b : Bool) : List (Nat × AV) := (17, .oi 2) :: (18, .bool b) :: fsG
noncomputable abbrev iE : IP := (.oi 2, 2) :: iG
noncomputable abbrev RE (t : Bool) (ht : decide (p.i < p.k) = t) (h0 : 0 < p.o) : Rl p where
  ib := [(11, .oi 2, .oi 6, .bool t), (13, .oi 30, .int .i64 0, .bool true)]
  ibok := rLt (a := (p.i : Int)) (b := (p.k : Int)) (rGt (a := (p.o : Int)) (b := 0) ibNil) (by exact rfl) (by exact rfl) (by rw [← ht, decide_eq_decide]; omega)
theorem gE0 (p : Lw) : runTo (L0 p) Try.prog Hand.none 3000 ntL l10a (frOf fsG) (hOf 21000 bsG) .normal (CG rlG ((.int .i64 0, 2) :: iG)) vG fsE bsG = true := by as_aux_lemma => kernel_rfl
theorem gEt (ht : decide (p.i < p.k) = true) (h0 : 0 < p.o) : runTo (RE true ht h0).T Try.prog Hand.none 3000 ntL l10c (frOf fsE) (hOf 21000 bsG) .normal (CG rlG iE) vG fsE bsG = true := by as_aux_lemma => kernel_rfl
theorem gEx (ht : decide (p.i < p.k) = false) (h0 : 0 < p.o) : runTo (RE false ht h0).T Try.prog Hand.none 3000 ntL l10c (frOf fsE) (hOf 21000 bsG) (.exit 4) (CG [] []) [] [(7, .bool true)] [] = true := by as_aux_lemma => kernel_rfl
theorem gF0 (p : Lw) : runTo (L0 p) Try.prog Hand.none 3000 ntL x0 (frOf fsE) (hOf 21000 bsG) .normal (CG rlG iE) vG (fsJ false) bsG = true := by as_aux_lemma => kernel_rfl
theorem gF1 (p : Lw) : runTo (L0 p) Try.prog Hand.none 3000 ntL x1 (frOf (fsJ false)) (hOf 21000 bsG) .normal (CG rlG ((.int .i64 0, 11) :: iE)) vG (fsI false) bsG = true := by as_aux_lemma => kernel_rfl
theorem vlKey (h : p.i < p.k) {l : List VL} (t : ∀ r ∈ l, VlT (NmL p) (vvL p) r) : ∀ r ∈ (⟨40, 2, 1, 0, [.ostr 8]⟩ : VL) :: l, VlT (NmL p) (vvL p) r :=
  gL (q := p.i) (n := p.k) (e := ck) t (by exact rfl) (by exact rfl) h (sameS (N := NmL p) (s := p.kt p.i) (by show some (strL p (100 + 4 * p.i)) = _; rw [strL_k]) (by exact rfl))
noncomputable abbrev RI (t : Bool) (hi : p.i < p.k) (hj : p.j < p.o) (ho : p.o < 1000) (ht : t = true ↔ (p.R p.j).1 = p.kt p.i) : Rl p where
  ib := [(11, .oi 11, .oi 30, .bool true), (14, .oi 11, .int .i64 0, .bool true), (0, .oi 11, .int .i64 1, .oi 12), (11, .oi 2, .oi 6, .bool true), (14, .oi 2, .int .i64 0, .bool true)]
  ibok := rLtL p.j p.o (by exact rfl) (by exact rfl) hj (rGeL p.j (by exact rfl) (rAdd (a := (p.j : Int)) (b := 1) (c := ((p.j + 1 : Nat) : Int)) (rLtL p.i p.k (by exact rfl) (by exact rfl) hi (rGeL p.i (by exact rfl) ibNil))))
  vl := [⟨30, 11, 2, 0, [.ostr 4, .oi 8]⟩, ⟨30, 11, 2, 0, [.ostr 4]⟩, ⟨30, 11, 2, 1, [.oi 8]⟩, ⟨40, 2, 1, 0, [.ostr 8]⟩]
  vlok := vlO (q := p.j) (by exact rfl) hj (by exact rfl) (by exact rfl) (vlKey hi (fun _ h => nomatch h))
  tr := [(4, [.ostr 4, .ostr 8], .bool t)]
  trok := allCons ⟨(p.R p.j).1, p.kt p.i, t, rfl, rfl, rfl, ht⟩ (fun _ h => nomatch h)
theorem gI (b t : Bool) (hi : p.i < p.k) (hj : p.j < p.o) (ho : p.o < 1000) (ht : t = true ↔ (p.R p.j).1 = p.kt p.i) : runTo (RI t hi hj ho ht).T Try.prog Hand.none 3000 ntL xL (frOf (fsI b)) (hOf 21000 bsG) .normal (CG rlG ((.oi 12, 11) :: iE)) vG (fsI (b || t)) bsG = true := by cases b <;> cases t <;> as_aux_lemma => kernel_rfl
theorem gIx (b : Bool) (h : ¬ p.j < p.o) : runTo (RDx h).T Try.prog Hand.none 3000 ntL xL (frOf (fsI b)) (hOf 21000 bsG) (.exit 6) (CG rlG iE) vG (fsJ b) bsG = true := by cases b <;> as_aux_lemma => kernel_rfl
noncomputable abbrev KB : Hand := ahH 10 15 8 14
noncomputable abbrev RJ (hi : p.i < p.k) (h0 : 0 < p.o) (ho : p.o < 1000) (tx : ∀ e ∈ p.E.1, e.1.txt = true) (hm : mapL (.s (p.kt p.i)) p.E.1 = some p.vi) : Rl p where
  ib := [(1, .oi 30, .int .i64 1, .oi 16), (11, .oi 16, .oi 30, .bool true), (14, .oi 16, .int .i64 0, .bool true), (11, .oi 2, .oi 6, .bool true), (14, .oi 2, .int .i64 0, .bool true)]
  ibok := rSub (a := (p.o : Int)) (b := 1) (c := ((p.o - 1 : Nat) : Int)) (rLtL (p.o - 1) p.o (by exact rfl) (by exact rfl) (by omega) (rGeL (p.o - 1) (by exact rfl) (rLtL p.i p.k (by exact rfl) (by exact rfl) hi (rGeL p.i (by exact rfl) ibNil))))
  vl := [⟨30, 16, 2, 0, [.ostr 10, .oi 15]⟩, ⟨30, 16, 2, 0, [.ostr 10]⟩, ⟨30, 16, 2, 1, [.oi 15]⟩, ⟨40, 2, 1, 0, [.ostr 8]⟩]
  vlok := vlO (q := p.o - 1) (by exact rfl) (by omega) (by exact rfl) (by exact rfl) (vlKey hi (fun _ h => nomatch h))
  ml := [(0, .ostr 8, .oi 14, true)]
  mlok := allCons ⟨.s (p.kt p.i), (by show some (strL p 8) = _; rfl), tx, (fun _ => ⟨p.vi, rfl, hm⟩), fun c => by cases c⟩ (fun _ h => nomatch h)
theorem gJf (hi : p.i < p.k) (h0 : 0 < p.o) (ho : p.o < 1000) (tx : ∀ e ∈ p.E.1, e.1.txt = true) (hm : mapL (.s (p.kt p.i)) p.E.1 = some p.vi) : runTo (RJ hi h0 ho tx hm).T Try.prog KB 3000 ntL x2 (frOf (fsJ false)) (hOf 21000 bsG) .normal (CG rlG iE) vG fsE bsG = true := by as_aux_lemma => kernel_rfl
theorem gJt (p : Lw) : runTo (L0 p) Try.prog Hand.none 3000 ntL x2 (frOf (fsJ true)) (hOf 21000 bsG) .normal (CG rlG iE) vG fsE bsG = true := by as_aux_lemma => kernel_rfl
noncomputable abbrev RK (hi : p.i < 1000) : Rl p where
  ib := [(0, .oi 2, .int .i64 1, .oi 3)]
  ibok := rAdd (a := (p.i : Int)) (b := 1) (c := ((p.i + 1 : Nat) : Int)) ibNil
theorem gK (hi : p.i < 1000) : runTo (RK hi).T Try.prog Hand.none 3000 ntL l10z (frOf fsE) (hOf 21000 bsG) .normal (CG rlG ((.oi 3, 2) :: iG)) vG fsE bsG = true := by as_aux_lemma => kernel_rfl
theorem gEnd (p : Lw) : runTo (L0 p) Try.prog Hand.none 3000 ntL (restn 11 lC) (frOf [(7, .bool true)]) (hOf 21000 []) .ret (CG [] []) [] [(6, .bool true)] [] = true := by as_aux_lemma => kernel_rfl
end
end Go.Proofs.Ytnenjcehicaobaa.pf
