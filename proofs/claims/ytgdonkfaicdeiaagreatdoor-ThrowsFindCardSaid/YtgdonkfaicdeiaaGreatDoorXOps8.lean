/-
  Each operation of the abstract machine stands for the model's: slices, indexes, fields, lengths, maps, ranges.
-/
import Derived.Test.YtgdonkfaicdeiaaGreatDoorXOps7
set_option linter.unusedVariables false
set_option linter.unusedSimpArgs false
set_option linter.unusedSectionVars false
namespace Go.X
open Go.RowKit

variable [Tab]
variable {P : Program} {B : Kp} {w0 : World} {μ : M} {h h' : H} {w w' : World}

theorem sliceRow_sound {isSl : Bool} {z x o n c : Nat} {lo hi mx : Option AV} {lov hiv mxv : Option Value} {a : AV} {l : Loc} (hl : μ x = some l) (h1 : orel μ lo lov) (h2 : orel μ hi hiv) (h3 : orel μ mx mxv) (e : sliceRow z x o n c lo hi mx = some a) :
    ∃ p q m, (Instr.sliceBounds isSl n c lov hiv mxv).run P w = .ok (p, q, m) w ∧ vrel μ a (.slice (some (if m = p then (⟨l.block, l.base + o, none⟩ : Addr) else (⟨l.block, l.base + o, none⟩ : Addr).add (p * z))) (q - p) (m - p)) := by
  obtain ⟨p, hp, e⟩ := ob_some e
  obtain ⟨q, hq, e⟩ := ob_some e
  obtain ⟨m, hm, e⟩ := ob_some e
  obtain ⟨hc, e⟩ := ifb_some e
  simp only [Bool.and_eq_true] at hc
  cases e
  refine ⟨p, q, m, bounds_sound h1 h2 h3 hp hq hm hc.1 hc.2, ?_⟩
  simp only [vrel]
  refine ⟨l, hl, ?_⟩
  by_cases c1 : m = p
  · simp [c1]
  · simp [c1, Addr.add_lit, Nat.add_assoc]

theorem sliceOpen_sound {z x o n c : Nat} {lo hi mx : Option AV} {lov hiv mxv : Option Value} {a : AV} {l : Loc} (hl : μ x = some l) (hnc : n ≤ c) (htot : l.base + o + c * z = l.total)
    (h1 : orel μ lo lov) (h2 : orel μ hi hiv) (h3 : orel μ mx mxv) (e : sliceOpen z x o n lo hi mx = some a) :
    ∃ p q m, (Instr.sliceBounds true n c lov hiv mxv).run P w = .ok (p, q, m) w ∧ vrel μ a (.slice (some (if m = p then (⟨l.block, l.base + o, none⟩ : Addr) else (⟨l.block, l.base + o, none⟩ : Addr).add (p * z))) (q - p) (m - p)) := by
  obtain ⟨p, hp, e⟩ := ob_some e
  obtain ⟨q, hq, e⟩ := ob_some e
  cases mx with
  | none =>
    obtain ⟨hc, e⟩ := ifb_some e
    simp only [Bool.and_eq_true, ble_iff] at hc
    obtain ⟨c1, c2⟩ := hc
    cases c3 : (Nat.beq p 0 || Nat.blt p n) with
    | false =>
     rw [c3] at e
     have e' : some AV.es = some a := e
     cases e'
     simp only [Bool.or_eq_false_iff] at c3
     have c4 : ¬ p < n := fun hh => by rw [blt_iff.2 hh] at c3; simp at c3
     refine ⟨p, q, c, bounds_sound h1 h2 h3 hp hq rfl (by simp) (by simp only [sub3, Bool.and_eq_true, ble_iff]; omega), ?_⟩
     simp only [vrel]
     have : q - p = 0 := by omega
     rw [this]
     exact ⟨_, _, rfl⟩
    | true =>
    rw [c3] at e
    simp only [Bool.or_eq_true, blt_iff, nbeq_iff] at c3
    cases e
    refine ⟨p, q, c, bounds_sound h1 h2 h3 hp hq rfl (by simp) (by simp only [sub3, Bool.and_eq_true, ble_iff]; omega), ?_⟩
    simp only [vrel]
    have hmul : p * z + (c - p) * z = c * z := by rw [← Nat.add_mul]; congr 1; omega
    refine ⟨l, c - p, hl, by omega, by omega, ?_⟩
    by_cases c4 : c = p
    · have : p = 0 := by omega
      subst this
      simp [c4]
    · simp [c4, Addr.add_lit, Nat.add_assoc]
  | some v =>
    obtain ⟨m, hm, e⟩ := ob_some e
    obtain ⟨hc, e⟩ := ifb_some e
    simp only [Bool.and_eq_true] at hc
    cases e
    have hs := hc.2
    unfold sub3 at hs
    simp only [Bool.and_eq_true, ble_iff] at hs
    refine ⟨p, q, m, bounds_sound h1 h2 h3 hp hq hm (by simp [hc.1]) (by simp only [sub3, Bool.and_eq_true, ble_iff]; omega), ?_⟩
    simp only [vrel]
    refine ⟨l, hl, ?_⟩
    by_cases c1 : m = p
    · simp [c1]
    · simp [c1, Addr.add_lit, Nat.add_assoc]

theorem ltOk_sound {k j : Nat} (e : ltOk k j = true) : isLen (Tab.iv k) ∧ (Tab.iv j).1 = .i64 ∧ (Tab.iv k).2 < (Tab.iv j).2 := by
  unfold ltOk at e
  simp only [Bool.and_eq_true] at e
  have isT_some : ∀ {o : Option AV}, isT o = true → o = some (.bool true) := by
    intro o h
    unfold isT at h
    split at h
    · rfl
    · simp at h
  obtain ⟨k1, a, k2, b, v', h1, h2, h3, h4⟩ := Tab.ibok _ (findB_mem (isT_some e.1)) .lss rfl
  obtain ⟨k3, a3, k4, b3, v3, g1, g2, g3, g4⟩ := Tab.ibok _ (findB_mem (isT_some e.2)) .geq rfl
  simp only [denI, Option.some.injEq] at h1 h2 g1 g2
  simp only [Prod.mk.injEq] at g2
  obtain ⟨rfl, rfl⟩ := g2
  have e1 : intBin .lss k1 a k2 b = ifb (Nat.beq (kcode k1) (kcode k2)) (some (.bool (decide (a < b)))) := rfl
  rw [e1] at h3
  obtain ⟨h5, h3⟩ := ifb_some h3
  cases h3
  have e2 : intBin .geq k3 a3 .i64 0 = ifb (Nat.beq (kcode k3) (kcode .i64)) (some (.bool (decide (a3 ≥ 0)))) := rfl
  rw [e2] at g3
  obtain ⟨g5, g3⟩ := ifb_some g3
  cases g3
  simp only [outI, AV.bool.injEq] at h4 g4
  have h4 := of_decide_eq_true h4.symm
  have g4 := of_decide_eq_true g4.symm
  have q1 : k3 = .i64 := by have := nbeq_iff.1 g5; revert this; cases k3 <;> simp [kcode]
  have q2 : k1 = k2 := by have := nbeq_iff.1 h5; revert this; cases k1 <;> cases k2 <;> simp [kcode]
  subst q1
  rw [h1] at g1
  simp only [Prod.mk.injEq] at g1
  obtain ⟨rfl, rfl⟩ := g1
  subst q2
  rw [h1, h2]
  exact ⟨⟨rfl, g4⟩, rfl, h4⟩
theorem leOk_sound {k j : Nat} (e : leOk k j = true) : isLen (Tab.iv k) ∧ (Tab.iv j).1 = .i64 ∧ (Tab.iv k).2 ≤ (Tab.iv j).2 := by
  unfold leOk at e
  simp only [Bool.and_eq_true] at e
  have isT_some : ∀ {o : Option AV}, isT o = true → o = some (.bool true) := by
    intro o h
    unfold isT at h
    split at h
    · rfl
    · simp at h
  obtain ⟨k1, a, k2, b, v', h1, h2, h3, h4⟩ := Tab.ibok _ (findB_mem (isT_some e.1)) .leq rfl
  obtain ⟨k3, a3, k4, b3, v3, g1, g2, g3, g4⟩ := Tab.ibok _ (findB_mem (isT_some e.2)) .geq rfl
  simp only [denI, Option.some.injEq] at h1 h2 g1 g2
  simp only [Prod.mk.injEq] at g2
  obtain ⟨rfl, rfl⟩ := g2
  have e1 : intBin .leq k1 a k2 b = ifb (Nat.beq (kcode k1) (kcode k2)) (some (.bool (decide (a ≤ b)))) := rfl
  rw [e1] at h3
  obtain ⟨h5, h3⟩ := ifb_some h3
  cases h3
  have e2 : intBin .geq k3 a3 .i64 0 = ifb (Nat.beq (kcode k3) (kcode .i64)) (some (.bool (decide (a3 ≥ 0)))) := rfl
  rw [e2] at g3
  obtain ⟨g5, g3⟩ := ifb_some g3
  cases g3
  simp only [outI, AV.bool.injEq] at h4 g4
  have h4 := of_decide_eq_true h4.symm
  have g4 := of_decide_eq_true g4.symm
  have q1 : k3 = .i64 := by have := nbeq_iff.1 g5; revert this; cases k3 <;> simp [kcode]
  have q2 : k1 = k2 := by have := nbeq_iff.1 h5; revert this; cases k1 <;> cases k2 <;> simp [kcode]
  subst q1
  rw [h1] at g1
  simp only [Prod.mk.injEq] at g1
  obtain ⟨rfl, rfl⟩ := g1
  subst q2
  rw [h1, h2]
  exact ⟨⟨rfl, g4⟩, rfl, h4⟩

theorem findVC_mem {n k : Nat} : ∀ {l : List (Nat × Nat)}, findVC n l = some k → (n, k) ∈ l
  | [], e => by have e' : (none : Option Nat) = some k := e; cases e'
  | p :: l, e => by
    have e' : (@Bool.rec (fun _ => Option Nat) (findVC n l) (some p.2) (Nat.beq p.1 n)) = some k := e
    cases h1 : Nat.beq p.1 n with
    | false => rw [h1] at e'; exact List.mem_cons_of_mem _ (findVC_mem e')
    | true =>
      rw [h1] at e'
      cases e'
      rw [← nbeq_iff.1 h1]
      exact List.mem_cons_self

theorem slice_sound (r : HR B w0 μ h w) {t : TypeId} {x v : AV} {xv : Value} {lo hi mx : Option AV} {lov hiv mxv : Option Value} (hx : vrel μ x xv) (h1 : orel μ lo lov) (h2 : orel μ hi hiv) (h3 : orel μ mx mxv) (e : slice? P t x lo hi mx = some v) :
    OkQ P μ w (Instr.sliceAt t xv lov hiv mxv) v := by
  obtain ⟨d, hd, e⟩ := ob_some (show ob _ _ = _ from e)
  rename_i e0
  clear e0
  split at e
  · rename_i n c
    simp only [vrel] at hx
    obtain ⟨hc, rfl⟩ := hx
    obtain ⟨l, hl, e⟩ := ob_some e
    obtain ⟨q, hq, e⟩ := ob_some e
    obtain ⟨hcond, e⟩ := ifb_some e
    simp only [Bool.and_eq_true, ble_iff] at hcond
    cases e
    cases mx with
    | some _ => simp at hcond
    | none =>
      cases mxv with
      | some _ => exact h3.elim
      | none =>
        have hb := bounds_sound (P := P) (w := w) (isSl := false) (cap := n) h1 h2 (mx := none) (mxv := none) trivial hl hq (m := n) rfl (by simp) (by simp only [sub3, Bool.and_eq_true, ble_iff]; omega)
        refine .same r (v' := .string ((strOf n c).extract l q)) ?_ ?_
        · simp only [Instr.sliceAt, Sem.run_bind, run_underlying hd, Result.andThen_ok, Instr.slice, strOf_size]
          simp [hb]
        · simp only [vrel]
          refine ⟨Nat.mod_lt _ (Nat.pos_of_ne_zero (by simp)), by rw [str_extract hcond.2.1 hcond.2.2]⟩
  · rename_i el _
    unfold sliceSl at e
    split at e
    · simp only [vrel] at hx; subst hx
      obtain ⟨l, hl, e⟩ := ob_some e
      obtain ⟨q, hq, e⟩ := ob_some e
      obtain ⟨m, hm, e⟩ := ob_some e
      obtain ⟨z, hz, e⟩ := ob_some e
      obtain ⟨hcond, e⟩ := ifb_some e
      simp only [Bool.and_eq_true] at hcond
      cases e
      have hb := bounds_sound (P := P) (w := w) (isSl := true) (cap := 0) h1 h2 h3 hl hq hm hcond.1 hcond.2
      have hs := hcond.2
      unfold sub3 at hs
      simp only [Bool.and_eq_true, ble_iff] at hs
      have e1 : l = 0 := by omega
      have e2 : q = 0 := by omega
      have e3 : m = 0 := by omega
      subst e1 e2 e3
      refine .same r (v' := .slice none 0 0) ?_ (by simp [vrel])
      simp only [Instr.sliceAt, Sem.run_bind, run_underlying hd, Result.andThen_ok, Instr.slice, hb, run_sizeOf hz]
      simp
    · simp only [vrel] at hx
      obtain ⟨l, hl, rfl⟩ := hx
      obtain ⟨z, hz, e⟩ := ob_some e
      obtain ⟨p, q, m, g1, g2⟩ := sliceRow_sound (P := P) (w := w) (isSl := true) hl h1 h2 h3 e
      refine .same r ?_ g2
      simp only [Instr.sliceAt, Sem.run_bind, run_underlying hd, Result.andThen_ok, Instr.slice, g1, run_sizeOf hz]
      by_cases c1 : m = p <;> simp [c1]
    · simp only [vrel] at hx
      obtain ⟨l, c, hl, hnc, htot, rfl⟩ := hx
      obtain ⟨z, hz, e⟩ := ob_some e
      obtain ⟨hzz, e⟩ := ifb_some e
      have hzz := nbeq_iff.1 hzz
      rw [← hzz] at htot
      obtain ⟨p, q, m, g1, g2⟩ := sliceOpen_sound (P := P) (w := w) hl hnc htot h1 h2 h3 e
      refine .same r ?_ g2
      simp only [Instr.sliceAt, Sem.run_bind, run_underlying hd, Result.andThen_ok, Instr.slice, g1, run_sizeOf hz]
      by_cases c1 : m = p <;> simp [c1]
    · rename_i y j z'
      simp only [vrel] at hx
      obtain ⟨hj0, l, c, hl, hnc, htot, rfl⟩ := hx
      obtain ⟨z, hz, e1⟩ := ob_some e
      obtain ⟨hzz, e2⟩ := ifb_some e1
      clear e e1
      simp only [Bool.and_eq_true, nbeq_iff] at hzz
      obtain ⟨rfl, hmx⟩ := hzz
      have key : ∀ k, leOk k j = true → (∀ v, hiv = some v → ∃ kk, v = .int kk ((Tab.iv k).2.toNat : Int)) → hiv.isSome = true → hi.isSome = true → lo = none → OkQ P μ w (Instr.sliceAt t (.slice (some ⟨l.block, l.base, none⟩) (Tab.iv j).2.toNat c) lov hiv mxv) (.ov y k z) := by
        intro k hle hhv hsome hsome2 hlo
        obtain ⟨hk0, _, hkj⟩ := leOk_sound hle
        cases mx with
        | some m => simp at hmx
        | none =>
        subst hlo
        obtain ⟨hv0, rfl⟩ := Option.isSome_iff_exists.1 hsome
        obtain ⟨kk, rfl⟩ := hhv hv0 rfl
        have hle2 : (Tab.iv k).2.toNat ≤ (Tab.iv j).2.toNat := by have := hk0.2; omega
        have h2' : orel μ (some (.int kk ((Tab.iv k).2.toNat : Int))) (some (.int kk ((Tab.iv k).2.toNat : Int))) := by
          show vrel μ (.int kk ((Tab.iv k).2.toNat : Int)) (.int kk ((Tab.iv k).2.toNat : Int))
          simp only [vrel]
        obtain ⟨p, q, m, g1, g2⟩ := sliceOpen_sound (P := P) (w := w) (o := 0) (z := z) hl hnc (by simpa using htot) h1 h2' h3 (a := .so y (0 + 0 * z) ((Tab.iv k).2.toNat - 0) z) (by simp [sliceOpen, bound?, nat?, ifb, ble_iff.2 hle2, ble_iff.2 (Nat.zero_le (Tab.iv k).2.toNat)])
        refine .same r (v' := .slice (some (if m = p then (⟨l.block, l.base + 0, none⟩ : Addr) else (⟨l.block, l.base + 0, none⟩ : Addr).add (p * z))) (q - p) (m - p)) ?_ ?_
        · simp only [Instr.sliceAt, Sem.run_bind, run_underlying hd, Result.andThen_ok, Instr.slice, g1, run_sizeOf hz]
          by_cases c1 : m = p <;> simp [c1]
        · simp only [vrel] at g2 ⊢
          obtain ⟨l2, c2, b1, b2, b3, b4⟩ := g2
          rw [hl] at b1; cases b1
          refine ⟨hk0, l, c2, hl, by simpa using b2, by simpa using b3, ?_⟩
          rw [b4]; simp
      unfold sliceVec at e2
      split at e2
      · rename_i k
        obtain ⟨hle, e⟩ := ifb_some e2
        clear e2
        cases e
        have hk0 := (leOk_sound hle).1
        have hkn : ((Tab.iv k).2.toNat : Int) = (Tab.iv k).2 := Int.toNat_of_nonneg hk0.2
        cases hiv with
        | none => exact h2.elim
        | some v =>
          have h2 : vrel μ (.oi k) v := h2
          simp only [vrel] at h2
          exact key k hle (fun v' e => by cases e; exact ⟨_, by rw [h2, hkn]⟩) rfl rfl rfl
      · rename_i ik m
        obtain ⟨k, hk, e⟩ := ob_some e2
        obtain ⟨hle, e⟩ := ifb_some e
        clear e2
        cases e
        have hv := Tab.vcok _ (findVC_mem hk)
        simp only at hv
        cases hiv with
        | none => exact h2.elim
        | some v =>
          have h2 : vrel μ (.int ik (.ofNat m)) v := h2
          simp only [vrel] at h2
          exact key k hle (fun v' e => by cases e; exact ⟨ik, by rw [h2, hv]; rfl⟩) rfl rfl rfl
      · simp at e2
    · rename_i y j z'
      simp only [vrel] at hx
      obtain ⟨hj0, hnc, rfl⟩ := hx
      obtain ⟨z, hz, e1⟩ := ob_some e
      obtain ⟨hzz, e2⟩ := ifb_some e1
      clear e e1
      simp only [Bool.and_eq_true, nbeq_iff] at hzz
      obtain ⟨rfl, hmx⟩ := hzz
      have key : ∀ k, leOk k j = true → (∀ v, hiv = some v → ∃ kk, v = .int kk ((Tab.iv k).2.toNat : Int)) → hiv.isSome = true → lo = none → OkQ P μ w (Instr.sliceAt t (.slice (some ⟨(Tab.fb y).1, (Tab.fb y).2, none⟩) (Tab.iv j).2.toNat (Tab.fcap y)) lov hiv mxv) (.fo y k z) := by
        intro k hle hhv hsome hlo
        obtain ⟨hk0, _, hkj⟩ := leOk_sound hle
        cases mx with
        | some m => simp at hmx
        | none =>
        subst hlo
        obtain ⟨hv0, rfl⟩ := Option.isSome_iff_exists.1 hsome
        obtain ⟨kk, rfl⟩ := hhv hv0 rfl
        have hle2 : (Tab.iv k).2.toNat ≤ (Tab.iv j).2.toNat := by have := hk0.2; omega
        have h2' : orel μ (some (.int kk ((Tab.iv k).2.toNat : Int))) (some (.int kk ((Tab.iv k).2.toNat : Int))) := by
          show vrel μ (.int kk ((Tab.iv k).2.toNat : Int)) (.int kk ((Tab.iv k).2.toNat : Int))
          simp only [vrel]
        have hb := bounds_sound (P := P) (w := w) (isSl := true) (len := (Tab.iv j).2.toNat) (cap := Tab.fcap y) (l := 0) (r := (Tab.iv k).2.toNat) (m := Tab.fcap y) h1 h2' h3 rfl rfl rfl rfl (by simp only [sub3, Bool.and_eq_true, ble_iff]; omega)
        refine .same r (v' := .slice (some ⟨(Tab.fb y).1, (Tab.fb y).2, none⟩) (Tab.iv k).2.toNat (Tab.fcap y)) ?_ ?_
        · simp only [Instr.sliceAt, Sem.run_bind, run_underlying hd, Result.andThen_ok, Instr.slice, hb, run_sizeOf hz]
          by_cases c1 : Tab.fcap y = 0 <;> simp [c1, Addr.add_lit]
        · simp only [vrel]
          exact ⟨hk0, by omega, trivial⟩
      unfold sliceFor at e2
      split at e2
      · rename_i k
        obtain ⟨hle, e⟩ := ifb_some e2
        clear e2
        cases e
        have hk0 := (leOk_sound hle).1
        have hkn : ((Tab.iv k).2.toNat : Int) = (Tab.iv k).2 := Int.toNat_of_nonneg hk0.2
        cases hiv with
        | none => exact h2.elim
        | some v =>
          have h2 : vrel μ (.oi k) v := h2
          simp only [vrel] at h2
          exact key k hle (fun v' e => by cases e; exact ⟨_, by rw [h2, hkn]⟩) rfl rfl
      · rename_i ik m
        obtain ⟨k, hk, e⟩ := ob_some e2
        obtain ⟨hle, e⟩ := ifb_some e
        clear e2
        cases e
        have hv := Tab.vcok _ (findVC_mem hk)
        simp only at hv
        cases hiv with
        | none => exact h2.elim
        | some v =>
          have h2 : vrel μ (.int ik (.ofNat m)) v := h2
          simp only [vrel] at h2
          exact key k hle (fun v' e => by cases e; exact ⟨ik, by rw [h2, hv]; rfl⟩) rfl rfl
      · simp at e2
    · simp at e
  · rename_i arr _
    obtain ⟨d', hd', e⟩ := ob_some e
    obtain ⟨q, hq, e⟩ := ob_some e
    cases d' <;> simp [asArray] at hq
    subst hq
    unfold sliceArr at e
    split at e
    · simp only [vrel] at hx
      obtain ⟨l, hl, rfl⟩ := hx
      obtain ⟨z, hz, e⟩ := ob_some e
      obtain ⟨p, q, m, g1, g2⟩ := sliceRow_sound (P := P) (w := w) (isSl := false) hl h1 h2 h3 e
      refine .same r ?_ g2
      simp only [Instr.sliceAt, Sem.run_bind, run_underlying hd, Result.andThen_ok, Instr.slice, asAddr, Sem.run_pure, run_underlying hd', g1, run_sizeOf hz]
    · simp at e
  · unfold sliceArr at e
    split at e
    · simp only [vrel] at hx
      obtain ⟨l, hl, rfl⟩ := hx
      obtain ⟨z, hz, e⟩ := ob_some e
      obtain ⟨p, q, m, g1, g2⟩ := sliceRow_sound (P := P) (w := w) (isSl := false) hl h1 h2 h3 e
      refine .same r ?_ g2
      simp only [Instr.sliceAt, Sem.run_bind, run_underlying hd, Result.andThen_ok, Instr.sureAddr, Sem.run_pure, g1, run_sizeOf hz]
    · simp at e
  · simp at e

/- indexes and fields -/
theorem idx_sound {el : TypeId} {x o n k : Nat} {v : AV} (e : idx P el x o n k = some v) : ∃ z, k < n ∧ sizeOf? P el = some z ∧ v = .ptr x (o + k * z) := by
  obtain ⟨h1, e⟩ := ifb_some e
  obtain ⟨z, hz, e⟩ := ob_some e
  cases e
  exact ⟨z, blt_iff.1 h1, hz, rfl⟩

theorem indexAddr0_sound (r : HR B w0 μ h w) {t : TypeId} {x i v : AV} {xv iv : Value} (hx : vrel μ x xv) (hi : vrel μ i iv) (e : (ob (nat? i) fun k => ob (P.underlying t) (indexAddrD P k x)) = some v) :
    OkQ P μ w (Instr.indexAt t xv iv) v := by
  obtain ⟨k, hk, e1⟩ := ob_some e
  clear e
  obtain ⟨d, hd, e⟩ := ob_some e1
  clear e1
  obtain ⟨kk, rfl⟩ := nat_some hk
  simp only [vrel] at hi
  subst hi
  have key : ∀ (el : TypeId) (y o n : Nat) (l : Loc) (base : Value), μ y = some l → (d = .array n el ∧ base = .pointer (some ⟨l.block, l.base + o, none⟩)) ∨ (∃ c, d = .slice el ∧ base = .slice (some ⟨l.block, l.base + o, none⟩) n c) → idx P el y o n k = some v → OkQ P μ w (Instr.indexAt t base (.int kk (k : Int))) v := by
    intro el y o n l base hl hd2 e
    obtain ⟨z, hlt, hz, rfl⟩ := idx_sound e
    refine .same r (v' := .pointer (some ((⟨l.block, l.base + o, none⟩ : Addr).add (k * z)))) ?_ (by simp only [vrel]; exact ⟨l, hl, by simp [Addr.add_lit, Nat.add_assoc]⟩)
    rcases hd2 with ⟨rfl, rfl⟩ | ⟨c, rfl, rfl⟩
    · simp [Instr.indexAt, asIntOf, run_underlying hd, Instr.sureAddr, run_sizeOf hz, hlt]
    · simp [Instr.indexAt, asIntOf, run_underlying hd, run_sizeOf hz, hlt]
  cases d with
  | array n el =>
    cases x with
    | ptr y o =>
      simp only [vrel] at hx
      obtain ⟨l, hl, rfl⟩ := hx
      exact key el y o n l _ hl (.inl ⟨rfl, rfl⟩) e
    | gp g o =>
      simp only [vrel] at hx
      subst hx
      simp only [indexAddrD] at e
      obtain ⟨hlt, e⟩ := ifb_some e
      obtain ⟨z, hz, e⟩ := ob_some e
      cases e
      have hlt := blt_iff.1 hlt
      exact .same r (v' := .pointer (some ((⟨g, o, none⟩ : Addr).add (k * z)))) (by simp [Instr.indexAt, asIntOf, run_underlying hd, Instr.sureAddr, run_sizeOf hz, hlt]) (by simp only [vrel]; simp [Addr.add_lit])
    | _ => simp [indexAddrD] at e
  | slice el =>
    cases x with
    | sl y o n c =>
      simp only [vrel] at hx
      obtain ⟨l, hl, rfl⟩ := hx
      exact key el y o n l _ hl (.inr ⟨c, rfl, rfl⟩) e
    | so y o n c =>
      simp only [vrel] at hx
      obtain ⟨l, cc, hl, _, _, rfl⟩ := hx
      exact key el y o n l _ hl (.inr ⟨cc, rfl, rfl⟩) e
    | _ => simp [indexAddrD] at e
  | _ => simp [indexAddrD] at e

theorem indexAddr_sound (r : HR B w0 μ h w) {t : TypeId} {x i v : AV} {xv iv : Value} (hx : vrel μ x xv) (hi : vrel μ i iv) (e : indexAddr? P t x i = some v) :
    OkQ P μ w (Instr.indexAt t xv iv) v := by
  unfold indexAddr? at e
  split at e
  · rename_i y j z
    obtain ⟨d, hd, e1⟩ := ob_some e
    obtain ⟨el, hel, e2⟩ := ob_some e1
    obtain ⟨s, hs, e3⟩ := ob_some e2
    obtain ⟨hzz, e4⟩ := ifb_some e3
    clear e e1 e2 e3
    have hzz := nbeq_iff.1 hzz
    subst hzz
    have key : ∀ k, ltOk k j = true → (∃ kk, iv = .int kk ((Tab.iv k).2.toNat : Int)) → OkQ P μ w (Instr.indexAt t xv iv) (.op y k s 0) := by
      intro k hlt hiv
      obtain ⟨kk, rfl⟩ := hiv
      obtain ⟨hk0, _, hkj⟩ := ltOk_sound hlt
      simp only [vrel] at hx
      obtain ⟨hj0, l, c, hl, hnc, htot, rfl⟩ := hx
      have hdd : d = .slice el := by cases d <;> simp [asSlice] at hel; rw [hel]
      subst hdd
      have hlt2 : (Tab.iv k).2.toNat < (Tab.iv j).2.toNat := by have := hk0.2; omega
      obtain ⟨v', q1, q2⟩ := indexAddr0_sound (P := P) (w := w) r (t := t) (x := .so y 0 (Tab.iv j).2.toNat s) (i := .int kk ((Tab.iv k).2.toNat : Int)) (xv := .slice (some ⟨l.block, l.base, none⟩) (Tab.iv j).2.toNat c) (iv := .int kk ((Tab.iv k).2.toNat : Int))
        (v := .ptr y (0 + (Tab.iv k).2.toNat * s)) (by simp only [vrel]; exact ⟨l, c, hl, hnc, by simpa using htot, rfl⟩) (by simp only [vrel])
        (by simp [nat?, hd, indexAddrD, idx, hs, ifb, blt_iff.2 hlt2])
      refine ⟨v', q1, ?_⟩
      simp only [vrel] at q2 ⊢
      obtain ⟨l2, b1, b2⟩ := q2
      rw [hl] at b1; cases b1
      exact ⟨hk0, l, hl, by rw [b2]; simp⟩
    split at e4
    · rename_i k
      obtain ⟨hlt, e⟩ := ifb_some e4
      clear e4
      cases e
      have hk0 := (ltOk_sound hlt).1
      simp only [vrel] at hi
      exact key k hlt ⟨_, by rw [hi, Int.toNat_of_nonneg hk0.2]⟩
    · rename_i ik m
      obtain ⟨k, hk, e⟩ := ob_some e4
      obtain ⟨hlt, e⟩ := ifb_some e
      clear e4
      cases e
      have hv := Tab.vcok _ (findVC_mem hk)
      simp only at hv
      simp only [vrel] at hi
      exact key k hlt ⟨ik, by rw [hi, hv]; rfl⟩
    · simp at e4
  · rename_i y j z
    obtain ⟨d, hd, e1⟩ := ob_some e
    obtain ⟨el, hel, e2⟩ := ob_some e1
    obtain ⟨s, hs, e3⟩ := ob_some e2
    obtain ⟨hzz, e4⟩ := ifb_some e3
    clear e e1 e2 e3
    have hzz := nbeq_iff.1 hzz
    subst hzz
    have key : ∀ k, ltOk k j = true → (∃ kk, iv = .int kk ((Tab.iv k).2.toNat : Int)) → OkQ P μ w (Instr.indexAt t xv iv) (.fp y k s 0) := by
      intro k hlt hiv
      obtain ⟨kk, rfl⟩ := hiv
      obtain ⟨hk0, _, hkj⟩ := ltOk_sound hlt
      simp only [vrel] at hx
      obtain ⟨hj0, hnc, rfl⟩ := hx
      have hdd : d = .slice el := by cases d <;> simp [asSlice] at hel; rw [hel]
      subst hdd
      have hlt2 : (Tab.iv k).2.toNat < (Tab.iv j).2.toNat := by have := hk0.2; omega
      have run : ∀ (A : Addr) (nk nj cp : Nat), nk < nj → (Instr.indexAt t (.slice (some A) nj cp) (.int kk (nk : Int))).run P w = .ok (.pointer (some (A.add (nk * s)))) w := by
        intro A nk nj cp hh
        simp [Instr.indexAt, asIntOf, run_underlying hd, run_sizeOf hs, hh]
      refine .same r (run _ _ _ _ hlt2) ?_
      simp only [vrel]
      exact ⟨hk0, by simp [Addr.add_lit]⟩
    split at e4
    · rename_i k
      obtain ⟨hlt, e⟩ := ifb_some e4
      clear e4
      cases e
      have hk0 := (ltOk_sound hlt).1
      simp only [vrel] at hi
      exact key k hlt ⟨_, by rw [hi, Int.toNat_of_nonneg hk0.2]⟩
    · rename_i ik m
      obtain ⟨k, hk, e⟩ := ob_some e4
      obtain ⟨hlt, e⟩ := ifb_some e
      clear e4
      cases e
      have hv := Tab.vcok _ (findVC_mem hk)
      simp only at hv
      simp only [vrel] at hi
      exact key k hlt ⟨ik, by rw [hi, hv]; rfl⟩
    · simp at e4
  · exact indexAddr0_sound r hx hi e

theorem part_sound {t : TypeId} {cs : List AV} {vs : List Value} {off : Nat} {v : AV} (hv : vrels μ cs vs) (e : part? P t cs off = some v) :
    ∃ v', (part t ⟨vs⟩ off).run P w = .ok v' w ∧ vrel μ v v' := by
  obtain ⟨b, hb, e⟩ := ob_some e
  cases b with
  | false =>
    obtain ⟨y, h1, h2⟩ := vrels_get hv e
    exact ⟨y, by simp [part, run_isAgg hb, h1], h2⟩
  | true =>
    obtain ⟨n, hn, e⟩ := ob_some e
    cases e
    refine ⟨_, by simp only [part, Sem.run_bind, run_isAgg hb, Result.andThen_ok, if_true, run_sizeOf hn]; rfl, ?_⟩
    simp only [vrel]
    refine ⟨(vs.drop off).take n, ?_, vrels_take n (vrels_drop off hv)⟩
    congr 1
    apply Array.ext'
    simp [List.drop_take]

theorem index_sound (r : HR B w0 μ h w) {t : TypeId} {x i v : AV} {xv iv : Value} (hx : vrel μ x xv) (hi : vrel μ i iv) (e : index? P t x i = some v) :
    OkQ P μ w (Instr.index t xv iv) v := by
  obtain ⟨k, hk, e1⟩ := ob_some e
  clear e
  obtain ⟨d, hd, e⟩ := ob_some e1
  clear e1
  obtain ⟨kk, rfl⟩ := nat_some hk
  simp only [vrel] at hi
  subst hi
  unfold indexD at e
  split at e
  · simp only [vrel] at hx
    obtain ⟨vs, rfl, hv⟩ := hx
    obtain ⟨hlt, e⟩ := ifb_some e
    have hlt := blt_iff.1 hlt
    obtain ⟨z, hz, e⟩ := ob_some e
    obtain ⟨v', h1, h2⟩ := part_sound (P := P) (w := w) hv e
    refine .same r (v' := v') ?_ h2
    simp [Instr.index, asIntOf, run_underlying hd, run_sizeOf hz, h1]
    intro hh
    omega
  · simp only [vrel] at hx
    obtain ⟨hc, rfl⟩ := hx
    rename_i n c
    obtain ⟨hlt, e⟩ := ifb_some e
    have hlt := blt_iff.1 hlt
    cases e
    have hget : (strOf n c)[k]? = some (UInt8.ofNat (c / 256 ^ k % 256)) := by
      have hs : k < (strOf n c).size := by rw [strOf_size]; exact hlt
      rw [getElem?_pos (strOf n c) k hs]
      congr 1
      show (strOf n c).data[k] = _
      have h2 : (strOf n c).data.toList[k]? = some (UInt8.ofNat (c / 256 ^ k % 256)) := by
        simp only [strOf, List.getElem?_map]
        have e1 : (dec n c)[k]? = (dec (n - k) (c / 256 ^ k))[0]? := by
          rw [dec_div k (n - k) c, List.getElem?_drop]
          congr 2; omega
        rw [e1]
        cases hnk : n - k with
        | zero => omega
        | succ q => simp [dec]
      rw [Array.getElem?_toList] at h2
      rw [Array.getElem?_eq_getElem (by exact hs)] at h2
      simpa using h2
    refine .same r (v' := .int .u8 ((c / 256 ^ k % 256 : Nat) : Int)) ?_ (by simp [vrel])
    simp [Instr.index, asIntOf, run_underlying hd, hget]
  · simp at e

theorem fieldOf_some {t : TypeId} {i : Nat} {f : Field} (e : fieldOf P t i = some f) : ∃ fs, P.underlying t = some (.struct fs) ∧ fs[i]? = some f := by
  obtain ⟨d, hd, e⟩ := ob_some e
  obtain ⟨fs, hfs, e⟩ := ob_some e
  cases d <;> simp [asStruct] at hfs
  subst hfs
  exact ⟨_, hd, e⟩

theorem field_sound (r : HR B w0 μ h w) {t : TypeId} {i : Nat} {x v : AV} {xv : Value} (hx : vrel μ x xv) (e : field? P t x i = some v) :
    OkQ P μ w (Instr.field t xv i) v := by
  cases x with
  | agg cs =>
    simp only [vrel] at hx
    obtain ⟨vs, rfl, hv⟩ := hx
    obtain ⟨f, hf, e⟩ := ob_some e
    obtain ⟨fs, h1, h2⟩ := fieldOf_some hf
    obtain ⟨v', h3, h4⟩ := part_sound (P := P) (w := w) hv e
    exact .same r (v' := v') (by simp [Instr.field, run_underlying h1, h2, asAgg, h3]) h4
  | _ => simp [field?] at e

theorem fieldAddr_sound (r : HR B w0 μ h w) {t : TypeId} {i : Nat} {x v : AV} {xv : Value} (hx : vrel μ x xv) (e : fieldAddr? P t x i = some v) :
    OkQ P μ w (Instr.fieldAt t xv i) v := by
  cases x with
  | ptr y o =>
    simp only [vrel] at hx
    obtain ⟨l, hl, rfl⟩ := hx
    obtain ⟨k, hk, e⟩ := ob_some e
    cases e
    obtain ⟨f, hf, hk⟩ := ob_some hk
    obtain ⟨n, hn, hk⟩ := ob_some hk
    obtain ⟨hpos, hk⟩ := ifb_some hk
    cases hk
    have hpos := blt_iff.1 hpos
    obtain ⟨fs, h1, h2⟩ := fieldOf_some hf
    refine .same r (v' := .pointer (some ⟨l.block, l.base + o + f.offset, none⟩)) ?_ (by simp only [vrel]; exact ⟨l, hl, by simp [Nat.add_assoc]⟩)
    have h0 : n ≠ 0 := by omega
    simp [Instr.fieldAt, run_underlying h1, h2, Instr.sureAddr, fieldPlace, run_sizeOf hn, h0, Addr.add_lit]
  | gp y o =>
    simp only [vrel] at hx
    subst hx
    obtain ⟨k, hk, e⟩ := ob_some e
    cases e
    obtain ⟨f, hf, hk⟩ := ob_some hk
    obtain ⟨n, hn, hk⟩ := ob_some hk
    obtain ⟨hpos, hk⟩ := ifb_some hk
    cases hk
    have hpos := blt_iff.1 hpos
    obtain ⟨fs, h1, h2⟩ := fieldOf_some hf
    refine .same r (v' := .pointer (some ⟨y, o + f.offset, none⟩)) ?_ (by simp only [vrel]; rfl)
    have h0 : n ≠ 0 := by omega
    simp [Instr.fieldAt, run_underlying h1, h2, Instr.sureAddr, fieldPlace, run_sizeOf hn, h0, Addr.add_lit]
  | fp y j z o =>
    simp only [vrel] at hx
    obtain ⟨hj0, rfl⟩ := hx
    obtain ⟨k, hk, e⟩ := ob_some e
    cases e
    obtain ⟨f, hf, hk⟩ := ob_some hk
    obtain ⟨n, hn, hk⟩ := ob_some hk
    obtain ⟨hpos, hk⟩ := ifb_some hk
    cases hk
    have hpos := blt_iff.1 hpos
    obtain ⟨fs, h1, h2⟩ := fieldOf_some hf
    refine .same r (v' := .pointer (some ⟨(Tab.fb y).1, (Tab.fb y).2 + ((Tab.iv j).2.toNat * z + o) + f.offset, none⟩)) ?_ (by simp only [vrel]; exact ⟨hj0, by simp [Nat.add_assoc]⟩)
    have h0 : n ≠ 0 := by omega
    simp [Instr.fieldAt, run_underlying h1, h2, Instr.sureAddr, fieldPlace, run_sizeOf hn, h0, Addr.add_lit]
  | op y j z o =>
    simp only [vrel] at hx
    obtain ⟨hj0, l, hl, rfl⟩ := hx
    obtain ⟨k, hk, e⟩ := ob_some e
    cases e
    obtain ⟨f, hf, hk⟩ := ob_some hk
    obtain ⟨n, hn, hk⟩ := ob_some hk
    obtain ⟨hpos, hk⟩ := ifb_some hk
    cases hk
    have hpos := blt_iff.1 hpos
    obtain ⟨fs, h1, h2⟩ := fieldOf_some hf
    refine .same r (v' := .pointer (some ⟨l.block, l.base + ((Tab.iv j).2.toNat * z + o) + f.offset, none⟩)) ?_ (by simp only [vrel]; exact ⟨hj0, l, hl, by simp [Nat.add_assoc]⟩)
    have h0 : n ≠ 0 := by omega
    simp [Instr.fieldAt, run_underlying h1, h2, Instr.sureAddr, fieldPlace, run_sizeOf hn, h0, Addr.add_lit]
  | _ => simp [fieldAddr?] at e
end Go.X
