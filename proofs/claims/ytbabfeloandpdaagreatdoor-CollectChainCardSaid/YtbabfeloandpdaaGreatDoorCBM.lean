/-
  The search in an ordered slice of the memory at hand: nothing changes.
-/
import Derived.Test.YtbabfeloandpdaaGreatDoorCBS
set_option linter.unusedSectionVars false
set_option linter.unusedVariables false
set_option maxRecDepth 1000000
set_option maxHeartbeats 0
namespace Go.Proofs.YtbabfeloandpdaaGreatDoor.bs
open Go.X Go.RowKit
theorem bsMove {T : Tab} {h : H} {ta : AV} {x i j r n p : Nat} {F : Nat → Int} (hx : h.get x = some (.vec i)) (hj : T.iv j = (.i64, (n : Int))) (ht : ∀ (μ : M) v, @vrel T μ ta v → v = .int .i64 (F p)) (hr : T.iv r = (.i64, (p : Int)))
    (hs : ∀ m, m < n → ∃ a, T.vv i m = some a ∧ ∀ μ v, @vrel T μ a v → v = .int .i64 (F m)) (h1 : p < n) (h3 : n < 100000) (inc : ∀ m k, m < k → k < n → F m < F k) :
    @CallOk T Tryz.prog 62 [.ov x j 1, ta] h (.tup [.oi r, .bool true], h) := by
  intro B w0 μ w args' hr0 ha
  obtain ⟨l, g1, g2, g3, g4⟩ := hr0.blk x _ hx
  obtain ⟨arr, el, fz, b1, b2, b3, b4, b5⟩ := g4
  simp only [vrels] at ha
  obtain ⟨v1, r1, e1, hv1, v2, r2, e2, hv2, rfl⟩ := ha
  simp only [vrel] at hv1
  obtain ⟨k1, l', c, q1, q2, q3, rfl⟩ := hv1
  obtain rfl := ht _ _ hv2
  rw [g1] at q1; cases q1
  subst e2
  let E : Nat → Prop := fun k => ∃ y b m, h.get y = some b ∧ own b = true ∧ μ y = some m ∧ m.block = k
  let B' : Kp := ⟨fun k => B.kept k ∨ E k, B.glob, fun k hk => .inl (B.sub k hk), fun _ => False⟩
  have hold : ∀ k, B'.kept k → k < w.heap.size := by
    rintro k (hb | ⟨y, b, m, k1, k2, k3, k4⟩)
    · exact Nat.lt_of_lt_of_le (hr0.below.old k hb) hr0.below.size
    · obtain ⟨m2, c1, _, _, c4⟩ := hr0.blk y b k1
      rw [k3] at c1; cases c1
      rw [← k4]; exact c4.lt
  have hnn : (T.iv j).2.toNat = n := by rw [hj]; simp
  have r' : @HR (P0 F n p p p (l.block, l.base) c) B' w (fun _ => none) ⟨0, .leaf⟩ w := by
    have hgl : @Gl (P0 F n p p p (l.block, l.base) c) B' w := by
      refine ⟨fun g o a hg => (by have hg' : (none : Option AV) = some a := hg; cases hg'), fun i' m a hg => ?_⟩
      replace hg : (fgn F n (l.block, l.base) c).fv i' m = some a := hg
      match i', hg with
      | 0, hg =>
        obtain ⟨hm, rfl⟩ := numV_some hg
        refine ⟨.inr ⟨x, _, l, hx, rfl, g1, rfl⟩, .int .i64 (F m), ?_, by simp only [vrel]⟩
        obtain ⟨a, ha1, ha2⟩ := hs m hm
        obtain ⟨v, hv1, hv2⟩ := b5 m a ha1
        have := ha2 _ _ hv2
        subst this
        show World.cell? w ⟨l.block, l.base + m, none⟩ = _
        unfold World.cell?
        simp only [b1]
        exact hv1
      | _ + 1, hg => cases hg
    exact @HR.mk (P0 F n p p p (l.block, l.base) c) B' w (fun _ => none) ⟨0, .leaf⟩ w (@Keeps.mk (P0 F n p p p (l.block, l.base) c) B' w w rfl rfl rfl (Nat.le_refl _) (fun _ _ => rfl) hold hgl) (fun y _ => ⟨rfl, rfl⟩) (fun y hy => hy.elim) (fun y b hb => (by have hb' : (none : Option Blk) = some b := hb; cases hb')) (fun y z b d m m' hb => (by have hb' : (none : Option Blk) = some b := hb; cases hb'))
  have e1' : args' = #[.slice (some ⟨l.block, l.base, none⟩) n c, .int .i64 (F p)] := by
    apply Array.ext'
    rw [e1, hnn]
  have ha' : @vrels (P0 F n p p p (l.block, l.base) c) (fun _ => none) [.fo 0 0 1, .oi 1] args'.toList := by
    rw [e1']
    simp only [vrels, vrel]
    refine ⟨_, _, rfl, ⟨⟨rfl, Int.natCast_nonneg _⟩, by show ((n : Int)).toNat ≤ c; rw [hnn] at q2; simpa using q2, by show _ = Value.slice (some ⟨l.block, l.base, none⟩) ((n : Int)).toNat c; simp⟩, _, _, rfl, rfl, rfl⟩
  refine (bs0 (F := F) (fb := (l.block, l.base)) (cap := c) h1 h3 inc B' w (fun _ => none) w args' r' ha').mono ?_
  rintro e w' ⟨v', μ', rfl, _, hv, rr⟩
  refine ⟨v', μ, rfl, fun _ _ h => h, ?_, ?_⟩
  · simp only [vrel, vrels] at hv ⊢
    obtain ⟨cs, rfl, v1, r1, rfl, rfl, v2, r2, rfl, rfl, rfl⟩ := hv
    exact ⟨_, rfl, _, _, rfl, by rw [hr]; rfl, _, _, rfl, rfl, rfl⟩
  · have hb' := (@HR.below (P0 F n p p p (l.block, l.base) c) _ _ _ _ _ rr)
    have hw : ∀ k, B'.kept k → w'.heap[k]? = w.heap[k]? := (@Keeps.block (P0 F n p p p (l.block, l.base) c) _ _ _ hb')
    refine ⟨⟨(@Keeps.os (P0 F n p p p (l.block, l.base) c) _ _ _ hb').trans hr0.below.os, (@Keeps.tape (P0 F n p p p (l.block, l.base) c) _ _ _ hb').trans hr0.below.tape, (@Keeps.output (P0 F n p p p (l.block, l.base) c) _ _ _ hb').trans hr0.below.output, Nat.le_trans hr0.below.size (@Keeps.size (P0 F n p p p (l.block, l.base) c) _ _ _ hb'), fun k hk => (hw k (.inl hk)).trans (hr0.below.block k hk), hr0.below.old, hr0.below.glb⟩, hr0.fresh, hr0.res, ?_, hr0.sep⟩
    intro y b hb
    obtain ⟨m, c1, c2, c3, c4⟩ := hr0.blk y b hb
    refine ⟨m, c1, c2, c3, c4.congr ?_⟩
    cases ho : own b with
    | true => exact hw _ (.inr ⟨y, b, m, hb, ho, c1, rfl⟩)
    | false => exact hw _ (.inl (B.sub _ (c3 ho)))
/-- the machine's way to use it -/
noncomputable def bsHand (i j t r : Nat) : Hand := fun f args h =>
  match args with
  | [.ov x j' z, .oi t'] => Bool.rec none (Bool.rec none (Bool.rec none (Bool.rec none (Bool.rec none (some (.tup [.oi r, .bool true], h)) (Option.rec false (fun b => beq? (.vec i) b) (h.get x))) (Nat.beq t t')) (Nat.beq j j')) (Nat.beq 1 z)) (Nat.beq 62 f)
  | _ => none
theorem bsHand_ok {T : Tab} {i j t r n p : Nat} {F : Nat → Int} (hj : T.iv j = (.i64, (n : Int))) (ht : T.iv t = (.i64, F p)) (hr : T.iv r = (.i64, (p : Int)))
    (hs : ∀ m, m < n → ∃ a, T.vv i m = some a ∧ ∀ μ v, @vrel T μ a v → v = .int .i64 (F m)) (h1 : p < n) (h3 : n < 100000) (inc : ∀ m k, m < k → k < n → F m < F k) : @HandOk T Tryz.prog (bsHand i j t r) := by
  intro f args h q e
  unfold bsHand at e
  split at e
  · rename_i x j' z t'
    cases c1 : Nat.beq 62 f with
    | false => rw [c1] at e; cases e
    | true =>
    cases c2 : Nat.beq 1 z with
    | false => rw [c1, c2] at e; cases e
    | true =>
    cases c3 : Nat.beq j j' with
    | false => rw [c1, c2, c3] at e; cases e
    | true =>
    cases c4 : Nat.beq t t' with
    | false => rw [c1, c2, c3, c4] at e; cases e
    | true =>
      rw [c1, c2, c3, c4] at e
      cases hg : h.get x with
      | none => rw [hg] at e; cases e
      | some b =>
        rw [hg] at e
        cases c5 : beq? (.vec i) b with
        | false => simp only [c5] at e; cases e
        | true =>
          simp only [c5] at e
          cases e
          have := beq_eq c5
          subst this
          rw [← nbeq_iff.1 c1, ← nbeq_iff.1 c2, ← nbeq_iff.1 c3, ← nbeq_iff.1 c4]
          exact bsMove hg hj (fun μ v hv => by simp only [vrel] at hv; rw [hv, ht]) hr hs h1 h3 inc
  · cases e
/-- the machine's way to use it -/
noncomputable def bsHandC (i j : Nat) (t : Int) (r : Nat) : Hand := fun f args h =>
  match args with
  | [.ov x j' z, .int .i64 t'] => Bool.rec none (Bool.rec none (Bool.rec none (Bool.rec none (Bool.rec none (some (.tup [.oi r, .bool true], h)) (Option.rec false (fun b => beq? (.vec i) b) (h.get x))) (decide (t = t'))) (Nat.beq j j')) (Nat.beq 1 z)) (Nat.beq 62 f)
  | _ => none
theorem bsHandC_ok {T : Tab} {i j r n p : Nat} {t : Int} {F : Nat → Int} (hj : T.iv j = (.i64, (n : Int))) (ht : F p = t) (hr : T.iv r = (.i64, (p : Int)))
    (hs : ∀ m, m < n → ∃ a, T.vv i m = some a ∧ ∀ μ v, @vrel T μ a v → v = .int .i64 (F m)) (h1 : p < n) (h3 : n < 100000) (inc : ∀ m k, m < k → k < n → F m < F k) : @HandOk T Tryz.prog (bsHandC i j t r) := by
  intro f args h q e
  unfold bsHandC at e
  split at e
  · rename_i x j' z t'
    cases c1 : Nat.beq 62 f with
    | false => rw [c1] at e; cases e
    | true =>
    cases c2 : Nat.beq 1 z with
    | false => rw [c1, c2] at e; cases e
    | true =>
    cases c3 : Nat.beq j j' with
    | false => rw [c1, c2, c3] at e; cases e
    | true =>
    cases c4 : decide (t = t') with
    | false => rw [c1, c2, c3, c4] at e; cases e
    | true =>
      rw [c1, c2, c3, c4] at e
      cases hg : h.get x with
      | none => rw [hg] at e; cases e
      | some b =>
        rw [hg] at e
        cases c5 : beq? (.vec i) b with
        | false => simp only [c5] at e; cases e
        | true =>
          simp only [c5] at e
          cases e
          have := beq_eq c5
          subst this
          rw [← nbeq_iff.1 c1, ← nbeq_iff.1 c2, ← nbeq_iff.1 c3, ← of_decide_eq_true c4]
          exact bsMove hg hj (fun μ v hv => by simp only [vrel] at hv; rw [hv, ht]) hr hs h1 h3 inc
  · cases e
end Go.Proofs.YtbabfeloandpdaaGreatDoor.bs
