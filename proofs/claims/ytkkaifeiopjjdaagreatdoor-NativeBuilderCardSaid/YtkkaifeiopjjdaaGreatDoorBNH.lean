/-
  Rows of 16-bit numbers that calls give, told apart from any memory; hands for such calls.
-/
import Derived.Test.YtkkaifeiopjjdaaGreatDoorBNG
set_option linter.unusedVariables false
set_option linter.unusedSimpArgs false
set_option linter.unusedSectionVars false
set_option maxRecDepth 1000000
namespace Go.Proofs.YtkkaifeiopjjdaaGreatDoor.stx
open Go.X Go.RowKit Go.Proofs
/-- a row in the world -/
structure RowAt (w : World) (b base L c total : Nat) (C : Nat → Int) : Prop where
  blk : ∃ arr e fz, w.heap[b]? = some (.cells arr e fz) ∧ arr.size = total ∧ ∀ i, i < total → ¬ (fz.1 ≤ i ∧ i < fz.2)
  le : L ≤ c
  lt : base + L ≤ total
  cell : ∀ o, o < L → w.cell? ⟨b, base + o, none⟩ = some (.int .u16 (C o))
def Gives (f : FuncId) (vs : Array Value) (w : World) (L : Nat) (C : Nat → Int) (R : Nat → Nat → Nat → Prop) : Prop :=
  Calls Tryz.prog f vs w fun e w' => ∃ b base c total, e = .returned (.slice (some ⟨b, base, none⟩) L c) ∧ Below w.heap.size w w' ∧ w.heap.size ≤ b ∧ RowAt w' b base L c total C ∧ R base c total
abbrev Wide : Nat → Nat → Nat → Prop := fun base c total => base + c = total
abbrev Fix1 : Nat → Nat → Nat → Prop := fun _ c _ => c = 1
abbrev GlW [Tab] (w : World) : Prop := ∀ g o a, Tab.gv g o = some a → ∃ v, w.cell? ⟨g, o, none⟩ = some v ∧ (vrel (fun _ => none) a v ∧ (Tab.gv g (o + 1) = none → w.cell? ⟨g, o + 1, none⟩ = none))
section
variable [Tab] {f : FuncId} {args : List AV} {vs : List Value} {i j L : Nat} {C : Nat → Int}
theorem callTrue_ok (ha : ∀ (μ : M) (l : List Value), vrels μ args l → l = vs) (hk : ∀ w : World, GlW w → Calls Tryz.prog f vs.toArray w fun e w' => e = .returned (.bool true) ∧ Below w.heap.size w w') (h : H) : CallOk Tryz.prog f args h (.bool true, h) := by
  intro B w0 μ w args' r hv
  have e1 : args' = vs.toArray := by
    cases args' with
    | mk l => rw [ha μ l hv]
  subst e1
  refine (hk w fun g o a hg => (r.below.glbs hg).2).mono ?_
  rintro e w' ⟨rfl, hb⟩
  exact ⟨_, μ, rfl, Ext.refl _, by simp only [vrel], r.grow hb⟩
theorem callVec_ok (ha : ∀ (μ : M) (l : List Value), vrels μ args l → l = vs) (hj : Tab.iv j = (.i64, (L : Int))) (hv : Tab.vv i = numV .u16 L C) (hk : Tab.vk i = 0)
    (hc : ∀ w : World, GlW w → Gives f vs.toArray w L C Wide) {h h' : H} {x : Nat} (e : h.alloc (.vec i) = some (x, h')) : CallOk Tryz.prog f args h (.ov x j 1, h') := by
  intro B w0 μ w args' r hva
  have e1 : args' = vs.toArray := by
    cases args' with
    | mk l => rw [ha μ l hva]
  subst e1
  have hq := At.ofAlloc r e
  refine (hc w fun g o a hg => (r.below.glbs hg).2).mono ?_
  rintro e' w' ⟨b, base, c, total, rfl, hb, hlt, ra, ht⟩
  obtain ⟨arr, el, fz, h1, h2, h3⟩ := ra.blk
  have ht' : base + c = total := ht
  have hL : (Tab.iv j).2.toNat = L := by rw [hj]; simp
  have h4 := ra.lt
  have h5 := ra.le
  refine ⟨_, upm μ x ⟨b, base, total⟩, rfl, Ext.upm _ hq.new, ?_, r.alloc hq rfl hb hlt ⟨arr, el, fz, h1, h2, h3, ?_, ?_⟩⟩
  · simp only [vrel]
    refine ⟨by rw [hj]; exact ⟨rfl, Int.natCast_nonneg _⟩, ⟨b, base, total⟩, c, by simp [upm], by rw [hL]; exact h5, ?_, by rw [hL]⟩
    show base + c * 1 = total
    omega
  · show base + Tab.vk i ≤ total
    rw [hk]
    omega
  · intro k a hk'
    rw [hv] at hk'
    obtain ⟨hkL, rfl⟩ := numV_some hk'
    have h6 := ra.cell k hkL
    refine ⟨.int .u16 (C k), ?_, by simp only [vrel]⟩
    simpa [World.cell?, h1] using h6
theorem one_row {μ : M} {w' : World} {b base c total q : Nat} (hq : Tab.iv q = (.u16, C 0)) (ra : RowAt w' b base 1 c total C) : brel μ (rowOf [.oi q] true) ⟨b, base, total⟩ w' := by
  obtain ⟨arr, el, fz, h1, h2, h3⟩ := ra.blk
  refine ⟨arr, el, fz, h1, h2, h3, ra.lt, (fun h => by cases h), ?_⟩
  intro k a hk ha
  have hk0 : k = 0 := by
    have : k < 1 := hk
    omega
  subst hk0
  have ha' : some (AV.oi q) = some a := ha
  cases ha'
  have h6 := ra.cell 0 (by decide)
  refine ⟨.int .u16 (C 0), ?_, by simp only [vrel]; rw [hq]⟩
  simpa [World.cell?, h1] using h6
theorem callOne_ok (ha : ∀ (μ : M) (l : List Value), vrels μ args l → l = vs) {q : Nat} (hq : Tab.iv q = (.u16, C 0))
    (hc : ∀ w : World, GlW w → Gives f vs.toArray w 1 C Wide) {h h' : H} {x : Nat} (e : h.alloc (rowOf [.oi q] true) = some (x, h')) : CallOk Tryz.prog f args h (.so x 0 1 1, h') := by
  intro B w0 μ w args' r hva
  have e1 : args' = vs.toArray := by
    cases args' with
    | mk l => rw [ha μ l hva]
  subst e1
  have hqa := At.ofAlloc r e
  refine (hc w fun g o a hg => (r.below.glbs hg).2).mono ?_
  rintro e' w' ⟨b, base, c, total, rfl, hb, hlt, ra, ht⟩
  have ht' : base + c = total := ht
  refine ⟨_, upm μ x ⟨b, base, total⟩, rfl, Ext.upm _ hqa.new, ?_, r.alloc hqa rfl hb hlt (one_row hq ra)⟩
  simp only [vrel]
  refine ⟨⟨b, base, total⟩, c, by simp [upm], ra.le, ?_, rfl⟩
  show base + 0 + c * 1 = total
  omega
theorem callFix_ok (ha : ∀ (μ : M) (l : List Value), vrels μ args l → l = vs) {q : Nat} (hq : Tab.iv q = (.u16, C 0))
    (hc : ∀ w : World, GlW w → Gives f vs.toArray w 1 C Fix1) {h h' : H} {x : Nat} (e : h.alloc (rowOf [.oi q] true) = some (x, h')) : CallOk Tryz.prog f args h (.sl x 0 1 1, h') := by
  intro B w0 μ w args' r hva
  have e1 : args' = vs.toArray := by
    cases args' with
    | mk l => rw [ha μ l hva]
  subst e1
  have hqa := At.ofAlloc r e
  refine (hc w fun g o a hg => (r.below.glbs hg).2).mono ?_
  rintro e' w' ⟨b, base, c, total, rfl, hb, hlt, ra, ht⟩
  have ht' : c = 1 := ht
  subst ht'
  refine ⟨_, upm μ x ⟨b, base, total⟩, rfl, Ext.upm _ hqa.new, ?_, r.alloc hqa rfl hb hlt (one_row hq ra)⟩
  simp only [vrel]
  exact ⟨⟨b, base, total⟩, by simp [upm], rfl⟩
end
/-- a call that makes one block -/
noncomputable def newHand (g : FuncId) (xs : List AV) (bl : Blk) (mk : Nat → AV) : Hand := fun f args h =>
  Bool.rec none (Bool.rec none (ob (h.alloc bl) fun p => some (mk p.1, p.2)) (veqs xs args)) (Nat.beq g f)
theorem newHand_ok [Tab] {g : FuncId} {xs : List AV} {bl : Blk} {mk : Nat → AV} (hk : ∀ h h' x, H.alloc h bl = some (x, h') → CallOk Tryz.prog g xs h (mk x, h')) : HandOk Tryz.prog (newHand g xs bl mk) := by
  intro f args h p e
  have e' : (Bool.rec none (Bool.rec none (ob (h.alloc bl) fun p => some (mk p.1, p.2)) (veqs xs args)) (Nat.beq g f) : Option (AV × H)) = some p := e
  cases h1 : Nat.beq g f with
  | false => rw [h1] at e'; cases e'
  | true =>
    rw [h1] at e'
    cases h2 : veqs xs args with
    | false => rw [h2] at e'; cases e'
    | true =>
      rw [h2] at e'
      obtain ⟨q, h3, h4⟩ := ob_some (show ob (h.alloc bl) (fun p => some (mk p.1, p.2)) = some p from e')
      cases h4
      rw [← nbeq_iff.1 h1, ← veqs_eq h2]
      exact hk h q.2 q.1 h3
/- what a run from nothing gives, told apart from any memory -/
section
variable [Tab] {f : FuncId} {args : List AV} {x m : Nat} {q : H} {C : Nat → Int} {l : List AV} {args' : Array Value} {w : World} {n : Nat} {p : Bool} {z : List AV} {t : X.T AV}
theorem gives_so (o : CallOk Tryz.prog f args H.empty (.so x 0 m 1, q)) (hb : q.get x = some (.cells n p z t)) (hl : q.loads x 0 m = some l) (hC : ∀ k, k < m → ∃ a, l[k]? = some a ∧ denI Tab.iv a = some (.u16, C k))
    (ha : vrels (fun _ => none) args args'.toList) (hg : Gl (Kp.below w.heap.size) w) : Gives f args' w m C Wide := by
  refine (o.closed ha w hg).mono ?_
  rintro e w' ⟨v', μ', rfl, hr, r⟩
  have hr' : vrel μ' (.so x 0 m 1) v' := hr
  simp only [vrel] at hr'
  obtain ⟨l0, c, hl0, hle, htot, rfl⟩ := hr'
  have r' : HR (Kp.below w.heap.size) w μ' q w' := r
  obtain ⟨l1, g1, g2, _, g4⟩ := r'.blk x _ hb
  rw [hl0] at g1; cases g1
  obtain ⟨arr, el, fz, k1, k2, k3, k4, k5, k6⟩ := g4
  obtain ⟨vs, h1, h2, h3⟩ := r'.loads hl0 m 0 l hl
  have hlt : w.heap.size ≤ l0.block := Nat.le_of_not_lt (g2 rfl)
  refine ⟨l0.block, l0.base + 0, c, l0.total, rfl, r'.below.toBelow, hlt, ⟨⟨arr, el, fz, k1, k2, k3⟩, hle, by omega, fun k hk => ?_⟩, show l0.base + 0 + c = l0.total by omega⟩
  obtain ⟨a, e1, e2⟩ := hC k hk
  obtain ⟨y, y1, y2⟩ := vrels_get h1 e1
  rw [h3 k hk, y1, den_rel e2 y2]
theorem gives_sl (o : CallOk Tryz.prog f args H.empty (.sl x 0 1 1, q)) (hb : q.get x = some (.cells n p z t)) (hn : 1 ≤ n) (hl : q.loads x 0 1 = some l) (hC : ∀ k, k < 1 → ∃ a, l[k]? = some a ∧ denI Tab.iv a = some (.u16, C k))
    (ha : vrels (fun _ => none) args args'.toList) (hg : Gl (Kp.below w.heap.size) w) : Gives f args' w 1 C Fix1 := by
  refine (o.closed ha w hg).mono ?_
  rintro e w' ⟨v', μ', rfl, hr, r⟩
  have hr' : vrel μ' (.sl x 0 1 1) v' := hr
  simp only [vrel] at hr'
  obtain ⟨l0, hl0, rfl⟩ := hr'
  have r' : HR (Kp.below w.heap.size) w μ' q w' := r
  obtain ⟨l1, g1, g2, _, g4⟩ := r'.blk x _ hb
  rw [hl0] at g1; cases g1
  obtain ⟨arr, el, fz, k1, k2, k3, k4, k5, k6⟩ := g4
  obtain ⟨vs, h1, h2, h3⟩ := r'.loads hl0 1 0 l hl
  have hlt : w.heap.size ≤ l0.block := Nat.le_of_not_lt (g2 rfl)
  refine ⟨l0.block, l0.base + 0, 1, l0.total, rfl, r'.below.toBelow, hlt, ⟨⟨arr, el, fz, k1, k2, k3⟩, Nat.le_refl _, by omega, fun k hk => ?_⟩, rfl⟩
  obtain ⟨a, e1, e2⟩ := hC k hk
  obtain ⟨y, y1, y2⟩ := vrels_get h1 e1
  rw [h3 k hk, y1, den_rel e2 y2]
end
end Go.Proofs.YtkkaifeiopjjdaaGreatDoor.stx
