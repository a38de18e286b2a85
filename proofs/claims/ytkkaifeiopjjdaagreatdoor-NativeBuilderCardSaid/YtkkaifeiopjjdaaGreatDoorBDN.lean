/-
  The law NativeBuilder: numbers' texts as hands.
-/
import Derived.Test.YtkkaifeiopjjdaaGreatDoorBDL
set_option linter.unusedVariables false
set_option linter.unusedSimpArgs false
set_option linter.unusedSectionVars false
set_option maxRecDepth 1000000
set_option maxHeartbeats 0
namespace Go.Proofs.YtkkaifeiopjjdaaGreatDoor.bd
open Go.X Go.RowKit Go.Proofs
section
variable [Tab] {f : FuncId} {args : List AV} {vs : List Value} {i j L : Nat} {C : Nat → Int}
theorem callVecL_ok (ha : ∀ (μ : M) (l : List Value), vrels μ args l → l = vs) (hj : Tab.iv j = (.i64, (L : Int))) (hv : Tab.vv i = numV .u16 L C) (hk : Tab.vk i = L)
    (hc : ∀ w : World, stx.GlW w → stx.Gives f vs.toArray w L C stx.Wide) {h h' : H} {x : Nat} (e : h.alloc (.vec i) = some (x, h')) : CallOk Tryz.prog f args h (.ov x j 1, h') := by
  intro B w0 μ w args' r hva
  have e1 : args' = vs.toArray := by
    cases args' with
    | mk l => rw [ha μ l hva]
  subst e1
  have hq := At.ofAlloc r e
  refine (hc w fun g o a hg => (r.below.glbs hg).2).mono ?_
  rintro e' w' ⟨b, base, c, total, rfl, hb, hlt, ra, ht⟩
  obtain ⟨arr, el, fz, h1, h2, h3⟩ := ra.blk
  have ht' : base + c = total := ht
  have hL : (Tab.iv j).2.toNat = L := by rw [hj]; simp
  have h4 := ra.lt
  have h5 := ra.le
  refine ⟨_, upm μ x ⟨b, base, total⟩, rfl, Ext.upm _ hq.new, ?_, r.alloc hq rfl hb hlt ⟨arr, el, fz, h1, h2, h3, ?_, ?_⟩⟩
  · simp only [vrel]
    refine ⟨by rw [hj]; exact ⟨rfl, Int.natCast_nonneg _⟩, ⟨b, base, total⟩, c, by simp [upm], by rw [hL]; exact h5, ?_, by rw [hL]⟩
    show base + c * 1 = total
    omega
  · show base + Tab.vk i ≤ total
    rw [hk]
    exact h4
  · intro k a hk'
    rw [hv] at hk'
    obtain ⟨hkL, rfl⟩ := numV_some hk'
    have h6 := ra.cell k hkL
    refine ⟨.int .u16 (C k), ?_, by simp only [vrel]⟩
    simpa [World.cell?, h1] using h6
end
/-- a number's text is the piece -/
structure Nm (p : P) : Prop where
  m0 : -9223372036854775808 ≤ p.m
  m1 : p.m ≤ 9223372036854775807
  pl : p.pl = (Lib.itoa p.m).length
  A : p.A = stx.Cn p.m
theorem Nm.pos {p : P} (h : Nm p) : 0 < p.pl := by rw [h.pl]; exact stx.itoa_pos _
section
variable {p : P} {T : Tab}
noncomputable def KI : Hand := stx.newHand 110 [.oi 146] (.vec 60) fun x => .ov x 100 1
noncomputable def KD : Hand := stx.newHand 16 [.oi 146] (.vec 60) fun x => .ov x 100 1
noncomputable def KF : Hand := stx.newHand 16 [.oi 146] (rowOf [.oi 102] true) fun x => .sl x 0 1 1
theorem one146 [Tab] (e : Tab.iv 146 = (.i64, p.m)) (μ : M) (l : List Value) (h : vrels μ [.oi 146] l) : l = [.int .i64 p.m] := stx.one_is e μ l h
theorem KI_ok (h : Nm p) (e : SameTab (TP p) T) : @HandOk T Tryz.prog KI := by
  letI := T
  refine stx.newHand_ok fun q q' x hq => callVecL_ok (vs := [.int .i64 p.m]) (L := (Lib.itoa p.m).length) (C := stx.Cn p.m) (one146 (p := p) (by rw [← e.iv]; rfl)) ?_ ?_ ?_ (fun w hw => stx.int_is h.m0 h.m1 (stx.tab_of (by rw [← e.gv]; rfl) w hw)) hq
  · rw [← e.iv]; show ((IntKind.i64, (p.pl : Int)) : IntKind × Int) = _; rw [h.pl]
  · rw [← e.vv]; show numV .u16 p.pl p.A = _; rw [h.pl, h.A]
  · rw [← e.vk]; exact h.pl
theorem KD_ok (h : Nm p) (hw : p.m < 0 ∨ 10 ≤ p.m) (e : SameTab (TP p) T) : @HandOk T Tryz.prog KD := by
  letI := T
  refine stx.newHand_ok fun q q' x hq => callVecL_ok (vs := [.int .i64 p.m]) (L := (Lib.itoa p.m).length) (C := stx.Cn p.m) (one146 (p := p) (by rw [← e.iv]; rfl)) ?_ ?_ ?_ (fun w _ => stx.dec_wide ⟨h.m0, h.m1⟩ hw) hq
  · rw [← e.iv]; show ((IntKind.i64, (p.pl : Int)) : IntKind × Int) = _; rw [h.pl]
  · rw [← e.vv]; show numV .u16 p.pl p.A = _; rw [h.pl, h.A]
  · rw [← e.vk]; exact h.pl
theorem KF_ok (h : Nm p) (h0 : 0 ≤ p.m) (h1 : p.m < 10) (e : SameTab (TP p) T) : @HandOk T Tryz.prog KF := by
  letI := T
  refine stx.newHand_ok fun q q' x hq => stx.callFix_ok (vs := [.int .i64 p.m]) (C := stx.Cn p.m) (q := 102) (one146 (p := p) (by rw [← e.iv]; rfl)) ?_ (fun w _ => stx.dec_fix h0 h1) hq
  rw [← e.iv]; show ((IntKind.u16, p.A 0) : IntKind × Int) = _; rw [h.A]
end
end Go.Proofs.YtkkaifeiopjjdaaGreatDoor.bd
