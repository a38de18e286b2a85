/-
  The law NativeString: comparisons of slices of chars as hands.
-/
import Derived.Test.YtkkaifeiopjjdaaGreatDoorNSQ
set_option linter.unusedVariables false
set_option linter.unusedSimpArgs false
set_option linter.unusedSectionVars false
set_option maxRecDepth 1000000
set_option maxHeartbeats 0
namespace Go.Proofs.YtkkaifeiopjjdaaGreatDoor.ns
open Go.X Go.RowKit Go.Proofs
/-- a slice by name: own or foreign, which vector, which length -/
structure Sp where
  own : Bool
  i : Nat
  j : Nat
def isVec (i : Nat) : Option Blk → Bool
  | some (.vec k) => Nat.beq k i
  | _ => false
theorem isVec_some {i : Nat} {b : Option Blk} (h : isVec i b = true) : b = some (.vec i) := by
  unfold isVec at h
  split at h
  · rw [Nat.eq_of_beq_eq_true h]
  · cases h
noncomputable def Sp.is (s : Sp) (h : H) : AV → Bool
  | .ov x j z => Bool.rec false (Nat.beq z 1 && (Nat.beq j s.j && isVec s.i (h.get x))) s.own
  | .fo i j z => Bool.rec (Nat.beq z 1 && (Nat.beq j s.j && Nat.beq i s.i)) false s.own
  | _ => false
/-- what it is in a table -/
def Sp.Ok (T : Tab) (s : Sp) (n : Nat) (e : Nat → Int) : Prop := T.iv s.j = (.i64, (n : Int)) ∧ (if s.own then T.vv s.i else T.fv s.i) = numV .u16 n e
theorem Sp.at [T : Tab] {s : Sp} {n : Nat} {e : Nat → Int} (o : s.Ok T n e) {B : Kp} {w0 w : World} {μ : M} {h : H} (r : HR B w0 μ h w) {a : AV} {v : Value} (ha : s.is h a = true) (hv : vrel μ a v) :
    ∃ b f c, n ≤ c ∧ v = .slice (some ⟨b, f, none⟩) n c ∧ ∀ m, m < n → w.cell? ⟨b, f + m, none⟩ = some (.int .u16 (e m)) := by
  obtain ⟨hj, hvv⟩ := o
  cases a <;> simp only [Sp.is] at ha <;> first | (cases ha; done) | skip
  case ov x j z =>
    cases hs : s.own with
    | false => rw [hs] at ha; cases ha
    | true =>
    rw [hs] at ha hvv
    simp only [Bool.and_eq_true, nbeq_iff] at ha
    obtain ⟨rfl, rfl, hi⟩ := ha
    have hi := isVec_some hi
    simp only [vrel] at hv
    obtain ⟨_, l, c, k1, k2, k3, rfl⟩ := hv
    rw [hj] at k2 ⊢
    refine ⟨l.block, l.base, c, by simpa using k2, by simp, fun m hm => ?_⟩
    obtain ⟨l', q1, _, _, q4⟩ := r.blk x _ hi
    rw [k1] at q1; cases q1
    obtain ⟨arr, el, fz, m1, m2, m3, m4, m5⟩ := q4
    obtain ⟨u, n1, n2⟩ := m5 m (.int .u16 (e m)) (by have hvv : T.vv s.i = _ := hvv; rw [hvv]; exact numV_lt hm)
    simp only [vrel] at n2
    rw [← n2]
    simpa [World.cell?, m1] using n1
  case fo i j z =>
    cases hs : s.own with
    | true => rw [hs] at ha; cases ha
    | false =>
    rw [hs] at ha hvv
    simp only [Bool.and_eq_true, nbeq_iff] at ha
    obtain ⟨rfl, rfl, rfl⟩ := ha
    simp only [vrel] at hv
    obtain ⟨_, k2, rfl⟩ := hv
    rw [hj] at k2 ⊢
    refine ⟨_, _, _, by simpa using k2, by simp only [Int.toNat_natCast]; rfl, fun m hm => ?_⟩
    obtain ⟨_, u, u1, u2⟩ := r.below.frgn (i := s.i) (m := m) (a := .int .u16 (e m)) (by have hvv : T.fv s.i = _ := hvv; rw [hvv]; exact numV_lt hm)
    simp only [vrel] at u2
    rw [← u2]; exact u1
theorem cell_lt {w : World} {b f : Nat} {v : Value} (h : w.cell? ⟨b, f, none⟩ = some v) : b < w.heap.size := by
  unfold World.cell? at h
  cases e : w.heap[b]? with
  | none => simp only [e] at h; cases h
  | some x => exact (Array.getElem?_eq_some_iff.1 e).1
/-- a comparison's call, told by numbers -/
def cmpOk (F : Nat) (n1 n2 : Nat) (e1 e2 : Nat → Int) (t : Bool) : Prop := ∀ b o c b' o' c', ∃ h', @CallOk (TQ ⟨n1, n2, 0, e1, e2, b, o, c, b', o', c'⟩) Tryz.prog F [.fo 0 0 1, .fo 1 1 1] H.empty (.bool t, h')
noncomputable def cmpH (F : Nat) (s1 s2 : Sp) (t : Bool) : Hand := fun f args h => ifb (Nat.beq F f) (match args with
  | [u, v] => ifb (s1.is h u && s2.is h v) (some (.bool t, h))
  | _ => none)
theorem rrBelow (T : Tab) {w w' : World} {μ : M} {h : H} (rr : @HR T (Kp.below w.heap.size) w μ h w') : Below w.heap.size w w' := rr.below.toBelow
theorem cmpH_ok [T : Tab] {F : Nat} {s1 s2 : Sp} {n1 n2 : Nat} {e1 e2 : Nat → Int} {t : Bool} (o1 : s1.Ok T n1 e1) (o2 : s2.Ok T n2 e2) (k : cmpOk F n1 n2 e1 e2 t) : HandOk Tryz.prog (cmpH F s1 s2 t) := by
  intro f args h p e
  unfold cmpH at e
  obtain ⟨h1, e0⟩ := ifb_some e
  clear e
  have h1 := nbeq_iff.1 h1
  subst h1
  rcases args with _ | ⟨u, _ | ⟨v, _ | ⟨x, l⟩⟩⟩ <;> first | (cases e0; done) | skip
  · obtain ⟨h2, e3⟩ := ifb_some e0
    cases e3
    simp only [Bool.and_eq_true] at h2
    obtain ⟨g1, g2⟩ := h2
    intro B w0 μ w args' r hva
    obtain ⟨x1, l1, e1', r1, x2, l2, e2', r2, e3⟩ := hva
    have e3' : l2 = [] := e3
    subst e3' e2'
    obtain ⟨b, o, c, c1, rfl, c2⟩ := Sp.at o1 r g1 r1
    obtain ⟨b', o', c', d1, rfl, d2⟩ := Sp.at o2 r g2 r2
    obtain ⟨h', kk⟩ := k b o c b' o' c'
    refine (@CallOk.closed (TQ ⟨n1, n2, 0, e1, e2, b, o, c, b', o', c'⟩) Tryz.prog F _ args' _ kk ?_ w ?_).mono ?_
    · rw [e1']
      refine ⟨_, _, rfl, ?_, _, _, rfl, ?_, rfl⟩
      · simp only [vrel]
        exact ⟨⟨rfl, Int.natCast_nonneg _⟩, (show ((n1 : Nat) : Int).toNat ≤ c by rw [Int.toNat_natCast]; exact c1), (by show _ = Value.slice (some ⟨b, o, none⟩) ((n1 : Nat) : Int).toNat c; rw [Int.toNat_natCast])⟩
      · simp only [vrel]
        exact ⟨⟨rfl, Int.natCast_nonneg _⟩, (show ((n2 : Nat) : Int).toNat ≤ c' by rw [Int.toNat_natCast]; exact d1), (by show _ = Value.slice (some ⟨b', o', none⟩) ((n2 : Nat) : Int).toNat c'; rw [Int.toNat_natCast])⟩
    · refine ⟨fun g i a hg => (nomatch hg), fun i m a hg => ?_⟩
      match i, hg with
      | 0, hg =>
        obtain ⟨hm, rfl⟩ := numV_some (show numV .u16 n1 e1 m = some a from hg)
        exact ⟨cell_lt (c2 m hm), _, c2 m hm, by simp only [vrel]⟩
      | 1, hg =>
        obtain ⟨hm, rfl⟩ := numV_some (show numV .u16 n2 e2 m = some a from hg)
        exact ⟨cell_lt (d2 m hm), _, d2 m hm, by simp only [vrel]⟩
      | (i + 2), hg => nomatch hg
    · rintro ex w' ⟨v', μ', rfl, hr, rr⟩
      have hr' : @vrel (TQ ⟨n1, n2, 0, e1, e2, b, o, c, b', o', c'⟩) μ' (.bool t) v' := hr
      simp only [vrel] at hr'
      subst hr'
      exact ⟨_, μ, rfl, Ext.refl _, by simp only [vrel], r.grow (rrBelow _ rr)⟩
/-- whether two texts are the same, by a first difference -/
theorem cmpT {n1 n2 : Nat} {e1 e2 : Nat → Int} {t : Bool} (h : t = true ↔ n1 = n2 ∧ ∀ k, k < n1 → e1 k = e2 k) : (t = true ∧ n1 = n2 ∧ ∀ k, k < n1 → e1 k = e2 k) ∨ (t = false ∧ n1 ≠ n2) ∨ (t = false ∧ n1 = n2 ∧ ∃ d, d < n1 ∧ e1 d ≠ e2 d ∧ ∀ k, k < d → e1 k = e2 k) := by
  cases t with
  | true => exact .inl ⟨rfl, h.1 rfl⟩
  | false =>
    by_cases c : n1 = n2
    · refine .inr (.inr ⟨rfl, c, ?_⟩)
      have hn : ¬ ∀ k, k < n1 → e1 k = e2 k := fun g => Bool.noConfusion (h.2 ⟨c, g⟩)
      have : ∀ m, (∀ k, k < m → e1 k = e2 k) ∨ ∃ d, d < m ∧ e1 d ≠ e2 d ∧ ∀ k, k < d → e1 k = e2 k := by
        intro m
        induction m with
        | zero => exact .inl fun k hk => absurd hk (Nat.not_lt_zero k)
        | succ m ih =>
          rcases ih with a | ⟨d, d1, d2, d3⟩
          · by_cases g : e1 m = e2 m
            · refine .inl fun k hk => ?_
              by_cases hkm : k = m
              · rw [hkm]; exact g
              · exact a k (by omega)
            · exact .inr ⟨m, Nat.lt_succ_self m, g, a⟩
          · exact .inr ⟨d, by omega, d2, d3⟩
      rcases this n1 with a | a
      · exact absurd a hn
      · exact a
    · exact .inr (.inl ⟨rfl, c⟩)
theorem cmp12 {n1 n2 : Nat} {e1 e2 : Nat → Int} {t : Bool} (hL : n1 < 1000000) (h : t = true ↔ n1 = n2 ∧ ∀ k, k < n1 → e1 k = e2 k) : cmpOk 12 n1 n2 e1 e2 t := fun b o c b' o' c' => q12.call (q := ⟨n1, n2, 0, e1, e2, b, o, c, b', o', c'⟩) hL (cmpT h)
theorem cmp108 {n1 n2 : Nat} {e1 e2 : Nat → Int} {t : Bool} (hL : n1 < 1000000) (h : t = true ↔ n1 = n2 ∧ ∀ k, k < n1 → e1 k = e2 k) : cmpOk 108 n1 n2 e1 e2 t := fun b o c b' o' c' => q108.call (q := ⟨n1, n2, 0, e1, e2, b, o, c, b', o', c'⟩) hL (cmpT h)
end Go.Proofs.YtkkaifeiopjjdaaGreatDoor.ns
