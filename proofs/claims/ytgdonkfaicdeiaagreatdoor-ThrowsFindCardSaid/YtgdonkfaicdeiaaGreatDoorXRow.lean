/-
  Tables with the same meanings; rows of operations on numbers by name, and what each asks.
-/
import Derived.Test.YtgdonkfaicdeiaaGreatDoorXLoop
set_option linter.unusedVariables false
set_option linter.unusedSimpArgs false
set_option linter.unusedSectionVars false
namespace Go.X
open Go.RowKit

/-- two tables that give the same meanings (what is known of operations may differ) -/
structure SameTab (T T' : Tab) : Prop where
  iv : T.iv = T'.iv
  str : T.str = T'.str
  vv : T.vv = T'.vv
  vk : T.vk = T'.vk
  gv : T.gv = T'.gv
  fb : T.fb = T'.fb
  fcap : T.fcap = T'.fcap
  fv : T.fv = T'.fv

mutual
theorem vrel.tab {T T' : Tab} (e : SameTab T T') {μ : M} : ∀ (a : AV) (v : Value), @vrel T μ a v → @vrel T' μ a v
  | .bool _, _, h => by simpa [vrel] using h
  | .int _ _, _, h => by simpa [vrel] using h
  | .str _ _, _, h => by simpa [vrel] using h
  | .nilp, _, h => by simpa [vrel] using h
  | .ptr x o, _, h => by simpa [vrel] using h
  | .nils, _, h => by simpa [vrel] using h
  | .sl x o n c, _, h => by simpa [vrel] using h
  | .so x o n z, _, h => by simpa [vrel] using h
  | .nilm, _, h => by simpa [vrel] using h
  | .map x, _, h => by simpa [vrel] using h
  | .fn f a b, _, h => by
    simp only [vrel] at h ⊢
    obtain ⟨as, bs, h1, h2, h3⟩ := h
    exact ⟨as, bs, h1, vrels.tab e a as h2, vrels.tab e b bs h3⟩
  | .nilf, _, h => by simpa [vrel] using h
  | .iface t x, _, h => by simp only [vrel] at h ⊢; obtain ⟨y, h1, h2⟩ := h; exact ⟨y, h1, vrel.tab e x y h2⟩
  | .nili, _, h => by simpa [vrel] using h
  | .agg l, _, h => by simp only [vrel] at h ⊢; obtain ⟨cs, h1, h2⟩ := h; exact ⟨cs, h1, vrels.tab e l cs h2⟩
  | .tup l, _, h => by simp only [vrel] at h ⊢; obtain ⟨cs, h1, h2⟩ := h; exact ⟨cs, h1, vrels.tab e l cs h2⟩
  | .ostr _, _, h => by simp only [vrel] at h ⊢; rw [← e.str]; exact h
  | .gp _ _, _, h => by simpa [vrel] using h
  | .oi _, _, h => by simp only [vrel] at h ⊢; rw [← e.iv]; exact h
  | .es, _, h => by simpa [vrel] using h
  | .ov _ _ _, _, h => by simp only [vrel] at h ⊢; rw [← e.iv]; exact h
  | .op _ _ _ _, _, h => by simp only [vrel] at h ⊢; rw [← e.iv]; exact h
  | .fo _ _ _, _, h => by simp only [vrel] at h ⊢; rw [← e.iv, ← e.fb, ← e.fcap]; exact h
  | .fp _ _ _ _, _, h => by simp only [vrel] at h ⊢; rw [← e.iv, ← e.fb]; exact h
theorem vrels.tab {T T' : Tab} (e : SameTab T T') {μ : M} : ∀ (a : List AV) (v : List Value), @vrels T μ a v → @vrels T' μ a v
  | [], _, h => by simpa [vrels] using h
  | a :: l, _, h => by
    simp only [vrels] at h ⊢
    obtain ⟨v, r, h1, h2, h3⟩ := h
    exact ⟨v, r, h1, vrel.tab e a v h2, vrels.tab e l r h3⟩
end
theorem esrel.tab {T T' : Tab} (e : SameTab T T') {μ : M} : ∀ {a : List (AV × AV × Nat)} {v : List MapEntry}, @esrel T μ a v → @esrel T' μ a v
  | [], _, h => h
  | a :: l, _, h => by
    simp only [esrel] at h ⊢
    obtain ⟨v, r, h1, h2, h3, h4, h5⟩ := h
    exact ⟨v, r, h1, vrel.tab e _ _ h2, vrel.tab e _ _ h3, h4, esrel.tab e h5⟩
theorem brel.tab {T T' : Tab} (e : SameTab T T') {μ : M} {b : Blk} {l : Loc} {w : World} (h : @brel T μ b l w) : @brel T' μ b l w := by
  cases b with
  | cells n p z t => obtain ⟨arr, el, fz, h1, h2, h3, h4, h5, h6⟩ := h; exact ⟨arr, el, fz, h1, h2, h3, h4, h5, fun i a hi ha => let ⟨v, g1, g2⟩ := h6 i a hi ha; ⟨v, g1, vrel.tab e _ _ g2⟩⟩
  | glob n z t => obtain ⟨arr, el, fz, h1, h2⟩ := h; exact ⟨arr, el, fz, h1, fun i a hi ha => let ⟨v, g1, g2⟩ := h2 i a hi ha; ⟨v, g1, vrel.tab e _ _ g2⟩⟩
  | map es c => obtain ⟨es', h1, h2⟩ := h; exact ⟨es', h1, esrel.tab e h2⟩
  | siter n c pos => exact h
  | miter m since seen st =>
    cases m with
    | none => exact h
    | some x => exact h
  | vec i =>
    obtain ⟨arr, el, fz, h1, h2, h3, h4, h5⟩ := h
    exact ⟨arr, el, fz, h1, h2, h3, by rw [← e.vk]; exact h4, fun m a ha => let ⟨v, g1, g2⟩ := h5 m a (by rw [e.vv]; exact ha); ⟨v, g1, vrel.tab e _ _ g2⟩⟩

variable {P : Program} {B : Kp} {w0 : World} {μ0 : M} {nt : Nat} {a : Act} {w : World}
theorem Gl.tab {T T' : Tab} (e : SameTab T T') (h : @Gl T B w0) : @Gl T' B w0 := by
  refine ⟨fun g o a hg => ?_, fun i m a hg => ?_⟩
  · obtain ⟨h1, v, h2, h3⟩ := h.1 g o a (by rw [e.gv]; exact hg)
    exact ⟨h1, v, h2, vrel.tab e _ _ h3⟩
  · obtain ⟨h1, v, h2, h3⟩ := h.2 i m a (by rw [e.fv]; exact hg)
    rw [← e.fb]
    exact ⟨h1, v, h2, vrel.tab e _ _ h3⟩
theorem St.same {T T' : Tab} (e : SameTab T T') {fr : Fr} {h : H} (s : St T B w0 μ0 nt fr h a w) : St T' B w0 μ0 nt fr h a w := by
  obtain ⟨μ, hx, f, r⟩ := s
  have hf := @HR.fresh T B w0 μ h w r
  obtain ⟨⟨e1, e2, e3, e4, e5, e6⟩, eg, eres, eblk, esep⟩ := @HR.parts B w0 w T μ h r
  refine ⟨μ, hx, ⟨f.1, f.2.1, fun t v ht => ?_⟩, ⟨⟨e1, e2, e3, e4, e5, e6, Gl.tab e eg⟩, hf, eres, fun x b hb => ?_, esep⟩⟩
  · obtain ⟨v', g1, g2⟩ := f.2.2 t v ht
    exact ⟨v', g1, vrel.tab e _ _ g2⟩
  · obtain ⟨l, g1, g2, g3, g4⟩ := eblk x b hb
    exact ⟨l, g1, g2, g3, brel.tab e g4⟩

/-- a table of numbers alone -/
abbrev ivTab (iv : Nat → IntKind × Int) : Tab where
  str := fun _ => default
  ne := fun _ => []
  ok := fun _ p h => by simp at h
  gv := fun _ _ => none
  iv := iv
  ib := []
  ibok := fun _ h => by simp at h
  ic := []
  icok := fun _ h => by simp at h
  iu := []
  iuok := fun _ h => by simp at h
  vv := fun _ _ => none
  vk := fun _ => 0
  vvp := fun _ _ a h => by simp at h
  va := []
  vaok := fun _ h => by simp at h
  vz := []
  vzok := fun _ h => by simp at h
  vn := []
  vnok := fun _ h => by simp at h
  vc := []
  vcok := fun _ h => by simp at h
  fb := fun _ => (0, 0)
  fcap := fun _ => 0
  fv := fun _ _ => none
  fl := []
  flok := fun _ h => by simp at h
  vl := []
  vlok := fun _ h => by simp at h
  vs := []
  vsok := fun _ h => by simp at h

/- rows of operations -/
abbrev BRow := Nat × AV × AV × AV
def IbOk (iv : Nat → IntKind × Int) (r : BRow) : Prop := ∀ op, bcode op = r.1 → ∃ k a k' b v', denI iv r.2.1 = some (k, a) ∧ denI iv r.2.2.1 = some (k', b) ∧ intBin op k a k' b = some v' ∧ outI iv r.2.2.2 v'
variable {iv : Nat → IntKind × Int}
theorem ibNil : ∀ r ∈ ([] : List BRow), IbOk iv r := fun r h => by simp at h
theorem ibCons {r : BRow} {l : List BRow} (h : IbOk iv r) (k : ∀ r ∈ l, IbOk iv r) : ∀ q ∈ r :: l, IbOk iv q := fun q hq => by
  simp only [List.mem_cons] at hq
  rcases hq with rfl | hq
  · exact h
  · exact k q hq

theorem wrapF_is [Tab] (k : IntKind) (n : Int) : wrapF k n = k.wrap n := wrapF_eq k n
theorem wrap64 {n : Int} (h1 : -9223372036854775808 ≤ n) (h2 : n ≤ 9223372036854775807) : IntKind.i64.wrap n = n := by
  unfold IntKind.wrap IntKind.bits IntKind.signed
  simp only [Bool.true_and, decide_eq_true_eq]
  split <;> omega

theorem ibAdd [Tab] {x y z : AV} {a b c : Int} (hx : denI iv x = some (.i64, a)) (hy : denI iv y = some (.i64, b)) (hz : denI iv z = some (.i64, c)) (h : a + b = c) (h1 : -9223372036854775808 ≤ c) (h2 : c ≤ 9223372036854775807) : IbOk iv (0, x, y, z) := by
  intro op hop
  have : op = .add := by cases op <;> simp [bcode] at hop; rfl
  subst this
  refine ⟨.i64, a, .i64, b, _, hx, hy, rfl, ?_⟩
  show denI iv z = some (.i64, wrapF .i64 (Int.add a b))
  rw [wrapF_eq, show Int.add a b = c from h, wrap64 h1 h2]; exact hz
theorem ibSub [Tab] {x y z : AV} {a b c : Int} (hx : denI iv x = some (.i64, a)) (hy : denI iv y = some (.i64, b)) (hz : denI iv z = some (.i64, c)) (h : a - b = c) (h1 : -9223372036854775808 ≤ c) (h2 : c ≤ 9223372036854775807) : IbOk iv (1, x, y, z) := by
  intro op hop
  have : op = .sub := by cases op <;> simp [bcode] at hop; rfl
  subst this
  refine ⟨.i64, a, .i64, b, _, hx, hy, rfl, ?_⟩
  show denI iv z = some (.i64, wrapF .i64 (Int.sub a b))
  rw [wrapF_eq, show Int.sub a b = c from h, wrap64 h1 h2]; exact hz
theorem ibMul [Tab] {x y z : AV} {a b c : Int} (hx : denI iv x = some (.i64, a)) (hy : denI iv y = some (.i64, b)) (hz : denI iv z = some (.i64, c)) (h : a * b = c) (h1 : -9223372036854775808 ≤ c) (h2 : c ≤ 9223372036854775807) : IbOk iv (2, x, y, z) := by
  intro op hop
  have : op = .mul := by cases op <;> simp [bcode] at hop; rfl
  subst this
  refine ⟨.i64, a, .i64, b, _, hx, hy, rfl, ?_⟩
  show denI iv z = some (.i64, wrapF .i64 (Int.mul a b))
  rw [wrapF_eq, show Int.mul a b = c from h, wrap64 h1 h2]; exact hz
theorem ibQuo [Tab] {x y z : AV} {a b c : Int} (hx : denI iv x = some (.i64, a)) (hy : denI iv y = some (.i64, b)) (hz : denI iv z = some (.i64, c)) (h0 : b ≠ 0) (h : a.tdiv b = c) (h1 : -9223372036854775808 ≤ c) (h2 : c ≤ 9223372036854775807) : IbOk iv (3, x, y, z) := by
  intro op hop
  have : op = .quo := by cases op <;> simp [bcode] at hop; rfl
  subst this
  refine ⟨.i64, a, .i64, b, .int .i64 (wrapF .i64 (a.tdiv b)), hx, hy, ?_, ?_⟩
  · show (if b = 0 then none else some (AV.int .i64 (wrapF .i64 (a.tdiv b)))) = _
    rw [if_neg h0]
  show denI iv z = some (.i64, wrapF .i64 (a.tdiv b))
  rw [wrapF_eq, h, wrap64 h1 h2]; exact hz
theorem ibLt {x y : AV} {a b : Int} {t : Bool} (hx : denI iv x = some (.i64, a)) (hy : denI iv y = some (.i64, b)) (h : decide (a < b) = t) : IbOk iv (11, x, y, .bool t) := by
  intro op hop
  have : op = .lss := by cases op <;> simp [bcode] at hop; rfl
  subst this
  refine ⟨.i64, a, .i64, b, _, hx, hy, rfl, ?_⟩
  show AV.bool t = .bool (decide (a < b))
  rw [h]
theorem ibLe {x y : AV} {a b : Int} {t : Bool} (hx : denI iv x = some (.i64, a)) (hy : denI iv y = some (.i64, b)) (h : decide (a ≤ b) = t) : IbOk iv (12, x, y, .bool t) := by
  intro op hop
  have : op = .leq := by cases op <;> simp [bcode] at hop; rfl
  subst this
  refine ⟨.i64, a, .i64, b, _, hx, hy, rfl, ?_⟩
  show AV.bool t = .bool (decide (a ≤ b))
  rw [h]
theorem ibGt {x y : AV} {a b : Int} {t : Bool} (hx : denI iv x = some (.i64, a)) (hy : denI iv y = some (.i64, b)) (h : decide (a > b) = t) : IbOk iv (13, x, y, .bool t) := by
  intro op hop
  have : op = .gtr := by cases op <;> simp [bcode] at hop; rfl
  subst this
  refine ⟨.i64, a, .i64, b, _, hx, hy, rfl, ?_⟩
  show AV.bool t = .bool (decide (a > b))
  rw [h]
theorem ibGe {x y : AV} {a b : Int} {t : Bool} (hx : denI iv x = some (.i64, a)) (hy : denI iv y = some (.i64, b)) (h : decide (a ≥ b) = t) : IbOk iv (14, x, y, .bool t) := by
  intro op hop
  have : op = .geq := by cases op <;> simp [bcode] at hop; rfl
  subst this
  refine ⟨.i64, a, .i64, b, _, hx, hy, rfl, ?_⟩
  show AV.bool t = .bool (decide (a ≥ b))
  rw [h]
theorem ibEq {x y : AV} {a b : Int} {t : Bool} (hx : denI iv x = some (.i64, a)) (hy : denI iv y = some (.i64, b)) (h : decide (a = b) = t) : IbOk iv (9, x, y, .bool t) := by
  intro op hop
  have : op = .eql := by cases op <;> simp [bcode] at hop; rfl
  subst this
  refine ⟨.i64, a, .i64, b, _, hx, hy, rfl, ?_⟩
  show AV.bool t = .bool (a == b)
  rw [← h]; congr 1
theorem ibNe {x y : AV} {a b : Int} {t : Bool} (hx : denI iv x = some (.i64, a)) (hy : denI iv y = some (.i64, b)) (h : decide (a = b) = !t) : IbOk iv (10, x, y, .bool t) := by
  intro op hop
  have : op = .neq := by cases op <;> simp [bcode] at hop; rfl
  subst this
  refine ⟨.i64, a, .i64, b, _, hx, hy, rfl, ?_⟩
  show AV.bool t = .bool (a != b)
  have : (a == b) = decide (a = b) := rfl
  rw [bne, this, h]; simp

theorem ipNil {T T' : Tab} : IpOk T T' [] := fun p h => by simp at h
theorem ipCons {T T' : Tab} {p : AV × Nat} {l : IP} (h : IpOk1 T T' p) (k : IpOk T T' l) : IpOk T T' (p :: l) := fun q hq => by
  simp only [List.mem_cons] at hq
  rcases hq with rfl | hq
  · exact h
  · exact k q hq
theorem vpNil {T T' : Tab} {C : Cv} : VpOk T T' C [] := fun p h => by simp at h
theorem vpCons {T T' : Tab} {C : Cv} {p : Nat × Blk × Nat} {l : VP} (h : own p.2.1 = true ∧ ∀ μ l w, @brel T μ p.2.1 l w → @brel T' (ren C.N0 C.rn μ) (.vec p.2.2) l w) (k : VpOk T T' C l) : VpOk T T' C (p :: l) := fun q hq => by
  simp only [List.mem_cons] at hq
  rcases hq with rfl | hq
  · exact h
  · exact k q hq

/-- a table of numbers and vectors -/
structure VRows (iv : Nat → IntKind × Int) (vv : Nat → Nat → Option AV) (vk : Nat → Nat) where
  vvp : ∀ i m a, vv i m = some a → plain a = true
  ib : List BRow
  ibok : ∀ r ∈ ib, IbOk iv r
  ic : List (IntKind × AV × AV) := []
  icok : ∀ r ∈ ic, ∃ k n, denI iv r.2.1 = some (k, n) ∧ denI iv r.2.2 = some (r.1, r.1.wrap n) := by exact fun _ h => nomatch h
  va : List VA := []
  vaok : ∀ r ∈ va, isLen (iv r.j) ∧ isLen (iv r.j') ∧ (iv r.j').2.toNat * r.z = (iv r.j).2.toNat * r.z + r.src.length ∧ (iv r.j').2.toNat < limit ∧ vk r.i' ≤ (iv r.j').2.toNat * r.z ∧
    ∀ m a, vv r.i' m = some a → ∃ b, (if m < (iv r.j).2.toNat * r.z then vv r.i m else r.src[m - (iv r.j).2.toNat * r.z]?) = some b ∧ sameAV iv b a := by exact fun _ h => nomatch h
  vz : List VZ := []
  vzok : ∀ r ∈ vz, isLen (iv r.j) ∧ isLen (iv r.k) ∧ isLen (iv r.j') ∧ (iv r.j').2 = (iv r.j).2 + (iv r.k).2 ∧ (iv r.j').2.toNat < limit ∧ vk r.i' ≤ (iv r.j').2.toNat * r.z ∧
    ∀ m a, vv r.i' m = some a → m < (iv r.j').2.toNat * r.z ∧ ∃ b, (if m < (iv r.j).2.toNat * r.z then vv r.i m else r.zc[(m - (iv r.j).2.toNat * r.z) % r.zc.length]?) = some b ∧ sameAV iv b a := by exact fun _ h => nomatch h
  vn : List VN := []
  vnok : ∀ r ∈ vn, isLen (iv r.k) ∧ 0 < (iv r.k).2 ∧ iv r.j' = iv r.k ∧ (iv r.k).2.toNat < limit ∧ vk r.i' ≤ (iv r.k).2.toNat * r.z ∧
    ∀ m a, vv r.i' m = some a → m < (iv r.k).2.toNat * r.z ∧ ∃ b, r.zc[m % r.zc.length]? = some b ∧ sameAV iv b a := by exact fun _ h => nomatch h
  vc : List (Nat × Nat) := []
  vcok : ∀ p ∈ vc, iv p.2 = (.i64, (p.1 : Int)) := by exact fun _ h => nomatch h
  vl : List VL := []
  vlok : ∀ r ∈ vl, isLen (iv r.k) ∧ ∀ m b, r.l[m]? = some b → ∃ a, vv r.i ((iv r.k).2.toNat * r.z + r.f + m) = some a ∧ sameAV iv a b := by exact fun _ h => nomatch h
  vs : List VS := []
  vsok : ∀ r ∈ vs, isLen (iv r.k) ∧ (iv r.k).2.toNat * r.z + r.f + r.l.length ≤ vk r.i ∧ vk r.i' ≤ vk r.i ∧
    ∀ m a, vv r.i' m = some a → ∃ b, (if (iv r.k).2.toNat * r.z + r.f ≤ m ∧ m < (iv r.k).2.toNat * r.z + r.f + r.l.length then r.l[m - ((iv r.k).2.toNat * r.z + r.f)]? else vv r.i m) = some b ∧ sameAV iv b a := by exact fun _ h => nomatch h
abbrev VRows.tab {iv : Nat → IntKind × Int} {vv : Nat → Nat → Option AV} {vk : Nat → Nat} (R : VRows iv vv vk) : Tab where
  str := fun _ => default
  ne := fun _ => []
  ok := fun _ p h => by simp at h
  gv := fun _ _ => none
  iv := iv
  ib := R.ib
  ibok := R.ibok
  ic := R.ic
  icok := R.icok
  iu := []
  iuok := fun _ h => by simp at h
  vv := vv
  vk := vk
  vvp := R.vvp
  va := R.va
  vaok := R.vaok
  vz := R.vz
  vzok := R.vzok
  vn := R.vn
  vnok := R.vnok
  vc := R.vc
  vcok := R.vcok
  fb := fun _ => (0, 0)
  fcap := fun _ => 0
  fv := fun _ _ => none
  fl := []
  flok := fun _ h => by simp at h
  vl := R.vl
  vlok := R.vlok
  vs := R.vs
  vsok := R.vsok
/-- without rows -/
abbrev bare (iv : Nat → IntKind × Int) (vv : Nat → Nat → Option AV) (vk : Nat → Nat) (h : ∀ i m a, vv i m = some a → plain a = true) : VRows iv vv vk := { vvp := h, ib := [], ibok := ibNil }
theorem VRows.same {iv : Nat → IntKind × Int} {vv : Nat → Nat → Option AV} {vk : Nat → Nat} (R R' : VRows iv vv vk) : SameTab R.tab R'.tab := ⟨rfl, rfl, rfl, rfl, rfl, rfl, rfl, rfl⟩
abbrev noV : Nat → Nat → Option AV := fun _ _ => none
abbrev noK : Nat → Nat := fun _ => 0
theorem noVp : ∀ i m a, noV i m = some a → plain a = true := fun _ _ _ h => by cases h

theorem glNone {T T' : Tab} (h : T'.gv = fun _ _ => none) (h2 : T'.fv = fun _ _ => none) : @Gl T B w0 → @Gl T' B w0 := fun _ => ⟨fun g o a hg => (by rw [h] at hg; cases hg), fun i m a hg => (by rw [h2] at hg; cases hg)⟩

def isRow : Blk → Bool
  | .cells .. => true
  | .vec _ => true
  | _ => false
/-- a row of which nothing more is known -/
theorem toVec {T T' : Tab} {C : Cv} {x i : Nat} {b : Blk} (hb : isRow b = true) (hv : ∀ m, T'.vv i m = none) (hk : T'.vk i = 0) :
    own (x, b, i).2.1 = true ∧ ∀ μ l w, @brel T μ (x, b, i).2.1 l w → @brel T' (ren C.N0 C.rn μ) (.vec (x, b, i).2.2) l w := by
  cases b with
  | cells n p z t =>
    refine ⟨rfl, fun μ l w h => ?_⟩
    obtain ⟨arr, el, fz, h1, h2, h3, h4, h5, h6⟩ := h
    exact ⟨arr, el, fz, h1, h2, h3, by rw [hk]; omega, fun m a ha => by rw [hv] at ha; cases ha⟩
  | vec j =>
    refine ⟨rfl, fun μ l w h => ?_⟩
    obtain ⟨arr, el, fz, h1, h2, h3, h4, h5⟩ := h
    exact ⟨arr, el, fz, h1, h2, h3, by rw [hk]; omega, fun m a ha => by rw [hv] at ha; cases ha⟩
  | _ => simp [isRow] at hb

/- rows of vectors of which nothing but the length is known -/
section
variable {iv : Nat → IntKind × Int}
abbrev VaOk (iv : Nat → IntKind × Int) (vv : Nat → Nat → Option AV) (vk : Nat → Nat) (r : VA) : Prop := isLen (iv r.j) ∧ isLen (iv r.j') ∧ (iv r.j').2.toNat * r.z = (iv r.j).2.toNat * r.z + r.src.length ∧ (iv r.j').2.toNat < limit ∧ vk r.i' ≤ (iv r.j').2.toNat * r.z ∧
    ∀ m a, vv r.i' m = some a → ∃ b, (if m < (iv r.j).2.toNat * r.z then vv r.i m else r.src[m - (iv r.j).2.toNat * r.z]?) = some b ∧ sameAV iv b a
abbrev VzOk (iv : Nat → IntKind × Int) (vv : Nat → Nat → Option AV) (vk : Nat → Nat) (r : VZ) : Prop := isLen (iv r.j) ∧ isLen (iv r.k) ∧ isLen (iv r.j') ∧ (iv r.j').2 = (iv r.j).2 + (iv r.k).2 ∧ (iv r.j').2.toNat < limit ∧ vk r.i' ≤ (iv r.j').2.toNat * r.z ∧
    ∀ m a, vv r.i' m = some a → m < (iv r.j').2.toNat * r.z ∧ ∃ b, (if m < (iv r.j).2.toNat * r.z then vv r.i m else r.zc[(m - (iv r.j).2.toNat * r.z) % r.zc.length]?) = some b ∧ sameAV iv b a
abbrev VnOk (iv : Nat → IntKind × Int) (vv : Nat → Nat → Option AV) (vk : Nat → Nat) (r : VN) : Prop := isLen (iv r.k) ∧ 0 < (iv r.k).2 ∧ iv r.j' = iv r.k ∧ (iv r.k).2.toNat < limit ∧ vk r.i' ≤ (iv r.k).2.toNat * r.z ∧
    ∀ m a, vv r.i' m = some a → m < (iv r.k).2.toNat * r.z ∧ ∃ b, r.zc[m % r.zc.length]? = some b ∧ sameAV iv b a
theorem allNil {α : Type} {p : α → Prop} : ∀ r ∈ ([] : List α), p r := fun r h => by simp at h
theorem allCons {α : Type} {p : α → Prop} {x : α} {l : List α} (h : p x) (k : ∀ r ∈ l, p r) : ∀ r ∈ x :: l, p r := fun r hr => by
  simp only [List.mem_cons] at hr
  rcases hr with rfl | hr
  · exact h
  · exact k r hr
theorem va0 {r : VA} {a b : Int} {c : Nat} (ha : iv r.j = (.i64, a)) (hb : iv r.j' = (.i64, b)) (h0 : 0 ≤ a) (hc : r.src.length = c * r.z) (h : b = a + c) (hl : b < 1000000) : VaOk iv noV noK r := by
  refine ⟨by rw [ha]; exact ⟨rfl, h0⟩, by rw [hb]; exact ⟨rfl, by show 0 ≤ b; omega⟩, ?_, ?_, Nat.zero_le _, fun m a h => by cases h⟩
  · rw [ha, hb, hc]
    show b.toNat * r.z = a.toNat * r.z + c * r.z
    rw [← Nat.add_mul]
    congr 1
    omega
  · rw [hb]; show b.toNat < limit; unfold limit; omega
theorem vz0 {r : VZ} {a b c : Int} (ha : iv r.j = (.i64, a)) (hc : iv r.k = (.i64, c)) (hb : iv r.j' = (.i64, b)) (h0 : 0 ≤ a) (h1 : 0 ≤ c) (h : b = a + c) (hl : b < 1000000) : VzOk iv noV noK r := by
  refine ⟨by rw [ha]; exact ⟨rfl, h0⟩, by rw [hc]; exact ⟨rfl, h1⟩, by rw [hb]; exact ⟨rfl, by show 0 ≤ b; omega⟩, ?_, ?_, Nat.zero_le _, fun m a h => by cases h⟩
  · rw [ha, hb, hc]; exact h
  · rw [hb]; show b.toNat < limit; unfold limit; omega
theorem vn0 {r : VN} {c : Int} (hc : iv r.k = (.i64, c)) (hb : iv r.j' = (.i64, c)) (h1 : 0 < c) (hl : c < 1000000) : VnOk iv noV noK r := by
  refine ⟨by rw [hc]; exact ⟨rfl, by show 0 ≤ c; omega⟩, by rw [hc]; exact h1, by rw [hc, hb], ?_, Nat.zero_le _, fun m a h => by cases h⟩
  rw [hc]; show c.toNat < limit; unfold limit; omega
end

/- vectors of numbers, of truths: what is known of their first cells -/
def intV (A : Nat) (e : Nat → Int) : Nat → Option AV := fun m => if m < A then some (.int .i64 (e m)) else none
def boolV (A : Nat) (e : Nat → Bool) : Nat → Option AV := fun m => if m < A then some (.bool (e m)) else none
theorem intV_some {A : Nat} {e : Nat → Int} {m : Nat} {a : AV} (h : intV A e m = some a) : m < A ∧ a = .int .i64 (e m) := by
  unfold intV at h
  split at h
  · cases h; exact ⟨‹_›, rfl⟩
  · cases h
theorem boolV_some {A : Nat} {e : Nat → Bool} {m : Nat} {a : AV} (h : boolV A e m = some a) : m < A ∧ a = .bool (e m) := by
  unfold boolV at h
  split at h
  · cases h; exact ⟨‹_›, rfl⟩
  · cases h
theorem intV_lt {A : Nat} {e : Nat → Int} {m : Nat} (h : m < A) : intV A e m = some (.int .i64 (e m)) := by unfold intV; rw [if_pos h]
theorem boolV_lt {A : Nat} {e : Nat → Bool} {m : Nat} (h : m < A) : boolV A e m = some (.bool (e m)) := by unfold boolV; rw [if_pos h]
section
variable {iv : Nat → IntKind × Int} {vv : Nat → Nat → Option AV} {vk : Nat → Nat}
theorem sameInt {b : AV} {n : Int} (h : denI iv b = some (.i64, n)) : sameAV iv b (.int .i64 n) := .inr ⟨_, h, rfl⟩
theorem sameInt' {b : AV} {n : Int} (h : denI iv b = some (.i64, n)) : sameAV iv (.int .i64 n) b := .inr ⟨_, rfl, h⟩

theorem vaI {r : VA} {a b : Nat} {A' : Nat} {e e' : Nat → Int} (ha : iv r.j = (.i64, (a : Int))) (hb : iv r.j' = (.i64, (b : Int))) (h0 : vv r.i = intV (a * r.z) e) (h1 : vv r.i' = intV A' e') (hk : vk r.i' = A')
    (hA : A' = a * r.z + r.src.length) (hB : b * r.z = A') (hl : b < 1000000) (he : ∀ m, m < a * r.z → e' m = e m) (hs : ∀ q x, r.src[q]? = some x → denI iv x = some (.i64, e' (a * r.z + q))) : VaOk iv vv vk r := by
  refine ⟨by rw [ha]; exact ⟨rfl, Int.natCast_nonneg _⟩, by rw [hb]; exact ⟨rfl, Int.natCast_nonneg _⟩, by rw [ha, hb]; simpa using hB.trans hA, by rw [hb]; simpa [limit] using hl, by rw [hb, hk]; simp [hB], ?_⟩
  intro m x hx
  rw [h1] at hx
  obtain ⟨hm, rfl⟩ := intV_some hx
  rw [ha]
  simp only [Int.toNat_natCast]
  by_cases c : m < a * r.z
  · exact ⟨.int .i64 (e' m), by rw [if_pos c, h0, intV_lt c, he m c], .inl rfl⟩
  · rw [if_neg c]
    have hq : m - a * r.z < r.src.length := by omega
    refine ⟨r.src[m - a * r.z], by rw [List.getElem?_eq_getElem hq], sameInt ?_⟩
    have := hs (m - a * r.z) _ (List.getElem?_eq_getElem hq)
    rw [this]
    congr 3
    omega
theorem vaB {r : VA} {a b : Nat} {A' : Nat} {e e' : Nat → Bool} (ha : iv r.j = (.i64, (a : Int))) (hb : iv r.j' = (.i64, (b : Int))) (h0 : vv r.i = boolV (a * r.z) e) (h1 : vv r.i' = boolV A' e') (hk : vk r.i' = A')
    (hA : A' = a * r.z + r.src.length) (hB : b * r.z = A') (hl : b < 1000000) (he : ∀ m, m < a * r.z → e' m = e m) (hs : ∀ (q : Nat) (x : AV), r.src[q]? = some x → x = .bool (e' (a * r.z + q))) : VaOk iv vv vk r := by
  refine ⟨by rw [ha]; exact ⟨rfl, Int.natCast_nonneg _⟩, by rw [hb]; exact ⟨rfl, Int.natCast_nonneg _⟩, by rw [ha, hb]; simpa using hB.trans hA, by rw [hb]; simpa [limit] using hl, by rw [hb, hk]; simp [hB], ?_⟩
  intro m x hx
  rw [h1] at hx
  obtain ⟨hm, rfl⟩ := boolV_some hx
  rw [ha]
  simp only [Int.toNat_natCast]
  by_cases c : m < a * r.z
  · exact ⟨.bool (e' m), by rw [if_pos c, h0, boolV_lt c, he m c], .inl rfl⟩
  · rw [if_neg c]
    have hq : m - a * r.z < r.src.length := by omega
    refine ⟨r.src[m - a * r.z], by rw [List.getElem?_eq_getElem hq], .inl ?_⟩
    have := hs (m - a * r.z) _ (List.getElem?_eq_getElem hq)
    rw [this]
    congr 2
    omega
theorem vzI {r : VZ} {a b c : Nat} {e e' : Nat → Int} (ha : iv r.j = (.i64, (a : Int))) (hc : iv r.k = (.i64, (c : Int))) (hb : iv r.j' = (.i64, (b : Int))) (h0 : vv r.i = intV a e) (h1 : vv r.i' = intV b e') (hk : vk r.i' = b) (hz : r.z = 1) (hzc : r.zc = [.int .i64 0])
    (hA : b = a + c) (hl : b < 1000000) (he : ∀ m, m < a → e' m = e m) (hs : ∀ m, a ≤ m → m < b → e' m = 0) : VzOk iv vv vk r := by
  refine ⟨by rw [ha]; exact ⟨rfl, Int.natCast_nonneg _⟩, by rw [hc]; exact ⟨rfl, Int.natCast_nonneg _⟩, by rw [hb]; exact ⟨rfl, Int.natCast_nonneg _⟩, by rw [ha, hb, hc, hA]; simp, by rw [hb]; simpa [limit] using hl, by rw [hb, hk, hz]; simp, ?_⟩
  intro m x hx
  rw [h1] at hx
  obtain ⟨hm, rfl⟩ := intV_some hx
  rw [ha, hb, hz, hzc]
  simp only [Int.toNat_natCast, Nat.mul_one]
  refine ⟨hm, ?_⟩
  by_cases c : m < a
  · exact ⟨.int .i64 (e' m), by rw [if_pos c, h0, intV_lt c, he m c], .inl rfl⟩
  · rw [if_neg c]
    exact ⟨.int .i64 0, by simp [Nat.mod_one], .inl (by rw [hs m (by omega) hm])⟩
theorem vzB {r : VZ} {a b c : Nat} {e e' : Nat → Bool} (ha : iv r.j = (.i64, (a : Int))) (hc : iv r.k = (.i64, (c : Int))) (hb : iv r.j' = (.i64, (b : Int))) (h0 : vv r.i = boolV a e) (h1 : vv r.i' = boolV b e') (hk : vk r.i' = b) (hz : r.z = 1) (hzc : r.zc = [.bool false])
    (hA : b = a + c) (hl : b < 1000000) (he : ∀ m, m < a → e' m = e m) (hs : ∀ m, a ≤ m → m < b → e' m = false) : VzOk iv vv vk r := by
  refine ⟨by rw [ha]; exact ⟨rfl, Int.natCast_nonneg _⟩, by rw [hc]; exact ⟨rfl, Int.natCast_nonneg _⟩, by rw [hb]; exact ⟨rfl, Int.natCast_nonneg _⟩, by rw [ha, hb, hc, hA]; simp, by rw [hb]; simpa [limit] using hl, by rw [hb, hk, hz]; simp, ?_⟩
  intro m x hx
  rw [h1] at hx
  obtain ⟨hm, rfl⟩ := boolV_some hx
  rw [ha, hb, hz, hzc]
  simp only [Int.toNat_natCast, Nat.mul_one]
  refine ⟨hm, ?_⟩
  by_cases c : m < a
  · exact ⟨.bool (e' m), by rw [if_pos c, h0, boolV_lt c, he m c], .inl rfl⟩
  · rw [if_neg c]
    exact ⟨.bool false, by simp [Nat.mod_one], .inl (by rw [hs m (by omega) hm])⟩
theorem vnI {r : VN} {c : Nat} {e' : Nat → Int} (hc : iv r.k = (.i64, (c : Int))) (hb : iv r.j' = (.i64, (c : Int))) (h1 : vv r.i' = intV c e') (hk : vk r.i' = c) (hz : r.z = 1) (hzc : r.zc = [.int .i64 0]) (h0 : 0 < c) (hl : c < 1000000) (hs : ∀ m, m < c → e' m = 0) : VnOk iv vv vk r := by
  refine ⟨by rw [hc]; exact ⟨rfl, Int.natCast_nonneg _⟩, by rw [hc]; exact Int.natCast_pos.2 h0, by rw [hc, hb], by rw [hc]; simpa [limit] using hl, by rw [hc, hk, hz]; simp, ?_⟩
  intro m x hx
  rw [h1] at hx
  obtain ⟨hm, rfl⟩ := intV_some hx
  rw [hc, hz, hzc]
  exact ⟨by simpa using hm, .int .i64 0, by simp [Nat.mod_one], .inl (by rw [hs m hm])⟩
theorem vnB {r : VN} {c : Nat} {e' : Nat → Bool} (hc : iv r.k = (.i64, (c : Int))) (hb : iv r.j' = (.i64, (c : Int))) (h1 : vv r.i' = boolV c e') (hk : vk r.i' = c) (hz : r.z = 1) (hzc : r.zc = [.bool false]) (h0 : 0 < c) (hl : c < 1000000) (hs : ∀ m, m < c → e' m = false) : VnOk iv vv vk r := by
  refine ⟨by rw [hc]; exact ⟨rfl, Int.natCast_nonneg _⟩, by rw [hc]; exact Int.natCast_pos.2 h0, by rw [hc, hb], by rw [hc]; simpa [limit] using hl, by rw [hc, hk, hz]; simp, ?_⟩
  intro m x hx
  rw [h1] at hx
  obtain ⟨hm, rfl⟩ := boolV_some hx
  rw [hc, hz, hzc]
  exact ⟨by simpa using hm, .bool false, by simp [Nat.mod_one], .inl (by rw [hs m hm])⟩
abbrev VlOk (iv : Nat → IntKind × Int) (vv : Nat → Nat → Option AV) (r : VL) : Prop := isLen (iv r.k) ∧ ∀ m b, r.l[m]? = some b → ∃ a, vv r.i ((iv r.k).2.toNat * r.z + r.f + m) = some a ∧ sameAV iv a b
theorem vlI {r : VL} {k A : Nat} {e : Nat → Int} {b : AV} (hk : iv r.k = (.i64, (k : Int))) (h0 : vv r.i = intV A e) (hl : r.l = [b]) (ho : k * r.z + r.f < A) (hb : denI iv b = some (.i64, e (k * r.z + r.f))) : VlOk iv vv r := by
  refine ⟨by rw [hk]; exact ⟨rfl, Int.natCast_nonneg _⟩, fun m x hx => ?_⟩
  rw [hl] at hx
  cases m with
  | succ m => simp at hx
  | zero =>
    simp only [List.getElem?_cons_zero, Option.some.injEq] at hx
    subst hx
    rw [hk, h0]
    simp only [Int.toNat_natCast, Nat.add_zero]
    exact ⟨_, intV_lt ho, sameInt' hb⟩
theorem vlB {r : VL} {k A : Nat} {e : Nat → Bool} {b : Bool} (hk : iv r.k = (.i64, (k : Int))) (h0 : vv r.i = boolV A e) (hl : r.l = [.bool b]) (ho : k * r.z + r.f < A) (hb : e (k * r.z + r.f) = b) : VlOk iv vv r := by
  refine ⟨by rw [hk]; exact ⟨rfl, Int.natCast_nonneg _⟩, fun m x hx => ?_⟩
  rw [hl] at hx
  cases m with
  | succ m => simp at hx
  | zero =>
    simp only [List.getElem?_cons_zero, Option.some.injEq] at hx
    subst hx
    rw [hk, h0]
    simp only [Int.toNat_natCast, Nat.add_zero]
    exact ⟨_, boolV_lt ho, .inl (by rw [hb])⟩
abbrev VsOk (iv : Nat → IntKind × Int) (vv : Nat → Nat → Option AV) (vk : Nat → Nat) (r : VS) : Prop := isLen (iv r.k) ∧ (iv r.k).2.toNat * r.z + r.f + r.l.length ≤ vk r.i ∧ vk r.i' ≤ vk r.i ∧
    ∀ m a, vv r.i' m = some a → ∃ b, (if (iv r.k).2.toNat * r.z + r.f ≤ m ∧ m < (iv r.k).2.toNat * r.z + r.f + r.l.length then r.l[m - ((iv r.k).2.toNat * r.z + r.f)]? else vv r.i m) = some b ∧ sameAV iv b a
theorem vsI {r : VS} {k A : Nat} {e e' : Nat → Int} {b : AV} (hk : iv r.k = (.i64, (k : Int))) (h0 : vv r.i = intV A e) (h1 : vv r.i' = intV A e') (hv : vk r.i = A) (hv' : vk r.i' = A) (hl : r.l = [b]) (ho : k * r.z + r.f < A) (hb : denI iv b = some (.i64, e' (k * r.z + r.f))) (he : ∀ m, m < A → m ≠ k * r.z + r.f → e' m = e m) : VsOk iv vv vk r := by
  refine ⟨by rw [hk]; exact ⟨rfl, Int.natCast_nonneg _⟩, by rw [hk, hv, hl]; simpa [Nat.succ_le_iff] using ho, by rw [hv, hv']; exact Nat.le_refl _, fun m x hx => ?_⟩
  rw [h1] at hx
  obtain ⟨hm, rfl⟩ := intV_some hx
  rw [hk, hl, h0]
  simp only [Int.toNat_natCast, List.length_singleton]
  by_cases c : m = k * r.z + r.f
  · subst c
    rw [if_pos (by omega)]
    exact ⟨b, by simp, sameInt hb⟩
  · rw [if_neg (by omega)]
    exact ⟨_, intV_lt hm, .inl (by rw [he m hm c])⟩
theorem vsB {r : VS} {k A : Nat} {e e' : Nat → Bool} {b : Bool} (hk : iv r.k = (.i64, (k : Int))) (h0 : vv r.i = boolV A e) (h1 : vv r.i' = boolV A e') (hv : vk r.i = A) (hv' : vk r.i' = A) (hl : r.l = [.bool b]) (ho : k * r.z + r.f < A) (hb : e' (k * r.z + r.f) = b) (he : ∀ m, m < A → m ≠ k * r.z + r.f → e' m = e m) : VsOk iv vv vk r := by
  refine ⟨by rw [hk]; exact ⟨rfl, Int.natCast_nonneg _⟩, by rw [hk, hv, hl]; simpa [Nat.succ_le_iff] using ho, by rw [hv, hv']; exact Nat.le_refl _, fun m x hx => ?_⟩
  rw [h1] at hx
  obtain ⟨hm, rfl⟩ := boolV_some hx
  rw [hk, hl, h0]
  simp only [Int.toNat_natCast, List.length_singleton]
  by_cases c : m = k * r.z + r.f
  · subst c
    rw [if_pos (by omega)]
    exact ⟨.bool b, by simp, .inl (by rw [hb])⟩
  · rw [if_neg (by omega)]
    exact ⟨_, boolV_lt hm, .inl (by rw [he m hm c])⟩
end

/-- a vector told again: its first cells -/
theorem vecSub {T T' : Tab} {C : Cv} {x i i' : Nat} (hv : ∀ m a, T'.vv i' m = some a → T.vv i m = some a ∧ ((∃ n, a = .int .i64 n) ∨ ∃ b, a = .bool b)) (hk : T'.vk i' ≤ T.vk i) :
    own (x, (.vec i : Blk), i').2.1 = true ∧ ∀ μ l w, @brel T μ (x, (.vec i : Blk), i').2.1 l w → @brel T' (ren C.N0 C.rn μ) (.vec (x, (.vec i : Blk), i').2.2) l w := by
  refine ⟨rfl, fun μ l w h => ?_⟩
  obtain ⟨arr, el, fz, h1, h2, h3, h4, h5⟩ := h
  refine ⟨arr, el, fz, h1, h2, h3, by dsimp only; omega, fun m a ha => ?_⟩
  obtain ⟨g1, g2⟩ := hv m a ha
  obtain ⟨v, v1, v2⟩ := h5 m a g1
  refine ⟨v, v1, ?_⟩
  rcases g2 with ⟨n, rfl⟩ | ⟨b, rfl⟩
  · simpa [vrel] using v2
  · simpa [vrel] using v2
theorem intV_sub {A A' : Nat} {e : Nat → Int} (h : A' ≤ A) : ∀ m a, intV A' e m = some a → intV A e m = some a ∧ ((∃ n, a = .int .i64 n) ∨ ∃ b, a = .bool b) := fun m a ha => by
  obtain ⟨hm, rfl⟩ := intV_some ha
  exact ⟨intV_lt (by omega), .inl ⟨_, rfl⟩⟩
theorem boolV_sub {A A' : Nat} {e : Nat → Bool} (h : A' ≤ A) : ∀ m a, boolV A' e m = some a → boolV A e m = some a ∧ ((∃ n, a = .int .i64 n) ∨ ∃ b, a = .bool b) := fun m a ha => by
  obtain ⟨hm, rfl⟩ := boolV_some ha
  exact ⟨boolV_lt (by omega), .inr ⟨_, rfl⟩⟩
/-- a row of known cells becomes a vector -/
theorem rowVec {T T' : Tab} {C : Cv} {x i : Nat} {l : List AV} {opn : Bool} (hlim : l.length < limit) (hv : ∀ m a, T'.vv i m = some a → ∃ b, l[m]? = some b ∧ ((∃ n, denI T.iv b = some (.i64, n) ∧ a = .int .i64 n) ∨ ∃ c, b = .bool c ∧ a = .bool c)) (hk : T'.vk i ≤ l.length) :
    own (x, rowOf l opn, i).2.1 = true ∧ ∀ μ p w, @brel T μ (x, rowOf l opn, i).2.1 p w → @brel T' (ren C.N0 C.rn μ) (.vec (x, rowOf l opn, i).2.2) p w := by
  refine ⟨rfl, fun μ p w h => ?_⟩
  obtain ⟨arr, el, fz, h1, h2, h3, h4, h5, h6⟩ := h
  refine ⟨arr, el, fz, h1, h2, h3, by dsimp only; omega, fun m a ha => ?_⟩
  obtain ⟨b, g1, g2⟩ := hv m a ha
  have hm : m < l.length := (List.getElem?_eq_some_iff.1 g1).1
  obtain ⟨v, v1, v2⟩ := h6 m b hm (by rw [@cellOf_row T _ _ hlim]; exact g1)
  refine ⟨v, v1, ?_⟩
  rcases g2 with ⟨n, g3, rfl⟩ | ⟨c, rfl, rfl⟩
  · cases b <;> simp [denI] at g3
    · obtain ⟨rfl, rfl⟩ := g3; simpa [vrel] using v2
    · simp only [vrel] at v2 ⊢; rw [v2, g3]
  · simpa [vrel] using v2

theorem ibRem [Tab] {iv : Nat → IntKind × Int} {x y z : AV} {a b c : Int} (hx : denI iv x = some (.i64, a)) (hy : denI iv y = some (.i64, b)) (hz : denI iv z = some (.i64, c)) (h0 : b ≠ 0) (h : a.tmod b = c) : IbOk iv (4, x, y, z) := by
  intro op hop
  have : op = .rem := by cases op <;> simp [bcode] at hop; rfl
  subst this
  refine ⟨.i64, a, .i64, b, .int .i64 (a.tmod b), hx, hy, ?_, ?_⟩
  · show (if b = 0 then none else some (AV.int .i64 (a.tmod b))) = _
    rw [if_neg h0]
  show denI iv z = some (.i64, a.tmod b)
  rw [h]; exact hz

/-- a state in which a call has returned true -/
theorem St.yes [τ : Tab] {fn : Func} {fr : Fr} {h h' : H} (hl : leaves P fn .ret fr h = some (.bool true, h')) (s : St τ B w0 μ0 fn.ntmps fr h a w) : Yes P fn B w0 .ret a w := by
  obtain ⟨μ, _, f, r⟩ := s
  obtain ⟨⟨e1, e2, e3, e4, e5, _⟩, _⟩ := r.parts
  obtain ⟨v, hv, e⟩ := ob_some (show ob _ _ = _ from hl)
  cases e
  obtain ⟨v', k1, k2⟩ := results_sound (P := P) f r hv
  simp only [vrel] at k2
  subst k2
  exact ⟨.inr rfl, f.2.1, ⟨e1, e2, e3, e4, e5⟩, k1⟩

theorem ic64 {iv : Nat → IntKind × Int} {k : IntKind} {x y : AV} {n : Int} (hx : denI iv x = some (k, n)) (hy : denI iv y = some (.i64, n)) (h1 : -9223372036854775808 ≤ n) (h2 : n ≤ 9223372036854775807) : ∃ k' m, denI iv ((IntKind.i64, x, y) : IntKind × AV × AV).2.1 = some (k', m) ∧ denI iv ((IntKind.i64, x, y) : IntKind × AV × AV).2.2 = some (.i64, IntKind.i64.wrap m) :=
  ⟨k, n, hx, by rw [wrap64 h1 h2]; exact hy⟩
theorem wrapU64 {n : Int} (h1 : 0 ≤ n) (h2 : n ≤ 18446744073709551615) : IntKind.u64.wrap n = n := by
  unfold IntKind.wrap IntKind.bits IntKind.signed
  simp only [Bool.false_and, Bool.false_eq_true, if_false]
  omega
theorem icU64 {iv : Nat → IntKind × Int} {k : IntKind} {x y : AV} {n : Int} (hx : denI iv x = some (k, n)) (hy : denI iv y = some (.u64, n)) (h1 : 0 ≤ n) (h2 : n ≤ 18446744073709551615) : ∃ k' m, denI iv ((IntKind.u64, x, y) : IntKind × AV × AV).2.1 = some (k', m) ∧ denI iv ((IntKind.u64, x, y) : IntKind × AV × AV).2.2 = some (.u64, IntKind.u64.wrap m) :=
  ⟨k, n, hx, by rw [wrapU64 h1 h2]; exact hy⟩
/-- a place in a vector of which nothing but the size is known -/
theorem vs0 {iv : Nat → IntKind × Int} {vk : Nat → Nat} {r : VS} {k : Nat} (hk : iv r.k = (.i64, (k : Int))) (ho : k * r.z + r.f + r.l.length ≤ vk r.i) (hv : vk r.i' ≤ vk r.i) : VsOk iv noV vk r :=
  ⟨by rw [hk]; exact ⟨rfl, Int.natCast_nonneg _⟩, by rw [hk]; simpa using ho, hv, fun m a h => by cases h⟩
theorem va1 {iv : Nat → IntKind × Int} {vk : Nat → Nat} {r : VA} {a b c : Nat} (ha : iv r.j = (.i64, (a : Int))) (hb : iv r.j' = (.i64, (b : Int))) (hc : r.src.length = c * r.z) (h : b = a + c) (hl : b < 1000000) (hk : vk r.i' ≤ b * r.z) : VaOk iv noV vk r := by
  refine ⟨by rw [ha]; exact ⟨rfl, Int.natCast_nonneg _⟩, by rw [hb]; exact ⟨rfl, Int.natCast_nonneg _⟩, ?_, by rw [hb]; simpa [limit] using hl, by rw [hb]; simpa using hk, fun m a h => by cases h⟩
  rw [ha, hb, hc]
  simp only [Int.toNat_natCast]
  rw [← Nat.add_mul, h]
theorem vz1 {iv : Nat → IntKind × Int} {vk : Nat → Nat} {r : VZ} {a b c : Nat} (ha : iv r.j = (.i64, (a : Int))) (hc : iv r.k = (.i64, (c : Int))) (hb : iv r.j' = (.i64, (b : Int))) (h : b = a + c) (hl : b < 1000000) (hk : vk r.i' ≤ b * r.z) : VzOk iv noV vk r :=
  ⟨by rw [ha]; exact ⟨rfl, Int.natCast_nonneg _⟩, by rw [hc]; exact ⟨rfl, Int.natCast_nonneg _⟩, by rw [hb]; exact ⟨rfl, Int.natCast_nonneg _⟩, by rw [ha, hb, hc, h]; simp, by rw [hb]; simpa [limit] using hl, by rw [hb]; simpa using hk, fun m a h => by cases h⟩
theorem vn1 {iv : Nat → IntKind × Int} {vk : Nat → Nat} {r : VN} {c : Nat} (hc : iv r.k = (.i64, (c : Int))) (hb : iv r.j' = (.i64, (c : Int))) (h1 : 0 < c) (hl : c < 1000000) (hk : vk r.i' ≤ c * r.z) : VnOk iv noV vk r :=
  ⟨by rw [hc]; exact ⟨rfl, Int.natCast_nonneg _⟩, by rw [hc]; exact Int.natCast_pos.2 h1, by rw [hc, hb], by rw [hc]; simpa [limit] using hl, by rw [hc]; simpa using hk, fun m a h => by cases h⟩
end Go.X
