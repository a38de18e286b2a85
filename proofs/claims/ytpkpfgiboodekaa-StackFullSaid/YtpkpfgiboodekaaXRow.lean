/-
  Tables with the same meanings; rows of operations on numbers by name, and what each asks.
-/
import Derived.Test.YtpkpfgiboodekaaXLoop
set_option linter.unusedVariables false
set_option linter.unusedSimpArgs false
set_option linter.unusedSectionVars false
namespace Go.X
open Go.RowKit

/-- two tables that give the same meanings (what is known of operations may differ) -/
structure SameTab (T T' : Tab) : Prop where
  iv : T.iv = T'.iv
  str : T.str = T'.str
  vv : T.vv = T'.vv
  vk : T.vk = T'.vk
  gv : T.gv = T'.gv

mutual
theorem vrel.tab {T T' : Tab} (e : SameTab T T') {μ : M} : ∀ (a : AV) (v : Value), @vrel T μ a v → @vrel T' μ a v
  | .bool _, _, h => by simpa [vrel] using h
  | .int _ _, _, h => by simpa [vrel] using h
  | .str _ _, _, h => by simpa [vrel] using h
  | .nilp, _, h => by simpa [vrel] using h
  | .ptr x o, _, h => by simpa [vrel] using h
  | .nils, _, h => by simpa [vrel] using h
  | .sl x o n c, _, h => by simpa [vrel] using h
  | .so x o n z, _, h => by simpa [vrel] using h
  | .nilm, _, h => by simpa [vrel] using h
  | .map x, _, h => by simpa [vrel] using h
  | .fn f a b, _, h => by
    simp only [vrel] at h ⊢
    obtain ⟨as, bs, h1, h2, h3⟩ := h
    exact ⟨as, bs, h1, vrels.tab e a as h2, vrels.tab e b bs h3⟩
  | .nilf, _, h => by simpa [vrel] using h
  | .iface t x, _, h => by simp only [vrel] at h ⊢; obtain ⟨y, h1, h2⟩ := h; exact ⟨y, h1, vrel.tab e x y h2⟩
  | .nili, _, h => by simpa [vrel] using h
  | .agg l, _, h => by simp only [vrel] at h ⊢; obtain ⟨cs, h1, h2⟩ := h; exact ⟨cs, h1, vrels.tab e l cs h2⟩
  | .tup l, _, h => by simp only [vrel] at h ⊢; obtain ⟨cs, h1, h2⟩ := h; exact ⟨cs, h1, vrels.tab e l cs h2⟩
  | .ostr _, _, h => by simp only [vrel] at h ⊢; rw [← e.str]; exact h
  | .gp _ _, _, h => by simpa [vrel] using h
  | .oi _, _, h => by simp only [vrel] at h ⊢; rw [← e.iv]; exact h
  | .es, _, h => by simpa [vrel] using h
  | .ov _ _ _, _, h => by simp only [vrel] at h ⊢; rw [← e.iv]; exact h
  | .op _ _ _ _, _, h => by simp only [vrel] at h ⊢; rw [← e.iv]; exact h
theorem vrels.tab {T T' : Tab} (e : SameTab T T') {μ : M} : ∀ (a : List AV) (v : List Value), @vrels T μ a v → @vrels T' μ a v
  | [], _, h => by simpa [vrels] using h
  | a :: l, _, h => by
    simp only [vrels] at h ⊢
    obtain ⟨v, r, h1, h2, h3⟩ := h
    exact ⟨v, r, h1, vrel.tab e a v h2, vrels.tab e l r h3⟩
end
theorem esrel.tab {T T' : Tab} (e : SameTab T T') {μ : M} : ∀ {a : List (AV × AV × Nat)} {v : List MapEntry}, @esrel T μ a v → @esrel T' μ a v
  | [], _, h => h
  | a :: l, _, h => by
    simp only [esrel] at h ⊢
    obtain ⟨v, r, h1, h2, h3, h4, h5⟩ := h
    exact ⟨v, r, h1, vrel.tab e _ _ h2, vrel.tab e _ _ h3, h4, esrel.tab e h5⟩
theorem brel.tab {T T' : Tab} (e : SameTab T T') {μ : M} {b : Blk} {l : Loc} {w : World} (h : @brel T μ b l w) : @brel T' μ b l w := by
  cases b with
  | cells n p z t => obtain ⟨arr, el, fz, h1, h2, h3, h4, h5, h6⟩ := h; exact ⟨arr, el, fz, h1, h2, h3, h4, h5, fun i a hi ha => let ⟨v, g1, g2⟩ := h6 i a hi ha; ⟨v, g1, vrel.tab e _ _ g2⟩⟩
  | glob n z t => obtain ⟨arr, el, fz, h1, h2⟩ := h; exact ⟨arr, el, fz, h1, fun i a hi ha => let ⟨v, g1, g2⟩ := h2 i a hi ha; ⟨v, g1, vrel.tab e _ _ g2⟩⟩
  | map es c => obtain ⟨es', h1, h2⟩ := h; exact ⟨es', h1, esrel.tab e h2⟩
  | siter n c pos => exact h
  | miter m since seen st =>
    cases m with
    | none => exact h
    | some x => exact h
  | vec i =>
    obtain ⟨arr, el, fz, h1, h2, h3, h4, h5⟩ := h
    exact ⟨arr, el, fz, h1, h2, h3, by rw [← e.vk]; exact h4, fun m a ha => let ⟨v, g1, g2⟩ := h5 m a (by rw [e.vv]; exact ha); ⟨v, g1, vrel.tab e _ _ g2⟩⟩

variable {P : Program} {B : Kp} {w0 : World} {μ0 : M} {nt : Nat} {a : Act} {w : World}
theorem Gl.tab {T T' : Tab} (e : SameTab T T') (h : @Gl T B w0) : @Gl T' B w0 := fun g o a hg => by
  obtain ⟨h1, v, h2, h3⟩ := h g o a (by rw [e.gv]; exact hg)
  exact ⟨h1, v, h2, vrel.tab e _ _ h3⟩
theorem St.same {T T' : Tab} (e : SameTab T T') {fr : Fr} {h : H} (s : St T B w0 μ0 nt fr h a w) : St T' B w0 μ0 nt fr h a w := by
  obtain ⟨μ, hx, f, r⟩ := s
  have hf := @HR.fresh T B w0 μ h w r
  obtain ⟨⟨e1, e2, e3, e4, e5, e6⟩, eg, eres, eblk, esep⟩ := @HR.parts B w0 w T μ h r
  refine ⟨μ, hx, ⟨f.1, f.2.1, fun t v ht => ?_⟩, ⟨⟨e1, e2, e3, e4, e5, e6, Gl.tab e eg⟩, hf, eres, fun x b hb => ?_, esep⟩⟩
  · obtain ⟨v', g1, g2⟩ := f.2.2 t v ht
    exact ⟨v', g1, vrel.tab e _ _ g2⟩
  · obtain ⟨l, g1, g2, g3, g4⟩ := eblk x b hb
    exact ⟨l, g1, g2, g3, brel.tab e g4⟩

/-- a table of numbers alone -/
abbrev ivTab (iv : Nat → IntKind × Int) : Tab where
  str := fun _ => default
  ne := fun _ => []
  ok := fun _ p h => by simp at h
  gv := fun _ _ => none
  iv := iv
  ib := []
  ibok := fun _ h => by simp at h
  ic := []
  icok := fun _ h => by simp at h
  iu := []
  iuok := fun _ h => by simp at h
  vv := fun _ _ => none
  vk := fun _ => 0
  vvp := fun _ _ a h => by simp at h
  va := []
  vaok := fun _ h => by simp at h
  vz := []
  vzok := fun _ h => by simp at h
  vn := []
  vnok := fun _ h => by simp at h
  vl := []
  vlok := fun _ h => by simp at h
  vs := []
  vsok := fun _ h => by simp at h

/- rows of operations -/
abbrev BRow := Nat × AV × AV × AV
def IbOk (iv : Nat → IntKind × Int) (r : BRow) : Prop := ∀ op, bcode op = r.1 → ∃ k a k' b v', denI iv r.2.1 = some (k, a) ∧ denI iv r.2.2.1 = some (k', b) ∧ intBin op k a k' b = some v' ∧ outI iv r.2.2.2 v'
variable {iv : Nat → IntKind × Int}
theorem ibNil : ∀ r ∈ ([] : List BRow), IbOk iv r := fun r h => by simp at h
theorem ibCons {r : BRow} {l : List BRow} (h : IbOk iv r) (k : ∀ r ∈ l, IbOk iv r) : ∀ q ∈ r :: l, IbOk iv q := fun q hq => by
  simp only [List.mem_cons] at hq
  rcases hq with rfl | hq
  · exact h
  · exact k q hq

theorem wrapF_is [Tab] (k : IntKind) (n : Int) : wrapF k n = k.wrap n := wrapF_eq k n
theorem wrap64 {n : Int} (h1 : -9223372036854775808 ≤ n) (h2 : n ≤ 9223372036854775807) : IntKind.i64.wrap n = n := by
  unfold IntKind.wrap IntKind.bits IntKind.signed
  simp only [Bool.true_and, decide_eq_true_eq]
  split <;> omega

theorem ibAdd [Tab] {x y z : AV} {a b c : Int} (hx : denI iv x = some (.i64, a)) (hy : denI iv y = some (.i64, b)) (hz : denI iv z = some (.i64, c)) (h : a + b = c) (h1 : -9223372036854775808 ≤ c) (h2 : c ≤ 9223372036854775807) : IbOk iv (0, x, y, z) := by
  intro op hop
  have : op = .add := by cases op <;> simp [bcode] at hop; rfl
  subst this
  refine ⟨.i64, a, .i64, b, _, hx, hy, rfl, ?_⟩
  show denI iv z = some (.i64, wrapF .i64 (Int.add a b))
  rw [wrapF_eq, show Int.add a b = c from h, wrap64 h1 h2]; exact hz
theorem ibSub [Tab] {x y z : AV} {a b c : Int} (hx : denI iv x = some (.i64, a)) (hy : denI iv y = some (.i64, b)) (hz : denI iv z = some (.i64, c)) (h : a - b = c) (h1 : -9223372036854775808 ≤ c) (h2 : c ≤ 9223372036854775807) : IbOk iv (1, x, y, z) := by
  intro op hop
  have : op = .sub := by cases op <;> simp [bcode] at hop; rfl
  subst this
  refine ⟨.i64, a, .i64, b, _, hx, hy, rfl, ?_⟩
  show denI iv z = some (.i64, wrapF .i64 (Int.sub a b))
  rw [wrapF_eq, show Int.sub a b = c from h, wrap64 h1 h2]; exact hz
theorem ibMul [Tab] {x y z : AV} {a b c : Int} (hx : denI iv x = some (.i64, a)) (hy : denI iv y = some (.i64, b)) (hz : denI iv z = some (.i64, c)) (h : a * b = c) (h1 : -9223372036854775808 ≤ c) (h2 : c ≤ 9223372036854775807) : IbOk iv (2, x, y, z) := by
  intro op hop
  have : op = .mul := by cases op <;> simp [bcode] at hop; rfl
  subst this
  refine ⟨.i64, a, .i64, b, _, hx, hy, rfl, ?_⟩
  show denI iv z = some (.i64, wrapF .i64 (Int.mul a b))
  rw [wrapF_eq, show Int.mul a b = c from h, wrap64 h1 h2]; exact hz
theorem ibQuo [Tab] {x y z : AV} {a b c : Int} (hx : denI iv x = some (.i64, a)) (hy : denI iv y = some (.i64, b)) (hz : denI iv z = some (.i64, c)) (h0 : b ≠ 0) (h : a.tdiv b = c) (h1 : -9223372036854775808 ≤ c) (h2 : c ≤ 9223372036854775807) : IbOk iv (3, x, y, z) := by
  intro op hop
  have : op = .quo := by cases op <;> simp [bcode] at hop; rfl
  subst this
  refine ⟨.i64, a, .i64, b, .int .i64 (wrapF .i64 (a.tdiv b)), hx, hy, ?_, ?_⟩
  · show (if b = 0 then none else some (AV.int .i64 (wrapF .i64 (a.tdiv b)))) = _
    rw [if_neg h0]
  show denI iv z = some (.i64, wrapF .i64 (a.tdiv b))
  rw [wrapF_eq, h, wrap64 h1 h2]; exact hz
theorem ibLt {x y : AV} {a b : Int} {t : Bool} (hx : denI iv x = some (.i64, a)) (hy : denI iv y = some (.i64, b)) (h : decide (a < b) = t) : IbOk iv (11, x, y, .bool t) := by
  intro op hop
  have : op = .lss := by cases op <;> simp [bcode] at hop; rfl
  subst this
  refine ⟨.i64, a, .i64, b, _, hx, hy, rfl, ?_⟩
  show AV.bool t = .bool (decide (a < b))
  rw [h]
theorem ibLe {x y : AV} {a b : Int} {t : Bool} (hx : denI iv x = some (.i64, a)) (hy : denI iv y = some (.i64, b)) (h : decide (a ≤ b) = t) : IbOk iv (12, x, y, .bool t) := by
  intro op hop
  have : op = .leq := by cases op <;> simp [bcode] at hop; rfl
  subst this
  refine ⟨.i64, a, .i64, b, _, hx, hy, rfl, ?_⟩
  show AV.bool t = .bool (decide (a ≤ b))
  rw [h]
theorem ibGt {x y : AV} {a b : Int} {t : Bool} (hx : denI iv x = some (.i64, a)) (hy : denI iv y = some (.i64, b)) (h : decide (a > b) = t) : IbOk iv (13, x, y, .bool t) := by
  intro op hop
  have : op = .gtr := by cases op <;> simp [bcode] at hop; rfl
  subst this
  refine ⟨.i64, a, .i64, b, _, hx, hy, rfl, ?_⟩
  show AV.bool t = .bool (decide (a > b))
  rw [h]
theorem ibGe {x y : AV} {a b : Int} {t : Bool} (hx : denI iv x = some (.i64, a)) (hy : denI iv y = some (.i64, b)) (h : decide (a ≥ b) = t) : IbOk iv (14, x, y, .bool t) := by
  intro op hop
  have : op = .geq := by cases op <;> simp [bcode] at hop; rfl
  subst this
  refine ⟨.i64, a, .i64, b, _, hx, hy, rfl, ?_⟩
  show AV.bool t = .bool (decide (a ≥ b))
  rw [h]
theorem ibEq {x y : AV} {a b : Int} {t : Bool} (hx : denI iv x = some (.i64, a)) (hy : denI iv y = some (.i64, b)) (h : decide (a = b) = t) : IbOk iv (9, x, y, .bool t) := by
  intro op hop
  have : op = .eql := by cases op <;> simp [bcode] at hop; rfl
  subst this
  refine ⟨.i64, a, .i64, b, _, hx, hy, rfl, ?_⟩
  show AV.bool t = .bool (a == b)
  rw [← h]; congr 1
theorem ibNe {x y : AV} {a b : Int} {t : Bool} (hx : denI iv x = some (.i64, a)) (hy : denI iv y = some (.i64, b)) (h : decide (a = b) = !t) : IbOk iv (10, x, y, .bool t) := by
  intro op hop
  have : op = .neq := by cases op <;> simp [bcode] at hop; rfl
  subst this
  refine ⟨.i64, a, .i64, b, _, hx, hy, rfl, ?_⟩
  show AV.bool t = .bool (a != b)
  have : (a == b) = decide (a = b) := rfl
  rw [bne, this, h]; simp

theorem ipNil {T T' : Tab} : IpOk T T' [] := fun p h => by simp at h
theorem ipCons {T T' : Tab} {p : AV × Nat} {l : IP} (h : denI T.iv p.1 = some (T'.iv p.2)) (k : IpOk T T' l) : IpOk T T' (p :: l) := fun q hq => by
  simp only [List.mem_cons] at hq
  rcases hq with rfl | hq
  · exact h
  · exact k q hq
theorem vpNil {T T' : Tab} {C : Cv} : VpOk T T' C [] := fun p h => by simp at h
theorem vpCons {T T' : Tab} {C : Cv} {p : Nat × Blk × Nat} {l : VP} (h : own p.2.1 = true ∧ ∀ μ l w, @brel T μ p.2.1 l w → @brel T' (ren C.N0 C.rn μ) (.vec p.2.2) l w) (k : VpOk T T' C l) : VpOk T T' C (p :: l) := fun q hq => by
  simp only [List.mem_cons] at hq
  rcases hq with rfl | hq
  · exact h
  · exact k q hq

/-- a table of numbers and vectors -/
structure VRows (iv : Nat → IntKind × Int) (vv : Nat → Nat → Option AV) (vk : Nat → Nat) where
  vvp : ∀ i m a, vv i m = some a → plain a = true
  ib : List BRow
  ibok : ∀ r ∈ ib, IbOk iv r
  va : List VA := []
  vaok : ∀ r ∈ va, isLen (iv r.j) ∧ isLen (iv r.j') ∧ (iv r.j').2.toNat * r.z = (iv r.j).2.toNat * r.z + r.src.length ∧ (iv r.j').2.toNat < limit ∧ vk r.i' ≤ (iv r.j').2.toNat * r.z ∧
    ∀ m a, vv r.i' m = some a → (if m < (iv r.j).2.toNat * r.z then vv r.i m else r.src[m - (iv r.j).2.toNat * r.z]?) = some a := by exact fun _ h => nomatch h
  vz : List VZ := []
  vzok : ∀ r ∈ vz, isLen (iv r.j) ∧ isLen (iv r.k) ∧ isLen (iv r.j') ∧ (iv r.j').2 = (iv r.j).2 + (iv r.k).2 ∧ (iv r.j').2.toNat < limit ∧ vk r.i' ≤ (iv r.j').2.toNat * r.z ∧
    ∀ m a, vv r.i' m = some a → m < (iv r.j').2.toNat * r.z ∧ (if m < (iv r.j).2.toNat * r.z then vv r.i m else r.zc[(m - (iv r.j).2.toNat * r.z) % r.zc.length]?) = some a := by exact fun _ h => nomatch h
  vn : List VN := []
  vnok : ∀ r ∈ vn, isLen (iv r.k) ∧ 0 < (iv r.k).2 ∧ iv r.j' = iv r.k ∧ (iv r.k).2.toNat < limit ∧ vk r.i' ≤ (iv r.k).2.toNat * r.z ∧
    ∀ m a, vv r.i' m = some a → m < (iv r.k).2.toNat * r.z ∧ r.zc[m % r.zc.length]? = some a := by exact fun _ h => nomatch h
  vl : List VL := []
  vlok : ∀ r ∈ vl, isLen (iv r.k) ∧ ∀ m, m < r.l.length → vv r.i ((iv r.k).2.toNat * r.z + r.f + m) = r.l[m]? := by exact fun _ h => nomatch h
  vs : List VS := []
  vsok : ∀ r ∈ vs, isLen (iv r.k) ∧ (iv r.k).2.toNat * r.z + r.f + r.l.length ≤ vk r.i ∧ vk r.i' ≤ vk r.i ∧
    ∀ m a, vv r.i' m = some a → (if (iv r.k).2.toNat * r.z + r.f ≤ m ∧ m < (iv r.k).2.toNat * r.z + r.f + r.l.length then r.l[m - ((iv r.k).2.toNat * r.z + r.f)]? else vv r.i m) = some a := by exact fun _ h => nomatch h
abbrev VRows.tab {iv : Nat → IntKind × Int} {vv : Nat → Nat → Option AV} {vk : Nat → Nat} (R : VRows iv vv vk) : Tab where
  str := fun _ => default
  ne := fun _ => []
  ok := fun _ p h => by simp at h
  gv := fun _ _ => none
  iv := iv
  ib := R.ib
  ibok := R.ibok
  ic := []
  icok := fun _ h => by simp at h
  iu := []
  iuok := fun _ h => by simp at h
  vv := vv
  vk := vk
  vvp := R.vvp
  va := R.va
  vaok := R.vaok
  vz := R.vz
  vzok := R.vzok
  vn := R.vn
  vnok := R.vnok
  vl := R.vl
  vlok := R.vlok
  vs := R.vs
  vsok := R.vsok
/-- without rows -/
abbrev bare (iv : Nat → IntKind × Int) (vv : Nat → Nat → Option AV) (vk : Nat → Nat) (h : ∀ i m a, vv i m = some a → plain a = true) : VRows iv vv vk := { vvp := h, ib := [], ibok := ibNil }
theorem VRows.same {iv : Nat → IntKind × Int} {vv : Nat → Nat → Option AV} {vk : Nat → Nat} (R R' : VRows iv vv vk) : SameTab R.tab R'.tab := ⟨rfl, rfl, rfl, rfl, rfl⟩
abbrev noV : Nat → Nat → Option AV := fun _ _ => none
abbrev noK : Nat → Nat := fun _ => 0
theorem noVp : ∀ i m a, noV i m = some a → plain a = true := fun _ _ _ h => by cases h

theorem glNone {T T' : Tab} (h : T'.gv = fun _ _ => none) : @Gl T B w0 → @Gl T' B w0 := fun _ g o a hg => by rw [h] at hg; cases hg

def isRow : Blk → Bool
  | .cells .. => true
  | .vec _ => true
  | _ => false
/-- a row of which nothing more is known -/
theorem toVec {T T' : Tab} {C : Cv} {x i : Nat} {b : Blk} (hb : isRow b = true) (hv : ∀ m, T'.vv i m = none) (hk : T'.vk i = 0) :
    own (x, b, i).2.1 = true ∧ ∀ μ l w, @brel T μ (x, b, i).2.1 l w → @brel T' (ren C.N0 C.rn μ) (.vec (x, b, i).2.2) l w := by
  cases b with
  | cells n p z t =>
    refine ⟨rfl, fun μ l w h => ?_⟩
    obtain ⟨arr, el, fz, h1, h2, h3, h4, h5, h6⟩ := h
    exact ⟨arr, el, fz, h1, h2, h3, by rw [hk]; omega, fun m a ha => by rw [hv] at ha; cases ha⟩
  | vec j =>
    refine ⟨rfl, fun μ l w h => ?_⟩
    obtain ⟨arr, el, fz, h1, h2, h3, h4, h5⟩ := h
    exact ⟨arr, el, fz, h1, h2, h3, by rw [hk]; omega, fun m a ha => by rw [hv] at ha; cases ha⟩
  | _ => simp [isRow] at hb

/- rows of vectors of which nothing but the length is known -/
section
variable {iv : Nat → IntKind × Int}
abbrev VaOk (iv : Nat → IntKind × Int) (vv : Nat → Nat → Option AV) (vk : Nat → Nat) (r : VA) : Prop := isLen (iv r.j) ∧ isLen (iv r.j') ∧ (iv r.j').2.toNat * r.z = (iv r.j).2.toNat * r.z + r.src.length ∧ (iv r.j').2.toNat < limit ∧ vk r.i' ≤ (iv r.j').2.toNat * r.z ∧
    ∀ m a, vv r.i' m = some a → (if m < (iv r.j).2.toNat * r.z then vv r.i m else r.src[m - (iv r.j).2.toNat * r.z]?) = some a
abbrev VzOk (iv : Nat → IntKind × Int) (vv : Nat → Nat → Option AV) (vk : Nat → Nat) (r : VZ) : Prop := isLen (iv r.j) ∧ isLen (iv r.k) ∧ isLen (iv r.j') ∧ (iv r.j').2 = (iv r.j).2 + (iv r.k).2 ∧ (iv r.j').2.toNat < limit ∧ vk r.i' ≤ (iv r.j').2.toNat * r.z ∧
    ∀ m a, vv r.i' m = some a → m < (iv r.j').2.toNat * r.z ∧ (if m < (iv r.j).2.toNat * r.z then vv r.i m else r.zc[(m - (iv r.j).2.toNat * r.z) % r.zc.length]?) = some a
abbrev VnOk (iv : Nat → IntKind × Int) (vv : Nat → Nat → Option AV) (vk : Nat → Nat) (r : VN) : Prop := isLen (iv r.k) ∧ 0 < (iv r.k).2 ∧ iv r.j' = iv r.k ∧ (iv r.k).2.toNat < limit ∧ vk r.i' ≤ (iv r.k).2.toNat * r.z ∧
    ∀ m a, vv r.i' m = some a → m < (iv r.k).2.toNat * r.z ∧ r.zc[m % r.zc.length]? = some a
theorem allNil {α : Type} {p : α → Prop} : ∀ r ∈ ([] : List α), p r := fun r h => by simp at h
theorem allCons {α : Type} {p : α → Prop} {x : α} {l : List α} (h : p x) (k : ∀ r ∈ l, p r) : ∀ r ∈ x :: l, p r := fun r hr => by
  simp only [List.mem_cons] at hr
  rcases hr with rfl | hr
  · exact h
  · exact k r hr
theorem va0 {r : VA} {a b : Int} {c : Nat} (ha : iv r.j = (.i64, a)) (hb : iv r.j' = (.i64, b)) (h0 : 0 ≤ a) (hc : r.src.length = c * r.z) (h : b = a + c) (hl : b < 1000000) : VaOk iv noV noK r := by
  refine ⟨by rw [ha]; exact ⟨rfl, h0⟩, by rw [hb]; exact ⟨rfl, by show 0 ≤ b; omega⟩, ?_, ?_, Nat.zero_le _, fun m a h => by cases h⟩
  · rw [ha, hb, hc]
    show b.toNat * r.z = a.toNat * r.z + c * r.z
    rw [← Nat.add_mul]
    congr 1
    omega
  · rw [hb]; show b.toNat < limit; unfold limit; omega
theorem vz0 {r : VZ} {a b c : Int} (ha : iv r.j = (.i64, a)) (hc : iv r.k = (.i64, c)) (hb : iv r.j' = (.i64, b)) (h0 : 0 ≤ a) (h1 : 0 ≤ c) (h : b = a + c) (hl : b < 1000000) : VzOk iv noV noK r := by
  refine ⟨by rw [ha]; exact ⟨rfl, h0⟩, by rw [hc]; exact ⟨rfl, h1⟩, by rw [hb]; exact ⟨rfl, by show 0 ≤ b; omega⟩, ?_, ?_, Nat.zero_le _, fun m a h => by cases h⟩
  · rw [ha, hb, hc]; exact h
  · rw [hb]; show b.toNat < limit; unfold limit; omega
theorem vn0 {r : VN} {c : Int} (hc : iv r.k = (.i64, c)) (hb : iv r.j' = (.i64, c)) (h1 : 0 < c) (hl : c < 1000000) : VnOk iv noV noK r := by
  refine ⟨by rw [hc]; exact ⟨rfl, by show 0 ≤ c; omega⟩, by rw [hc]; exact h1, by rw [hc, hb], ?_, Nat.zero_le _, fun m a h => by cases h⟩
  rw [hc]; show c.toNat < limit; unfold limit; omega
end
end Go.X
