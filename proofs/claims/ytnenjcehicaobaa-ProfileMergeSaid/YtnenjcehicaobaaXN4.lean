/-
  An abstract machine for the model: what it computes, and that it holds of every run (part 4).
-/
import Derived.Test.YtnenjcehicaobaaXN3
import Derived.KernelRfl
set_option linter.unusedVariables false
set_option linter.unusedSimpArgs false
set_option linter.unusedSectionVars false
namespace Go.X
open Go.RowKit
structure SameV (T T' : Tab) : Prop where
  rv : T.rv = T'.rv
  iv : T.iv = T'.iv
  str : T.str = T'.str
  vv : T.vv = T'.vv
  vk : T.vk = T'.vk
  gv : T.gv = T'.gv
  fb : T.fb = T'.fb
  fcap : T.fcap = T'.fcap
  fv : T.fv = T'.fv
structure SameTab (T T' : Tab) : Prop extends SameV T T' where
  mm : T.mm = T'.mm
  sv : T.sv = T'.sv
mutual
theorem vrel.tab {T T' : Tab} (e : SameV T T') {μ : M} : ∀ (a : AV) (v : Value), @vrel T μ a v → @vrel T' μ a v
  | .bool _, _, h => by simpa [vrel] using h
  | .int _ _, _, h => by simpa [vrel] using h
  | .str _ _, _, h => by simpa [vrel] using h
  | .nilp, _, h => by simpa [vrel] using h
  | .ptr x o, _, h => by simpa [vrel] using h
  | .nils, _, h => by simpa [vrel] using h
  | .sl x o n c, _, h => by simpa [vrel] using h
  | .so x o n z, _, h => by simpa [vrel] using h
  | .nilm, _, h => by simpa [vrel] using h
  | .map x, _, h => by simpa [vrel] using h
  | .fn f a b, _, h => by
    simp only [vrel] at h ⊢
    obtain ⟨as, bs, h1, h2, h3⟩ := h
    exact ⟨as, bs, h1, vrels.tab e a as h2, vrels.tab e b bs h3⟩
  | .nilf, _, h => by simpa [vrel] using h
  | .iface t x, _, h => by simp only [vrel] at h ⊢; obtain ⟨y, h1, h2⟩ := h; exact ⟨y, h1, vrel.tab e x y h2⟩
  | .nili, _, h => by simpa [vrel] using h
  | .agg l, _, h => by simp only [vrel] at h ⊢; obtain ⟨cs, h1, h2⟩ := h; exact ⟨cs, h1, vrels.tab e l cs h2⟩
  | .tup l, _, h => by simp only [vrel] at h ⊢; obtain ⟨cs, h1, h2⟩ := h; exact ⟨cs, h1, vrels.tab e l cs h2⟩
  | .ostr _, _, h => by simp only [vrel] at h ⊢; rw [← e.str]; exact h
  | .rw _, _, h => by simp only [vrel] at h ⊢; rw [← e.rv]; exact h
  | .gp _ _, _, h => by simpa [vrel] using h
  | .oi _, _, h => by simp only [vrel] at h ⊢; rw [← e.iv]; exact h
  | .es, _, h => by simpa [vrel] using h
  | .ov _ _ _, _, h => by simp only [vrel] at h ⊢; rw [← e.iv]; exact h
  | .ow _ _ _, _, h => by simp only [vrel] at h ⊢; rw [← e.iv]; exact h
  | .op _ _ _ _, _, h => by simp only [vrel] at h ⊢; rw [← e.iv]; exact h
  | .fo _ _ _, _, h => by simp only [vrel] at h ⊢; rw [← e.iv, ← e.fb, ← e.fcap]; exact h
  | .fp _ _ _ _, _, h => by simp only [vrel] at h ⊢; rw [← e.iv, ← e.fb]; exact h
  | .an, _, h => by simpa [vrel] using h
theorem vrels.tab {T T' : Tab} (e : SameV T T') {μ : M} : ∀ (a : List AV) (v : List Value), @vrels T μ a v → @vrels T' μ a v
  | [], _, h => by simpa [vrels] using h
  | a :: l, _, h => by
    simp only [vrels] at h ⊢
    obtain ⟨v, r, h1, h2, h3⟩ := h
    exact ⟨v, r, h1, vrel.tab e a v h2, vrels.tab e l r h3⟩
end
theorem esrel.tab {T T' : Tab} (e : SameV T T') {μ : M} : ∀ {a : List (AV × AV × Nat)} {v : List MapEntry}, @esrel T μ a v → @esrel T' μ a v
  | [], _, h => h
  | a :: l, _, h => by
    simp only [esrel] at h ⊢
    obtain ⟨v, r, h1, h2, h3, h4, h5⟩ := h
    exact ⟨v, r, h1, vrel.tab e _ _ h2, vrel.tab e _ _ h3, h4, esrel.tab e h5⟩
theorem brel.tab {T T' : Tab} (e : SameTab T T') {μ : M} {b : Blk} {l : Loc} {w : World} (h : @brel T μ b l w) : @brel T' μ b l w := by
  cases b with
  | cells n p z t => obtain ⟨arr, el, fz, h1, h2, h3, h4, h5, h6⟩ := h; exact ⟨arr, el, fz, h1, h2, h3, h4, h5, fun i a hi ha => let ⟨v, g1, g2⟩ := h6 i a hi ha; ⟨v, g1, vrel.tab e.toSameV _ _ g2⟩⟩
  | glob n z t => obtain ⟨arr, el, fz, h1, h2⟩ := h; exact ⟨arr, el, fz, h1, fun i a hi ha => let ⟨v, g1, g2⟩ := h2 i a hi ha; ⟨v, g1, vrel.tab e.toSameV _ _ g2⟩⟩
  | map es c => obtain ⟨es', h1, h2⟩ := h; exact ⟨es', h1, esrel.tab e.toSameV h2⟩
  | siter n c pos => exact h
  | miter m since seen st =>
    cases m with
    | none => exact h
    | some x => exact h
  | vec i =>
    obtain ⟨arr, el, fz, h1, h2, h3, h4, h5⟩ := h
    exact ⟨arr, el, fz, h1, h2, h3, by rw [← e.vk]; exact h4, fun m a ha => let ⟨v, g1, g2⟩ := h5 m a (by rw [e.vv]; exact ha); ⟨v, g1, vrel.tab e.toSameV _ _ g2⟩⟩
  | omap i => simp only [brel] at h ⊢; rw [← e.mm]; exact h
  | oit m i => simp only [brel] at h ⊢; rw [← e.sv]; exact h
  | oin m i q => simp only [brel] at h ⊢; rw [← e.sv, ← e.mm]; exact h
variable {P : Program} {B : Kp} {w0 : World} {μ0 : M} {nt : Nat} {a : Act} {w : World}
theorem Gl.tab {T T' : Tab} (e : SameV T T') (h : @Gl T B w0) : @Gl T' B w0 := by
  refine ⟨fun g o a hg => ?_, fun i m a hg => ?_⟩
  · obtain ⟨h1, v, h2, h3, h4⟩ := h.1 g o a (by rw [e.gv]; exact hg)
    exact ⟨h1, v, h2, vrel.tab e _ _ h3, fun k => h4 (by rw [e.gv]; exact k)⟩
  · obtain ⟨h1, v, h2, h3⟩ := h.2 i m a (by rw [e.fv]; exact hg)
    rw [← e.fb]
    exact ⟨h1, v, h2, vrel.tab e _ _ h3⟩
theorem St.same {T T' : Tab} (e : SameTab T T') {fr : Fr} {h : H} (s : St T B w0 μ0 nt fr h a w) : St T' B w0 μ0 nt fr h a w := by
  obtain ⟨μ, hx, f, r⟩ := s
  have hf := @HR.fresh T B w0 μ h w r
  obtain ⟨⟨e1, e2, e3, e4, e5, e6⟩, eg, eres, eblk, esep⟩ := @HR.parts B w0 w T μ h r
  refine ⟨μ, hx, ⟨f.1, f.2.1, fun t v ht => ?_⟩, ⟨⟨e1, e2, e3, e4, e5, e6, Gl.tab e.toSameV eg⟩, hf, eres, fun x b hb => ?_, esep⟩⟩
  · obtain ⟨v', g1, g2⟩ := f.2.2 t v ht
    exact ⟨v', g1, vrel.tab e.toSameV _ _ g2⟩
  · obtain ⟨l, g1, g2, g3, g4⟩ := eblk x b hb
    exact ⟨l, g1, g2, g3, brel.tab e g4⟩
abbrev ivTab (iv : Nat → IntKind × Int) : Tab where
  str := fun _ => default
  ne := fun _ => []
  ok := fun _ p h => by simp at h
  gv := fun _ _ => none
  iv := iv
  rv := fun _ => .nilIface
  ib := []
  ibok := fun _ h => by simp at h
  ic := []
  icok := fun _ h => by simp at h
  iu := []
  iuok := fun _ h => by simp at h
  vv := fun _ _ => none
  vk := fun _ => 0
  vvp := fun _ _ a h => by simp at h
  va := []
  vaok := fun _ h => by simp at h
  vz := []
  vzok := fun _ h => by simp at h
  vn := []
  vnok := fun _ h => by simp at h
  vc := []
  vcok := fun _ h => by simp at h
  fb := fun _ => (0, 0)
  fcap := fun _ => 0
  fv := fun _ _ => none
  fl := []
  flok := fun _ h => by simp at h
  vl := []
  vlok := fun _ h => by simp at h
  vs := []
  vsok := fun _ h => by simp at h
abbrev BRow := Nat × AV × AV × AV
def IbOk (iv : Nat → IntKind × Int) (r : BRow) : Prop := ∀ op, bcode op = r.1 → ∃ k a k' b v', denI iv r.2.1 = some (k, a) ∧ denI iv r.2.2.1 = some (k', b) ∧ intBin op k a k' b = some v' ∧ outI iv r.2.2.2 v'
variable {iv : Nat → IntKind × Int}
theorem ibNil : ∀ r ∈ ([] : List BRow), IbOk iv r := fun r h => by simp at h
theorem ibCons {r : BRow} {l : List BRow} (h : IbOk iv r) (k : ∀ r ∈ l, IbOk iv r) : ∀ q ∈ r :: l, IbOk iv q := fun q hq => by
  simp only [List.mem_cons] at hq
  rcases hq with rfl | hq
  · exact h
  · exact k q hq
theorem wrapF_is [Tab] (k : IntKind) (n : Int) : wrapF k n = k.wrap n := wrapF_eq k n
theorem wrap64 {n : Int} (h1 : -9223372036854775808 ≤ n) (h2 : n ≤ 9223372036854775807) : IntKind.i64.wrap n = n := by
  unfold IntKind.wrap IntKind.bits IntKind.signed
  simp only [Bool.true_and, decide_eq_true_eq]
  split <;> omega
theorem ibAdd [Tab] {x y z : AV} {a b c : Int} (hx : denI iv x = some (.i64, a)) (hy : denI iv y = some (.i64, b)) (hz : denI iv z = some (.i64, c)) (h : a + b = c) (h1 : -9223372036854775808 ≤ c) (h2 : c ≤ 9223372036854775807) : IbOk iv (0, x, y, z) := by
  intro op hop
  have : op = .add := by cases op <;> simp [bcode] at hop; rfl
  subst this
  refine ⟨.i64, a, .i64, b, _, hx, hy, rfl, ?_⟩
  show denI iv z = some (.i64, wrapF .i64 (Int.add a b))
  rw [wrapF_eq, show Int.add a b = c from h, wrap64 h1 h2]; exact hz
theorem ibSub [Tab] {x y z : AV} {a b c : Int} (hx : denI iv x = some (.i64, a)) (hy : denI iv y = some (.i64, b)) (hz : denI iv z = some (.i64, c)) (h : a - b = c) (h1 : -9223372036854775808 ≤ c) (h2 : c ≤ 9223372036854775807) : IbOk iv (1, x, y, z) := by
  intro op hop
  have : op = .sub := by cases op <;> simp [bcode] at hop; rfl
  subst this
  refine ⟨.i64, a, .i64, b, _, hx, hy, rfl, ?_⟩
  show denI iv z = some (.i64, wrapF .i64 (Int.sub a b))
  rw [wrapF_eq, show Int.sub a b = c from h, wrap64 h1 h2]; exact hz
theorem ibMul [Tab] {x y z : AV} {a b c : Int} (hx : denI iv x = some (.i64, a)) (hy : denI iv y = some (.i64, b)) (hz : denI iv z = some (.i64, c)) (h : a * b = c) (h1 : -9223372036854775808 ≤ c) (h2 : c ≤ 9223372036854775807) : IbOk iv (2, x, y, z) := by
  intro op hop
  have : op = .mul := by cases op <;> simp [bcode] at hop; rfl
  subst this
  refine ⟨.i64, a, .i64, b, _, hx, hy, rfl, ?_⟩
  show denI iv z = some (.i64, wrapF .i64 (Int.mul a b))
  rw [wrapF_eq, show Int.mul a b = c from h, wrap64 h1 h2]; exact hz
theorem ibQuo [Tab] {x y z : AV} {a b c : Int} (hx : denI iv x = some (.i64, a)) (hy : denI iv y = some (.i64, b)) (hz : denI iv z = some (.i64, c)) (h0 : b ≠ 0) (h : a.tdiv b = c) (h1 : -9223372036854775808 ≤ c) (h2 : c ≤ 9223372036854775807) : IbOk iv (3, x, y, z) := by
  intro op hop
  have : op = .quo := by cases op <;> simp [bcode] at hop; rfl
  subst this
  refine ⟨.i64, a, .i64, b, .int .i64 (wrapF .i64 (a.tdiv b)), hx, hy, ?_, ?_⟩
  · show (if b = 0 then none else some (AV.int .i64 (wrapF .i64 (a.tdiv b)))) = _
    rw [if_neg h0]
  show denI iv z = some (.i64, wrapF .i64 (a.tdiv b))
  rw [wrapF_eq, h, wrap64 h1 h2]; exact hz
theorem ibLt {x y : AV} {a b : Int} {t : Bool} (hx : denI iv x = some (.i64, a)) (hy : denI iv y = some (.i64, b)) (h : decide (a < b) = t) : IbOk iv (11, x, y, .bool t) := by
  intro op hop
  have : op = .lss := by cases op <;> simp [bcode] at hop; rfl
  subst this
  refine ⟨.i64, a, .i64, b, _, hx, hy, rfl, ?_⟩
  show AV.bool t = .bool (decide (a < b))
  rw [h]
theorem ibLe {x y : AV} {a b : Int} {t : Bool} (hx : denI iv x = some (.i64, a)) (hy : denI iv y = some (.i64, b)) (h : decide (a ≤ b) = t) : IbOk iv (12, x, y, .bool t) := by
  intro op hop
  have : op = .leq := by cases op <;> simp [bcode] at hop; rfl
  subst this
  refine ⟨.i64, a, .i64, b, _, hx, hy, rfl, ?_⟩
  show AV.bool t = .bool (decide (a ≤ b))
  rw [h]
theorem ibGt {x y : AV} {a b : Int} {t : Bool} (hx : denI iv x = some (.i64, a)) (hy : denI iv y = some (.i64, b)) (h : decide (a > b) = t) : IbOk iv (13, x, y, .bool t) := by
  intro op hop
  have : op = .gtr := by cases op <;> simp [bcode] at hop; rfl
  subst this
  refine ⟨.i64, a, .i64, b, _, hx, hy, rfl, ?_⟩
  show AV.bool t = .bool (decide (a > b))
  rw [h]
theorem ibGe {x y : AV} {a b : Int} {t : Bool} (hx : denI iv x = some (.i64, a)) (hy : denI iv y = some (.i64, b)) (h : decide (a ≥ b) = t) : IbOk iv (14, x, y, .bool t) := by
  intro op hop
  have : op = .geq := by cases op <;> simp [bcode] at hop; rfl
  subst this
  refine ⟨.i64, a, .i64, b, _, hx, hy, rfl, ?_⟩
  show AV.bool t = .bool (decide (a ≥ b))
  rw [h]
theorem ibEq {x y : AV} {a b : Int} {t : Bool} (hx : denI iv x = some (.i64, a)) (hy : denI iv y = some (.i64, b)) (h : decide (a = b) = t) : IbOk iv (9, x, y, .bool t) := by
  intro op hop
  have : op = .eql := by cases op <;> simp [bcode] at hop; rfl
  subst this
  refine ⟨.i64, a, .i64, b, _, hx, hy, rfl, ?_⟩
  show AV.bool t = .bool (a == b)
  rw [← h]; congr 1
theorem ibNe {x y : AV} {a b : Int} {t : Bool} (hx : denI iv x = some (.i64, a)) (hy : denI iv y = some (.i64, b)) (h : decide (a = b) = !t) : IbOk iv (10, x, y, .bool t) := by
  intro op hop
  have : op = .neq := by cases op <;> simp [bcode] at hop; rfl
  subst this
  refine ⟨.i64, a, .i64, b, _, hx, hy, rfl, ?_⟩
  show AV.bool t = .bool (a != b)
  have : (a == b) = decide (a = b) := rfl
  rw [bne, this, h]; simp
theorem ipNil {T T' : Tab} : IpOk T T' [] := fun p h => by simp at h
theorem ipCons {T T' : Tab} {p : AV × Nat} {l : IP} (h : IpOk1 T T' p) (k : IpOk T T' l) : IpOk T T' (p :: l) := fun q hq => by
  simp only [List.mem_cons] at hq
  rcases hq with rfl | hq
  · exact h
  · exact k q hq
theorem vpNil {T T' : Tab} {C : Cv} : VpOk T T' C [] := fun p h => by simp at h
theorem vpCons {T T' : Tab} {C : Cv} {p : Nat × Blk × Nat} {l : VP} (h : own p.2.1 = true ∧ ∀ μ l w, @brel T μ p.2.1 l w → @brel T' (ren C.N0 C.rn μ) (.vec p.2.2) l w) (k : VpOk T T' C l) : VpOk T T' C (p :: l) := fun q hq => by
  simp only [List.mem_cons] at hq
  rcases hq with rfl | hq
  · exact h
  · exact k q hq
structure VRows (iv : Nat → IntKind × Int) (vv : Nat → Nat → Option AV) (vk : Nat → Nat) where
  vvp : ∀ i m a, vv i m = some a → vplain a = true
  ib : List BRow
  ibok : ∀ r ∈ ib, IbOk iv r
  ic : List (IntKind × AV × AV) := []
  icok : ∀ r ∈ ic, ∃ k n, denI iv r.2.1 = some (k, n) ∧ denI iv r.2.2 = some (r.1, r.1.wrap n) := by exact fun _ h => nomatch h
  va : List VA := []
  vaok : ∀ r ∈ va, isLen (iv r.j) ∧ isLen (iv r.j') ∧ (iv r.j').2.toNat * r.z = (iv r.j).2.toNat * r.z + r.src.length ∧ (iv r.j').2.toNat < limit ∧ vk r.i' ≤ (iv r.j').2.toNat * r.z ∧
    ∀ m a, vv r.i' m = some a → ∃ b, (if m < (iv r.j).2.toNat * r.z then vv r.i m else r.src[m - (iv r.j).2.toNat * r.z]?) = some b ∧ sameAV iv b a := by exact fun _ h => nomatch h
  vz : List VZ := []
  vzok : ∀ r ∈ vz, isLen (iv r.j) ∧ isLen (iv r.k) ∧ isLen (iv r.j') ∧ (iv r.j').2 = (iv r.j).2 + (iv r.k).2 ∧ (iv r.j').2.toNat < limit ∧ vk r.i' ≤ (iv r.j').2.toNat * r.z ∧
    ∀ m a, vv r.i' m = some a → m < (iv r.j').2.toNat * r.z ∧ ∃ b, (if m < (iv r.j).2.toNat * r.z then vv r.i m else r.zc[(m - (iv r.j).2.toNat * r.z) % r.zc.length]?) = some b ∧ sameAV iv b a := by exact fun _ h => nomatch h
  vn : List VN := []
  vnok : ∀ r ∈ vn, isLen (iv r.k) ∧ 0 < (iv r.k).2 ∧ iv r.j' = iv r.k ∧ (iv r.k).2.toNat < limit ∧ vk r.i' ≤ (iv r.k).2.toNat * r.z ∧
    ∀ m a, vv r.i' m = some a → m < (iv r.k).2.toNat * r.z ∧ ∃ b, r.zc[m % r.zc.length]? = some b ∧ sameAV iv b a := by exact fun _ h => nomatch h
  vc : List (Nat × Nat) := []
  vcok : ∀ p ∈ vc, iv p.2 = (.i64, (p.1 : Int)) := by exact fun _ h => nomatch h
  vl : List VL := []
  vlok : ∀ r ∈ vl, isLen (iv r.k) ∧ ∀ m b, r.l[m]? = some b → ∃ a, vv r.i ((iv r.k).2.toNat * r.z + r.f + m) = some a ∧ sameAV iv a b := by exact fun _ h => nomatch h
  vs : List VS := []
  vsok : ∀ r ∈ vs, isLen (iv r.k) ∧ (iv r.k).2.toNat * r.z + r.f + r.l.length ≤ vk r.i ∧ vk r.i' ≤ vk r.i ∧
    ∀ m a, vv r.i' m = some a → ∃ b, (if (iv r.k).2.toNat * r.z + r.f ≤ m ∧ m < (iv r.k).2.toNat * r.z + r.f + r.l.length then r.l[m - ((iv r.k).2.toNat * r.z + r.f)]? else vv r.i m) = some b ∧ sameAV iv b a := by exact fun _ h => nomatch h
abbrev VRows.tab {iv : Nat → IntKind × Int} {vv : Nat → Nat → Option AV} {vk : Nat → Nat} (R : VRows iv vv vk) : Tab where
  str := fun _ => default
  ne := fun _ => []
  ok := fun _ p h => by simp at h
  gv := fun _ _ => none
  iv := iv
  rv := fun _ => .nilIface
  ib := R.ib
  ibok := R.ibok
  ic := R.ic
  icok := R.icok
  iu := []
  iuok := fun _ h => by simp at h
  vv := vv
  vk := vk
  vvp := R.vvp
  va := R.va
  vaok := fun r hr => let ⟨a, b, c, d, e, f⟩ := R.vaok r hr; ⟨a, b, c, d, e, fun m x hx => let ⟨y, h1, h2⟩ := f m x hx; ⟨y, h1, .inl h2⟩⟩
  vz := R.vz
  vzok := fun r hr => let ⟨a, b, c, d, e, g, f⟩ := R.vzok r hr; ⟨a, b, c, d, e, g, fun m x hx => let ⟨q, y, h1, h2⟩ := f m x hx; ⟨q, y, h1, .inl h2⟩⟩
  vn := R.vn
  vnok := fun r hr => let ⟨a, b, c, d, e, f⟩ := R.vnok r hr; ⟨a, b, c, d, e, fun m x hx => let ⟨q, y, h1, h2⟩ := f m x hx; ⟨q, y, h1, .inl h2⟩⟩
  vc := R.vc
  vcok := R.vcok
  fb := fun _ => (0, 0)
  fcap := fun _ => 0
  fv := fun _ _ => none
  fl := []
  flok := fun _ h => by simp at h
  vl := R.vl
  vlok := fun r hr => let ⟨a, f⟩ := R.vlok r hr; ⟨a, fun m x hx => let ⟨y, h1, h2⟩ := f m x hx; ⟨y, h1, .inl h2⟩⟩
  vs := R.vs
  vsok := fun r hr => let ⟨a, b, c, f⟩ := R.vsok r hr; ⟨a, b, c, fun m x hx => let ⟨y, h1, h2⟩ := f m x hx; ⟨y, h1, .inl h2⟩⟩
abbrev bare (iv : Nat → IntKind × Int) (vv : Nat → Nat → Option AV) (vk : Nat → Nat) (h : ∀ i m a, vv i m = some a → vplain a = true) : VRows iv vv vk := { vvp := h, ib := [], ibok := ibNil }
theorem VRows.same {iv : Nat → IntKind × Int} {vv : Nat → Nat → Option AV} {vk : Nat → Nat} (R R' : VRows iv vv vk) : SameTab R.tab R'.tab := ⟨⟨rfl, rfl, rfl, rfl, rfl, rfl, rfl, rfl, rfl⟩, rfl, rfl⟩
abbrev noV : Nat → Nat → Option AV := fun _ _ => none
abbrev noK : Nat → Nat := fun _ => 0
theorem noVp : ∀ i m a, noV i m = some a → vplain a = true := fun _ _ _ h => by cases h
theorem glNone {T T' : Tab} (h : T'.gv = fun _ _ => none) (h2 : T'.fv = fun _ _ => none) : @Gl T B w0 → @Gl T' B w0 := fun _ => ⟨fun g o a hg => (by rw [h] at hg; cases hg), fun i m a hg => (by rw [h2] at hg; cases hg)⟩
def isRow : Blk → Bool
  | .cells .. => true
  | .vec _ => true
  | _ => false
theorem toVec {T T' : Tab} {C : Cv} {x i : Nat} {b : Blk} (hb : isRow b = true) (hv : ∀ m, T'.vv i m = none) (hk : T'.vk i = 0) :
    own (x, b, i).2.1 = true ∧ ∀ μ l w, @brel T μ (x, b, i).2.1 l w → @brel T' (ren C.N0 C.rn μ) (.vec (x, b, i).2.2) l w := by
  cases b with
  | cells n p z t =>
    refine ⟨rfl, fun μ l w h => ?_⟩
    obtain ⟨arr, el, fz, h1, h2, h3, h4, h5, h6⟩ := h
    exact ⟨arr, el, fz, h1, h2, h3, by rw [hk]; omega, fun m a ha => by rw [hv] at ha; cases ha⟩
  | vec j =>
    refine ⟨rfl, fun μ l w h => ?_⟩
    obtain ⟨arr, el, fz, h1, h2, h3, h4, h5⟩ := h
    exact ⟨arr, el, fz, h1, h2, h3, by rw [hk]; omega, fun m a ha => by rw [hv] at ha; cases ha⟩
  | _ => simp [isRow] at hb
section
variable {iv : Nat → IntKind × Int}
abbrev VaOk (iv : Nat → IntKind × Int) (vv : Nat → Nat → Option AV) (vk : Nat → Nat) (r : VA) : Prop := isLen (iv r.j) ∧ isLen (iv r.j') ∧ (iv r.j').2.toNat * r.z = (iv r.j).2.toNat * r.z + r.src.length ∧ (iv r.j').2.toNat < limit ∧ vk r.i' ≤ (iv r.j').2.toNat * r.z ∧
    ∀ m a, vv r.i' m = some a → ∃ b, (if m < (iv r.j).2.toNat * r.z then vv r.i m else r.src[m - (iv r.j).2.toNat * r.z]?) = some b ∧ sameAV iv b a
abbrev VzOk (iv : Nat → IntKind × Int) (vv : Nat → Nat → Option AV) (vk : Nat → Nat) (r : VZ) : Prop := isLen (iv r.j) ∧ isLen (iv r.k) ∧ isLen (iv r.j') ∧ (iv r.j').2 = (iv r.j).2 + (iv r.k).2 ∧ (iv r.j').2.toNat < limit ∧ vk r.i' ≤ (iv r.j').2.toNat * r.z ∧
    ∀ m a, vv r.i' m = some a → m < (iv r.j').2.toNat * r.z ∧ ∃ b, (if m < (iv r.j).2.toNat * r.z then vv r.i m else r.zc[(m - (iv r.j).2.toNat * r.z) % r.zc.length]?) = some b ∧ sameAV iv b a
abbrev VnOk (iv : Nat → IntKind × Int) (vv : Nat → Nat → Option AV) (vk : Nat → Nat) (r : VN) : Prop := isLen (iv r.k) ∧ 0 < (iv r.k).2 ∧ iv r.j' = iv r.k ∧ (iv r.k).2.toNat < limit ∧ vk r.i' ≤ (iv r.k).2.toNat * r.z ∧
    ∀ m a, vv r.i' m = some a → m < (iv r.k).2.toNat * r.z ∧ ∃ b, r.zc[m % r.zc.length]? = some b ∧ sameAV iv b a
theorem allNil {α : Type} {p : α → Prop} : ∀ r ∈ ([] : List α), p r := fun r h => by simp at h
theorem allCons {α : Type} {p : α → Prop} {x : α} {l : List α} (h : p x) (k : ∀ r ∈ l, p r) : ∀ r ∈ x :: l, p r := fun r hr => by
  simp only [List.mem_cons] at hr
  rcases hr with rfl | hr
  · exact h
  · exact k r hr
theorem va0 {r : VA} {a b : Int} {c : Nat} (ha : iv r.j = (.i64, a)) (hb : iv r.j' = (.i64, b)) (h0 : 0 ≤ a) (hc : r.src.length = c * r.z) (h : b = a + c) (hl : b < 1000000) : VaOk iv noV noK r := by
  refine ⟨by rw [ha]; exact ⟨rfl, h0⟩, by rw [hb]; exact ⟨rfl, by show 0 ≤ b; omega⟩, ?_, ?_, Nat.zero_le _, fun m a h => by cases h⟩
  · rw [ha, hb, hc]
    show b.toNat * r.z = a.toNat * r.z + c * r.z
    rw [← Nat.add_mul]
    congr 1
    omega
  · rw [hb]; show b.toNat < limit; unfold limit; omega
theorem vz0 {r : VZ} {a b c : Int} (ha : iv r.j = (.i64, a)) (hc : iv r.k = (.i64, c)) (hb : iv r.j' = (.i64, b)) (h0 : 0 ≤ a) (h1 : 0 ≤ c) (h : b = a + c) (hl : b < 1000000) : VzOk iv noV noK r := by
  refine ⟨by rw [ha]; exact ⟨rfl, h0⟩, by rw [hc]; exact ⟨rfl, h1⟩, by rw [hb]; exact ⟨rfl, by show 0 ≤ b; omega⟩, ?_, ?_, Nat.zero_le _, fun m a h => by cases h⟩
  · rw [ha, hb, hc]; exact h
  · rw [hb]; show b.toNat < limit; unfold limit; omega
theorem vn0 {r : VN} {c : Int} (hc : iv r.k = (.i64, c)) (hb : iv r.j' = (.i64, c)) (h1 : 0 < c) (hl : c < 1000000) : VnOk iv noV noK r := by
  refine ⟨by rw [hc]; exact ⟨rfl, by show 0 ≤ c; omega⟩, by rw [hc]; exact h1, by rw [hc, hb], ?_, Nat.zero_le _, fun m a h => by cases h⟩
  rw [hc]; show c.toNat < limit; unfold limit; omega
end
def intV (A : Nat) (e : Nat → Int) : Nat → Option AV := fun m => if m < A then some (.int .i64 (e m)) else none
def boolV (A : Nat) (e : Nat → Bool) : Nat → Option AV := fun m => if m < A then some (.bool (e m)) else none
theorem intV_some {A : Nat} {e : Nat → Int} {m : Nat} {a : AV} (h : intV A e m = some a) : m < A ∧ a = .int .i64 (e m) := by
  unfold intV at h
  split at h
  · cases h; exact ⟨‹_›, rfl⟩
  · cases h
theorem boolV_some {A : Nat} {e : Nat → Bool} {m : Nat} {a : AV} (h : boolV A e m = some a) : m < A ∧ a = .bool (e m) := by
  unfold boolV at h
  split at h
  · cases h; exact ⟨‹_›, rfl⟩
  · cases h
theorem intV_lt {A : Nat} {e : Nat → Int} {m : Nat} (h : m < A) : intV A e m = some (.int .i64 (e m)) := by unfold intV; rw [if_pos h]
theorem boolV_lt {A : Nat} {e : Nat → Bool} {m : Nat} (h : m < A) : boolV A e m = some (.bool (e m)) := by unfold boolV; rw [if_pos h]
section
variable {iv : Nat → IntKind × Int} {vv : Nat → Nat → Option AV} {vk : Nat → Nat}
theorem sameInt {b : AV} {n : Int} (h : denI iv b = some (.i64, n)) : sameAV iv b (.int .i64 n) := .inr ⟨_, h, rfl⟩
theorem sameInt' {b : AV} {n : Int} (h : denI iv b = some (.i64, n)) : sameAV iv (.int .i64 n) b := .inr ⟨_, rfl, h⟩
theorem vaI {r : VA} {a b : Nat} {A' : Nat} {e e' : Nat → Int} (ha : iv r.j = (.i64, (a : Int))) (hb : iv r.j' = (.i64, (b : Int))) (h0 : vv r.i = intV (a * r.z) e) (h1 : vv r.i' = intV A' e') (hk : vk r.i' = A')
    (hA : A' = a * r.z + r.src.length) (hB : b * r.z = A') (hl : b < 1000000) (he : ∀ m, m < a * r.z → e' m = e m) (hs : ∀ q x, r.src[q]? = some x → denI iv x = some (.i64, e' (a * r.z + q))) : VaOk iv vv vk r := by
  refine ⟨by rw [ha]; exact ⟨rfl, Int.natCast_nonneg _⟩, by rw [hb]; exact ⟨rfl, Int.natCast_nonneg _⟩, by rw [ha, hb]; simpa using hB.trans hA, by rw [hb]; simpa [limit] using hl, by rw [hb, hk]; simp [hB], ?_⟩
  intro m x hx
  rw [h1] at hx
  obtain ⟨hm, rfl⟩ := intV_some hx
  rw [ha]
  simp only [Int.toNat_natCast]
  by_cases c : m < a * r.z
  · exact ⟨.int .i64 (e' m), by rw [if_pos c, h0, intV_lt c, he m c], .inl rfl⟩
  · rw [if_neg c]
    have hq : m - a * r.z < r.src.length := by omega
    refine ⟨r.src[m - a * r.z], by rw [List.getElem?_eq_getElem hq], sameInt ?_⟩
    have := hs (m - a * r.z) _ (List.getElem?_eq_getElem hq)
    rw [this]
    congr 3
    omega
theorem vaB {r : VA} {a b : Nat} {A' : Nat} {e e' : Nat → Bool} (ha : iv r.j = (.i64, (a : Int))) (hb : iv r.j' = (.i64, (b : Int))) (h0 : vv r.i = boolV (a * r.z) e) (h1 : vv r.i' = boolV A' e') (hk : vk r.i' = A')
    (hA : A' = a * r.z + r.src.length) (hB : b * r.z = A') (hl : b < 1000000) (he : ∀ m, m < a * r.z → e' m = e m) (hs : ∀ (q : Nat) (x : AV), r.src[q]? = some x → x = .bool (e' (a * r.z + q))) : VaOk iv vv vk r := by
  refine ⟨by rw [ha]; exact ⟨rfl, Int.natCast_nonneg _⟩, by rw [hb]; exact ⟨rfl, Int.natCast_nonneg _⟩, by rw [ha, hb]; simpa using hB.trans hA, by rw [hb]; simpa [limit] using hl, by rw [hb, hk]; simp [hB], ?_⟩
  intro m x hx
  rw [h1] at hx
  obtain ⟨hm, rfl⟩ := boolV_some hx
  rw [ha]
  simp only [Int.toNat_natCast]
  by_cases c : m < a * r.z
  · exact ⟨.bool (e' m), by rw [if_pos c, h0, boolV_lt c, he m c], .inl rfl⟩
  · rw [if_neg c]
    have hq : m - a * r.z < r.src.length := by omega
    refine ⟨r.src[m - a * r.z], by rw [List.getElem?_eq_getElem hq], .inl ?_⟩
    have := hs (m - a * r.z) _ (List.getElem?_eq_getElem hq)
    rw [this]
    congr 2
    omega
theorem vzI {r : VZ} {a b c : Nat} {e e' : Nat → Int} (ha : iv r.j = (.i64, (a : Int))) (hc : iv r.k = (.i64, (c : Int))) (hb : iv r.j' = (.i64, (b : Int))) (h0 : vv r.i = intV a e) (h1 : vv r.i' = intV b e') (hk : vk r.i' = b) (hz : r.z = 1) (hzc : r.zc = [.int .i64 0])
    (hA : b = a + c) (hl : b < 1000000) (he : ∀ m, m < a → e' m = e m) (hs : ∀ m, a ≤ m → m < b → e' m = 0) : VzOk iv vv vk r := by
  refine ⟨by rw [ha]; exact ⟨rfl, Int.natCast_nonneg _⟩, by rw [hc]; exact ⟨rfl, Int.natCast_nonneg _⟩, by rw [hb]; exact ⟨rfl, Int.natCast_nonneg _⟩, by rw [ha, hb, hc, hA]; simp, by rw [hb]; simpa [limit] using hl, by rw [hb, hk, hz]; simp, ?_⟩
  intro m x hx
  rw [h1] at hx
  obtain ⟨hm, rfl⟩ := intV_some hx
  rw [ha, hb, hz, hzc]
  simp only [Int.toNat_natCast, Nat.mul_one]
  refine ⟨hm, ?_⟩
  by_cases c : m < a
  · exact ⟨.int .i64 (e' m), by rw [if_pos c, h0, intV_lt c, he m c], .inl rfl⟩
  · rw [if_neg c]
    exact ⟨.int .i64 0, by simp [Nat.mod_one], .inl (by rw [hs m (by omega) hm])⟩
theorem vzB {r : VZ} {a b c : Nat} {e e' : Nat → Bool} (ha : iv r.j = (.i64, (a : Int))) (hc : iv r.k = (.i64, (c : Int))) (hb : iv r.j' = (.i64, (b : Int))) (h0 : vv r.i = boolV a e) (h1 : vv r.i' = boolV b e') (hk : vk r.i' = b) (hz : r.z = 1) (hzc : r.zc = [.bool false])
    (hA : b = a + c) (hl : b < 1000000) (he : ∀ m, m < a → e' m = e m) (hs : ∀ m, a ≤ m → m < b → e' m = false) : VzOk iv vv vk r := by
  refine ⟨by rw [ha]; exact ⟨rfl, Int.natCast_nonneg _⟩, by rw [hc]; exact ⟨rfl, Int.natCast_nonneg _⟩, by rw [hb]; exact ⟨rfl, Int.natCast_nonneg _⟩, by rw [ha, hb, hc, hA]; simp, by rw [hb]; simpa [limit] using hl, by rw [hb, hk, hz]; simp, ?_⟩
  intro m x hx
  rw [h1] at hx
  obtain ⟨hm, rfl⟩ := boolV_some hx
  rw [ha, hb, hz, hzc]
  simp only [Int.toNat_natCast, Nat.mul_one]
  refine ⟨hm, ?_⟩
  by_cases c : m < a
  · exact ⟨.bool (e' m), by rw [if_pos c, h0, boolV_lt c, he m c], .inl rfl⟩
  · rw [if_neg c]
    exact ⟨.bool false, by simp [Nat.mod_one], .inl (by rw [hs m (by omega) hm])⟩
theorem vnI {r : VN} {c : Nat} {e' : Nat → Int} (hc : iv r.k = (.i64, (c : Int))) (hb : iv r.j' = (.i64, (c : Int))) (h1 : vv r.i' = intV c e') (hk : vk r.i' = c) (hz : r.z = 1) (hzc : r.zc = [.int .i64 0]) (h0 : 0 < c) (hl : c < 1000000) (hs : ∀ m, m < c → e' m = 0) : VnOk iv vv vk r := by
  refine ⟨by rw [hc]; exact ⟨rfl, Int.natCast_nonneg _⟩, by rw [hc]; exact Int.natCast_pos.2 h0, by rw [hc, hb], by rw [hc]; simpa [limit] using hl, by rw [hc, hk, hz]; simp, ?_⟩
  intro m x hx
  rw [h1] at hx
  obtain ⟨hm, rfl⟩ := intV_some hx
  rw [hc, hz, hzc]
  exact ⟨by simpa using hm, .int .i64 0, by simp [Nat.mod_one], .inl (by rw [hs m hm])⟩
theorem vnB {r : VN} {c : Nat} {e' : Nat → Bool} (hc : iv r.k = (.i64, (c : Int))) (hb : iv r.j' = (.i64, (c : Int))) (h1 : vv r.i' = boolV c e') (hk : vk r.i' = c) (hz : r.z = 1) (hzc : r.zc = [.bool false]) (h0 : 0 < c) (hl : c < 1000000) (hs : ∀ m, m < c → e' m = false) : VnOk iv vv vk r := by
  refine ⟨by rw [hc]; exact ⟨rfl, Int.natCast_nonneg _⟩, by rw [hc]; exact Int.natCast_pos.2 h0, by rw [hc, hb], by rw [hc]; simpa [limit] using hl, by rw [hc, hk, hz]; simp, ?_⟩
  intro m x hx
  rw [h1] at hx
  obtain ⟨hm, rfl⟩ := boolV_some hx
  rw [hc, hz, hzc]
  exact ⟨by simpa using hm, .bool false, by simp [Nat.mod_one], .inl (by rw [hs m hm])⟩
abbrev VlOk (iv : Nat → IntKind × Int) (vv : Nat → Nat → Option AV) (r : VL) : Prop := isLen (iv r.k) ∧ ∀ m b, r.l[m]? = some b → ∃ a, vv r.i ((iv r.k).2.toNat * r.z + r.f + m) = some a ∧ sameAV iv a b
theorem vlI {r : VL} {k A : Nat} {e : Nat → Int} {b : AV} (hk : iv r.k = (.i64, (k : Int))) (h0 : vv r.i = intV A e) (hl : r.l = [b]) (ho : k * r.z + r.f < A) (hb : denI iv b = some (.i64, e (k * r.z + r.f))) : VlOk iv vv r := by
  refine ⟨by rw [hk]; exact ⟨rfl, Int.natCast_nonneg _⟩, fun m x hx => ?_⟩
  rw [hl] at hx
  cases m with
  | succ m => simp at hx
  | zero =>
    simp only [List.getElem?_cons_zero, Option.some.injEq] at hx
    subst hx
    rw [hk, h0]
    simp only [Int.toNat_natCast, Nat.add_zero]
    exact ⟨_, intV_lt ho, sameInt' hb⟩
theorem vlB {r : VL} {k A : Nat} {e : Nat → Bool} {b : Bool} (hk : iv r.k = (.i64, (k : Int))) (h0 : vv r.i = boolV A e) (hl : r.l = [.bool b]) (ho : k * r.z + r.f < A) (hb : e (k * r.z + r.f) = b) : VlOk iv vv r := by
  refine ⟨by rw [hk]; exact ⟨rfl, Int.natCast_nonneg _⟩, fun m x hx => ?_⟩
  rw [hl] at hx
  cases m with
  | succ m => simp at hx
  | zero =>
    simp only [List.getElem?_cons_zero, Option.some.injEq] at hx
    subst hx
    rw [hk, h0]
    simp only [Int.toNat_natCast, Nat.add_zero]
    exact ⟨_, boolV_lt ho, .inl (by rw [hb])⟩
abbrev VsOk (iv : Nat → IntKind × Int) (vv : Nat → Nat → Option AV) (vk : Nat → Nat) (r : VS) : Prop := isLen (iv r.k) ∧ (iv r.k).2.toNat * r.z + r.f + r.l.length ≤ vk r.i ∧ vk r.i' ≤ vk r.i ∧
    ∀ m a, vv r.i' m = some a → ∃ b, (if (iv r.k).2.toNat * r.z + r.f ≤ m ∧ m < (iv r.k).2.toNat * r.z + r.f + r.l.length then r.l[m - ((iv r.k).2.toNat * r.z + r.f)]? else vv r.i m) = some b ∧ sameAV iv b a
theorem vsI {r : VS} {k A : Nat} {e e' : Nat → Int} {b : AV} (hk : iv r.k = (.i64, (k : Int))) (h0 : vv r.i = intV A e) (h1 : vv r.i' = intV A e') (hv : vk r.i = A) (hv' : vk r.i' = A) (hl : r.l = [b]) (ho : k * r.z + r.f < A) (hb : denI iv b = some (.i64, e' (k * r.z + r.f))) (he : ∀ m, m < A → m ≠ k * r.z + r.f → e' m = e m) : VsOk iv vv vk r := by
  refine ⟨by rw [hk]; exact ⟨rfl, Int.natCast_nonneg _⟩, by rw [hk, hv, hl]; simpa [Nat.succ_le_iff] using ho, by rw [hv, hv']; exact Nat.le_refl _, fun m x hx => ?_⟩
  rw [h1] at hx
  obtain ⟨hm, rfl⟩ := intV_some hx
  rw [hk, hl, h0]
  simp only [Int.toNat_natCast, List.length_singleton]
  by_cases c : m = k * r.z + r.f
  · subst c
    rw [if_pos (by omega)]
    exact ⟨b, by simp, sameInt hb⟩
  · rw [if_neg (by omega)]
    exact ⟨_, intV_lt hm, .inl (by rw [he m hm c])⟩
theorem vsB {r : VS} {k A : Nat} {e e' : Nat → Bool} {b : Bool} (hk : iv r.k = (.i64, (k : Int))) (h0 : vv r.i = boolV A e) (h1 : vv r.i' = boolV A e') (hv : vk r.i = A) (hv' : vk r.i' = A) (hl : r.l = [.bool b]) (ho : k * r.z + r.f < A) (hb : e' (k * r.z + r.f) = b) (he : ∀ m, m < A → m ≠ k * r.z + r.f → e' m = e m) : VsOk iv vv vk r := by
  refine ⟨by rw [hk]; exact ⟨rfl, Int.natCast_nonneg _⟩, by rw [hk, hv, hl]; simpa [Nat.succ_le_iff] using ho, by rw [hv, hv']; exact Nat.le_refl _, fun m x hx => ?_⟩
  rw [h1] at hx
  obtain ⟨hm, rfl⟩ := boolV_some hx
  rw [hk, hl, h0]
  simp only [Int.toNat_natCast, List.length_singleton]
  by_cases c : m = k * r.z + r.f
  · subst c
    rw [if_pos (by omega)]
    exact ⟨.bool b, by simp, .inl (by rw [hb])⟩
  · rw [if_neg (by omega)]
    exact ⟨_, boolV_lt hm, .inl (by rw [he m hm c])⟩
end
theorem vecSub {T T' : Tab} {C : Cv} {x i i' : Nat} (hv : ∀ m a, T'.vv i' m = some a → T.vv i m = some a ∧ ((∃ n, a = .int .i64 n) ∨ ∃ b, a = .bool b)) (hk : T'.vk i' ≤ T.vk i) :
    own (x, (.vec i : Blk), i').2.1 = true ∧ ∀ μ l w, @brel T μ (x, (.vec i : Blk), i').2.1 l w → @brel T' (ren C.N0 C.rn μ) (.vec (x, (.vec i : Blk), i').2.2) l w := by
  refine ⟨rfl, fun μ l w h => ?_⟩
  obtain ⟨arr, el, fz, h1, h2, h3, h4, h5⟩ := h
  refine ⟨arr, el, fz, h1, h2, h3, by dsimp only; omega, fun m a ha => ?_⟩
  obtain ⟨g1, g2⟩ := hv m a ha
  obtain ⟨v, v1, v2⟩ := h5 m a g1
  refine ⟨v, v1, ?_⟩
  rcases g2 with ⟨n, rfl⟩ | ⟨b, rfl⟩
  · simpa [vrel] using v2
  · simpa [vrel] using v2
theorem intV_sub {A A' : Nat} {e : Nat → Int} (h : A' ≤ A) : ∀ m a, intV A' e m = some a → intV A e m = some a ∧ ((∃ n, a = .int .i64 n) ∨ ∃ b, a = .bool b) := fun m a ha => by
  obtain ⟨hm, rfl⟩ := intV_some ha
  exact ⟨intV_lt (by omega), .inl ⟨_, rfl⟩⟩
theorem boolV_sub {A A' : Nat} {e : Nat → Bool} (h : A' ≤ A) : ∀ m a, boolV A' e m = some a → boolV A e m = some a ∧ ((∃ n, a = .int .i64 n) ∨ ∃ b, a = .bool b) := fun m a ha => by
  obtain ⟨hm, rfl⟩ := boolV_some ha
  exact ⟨boolV_lt (by omega), .inr ⟨_, rfl⟩⟩
theorem rowVec {T T' : Tab} {C : Cv} {x i : Nat} {l : List AV} {opn : Bool} (hlim : l.length < limit) (hv : ∀ m a, T'.vv i m = some a → ∃ b, l[m]? = some b ∧ ((∃ n, denI T.iv b = some (.i64, n) ∧ a = .int .i64 n) ∨ ∃ c, b = .bool c ∧ a = .bool c)) (hk : T'.vk i ≤ l.length) :
    own (x, rowOf l opn, i).2.1 = true ∧ ∀ μ p w, @brel T μ (x, rowOf l opn, i).2.1 p w → @brel T' (ren C.N0 C.rn μ) (.vec (x, rowOf l opn, i).2.2) p w := by
  refine ⟨rfl, fun μ p w h => ?_⟩
  obtain ⟨arr, el, fz, h1, h2, h3, h4, h5, h6⟩ := h
  refine ⟨arr, el, fz, h1, h2, h3, by dsimp only; omega, fun m a ha => ?_⟩
  obtain ⟨b, g1, g2⟩ := hv m a ha
  have hm : m < l.length := (List.getElem?_eq_some_iff.1 g1).1
  obtain ⟨v, v1, v2⟩ := h6 m b hm (by rw [@cellOf_row T _ _ hlim]; exact g1)
  refine ⟨v, v1, ?_⟩
  rcases g2 with ⟨n, g3, rfl⟩ | ⟨c, rfl, rfl⟩
  · cases b <;> simp [denI] at g3
    · obtain ⟨rfl, rfl⟩ := g3; simpa [vrel] using v2
    · simp only [vrel] at v2 ⊢; rw [v2, g3]
  · simpa [vrel] using v2
theorem ibRem [Tab] {iv : Nat → IntKind × Int} {x y z : AV} {a b c : Int} (hx : denI iv x = some (.i64, a)) (hy : denI iv y = some (.i64, b)) (hz : denI iv z = some (.i64, c)) (h0 : b ≠ 0) (h : a.tmod b = c) : IbOk iv (4, x, y, z) := by
  intro op hop
  have : op = .rem := by cases op <;> simp [bcode] at hop; rfl
  subst this
  refine ⟨.i64, a, .i64, b, .int .i64 (a.tmod b), hx, hy, ?_, ?_⟩
  · show (if b = 0 then none else some (AV.int .i64 (a.tmod b))) = _
    rw [if_neg h0]
  show denI iv z = some (.i64, a.tmod b)
  rw [h]; exact hz
theorem St.yes [τ : Tab] {fn : Func} {fr : Fr} {h h' : H} (hl : leaves P fn .ret fr h = some (.bool true, h')) (s : St τ B w0 μ0 fn.ntmps fr h a w) : Yes P fn B w0 .ret a w := by
  obtain ⟨μ, _, f, r⟩ := s
  obtain ⟨⟨e1, e2, e3, e4, e5, _⟩, _⟩ := r.parts
  obtain ⟨v, hv, e⟩ := ob_some (show ob _ _ = _ from hl)
  cases e
  obtain ⟨v', k1, k2⟩ := results_sound (P := P) f r hv
  simp only [vrel] at k2
  subst k2
  exact ⟨.inr rfl, f.2.1, ⟨e1, e2, e3, e4, e5⟩, k1⟩
theorem ic64 {iv : Nat → IntKind × Int} {k : IntKind} {x y : AV} {n : Int} (hx : denI iv x = some (k, n)) (hy : denI iv y = some (.i64, n)) (h1 : -9223372036854775808 ≤ n) (h2 : n ≤ 9223372036854775807) : ∃ k' m, denI iv ((IntKind.i64, x, y) : IntKind × AV × AV).2.1 = some (k', m) ∧ denI iv ((IntKind.i64, x, y) : IntKind × AV × AV).2.2 = some (.i64, IntKind.i64.wrap m) :=
  ⟨k, n, hx, by rw [wrap64 h1 h2]; exact hy⟩
theorem wrapU64 {n : Int} (h1 : 0 ≤ n) (h2 : n ≤ 18446744073709551615) : IntKind.u64.wrap n = n := by
  unfold IntKind.wrap IntKind.bits IntKind.signed
  simp only [Bool.false_and, Bool.false_eq_true, if_false]
  omega
theorem icU64 {iv : Nat → IntKind × Int} {k : IntKind} {x y : AV} {n : Int} (hx : denI iv x = some (k, n)) (hy : denI iv y = some (.u64, n)) (h1 : 0 ≤ n) (h2 : n ≤ 18446744073709551615) : ∃ k' m, denI iv ((IntKind.u64, x, y) : IntKind × AV × AV).2.1 = some (k', m) ∧ denI iv ((IntKind.u64, x, y) : IntKind × AV × AV).2.2 = some (.u64, IntKind.u64.wrap m) :=
  ⟨k, n, hx, by rw [wrapU64 h1 h2]; exact hy⟩
theorem vs0 {iv : Nat → IntKind × Int} {vk : Nat → Nat} {r : VS} {k : Nat} (hk : iv r.k = (.i64, (k : Int))) (ho : k * r.z + r.f + r.l.length ≤ vk r.i) (hv : vk r.i' ≤ vk r.i) : VsOk iv noV vk r :=
  ⟨by rw [hk]; exact ⟨rfl, Int.natCast_nonneg _⟩, by rw [hk]; simpa using ho, hv, fun m a h => by cases h⟩
theorem va1 {iv : Nat → IntKind × Int} {vk : Nat → Nat} {r : VA} {a b c : Nat} (ha : iv r.j = (.i64, (a : Int))) (hb : iv r.j' = (.i64, (b : Int))) (hc : r.src.length = c * r.z) (h : b = a + c) (hl : b < 1000000) (hk : vk r.i' ≤ b * r.z) : VaOk iv noV vk r := by
  refine ⟨by rw [ha]; exact ⟨rfl, Int.natCast_nonneg _⟩, by rw [hb]; exact ⟨rfl, Int.natCast_nonneg _⟩, ?_, by rw [hb]; simpa [limit] using hl, by rw [hb]; simpa using hk, fun m a h => by cases h⟩
  rw [ha, hb, hc]
  simp only [Int.toNat_natCast]
  rw [← Nat.add_mul, h]
theorem vz1 {iv : Nat → IntKind × Int} {vk : Nat → Nat} {r : VZ} {a b c : Nat} (ha : iv r.j = (.i64, (a : Int))) (hc : iv r.k = (.i64, (c : Int))) (hb : iv r.j' = (.i64, (b : Int))) (h : b = a + c) (hl : b < 1000000) (hk : vk r.i' ≤ b * r.z) : VzOk iv noV vk r :=
  ⟨by rw [ha]; exact ⟨rfl, Int.natCast_nonneg _⟩, by rw [hc]; exact ⟨rfl, Int.natCast_nonneg _⟩, by rw [hb]; exact ⟨rfl, Int.natCast_nonneg _⟩, by rw [ha, hb, hc, h]; simp, by rw [hb]; simpa [limit] using hl, by rw [hb]; simpa using hk, fun m a h => by cases h⟩
theorem vn1 {iv : Nat → IntKind × Int} {vk : Nat → Nat} {r : VN} {c : Nat} (hc : iv r.k = (.i64, (c : Int))) (hb : iv r.j' = (.i64, (c : Int))) (h1 : 0 < c) (hl : c < 1000000) (hk : vk r.i' ≤ c * r.z) : VnOk iv noV vk r :=
  ⟨by rw [hc]; exact ⟨rfl, Int.natCast_nonneg _⟩, by rw [hc]; exact Int.natCast_pos.2 h1, by rw [hc, hb], by rw [hc]; simpa [limit] using hl, by rw [hc]; simpa using hk, fun m a h => by cases h⟩
end Go.X
set_option linter.unusedVariables false
set_option linter.unusedSimpArgs false
set_option linter.unusedSectionVars false
namespace Go.X
variable {iv : Nat → IntKind × Int}
theorem bcode_inj {a b : BinOp} (h : bcode a = bcode b) : a = b := by cases a <;> cases b <;> first | rfl | (simp [bcode] at h)
theorem ibOf {op : BinOp} {x y z : AV} {k k' : IntKind} {a b : Int} {v : AV} (hx : denI iv x = some (k, a)) (hy : denI iv y = some (k', b)) (h : intBin op k a k' b = some v) (hz : outI iv z v) : IbOk iv (bcode op, x, y, z) := by
  intro o ho
  obtain rfl := bcode_inj ho
  exact ⟨k, a, k', b, v, hx, hy, h, hz⟩
theorem ibShl {x y z : AV} {k k' : IntKind} {a b c : Int} (hx : denI iv x = some (k, a)) (hy : denI iv y = some (k', b)) (hz : denI iv z = some (k, c)) (h0 : 0 ≤ b) (h : k.wrap (a * 2 ^ (min b.toNat k.bits)) = c) : IbOk iv (15, x, y, z) := by
  refine ibOf (op := .shl) hx hy (v := .int k c) ?_ hz
  show shiftOp .shl k a b = _
  simp only [shiftOp]
  rw [if_neg (by omega), h]
theorem ibShr {x y z : AV} {k k' : IntKind} {a b c : Int} (hx : denI iv x = some (k, a)) (hy : denI iv y = some (k', b)) (hz : denI iv z = some (k, c)) (h0 : 0 ≤ b) (h : a.fdiv (2 ^ (min b.toNat k.bits)) = c) : IbOk iv (16, x, y, z) := by
  refine ibOf (op := .shr) hx hy (v := .int k c) ?_ hz
  show shiftOp .shr k a b = _
  simp only [shiftOp]
  rw [if_neg (by omega), h]
theorem kc (k : IntKind) : Nat.beq (kcode k) (kcode k) = true := by cases k <;> rfl
theorem ibAnd {x y z : AV} {k : IntKind} {a b c : Int} (hx : denI iv x = some (k, a)) (hy : denI iv y = some (k, b)) (hz : denI iv z = some (k, c)) (h : k.wrap (BitVec.ofInt k.bits a &&& BitVec.ofInt k.bits b).toNat = c) : IbOk iv (5, x, y, z) := by
  refine ibOf (op := .and) hx hy (v := .int k c) ?_ hz
  show (Bool.rec (ifb (Nat.beq (kcode k) (kcode k)) (intOp .and k a b)) (shiftOp .and k a b) false : Option AV) = _
  rw [kc, ← h]; rfl
theorem ibOr {x y z : AV} {k : IntKind} {a b c : Int} (hx : denI iv x = some (k, a)) (hy : denI iv y = some (k, b)) (hz : denI iv z = some (k, c)) (h : k.wrap (BitVec.ofInt k.bits a ||| BitVec.ofInt k.bits b).toNat = c) : IbOk iv (6, x, y, z) := by
  refine ibOf (op := .or) hx hy (v := .int k c) ?_ hz
  show (Bool.rec (ifb (Nat.beq (kcode k) (kcode k)) (intOp .or k a b)) (shiftOp .or k a b) false : Option AV) = _
  rw [kc, ← h]; rfl
theorem ibAndNot {x y z : AV} {k : IntKind} {a b c : Int} (hx : denI iv x = some (k, a)) (hy : denI iv y = some (k, b)) (hz : denI iv z = some (k, c)) (h : k.wrap (BitVec.ofInt k.bits a &&& ~~~BitVec.ofInt k.bits b).toNat = c) : IbOk iv (8, x, y, z) := by
  refine ibOf (op := .andNot) hx hy (v := .int k c) ?_ hz
  show (Bool.rec (ifb (Nat.beq (kcode k) (kcode k)) (intOp .andNot k a b)) (shiftOp .andNot k a b) false : Option AV) = _
  rw [kc, ← h]; rfl
theorem ibEqK {x y : AV} {k : IntKind} {a b : Int} {t : Bool} (hx : denI iv x = some (k, a)) (hy : denI iv y = some (k, b)) (h : decide (a = b) = t) : IbOk iv (9, x, y, .bool t) := by
  refine ibOf (op := .eql) hx hy (v := .bool (a == b)) ?_ ?_
  · show (Bool.rec (ifb (Nat.beq (kcode k) (kcode k)) (intOp .eql k a b)) (shiftOp .eql k a b) false : Option AV) = _
    rw [kc]; rfl
  · show AV.bool t = .bool (a == b)
    rw [← h]; congr 1
theorem ibNeK {x y : AV} {k : IntKind} {a b : Int} {t : Bool} (hx : denI iv x = some (k, a)) (hy : denI iv y = some (k, b)) (h : decide (a = b) = !t) : IbOk iv (10, x, y, .bool t) := by
  refine ibOf (op := .neq) hx hy (v := .bool (a != b)) ?_ ?_
  · show (Bool.rec (ifb (Nat.beq (kcode k) (kcode k)) (intOp .neq k a b)) (shiftOp .neq k a b) false : Option AV) = _
    rw [kc]; rfl
  · show AV.bool t = .bool (a != b)
    have : (a == b) = !t := by rw [← h]; rfl
    rw [bne, this, Bool.not_not]
abbrev IcOk (iv : Nat → IntKind × Int) (r : IntKind × AV × AV) : Prop := ∃ k n, denI iv r.2.1 = some (k, n) ∧ denI iv r.2.2 = some (r.1, r.1.wrap n)
theorem icOf {k k' : IntKind} {x y : AV} {n c : Int} (hx : denI iv x = some (k', n)) (hy : denI iv y = some (k, c)) (h : k.wrap n = c) : IcOk iv (k, x, y) := ⟨k', n, hx, by show denI iv y = some (k, k.wrap n); rw [h]; exact hy⟩
theorem wrap_mod (k : IntKind) (n : Int) : k.wrap n % 2 ^ k.bits = n % 2 ^ k.bits := by
  unfold IntKind.wrap
  simp only
  split
  · rw [Int.sub_emod, Int.emod_emod, Int.emod_self, Int.sub_zero, Int.emod_emod]
  · rw [Int.emod_emod]
theorem wrap_congr (k : IntKind) {n m : Int} (h : n % 2 ^ k.bits = m % 2 ^ k.bits) : k.wrap n = k.wrap m := by
  unfold IntKind.wrap
  simp only [h]
theorem wrap_wrap {k l : IntKind} (h : k.bits ≤ l.bits) (n : Int) : k.wrap (l.wrap n) = k.wrap n := by
  refine wrap_congr k ?_
  have hd : (2 ^ k.bits : Int) ∣ 2 ^ l.bits := ⟨2 ^ (l.bits - k.bits), by rw [← Int.pow_add]; congr 1; omega⟩
  rw [← Int.emod_emod_of_dvd (l.wrap n) hd, wrap_mod, Int.emod_emod_of_dvd n hd]
theorem wrapU (W : BitVec 64) : IntKind.u64.wrap (W.toNat : Int) = (W.toNat : Int) := wrapU64 (by omega) (by have := W.isLt; omega)
theorem ofIntU (W : BitVec 64) : BitVec.ofInt IntKind.u64.bits (W.toNat : Int) = W := by
  show BitVec.ofInt 64 (W.toNat : Int) = W
  rw [BitVec.ofInt_natCast, BitVec.ofNat_toNat, BitVec.setWidth_eq]
theorem u64OfInt (v : Int) : IntKind.u64.wrap v = ((BitVec.ofInt 64 v).toNat : Int) := by
  unfold IntKind.wrap IntKind.bits IntKind.signed
  simp only [Bool.false_and]
  rw [BitVec.toNat_ofInt]
  show v % 2 ^ 64 = _
  omega
abbrev wI (W : BitVec 64) : Int := (W.toNat : Int)
theorem ibShlW {x y z : AV} {k' : IntKind} {W V : BitVec 64} {s : Nat} (hx : denI iv x = some (.u64, wI W)) (hy : denI iv y = some (k', (s : Int))) (hz : denI iv z = some (.u64, wI V)) (hs : s < 64) (h : W <<< s = V) : IbOk iv (15, x, y, z) := by
  refine ibShl hx hy hz (by omega) ?_
  subst h
  have hm : min (s : Int).toNat IntKind.u64.bits = s := by show min (s : Int).toNat 64 = s; omega
  rw [hm]
  unfold IntKind.wrap IntKind.bits IntKind.signed
  simp only [Bool.false_and]
  show (W.toNat : Int) * 2 ^ s % 2 ^ 64 = ((W <<< s).toNat : Int)
  rw [BitVec.toNat_shiftLeft, Nat.shiftLeft_eq]
  simp
theorem ibShrW {x y z : AV} {k' : IntKind} {W V : BitVec 64} {s : Nat} (hx : denI iv x = some (.u64, wI W)) (hy : denI iv y = some (k', (s : Int))) (hz : denI iv z = some (.u64, wI V)) (hs : s < 64) (h : W >>> s = V) : IbOk iv (16, x, y, z) := by
  refine ibShr hx hy hz (by omega) ?_
  subst h
  have hm : min (s : Int).toNat IntKind.u64.bits = s := by show min (s : Int).toNat 64 = s; omega
  rw [hm, Int.fdiv_eq_ediv_of_nonneg _ (by exact Int.pow_nonneg (by decide))]
  show (W.toNat : Int) / 2 ^ s = ((W >>> s).toNat : Int)
  rw [BitVec.toNat_ushiftRight, Nat.shiftRight_eq_div_pow]
  simp
theorem ibAndW {x y z : AV} {W U V : BitVec 64} (hx : denI iv x = some (.u64, wI W)) (hy : denI iv y = some (.u64, wI U)) (hz : denI iv z = some (.u64, wI V)) (h : W &&& U = V) : IbOk iv (5, x, y, z) := by
  refine ibAnd hx hy hz ?_
  subst h; rw [ofIntU, ofIntU]; exact wrapU _
theorem ibOrW {x y z : AV} {W U V : BitVec 64} (hx : denI iv x = some (.u64, wI W)) (hy : denI iv y = some (.u64, wI U)) (hz : denI iv z = some (.u64, wI V)) (h : W ||| U = V) : IbOk iv (6, x, y, z) := by
  refine ibOr hx hy hz ?_
  subst h; rw [ofIntU, ofIntU]; exact wrapU _
theorem ibAndNotW {x y z : AV} {W U V : BitVec 64} (hx : denI iv x = some (.u64, wI W)) (hy : denI iv y = some (.u64, wI U)) (hz : denI iv z = some (.u64, wI V)) (h : W &&& ~~~U = V) : IbOk iv (8, x, y, z) := by
  refine ibAndNot hx hy hz ?_
  subst h; rw [ofIntU, ofIntU]; exact wrapU _
def numV (k : IntKind) (A : Nat) (e : Nat → Int) : Nat → Option AV := fun m => if m < A then some (.int k (e m)) else none
theorem numV_some {k : IntKind} {A : Nat} {e : Nat → Int} {m : Nat} {a : AV} (h : numV k A e m = some a) : m < A ∧ a = .int k (e m) := by
  unfold numV at h
  split at h
  · cases h; exact ⟨by assumption, rfl⟩
  · cases h
theorem numV_lt {k : IntKind} {A : Nat} {e : Nat → Int} {m : Nat} (h : m < A) : numV k A e m = some (.int k (e m)) := by unfold numV; rw [if_pos h]
theorem numV_plain {k : IntKind} {A : Nat} {e : Nat → Int} : ∀ m a, numV k A e m = some a → plain a = true := fun m a h => by
  obtain ⟨_, rfl⟩ := numV_some h; rfl
theorem numV_sub {k : IntKind} {A A' : Nat} {e e' : Nat → Int} (h : A' ≤ A) (he : ∀ m, m < A' → e' m = e m) : ∀ m a, numV k A' e' m = some a → numV k A e m = some a ∧ ∃ n, a = .int k n := fun m a ha => by
  obtain ⟨h1, rfl⟩ := numV_some ha
  rw [he m h1]
  exact ⟨numV_lt (by omega), _, rfl⟩
variable {vv : Nat → Nat → Option AV} {vk : Nat → Nat}
theorem vlN {r : VL} {K : IntKind} {k A : Nat} {e : Nat → Int} {b : AV} (hk : iv r.k = (.i64, (k : Int))) (h0 : vv r.i = numV K A e) (hl : r.l = [b]) (ho : k * r.z + r.f < A) (hb : denI iv b = some (K, e (k * r.z + r.f))) : VlOk iv vv r := by
  refine ⟨by rw [hk]; exact ⟨rfl, by simp⟩, fun m x hx => ?_⟩
  rw [hl] at hx
  have hm : m = 0 := by
    have := (List.getElem?_eq_some_iff.1 hx).1
    simpa using this
  subst hm
  simp at hx
  subst hx
  have e1 : (iv r.k).2.toNat = k := by rw [hk]; simp
  rw [e1, h0, Nat.add_zero]
  exact ⟨_, numV_lt ho, .inr ⟨_, rfl, hb⟩⟩
theorem vsN {r : VS} {K : IntKind} {k A : Nat} {e e' : Nat → Int} {b : AV} (hk : iv r.k = (.i64, (k : Int))) (h0 : vv r.i = numV K A e) (h1 : vv r.i' = numV K A e') (hv : vk r.i = A) (hv' : vk r.i' = A) (hl : r.l = [b]) (ho : k * r.z + r.f < A) (hb : denI iv b = some (K, e' (k * r.z + r.f))) (he : ∀ m, m < A → m ≠ k * r.z + r.f → e' m = e m) : VsOk iv vv vk r := by
  have e1 : (iv r.k).2.toNat = k := by rw [hk]; simp
  refine ⟨by rw [hk]; exact ⟨rfl, by simp⟩, by rw [e1, hl, hv]; simp; omega, by rw [hv, hv']; exact Nat.le_refl _, fun m x hx => ?_⟩
  rw [h1] at hx
  obtain ⟨hm, rfl⟩ := numV_some hx
  rw [e1, h0, hl]
  by_cases hmo : m = k * r.z + r.f
  · subst hmo
    rw [if_pos ⟨Nat.le_refl _, by simp⟩]
    simp only [Nat.sub_self]
    exact ⟨b, rfl, .inr ⟨_, hb, rfl⟩⟩
  · rw [if_neg (by simp; omega), numV_lt hm]
    exact ⟨_, rfl, .inl (by rw [he m hm hmo])⟩
theorem vnN {r : VN} {K : IntKind} {c : Nat} {e' : Nat → Int} (hc : iv r.k = (.i64, (c : Int))) (hb : iv r.j' = (.i64, (c : Int))) (h1 : vv r.i' = numV K c e') (hk : vk r.i' = c) (hz : r.z = 1) (hzc : r.zc = [.int K 0]) (h0 : 0 < c) (hl : c < 1000000) (hs : ∀ m, m < c → e' m = 0) : VnOk iv vv vk r := by
  refine ⟨by rw [hc]; exact ⟨rfl, by simp⟩, by rw [hc]; simpa using h0, by rw [hb, hc], by rw [hc]; simpa [limit] using hl, by rw [hk, hc, hz]; simp, fun m a ha => ?_⟩
  rw [h1] at ha
  obtain ⟨hm, rfl⟩ := numV_some ha
  refine ⟨by rw [hc, hz]; simpa using hm, .int K 0, ?_, .inl (by rw [hs m hm])⟩
  rw [hzc]; simp [Nat.mod_one]
def msk (S s : Nat) : BitVec 64 := BitVec.ofNat 64 (2 ^ S - 1) <<< s
def setW (S s : Nat) (W v : BitVec 64) : BitVec 64 := (W &&& ~~~msk S s) ||| ((v <<< s) &&& msk S s)
theorem msk_bit (S s i : Nat) (hi : i < 64) : (msk S s).getLsbD i = (decide (s ≤ i) && decide (i < s + S)) := by
  unfold msk
  rw [BitVec.getLsbD_shiftLeft, BitVec.getLsbD_ofNat, Nat.testBit_two_pow_sub_one]
  by_cases h1 : s ≤ i
  · have h2 : decide (i - s < S) = decide (i < s + S) := by congr 1; simp only [eq_iff_iff]; omega
    have h3 : i - s < 64 := by omega
    simp [hi, h1, h2, h3, show ¬ i < s from by omega]
  · simp [h1, show i < s from by omega]
theorem setW_bit (S s : Nat) (W v : BitVec 64) (i : Nat) (hi : i < 64) : (setW S s W v).getLsbD i = if s ≤ i ∧ i < s + S then v.getLsbD (i - s) else W.getLsbD i := by
  unfold setW
  rw [BitVec.getLsbD_or, BitVec.getLsbD_and, BitVec.getLsbD_and, BitVec.getLsbD_not, msk_bit S s i hi, BitVec.getLsbD_shiftLeft]
  by_cases h1 : s ≤ i ∧ i < s + S
  · simp [hi, h1.1, h1.2, show ¬ i < s from by omega]
  · rw [if_neg h1]
    by_cases h2 : s ≤ i
    · have : ¬ i < s + S := fun h => h1 ⟨h2, h⟩
      simp [hi, this]
    · simp [hi, h2, show i < s from by omega]
def upd (per S : Nat) (c : Nat → BitVec 64) (k : Nat) (v : BitVec 64) : Nat → BitVec 64 := fun m => if m = k / per then setW S (k % per * S) (c m) v else c m
def low (per S : Nat) (c : Nat → BitVec 64) (j : Nat) : BitVec S := (c (j / per) >>> (j % per * S)).setWidth S
theorem place_lt {per S j : Nat} (h : per * S = 64) : j % per * S + S ≤ 64 := by
  have hp : 0 < per := Nat.pos_of_ne_zero (by rintro rfl; simp at h)
  have h1 : j % per + 1 ≤ per := Nat.mod_lt _ hp
  have h2 := Nat.mul_le_mul_right S h1
  rw [Nat.add_mul, Nat.one_mul, h] at h2
  exact h2
theorem low_upd {per S : Nat} (h : per * S = 64) (c : Nat → BitVec 64) (k j : Nat) (v : BitVec 64) : low per S (upd per S c k v) j = if j = k then v.setWidth S else low per S c j := by
  have hj := place_lt (j := j) h
  have hk := place_lt (j := k) h
  have key : ∀ b, b < S → (low per S (upd per S c k v) j).getLsbD b = (if j = k then v.setWidth S else low per S c j).getLsbD b := by
    intro b hb
    unfold low upd
    rw [BitVec.getLsbD_setWidth, BitVec.getLsbD_ushiftRight]
    by_cases e : j / per = k / per
    · rw [if_pos e, setW_bit _ _ _ _ _ (by omega)]
      by_cases e2 : j = k
      · subst e2
        rw [if_pos (by omega), if_pos rfl, BitVec.getLsbD_setWidth]
        congr 2
        omega
      · have hp : 0 < per := Nat.pos_of_ne_zero (by rintro rfl; simp at h)
        have e3 : j % per ≠ k % per := fun e3 => e2 (by rw [← Nat.div_add_mod j per, ← Nat.div_add_mod k per, e, e3])
        have e4 : ¬ (k % per * S ≤ j % per * S + b ∧ j % per * S + b < k % per * S + S) := by
          rcases Nat.lt_or_gt_of_ne e3 with h1 | h1
          · have := Nat.mul_le_mul_right S (show j % per + 1 ≤ k % per from h1)
            rw [Nat.add_mul, Nat.one_mul] at this
            omega
          · have := Nat.mul_le_mul_right S (show k % per + 1 ≤ j % per from h1)
            rw [Nat.add_mul, Nat.one_mul] at this
            omega
        rw [if_neg e4, if_neg e2, BitVec.getLsbD_setWidth, BitVec.getLsbD_ushiftRight]
    · have e2 : j ≠ k := fun h' => e (by rw [h'])
      rw [if_neg e, if_neg e2, BitVec.getLsbD_setWidth, BitVec.getLsbD_ushiftRight]
  exact BitVec.eq_of_getLsbD_eq fun i hi => key i hi
def putsTo (per S : Nat) (f : Nat → BitVec 64) : Nat → Nat → BitVec 64
  | 0 => fun _ => 0
  | i + 1 => upd per S (putsTo per S f i) i (f i)
theorem low_puts {per S : Nat} (h : per * S = 64) (f : Nat → BitVec 64) : ∀ (n j : Nat), j < n → low per S (putsTo per S f n) j = (f j).setWidth S
  | 0, j, hj => by omega
  | n + 1, j, hj => by
    rw [putsTo, low_upd h]
    split
    · rename_i e; rw [e]
    · exact low_puts h f n j (by omega)
theorem low_mod {per S : Nat} (c : Nat → BitVec 64) (j : Nat) : (wI (c (j / per) >>> (j % per * S))) % 2 ^ S = ((low per S c j).toNat : Int) := by
  unfold low wI
  rw [BitVec.toNat_setWidth]
  simp
theorem setWidth_mod {S : Nat} (hS : S ≤ 64) (v : Int) : (((BitVec.ofInt 64 v).setWidth S).toNat : Int) = v % 2 ^ S := by
  rw [BitVec.toNat_setWidth, BitVec.toNat_ofInt]
  have hd : ((2 : Int) ^ S) ∣ 2 ^ 64 := ⟨2 ^ (64 - S), by rw [← Int.pow_add]; congr 1; omega⟩
  have h0 : (0 : Int) ≤ v % (2 ^ 64 : Nat) := Int.emod_nonneg _ (by decide)
  have : (((v % (2 ^ 64 : Nat)).toNat % 2 ^ S : Nat) : Int) = (v % (2 ^ 64 : Nat)) % 2 ^ S := by
    rw [Int.natCast_emod, Int.toNat_of_nonneg h0]; simp
  rw [this]
  exact Int.emod_emod_of_dvd v hd
end Go.X
set_option linter.unusedVariables false
set_option linter.unusedSimpArgs false
set_option linter.unusedSectionVars false
namespace Go.X
open Go.RowKit
variable {P : Program} {B : Kp} {w0 : World} {nt : Nat} {a : Act} {w : World}
def Done [Tab] (P : Program) (fn : Func) (B : Kp) (w0 : World) (μ : M) (v : AV) (h' : H) (e : Exit) (a : Act) (w : World) : Prop :=
  (e = .normal ∨ e = .ret) ∧ a.defers = [] ∧ ∃ v' μ', (results fn a.tmps).run P w = .ok v' w ∧ Ext μ μ' ∧ vrel μ' v v' ∧ HR B w0 μ' h' w
theorem St.done [τ : Tab] {fn : Func} {fr : Fr} {h : H} {v : AV} {μ : M} {e : Ex} (he : e = .normal ∨ e = .ret) (hl : results? P fn fr h = some v) (s : St τ B w0 μ fn.ntmps fr h a w) : Done P fn B w0 μ v h e.to a w := by
  obtain ⟨μ', hx, f, r⟩ := s
  obtain ⟨v', k1, k2⟩ := results_sound (P := P) f r hl
  refine ⟨?_, f.2.1, v', μ', k1, hx, k2, r⟩
  rcases he with rfl | rfl
  · exact .inl rfl
  · exact .inr rfl
theorem Base.of [Tab] {μ : M} {h : H} (r : HR B w0 μ h w) : Base B μ h.next :=
  ⟨fun x l hl => by
    rcases Nat.lt_or_ge x h.next with h1 | h1
    · exact h1
    · have := (r.fresh x h1).2
      rw [hl] at this; simp at this, fun x hx => (r.res x hx).1⟩
theorem callOk_of [τ : Tab] {f : FuncId} {fn : Func} {body : Code} {args : List AV} {h h' : H} {v : AV} (hf : P.funcs[f]? = some fn) (hb : fn.body = some body) (hl : args.length ≤ fn.ntmps) (hlim : args.length < limit)
    (H : ∀ B w0 μ a w, Base B μ h.next → St τ B w0 μ fn.ntmps (T.ofList 0 .leaf args) h a w → body.wp P (Done P fn B w0 μ v h') a w) : CallOk P f args h (v, h') := by
  intro B w0 μ w args' r ha
  have hlen : args'.size = args.length := by rw [← Array.length_toList, vrels_length ha]
  refine calls_of_wp hf hb (wp_mono (H B w0 μ _ w (Base.of r) ⟨μ, Ext.refl _, ⟨?_, rfl, fun t v ht => ?_⟩, r⟩) ?_)
  · simp; omega
  · rw [T.get_ofList _ _ _ _ (by unfold limit at hlim; omega)] at ht
    split at ht
    · simp only [Nat.sub_zero] at ht
      obtain ⟨v', g1, g2⟩ := vrels_get ha ht
      refine ⟨v', ?_, g2⟩
      rw [Array.getElem?_append_left (by omega), ← Array.getElem?_toList]
      exact g1
    · simp at ht
  · rintro e' a' w' ⟨he, hd, v', μ', h1, h2, h3, h4⟩
    rcases he with rfl | rfl
    · exact ⟨hd, v', h1, v', μ', rfl, h2, h3, h4⟩
    · exact ⟨hd, v', h1, v', μ', rfl, h2, h3, h4⟩
noncomputable def heq (h h' : H) : Bool := Nat.beq h.next h'.next && h.t.same beq? h'.t
theorem heq_eq [Tab] {h h' : H} (e : heq h h' = true) : h = h' := by
  unfold heq at e
  simp only [Bool.and_eq_true] at e
  cases h; cases h'
  simp only [nbeq_iff] at e
  rw [e.1, T.same_eq (fun _ _ => beq_eq) _ _ e.2]
noncomputable def handAt (g : FuncId) (xs : List AV) (k : H) (p : AV × H) : Hand := fun f args h =>
  Bool.rec none (Bool.rec none (Bool.rec none (some p) (heq k h)) (veqs xs args)) (Nat.beq g f)
theorem handAt_ok [Tab] {g : FuncId} {xs : List AV} {k : H} {p : AV × H} (hk : CallOk P g xs k p) : HandOk P (handAt g xs k p) := by
  intro f args h q e
  have e' : (Bool.rec none (Bool.rec none (Bool.rec none (some p) (heq k h)) (veqs xs args)) (Nat.beq g f) : Option (AV × H)) = some q := e
  cases h1 : Nat.beq g f with
  | false => rw [h1] at e'; cases e'
  | true =>
  cases h2 : veqs xs args with
  | false => rw [h1, h2] at e'; cases e'
  | true =>
  cases h3 : heq k h with
  | false => rw [h1, h2, h3] at e'; cases e'
  | true =>
    rw [h1, h2, h3] at e'
    cases e'
    rw [← nbeq_iff.1 h1, ← veqs_eq h2, ← heq_eq h3]
    exact hk
end Go.X
set_option linter.unusedVariables false
set_option linter.unusedSimpArgs false
set_option linter.unusedSectionVars false
namespace Go.X
open Go.RowKit
structure Fgn where
  fb : Nat → Nat × Nat
  fcap : Nat → Nat
  fv : Nat → Nat → Option AV
abbrev FlOk (iv : Nat → IntKind × Int) (F : Fgn) (r : VL) : Prop := isLen (iv r.k) ∧ ∀ m b, r.l[m]? = some b → ∃ a, F.fv r.i ((iv r.k).2.toNat * r.z + r.f + m) = some a ∧ sameAV iv a b
variable {iv : Nat → IntKind × Int} {vv : Nat → Nat → Option AV} {vk : Nat → Nat}
abbrev VRows.ftab (R : VRows iv vv vk) (F : Fgn) (fl : List VL) (flok : ∀ r ∈ fl, FlOk iv F r) : Tab :=
  { R.tab with fb := F.fb, fcap := F.fcap, fv := F.fv, fl := fl, rf := [], rfok := (fun _ h => nomatch h), flok := (fun r hr => let ⟨a, f⟩ := flok r hr; ⟨a, fun m x hx => let ⟨y, h1, h2⟩ := f m x hx; ⟨y, h1, .inl h2⟩⟩), vb := [], vbok := by exact fun _ h => nomatch h }
theorem VRows.fsame (R R' : VRows iv vv vk) (F : Fgn) (fl fl' : List VL) (h : ∀ r ∈ fl, FlOk iv F r) (h' : ∀ r ∈ fl', FlOk iv F r) : SameTab (R.ftab F fl h) (R'.ftab F fl' h') := ⟨⟨rfl, rfl, rfl, rfl, rfl, rfl, rfl, rfl, rfl⟩, rfl, rfl⟩
def intF (k : IntKind) (A : Nat) (e : Nat → Int) : Nat → Option AV := numV k A e
theorem flN {F : Fgn} {r : VL} {K : IntKind} {k A : Nat} {e : Nat → Int} (hk : iv r.k = (.i64, (k : Int))) (h0 : F.fv r.i = numV K A e) (ho : k * r.z + r.f + r.l.length ≤ A) (hb : ∀ m b, r.l[m]? = some b → denI iv b = some (K, e (k * r.z + r.f + m))) : FlOk iv F r := by
  refine ⟨by rw [hk]; exact ⟨rfl, by simp⟩, fun m x hx => ?_⟩
  have hm := (List.getElem?_eq_some_iff.1 hx).1
  have e1 : (iv r.k).2.toNat = k := by rw [hk]; simp
  rw [e1, h0]
  exact ⟨_, numV_lt (by omega), .inr ⟨_, rfl, hb m x hx⟩⟩
theorem glF {T T' : Tab} {B : Kp} {w0 : World} (h : T'.gv = fun _ _ => none) (h1 : T.fb = T'.fb) (h2 : T.fv = T'.fv) (h3 : ∀ i m a, T'.fv i m = some a → ∃ k n, a = .int k n) : @Gl T B w0 → @Gl T' B w0 := fun g =>
  ⟨fun g o a hg => (by rw [h] at hg; cases hg), fun i m a hg => (by
    obtain ⟨k, n, rfl⟩ := h3 i m a hg
    obtain ⟨h4, v, h5, h6⟩ := g.2 i m _ (by rw [h2]; exact hg)
    rw [← h1]
    exact ⟨h4, v, h5, by simp only [vrel] at h6 ⊢; exact h6⟩)⟩
end Go.X
set_option linter.unusedVariables false
set_option linter.unusedSimpArgs false
set_option linter.unusedSectionVars false
namespace Go.X
open Go.RowKit
variable {P : Program}
theorem HR.grow [Tab] {B : Kp} {w0 w w' : World} {μ : M} {h : H} (r : HR B w0 μ h w) (hw : Below w.heap.size w w') : HR B w0 μ h w' where
  below := r.below.below hw
  fresh := r.fresh
  res := r.res
  blk x b hx := by
    obtain ⟨l, h1, h2, h3, h4⟩ := r.blk x b hx
    exact ⟨l, h1, h2, h3, h4.congr (hw.block _ h4.lt)⟩
  sep := r.sep
theorem callStr_ok [Tab] {f : FuncId} {args : List AV} {vs : List Value} {n c : Nat}
    (hc : c < 256 ^ n) (ha : ∀ (μ : M) (l : List Value), vrels μ args l → l = vs)
    (hk : ∀ (w : World), (∀ g o a, Tab.gv g o = some a → ∃ v, w.cell? ⟨g, o, none⟩ = some v ∧ (vrel (fun _ => none) a v ∧ (Tab.gv g (o + 1) = none → w.cell? ⟨g, o + 1, none⟩ = none))) → Calls P f vs.toArray w fun e w' => e = .returned (.string (strOf n c)) ∧ Below w.heap.size w w') (h : H) :
    CallOk P f args h (.str n c, h) := by
  intro B w0 μ w args' r hv
  have e : args' = vs.toArray := by
    cases args' with
    | mk l => rw [ha μ l hv]
  subst e
  refine (hk w fun g o a hg => (r.below.glbs hg).2).mono ?_
  rintro e w' ⟨rfl, hb⟩
  exact ⟨_, μ, rfl, Ext.refl _, by simp only [vrel]; exact ⟨hc, trivial⟩, r.grow hb⟩
theorem callTxt_ok [Tab] {f : FuncId} {args : List AV} {vs : List Value} {i : Nat}
    (ha : ∀ (μ : M) (l : List Value), vrels μ args l → l = vs)
    (hk : ∀ (w : World), (∀ g o a, Tab.gv g o = some a → ∃ v, w.cell? ⟨g, o, none⟩ = some v ∧ (vrel (fun _ => none) a v ∧ (Tab.gv g (o + 1) = none → w.cell? ⟨g, o + 1, none⟩ = none))) → Calls P f vs.toArray w fun e w' => e = .returned (.string (Tab.str i)) ∧ Below w.heap.size w w') (h : H) :
    CallOk P f args h (.ostr i, h) := by
  intro B w0 μ w args' r hv
  have e : args' = vs.toArray := by
    cases args' with
    | mk l => rw [ha μ l hv]
  subst e
  refine (hk w fun g o a hg => (r.below.glbs hg).2).mono ?_
  rintro e w' ⟨rfl, hb⟩
  exact ⟨_, μ, rfl, Ext.refl _, by simp only [vrel], r.grow hb⟩
end Go.X
set_option linter.unusedVariables false
set_option linter.unusedSimpArgs false
set_option linter.unusedSectionVars false
namespace Go.X
open Go.RowKit
variable {P : Program}
theorem CallOk.frame [Tab] {f : FuncId} {args : List AV} {h k h' : H} {p : AV × H} (hc : CallOk P f args k p) (hn : k.next = h.next) (hs : ∀ x b, k.get x = some b → h.get x = some b)
    (hn' : h'.next = p.2.next) (hg : ∀ x b, h'.get x = some b → p.2.get x = some b ∨ (k.get x = none ∧ h.get x = some b)) : CallOk P f args h (p.1, h') := by
  intro B w0 μ w args' r ha
  let E : Nat → Prop := fun j => ∃ x b l, h.get x = some b ∧ k.get x = none ∧ own b = true ∧ μ x = some l ∧ l.block = j
  let B' : Kp := ⟨fun j => B.kept j ∨ E j, B.glob, fun j hj => .inl (B.sub j hj), B.res⟩
  have r' : HR B' w μ k w := by
    refine ⟨⟨rfl, rfl, rfl, Nat.le_refl _, fun _ _ => rfl, ?_, ?_⟩, ?_, ?_, ?_, ?_⟩
    · rintro j (hb | ⟨x, b, l, h1, _, _, h4, h5⟩)
      · exact Nat.lt_of_lt_of_le (r.below.old j hb) r.below.size
      · obtain ⟨l2, g1, _, _, g4⟩ := r.blk x b h1
        rw [h4] at g1; cases g1
        rw [← h5]; exact g4.lt
    · exact ⟨fun g o a hg => let ⟨h1, v, h2, h3⟩ := r.below.glbs hg; ⟨.inl h1, v, h2, h3⟩, fun i m a hg => let ⟨h1, v, h2, h3⟩ := r.below.frgn hg; ⟨.inl h1, v, h2, h3⟩⟩
    · intro x hx
      rw [hn] at hx
      obtain ⟨h1, h2⟩ := r.fresh x hx
      refine ⟨?_, h2⟩
      cases hk : k.get x with
      | none => rfl
      | some b => rw [hs x b hk] at h1; cases h1
    · intro x hx; rw [hn]; exact r.res x hx
    · intro x b hx
      obtain ⟨l, g1, g2, g3, g4⟩ := r.blk x b (hs x b hx)
      refine ⟨l, g1, fun ho => ?_, g3, g4⟩
      rintro (hb | ⟨y, c, m, h1, h2, h3, h4, h5⟩)
      · exact g2 ho hb
      · have hne : x ≠ y := by rintro rfl; rw [hx] at h2; cases h2
        exact r.sep x y b c l m (hs x b hx) h1 hne ho h3 g1 h4 h5.symm
    · intro x y b c l m hx hy
      exact r.sep x y b c l m (hs x b hx) (hs y c hy)
  refine (hc B' w μ w args' r' ha).mono ?_
  rintro e w' ⟨v', μ', rfl, hx, hv, r1⟩
  have keep : ∀ x b, h.get x = some b → k.get x = none → ∃ l, μ x = some l ∧ μ' x = some l ∧ (own b = true → ¬ B.kept l.block ∧ B'.kept l.block) ∧ (own b = false → B.glob l.block) ∧ brel μ' b l w' := by
    intro x b h1 h2
    obtain ⟨l, g1, g2, g3, g4⟩ := r.blk x b h1
    refine ⟨l, g1, hx _ _ g1, fun ho => ⟨g2 ho, .inr ⟨x, b, l, h1, h2, ho, g1, rfl⟩⟩, g3, ?_⟩
    have hw : w'.heap[l.block]? = w.heap[l.block]? := by
      apply r1.below.block
      cases ho : own b with
      | true => exact .inr ⟨x, b, l, h1, h2, ho, g1, rfl⟩
      | false => exact .inl (B.sub _ (g3 ho))
    exact (g4.congr hw).ext hx
  refine ⟨v', μ', rfl, hx, hv, ⟨r1.below.os.trans r.below.os, r1.below.tape.trans r.below.tape, r1.below.output.trans r.below.output, Nat.le_trans r.below.size r1.below.size, fun j hj => (r1.below.block j (.inl hj)).trans (r.below.block j hj), r.below.old, r.below.glb⟩, ?_, ?_, ?_, ?_⟩
  · intro x hx'
    have hx2 : p.2.next ≤ x := by rw [← hn']; exact hx'
    obtain ⟨g1, g2⟩ := r1.fresh x hx2
    refine ⟨?_, g2⟩
    cases hh : H.get h' x with
    | none => rfl
    | some b =>
      rcases hg x b hh with h1 | ⟨h1, h2⟩
      · rw [g1] at h1; cases h1
      · obtain ⟨l, _, h3, _⟩ := keep x b h2 h1
        rw [g2] at h3; cases h3
  · intro x hr
    have := r1.res x hr
    exact ⟨by show x < h'.next; rw [hn']; exact this.1, this.2⟩
  · intro x b hb
    rcases hg x b hb with h1 | ⟨h1, h2⟩
    · obtain ⟨l, g1, g2, g3, g4⟩ := r1.blk x b h1
      exact ⟨l, g1, fun ho hk => g2 ho (.inl hk), g3, g4⟩
    · obtain ⟨l, _, h3, h4, h5, h6⟩ := keep x b h2 h1
      exact ⟨l, h3, fun ho => (h4 ho).1, h5, h6⟩
  · intro x y b c l m hb hc' hne ho ho' hl hm
    rcases hg x b hb with h1 | ⟨h1, h2⟩
    · rcases hg y c hc' with g1 | ⟨g1, g2⟩
      · exact r1.sep x y b c l m h1 g1 hne ho ho' hl hm
      · obtain ⟨l2, _, h3, h4, _⟩ := keep y c g2 g1
        rw [hm] at h3; cases h3
        obtain ⟨l3, k1, k2, _⟩ := r1.blk x b h1
        rw [hl] at k1; cases k1
        intro e
        exact k2 ho (e ▸ (h4 ho').2)
    · obtain ⟨l2, h3, h4, h5, _⟩ := keep x b h2 h1
      rw [hl] at h4; cases h4
      rcases hg y c hc' with g1 | ⟨g1, g2⟩
      · obtain ⟨l3, k1, k2, _⟩ := r1.blk y c g1
        rw [hm] at k1; cases k1
        intro e
        exact k2 ho' (e ▸ (h5 ho).2)
      · obtain ⟨l4, k3, k4, k5, _⟩ := keep y c g2 g1
        rw [hm] at k4; cases k4
        exact r.sep x y b c l m h2 g2 hne ho ho' h3 k3
abbrev BL := List (Nat × Blk)
noncomputable def hIn (N : Nat) (bs : BL) : H := fT (ofPairs bs) fun t => ⟨N, t⟩
noncomputable def hasAll (h : H) (bs : BL) : Bool :=
  List.rec (motive := fun _ => Bool) true (fun p _ ih => Bool.rec false ih (Option.rec false (fun b => beq? p.2 b) (h.get p.1))) bs
noncomputable def dropAll (t : T Blk) (bs : BL) : T Blk :=
  List.rec (motive := fun _ => T Blk → T Blk) (fun t => t) (fun p _ ih t => fT (t.erase p.1) ih) bs t
noncomputable def layAll (t : T Blk) (bs : BL) : T Blk :=
  List.rec (motive := fun _ => T Blk → T Blk) (fun t => t) (fun p _ ih t => fT (t.put p.1 p.2) ih) bs t
structure In where
  f : FuncId
  xs : List AV
  N : Nat
  bs : BL
  v : AV
  N' : Nat
  bs' : BL
noncomputable def inHand (c : In) : Hand := fun f args h =>
  Bool.rec none (Bool.rec none (Bool.rec none (Bool.rec none (some (c.v, fT (dropAll h.t c.bs) fun t => fT (layAll t c.bs') fun t => ⟨c.N', t⟩)) (hasAll h c.bs)) (Nat.beq h.next c.N)) (veqs c.xs args)) (Nat.beq c.f f)
noncomputable def okLim (bs : BL) : Bool := List.rec (motive := fun _ => Bool) true (fun p _ ih => Bool.rec false ih (Nat.blt p.1 limit)) bs
structure InOk (P : Program) (c : In) [Tab] : Prop where
  lim : okLim c.bs' = true
  run : ∃ h', CallOk P c.f c.xs (hIn c.N c.bs) (c.v, h') ∧ c.N' = h'.next ∧ hasAll h' c.bs' = true
theorem hasAll_mem [Tab] {h : H} : ∀ {bs : BL}, hasAll h bs = true → ∀ q ∈ bs, h.get q.1 = some q.2
  | [], _, q, hq => by simp at hq
  | p :: l, e, q, hq => by
    have e' : (@Bool.rec (fun _ => Bool) false (hasAll h l) (@Option.rec _ (fun _ => Bool) false (fun b => beq? p.2 b) (h.get p.1))) = true := e
    cases hp : h.get p.1 with
    | none => rw [hp] at e'; cases e'
    | some b =>
      cases hb : beq? p.2 b with
      | false => rw [hp] at e'; simp only [hb] at e'; cases e'
      | true =>
        rw [hp] at e'; simp only [hb] at e'
        rcases List.mem_cons.1 hq with rfl | hq
        · rw [hp, beq_eq hb]
        · exact hasAll_mem e' q hq
theorem okLim_mem [Tab] : ∀ {bs : BL}, okLim bs = true → ∀ q ∈ bs, q.1 < limit
  | [], _, q, hq => by simp at hq
  | p :: l, e, q, hq => by
    have e' : (@Bool.rec (fun _ => Bool) false (okLim l) (Nat.blt p.1 limit)) = true := e
    cases hp : Nat.blt p.1 limit with
    | false => rw [hp] at e'; cases e'
    | true =>
      rw [hp] at e'
      rcases List.mem_cons.1 hq with rfl | hq
      · exact blt_iff.1 hp
      · exact okLim_mem e' q hq
theorem dropAll_get : ∀ (bs : BL) (t : T Blk) (x : Nat) (b : Blk), (dropAll t bs).get x = some b → (∀ q ∈ bs, q.1 ≠ x) ∧ t.get x = some b
  | [], t, x, b, h => ⟨fun q hq => by simp at hq, h⟩
  | p :: l, t, x, b, h => by
    have h' : (dropAll (t.erase p.1) l).get x = some b := by
      have : dropAll t (p :: l) = fT (t.erase p.1) fun t => dropAll t l := rfl
      rw [this, fT_eq] at h; exact h
    obtain ⟨h1, h2⟩ := dropAll_get l _ x b h'
    rw [T.get_erase] at h2
    by_cases e : x = p.1
    · rw [if_pos e] at h2; cases h2
    · rw [if_neg e] at h2
      refine ⟨fun q hq => ?_, h2⟩
      rcases List.mem_cons.1 hq with rfl | hq
      · exact fun e2 => e e2.symm
      · exact h1 q hq
theorem layAll_get : ∀ (bs : BL) (t : T Blk) (x : Nat) (b : Blk), (∀ q ∈ bs, q.1 < limit) → (layAll t bs).get x = some b → (x, b) ∈ bs ∨ t.get x = some b
  | [], t, x, b, _, h => .inr h
  | p :: l, t, x, b, hl, h => by
    have h' : (layAll (t.put p.1 p.2) l).get x = some b := by
      have : layAll t (p :: l) = fT (t.put p.1 p.2) fun t => layAll t l := rfl
      rw [this, fT_eq] at h; exact h
    rcases layAll_get l _ x b (fun q hq => hl q (List.mem_cons_of_mem _ hq)) h' with h1 | h1
    · exact .inl (List.mem_cons_of_mem _ h1)
    · rw [T.get_put _ _ _ _ (by have := hl p List.mem_cons_self; unfold limit at this; omega)] at h1
      by_cases e : x = p.1
      · rw [if_pos e] at h1; cases h1; subst e; exact .inl List.mem_cons_self
      · rw [if_neg e] at h1; exact .inr h1
theorem hIn_get [Tab] {N : Nat} {bs : BL} (hlim : ∀ q ∈ bs, q.1 < limit) {x : Nat} {b : Blk} (h : (hIn N bs).get x = some b) : (x, b) ∈ bs := by
  unfold hIn at h
  rw [fT_eq] at h
  exact ofPairs_get hlim h
theorem hIn_none [Tab] {N : Nat} {bs : BL} (hlim : ∀ q ∈ bs, q.1 < limit) {x : Nat} (h : ∀ q ∈ bs, q.1 ≠ x) : (hIn N bs).get x = none := by
  cases hg : (hIn N bs).get x with
  | none => rfl
  | some b => exact absurd rfl (h _ (hIn_get hlim hg))
theorem inHand_ok [Tab] {c : In} (o : InOk P c) (hlim : okLim c.bs = true) : HandOk P (inHand c) := by
  intro f args h q e
  have e' : (Bool.rec none (Bool.rec none (Bool.rec none (Bool.rec none (some (c.v, fT (dropAll h.t c.bs) fun t => fT (layAll t c.bs') fun t => ⟨c.N', t⟩)) (hasAll h c.bs)) (Nat.beq h.next c.N)) (veqs c.xs args)) (Nat.beq c.f f) : Option (AV × H)) = some q := e
  cases h1 : Nat.beq c.f f with
  | false => rw [h1] at e'; cases e'
  | true =>
  cases h2 : veqs c.xs args with
  | false => rw [h1, h2] at e'; cases e'
  | true =>
  cases h3 : Nat.beq h.next c.N with
  | false => rw [h1, h2, h3] at e'; cases e'
  | true =>
  cases h4 : hasAll h c.bs with
  | false => rw [h1, h2, h3, h4] at e'; cases e'
  | true =>
    rw [h1, h2, h3, h4] at e'
    rw [fT_eq, fT_eq] at e'
    cases e'
    obtain ⟨hh, g1, g2, g3⟩ := o.run
    rw [← nbeq_iff.1 h1, ← veqs_eq h2]
    have hl := okLim_mem hlim
    have hm := hasAll_mem h4
    refine CallOk.frame (p := (c.v, hh)) g1 ?_ ?_ ?_ ?_
    · rw [nbeq_iff.1 h3]; unfold hIn; rw [fT_eq]
    · intro x b hx
      exact hm _ (hIn_get hl hx)
    · exact g2
    · intro x b hx
      rcases layAll_get c.bs' _ x b (okLim_mem o.lim) hx with k1 | k1
      · exact .inl (hasAll_mem g3 _ k1)
      · obtain ⟨k2, k3⟩ := dropAll_get c.bs _ x b k1
        exact .inr ⟨hIn_none hl k2, k3⟩
noncomputable def inRun (P : Program) [Tab] (K : Hand) (n : Nat) (c : In) : Bool :=
  Option.rec false (fun p => veq c.v p.1 && (Nat.beq c.N' p.2.next && hasAll p.2 c.bs')) (call P K n c.f c.xs (hIn c.N c.bs))
theorem InOk.of_run [Tab] {K : Hand} (hm : P.follows .mixedOrders = true) (hK : HandOk P K) {n : Nat} {c : In} (hl : okLim c.bs' = true) (e : inRun P K n c = true) : InOk P c := by
  unfold inRun at e
  cases h1 : call P K n c.f c.xs (hIn c.N c.bs) with
  | none => rw [h1] at e; cases e
  | some p =>
    rw [h1] at e
    simp only [Bool.and_eq_true] at e
    obtain ⟨e1, e2, e3⟩ := e
    refine ⟨hl, p.2, ?_, nbeq_iff.1 e2, e3⟩
    rw [veq_eq e1]
    exact call_sound hm hK h1
end Go.X
set_option linter.unusedVariables false
set_option linter.unusedSimpArgs false
set_option linter.unusedSectionVars false
namespace Go.X
open Go.RowKit
theorem wrap32 {n : Int} (h1 : -2147483648 ≤ n) (h2 : n ≤ 2147483647) : IntKind.i32.wrap n = n := by
  have hb : IntKind.i32.bits = 32 := rfl
  have hs : IntKind.i32.signed = true := rfl
  unfold IntKind.wrap
  simp only [hb, hs]
  by_cases h : 0 ≤ n
  · have e : n % 2 ^ 32 = n := Int.emod_eq_of_lt h (by omega)
    rw [e]
    simp
    omega
  · have e : n % 2 ^ 32 = n + 2 ^ 32 := by omega
    rw [e]
    simp
    omega
theorem ic32 {iv : Nat → IntKind × Int} {k : IntKind} {x y : AV} {n : Int} (hx : denI iv x = some (k, n)) (hy : denI iv y = some (.i32, n)) (h1 : -2147483648 ≤ n) (h2 : n ≤ 2147483647) : ∃ k' m, denI iv ((IntKind.i32, x, y) : IntKind × AV × AV).2.1 = some (k', m) ∧ denI iv ((IntKind.i32, x, y) : IntKind × AV × AV).2.2 = some (.i32, IntKind.i32.wrap m) :=
  ⟨k, n, hx, by rw [wrap32 h1 h2]; exact hy⟩
abbrev IcOk' (iv : Nat → IntKind × Int) (r : IntKind × AV × AV) : Prop := ∃ k n, denI iv r.2.1 = some (k, n) ∧ denI iv r.2.2 = some (r.1, r.1.wrap n)
theorem icNil {iv : Nat → IntKind × Int} : ∀ r ∈ ([] : List (IntKind × AV × AV)), IcOk' iv r := fun r h => by simp at h
theorem icCons {iv : Nat → IntKind × Int} {r : IntKind × AV × AV} {l : List (IntKind × AV × AV)} (h : IcOk' iv r) (k : ∀ r ∈ l, IcOk' iv r) : ∀ q ∈ r :: l, IcOk' iv q := fun q hq => by
  simp only [List.mem_cons] at hq
  rcases hq with rfl | hq
  · exact h
  · exact k q hq
theorem tmod_lo {a : Int} {n : Int} (h : 0 < n) : -n < a.tmod n := by
  have := Int.lt_tmod_of_pos a h; omega
theorem tmod_hi {a : Int} {n : Int} (h : 0 < n) : a.tmod n < n := Int.tmod_lt_of_pos a h
end Go.X
set_option linter.unusedVariables false
set_option linter.unusedSimpArgs false
set_option linter.unusedSectionVars false
namespace Go.X
open Go.RowKit
structure Txts (iv : Nat → IntKind × Int) where
  str : Nat → ByteArray
  ne : Nat → List (Nat × Nat) := fun _ => []
  ok : ∀ i p, p ∈ ne i → p.2 < 256 ^ p.1 → str i ≠ strOf p.1 p.2 := by exact fun _ _ h => nomatch h
  tr : List (Nat × List AV × AV) := []
  trok : ∀ r ∈ tr, TrOk str iv r.1 r.2.1 r.2.2 := by exact fun _ h => nomatch h
variable {iv : Nat → IntKind × Int} {vv : Nat → Nat → Option AV} {vk : Nat → Nat}
abbrev VRows.ttab (R : VRows iv vv vk) (X : Txts iv) : Tab := { R.tab with str := X.str, ne := X.ne, ok := X.ok, tr := X.tr, trok := X.trok, ml := [], mlok := (fun _ h => nomatch h), mu := [], muok := (fun _ h => nomatch h), mn := [], mnok := (fun _ h => nomatch h), vt := [], vtok := (fun _ h => nomatch h), vb := [], fl := [], cp := [], cl := [], vaok := (fun r hr => let ⟨a, b, c, d, e, f⟩ := R.vaok r hr; ⟨a, b, c, d, e, fun m x hx => let ⟨y, h1, h2⟩ := f m x hx; ⟨y, h1, .inl h2⟩⟩), vzok := (fun r hr => let ⟨a, b, c, d, e, g, f⟩ := R.vzok r hr; ⟨a, b, c, d, e, g, fun m x hx => let ⟨q, y, h1, h2⟩ := f m x hx; ⟨q, y, h1, .inl h2⟩⟩), vnok := (fun r hr => let ⟨a, b, c, d, e, f⟩ := R.vnok r hr; ⟨a, b, c, d, e, fun m x hx => let ⟨q, y, h1, h2⟩ := f m x hx; ⟨q, y, h1, .inl h2⟩⟩), vlok := (fun r hr => let ⟨a, f⟩ := R.vlok r hr; ⟨a, fun m x hx => let ⟨y, h1, h2⟩ := f m x hx; ⟨y, h1, .inl h2⟩⟩), vsok := (fun r hr => let ⟨a, b, c, f⟩ := R.vsok r hr; ⟨a, b, c, fun m x hx => let ⟨y, h1, h2⟩ := f m x hx; ⟨y, h1, .inl h2⟩⟩), vbok := (fun _ h => nomatch h), flok := (fun r h => by simp at h), cpok := (fun _ h => nomatch h), clok := (fun _ h => nomatch h) }
variable {str : Nat → ByteArray}
abbrev TRow := Nat × List AV × AV
theorem txNil : ∀ r ∈ ([] : List TRow), TrOk str iv r.1 r.2.1 r.2.2 := fun r h => by simp at h
theorem txCons {r : TRow} {l : List TRow} (h : TrOk str iv r.1 r.2.1 r.2.2) (k : ∀ r ∈ l, TrOk str iv r.1 r.2.1 r.2.2) : ∀ q ∈ r :: l, TrOk str iv q.1 q.2.1 q.2.2 := fun q hq => by
  simp only [List.mem_cons] at hq
  rcases hq with rfl | hq
  · exact h
  · exact k q hq
theorem denS_str {n c : Nat} (h : c < 256 ^ n) : denS str (.str n c) = some (strOf n c) := by simp only [denS]; rw [if_pos h]
def bytesI (l : List Int) : ByteArray := ⟨⟨l.map fun n => UInt8.ofNat n.toNat⟩⟩
theorem tr6 {l : List AV} {ns : List Int} {v : AV} (h : l.map (denI iv) = ns.map fun n => some (.u8, n)) (hb : ∀ n ∈ ns, 0 ≤ n ∧ n < 256) (hv : denS str v = some (bytesI ns)) : TrOk str iv 6 l v := by
  refine ⟨ns.map fun (n : Int) => UInt8.ofNat n.toNat, ?_, hv⟩
  rw [h, List.map_map]
  apply List.map_congr_left
  intro n hn
  obtain ⟨h0, h1⟩ := hb n hn
  simp only [Function.comp, UInt8.toNat_ofNat']
  congr 2
  omega
theorem tr3 {s t v : AV} {a b : ByteArray} (ha : denS str s = some a) (hb : denS str t = some b) (hs : a.size + b.size < 1000000) (hv : denS str v = some (a ++ b)) : TrOk str iv 3 [s, t] v := ⟨a, b, ha, hb, hs, hv⟩
theorem tr4 {s t : AV} {a b : ByteArray} {e : Bool} (ha : denS str s = some a) (hb : denS str t = some b) (h : e = true ↔ a = b) : TrOk str iv 4 [s, t] (.bool e) := ⟨a, b, e, ha, hb, rfl, h⟩
theorem bytesI_inj {l m : List Int} (hl : ∀ n ∈ l, 0 ≤ n ∧ n < 256) (hm : ∀ n ∈ m, 0 ≤ n ∧ n < 256) (h : bytesI l = bytesI m) : l = m := by
  have h : (l.map fun n => UInt8.ofNat n.toNat) = m.map fun n => UInt8.ofNat n.toNat := by
    have := congrArg (fun b : ByteArray => b.data.toList) h
    simpa [bytesI] using this
  have g : ∀ {l : List Int}, (∀ n ∈ l, 0 ≤ n ∧ n < 256) → (l.map fun n => UInt8.ofNat n.toNat).map (fun b => (b.toNat : Int)) = l := by
    intro l hl
    rw [List.map_map]
    conv => rhs; rw [← List.map_id l]
    apply List.map_congr_left
    intro n hn
    obtain ⟨h0, h1⟩ := hl n hn
    simp only [Function.comp, UInt8.toNat_ofNat', id]
    omega
  rw [← g hl, ← g hm, h]
theorem bytesI_append (l m : List Int) : bytesI l ++ bytesI m = bytesI (l ++ m) := by
  apply ByteArray.ext
  apply Array.ext'
  simp [bytesI]
theorem bytesI_size (l : List Int) : (bytesI l).size = l.length := by simp [bytesI, ByteArray.size]
theorem strOf_bytesI (n c : Nat) : strOf n c = bytesI ((dec n c).map fun (k : Nat) => (k : Int)) := by
  unfold strOf bytesI
  rw [List.map_map]
  congr 2
end Go.X
set_option linter.unusedVariables false
set_option linter.unusedSimpArgs false
set_option linter.unusedSectionVars false
namespace Go.X
noncomputable def Hand.at (g : FuncId) (K : Hand) : Hand := fun f args h => Bool.rec Option.none (K f args h) (Nat.beq g f)
theorem HandOk.at [Tab] {P : Program} {K : Hand} (g : FuncId) (hK : HandOk P K) : HandOk P (Hand.at g K) := by
  intro f args h p e
  have e' : (Bool.rec Option.none (K f args h) (Nat.beq g f) : Option (AV × H)) = some p := e
  cases h1 : Nat.beq g f with
  | false => rw [h1] at e'; cases e'
  | true => rw [h1] at e'; exact hK _ _ _ _ e'
noncomputable def Hand.sp (N : Nat) (K L : Hand) : Hand := fun f args h => Bool.rec (L f args h) (K f args h) (Nat.blt h.next N)
theorem HandOk.sp [Tab] {P : Program} {K L : Hand} (N : Nat) (hK : HandOk P K) (hL : HandOk P L) : HandOk P (Hand.sp N K L) := by
  intro f args h p e
  have e' : (Bool.rec (L f args h) (K f args h) (Nat.blt h.next N) : Option (AV × H)) = some p := e
  cases h1 : Nat.blt h.next N with
  | false => rw [h1] at e'; exact hL _ _ _ _ e'
  | true => rw [h1] at e'; exact hK _ _ _ _ e'
end Go.X
set_option linter.unusedVariables false
set_option linter.unusedSimpArgs false
set_option linter.unusedSectionVars false
namespace Go.X
open Go.RowKit
variable {P : Program}
theorem SameTab.symm {T T' : Tab} (e : SameTab T T') : SameTab T' T := ⟨⟨e.rv.symm, e.iv.symm, e.str.symm, e.vv.symm, e.vk.symm, e.gv.symm, e.fb.symm, e.fcap.symm, e.fv.symm⟩, e.mm.symm, e.sv.symm⟩
theorem HR.tab {T T' : Tab} (e : SameTab T T') {B : Kp} {w0 w : World} {μ : M} {h : H} (r : @HR T B w0 μ h w) : @HR T' B w0 μ h w := by
  have hf := @HR.fresh T B w0 μ h w r
  obtain ⟨⟨e1, e2, e3, e4, e5, e6⟩, eg, eres, eblk, esep⟩ := @HR.parts B w0 w T μ h r
  refine ⟨⟨e1, e2, e3, e4, e5, e6, Gl.tab e.toSameV eg⟩, hf, eres, fun x b hb => ?_, esep⟩
  obtain ⟨l, g1, g2, g3, g4⟩ := eblk x b hb
  exact ⟨l, g1, g2, g3, brel.tab e g4⟩
theorem CallOk.tab {T T' : Tab} (e : SameTab T T') {f : FuncId} {args : List AV} {h : H} {p : AV × H} (o : @CallOk T P f args h p) : @CallOk T' P f args h p := by
  intro B w0 μ w args' r ha
  refine (o B w0 μ w args' (HR.tab e.symm r) (vrels.tab e.symm.toSameV _ _ ha)).mono ?_
  rintro e' w' ⟨v', μ', h1, h2, h3, h4⟩
  exact ⟨v', μ', h1, h2, vrel.tab e.toSameV _ _ h3, HR.tab e h4⟩
theorem InOk.tab {T T' : Tab} (e : SameTab T T') {c : In} (o : @InOk P c T) : @InOk P c T' := by
  obtain ⟨h', h1, h2, h3⟩ := @InOk.run P c T o
  exact ⟨@InOk.lim P c T o, h', CallOk.tab e h1, h2, h3⟩
theorem SumOk.tab {T T' : Tab} (e : SameTab T T') {f : FuncId} {args : List AV} {s : Sum} (o : @SumOk T P f args s) : @SumOk T' P f args s := by
  obtain ⟨hs, h1, h2, h3⟩ := @SumOk.run T P f args s o
  exact ⟨@SumOk.nm T P f args s o, hs, CallOk.tab e h1, h2, h3⟩
end Go.X
set_option linter.unusedVariables false
set_option linter.unusedSimpArgs false
set_option linter.unusedSectionVars false
namespace Go.X
open Go.RowKit
variable {P : Program} {B : Kp} {w0 w : World} {μ μ0 : M}
noncomputable def sameN (iv : Nat → IntKind × Int) (a b : AV) : Bool :=
  match denI iv a, denI iv b with
  | some p, some q => Nat.beq (kcode p.1) (kcode q.1) && (p.2 == q.2)
  | _, _ => false
noncomputable def sameV (iv : Nat → IntKind × Int) (a b : AV) : Bool := Bool.rec (sameN iv a b) true (veq a b)
noncomputable def sameVs (iv : Nat → IntKind × Int) : List AV → List AV → Bool
  | [], [] => true
  | a :: l, b :: m => sameV iv a b && sameVs iv l m
  | _, _ => false
noncomputable def sameB (iv : Nat → IntKind × Int) (a b : Blk) : Bool :=
  match a, b with
  | .cells n p z t, .cells n' p' z' t' => Nat.beq n n' && ((p == p') && (veqs z z' && t.same (sameV iv) t'))
  | a, b => beq? a b
noncomputable def sameBs (iv : Nat → IntKind × Int) : BL → BL → Bool
  | [], [] => true
  | a :: l, b :: m => Nat.beq a.1 b.1 && (sameB iv a.2 b.2 && sameBs iv l m)
  | _, _ => false
theorem sameN_eq [Tab] {iv : Nat → IntKind × Int} {a b : AV} (h : sameN iv a b = true) : ∃ p, denI iv a = some p ∧ denI iv b = some p := by
  unfold sameN at h
  split at h
  · rename_i p q h1 h2
    simp only [Bool.and_eq_true, beq_iff_eq] at h
    have hk := kcode_inj h.1
    refine ⟨p, h1, ?_⟩
    rw [h2]
    congr 1
    exact Prod.ext hk.symm h.2.symm
  · cases h
theorem sameV_symm [Tab] {iv : Nat → IntKind × Int} {a b : AV} (h : sameV iv a b = true) : a = b ∨ ∃ p, denI iv a = some p ∧ denI iv b = some p := by
  unfold sameV at h
  cases hv : veq a b with
  | true => exact .inl (veq_eq hv)
  | false => rw [hv] at h; exact .inr (sameN_eq h)
theorem sameV_rel [Tab] {a b : AV} {v : Value} (h : sameV Tab.iv a b = true) : vrel μ a v ↔ vrel μ b v := by
  rcases sameV_symm h with rfl | ⟨⟨k, n⟩, h1, h2⟩
  · exact Iff.rfl
  · exact ⟨fun hv => by rw [den_rel h1 hv]; exact den_mk h2, fun hv => by rw [den_rel h2 hv]; exact den_mk h1⟩
theorem sameVs_rel [Tab] : ∀ {l m : List AV} {vs : List Value}, sameVs Tab.iv l m = true → (vrels μ l vs ↔ vrels μ m vs)
  | [], [], vs, _ => Iff.rfl
  | [], _ :: _, vs, h => by simp [sameVs] at h
  | _ :: _, [], vs, h => by simp [sameVs] at h
  | a :: l, b :: m, vs, h => by
    simp only [sameVs, Bool.and_eq_true] at h
    simp only [vrels]
    constructor
    · rintro ⟨v, r, e, h1, h2⟩
      exact ⟨v, r, e, (sameV_rel h.1).1 h1, (sameVs_rel h.2).1 h2⟩
    · rintro ⟨v, r, e, h1, h2⟩
      exact ⟨v, r, e, (sameV_rel h.1).2 h1, (sameVs_rel h.2).2 h2⟩
theorem T.same_get {α : Type} {eq : α → α → Bool} : ∀ (a b : T α), a.same eq b = true → ∀ i, (∀ y, b.get i = some y → ∃ x, a.get i = some x ∧ eq x y = true) ∧ (∀ x, a.get i = some x → ∃ y, b.get i = some y ∧ eq x y = true)
  | .leaf, .leaf, _, i => ⟨fun y h => by simp at h, fun y h => by simp at h⟩
  | .leaf, .node _ _ _, h, i => by have h' : false = true := h; cases h'
  | .node l v r, .leaf, h, i => by have h' : false = true := h; cases h'
  | .node l v r, .node l' v' r', h, i => by
    have h' : (eqO eq v v' && (l.same eq l' && r.same eq r')) = true := h
    simp only [Bool.and_eq_true] at h'
    rw [T.get_node, T.get_node]
    by_cases c0 : i = 0
    · rw [if_pos c0, if_pos c0]
      cases v with
      | none =>
        cases v' with
        | none => exact ⟨fun y h => by simp at h, fun y h => by simp at h⟩
        | some u => have h2 : false = true := h'.1; cases h2
      | some u =>
        cases v' with
        | none => have h2 : false = true := h'.1; cases h2
        | some u' =>
          have h2 : eq u u' = true := h'.1
          exact ⟨fun y e => by cases e; exact ⟨u, rfl, h2⟩, fun y e => by cases e; exact ⟨u', rfl, h2⟩⟩
    · rw [if_neg c0, if_neg c0]
      by_cases c1 : i % 2 = 1
      · rw [if_pos c1, if_pos c1]; exact T.same_get l l' h'.2.1 _
      · rw [if_neg c1, if_neg c1]; exact T.same_get r r' h'.2.2 _
theorem sameB_own [Tab] {iv : Nat → IntKind × Int} {a b : Blk} (h : sameB iv a b = true) : own a = own b := by
  unfold sameB at h
  split at h
  · rfl
  · rw [beq_eq h]
theorem cellsSame [Tab] {n : Nat} {p : Bool} {z : List AV} {t t' : T AV} {l : Loc} (h : ∀ i, ∀ y, t'.get i = some y → ∃ x, t.get i = some x ∧ ∀ v, vrel μ x v → vrel μ y v) (h2 : ∀ i, t'.get i = none → t.get i = none) (hb : brel μ (.cells n p z t) l w) : brel μ (.cells n p z t') l w := by
  obtain ⟨arr, el, fz, g1, g2, g3, g4, g5, g6⟩ := hb
  refine ⟨arr, el, fz, g1, g2, g3, g4, g5, fun i a hi ha => ?_⟩
  unfold cellOf at ha
  cases ht : t'.get i with
  | some y =>
    rw [ht] at ha
    simp only [Option.some.injEq] at ha
    subst ha
    obtain ⟨x, hx, hv⟩ := h i y ht
    obtain ⟨v, v1, v2⟩ := g6 i x hi (by unfold cellOf; rw [hx])
    exact ⟨v, v1, hv v v2⟩
  | none =>
    rw [ht] at ha
    exact g6 i a hi (by unfold cellOf; rw [h2 i ht]; exact ha)
theorem sameB_rel [Tab] {a b : Blk} {l : Loc} (h : sameB Tab.iv a b = true) : brel μ a l w ↔ brel μ b l w := by
  unfold sameB at h
  split at h
  · rename_i n p z t n' p' z' t'
    simp only [Bool.and_eq_true, nbeq_iff, beq_iff_eq] at h
    obtain ⟨rfl, rfl, hz, ht⟩ := h
    have := veqs_eq hz
    subst this
    have g := T.same_get _ _ ht
    constructor
    · refine cellsSame (fun i y hy => ?_) (fun i hn => ?_)
      · obtain ⟨x, h1, h2⟩ := (g i).1 y hy
        exact ⟨x, h1, fun v hv => (sameV_rel h2).1 hv⟩
      · cases hx : t.get i with
        | none => rfl
        | some x => obtain ⟨y, h1, _⟩ := (g i).2 x hx; rw [hn] at h1; cases h1
    · refine cellsSame (fun i y hy => ?_) (fun i hn => ?_)
      · obtain ⟨x, h1, h2⟩ := (g i).2 y hy
        exact ⟨x, h1, fun v hv => (sameV_rel h2).2 hv⟩
      · cases hx : t'.get i with
        | none => rfl
        | some x => obtain ⟨y, h1, _⟩ := (g i).1 x hx; rw [hn] at h1; cases h1
  · rw [beq_eq h]
def SB [Tab] (a b : Blk) : Prop := a = b ∨ sameB Tab.iv a b = true
theorem SB.own [Tab] {a b : Blk} (h : SB a b) : X.own a = X.own b := by
  rcases h with rfl | h
  · rfl
  · exact sameB_own h
theorem SB.rel [Tab] {a b : Blk} {l : Loc} (h : SB a b) : brel μ a l w ↔ brel μ b l w := by
  rcases h with rfl | h
  · exact Iff.rfl
  · exact sameB_rel h
def SameH [Tab] (h k : H) : Prop := h.next ≤ k.next ∧ ∀ x, (∀ b, k.get x = some b → ∃ a, h.get x = some a ∧ SB a b) ∧ (∀ a, h.get x = some a → ∃ b, k.get x = some b)
theorem HR.sameH [Tab] {h k : H} (s : SameH h k) (r : HR B w0 μ h w) : HR B w0 μ k w where
  below := r.below
  fresh := fun x hx => by
    obtain ⟨h1, h2⟩ := r.fresh x (Nat.le_trans s.1 hx)
    refine ⟨?_, h2⟩
    cases hk : k.get x with
    | none => rfl
    | some b => obtain ⟨a, ha, _⟩ := (s.2 x).1 b hk; rw [h1] at ha; cases ha
  res := fun x hx => ⟨Nat.lt_of_lt_of_le (r.res x hx).1 s.1, (r.res x hx).2⟩
  blk := fun x b hb => by
    obtain ⟨a, ha, hs⟩ := (s.2 x).1 b hb
    obtain ⟨l, h1, h2, h3, h4⟩ := r.blk x a ha
    rw [SB.own hs] at h2 h3
    exact ⟨l, h1, h2, h3, (SB.rel hs).1 h4⟩
  sep := fun x y b c l k' hb hc hne ho ho' hl hk => by
    obtain ⟨a, ha, hs⟩ := (s.2 x).1 b hb
    obtain ⟨a', ha', hs'⟩ := (s.2 y).1 c hc
    exact r.sep x y a a' l k' ha ha' hne (by rw [SB.own hs]; exact ho) (by rw [SB.own hs']; exact ho') hl hk
theorem HR.sameH' [Tab] {h k : H} (e : h.next = k.next) (s : SameH h k) (r : HR B w0 μ k w) : HR B w0 μ h w where
  below := r.below
  fresh := fun x hx => by
    obtain ⟨h1, h2⟩ := r.fresh x (by rw [← e]; exact hx)
    refine ⟨?_, h2⟩
    cases hk : h.get x with
    | none => rfl
    | some b => obtain ⟨a, ha⟩ := (s.2 x).2 b hk; rw [h1] at ha; cases ha
  res := fun x hx => by rw [e]; exact r.res x hx
  blk := fun x a ha => by
    obtain ⟨b, hb⟩ := (s.2 x).2 a ha
    obtain ⟨a', ha', hs⟩ := (s.2 x).1 b hb
    rw [ha] at ha'; cases ha'
    obtain ⟨l, h1, h2, h3, h4⟩ := r.blk x b hb
    rw [← SB.own hs] at h2 h3
    exact ⟨l, h1, h2, h3, (SB.rel hs).2 h4⟩
  sep := fun x y a c l k' ha hc hne ho ho' hl hk => by
    obtain ⟨b, hb⟩ := (s.2 x).2 a ha
    obtain ⟨a', ha', hs⟩ := (s.2 x).1 b hb
    rw [ha] at ha'; cases ha'
    obtain ⟨d, hd⟩ := (s.2 y).2 c hc
    obtain ⟨c', hc', hs'⟩ := (s.2 y).1 d hd
    rw [hc] at hc'; cases hc'
    exact r.sep x y b d l k' hb hd hne (by rw [← SB.own hs]; exact ho) (by rw [← SB.own hs']; exact ho') hl hk
theorem CallOk.same [Tab] {f : FuncId} {xs ys : List AV} {h k h' k' : H} {v u : AV} (hx : sameVs Tab.iv xs ys = true) (hv : sameV Tab.iv v u = true) (hn : h.next = k.next) (hh : SameH h k) (hk : SameH h' k') (o : CallOk P f xs h (v, h')) : CallOk P f ys k (u, k') := by
  intro B w0 μ w args' r ha
  refine (o B w0 μ w args' (HR.sameH' hn hh r) ((sameVs_rel hx).2 ha)).mono ?_
  rintro e' w' ⟨v', μ', h1, h2, h3, h4⟩
  exact ⟨v', μ', h1, h2, (sameV_rel hv).1 h3, HR.sameH hk h4⟩
theorem sameBs_get [Tab] {iv : Nat → IntKind × Int} : ∀ {l m : BL}, sameBs iv l m = true → ∀ x, (∀ b, (x, b) ∈ m → ∃ a, (x, a) ∈ l ∧ sameB iv a b = true) ∧ (∀ a, (x, a) ∈ l → ∃ b, (x, b) ∈ m)
  | [], [], _, x => ⟨fun b h => by simp at h, fun b h => by simp at h⟩
  | [], _ :: _, h, _ => by simp [sameBs] at h
  | _ :: _, [], h, _ => by simp [sameBs] at h
  | p :: l, q :: m, h, x => by
    simp only [sameBs, Bool.and_eq_true] at h
    obtain ⟨h1, h2, h3⟩ := h
    have h1 := nbeq_iff.1 h1
    obtain ⟨i1, i2⟩ := sameBs_get h3 x
    constructor
    · intro b hb
      simp only [List.mem_cons] at hb
      rcases hb with hb | hb
      · cases hb
        exact ⟨p.2, by have : x = p.1 := h1.symm; subst this; simp, h2⟩
      · obtain ⟨a, g1, g2⟩ := i1 b hb
        exact ⟨a, List.mem_cons_of_mem _ g1, g2⟩
    · intro a ha
      simp only [List.mem_cons] at ha
      rcases ha with ha | ha
      · cases ha
        exact ⟨q.2, by have : x = q.1 := h1; subst this; simp⟩
      · obtain ⟨b, g1⟩ := i2 a ha
        exact ⟨b, List.mem_cons_of_mem _ g1⟩
noncomputable def once : List Nat → Bool
  | [] => true
  | x :: l => !(l.contains x) && once l
theorem once_eq {bs : BL} (h : once (bs.map (·.1)) = true) {x : Nat} {a b : Blk} (ha : (x, a) ∈ bs) (hb : (x, b) ∈ bs) : a = b := by
  induction bs with
  | nil => simp at ha
  | cons p l ih =>
    simp only [List.map_cons, once, Bool.and_eq_true, Bool.not_eq_true', List.contains_eq_mem, decide_eq_false_iff_not] at h
    simp only [List.mem_cons] at ha hb
    rcases ha with ha | ha <;> rcases hb with hb | hb
    · rw [← ha] at hb; cases hb; rfl
    · subst ha; exact absurd (List.mem_map.2 ⟨_, hb, rfl⟩) h.1
    · subst hb; exact absurd (List.mem_map.2 ⟨_, ha, rfl⟩) h.1
    · exact ih h.2 ha hb
theorem hIn_mem [Tab] {N : Nat} {bs : BL} (hlim : okLim bs = true) (ho : once (bs.map (·.1)) = true) {x : Nat} {b : Blk} (hb : (x, b) ∈ bs) : (hIn N bs).get x = some b := by
  cases h : (hIn N bs).get x with
  | some c => rw [once_eq ho (hIn_get (okLim_mem hlim) h) hb]
  | none =>
    exfalso
    have key : ∀ (l : BL), (∀ p ∈ l, p.1 < limit) → (x, b) ∈ l → (ofPairs l).get x ≠ none := by
      intro l
      induction l with
      | nil => intro _ h; simp at h
      | cons p l ih =>
        intro hl hm e
        have e' : (T.put (ofPairs l) p.1 p.2).get x = none := e
        have hp := hl p (by simp)
        rw [T.get_put _ _ _ _ (by unfold limit at hp; omega)] at e'
        split at e'
        · cases e'
        · rename_i hne
          simp only [List.mem_cons] at hm
          rcases hm with hm | hm
          · subst hm; exact hne rfl
          · exact ih (fun q hq => hl q (by simp [hq])) hm e'
    refine key bs (okLim_mem hlim) hb ?_
    unfold hIn at h
    rw [fT_eq] at h
    exact h
theorem sameH_hIn [Tab] {N : Nat} {bs cs : BL} (h : sameBs Tab.iv bs cs = true) (hb : okLim bs = true) (hc : okLim cs = true) (ob : once (bs.map (·.1)) = true) (oc : once (cs.map (·.1)) = true) : SameH (hIn N bs) (hIn N cs) := by
  refine ⟨by unfold hIn; rw [fT_eq, fT_eq]; exact Nat.le_refl _, fun x => ⟨fun b hx => ?_, fun a hx => ?_⟩⟩
  · have hm := hIn_get (okLim_mem hc) hx
    obtain ⟨a, g1, g2⟩ := (sameBs_get h x).1 b hm
    exact ⟨a, hIn_mem hb ob g1, .inr g2⟩
  · have hm := hIn_get (okLim_mem hb) hx
    obtain ⟨b, g1⟩ := (sameBs_get h x).2 a hm
    exact ⟨b, hIn_mem hc oc g1⟩
theorem layAll_none : ∀ {bs : BL} {t : T Blk} {x : Nat}, (∀ q ∈ bs, q.1 < limit) → (layAll t bs).get x = none → t.get x = none ∧ ∀ q ∈ bs, q.1 ≠ x
  | [], t, x, _, h => ⟨h, fun q hq => by simp at hq⟩
  | p :: l, t, x, hl, h => by
    have h' : (layAll (t.put p.1 p.2) l).get x = none := by
      have : layAll t (p :: l) = fT (t.put p.1 p.2) fun t => layAll t l := rfl
      rw [this, fT_eq] at h; exact h
    obtain ⟨h1, h2⟩ := layAll_none (fun q hq => hl q (List.mem_cons_of_mem _ hq)) h'
    rw [T.get_put _ _ _ _ (by have := hl p List.mem_cons_self; unfold limit at this; omega)] at h1
    by_cases e : x = p.1
    · rw [if_pos e] at h1; cases h1
    · rw [if_neg e] at h1
      refine ⟨h1, fun q hq => ?_⟩
      simp only [List.mem_cons] at hq
      rcases hq with rfl | hq
      · exact fun h => e h.symm
      · exact h2 q hq
theorem layAll_at : ∀ {bs : BL} {t : T Blk} {x : Nat} {b : Blk}, (∀ q ∈ bs, q.1 < limit) → once (bs.map (·.1)) = true → (x, b) ∈ bs → (layAll t bs).get x = some b
  | [], t, x, b, _, _, h => by simp at h
  | p :: l, t, x, b, hl, ho, h => by
    have e0 : layAll t (p :: l) = layAll (t.put p.1 p.2) l := by
      have : layAll t (p :: l) = fT (t.put p.1 p.2) fun t => layAll t l := rfl
      rw [this, fT_eq]
    rw [e0]
    have ho' := ho
    simp only [List.map_cons, once, Bool.and_eq_true, Bool.not_eq_true', List.contains_eq_mem, decide_eq_false_iff_not] at ho'
    have hl' : ∀ q ∈ l, q.1 < limit := fun q hq => hl q (List.mem_cons_of_mem _ hq)
    simp only [List.mem_cons] at h
    rcases h with h | h
    · cases hg : (layAll (t.put p.1 p.2) l).get x with
      | some c =>
        rcases layAll_get l _ x c hl' hg with hm | hm
        · rw [once_eq ho (List.mem_cons_of_mem _ hm) (by rw [h]; simp)]
        · rw [T.get_put _ _ _ _ (by have := hl p List.mem_cons_self; unfold limit at this; omega), ← h, if_pos rfl] at hm
          exact hm.symm
      | none =>
        obtain ⟨h1, _⟩ := layAll_none hl' hg
        rw [T.get_put _ _ _ _ (by have := hl p List.mem_cons_self; unfold limit at this; omega), ← h, if_pos rfl] at h1
        cases h1
    · exact layAll_at hl' ho'.2 h
theorem beq_pair {h : H} : ∀ {bs : BL}, (∀ q ∈ bs, h.get q.1 = some q.2) → (∀ q ∈ bs, beq? q.2 q.2 = true) → hasAll h bs = true
  | [], _, _ => rfl
  | p :: l, hh, hb => by
    show (@Bool.rec (fun _ => Bool) false (hasAll h l) (@Option.rec _ (fun _ => Bool) false (fun b => beq? p.2 b) (h.get p.1))) = true
    rw [hh p (by simp)]
    show (@Bool.rec (fun _ => Bool) false (hasAll h l) (beq? p.2 p.2)) = true
    rw [hb p (by simp)]
    exact beq_pair (fun q hq => hh q (by simp [hq])) (fun q hq => hb q (by simp [hq]))
noncomputable def selfBs (bs : BL) : Bool := bs.all fun p => beq? p.2 p.2
theorem InOk.same [Tab] {c d : In} (hf : c.f = d.f) (hN : c.N = d.N) (hN' : c.N' ≤ d.N') (hx : sameVs Tab.iv c.xs d.xs = true) (hv : sameV Tab.iv c.v d.v = true) (hb : sameBs Tab.iv c.bs d.bs = true) (hb' : sameBs Tab.iv c.bs' d.bs' = true)
    (l1 : okLim c.bs = true) (l2 : okLim d.bs = true) (l3 : okLim d.bs' = true) (l5 : selfBs d.bs' = true) (o1 : once (c.bs.map (·.1)) = true) (o2 : once (d.bs.map (·.1)) = true) (o3 : once (c.bs'.map (·.1)) = true) (o4 : once (d.bs'.map (·.1)) = true) (o : InOk P c) : InOk P d := by
  obtain ⟨h', k1, k2, k3⟩ := o.run
  have l4 := o.lim
  have hmem : ∀ q ∈ d.bs', (⟨d.N', layAll h'.t d.bs'⟩ : H).get q.1 = some q.2 := fun q hq => layAll_at (okLim_mem l3) o4 hq
  have hsame : SameH h' ⟨d.N', layAll h'.t d.bs'⟩ := by
    refine ⟨by rw [← k2]; exact hN', fun x => ⟨fun b hb2 => ?_, fun a ha => ?_⟩⟩
    · rcases layAll_get d.bs' h'.t x b (okLim_mem l3) hb2 with hm | hm
      · obtain ⟨a, g1, g2⟩ := (sameBs_get hb' x).1 b hm
        exact ⟨a, hasAll_mem k3 _ g1, .inr g2⟩
      · exact ⟨b, hm, .inl rfl⟩
    · cases hg : (⟨d.N', layAll h'.t d.bs'⟩ : H).get x with
      | some b => exact ⟨b, rfl⟩
      | none => obtain ⟨h1, _⟩ := layAll_none (okLim_mem l3) hg; rw [show h'.t.get x = some a from ha] at h1; cases h1
  refine ⟨l3, ⟨d.N', layAll h'.t d.bs'⟩, ?_, rfl, ?_⟩
  · rw [← hf]
    exact CallOk.same hx hv (by rw [hN]; unfold hIn; rw [fT_eq, fT_eq]) (by rw [← hN]; exact sameH_hIn hb l1 l2 o1 o2) hsame k1
  · exact beq_pair hmem (by simpa [selfBs] using l5)
theorem St.sameH {τ : Tab} {nt : Nat} {fr fr' : Fr} {h k : H} {a : Act} (hf : fr.same (sameV τ.iv) fr' = true) (hh : @SameH τ h k) (s : St τ B w0 μ0 nt fr h a w) : St τ B w0 μ0 nt fr' k a w := by
  obtain ⟨μ, hx, f, r⟩ := s
  refine ⟨μ, hx, ⟨f.1, f.2.1, fun t v ht => ?_⟩, @HR.sameH B w0 w μ τ h k hh r⟩
  obtain ⟨x, h1, h2⟩ := (T.same_get _ _ hf t).1 v ht
  obtain ⟨v', g1, g2⟩ := f.2.2 t x h1
  exact ⟨v', g1, (@sameV_rel μ τ x v v' h2).1 g2⟩
theorem sameH_hOf [Tab] {N : Nat} {bs cs : BS} (h : sameBs Tab.iv (bsOf bs) (bsOf cs) = true) (hb : okLim (bsOf bs) = true) (hc : okLim (bsOf cs) = true) (ob : once ((bsOf bs).map (·.1)) = true) (oc : once ((bsOf cs).map (·.1)) = true) : SameH (hOf N bs) (hOf N cs) := sameH_hIn h hb hc ob oc
end Go.X
set_option linter.unusedVariables false
set_option linter.unusedSimpArgs false
namespace Go.X
theorem in64 (k : IntKind) (h : k.bits ≤ 32) (n : Int) : IntKind.i64.wrap (k.wrap n) = k.wrap n := by
  refine wrap64 ?_ ?_
  all_goals
    cases k <;> simp [IntKind.bits] at h <;> (unfold IntKind.wrap IntKind.bits IntKind.signed; simp only [Bool.true_and, Bool.false_and, decide_eq_true_eq]; try split) <;> first | omega | (simp; omega)
theorem readK {k : IntKind} (h : k.bits ≤ 32) {x v : Int} (e : x % 2 ^ k.bits = (k.wrap v) % 2 ^ k.bits) : k.wrap (IntKind.i64.wrap x) = k.wrap v := by
  rw [wrap_wrap (show k.bits ≤ IntKind.i64.bits by show _ ≤ 64; omega)]
  exact wrap_congr k (by rw [e, wrap_mod])
theorem readJ {x v : Int} (h1 : -9223372036854775808 ≤ v) (h2 : v ≤ 9223372036854775807) (e : x % 2 ^ 64 = v % 2 ^ 64) : IntKind.i64.wrap x = v := by
  rw [wrap_congr .i64 (n := x) (m := v) e, wrap64 h1 h2]
theorem and1 (n : Int) : IntKind.i64.wrap ((BitVec.ofInt IntKind.i64.bits n &&& BitVec.ofInt IntKind.i64.bits 1).toNat : Int) = n % 2 := by
  have h : (BitVec.ofInt 64 n &&& BitVec.ofInt 64 1).toNat = (n % 2).toNat := by
    rw [BitVec.toNat_and, BitVec.toNat_ofInt, show (BitVec.ofInt 64 1).toNat = 1 from rfl, Nat.and_one_is_mod]
    omega
  show IntKind.i64.wrap ((BitVec.ofInt 64 n &&& BitVec.ofInt 64 1).toNat : Int) = n % 2
  rw [h, wrap64 (by omega) (by omega)]
  omega
theorem readZ {x v : Int} (e : x % 2 ^ 8 = (v % 2) % 2 ^ 8) : (IntKind.i64.wrap x) % 2 = v % 2 := by
  have h := wrap_mod .i64 x
  have h2 : (IntKind.i64.wrap x) % 2 ^ 64 = x % 2 ^ 64 := h
  omega
theorem lowIs {per S : Nat} (h : per * S = 64) (f : Nat → BitVec 64) {n k j : Nat} {v : Int} (hj : j < n) : wI (upd per S (putsTo per S f n) k (BitVec.ofInt 64 v) (j / per) >>> (j % per * S)) % 2 ^ S = if j = k then v % 2 ^ S else (((f j).setWidth S).toNat : Int) := by
  have hS : S ≤ 64 := by
    have hp : 0 < per := Nat.pos_of_ne_zero (by rintro rfl; simp at h)
    have := Nat.mul_le_mul_right S hp
    omega
  rw [low_mod, low_upd h]
  split
  · exact setWidth_mod hS v
  · rw [low_puts h f n j hj]
theorem vecSubN {T T' : Tab} {C : Cv} {x i i' : Nat} (hv : ∀ m a, T'.vv i' m = some a → T.vv i m = some a ∧ ∃ k n, a = .int k n) (hk : T'.vk i' ≤ T.vk i) :
    own (x, (.vec i : Blk), i').2.1 = true ∧ ∀ μ l w, @brel T μ (x, (.vec i : Blk), i').2.1 l w → @brel T' (ren C.N0 C.rn μ) (.vec (x, (.vec i : Blk), i').2.2) l w := by
  refine ⟨rfl, fun μ l w h => ?_⟩
  obtain ⟨arr, el, fz, h1, h2, h3, h4, h5⟩ := h
  refine ⟨arr, el, fz, h1, h2, h3, by dsimp only; omega, fun m a ha => ?_⟩
  obtain ⟨g1, n, k, rfl⟩ := hv m a ha
  obtain ⟨v, v1, v2⟩ := h5 m _ g1
  refine ⟨v, v1, ?_⟩
  simpa [vrel] using v2
theorem ipO {T T' : Tab} {i j : Nat} (q : IntKind × Int) (h1 : T.iv i = q) (h2 : T'.iv j = q) : IpOk1 T T' (.oi i, j) := by
  show some (T.iv i) = some (T'.iv j)
  rw [h1, h2]
theorem ipC {T T' : Tab} {n : Int} {j : Nat} (h2 : T'.iv j = (.i64, n)) : IpOk1 T T' (.int .i64 n, j) := by
  show some (IntKind.i64, n) = some (T'.iv j)
  rw [h2]
theorem leK {a b c : Nat} (h1 : a = c) (h2 : b = c) : a ≤ b := by rw [h1, h2]; exact Nat.le_refl _
theorem numSame (k : IntKind) (A : Nat) (e : Nat → Int) : ∀ m a, numV k A e m = some a → numV k A e m = some a ∧ ∃ k n, a = .int k n := fun m a ha => ⟨ha, k, e m, (numV_some ha).2⟩
theorem numSub {k : IntKind} {A : Nat} {e e' : Nat → Int} (he : ∀ m, m < A → e' m = e m) : ∀ m a, numV k A e' m = some a → numV k A e m = some a ∧ ∃ k n, a = .int k n := fun m a ha => by
  obtain ⟨h1, rfl⟩ := numV_some ha
  rw [he m h1]
  exact ⟨numV_lt h1, _, _, rfl⟩
end Go.X
set_option linter.unusedVariables false
set_option linter.unusedSimpArgs false
set_option linter.unusedSectionVars false
namespace Go.X
open Go.RowKit
def pv (b c : Nat) (l : List AV) : Nat → Option AV := fun m => if m < b then some (.rw (4 * m + c)) else l[m - b]?
def pk (b : Nat) (l : List AV) : Nat := b + l.length
theorem pv_plain {b c : Nat} {l : List AV} (h : ∀ a ∈ l, vplain a = true) : ∀ m a, pv b c l m = some a → vplain a = true := by
  intro m a e
  unfold pv at e
  split at e
  · cases e; rfl
  · exact h a (List.mem_of_getElem? e)
theorem pv_lo {b c : Nat} {l : List AV} {m : Nat} (h : m < b) : pv b c l m = some (.rw (4 * m + c)) := by unfold pv; rw [if_pos h]
theorem pv_hi {b c : Nat} {l : List AV} (o : Nat) : pv b c l (b + o) = l[o]? := by unfold pv; rw [if_neg (by omega)]; congr 1; omega
theorem pv_lt {b c : Nat} {l : List AV} {m : Nat} {a : AV} (h : pv b c l m = some a) : m < b + l.length := by
  unfold pv at h
  split at h
  · omega
  · have := (List.getElem?_eq_some_iff.1 h).1; omega
theorem pv_plainB {b c : Nat} {l : List AV} (h : l.all vplain = true) {m : Nat} {a : AV} (e : pv b c l m = some a) : vplain a = true := pv_plain (fun x hx => List.all_eq_true.1 h x hx) m a e
variable {iv : Nat → IntKind × Int} {vv : Nat → Nat → Option AV} {vk : Nat → Nat}
abbrev VRows.rtab (R : VRows iv vv vk) (rv : Nat → Value) : Tab := { R.tab with rv := rv, rl := [], rlok := (fun _ h => nomatch h), rf := [], rfok := (fun _ h => nomatch h), rs := [], rsok := (fun _ h => nomatch h), vb := [], fl := [], cp := [], cl := [], vaok := (fun r hr => let ⟨a, b, c, d, e, f⟩ := R.vaok r hr; ⟨a, b, c, d, e, fun m x hx => let ⟨y, h1, h2⟩ := f m x hx; ⟨y, h1, .inl h2⟩⟩), vzok := (fun r hr => let ⟨a, b, c, d, e, g, f⟩ := R.vzok r hr; ⟨a, b, c, d, e, g, fun m x hx => let ⟨q, y, h1, h2⟩ := f m x hx; ⟨q, y, h1, .inl h2⟩⟩), vnok := (fun r hr => let ⟨a, b, c, d, e, f⟩ := R.vnok r hr; ⟨a, b, c, d, e, fun m x hx => let ⟨q, y, h1, h2⟩ := f m x hx; ⟨q, y, h1, .inl h2⟩⟩), vlok := (fun r hr => let ⟨a, f⟩ := R.vlok r hr; ⟨a, fun m x hx => let ⟨y, h1, h2⟩ := f m x hx; ⟨y, h1, .inl h2⟩⟩), vsok := (fun r hr => let ⟨a, b, c, f⟩ := R.vsok r hr; ⟨a, b, c, fun m x hx => let ⟨y, h1, h2⟩ := f m x hx; ⟨y, h1, .inl h2⟩⟩), vbok := (fun _ h => nomatch h), flok := (fun r h => by simp at h), cpok := (fun _ h => nomatch h), clok := (fun _ h => nomatch h) }
theorem VRows.rsame (R R' : VRows iv vv vk) (rv : Nat → Value) : SameTab (R.rtab rv) (R'.rtab rv) := ⟨⟨rfl, rfl, rfl, rfl, rfl, rfl, rfl, rfl, rfl⟩, rfl, rfl⟩
theorem vlP {r : VL} {k b c o : Nat} {L : List AV} (hk : iv r.k = (.i64, (k : Int))) (hv : vv r.i = pv b c L) (ho : k * r.z + r.f = b + o) (hl : r.l = (L.drop o).take r.l.length) : VlOk iv vv r := by
  refine ⟨by rw [hk]; exact ⟨rfl, Int.natCast_nonneg _⟩, fun m x hx => ⟨x, ?_, .inl rfl⟩⟩
  have e1 : (iv r.k).2.toNat = k := by rw [hk]; simp
  rw [e1, hv, ho, Nat.add_assoc, pv_hi]
  rw [hl, List.getElem?_take] at hx
  split at hx
  · rw [List.getElem?_drop] at hx; exact hx
  · cases hx
theorem vsP {r : VS} {k b c o : Nat} {L L' : List AV} (hk : iv r.k = (.i64, (k : Int))) (hv : vv r.i = pv b c L) (hv' : vv r.i' = pv b c L') (h1 : vk r.i = pk b L) (h2 : vk r.i' = pk b L') (ho : k * r.z + r.f = b + o)
    (hL : L' = L.take o ++ (r.l ++ L.drop (o + r.l.length))) (hlen : o + r.l.length ≤ L.length) : VsOk iv vv vk r := by
  have e1 : (iv r.k).2.toNat = k := by rw [hk]; simp
  have hl' : L'.length = L.length := by rw [hL]; simp; omega
  refine ⟨by rw [hk]; exact ⟨rfl, Int.natCast_nonneg _⟩, by rw [e1, h1, ho]; unfold pk; omega, by rw [h1, h2]; unfold pk; omega, fun m a ha => ⟨a, ?_, .inl rfl⟩⟩
  rw [e1, ho]
  rw [hv'] at ha
  by_cases c1 : m < b
  · rw [if_neg (by omega), hv, pv_lo c1]
    rw [pv_lo c1] at ha; exact ha
  · obtain ⟨q, rfl⟩ : ∃ q, m = b + q := ⟨m - b, by omega⟩
    rw [pv_hi, hL] at ha
    by_cases c2 : q < o
    · rw [if_neg (by omega), hv, pv_hi]
      rw [List.getElem?_append_left (by simp; omega), List.getElem?_take, if_pos c2] at ha
      exact ha
    · have h3 : (L.take o).length = o := by simp; omega
      rw [List.getElem?_append_right (by omega), h3] at ha
      by_cases c3 : q < o + r.l.length
      · rw [if_pos (by omega)]
        rw [List.getElem?_append_left (by omega)] at ha
        rw [← ha]; congr 1; omega
      · rw [if_neg (by omega), hv, pv_hi]
        rw [List.getElem?_append_right (by omega), List.getElem?_drop] at ha
        rw [← ha]; congr 1; omega
theorem vaP {r : VA} {j j' b c o : Nat} {L L' : List AV} (hj : iv r.j = (.i64, (j : Int))) (hj' : iv r.j' = (.i64, (j' : Int))) (hv : vv r.i = pv b c L) (hv' : vv r.i' = pv b c L') (h2 : vk r.i' = pk b L') (ho : j * r.z = b + o) (ho' : j' * r.z = b + o + r.src.length)
    (hL : L' = L.take o ++ r.src) (hlen : o ≤ L.length) (hlim : j' < limit) : VaOk iv vv vk r := by
  have e1 : (iv r.j).2.toNat = j := by rw [hj]; simp
  have e2 : (iv r.j').2.toNat = j' := by rw [hj']; simp
  have h3 : (L.take o).length = o := by simp; omega
  have hl' : L'.length = o + r.src.length := by rw [hL, List.length_append, h3]
  refine ⟨by rw [hj]; exact ⟨rfl, Int.natCast_nonneg _⟩, by rw [hj']; exact ⟨rfl, Int.natCast_nonneg _⟩, by rw [e1, e2, ho, ho'], by rw [e2]; exact hlim, by rw [h2, e2, ho']; unfold pk; omega, fun m a ha => ⟨a, ?_, .inl rfl⟩⟩
  rw [e1, ho]
  rw [hv'] at ha
  by_cases c1 : m < b
  · rw [if_pos (by omega), hv, pv_lo c1]
    rw [pv_lo c1] at ha; exact ha
  · obtain ⟨q, rfl⟩ : ∃ q, m = b + q := ⟨m - b, by omega⟩
    rw [pv_hi, hL] at ha
    by_cases c2 : q < o
    · rw [if_pos (by omega), hv, pv_hi]
      rw [List.getElem?_append_left (by omega), List.getElem?_take, if_pos c2] at ha
      exact ha
    · rw [if_neg (by omega)]
      rw [List.getElem?_append_right (by omega), h3] at ha
      rw [← ha]; congr 1; omega
end Go.X
set_option linter.unusedVariables false
set_option linter.unusedSimpArgs false
set_option linter.unusedSectionVars false
namespace Go.X
open Go.RowKit
variable {P : Program} {B : Kp} {w0 w : World} {μ0 : M} {nt : Nat} {a : Act}
noncomputable def stepD (ih : Fr → H → Out) (e : Ex) (fr : Fr) (h : H) : Out :=
  match e with
  | .normal => ih fr h
  | e => some [(e, fr, h)]
noncomputable def stepsR (T : Tab) (P : Program) (K : Hand) (m nt : Nat) (c : Code) (k : Nat) : Fr → H → Out :=
  Nat.rec (motive := fun _ => Fr → H → Out) (fun fr h => some [(.normal, fr, h)]) (fun _ ih fr h => obL ((@run? T P K m).run nt c fr h) fun r => Prod.rec (fun e q => Prod.rec (fun fr h => stepD ih e fr h) q) r) k
noncomputable def stepsTo (T : Tab) (P : Program) (K : Hand) (m nt k : Nat) (c : Code) (fr : Fr) (h : H) (ex : Ex) (C : Cv) (vp : VP) (fs : List (Nat × AV)) (bs : BS) : Bool :=
  Option.rec false (okOuts C vp ex fs bs) (stepsR T P K m nt c k fr h)
theorem stepsR_sound {T : Tab} (hm : P.follows .mixedOrders = true) {K : Hand} (hK : @HandOk T P K) {m : Nat} {c : Code} {Q : Exit → Act → World → Prop} {j : Nat} : ∀ (k : Nat) (fr : Fr) (h : H) (l : List (Ex × Fr × H)) (a : Act) (w : World),
    stepsR T P K m nt c k fr h = some l → St T B w0 μ0 nt fr h a w →
    (∀ q ∈ l, ∀ a' w', St T B w0 μ0 nt q.2.1 q.2.2 a' w' → match q.1 with
      | .normal => Code.rounds P c Q j a' w'
      | e => Q e.to a' w') → Code.rounds P c Q (j + k) a w := by
  intro k
  induction k with
  | zero =>
    intro fr h l a w e s hq
    have e' : some [(Ex.normal, fr, h)] = some l := e
    cases e'
    exact hq _ (List.mem_singleton.2 rfl) a w s
  | succ k ih =>
    intro fr h l a w e s hq
    have e' : obL ((@run? T P K m).run nt c fr h) (fun r => Prod.rec (fun e q => Prod.rec (fun fr h => stepD (stepsR T P K m nt c k) e fr h) q) r) = some l := e
    obtain ⟨l1, hl1, hsub⟩ := obL_some e'
    refine rounds_of (wp_mono (s.run hm hK hl1) ?_)
    rintro e1 a' w' ⟨⟨e2, fr2, h2⟩, hmem, rfl, s'⟩
    obtain ⟨l2, hl2, hs2⟩ := hsub _ hmem
    cases e2 with
    | normal =>
      have hl3 : stepsR T P K m nt c k fr2 h2 = some l2 := hl2
      exact ih fr2 h2 l2 a' w' hl3 s' fun q hq2 => hq q (hs2 q hq2)
    | exit id =>
      have hl3 : some [(Ex.exit id, fr2, h2)] = some l2 := hl2
      cases hl3
      exact hq _ (hs2 _ (List.mem_singleton.2 rfl)) a' w' s'
    | ret =>
      have hl3 : some [(Ex.ret, fr2, h2)] = some l2 := hl2
      cases hl3
      exact hq _ (hs2 _ (List.mem_singleton.2 rfl)) a' w' s'
theorem stepsTo_sound {T T' : Tab} {fr : Fr} {h : H} (hm : P.follows .mixedOrders = true) {K : Hand} (hK : @HandOk T P K) {m : Nat} {c : Code} {C : Cv} (hb : Base B μ0 C.N0) {ex : Ex} (hN : C.N0 ≤ C.N) {rl : List (Nat × Nat)} (hrl : C.rn = ofPairs rl) (hrk : okRn C rl = true) (hip : IpOk T T' C.ip) {vp : VP} (hvp : VpOk T T' C vp)
    (hgl : @Gl T B w0 → @Gl T' B w0) {fs : List (Nat × AV)} {bs : BS} {k j : Nat} {Q : Exit → Act → World → Prop} (e : stepsTo T P K m nt k c fr h ex C vp fs bs = true) (s : St T B w0 μ0 nt fr h a w)
    (hQ : ∀ a' w', St T' B w0 μ0 nt (frOf fs) (hOf C.N bs) a' w' → match (generalizing := false) ex with
      | .normal => Code.rounds P c Q j a' w'
      | e => Q e.to a' w') : Code.rounds P c Q (j + k) a w := by
  cases hr : stepsR T P K m nt c k fr h with
  | none => unfold stepsTo at e; rw [hr] at e; simp at e
  | some l =>
    unfold stepsTo at e
    rw [hr] at e
    have e : okOuts C vp ex fs bs l = true := e
    refine stepsR_sound hm hK k fr h l a w hr s fun q hq a' w' s' => ?_
    letI := T
    obtain ⟨g1, g2, g3⟩ := okOuts_mem e q hq
    have := hQ a' w' (s'.weak hb hN hrl hrk hip hvp hgl g2 g3)
    rw [g1]
    exact this
theorem ipN {T T' : Tab} {i j : Nat} (q : IntKind × Int) (h1 : T.iv i = q) (h2 : T'.iv j = q) : IpOk1 T T' (.oi i, j) := by
  show some (T.iv i) = some (T'.iv j)
  rw [h1, h2]
theorem ipK {T T' : Tab} {n : Int} {j : Nat} (h2 : T'.iv j = (.i64, n)) : IpOk1 T T' (.int .i64 n, j) := by
  show some (IntKind.i64, n) = some (T'.iv j)
  rw [h2]
def lpOf : Code → Code
  | .seq (.block _ (.loop c)) _ => c
  | _ => .skip
def tlOf : Code → Code
  | .seq _ t => t
  | _ => .skip
end Go.X
set_option linter.unusedVariables false
set_option linter.unusedSimpArgs false
set_option linter.unusedSectionVars false
namespace Go.X
open Go.RowKit
noncomputable def cvL (C : Cv) : List AV → List AV → Bool
  | _, [] => true
  | a :: l, a' :: l' => Bool.rec false (cvL C l l') (cvV C a a')
  | [], _ :: _ => false
theorem cvL_get {C : Cv} : ∀ {l l' : List AV}, cvL C l l' = true → ∀ (m : Nat) (a' : AV), l'[m]? = some a' → ∃ a, l[m]? = some a ∧ cvV C a a' = true
  | _, [], _, m, a', h => by simp at h
  | [], _ :: _, h, _, _, _ => by simp [cvL] at h
  | a :: l, b :: l', h, m, a', hm => by
    have h' : (@Bool.rec (fun _ => Bool) false (cvL C l l') (cvV C a b)) = true := h
    cases h1 : cvV C a b with
    | false => rw [h1] at h'; cases h'
    | true =>
      rw [h1] at h'
      cases m with
      | zero => simp at hm; subst hm; exact ⟨a, rfl, h1⟩
      | succ m => simpa using cvL_get h' m a' (by simpa using hm)
theorem vpPre {T T' : Tab} {C : Cv} (hip : IpOk T T' C.ip) {i i' b c : Nat} {L L' : List AV} (h1 : T.vv i = pv b c L) (h2 : T'.vv i' = pv b c L') (hr : T.rv = T'.rv) (hk : T'.vk i' ≤ T.vk i) (hl : cvL C L L' = true) :
    own (.vec i) = true ∧ ∀ μ l w, @brel T μ (.vec i) l w → @brel T' (ren C.N0 C.rn μ) (.vec i') l w := by
  refine ⟨rfl, fun μ l w hb => ?_⟩
  obtain ⟨arr, el, fz, g1, g2, g3, g4, g5⟩ := hb
  refine ⟨arr, el, fz, g1, g2, g3, Nat.le_trans (Nat.add_le_add_left hk _) g4, fun m a ha => ?_⟩
  rw [h2] at ha
  rw [h1] at g5
  by_cases c1 : m < b
  · rw [pv_lo c1] at ha
    cases ha
    obtain ⟨v, k1, k2⟩ := g5 m _ (pv_lo c1)
    refine ⟨v, k1, ?_⟩
    simp only [vrel] at k2 ⊢
    rw [← hr]; exact k2
  · obtain ⟨q, rfl⟩ : ∃ q, m = b + q := ⟨m - b, by omega⟩
    rw [pv_hi] at ha
    obtain ⟨a0, k1, k2⟩ := cvL_get hl q a ha
    obtain ⟨v, k3, k4⟩ := g5 (b + q) a0 (by rw [pv_hi]; exact k1)
    exact ⟨v, k3, cvV_sound hip k2 k4⟩
def Kp.also (B : Kp) (E : Nat → Prop) : Kp := ⟨fun j => B.kept j ∨ E j, B.glob, fun j h => .inl (B.sub j h), B.res⟩
variable {B : Kp} {w0 w : World} {μ μ0 : M} {h : H} {nt : Nat} {fr : Fr} {a : Act}
theorem HR.weakAt {T T' : Tab} {C : Cv} (hb : Base B μ0 C.N0) (hN : C.N0 ≤ C.N) {rl : List (Nat × Nat)} (hrl : C.rn = ofPairs rl) (hrk : okRn C rl = true) (hip : IpOk T T' C.ip) {vp : VP}
    (hvp : ∀ p ∈ vp, own p.2.1 = true ∧ ∀ l, μ p.1 = some l → @brel T μ p.2.1 l w → @brel T' (ren C.N0 C.rn μ) (.vec p.2.2) l w) {fs : List (Nat × AV)} {bs : BS} {E : Nat → Prop}
    (hE : ∀ j, E j → j < w.heap.size ∧ ∀ p ∈ bs, ∀ b l, h.get p.2.1 = some b → own b = true → μ p.2.1 = some l → l.block ≠ j)
    (hf : okFs C fr fs = true) (hh : okBs C vp h bs .leaf = true) (hx : Ext μ0 μ) (f : @FR T μ nt fr a) (r : @HR T B w0 μ h w) (hgl : @Gl T (B.also E) w → @Gl T' (B.also E) w) :
    Ext μ0 (ren C.N0 C.rn μ) ∧ @FR T' (ren C.N0 C.rn μ) nt (frOf fs) a ∧ @HR T' (B.also E) w (ren C.N0 C.rn μ) (hOf C.N bs) w := by
  obtain ⟨⟨e1, e2, e3, e4, e5, e6⟩, eg, eres, eblk, esep⟩ := @HR.parts B w0 w T μ h r
  obtain ⟨hm, hpw⟩ := okBs_mem hh
  have key : ∀ x b', (hOf C.N bs).get x = some b' → ∃ o b, (x, o, b') ∈ bs ∧ x < C.N ∧ nm C.N0 C.rn o x = true ∧ h.get o = some b ∧ own b = true ∧ own b' = true ∧ ∀ l, μ o = some l → @brel T μ b l w → @brel T' (ren C.N0 C.rn μ) b' l w := by
    intro x b' hx
    have hx' : (ofPairs (bsOf bs)).get x = some b' := by unfold hOf at hx; rw [fT_eq] at hx; exact hx
    have h1 := ofPairs_get (fun p hp => by obtain ⟨o, ho⟩ := bsOf_mem hp; exact (hm _ ho).2.2.1) hx'
    obtain ⟨o, ho⟩ := bsOf_mem h1
    have ho : (x, o, b') ∈ bs := ho
    obtain ⟨_, g1, _, g4, b, g2, g3⟩ := hm _ ho
    refine ⟨o, b, ho, g1, g4, g2, ?_⟩
    rcases g3 with g3 | ⟨i, g3, g4⟩
    · have := cvB_own g3
      exact ⟨this.1, this.2, fun l _ hl => cvB_sound hip g3 hl⟩
    · have := hvp _ g4
      have g3 : b' = .vec i := g3
      subst g3
      exact ⟨this.1, rfl, fun l hμ hl => this.2 l hμ hl⟩
  have eg2 : @Gl T (B.also E) w := ⟨fun g o a hg => let ⟨h1, v, h2, h3⟩ := @Keeps.glbs T B w0 w (@HR.below T B w0 μ h w r) g o a hg; ⟨.inl h1, v, h2, h3⟩, fun i m a hg => let ⟨h1, v, h2, h3⟩ := @Keeps.frgn T B w0 w (@HR.below T B w0 μ h w r) i m a hg; ⟨.inl h1, v, h2, h3⟩⟩
  refine ⟨fun x l hl => ?_, ⟨f.1, f.2.1, fun t v ht => ?_⟩, ⟨⟨rfl, rfl, rfl, Nat.le_refl _, fun _ _ => rfl, ?_, hgl eg2⟩, fun x hx' => ?_, fun x hr => ?_, fun x b' hb' => ?_, fun x y b c l k hx' hy hne ho ho2 hl hk => ?_⟩⟩
  · unfold ren; rw [if_pos (hb.names x l hl)]; exact hx x l hl
  · have hm := okFs_mem hf
    have := ofPairs_get (fun p hp => (hm p hp).1) ht
    obtain ⟨_, u, g1, g2⟩ := hm _ this
    obtain ⟨v', e1, e2⟩ := f.2.2 t u g1
    exact ⟨v', e1, cvV_sound hip g2 e2⟩
  · rintro k (hk | hk)
    · exact Nat.lt_of_lt_of_le (e6 k hk) e4
    · exact (hE k hk).1
  · have hx2 : C.N ≤ x := by unfold hOf at hx'; rw [fT_eq] at hx'; exact hx'
    refine ⟨?_, ?_⟩
    · cases hg : (hOf C.N bs).get x with
      | none => rfl
      | some b => obtain ⟨_, _, _, h1, _⟩ := key x b hg; omega
    · unfold ren
      rw [if_neg (by omega)]
      cases hg : C.rn.get x with
      | none => rfl
      | some y =>
        rw [hrl] at hg
        have h1 := okRn_mem hrk
        have h2 := ofPairs_get (fun p hp => (h1 p hp).2) hg
        have h3 := (h1 _ h2).1
        dsimp only at h3
        omega
  · have := hb.res x hr
    refine ⟨by unfold hOf; rw [fT_eq]; show x < C.N; omega, ?_⟩
    unfold ren
    rw [if_pos this]
    exact (eres x hr).2
  · obtain ⟨o, b, m1, g1, g0, g2, g3, g4, g5⟩ := key x b' hb'
    obtain ⟨l, k1, k2, _, k4⟩ := eblk o b g2
    refine ⟨l, nm_sound g0 k1, fun _ => ?_, fun e => (by rw [g4] at e; cases e), g5 l k1 k4⟩
    rintro (hk | hk)
    · exact k2 g3 hk
    · exact (hE _ hk).2 _ m1 b l g2 g3 k1 rfl
  · obtain ⟨o1, b1, m1, _, n1, g2, g3, _⟩ := key x b hx'
    obtain ⟨o2, c1, m2, _, n2, k2, k3, _⟩ := key y c hy
    have hne2 : o1 ≠ o2 := by
      intro e
      have : ∀ p ∈ bs, ∀ q ∈ bs, p ≠ q → p.2.1 ≠ q.2.1 := pw_all hpw
      exact this _ m1 _ m2 (fun e => hne (by injection e)) e
    exact esep o1 o2 b1 c1 l k g2 k2 hne2 g3 k3 (nm_of n1 hl) (nm_of n2 hk)
theorem HR.weakIn {T T' : Tab} {C : Cv} (hb : Base B μ0 C.N0) (hN : C.N0 ≤ C.N) {rl : List (Nat × Nat)} (hrl : C.rn = ofPairs rl) (hrk : okRn C rl = true) (hip : IpOk T T' C.ip) {vp : VP}
    (hvp : ∀ p ∈ vp, own p.2.1 = true ∧ ∀ l, μ p.1 = some l → @brel T μ p.2.1 l w → @brel T' (ren C.N0 C.rn μ) (.vec p.2.2) l w) {fs : List (Nat × AV)} {bs : BS}
    (hf : okFs C fr fs = true) (hh : okBs C vp h bs .leaf = true) (hx : Ext μ0 μ) (f : @FR T μ nt fr a) (r : @HR T B w0 μ h w) (hgl : @Gl T B w0 → @Gl T' B w0) :
    Ext μ0 (ren C.N0 C.rn μ) ∧ @FR T' (ren C.N0 C.rn μ) nt (frOf fs) a ∧ @HR T' B w0 (ren C.N0 C.rn μ) (hOf C.N bs) w := by
  obtain ⟨⟨e1, e2, e3, e4, e5, e6⟩, eg, eres, eblk, esep⟩ := @HR.parts B w0 w T μ h r
  obtain ⟨hm, hpw⟩ := okBs_mem hh
  have key : ∀ x b', (hOf C.N bs).get x = some b' → ∃ o b, (x, o, b') ∈ bs ∧ x < C.N ∧ nm C.N0 C.rn o x = true ∧ h.get o = some b ∧ own b = true ∧ own b' = true ∧ ∀ l, μ o = some l → @brel T μ b l w → @brel T' (ren C.N0 C.rn μ) b' l w := by
    intro x b' hx
    have hx' : (ofPairs (bsOf bs)).get x = some b' := by unfold hOf at hx; rw [fT_eq] at hx; exact hx
    have h1 := ofPairs_get (fun p hp => by obtain ⟨o, ho⟩ := bsOf_mem hp; exact (hm _ ho).2.2.1) hx'
    obtain ⟨o, ho⟩ := bsOf_mem h1
    have ho : (x, o, b') ∈ bs := ho
    obtain ⟨_, g1, _, g4, b, g2, g3⟩ := hm _ ho
    refine ⟨o, b, ho, g1, g4, g2, ?_⟩
    rcases g3 with g3 | ⟨i, g3, g4⟩
    · have := cvB_own g3
      exact ⟨this.1, this.2, fun l _ hl => cvB_sound hip g3 hl⟩
    · have := hvp _ g4
      have g3 : b' = .vec i := g3
      subst g3
      exact ⟨this.1, rfl, fun l hμ hl => this.2 l hμ hl⟩
  refine ⟨fun x l hl => ?_, ⟨f.1, f.2.1, fun t v ht => ?_⟩, ⟨⟨e1, e2, e3, e4, e5, e6, hgl eg⟩, fun x hx' => ?_, fun x hr => ?_, fun x b' hb' => ?_, fun x y b c l k hx' hy hne ho ho2 hl hk => ?_⟩⟩
  · unfold ren; rw [if_pos (hb.names x l hl)]; exact hx x l hl
  · have hm := okFs_mem hf
    have := ofPairs_get (fun p hp => (hm p hp).1) ht
    obtain ⟨_, u, g1, g2⟩ := hm _ this
    obtain ⟨v', e1, e2⟩ := f.2.2 t u g1
    exact ⟨v', e1, cvV_sound hip g2 e2⟩
  · have hx2 : C.N ≤ x := by unfold hOf at hx'; rw [fT_eq] at hx'; exact hx'
    refine ⟨?_, ?_⟩
    · cases hg : (hOf C.N bs).get x with
      | none => rfl
      | some b => obtain ⟨_, _, _, h1, _⟩ := key x b hg; omega
    · unfold ren
      rw [if_neg (by omega)]
      cases hg : C.rn.get x with
      | none => rfl
      | some y =>
        rw [hrl] at hg
        have h1 := okRn_mem hrk
        have h2 := ofPairs_get (fun p hp => (h1 p hp).2) hg
        have h3 := (h1 _ h2).1
        dsimp only at h3
        omega
  · have := hb.res x hr
    refine ⟨by unfold hOf; rw [fT_eq]; show x < C.N; omega, ?_⟩
    unfold ren
    rw [if_pos this]
    exact (eres x hr).2
  · obtain ⟨o, b, m1, g1, g0, g2, g3, g4, g5⟩ := key x b' hb'
    obtain ⟨l, k1, k2, _, k4⟩ := eblk o b g2
    exact ⟨l, nm_sound g0 k1, fun _ => k2 g3, fun e => (by rw [g4] at e; cases e), g5 l k1 k4⟩
  · obtain ⟨o1, b1, m1, _, n1, g2, g3, _⟩ := key x b hx'
    obtain ⟨o2, c1, m2, _, n2, k2, k3, _⟩ := key y c hy
    have hne2 : o1 ≠ o2 := by
      intro e
      have : ∀ p ∈ bs, ∀ q ∈ bs, p ≠ q → p.2.1 ≠ q.2.1 := pw_all hpw
      exact this _ m1 _ m2 (fun e => hne (by injection e)) e
    exact esep o1 o2 b1 c1 l k g2 k2 hne2 g3 k3 (nm_of n1 hl) (nm_of n2 hk)
theorem brel_cells {T T' : Tab} {μ μ' : M} {n : Nat} {p : Bool} {z : List AV} {t : X.T AV} {l : Loc} {w w' : World} (hb : @brel T μ (.cells n p z t) l w) (hw : w'.heap[l.block]? = w.heap[l.block]?)
    (hv : ∀ i a, i < n → cellOf z t i = some a → ∀ v, @vrel T μ a v → @vrel T' μ' a v) : @brel T' μ' (.cells n p z t) l w' := by
  obtain ⟨arr, e, fz, h1, h2, h3, h4, h5, h6⟩ := hb
  refine ⟨arr, e, fz, hw.trans h1, h2, h3, h4, h5, fun i a hi ha => ?_⟩
  obtain ⟨v, k1, k2⟩ := h6 i a hi ha
  exact ⟨v, k1, hv i a hi ha v k2⟩
theorem cellOf_mem {L : List AV} (hL : L.length < 16000000) {i : Nat} {a : AV} (h : cellOf [] (T.ofList 0 .leaf L) i = some a) : a ∈ L := by
  unfold cellOf at h
  rw [T.get_ofList _ _ _ _ (by omega)] at h
  split at h
  · rename_i c
    have : i - 0 < L.length := by omega
    rw [List.getElem?_eq_getElem this] at h
    have h' : some (L[i - 0]) = some a := h
    cases h'
    exact List.getElem_mem this
  · have h' : (([] : List AV)[i % ([] : List AV).length]?) = some a := h
    simp at h'
theorem aside_of {T : Tab} (r : @HR T B w0 μ h w) {x : Nat} {b : Blk} {l : Loc} (hx : h.get x = some b) (ho : own b = true) (hl : μ x = some l) {bs : BS} (hn : ∀ p ∈ bs, p.2.1 ≠ x) :
    ∀ j, j = l.block → j < w.heap.size ∧ ∀ p ∈ bs, ∀ b l, h.get p.2.1 = some b → own b = true → μ p.2.1 = some l → l.block ≠ j := by
  rintro j rfl
  obtain ⟨⟨e1, e2, e3, e4, e5, e6⟩, eg, eres, eblk, esep⟩ := @HR.parts B w0 w T μ h r
  obtain ⟨l2, g1, g2, g3, g4⟩ := eblk x b hx
  rw [hl] at g1; cases g1
  refine ⟨g4.lt, fun p hp c k hc oc hk => ?_⟩
  exact esep p.2.1 x c b k l hc hx (hn p hp) oc ho hk hl
def cellsIn (w : World) (l : Loc) (m : Nat) : Option Value := match w.heap[l.block]? with
  | some (.cells arr _ _) => arr[l.base + m]?
  | _ => none
def snap (w : World) (LL : Nat → Loc) : Nat → Value := fun i => (cellsIn w (LL (i % 4)) (i / 4)).getD .nilIface
theorem snap_at {w : World} {LL : Nat → Loc} {c m : Nat} (hc : c < 4) : snap w LL (4 * m + c) = (cellsIn w (LL c) m).getD .nilIface := by
  unfold snap
  rw [show (4 * m + c) % 4 = c by omega, show (4 * m + c) / 4 = m by omega]
theorem cellsIn_of {w : World} {l : Loc} {arr : Array Value} {el : TypeId} {fz : Nat × Nat} {m : Nat} {v : Value} (h : w.heap[l.block]? = some (.cells arr el fz)) (hv : arr[l.base + m]? = some v) : cellsIn w l m = some v := by
  unfold cellsIn; rw [h]; exact hv
theorem vec_hide {T T' : Tab} {C : Cv} (hip : IpOk T T' C.ip) {i i' b c : Nat} {L1 L2 L2' : List AV} {l : Loc} {LL : Nat → Loc} (hc : c < 4) (h1 : T.vv i = pv b c (L1 ++ L2)) (h2 : T'.vv i' = pv (b + L1.length) c L2')
    (one : ∀ x ∈ L1, x.one = true) (hr : T'.rv = snap w LL) (hl : LL c = l) (hk : T'.vk i' ≤ T.vk i) (hcv : cvL C L2 L2' = true) (hb : @brel T μ (.vec i) l w) : @brel T' (ren C.N0 C.rn μ) (.vec i') l w := by
  obtain ⟨arr, el, fz, g1, g2, g3, g4, g5⟩ := hb
  refine ⟨arr, el, fz, g1, g2, g3, Nat.le_trans (Nat.add_le_add_left hk _) g4, fun m a ha => ?_⟩
  rw [h2] at ha
  rw [h1] at g5
  by_cases c1 : m < b + L1.length
  · rw [pv_lo c1] at ha
    cases ha
    have key : ∃ v, arr[l.base + m]? = some v ∧ oneV v = true := by
      by_cases c2 : m < b
      · obtain ⟨v, k1, k2⟩ := g5 m _ (pv_lo c2)
        simp only [vrel] at k2
        exact ⟨v, k1, k2.2⟩
      · obtain ⟨q, rfl⟩ : ∃ q, m = b + q := ⟨m - b, by omega⟩
        have hq : q < L1.length := by omega
        obtain ⟨v, k1, k2⟩ := g5 (b + q) (L1[q]) (by rw [pv_hi, List.getElem?_append_left hq, List.getElem?_eq_getElem hq])
        exact ⟨v, k1, @vrel_one T μ _ v k2 (one _ (List.getElem_mem hq))⟩
    obtain ⟨v, k1, k2⟩ := key
    refine ⟨v, k1, ?_⟩
    simp only [vrel]
    refine ⟨?_, k2⟩
    rw [hr, snap_at hc, hl, cellsIn_of g1 k1]
    rfl
  · obtain ⟨q, rfl⟩ : ∃ q, m = b + L1.length + q := ⟨m - (b + L1.length), by omega⟩
    rw [pv_hi] at ha
    obtain ⟨a0, k1, k2⟩ := cvL_get hcv q a ha
    obtain ⟨v, k3, k4⟩ := g5 (b + L1.length + q) a0 (by rw [Nat.add_assoc, pv_hi, List.getElem?_append_right (by omega)]; rw [← k1]; congr 1; omega)
    exact ⟨v, k3, cvV_sound hip k2 k4⟩
theorem vec_was {T : Tab} {i b c : Nat} {L : List AV} {l : Loc} {LL : Nat → Loc} (hc : c < 4) (h1 : T.vv i = pv b c L) (hl : LL c = l) (hb : @brel T μ (.vec i) l w) :
    (∀ m, m < b → snap w LL (4 * m + c) = T.rv (4 * m + c)) ∧ ∀ (m : Nat) (x : AV), L[m]? = some x → @vrel T μ x (snap w LL (4 * (b + m) + c)) := by
  obtain ⟨arr, el, fz, g1, g2, g3, g4, g5⟩ := hb
  rw [h1] at g5
  refine ⟨fun m hm => ?_, fun m x hx => ?_⟩
  · obtain ⟨v, k1, k2⟩ := g5 m _ (pv_lo hm)
    simp only [vrel] at k2
    rw [snap_at hc, hl, cellsIn_of g1 k1, ← k2.1]
    rfl
  · obtain ⟨v, k1, k2⟩ := g5 (b + m) x (by rw [pv_hi]; exact hx)
    rw [snap_at hc, hl, cellsIn_of g1 k1]
    exact k2
theorem vec_unhide {T1 T2 : Tab} {C : Cv} (hip : IpOk T1 T2 C.ip) {i1 i2 b c n : Nat} {L2 L1' L2' : List AV} {l : Loc} (h1 : T1.vv i1 = pv (b + n) c L2) (h2 : T2.vv i2 = pv b c (L1' ++ L2')) (hn : L1'.length = n)
    (hpre : ∀ m, m < b → T1.rv (4 * m + c) = T2.rv (4 * m + c)) (hm : ∀ (m : Nat) (x : AV), L1'[m]? = some x → @vrel T2 (ren C.N0 C.rn μ) x (T1.rv (4 * (b + m) + c))) (hk : T2.vk i2 ≤ T1.vk i1) (hcv : cvL C L2 L2' = true) (hb : @brel T1 μ (.vec i1) l w) :
    @brel T2 (ren C.N0 C.rn μ) (.vec i2) l w := by
  obtain ⟨arr, el, fz, g1, g2, g3, g4, g5⟩ := hb
  refine ⟨arr, el, fz, g1, g2, g3, Nat.le_trans (Nat.add_le_add_left hk _) g4, fun m a ha => ?_⟩
  rw [h2] at ha
  rw [h1] at g5
  by_cases c1 : m < b
  · rw [pv_lo c1] at ha
    cases ha
    obtain ⟨v, k1, k2⟩ := g5 m _ (pv_lo (by omega))
    refine ⟨v, k1, ?_⟩
    simp only [vrel] at k2 ⊢
    rw [← hpre m c1]; exact k2
  · obtain ⟨q, rfl⟩ : ∃ q, m = b + q := ⟨m - b, by omega⟩
    rw [pv_hi] at ha
    by_cases c2 : q < n
    · rw [List.getElem?_append_left (by omega)] at ha
      obtain ⟨v, k1, k2⟩ := g5 (b + q) _ (pv_lo (by omega))
      simp only [vrel] at k2
      exact ⟨v, k1, by rw [k2.1]; exact hm q a ha⟩
    · rw [List.getElem?_append_right (by omega)] at ha
      obtain ⟨a0, k1, k2⟩ := cvL_get hcv _ a ha
      obtain ⟨v, k3, k4⟩ := g5 (b + q) a0 (by rw [show b + q = b + n + (q - n) by omega, pv_hi, ← hn]; exact k1)
      exact ⟨v, k3, cvV_sound hip k2 k4⟩
theorem HR.addBack {T T1 : Tab} (r : @HR T B w0 μ h w) {b' : Blk} {l : Loc} (hBl : ¬ B.kept l.block) (hown : own b' = true) {E : Nat → Prop} (hE : E l.block) {μ1 : M} {h1 : H} {w1 : World}
    (r1 : @HR T1 (B.also E) w μ1 h1 w1) (hlim : h1.next < 16000000) (hb : @brel T1 (upm μ1 h1.next l) b' l w1) (hgl : @Gl T B w0 → @Gl T1 B w0) : @HR T1 B w0 (upm μ1 h1.next l) ⟨h1.next + 1, h1.t.put h1.next b'⟩ w1 := by
  obtain ⟨⟨e1, e2, e3, e4, e5, e6⟩, eg, eres, eblk, esep⟩ := @HR.parts B w0 w T μ h r
  have hfr := @HR.fresh T1 _ _ _ _ _ r1
  obtain ⟨⟨d1, d2, d3, d4, d5, d6⟩, dg, dres, dblk, dsep⟩ := @HR.parts (B.also E) w w1 T1 μ1 h1 r1
  have hext : Ext μ1 (upm μ1 h1.next l) := Ext.upm _ (hfr _ (Nat.le_refl _)).2
  have hget : ∀ y, (⟨h1.next + 1, h1.t.put h1.next b'⟩ : H).get y = if y = h1.next then some b' else h1.get y := fun y => _root_.Go.X.T.get_put _ _ _ _ hlim
  refine ⟨⟨d1.trans e1, d2.trans e2, d3.trans e3, Nat.le_trans e4 d4, fun k hk => (d5 k (.inl hk)).trans (e5 k hk), e6, hgl eg⟩, fun x hx => ?_, fun x hr => ?_, fun x b hx => ?_, fun x y b c k m hx hy hne ho ho2 hl hm => ?_⟩
  · have hx : h1.next + 1 ≤ x := hx
    have h2 := hfr x (by omega)
    refine ⟨by rw [hget, if_neg (by omega)]; exact h2.1, ?_⟩
    unfold upm; rw [if_neg (by omega)]; exact h2.2
  · have h2 := dres x hr
    refine ⟨by show x < h1.next + 1; omega, ?_⟩
    unfold upm; rw [if_neg (by omega)]; exact h2.2
  · rw [hget] at hx
    by_cases c1 : x = h1.next
    · rw [if_pos c1] at hx; cases hx
      refine ⟨l, by unfold upm; rw [if_pos c1], fun _ => hBl, fun e => (by rw [hown] at e; cases e), hb⟩
    · rw [if_neg c1] at hx
      obtain ⟨k, g1, g2, g3, g4⟩ := dblk x b hx
      exact ⟨k, hext _ _ g1, fun ho hk => g2 ho (.inl hk), g3, brel.ext hext g4⟩
  · rw [hget] at hx hy
    have old : ∀ z d n, z ≠ h1.next → h1.get z = some d → own d = true → upm μ1 h1.next l z = some n → n.block ≠ l.block := by
      intro z d n hz hd od hn
      unfold upm at hn; rw [if_neg hz] at hn
      obtain ⟨k, g1, g2, _⟩ := dblk z d hd
      rw [hn] at g1; cases g1
      intro e
      exact g2 od (.inr (by rw [e]; exact hE))
    by_cases c1 : x = h1.next
    · have c2 : y ≠ h1.next := fun e => hne (c1.trans e.symm)
      rw [if_neg c2] at hy
      unfold upm at hl; rw [if_pos c1] at hl; cases hl
      exact fun e => old y c m c2 hy ho2 hm e.symm
    · rw [if_neg c1] at hx
      by_cases c2 : y = h1.next
      · unfold upm at hm; rw [if_pos c2] at hm; cases hm
        exact old x b k c1 hx ho hl
      · rw [if_neg c2] at hy
        unfold upm at hl hm; rw [if_neg c1] at hl; rw [if_neg c2] at hm
        exact dsep x y b c k m hx hy hne ho ho2 hl hm
end Go.X
set_option linter.unusedVariables false
set_option linter.unusedSimpArgs false
set_option linter.unusedSectionVars false
namespace Go.X
open Go.RowKit
variable {P : Program} {B : Kp} {w0 w : World} {μ μ0 : M} {h : H} {nt : Nat} {fr : Fr} {a : Act}
theorem St.rebase {T : Tab} (hb : Base B μ0 h.next) (s : St T B w0 μ0 nt fr h a w) : ∃ μ, Ext μ0 μ ∧ Base B μ h.next ∧ St T B w0 μ nt fr h a w ∧ ∀ x b, h.get x = some b → ∃ l, μ x = some l := by
  obtain ⟨μ, hx, f, r⟩ := s
  refine ⟨μ, hx, ⟨fun x l hl => ?_, hb.res⟩, ⟨μ, Ext.refl _, f, r⟩, fun x b hg => ?_⟩
  · by_cases c : x < h.next
    · exact c
    · have := (@HR.fresh T _ _ _ _ _ r x (by omega)).2
      rw [this] at hl; cases hl
  · obtain ⟨l, g, _⟩ := @HR.blk T _ _ _ _ _ r x b hg
    exact ⟨l, g⟩
theorem Done.ext [Tab] {fn : Func} {v : AV} {h' : H} {e : Exit} (hx : Ext μ0 μ) (d : Done P fn B w0 μ v h' e a w) : Done P fn B w0 μ0 v h' e a w := by
  obtain ⟨h1, h2, v', μ', h3, h4, h5, h6⟩ := d
  exact ⟨h1, h2, v', μ', h3, hx.trans h4, h5, h6⟩
theorem vpCells {T T' : Tab} {C : Cv} (hip : IpOk T T' C.ip) {i' c n : Nat} {q : Bool} {L L' : List AV} (hn : n = L.length) (h2 : T'.vv i' = pv 0 c L') (hlen : L.length < 16000000) (hk : T'.vk i' ≤ n) (hl : cvL C L L' = true) :
    own (.cells n q [] (X.T.ofList 0 .leaf L)) = true ∧ ∀ μ l w, @brel T μ (.cells n q [] (X.T.ofList 0 .leaf L)) l w → @brel T' (ren C.N0 C.rn μ) (.vec i') l w := by
  refine ⟨rfl, fun μ l w hb => ?_⟩
  obtain ⟨arr, el, fz, g1, g2, g3, g4, _, g5⟩ := hb
  refine ⟨arr, el, fz, g1, g2, g3, Nat.le_trans (Nat.add_le_add_left hk _) g4, fun m a ha => ?_⟩
  rw [h2] at ha
  have ha' : L'[m]? = some a := by
    have := pv_hi (b := 0) (c := c) (l := L') m
    rw [Nat.zero_add] at this
    rw [this] at ha; exact ha
  obtain ⟨a0, k1, k2⟩ := cvL_get hl m a ha'
  have hm : m < L.length := (List.getElem?_eq_some_iff.1 k1).1
  obtain ⟨v, k3, k4⟩ := g5 m a0 (by omega) (by
    unfold cellOf
    rw [X.T.get_ofList _ _ _ _ (by omega), if_pos ⟨Nat.zero_le _, by omega⟩, Nat.sub_zero, k1])
  exact ⟨v, k3, cvV_sound hip k2 k4⟩
end Go.X
set_option linter.unusedVariables false
set_option linter.unusedSimpArgs false
set_option linter.unusedSectionVars false
namespace Go.X
open Go.RowKit
def pvg (g : Nat → Option AV) (b : Nat) (l : List AV) : Nat → Option AV := fun m => if m < b then g m else l[m - b]?
theorem pvg_lo {g : Nat → Option AV} {b : Nat} {l : List AV} {m : Nat} (h : m < b) : pvg g b l m = g m := by unfold pvg; rw [if_pos h]
theorem pvg_hi {g : Nat → Option AV} {b : Nat} {l : List AV} (o : Nat) : pvg g b l (b + o) = l[o]? := by unfold pvg; rw [if_neg (by omega)]; congr 1; omega
theorem pvg_plainB {g : Nat → Option AV} {b : Nat} {l : List AV} (hg : ∀ m a, g m = some a → vplain a = true) (h : l.all vplain = true) {m : Nat} {a : AV} (e : pvg g b l m = some a) : vplain a = true := by
  unfold pvg at e
  split at e
  · exact hg m a e
  · exact List.all_eq_true.1 h a (List.mem_of_getElem? e)
def noG : Nat → Option AV := fun _ => none
theorem noG_plain : ∀ m a, noG m = some a → vplain a = true := fun m a h => by cases h
variable {iv : Nat → IntKind × Int} {vv : Nat → Nat → Option AV} {vk : Nat → Nat}
theorem vlG {r : VL} {g : Nat → Option AV} {k b o : Nat} {L : List AV} (hk : iv r.k = (.i64, (k : Int))) (hv : vv r.i = pvg g b L) (ho : k * r.z + r.f = b + o) (hl : r.l = (L.drop o).take r.l.length) : VlOk iv vv r := by
  refine ⟨by rw [hk]; exact ⟨rfl, Int.natCast_nonneg _⟩, fun m x hx => ⟨x, ?_, .inl rfl⟩⟩
  have e1 : (iv r.k).2.toNat = k := by rw [hk]; simp
  rw [e1, hv, ho, Nat.add_assoc, pvg_hi]
  rw [hl, List.getElem?_take] at hx
  split at hx
  · rw [List.getElem?_drop] at hx; exact hx
  · cases hx
theorem vsG {r : VS} {g : Nat → Option AV} {k b o : Nat} {L L' : List AV} (hk : iv r.k = (.i64, (k : Int))) (hv : vv r.i = pvg g b L) (hv' : vv r.i' = pvg g b L') (h1 : vk r.i = pk b L) (h2 : vk r.i' = pk b L') (ho : k * r.z + r.f = b + o)
    (hL : L' = L.take o ++ (r.l ++ L.drop (o + r.l.length))) (hlen : o + r.l.length ≤ L.length) : VsOk iv vv vk r := by
  have e1 : (iv r.k).2.toNat = k := by rw [hk]; simp
  have hl' : L'.length = L.length := by rw [hL]; simp; omega
  refine ⟨by rw [hk]; exact ⟨rfl, Int.natCast_nonneg _⟩, by rw [e1, h1, ho]; unfold pk; omega, by rw [h1, h2]; unfold pk; omega, fun m a ha => ⟨a, ?_, .inl rfl⟩⟩
  rw [e1, ho]
  rw [hv'] at ha
  by_cases c1 : m < b
  · rw [if_neg (by omega), hv, pvg_lo c1]
    rw [pvg_lo c1] at ha; exact ha
  · obtain ⟨q, rfl⟩ : ∃ q, m = b + q := ⟨m - b, by omega⟩
    rw [pvg_hi, hL] at ha
    by_cases c2 : q < o
    · rw [if_neg (by omega), hv, pvg_hi]
      rw [List.getElem?_append_left (by simp; omega), List.getElem?_take, if_pos c2] at ha
      exact ha
    · have h3 : (L.take o).length = o := by simp; omega
      rw [List.getElem?_append_right (by omega), h3] at ha
      by_cases c3 : q < o + r.l.length
      · rw [if_pos (by omega)]
        rw [List.getElem?_append_left (by omega)] at ha
        rw [← ha]; congr 1; omega
      · rw [if_neg (by omega), hv, pvg_hi]
        rw [List.getElem?_append_right (by omega), List.getElem?_drop] at ha
        rw [← ha]; congr 1; omega
theorem vaG {r : VA} {g : Nat → Option AV} {j j' b o : Nat} {L L' : List AV} (hj : iv r.j = (.i64, (j : Int))) (hj' : iv r.j' = (.i64, (j' : Int))) (hv : vv r.i = pvg g b L) (hv' : vv r.i' = pvg g b L') (h2 : vk r.i' = pk b L') (ho : j * r.z = b + o) (ho' : j' * r.z = b + o + r.src.length)
    (hL : L' = L.take o ++ r.src) (hlen : o ≤ L.length) (hlim : j' < limit) : VaOk iv vv vk r := by
  have e1 : (iv r.j).2.toNat = j := by rw [hj]; simp
  have e2 : (iv r.j').2.toNat = j' := by rw [hj']; simp
  have h3 : (L.take o).length = o := by simp; omega
  have hl' : L'.length = o + r.src.length := by rw [hL, List.length_append, h3]
  refine ⟨by rw [hj]; exact ⟨rfl, Int.natCast_nonneg _⟩, by rw [hj']; exact ⟨rfl, Int.natCast_nonneg _⟩, by rw [e1, e2, ho, ho'], by rw [e2]; exact hlim, by rw [h2, e2, ho']; unfold pk; omega, fun m a ha => ⟨a, ?_, .inl rfl⟩⟩
  rw [e1, ho]
  rw [hv'] at ha
  by_cases c1 : m < b
  · rw [if_pos (by omega), hv, pvg_lo c1]
    rw [pvg_lo c1] at ha; exact ha
  · obtain ⟨q, rfl⟩ : ∃ q, m = b + q := ⟨m - b, by omega⟩
    rw [pvg_hi, hL] at ha
    by_cases c2 : q < o
    · rw [if_pos (by omega), hv, pvg_hi]
      rw [List.getElem?_append_left (by omega), List.getElem?_take, if_pos c2] at ha
      exact ha
    · rw [if_neg (by omega)]
      rw [List.getElem?_append_right (by omega), h3] at ha
      rw [← ha]; congr 1; omega
theorem vpG0 {T T' : Tab} {C : Cv} (hip : IpOk T T' C.ip) {i i' b b' : Nat} {g : Nat → Option AV} {L L' : List AV} (h1 : T.vv i = pvg g b L) (h2 : T'.vv i' = pvg g b' L') (hb' : b ≤ b')
    (hg : ∀ m a, g m = some a → ∃ k n, a = .int k n) (hk : T'.vk i' ≤ T.vk i)
    (hn : ∀ m a, b ≤ m → m < b' → g m = some a → ∃ x, L[m - b]? = some x ∧ ∀ μ v, @vrel T μ x v → @vrel T' μ a v)
    (hl : cvL C (L.drop (b' - b)) L' = true) :
    own (.vec i) = true ∧ ∀ μ l w, @brel T μ (.vec i) l w → @brel T' (ren C.N0 C.rn μ) (.vec i') l w := by
  refine ⟨rfl, fun μ l w hb => ?_⟩
  obtain ⟨arr, el, fz, g1, g2, g3, g4, g5⟩ := hb
  refine ⟨arr, el, fz, g1, g2, g3, Nat.le_trans (Nat.add_le_add_left hk _) g4, fun m a ha => ?_⟩
  rw [h2] at ha
  rw [h1] at g5
  by_cases c1 : m < b'
  · rw [pvg_lo c1] at ha
    obtain ⟨k, n, rfl⟩ := hg m a ha
    by_cases c2 : m < b
    · obtain ⟨v, k1, k2⟩ := g5 m _ (by rw [pvg_lo c2]; exact ha)
      refine ⟨v, k1, ?_⟩
      simp only [vrel] at k2 ⊢
      exact k2
    · obtain ⟨x, hx, hr⟩ := hn m _ (by omega) c1 ha
      obtain ⟨v, k1, k2⟩ := g5 m x (by
        obtain ⟨q, rfl⟩ : ∃ q, m = b + q := ⟨m - b, by omega⟩
        rw [pvg_hi]; rw [show b + q - b = q by omega] at hx; exact hx)
      have := hr _ _ k2
      simp only [vrel] at this ⊢
      exact ⟨v, k1, this⟩
  · obtain ⟨q, rfl⟩ : ∃ q, m = b' + q := ⟨m - b', by omega⟩
    rw [pvg_hi] at ha
    obtain ⟨a0, k1, k2⟩ := cvL_get hl q a ha
    rw [List.getElem?_drop] at k1
    obtain ⟨v, k3, k4⟩ := g5 (b' + q) a0 (by
      rw [show b' + q = b + (b' - b + q) by omega, pvg_hi]; exact k1)
    exact ⟨v, k3, cvV_sound hip k2 k4⟩
theorem vpG {T T' : Tab} {C : Cv} (hip : IpOk T T' C.ip) {i i' b : Nat} (q : Nat) {g : Nat → Option AV} {L L' : List AV} (h1 : T.vv i = pvg g b L) (h2 : T'.vv i' = pvg g (b + q) L')
    (hg : ∀ m a, g m = some a → ∃ k n, a = .int k n) (hk : T'.vk i' ≤ T.vk i)
    (hn : ∀ m a, m < q → g (b + m) = some a → ∃ x, L[m]? = some x ∧ ∀ μ v, @vrel T μ x v → @vrel T' μ a v)
    (hl : cvL C (L.drop q) L' = true) :
    own (.vec i) = true ∧ ∀ μ l w, @brel T μ (.vec i) l w → @brel T' (ren C.N0 C.rn μ) (.vec i') l w :=
  vpG0 hip h1 h2 (Nat.le_add_right _ _) hg hk (fun m a e1 e2 e3 => by
    obtain ⟨p, rfl⟩ : ∃ p, m = b + p := ⟨m - b, by omega⟩
    rw [show b + p - b = p by omega]
    exact hn p a (by omega) e3) (by rw [show b + q - b = q by omega]; exact hl)
theorem noG_int : ∀ m a, noG m = some a → ∃ k n, a = AV.int k n := fun m a h => by cases h
theorem vpCellsG {T T' : Tab} {C : Cv} (hip : IpOk T T' C.ip) {i' b' n : Nat} {q : Bool} {g : Nat → Option AV} {L L' : List AV} (hn : n = L.length) (h2 : T'.vv i' = pvg g b' L') (hlen : L.length < 16000000) (hk : T'.vk i' ≤ n) (hb : b' ≤ L.length)
    (hg : ∀ m a, g m = some a → ∃ k n, a = .int k n) (hn' : ∀ m a, m < b' → g m = some a → ∃ x, L[m]? = some x ∧ ∀ μ v, @vrel T μ x v → @vrel T' μ a v) (hl : cvL C (L.drop b') L' = true) :
    own (.cells n q [] (X.T.ofList 0 .leaf L)) = true ∧ ∀ μ l w, @brel T μ (.cells n q [] (X.T.ofList 0 .leaf L)) l w → @brel T' (ren C.N0 C.rn μ) (.vec i') l w := by
  refine ⟨rfl, fun μ l w hb_ => ?_⟩
  obtain ⟨arr, el, fz, g1, g2, g3, g4, _, g5⟩ := hb_
  refine ⟨arr, el, fz, g1, g2, g3, Nat.le_trans (Nat.add_le_add_left hk _) g4, fun m a ha => ?_⟩
  rw [h2] at ha
  have cell : ∀ m x, L[m]? = some x → ∃ v, arr[l.base + m]? = some v ∧ @vrel T μ x v := by
    intro m x hx
    have hm : m < L.length := (List.getElem?_eq_some_iff.1 hx).1
    obtain ⟨v, k3, k4⟩ := g5 m x (by omega) (by
      unfold cellOf
      rw [X.T.get_ofList _ _ _ _ (by omega), if_pos ⟨Nat.zero_le _, by omega⟩, Nat.sub_zero, hx])
    exact ⟨v, k3, k4⟩
  by_cases c1 : m < b'
  · rw [pvg_lo c1] at ha
    obtain ⟨k, n, rfl⟩ := hg m a ha
    obtain ⟨x, hx, hr⟩ := hn' m _ c1 ha
    obtain ⟨v, k1, k2⟩ := cell m x hx
    have := hr _ _ k2
    simp only [vrel] at this ⊢
    exact ⟨v, k1, this⟩
  · obtain ⟨q, rfl⟩ : ∃ q, m = b' + q := ⟨m - b', by omega⟩
    rw [pvg_hi] at ha
    obtain ⟨a0, k1, k2⟩ := cvL_get hl q a ha
    rw [List.getElem?_drop] at k1
    obtain ⟨v, k3, k4⟩ := cell (b' + q) a0 k1
    exact ⟨v, k3, cvV_sound hip k2 k4⟩
end Go.X
set_option linter.unusedVariables false
set_option linter.unusedSimpArgs false
set_option linter.unusedSectionVars false
namespace Go.X
open Go.RowKit
def pvw (L : List AV) (n : Nat) (W : Nat → BitVec 64) : Nat → Option AV := fun m => if m < L.length then L[m]? else if m < n then some (.int .u64 (wI (W (m - L.length)))) else none
theorem pvw_lo {L : List AV} {n : Nat} {W : Nat → BitVec 64} {m : Nat} (h : m < L.length) : pvw L n W m = L[m]? := by unfold pvw; rw [if_pos h]
theorem pvw_hi {L : List AV} {n : Nat} {W : Nat → BitVec 64} {q : Nat} (h : L.length + q < n) : pvw L n W (L.length + q) = some (.int .u64 (wI (W q))) := by
  unfold pvw; rw [if_neg (by omega), if_pos h, show L.length + q - L.length = q by omega]
theorem pvw_cases {L : List AV} {n : Nat} {W : Nat → BitVec 64} {m : Nat} {a : AV} (h : pvw L n W m = some a) : (m < L.length ∧ L[m]? = some a) ∨ ∃ q, m = L.length + q ∧ m < n ∧ a = .int .u64 (wI (W q)) := by
  unfold pvw at h
  split at h
  · exact .inl ⟨by assumption, h⟩
  · split at h
    · cases h; exact .inr ⟨m - L.length, by omega, by assumption, rfl⟩
    · cases h
theorem pvw_plain {L : List AV} {n : Nat} {W : Nat → BitVec 64} (h : L.all vplain = true) {m : Nat} {a : AV} (e : pvw L n W m = some a) : vplain a = true := by
  rcases pvw_cases e with ⟨_, e⟩ | ⟨_, _, _, rfl⟩
  · exact List.all_eq_true.1 h a (List.mem_of_getElem? e)
  · rfl
variable {iv : Nat → IntKind × Int} {vv : Nat → Nat → Option AV} {vk : Nat → Nat}
theorem vlW1 {r : VL} {L : List AV} {n : Nat} {W : Nat → BitVec 64} {k : Nat} {x : AV} (hk : iv r.k = (.i64, (k : Int))) (hv : vv r.i = pvw L n W) (hz : r.z = 1) (hf : r.f = 0) (hl : r.l = [x]) (hx : L[k]? = some x) : VlOk iv vv r := by
  refine ⟨by rw [hk]; exact ⟨rfl, by simp⟩, fun m b hb => ?_⟩
  rw [hl] at hb
  have hm : m = 0 := by
    have := (List.getElem?_eq_some_iff.1 hb).1
    simpa using this
  subst hm
  cases hb
  have e1 : (iv r.k).2.toNat = k := by rw [hk]; simp
  have hlt : k < L.length := (List.getElem?_eq_some_iff.1 hx).1
  rw [e1, hz, hf, hv, show k * 1 + 0 + 0 = k by omega, pvw_lo hlt]
  exact ⟨_, hx, .inl rfl⟩
theorem vlW2 {r : VL} {L : List AV} {n : Nat} {W : Nat → BitVec 64} {k q y : Nat} (hk : iv r.k = (.i64, (k : Int))) (hv : vv r.i = pvw L n W) (hz : r.z = 1) (hf : r.f = 0) (hl : r.l = [.oi y]) (h1 : k = L.length + q) (h2 : k < n) (hy : iv y = (.u64, wI (W q))) : VlOk iv vv r := by
  refine ⟨by rw [hk]; exact ⟨rfl, by simp⟩, fun m b hb => ?_⟩
  rw [hl] at hb
  have hm : m = 0 := by
    have := (List.getElem?_eq_some_iff.1 hb).1
    simpa using this
  subst hm
  cases hb
  have e1 : (iv r.k).2.toNat = k := by rw [hk]; simp
  rw [e1, hz, hf, hv, show k * 1 + 0 + 0 = L.length + q by omega, pvw_hi (by omega)]
  exact ⟨_, rfl, .inr ⟨_, rfl, by show some (iv y) = _; rw [hy]⟩⟩
theorem vsW2 {r : VS} {L : List AV} {n : Nat} {W W' : Nat → BitVec 64} {k q : Nat} {x : AV} (hk : iv r.k = (.i64, (k : Int))) (hv : vv r.i = pvw L n W) (hv' : vv r.i' = pvw L n W') (h3 : vk r.i = n) (h4 : vk r.i' = n) (hz : r.z = 1) (hf : r.f = 0) (hl : r.l = [x]) (h1 : k = L.length + q) (h2 : k < n) (hx : denI iv x = some (.u64, wI (W' q))) (hw : ∀ m, m ≠ q → W' m = W m) : VsOk iv vv vk r := by
  have e1 : (iv r.k).2.toNat = k := by rw [hk]; simp
  refine ⟨by rw [hk]; exact ⟨rfl, by simp⟩, by rw [e1, hl, h3, hz, hf]; simp; omega, by rw [h3, h4]; exact Nat.le_refl _, fun m a ha => ?_⟩
  rw [hv'] at ha
  rw [e1, hl, hz, hf, hv]
  by_cases c : m = k
  · subst c
    rcases pvw_cases ha with ⟨c2, _⟩ | ⟨q', e2, _, rfl⟩
    · omega
    · obtain rfl : q' = q := by omega
      refine ⟨x, ?_, .inr ⟨_, hx, rfl⟩⟩
      rw [if_pos (by simp)]
      simp
  · rw [if_neg (by simp; omega)]
    rcases pvw_cases ha with ⟨c2, c3⟩ | ⟨q', rfl, c4, rfl⟩
    · rw [pvw_lo c2]; exact ⟨_, c3, .inl rfl⟩
    · rw [pvw_hi c4]
      exact ⟨_, rfl, .inl (by rw [hw q' (by omega)])⟩
theorem vzW {r : VZ} {L : List AV} {a b c : Nat} {W W' : Nat → BitVec 64} (ha : iv r.j = (.i64, (a : Int))) (hc : iv r.k = (.i64, (c : Int))) (hb : iv r.j' = (.i64, (b : Int))) (h0 : vv r.i = pvw L a W) (h1 : vv r.i' = pvw L b W') (hk : vk r.i' = b) (hz : r.z = 1) (hzc : r.zc = [.int .u64 0])
    (hA : b = a + c) (hl : b < 1000000) (hL : L.length ≤ a) (he : ∀ m, L.length + m < a → W' m = W m) (hs : ∀ m, a ≤ L.length + m → W' m = 0) : VzOk iv vv vk r := by
  refine ⟨by rw [ha]; exact ⟨rfl, by simp⟩, by rw [hc]; exact ⟨rfl, by simp⟩, by rw [hb]; exact ⟨rfl, by simp⟩, by rw [ha, hb, hc, hA]; simp, by rw [hb]; simpa [limit] using hl, by rw [hb, hk, hz]; simp, ?_⟩
  intro m x hx
  rw [h1] at hx
  rw [ha, hb, hz, hzc]
  simp only [Int.toNat_natCast, Nat.mul_one]
  rcases pvw_cases hx with ⟨c2, c3⟩ | ⟨q, rfl, c4, rfl⟩
  · refine ⟨by omega, x, ?_, .inl rfl⟩
    rw [if_pos (by omega), h0, pvw_lo c2]; exact c3
  · refine ⟨c4, ?_⟩
    by_cases d : L.length + q < a
    · exact ⟨_, by rw [if_pos d, h0, pvw_hi d], .inl (by rw [he q d])⟩
    · rw [if_neg d]
      exact ⟨.int .u64 0, by simp [Nat.mod_one], .inl (by rw [hs q (by omega)]; rfl)⟩
theorem vpW {T T' : Tab} {C : Cv} (hip : IpOk T T' C.ip) {i i' n n' : Nat} {L L' : List AV} {W W' : Nat → BitVec 64} (h1 : T.vv i = pvw L n W) (h2 : T'.vv i' = pvw L' n' W') (hk : T'.vk i' ≤ T.vk i) (hn : n' ≤ n) (hL : L.length ≤ L'.length) (hLn : L'.length ≤ n)
    (hl : cvL C L (L'.take L.length) = true) (hm : ∀ q x, L'[L.length + q]? = some x → ∀ μ v, v = Value.int .u64 (wI (W q)) → @vrel T' μ x v) (hw : ∀ q, L'.length + q < n' → W' q = W (L'.length - L.length + q)) :
    own (.vec i) = true ∧ ∀ μ l w, @brel T μ (.vec i) l w → @brel T' (ren C.N0 C.rn μ) (.vec i') l w := by
  refine ⟨rfl, fun μ l w hb => ?_⟩
  obtain ⟨arr, el, fz, g1, g2, g3, g4, g5⟩ := hb
  refine ⟨arr, el, fz, g1, g2, g3, Nat.le_trans (Nat.add_le_add_left hk _) g4, fun m a ha => ?_⟩
  rw [h2] at ha
  rw [h1] at g5
  rcases pvw_cases ha with ⟨c2, c3⟩ | ⟨q, rfl, c4, rfl⟩
  · by_cases d : m < L.length
    · obtain ⟨a0, k1, k2⟩ := cvL_get hl m a (by rw [List.getElem?_take, if_pos d]; exact c3)
      obtain ⟨v, k3, k4⟩ := g5 m a0 (by rw [pvw_lo d]; exact k1)
      exact ⟨v, k3, cvV_sound hip k2 k4⟩
    · obtain ⟨q, rfl⟩ : ∃ q, m = L.length + q := ⟨m - L.length, by omega⟩
      obtain ⟨v, k3, k4⟩ := g5 _ _ (pvw_hi (L := L) (W := W) (q := q) (by omega))
      simp only [vrel] at k4
      exact ⟨v, k3, hm q a c3 _ v k4⟩
  · obtain ⟨v, k3, k4⟩ := g5 _ _ (pvw_hi (L := L) (W := W) (q := L'.length - L.length + q) (by omega))
    rw [show L.length + (L'.length - L.length + q) = L'.length + q by omega] at k3
    refine ⟨v, k3, ?_⟩
    simp only [vrel] at k4 ⊢
    rw [hw q c4]; exact k4
theorem vpWcells {T T' : Tab} {C : Cv} (hip : IpOk T T' C.ip) {i' n : Nat} {q : Bool} {L L' : List AV} {W' : Nat → BitVec 64} (hn : n = L.length) (h2 : T'.vv i' = pvw L' n W') (hlen : L.length < 16000000) (hk : T'.vk i' ≤ n) (hL : L'.length = n) (hl : cvL C L L' = true) :
    own (.cells n q [] (X.T.ofList 0 .leaf L)) = true ∧ ∀ μ l w, @brel T μ (.cells n q [] (X.T.ofList 0 .leaf L)) l w → @brel T' (ren C.N0 C.rn μ) (.vec i') l w := by
  refine ⟨rfl, fun μ l w hb_ => ?_⟩
  obtain ⟨arr, el, fz, g1, g2, g3, g4, _, g5⟩ := hb_
  refine ⟨arr, el, fz, g1, g2, g3, Nat.le_trans (Nat.add_le_add_left hk _) g4, fun m a ha => ?_⟩
  rw [h2] at ha
  rcases pvw_cases ha with ⟨c2, c3⟩ | ⟨q, rfl, c4, rfl⟩
  · obtain ⟨a0, k1, k2⟩ := cvL_get hl m a c3
    have hm : m < L.length := (List.getElem?_eq_some_iff.1 k1).1
    obtain ⟨v, k3, k4⟩ := g5 m a0 (by omega) (by
      unfold cellOf
      rw [X.T.get_ofList _ _ _ _ (by omega), if_pos ⟨Nat.zero_le _, by omega⟩, Nat.sub_zero, k1])
    exact ⟨v, k3, cvV_sound hip k2 k4⟩
  · omega
end Go.X
set_option linter.unusedVariables false
set_option linter.unusedSimpArgs false
set_option linter.unusedSectionVars false
namespace Go.X
open Go.RowKit
def pvn (L : List AV) (n : Nat) (F : Nat → Int) : Nat → Option AV := fun m => if m < L.length then L[m]? else if m < n then some (.int .i64 (F (m - L.length))) else none
theorem pvn_lo {L : List AV} {n : Nat} {F : Nat → Int} {m : Nat} (h : m < L.length) : pvn L n F m = L[m]? := by unfold pvn; rw [if_pos h]
theorem pvn_hi {L : List AV} {n : Nat} {F : Nat → Int} {q : Nat} (h : L.length + q < n) : pvn L n F (L.length + q) = some (.int .i64 (F q)) := by
  unfold pvn; rw [if_neg (by omega), if_pos h, show L.length + q - L.length = q by omega]
theorem pvn_cases {L : List AV} {n : Nat} {F : Nat → Int} {m : Nat} {a : AV} (h : pvn L n F m = some a) : (m < L.length ∧ L[m]? = some a) ∨ ∃ q, m = L.length + q ∧ m < n ∧ a = .int .i64 (F q) := by
  unfold pvn at h
  split at h
  · exact .inl ⟨by assumption, h⟩
  · split at h
    · cases h; exact .inr ⟨m - L.length, by omega, by assumption, rfl⟩
    · cases h
theorem pvn_plain {L : List AV} {n : Nat} {F : Nat → Int} (h : L.all vplain = true) {m : Nat} {a : AV} (e : pvn L n F m = some a) : vplain a = true := by
  rcases pvn_cases e with ⟨_, e⟩ | ⟨_, _, _, rfl⟩
  · exact List.all_eq_true.1 h a (List.mem_of_getElem? e)
  · rfl
variable {iv : Nat → IntKind × Int} {vv : Nat → Nat → Option AV} {vk : Nat → Nat}
theorem vlN1 {r : VL} {L : List AV} {n : Nat} {F : Nat → Int} {k : Nat} {x : AV} (hk : iv r.k = (.i64, (k : Int))) (hv : vv r.i = pvn L n F) (hz : r.z = 1) (hf : r.f = 0) (hl : r.l = [x]) (hx : L[k]? = some x) : VlOk iv vv r := by
  refine ⟨by rw [hk]; exact ⟨rfl, by simp⟩, fun m b hb => ?_⟩
  rw [hl] at hb
  have hm : m = 0 := by
    have := (List.getElem?_eq_some_iff.1 hb).1
    simpa using this
  subst hm
  cases hb
  have e1 : (iv r.k).2.toNat = k := by rw [hk]; simp
  have hlt : k < L.length := (List.getElem?_eq_some_iff.1 hx).1
  rw [e1, hz, hf, hv, show k * 1 + 0 + 0 = k by omega, pvn_lo hlt]
  exact ⟨_, hx, .inl rfl⟩
theorem vlN2 {r : VL} {L : List AV} {n : Nat} {F : Nat → Int} {k q y : Nat} (hk : iv r.k = (.i64, (k : Int))) (hv : vv r.i = pvn L n F) (hz : r.z = 1) (hf : r.f = 0) (hl : r.l = [.oi y]) (h1 : k = L.length + q) (h2 : k < n) (hy : iv y = (.i64, F q)) : VlOk iv vv r := by
  refine ⟨by rw [hk]; exact ⟨rfl, by simp⟩, fun m b hb => ?_⟩
  rw [hl] at hb
  have hm : m = 0 := by
    have := (List.getElem?_eq_some_iff.1 hb).1
    simpa using this
  subst hm
  cases hb
  have e1 : (iv r.k).2.toNat = k := by rw [hk]; simp
  rw [e1, hz, hf, hv, show k * 1 + 0 + 0 = L.length + q by omega, pvn_hi (by omega)]
  exact ⟨_, rfl, .inr ⟨_, rfl, by show some (iv y) = _; rw [hy]⟩⟩
theorem vaN1 {r : VA} {L : List AV} {n : Nat} {F : Nat → Int} {k : Nat} {x : AV} (hj : iv r.j = (.i64, (n : Int))) (hj' : iv r.j' = (.i64, ((n + 1 : Nat) : Int))) (hv : vv r.i = pvn L n F) (hv' : vv r.i' = pvn L (n + 1) F) (hk : vk r.i' ≤ n + 1) (hz : r.z = 1) (hl : r.src = [x]) (h1 : n = L.length + k) (h2 : n + 1 < 1000000) (hx : denI iv x = some (.i64, F k)) : VaOk iv vv vk r := by
  have e1 : (iv r.j).2.toNat = n := by rw [hj]; simp
  have e2 : (iv r.j').2.toNat = n + 1 := by rw [hj']; simp
  refine ⟨by rw [hj]; exact ⟨rfl, Int.natCast_nonneg _⟩, by rw [hj']; exact ⟨rfl, Int.natCast_nonneg _⟩, by rw [e1, e2, hz, hl]; simp, by rw [e2]; simpa [limit] using h2, by rw [e2, hz]; omega, fun m a ha => ?_⟩
  rw [e1, hz, hl]
  rw [hv'] at ha
  rcases pvn_cases ha with ⟨c2, c3⟩ | ⟨q, rfl, c4, rfl⟩
  · refine ⟨a, ?_, .inl rfl⟩
    rw [if_pos (by omega), hv, pvn_lo c2]; exact c3
  · by_cases d : L.length + q < n
    · exact ⟨_, by rw [if_pos (by omega), hv, pvn_hi d], .inl rfl⟩
    · obtain rfl : q = k := by omega
      refine ⟨x, ?_, .inr ⟨_, hx, rfl⟩⟩
      rw [if_neg (by omega), show L.length + q - n * 1 = 0 by omega]
      rfl
theorem vpN {T T' : Tab} {C : Cv} (hip : IpOk T T' C.ip) {i i' n n' : Nat} {L L' : List AV} {F F' : Nat → Int} (h1 : T.vv i = pvn L n F) (h2 : T'.vv i' = pvn L' n' F') (hk : T'.vk i' ≤ T.vk i) (hn : n' ≤ n) (hL : L.length ≤ L'.length) (hLn : L'.length ≤ n)
    (hl : cvL C L (L'.take L.length) = true) (hm : ∀ q x, L'[L.length + q]? = some x → ∀ μ v, v = Value.int .i64 (F q) → @vrel T' μ x v) (hw : ∀ q, L'.length + q < n' → F' q = F (L'.length - L.length + q)) :
    own (.vec i) = true ∧ ∀ μ l w, @brel T μ (.vec i) l w → @brel T' (ren C.N0 C.rn μ) (.vec i') l w := by
  refine ⟨rfl, fun μ l w hb => ?_⟩
  obtain ⟨arr, el, fz, g1, g2, g3, g4, g5⟩ := hb
  refine ⟨arr, el, fz, g1, g2, g3, Nat.le_trans (Nat.add_le_add_left hk _) g4, fun m a ha => ?_⟩
  rw [h2] at ha
  rw [h1] at g5
  rcases pvn_cases ha with ⟨c2, c3⟩ | ⟨q, rfl, c4, rfl⟩
  · by_cases d : m < L.length
    · obtain ⟨a0, k1, k2⟩ := cvL_get hl m a (by rw [List.getElem?_take, if_pos d]; exact c3)
      obtain ⟨v, k3, k4⟩ := g5 m a0 (by rw [pvn_lo d]; exact k1)
      exact ⟨v, k3, cvV_sound hip k2 k4⟩
    · obtain ⟨q, rfl⟩ : ∃ q, m = L.length + q := ⟨m - L.length, by omega⟩
      obtain ⟨v, k3, k4⟩ := g5 _ _ (pvn_hi (L := L) (F := F) (q := q) (by omega))
      simp only [vrel] at k4
      exact ⟨v, k3, hm q a c3 _ v k4⟩
  · obtain ⟨v, k3, k4⟩ := g5 _ _ (pvn_hi (L := L) (F := F) (q := L'.length - L.length + q) (by omega))
    rw [show L.length + (L'.length - L.length + q) = L'.length + q by omega] at k3
    refine ⟨v, k3, ?_⟩
    simp only [vrel] at k4 ⊢
    rw [hw q c4]; exact k4
theorem vpNcells {T T' : Tab} {C : Cv} (hip : IpOk T T' C.ip) {i' n : Nat} {q : Bool} {L L' : List AV} {F' : Nat → Int} (hn : n = L.length) (h2 : T'.vv i' = pvn L' n F') (hlen : L.length < 16000000) (hk : T'.vk i' ≤ n) (hL : L'.length = n) (hl : cvL C L L' = true) :
    own (.cells n q [] (X.T.ofList 0 .leaf L)) = true ∧ ∀ μ l w, @brel T μ (.cells n q [] (X.T.ofList 0 .leaf L)) l w → @brel T' (ren C.N0 C.rn μ) (.vec i') l w := by
  refine ⟨rfl, fun μ l w hb_ => ?_⟩
  obtain ⟨arr, el, fz, g1, g2, g3, g4, _, g5⟩ := hb_
  refine ⟨arr, el, fz, g1, g2, g3, Nat.le_trans (Nat.add_le_add_left hk _) g4, fun m a ha => ?_⟩
  rw [h2] at ha
  rcases pvn_cases ha with ⟨c2, c3⟩ | ⟨q, rfl, c4, rfl⟩
  · obtain ⟨a0, k1, k2⟩ := cvL_get hl m a c3
    have hm : m < L.length := (List.getElem?_eq_some_iff.1 k1).1
    obtain ⟨v, k3, k4⟩ := g5 m a0 (by omega) (by
      unfold cellOf
      rw [X.T.get_ofList _ _ _ _ (by omega), if_pos ⟨Nat.zero_le _, by omega⟩, Nat.sub_zero, k1])
    exact ⟨v, k3, cvV_sound hip k2 k4⟩
  · omega
theorem vlW3 {r : VL} {L : List AV} {n : Nat} {W : Nat → BitVec 64} {k q : Nat} {c : Int} (hk : iv r.k = (.i64, (k : Int))) (hv : vv r.i = pvw L n W) (hz : r.z = 1) (hf : r.f = 0) (hl : r.l = [.int .u64 c]) (h1 : k = L.length + q) (h2 : k < n) (hy : wI (W q) = c) : VlOk iv vv r := by
  refine ⟨by rw [hk]; exact ⟨rfl, by simp⟩, fun m b hb => ?_⟩
  rw [hl] at hb
  have hm : m = 0 := by
    have := (List.getElem?_eq_some_iff.1 hb).1
    simpa using this
  subst hm
  cases hb
  have e1 : (iv r.k).2.toNat = k := by rw [hk]; simp
  rw [e1, hz, hf, hv, show k * 1 + 0 + 0 = L.length + q by omega, pvw_hi (by omega)]
  exact ⟨_, rfl, .inl (by rw [hy])⟩
theorem pvnHs {T : Tab} {i n : Nat} {L : List AV} {F G : Nat → Int} (hv : T.vv i = pvn L n F) (hL : ∀ q x, L[q]? = some x → x = AV.int .i64 (G q)) (hF : ∀ q, L.length + q < n → F q = G (L.length + q)) :
    ∀ m, m < n → ∃ a, T.vv i m = some a ∧ ∀ μ v, @vrel T μ a v → v = .int .i64 (G m) := by
  intro m hm
  rw [hv]
  by_cases c : m < L.length
  · rw [pvn_lo c]
    have h := List.getElem?_eq_getElem c
    refine ⟨_, h, fun μ v e => ?_⟩
    rw [hL m _ h] at e
    simp only [vrel] at e
    exact e
  · obtain ⟨q, rfl⟩ : ∃ q, m = L.length + q := ⟨m - L.length, by omega⟩
    rw [pvn_hi hm]
    exact ⟨_, rfl, fun μ v e => by simp only [vrel] at e; rw [e, hF q hm]⟩
end Go.X
set_option linter.unusedVariables false
set_option linter.unusedSimpArgs false
set_option linter.unusedSectionVars false
namespace Go.X
open Go.RowKit
abbrev VbOk (iv : Nat → IntKind × Int) (vv : Nat → Nat → Option AV) (vk : Nat → Nat) (fv : Nat → Nat → Option AV) (r : VB) : Prop :=
  (r.nl = false → isLen (iv r.j)) ∧ isLen (iv r.k) ∧ 0 < (iv r.k).2 ∧ isLen (iv r.j') ∧ (iv r.j').2.toNat = (bif r.nl then 0 else (iv r.j).2.toNat) + (iv r.k).2.toNat ∧ (iv r.j').2.toNat < limit ∧ vk r.i' ≤ (iv r.j').2.toNat * r.z ∧
    (∀ m, m < (iv r.k).2.toNat * r.z → ∃ a, (bif r.own then vv r.q else fv r.q) m = some a ∧ vplain a = true) ∧
    ∀ m a, vv r.i' m = some a → m < (iv r.j').2.toNat * r.z ∧ ∃ b, (if m < (bif r.nl then 0 else (iv r.j).2.toNat) * r.z then vv r.i m else (bif r.own then vv r.q else fv r.q) (m - (bif r.nl then 0 else (iv r.j).2.toNat) * r.z)) = some b ∧ sameAV iv b a
abbrev VtOk (iv : Nat → IntKind × Int) (vv : Nat → Nat → Option AV) (str : Nat → ByteArray) (r : Nat × Nat × Nat) : Prop :=
  isLen (iv r.2.1) ∧ (str r.2.2).data.toList.length = (iv r.2.1).2.toNat ∧ ∀ m x, (str r.2.2).data.toList[m]? = some x → vv r.1 m = some (.int .u8 (x.toNat : Int))
structure Rw (iv : Nat → IntKind × Int) (vv : Nat → Nat → Option AV) (vk : Nat → Nat) (F : Fgn) (X : Txts iv) where
  vvp : ∀ i m a, vv i m = some a → vplain a = true
  ib : List BRow := []
  ibok : ∀ r ∈ ib, IbOk iv r := by exact fun _ h => nomatch h
  ic : List (IntKind × AV × AV) := []
  icok : ∀ r ∈ ic, IcOk' iv r := by exact fun _ h => nomatch h
  va : List VA := []
  vaok : ∀ r ∈ va, VaOk iv vv vk r := by exact fun _ h => nomatch h
  vz : List VZ := []
  vzok : ∀ r ∈ vz, VzOk iv vv vk r := by exact fun _ h => nomatch h
  vn : List VN := []
  vnok : ∀ r ∈ vn, VnOk iv vv vk r := by exact fun _ h => nomatch h
  vb : List VB := []
  vbok : ∀ r ∈ vb, VbOk iv vv vk F.fv r := by exact fun _ h => nomatch h
  vc : List (Nat × Nat) := []
  vcok : ∀ p ∈ vc, iv p.2 = (.i64, (p.1 : Int)) := by exact fun _ h => nomatch h
  vl : List VL := []
  vlok : ∀ r ∈ vl, VlOk iv vv r := by exact fun _ h => nomatch h
  vs : List VS := []
  vsok : ∀ r ∈ vs, VsOk iv vv vk r := by exact fun _ h => nomatch h
  fl : List VL := []
  flok : ∀ r ∈ fl, FlOk iv F r := by exact fun _ h => nomatch h
  vt : List (Nat × Nat × Nat) := []
  vtok : ∀ r ∈ vt, VtOk iv vv X.str r := by exact fun _ h => nomatch h
abbrev Rw.T {iv : Nat → IntKind × Int} {vv : Nat → Nat → Option AV} {vk : Nat → Nat} {F : Fgn} {X : Txts iv} (R : Rw iv vv vk F X) : Tab where
  str := X.str
  ne := X.ne
  ok := X.ok
  gv := fun _ _ => none
  iv := iv
  rv := fun _ => .nilIface
  ib := R.ib
  ibok := R.ibok
  ic := R.ic
  icok := R.icok
  iu := []
  iuok := fun _ h => by simp at h
  vv := vv
  vk := vk
  vvp := R.vvp
  va := R.va
  vaok := fun r hr => let ⟨a, b, c, d, e, f⟩ := R.vaok r hr; ⟨a, b, c, d, e, fun m x hx => let ⟨y, h1, h2⟩ := f m x hx; ⟨y, h1, .inl h2⟩⟩
  vz := R.vz
  vzok := fun r hr => let ⟨a, b, c, d, e, g, f⟩ := R.vzok r hr; ⟨a, b, c, d, e, g, fun m x hx => let ⟨q, y, h1, h2⟩ := f m x hx; ⟨q, y, h1, .inl h2⟩⟩
  vn := R.vn
  vnok := fun r hr => let ⟨a, b, c, d, e, f⟩ := R.vnok r hr; ⟨a, b, c, d, e, fun m x hx => let ⟨q, y, h1, h2⟩ := f m x hx; ⟨q, y, h1, .inl h2⟩⟩
  fb := F.fb
  fcap := F.fcap
  fv := F.fv
  vb := R.vb
  vbok := fun r hr => let ⟨a, b, c, d, e, g, h, i, f⟩ := R.vbok r hr; ⟨a, b, c, d, e, g, h, i, fun m x hx => let ⟨q, y, h1, h2⟩ := f m x hx; ⟨q, y, h1, .inl h2⟩⟩
  vc := R.vc
  vcok := R.vcok
  fl := R.fl
  flok := fun r hr => let ⟨a, f⟩ := R.flok r hr; ⟨a, fun m x hx => let ⟨y, h1, h2⟩ := f m x hx; ⟨y, h1, .inl h2⟩⟩
  vl := R.vl
  vlok := fun r hr => let ⟨a, f⟩ := R.vlok r hr; ⟨a, fun m x hx => let ⟨y, h1, h2⟩ := f m x hx; ⟨y, h1, .inl h2⟩⟩
  vs := R.vs
  vsok := fun r hr => let ⟨a, b, c, f⟩ := R.vsok r hr; ⟨a, b, c, fun m x hx => let ⟨y, h1, h2⟩ := f m x hx; ⟨y, h1, .inl h2⟩⟩
  tr := X.tr
  trok := X.trok
  vt := R.vt
  vtok := R.vtok
theorem Rw.same {iv : Nat → IntKind × Int} {vv : Nat → Nat → Option AV} {vk : Nat → Nat} {F : Fgn} {X : Txts iv} (R R' : Rw iv vv vk F X) : SameTab R.T R'.T := ⟨⟨rfl, rfl, rfl, rfl, rfl, rfl, rfl, rfl, rfl⟩, rfl, rfl⟩
section
variable {iv : Nat → IntKind × Int} {vv : Nat → Nat → Option AV} {vk : Nat → Nat} {F : Fgn}
theorem rAdd {x y z : AV} {l : List BRow} {a b c : Int} (k : ∀ r ∈ l, IbOk iv r) (hx : denI iv x = some (.i64, a) := by exact rfl) (hy : denI iv y = some (.i64, b) := by exact rfl) (hz : denI iv z = some (.i64, c) := by exact rfl) (h : a + b = c := by first | assumption | omega) (h1 : -9223372036854775808 ≤ c := by omega) (h2 : c ≤ 9223372036854775807 := by omega) : ∀ q ∈ (0, x, y, z) :: l, IbOk iv q := by
  letI := Tab.empty
  exact ibCons (ibAdd hx hy hz h h1 h2) k
theorem rSub {x y z : AV} {l : List BRow} {a b c : Int} (k : ∀ r ∈ l, IbOk iv r) (hx : denI iv x = some (.i64, a) := by exact rfl) (hy : denI iv y = some (.i64, b) := by exact rfl) (hz : denI iv z = some (.i64, c) := by exact rfl) (h : a - b = c := by first | assumption | omega) (h1 : -9223372036854775808 ≤ c := by omega) (h2 : c ≤ 9223372036854775807 := by omega) : ∀ q ∈ (1, x, y, z) :: l, IbOk iv q := by
  letI := Tab.empty
  exact ibCons (ibSub hx hy hz h h1 h2) k
theorem rMul {x y z : AV} {l : List BRow} {a b c : Int} (k : ∀ r ∈ l, IbOk iv r) (hx : denI iv x = some (.i64, a) := by exact rfl) (hy : denI iv y = some (.i64, b) := by exact rfl) (hz : denI iv z = some (.i64, c) := by exact rfl) (h : a * b = c := by first | assumption | omega) (h1 : -9223372036854775808 ≤ c := by omega) (h2 : c ≤ 9223372036854775807 := by omega) : ∀ q ∈ (2, x, y, z) :: l, IbOk iv q := by
  letI := Tab.empty
  exact ibCons (ibMul hx hy hz h h1 h2) k
theorem rQuo {x y z : AV} {l : List BRow} {a b c : Int} (k : ∀ r ∈ l, IbOk iv r) (hx : denI iv x = some (.i64, a) := by exact rfl) (hy : denI iv y = some (.i64, b) := by exact rfl) (hz : denI iv z = some (.i64, c) := by exact rfl) (h0 : b ≠ 0 := by omega) (h : a.tdiv b = c := by rw [Int.tdiv_eq_ediv_of_nonneg (by omega)]; omega) (h1 : -9223372036854775808 ≤ c := by omega) (h2 : c ≤ 9223372036854775807 := by omega) : ∀ q ∈ (3, x, y, z) :: l, IbOk iv q := by
  letI := Tab.empty
  exact ibCons (ibQuo hx hy hz h0 h h1 h2) k
theorem rRem {x y z : AV} {l : List BRow} {a b c : Int} (k : ∀ r ∈ l, IbOk iv r) (hx : denI iv x = some (.i64, a) := by exact rfl) (hy : denI iv y = some (.i64, b) := by exact rfl) (hz : denI iv z = some (.i64, c) := by exact rfl) (h0 : b ≠ 0 := by omega) (h : a.tmod b = c := by rw [Int.tmod_eq_emod_of_nonneg (by omega)]; omega) : ∀ q ∈ (4, x, y, z) :: l, IbOk iv q := by
  letI := Tab.empty
  exact ibCons (ibRem hx hy hz h0 h) k
theorem rLt {x y : AV} {l : List BRow} {a b : Int} {t : Bool} (k : ∀ r ∈ l, IbOk iv r) (hx : denI iv x = some (.i64, a) := by exact rfl) (hy : denI iv y = some (.i64, b) := by exact rfl) (h : decide (a < b) = t := by first | exact decide_eq_true (by omega) | exact decide_eq_false (by omega)) : ∀ q ∈ (11, x, y, .bool t) :: l, IbOk iv q := ibCons (ibLt hx hy h) k
theorem rLe {x y : AV} {l : List BRow} {a b : Int} {t : Bool} (k : ∀ r ∈ l, IbOk iv r) (hx : denI iv x = some (.i64, a) := by exact rfl) (hy : denI iv y = some (.i64, b) := by exact rfl) (h : decide (a ≤ b) = t := by first | exact decide_eq_true (by omega) | exact decide_eq_false (by omega)) : ∀ q ∈ (12, x, y, .bool t) :: l, IbOk iv q := ibCons (ibLe hx hy h) k
theorem rGt {x y : AV} {l : List BRow} {a b : Int} {t : Bool} (k : ∀ r ∈ l, IbOk iv r) (hx : denI iv x = some (.i64, a) := by exact rfl) (hy : denI iv y = some (.i64, b) := by exact rfl) (h : decide (a > b) = t := by first | exact decide_eq_true (by omega) | exact decide_eq_false (by omega)) : ∀ q ∈ (13, x, y, .bool t) :: l, IbOk iv q := ibCons (ibGt hx hy h) k
theorem rGe {x y : AV} {l : List BRow} {a b : Int} {t : Bool} (k : ∀ r ∈ l, IbOk iv r) (hx : denI iv x = some (.i64, a) := by exact rfl) (hy : denI iv y = some (.i64, b) := by exact rfl) (h : decide (a ≥ b) = t := by first | exact decide_eq_true (by omega) | exact decide_eq_false (by omega)) : ∀ q ∈ (14, x, y, .bool t) :: l, IbOk iv q := ibCons (ibGe hx hy h) k
theorem rEq {x y : AV} {l : List BRow} {a b : Int} {K : IntKind} {t : Bool} (k : ∀ r ∈ l, IbOk iv r) (hx : denI iv x = some (K, a) := by exact rfl) (hy : denI iv y = some (K, b) := by exact rfl) (h : decide (a = b) = t := by first | assumption | exact decide_eq_true (by omega) | exact decide_eq_false (by omega)) : ∀ q ∈ (9, x, y, .bool t) :: l, IbOk iv q := ibCons (ibEqK hx hy h) k
theorem rNe {x y : AV} {l : List BRow} {a b : Int} {K : IntKind} {t : Bool} (k : ∀ r ∈ l, IbOk iv r) (hx : denI iv x = some (K, a) := by exact rfl) (hy : denI iv y = some (K, b) := by exact rfl) (h : decide (a = b) = !t := by first | assumption | exact decide_eq_true (by omega) | exact decide_eq_false (by omega)) : ∀ q ∈ (10, x, y, .bool t) :: l, IbOk iv q := ibCons (ibNeK hx hy h) k
theorem rShl {x y z : AV} {l : List BRow} {K : IntKind} {W V : BitVec 64} {s : Nat} (k : ∀ r ∈ l, IbOk iv r) (hx : denI iv x = some (.u64, wI W) := by exact rfl) (hy : denI iv y = some (K, (s : Int)) := by exact rfl) (hz : denI iv z = some (.u64, wI V) := by exact rfl) (hs : s < 64 := by omega) (h : W <<< s = V := by exact rfl) : ∀ q ∈ (15, x, y, z) :: l, IbOk iv q := ibCons (ibShlW hx hy hz hs h) k
theorem rShr {x y z : AV} {l : List BRow} {K : IntKind} {W V : BitVec 64} {s : Nat} (k : ∀ r ∈ l, IbOk iv r) (hx : denI iv x = some (.u64, wI W) := by exact rfl) (hy : denI iv y = some (K, (s : Int)) := by exact rfl) (hz : denI iv z = some (.u64, wI V) := by exact rfl) (hs : s < 64 := by omega) (h : W >>> s = V := by exact rfl) : ∀ q ∈ (16, x, y, z) :: l, IbOk iv q := ibCons (ibShrW hx hy hz hs h) k
theorem rAnd {x y z : AV} {l : List BRow} {W U V : BitVec 64} (k : ∀ r ∈ l, IbOk iv r) (hx : denI iv x = some (.u64, wI W) := by exact rfl) (hy : denI iv y = some (.u64, wI U) := by exact rfl) (hz : denI iv z = some (.u64, wI V) := by exact rfl) (h : W &&& U = V := by exact rfl) : ∀ q ∈ (5, x, y, z) :: l, IbOk iv q := ibCons (ibAndW hx hy hz h) k
theorem rOr {x y z : AV} {l : List BRow} {W U V : BitVec 64} (k : ∀ r ∈ l, IbOk iv r) (hx : denI iv x = some (.u64, wI W) := by exact rfl) (hy : denI iv y = some (.u64, wI U) := by exact rfl) (hz : denI iv z = some (.u64, wI V) := by exact rfl) (h : W ||| U = V := by exact rfl) : ∀ q ∈ (6, x, y, z) :: l, IbOk iv q := ibCons (ibOrW hx hy hz h) k
theorem rAndNot {x y z : AV} {l : List BRow} {W U V : BitVec 64} (k : ∀ r ∈ l, IbOk iv r) (hx : denI iv x = some (.u64, wI W) := by exact rfl) (hy : denI iv y = some (.u64, wI U) := by exact rfl) (hz : denI iv z = some (.u64, wI V) := by exact rfl) (h : W &&& ~~~U = V := by exact rfl) : ∀ q ∈ (8, x, y, z) :: l, IbOk iv q := ibCons (ibAndNotW hx hy hz h) k
theorem rConv {K K' : IntKind} {x y : AV} {l : List (IntKind × AV × AV)} {n c : Int} (k : ∀ r ∈ l, IcOk' iv r) (hx : denI iv x = some (K', n) := by exact rfl) (hy : denI iv y = some (K, c) := by exact rfl) (h : K.wrap n = c := by first | assumption | exact wrap64 (by omega) (by omega)) : ∀ q ∈ (K, x, y) :: l, IcOk' iv q := icCons (icOf hx hy h) k
theorem lN {i j y n q : Nat} {K : IntKind} {e : Nat → Int} {l : List VL} (t : ∀ r ∈ l, VlOk iv vv r) (hk : iv j = (.i64, (q : Int)) := by exact rfl) (hv : vv i = numV K n e := by exact rfl) (hy : iv y = (K, e q) := by exact rfl) (h : q < n := by omega) : ∀ r ∈ (⟨i, j, 1, 0, [.oi y]⟩ : VL) :: l, VlOk iv vv r :=
  allCons ⟨by rw [hk]; exact ⟨rfl, Int.natCast_nonneg _⟩, fun m b hb => by
    have hm : m = 0 := by have := (List.getElem?_eq_some_iff.1 hb).1; simpa using this
    subst hm
    cases hb
    refine ⟨.int K (e q), ?_, .inr ⟨(K, e q), rfl, by show some (iv y) = _; rw [hy]⟩⟩
    rw [hk, hv]
    show numV K n e (((q : Int).toNat) * 1 + 0 + 0) = _
    rw [show ((q : Int).toNat) * 1 + 0 + 0 = q by simp]
    unfold numV
    rw [if_pos h]⟩ t
theorem lC {i j n q : Nat} {K : IntKind} {c : Int} {e : Nat → Int} {l : List VL} (t : ∀ r ∈ l, VlOk iv vv r) (hk : iv j = (.i64, (q : Int)) := by exact rfl) (hv : vv i = numV K n e := by exact rfl) (hy : e q = c := by first | assumption | exact rfl) (h : q < n := by omega) : ∀ r ∈ (⟨i, j, 1, 0, [.int K c]⟩ : VL) :: l, VlOk iv vv r :=
  allCons ⟨by rw [hk]; exact ⟨rfl, Int.natCast_nonneg _⟩, fun m b hb => by
    have hm : m = 0 := by have := (List.getElem?_eq_some_iff.1 hb).1; simpa using this
    subst hm
    cases hb
    refine ⟨.int K c, ?_, .inl rfl⟩
    rw [hk, hv]
    show numV K n e (((q : Int).toNat) * 1 + 0 + 0) = _
    rw [show ((q : Int).toNat) * 1 + 0 + 0 = q by simp]
    unfold numV
    rw [if_pos h, hy]⟩ t
theorem fgN {i j y n q : Nat} {K : IntKind} {e : Nat → Int} {l : List VL} (t : ∀ r ∈ l, FlOk iv F r) (hk : iv j = (.i64, (q : Int)) := by exact rfl) (hv : F.fv i = numV K n e := by exact rfl) (hy : iv y = (K, e q) := by exact rfl) (h : q < n := by omega) : ∀ r ∈ (⟨i, j, 1, 0, [.oi y]⟩ : VL) :: l, FlOk iv F r :=
  allCons (lN (vv := F.fv) (l := []) allNil hk hv hy h _ (by simp)) t
theorem sN {i j n q i' : Nat} {K : IntKind} {x : AV} {e e' : Nat → Int} {l : List VS} (t : ∀ r ∈ l, VsOk iv vv vk r) (hk : iv j = (.i64, (q : Int)) := by exact rfl) (hv : vv i = numV K n e := by exact rfl) (hv' : vv i' = numV K n e' := by exact rfl) (h1 : vk i = n := by exact rfl) (h2 : vk i' = n := by exact rfl) (hy : denI iv x = some (K, e' q) := by exact rfl) (h : q < n := by omega) (hw : ∀ m, m < n → m ≠ q → e' m = e m := by first | assumption | exact fun _ _ h => if_neg h) : ∀ r ∈ (⟨i, j, 1, 0, [x], i'⟩ : VS) :: l, VsOk iv vv vk r := by
  refine allCons ⟨by rw [hk]; exact ⟨rfl, Int.natCast_nonneg _⟩, ?_, by rw [h1, h2]; exact Nat.le_refl _, fun m a ha => ?_⟩ t
  · rw [hk, h1]; show ((q : Int).toNat) * 1 + 0 + 1 ≤ n; simp; omega
  · rw [hv'] at ha
    have eq : (iv j).2.toNat * 1 + 0 = q := by rw [hk]; simp
    obtain ⟨hm, rfl⟩ := numV_some ha
    show ∃ b, (if (iv j).2.toNat * 1 + 0 ≤ m ∧ m < (iv j).2.toNat * 1 + 0 + 1 then [x][m - ((iv j).2.toNat * 1 + 0)]? else vv i m) = some b ∧ sameAV iv b (.int K (e' m))
    rw [eq]
    by_cases c : m = q
    · subst c
      refine ⟨x, ?_, .inr ⟨(K, e' m), hy, rfl⟩⟩
      rw [if_pos ⟨Nat.le_refl _, Nat.lt_succ_self _⟩, Nat.sub_self]; rfl
    · refine ⟨.int K (e m), ?_, .inl (by rw [hw m hm c])⟩
      rw [if_neg (by omega), hv]
      unfold numV; rw [if_pos hm]
theorem nN {k i' n : Nat} {K : IntKind} {e : Nat → Int} {l : List VN} (t : ∀ r ∈ l, VnOk iv vv vk r) (hk : iv k = (.i64, (n : Int)) := by exact rfl) (hv : vv i' = numV K n e := by exact rfl) (h2 : vk i' = n := by exact rfl) (h0 : 0 < n := by omega) (hl : n < 1000000 := by omega) (he : ∀ m, m < n → e m = 0 := by first | assumption | exact fun _ _ => rfl) : ∀ r ∈ (⟨1, k, [.int K 0], i', k⟩ : VN) :: l, VnOk iv vv vk r := by
  refine allCons ⟨by rw [hk]; exact ⟨rfl, Int.natCast_nonneg _⟩, by rw [hk]; show (0 : Int) < (n : Int); omega, rfl, by rw [hk]; simpa [limit] using hl, by rw [hk, h2]; simp, fun m a ha => ?_⟩ t
  rw [hv] at ha
  obtain ⟨hm, rfl⟩ := numV_some ha
  refine ⟨by rw [hk]; simpa using hm, .int K 0, ?_, .inl (by rw [he m hm])⟩
  show [AV.int K 0][m % 1]? = _
  rw [Nat.mod_one]; rfl
theorem zN {i j k i' j' n c : Nat} {K : IntKind} {e e' : Nat → Int} {l : List VZ} (t : ∀ r ∈ l, VzOk iv vv vk r) (hj : iv j = (.i64, (n : Int)) := by exact rfl) (hk : iv k = (.i64, (c : Int)) := by exact rfl) (hj' : iv j' = (.i64, ((n + c : Nat) : Int)) := by exact rfl) (hv : vv i = numV K n e := by exact rfl) (hv' : vv i' = numV K (n + c) e' := by exact rfl) (h2 : vk i' = n + c := by exact rfl) (hl : n + c < 1000000 := by omega) (h1 : ∀ m, m < n → e' m = e m := by assumption) (h0 : ∀ m, n ≤ m → e' m = 0 := by assumption) : ∀ r ∈ (⟨i, j, 1, k, [.int K 0], i', j'⟩ : VZ) :: l, VzOk iv vv vk r := by
  refine allCons ⟨by rw [hj]; exact ⟨rfl, Int.natCast_nonneg _⟩, by rw [hk]; exact ⟨rfl, Int.natCast_nonneg _⟩, by rw [hj']; exact ⟨rfl, Int.natCast_nonneg _⟩, by rw [hj, hk, hj']; simp, by rw [hj']; show ((n + c : Nat) : Int).toNat < 1000000; rw [Int.toNat_natCast]; exact hl, by rw [hj', h2]; show n + c ≤ ((n + c : Nat) : Int).toNat * 1; rw [Int.toNat_natCast]; omega, fun m a ha => ?_⟩ t
  rw [hv'] at ha
  obtain ⟨hm, rfl⟩ := numV_some ha
  refine ⟨by rw [hj']; show m < ((n + c : Nat) : Int).toNat * 1; rw [Int.toNat_natCast]; omega, ?_⟩
  show ∃ b, (if m < (iv j).2.toNat * 1 then vv i m else [AV.int K 0][(m - (iv j).2.toNat * 1) % 1]?) = some b ∧ sameAV iv b (.int K (e' m))
  rw [hj]
  by_cases d : m < n
  · exact ⟨.int K (e m), by rw [if_pos (by simpa using d), hv]; unfold numV; rw [if_pos d], .inl (by rw [h1 m d])⟩
  · exact ⟨.int K 0, by rw [if_neg (by simpa using d), Nat.mod_one]; rfl, .inl (by rw [h0 m (by omega)])⟩
theorem aN {i j i' j' n : Nat} {K : IntKind} {x : AV} {e e' : Nat → Int} {l : List VA} (t : ∀ r ∈ l, VaOk iv vv vk r) (hj : iv j = (.i64, (n : Int)) := by exact rfl) (hj' : iv j' = (.i64, ((n + 1 : Nat) : Int)) := by exact rfl) (hv : vv i = numV K n e := by exact rfl) (hv' : vv i' = numV K (n + 1) e' := by exact rfl) (h2 : vk i' = n + 1 := by exact rfl) (hy : denI iv x = some (K, e' n) := by exact rfl) (hl : n + 1 < 1000000 := by omega) (h1 : ∀ m, m < n → e' m = e m := by first | assumption | exact fun _ _ => rfl) : ∀ r ∈ (⟨i, j, 1, [x], i', j'⟩ : VA) :: l, VaOk iv vv vk r := by
  refine allCons ⟨by rw [hj]; exact ⟨rfl, Int.natCast_nonneg _⟩, by rw [hj']; exact ⟨rfl, Int.natCast_nonneg _⟩, by rw [hj, hj']; simp, by rw [hj']; simpa [limit] using hl, by rw [hj', h2]; simp, fun m a ha => ?_⟩ t
  rw [hv'] at ha
  obtain ⟨hm, rfl⟩ := numV_some ha
  show ∃ b, (if m < (iv j).2.toNat * 1 then vv i m else [x][m - (iv j).2.toNat * 1]?) = some b ∧ sameAV iv b (.int K (e' m))
  rw [hj]
  by_cases d : m < n
  · exact ⟨.int K (e m), by rw [if_pos (by simpa using d), hv]; unfold numV; rw [if_pos d], .inl (by rw [h1 m d])⟩
  · have hmn : m = n := by omega
    subst hmn
    exact ⟨x, by rw [if_neg (by simp)]; simp, .inr ⟨(K, e' m), hy, rfl⟩⟩
theorem b0 {q k i' n : Nat} {own : Bool} {K : IntKind} {e : Nat → Int} {l : List VB} (t : ∀ r ∈ l, VbOk iv vv vk F.fv r) (hk : iv k = (.i64, (n : Int)) := by exact rfl) (hs : (bif own then vv q else F.fv q) = numV K n e := by exact rfl) (hv : vv i' = numV K n e := by exact rfl) (h2 : vk i' = n := by exact rfl) (h0 : 0 < n := by omega) (hl : n < 1000000 := by omega) : ∀ r ∈ (⟨true, 0, 0, 1, own, q, k, i', k⟩ : VB) :: l, VbOk iv vv vk F.fv r := by
  refine allCons ⟨fun h => absurd (show true = false from h) (by decide), by rw [hk]; exact ⟨rfl, Int.natCast_nonneg _⟩, by rw [hk]; show (0 : Int) < (n : Int); omega, by rw [hk]; exact ⟨rfl, Int.natCast_nonneg _⟩, by show (iv k).2.toNat = (bif true then 0 else (iv 0).2.toNat) + (iv k).2.toNat; simp, by rw [hk]; simpa [limit] using hl, by rw [hk, h2]; simp, fun m hm => ?_, fun m a ha => ?_⟩ t
  · rw [hk] at hm
    show ∃ a, (bif own then vv q else F.fv q) m = some a ∧ vplain a = true
    rw [hs]
    exact ⟨.int K (e m), by unfold numV; rw [if_pos (by simpa using hm)], rfl⟩
  · rw [hv] at ha
    obtain ⟨hm, rfl⟩ := numV_some ha
    refine ⟨by rw [hk]; simpa using hm, .int K (e m), ?_, .inl rfl⟩
    show (if m < (bif true then 0 else (iv 0).2.toNat) * 1 then vv 0 m else (bif own then vv q else F.fv q) (m - (bif true then 0 else (iv 0).2.toNat) * 1)) = _
    rw [hs]
    simp only [cond_true, Nat.zero_mul, Nat.not_lt_zero, if_false, Nat.sub_zero]
    unfold numV; rw [if_pos hm]
theorem bN {i j q k i' j' n c : Nat} {own : Bool} {K : IntKind} {e e1 e' : Nat → Int} {l : List VB} (t : ∀ r ∈ l, VbOk iv vv vk F.fv r) (hj : iv j = (.i64, (n : Int)) := by exact rfl) (hk : iv k = (.i64, (c : Int)) := by exact rfl) (hj' : iv j' = (.i64, ((n + c : Nat) : Int)) := by exact rfl) (hd : vv i = numV K n e := by exact rfl) (hs : (bif own then vv q else F.fv q) = numV K c e1 := by exact rfl) (hv : vv i' = numV K (n + c) e' := by exact rfl) (h2 : vk i' = n + c := by exact rfl) (h0 : 0 < c := by omega) (hl : n + c < 1000000 := by omega) (g1 : ∀ m, m < n → e' m = e m := by assumption) (g2 : ∀ m, m < c → e' (n + m) = e1 m := by assumption) : ∀ r ∈ (⟨false, i, j, 1, own, q, k, i', j'⟩ : VB) :: l, VbOk iv vv vk F.fv r := by
  refine allCons ⟨fun _ => by rw [hj]; exact ⟨rfl, Int.natCast_nonneg _⟩, by rw [hk]; exact ⟨rfl, Int.natCast_nonneg _⟩, by rw [hk]; show (0 : Int) < (c : Int); omega, by rw [hj']; exact ⟨rfl, Int.natCast_nonneg _⟩, by rw [hj, hk, hj']; show ((n + c : Nat) : Int).toNat = ((n : Int)).toNat + ((c : Int)).toNat; simp only [Int.toNat_natCast], by rw [hj']; show ((n + c : Nat) : Int).toNat < 1000000; rw [Int.toNat_natCast]; exact hl, by rw [hj', h2]; show n + c ≤ ((n + c : Nat) : Int).toNat * 1; rw [Int.toNat_natCast]; omega, fun m hm => ?_, fun m a ha => ?_⟩ t
  · rw [hk] at hm
    show ∃ a, (bif own then vv q else F.fv q) m = some a ∧ vplain a = true
    rw [hs]
    exact ⟨.int K (e1 m), by unfold numV; rw [if_pos (by simpa using hm)], rfl⟩
  · rw [hv] at ha
    obtain ⟨hm, rfl⟩ := numV_some ha
    refine ⟨by rw [hj']; show m < ((n + c : Nat) : Int).toNat * 1; rw [Int.toNat_natCast]; omega, .int K (e' m), ?_, .inl rfl⟩
    show (if m < (bif false then 0 else (iv j).2.toNat) * 1 then vv i m else (bif own then vv q else F.fv q) (m - (bif false then 0 else (iv j).2.toNat) * 1)) = _
    rw [hs, hd, hj]
    simp only [cond_false, Int.toNat_natCast, Nat.mul_one]
    by_cases d : m < n
    · rw [if_pos d]; unfold numV; rw [if_pos d, g1 m d]
    · rw [if_neg d]; unfold numV; rw [if_pos (by omega), ← g2 (m - n) (by omega), show n + (m - n) = m by omega]
theorem cN {n j : Nat} {l : List (Nat × Nat)} (t : ∀ p ∈ l, iv p.2 = (.i64, (p.1 : Int))) (h : iv j = (.i64, (n : Int)) := by exact rfl) : ∀ p ∈ (n, j) :: l, iv p.2 = (.i64, (p.1 : Int)) := allCons h t
end
section
variable {T T' : Tab}
theorem ipE {i j : Nat} {q : IntKind × Int} {l : IP} (k : IpOk T T' l) (h1 : T.iv i = q := by exact rfl) (h2 : T'.iv j = q := by exact rfl) : IpOk T T' ((.oi i, j) :: l) := ipCons (ipN q h1 h2) k
theorem ipZ {i j : Nat} {a b : Int} {q : IntKind} {l : IP} (k : IpOk T T' l) (h1 : T.iv i = (q, a) := by exact rfl) (h2 : T'.iv j = (q, b) := by exact rfl) (e : b = a := by omega) : IpOk T T' ((.oi i, j) :: l) := ipCons (ipN (q, a) h1 (by rw [h2, e])) k
theorem ipK' {n : Int} {j : Nat} {b : Int} {l : IP} (k : IpOk T T' l) (h2 : T'.iv j = (.i64, b) := by exact rfl) (e : b = n := by omega) : IpOk T T' ((.int .i64 n, j) :: l) := ipCons (ipC (by rw [h2, e])) k
theorem ipF {i j z : Nat} {l : IP} (k : IpOk T T' l) (h1 : T'.fb j = T.fb i := by exact rfl) (h2 : T'.fcap j = T.fcap i := by exact rfl) : IpOk T T' ((.fo i j z, j) :: l) := ipCons ⟨h1, h2⟩ k
end
end Go.X
set_option linter.unusedVariables false
set_option linter.unusedSimpArgs false
set_option linter.unusedSectionVars false
namespace Go.X
open Go.RowKit
def celV (n : Nat) (e : Nat → AV) : Nat → Option AV := fun m => if m < n then some (e m) else none
theorem celV_lt {n m : Nat} {e : Nat → AV} (h : m < n) : celV n e m = some (e m) := if_pos h
theorem celV_some {n m : Nat} {e : Nat → AV} {a : AV} (h : celV n e m = some a) : m < n ∧ a = e m := by
  unfold celV at h
  split at h
  · rename_i c; cases h; exact ⟨c, rfl⟩
  · cases h
structure Nms where
  iv : Nat → IntKind × Int
  str : Nat → ByteArray
  rv : Nat → Value
abbrev VlT (N : Nms) (vv : Nat → Nat → Option AV) (r : VL) : Prop := isLen (N.iv r.k) ∧ ∀ m b, r.l[m]? = some b → ∃ a, vv r.i ((N.iv r.k).2.toNat * r.z + r.f + m) = some a ∧ sameT N.str N.rv N.iv a b
abbrev VaT (N : Nms) (vv : Nat → Nat → Option AV) (vk : Nat → Nat) (r : VA) : Prop := isLen (N.iv r.j) ∧ isLen (N.iv r.j') ∧ (N.iv r.j').2.toNat * r.z = (N.iv r.j).2.toNat * r.z + r.src.length ∧ (N.iv r.j').2.toNat < limit ∧ vk r.i' ≤ (N.iv r.j').2.toNat * r.z ∧
    ∀ m a, vv r.i' m = some a → ∃ b, (if m < (N.iv r.j).2.toNat * r.z then vv r.i m else r.src[m - (N.iv r.j).2.toNat * r.z]?) = some b ∧ sameT N.str N.rv N.iv b a
abbrev VsT (N : Nms) (vv : Nat → Nat → Option AV) (vk : Nat → Nat) (r : VS) : Prop := isLen (N.iv r.k) ∧ (N.iv r.k).2.toNat * r.z + r.f + r.l.length ≤ vk r.i ∧ vk r.i' ≤ vk r.i ∧
    ∀ m a, vv r.i' m = some a → ∃ b, (if (N.iv r.k).2.toNat * r.z + r.f ≤ m ∧ m < (N.iv r.k).2.toNat * r.z + r.f + r.l.length then r.l[m - ((N.iv r.k).2.toNat * r.z + r.f)]? else vv r.i m) = some b ∧ sameT N.str N.rv N.iv b a
section
variable {N : Nms} {vv : Nat → Nat → Option AV} {vk : Nat → Nat}
theorem sameR {a : AV} : sameT N.str N.rv N.iv a a := .inl (.inl rfl)
theorem sameI {a b : AV} {q : IntKind × Int} (h1 : denI N.iv a = some q) (h2 : denI N.iv b = some q) : sameT N.str N.rv N.iv a b := .inl (.inr ⟨q, h1, h2⟩)
theorem sameS {a b : AV} {s : ByteArray} (h1 : denS N.str a = some s) (h2 : denS N.str b = some s) : sameT N.str N.rv N.iv a b := .inr (.inl ⟨s, h1, h2⟩)
theorem sameH' {i j : Nat} (h : N.rv i = N.rv j) : sameT N.str N.rv N.iv (.rw i) (.rw j) := .inr (.inr ⟨i, j, rfl, rfl, h⟩)
theorem gL {i j n q : Nat} {y : AV} {e : Nat → AV} {l : List VL} (t : ∀ r ∈ l, VlT N vv r) (hk : N.iv j = (.i64, (q : Int))) (hv : vv i = celV n e) (h : q < n) (hy : sameT N.str N.rv N.iv (e q) y) : ∀ r ∈ (⟨i, j, 1, 0, [y]⟩ : VL) :: l, VlT N vv r := by
  refine allCons ⟨by rw [hk]; exact ⟨rfl, Int.natCast_nonneg _⟩, fun m b hb => ?_⟩ t
  have hm : m = 0 := by
    have := (List.getElem?_eq_some_iff.1 hb).1
    simpa using this
  subst hm
  cases hb
  refine ⟨e q, ?_, hy⟩
  show vv i ((N.iv j).2.toNat * 1 + 0 + 0) = _
  rw [hk, hv, show (((IntKind.i64, (q : Int)) : IntKind × Int).2.toNat * 1 + 0 + 0) = q by show (q : Int).toNat * 1 + 0 + 0 = q; rw [Int.toNat_natCast]; omega, celV_lt h]
theorem gA {i j i' j' n : Nat} {x : AV} {e e' : Nat → AV} {l : List VA} (t : ∀ r ∈ l, VaT N vv vk r) (hj : N.iv j = (.i64, (n : Int))) (hj' : N.iv j' = (.i64, ((n + 1 : Nat) : Int))) (hv : vv i = celV n e) (hv' : vv i' = celV (n + 1) e') (h2 : vk i' = n + 1) (hl : n + 1 < 1000000)
    (h1 : ∀ m, m < n → sameT N.str N.rv N.iv (e m) (e' m)) (hy : sameT N.str N.rv N.iv x (e' n)) : ∀ r ∈ (⟨i, j, 1, [x], i', j'⟩ : VA) :: l, VaT N vv vk r := by
  refine allCons ⟨by rw [hj]; exact ⟨rfl, Int.natCast_nonneg _⟩, by rw [hj']; exact ⟨rfl, Int.natCast_nonneg _⟩, by rw [hj, hj']; simp only [Int.toNat_natCast, List.length_singleton]; omega, by rw [hj']; show ((n + 1 : Nat) : Int).toNat < 1000000; rw [Int.toNat_natCast]; exact hl, by dsimp only; rw [hj', h2]; show n + 1 ≤ ((n + 1 : Nat) : Int).toNat * 1; rw [Int.toNat_natCast]; omega, fun m a ha => ?_⟩ t
  rw [hv'] at ha
  obtain ⟨hm, rfl⟩ := celV_some ha
  show ∃ b, (if m < (N.iv j).2.toNat * 1 then vv i m else [x][m - (N.iv j).2.toNat * 1]?) = some b ∧ sameT N.str N.rv N.iv b (e' m)
  rw [hj]
  simp only [Int.toNat_natCast, Nat.mul_one]
  by_cases d : m < n
  · exact ⟨e m, by rw [if_pos d, hv, celV_lt d], h1 m d⟩
  · have hmn : m = n := by omega
    subst hmn
    exact ⟨x, by rw [if_neg d, Nat.sub_self]; rfl, hy⟩
theorem gS {i j i' n q : Nat} {x : AV} {e e' : Nat → AV} {l : List VS} (t : ∀ r ∈ l, VsT N vv vk r) (hk : N.iv j = (.i64, (q : Int))) (hv : vv i = celV n e) (hv' : vv i' = celV n e') (h1 : vk i = n) (h2 : vk i' = n) (h : q < n)
    (hy : sameT N.str N.rv N.iv x (e' q)) (hw : ∀ m, m < n → m ≠ q → sameT N.str N.rv N.iv (e m) (e' m)) : ∀ r ∈ (⟨i, j, 1, 0, [x], i'⟩ : VS) :: l, VsT N vv vk r := by
  have eq : (N.iv j).2.toNat = q := by rw [hk]; exact Int.toNat_natCast q
  refine allCons ⟨by rw [hk]; exact ⟨rfl, Int.natCast_nonneg _⟩, by show (N.iv j).2.toNat * 1 + 0 + 1 ≤ vk i; rw [eq, h1]; omega, by dsimp only; rw [h1, h2]; exact Nat.le_refl _, fun m a ha => ?_⟩ t
  rw [hv'] at ha
  obtain ⟨hm, rfl⟩ := celV_some ha
  show ∃ b, (if (N.iv j).2.toNat * 1 + 0 ≤ m ∧ m < (N.iv j).2.toNat * 1 + 0 + 1 then [x][m - ((N.iv j).2.toNat * 1 + 0)]? else vv i m) = some b ∧ sameT N.str N.rv N.iv b (e' m)
  rw [eq]
  by_cases d : m = q
  · subst d
    exact ⟨x, by rw [if_pos (by omega), show m - (m * 1 + 0) = 0 by omega]; rfl, hy⟩
  · exact ⟨e m, by rw [if_neg (by omega), hv, celV_lt hm], hw m hm d⟩
end
abbrev tabG (N : Nms) (vv : Nat → Nat → Option AV) (vk : Nat → Nat) (hp : ∀ i m a, vv i m = some a → vplain a = true) (fb : Nat → Nat × Nat) (fcap : Nat → Nat) (fv : Nat → Nat → Option AV) (gv : Nat → Nat → Option AV) (mm : Nat → List (MK × Int × Nat) × Nat) (sv : Nat → Nat × List Nat × Nat) : Tab where
  str := N.str
  ne := fun _ => []
  ok := fun _ _ h => nomatch h
  gv := gv
  iv := N.iv
  rv := N.rv
  ib := []
  ibok := fun _ h => nomatch h
  ic := []
  icok := fun _ h => nomatch h
  iu := []
  iuok := fun _ h => nomatch h
  vv := vv
  vk := vk
  vvp := hp
  va := []
  vaok := fun _ h => nomatch h
  vz := []
  vzok := fun _ h => nomatch h
  vn := []
  vnok := fun _ h => nomatch h
  fb := fb
  fcap := fcap
  fv := fv
  vc := []
  vcok := fun _ h => nomatch h
  fl := []
  flok := fun _ h => nomatch h
  vl := []
  vlok := fun _ h => nomatch h
  vs := []
  vsok := fun _ h => nomatch h
  mm := mm
  sv := sv
end Go.X
