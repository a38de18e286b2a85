/-
  The law NativeBuilder: what is known where a piece is appended; rows for pieces of any kind.
-/
import Derived.Test.YtkkaifeiopjjdaaGreatDoorBDC
set_option linter.unusedVariables false
set_option linter.unusedSimpArgs false
set_option linter.unusedSectionVars false
set_option maxRecDepth 1000000
set_option maxHeartbeats 0
namespace Go.Proofs.YtkkaifeiopjjdaaGreatDoor.bd
open Go.X Go.RowKit Go.Proofs
/-- the builder's object, its text -/
structure Ok (p : P) : Prop where
  x : TxOk p.x
  b : TextOk p.x p.sb p.ix p.lt p.C
  w0 : p.x.W 0 = 0#64
  w2 : p.x.W 2 = BitVec.ofNat 64 (p.sb + 1)
/-- the text that is made is the builder's, with the piece behind it -/
structure Jn (p : P) : Prop where
  la : p.x.la = p.lt + p.pl
  xA : p.x.A = cat p.lt p.C p.A
section
variable {iv : Nat → IntKind × Int} {vv : Nat → Nat → Option AV} {vk : Nat → Nat} {F : Fgn}
/-- known numbers behind a vector -/
theorem aM {i j i' j' n c : Nat} {K : IntKind} {l0 : List AV} {e e' : Nat → Int} {l : List VA} (t : ∀ r ∈ l, VaOk iv vv vk r) (hj : iv j = (.i64, (n : Int))) (hj' : iv j' = (.i64, ((n + c : Nat) : Int))) (hv : vv i = numV K n e) (hv' : vv i' = numV K (n + c) e') (h2 : vk i' = n + c) (hc : l0.length = c) (hl : n + c < 1000000) (h1 : ∀ m, m < n → e' m = e m) (h0 : ∀ m, m < c → ∃ v, l0[m]? = some v ∧ denI iv v = some (K, e' (n + m))) : ∀ r ∈ (⟨i, j, 1, l0, i', j'⟩ : VA) :: l, VaOk iv vv vk r := by
  refine allCons ⟨by rw [hj]; exact ⟨rfl, Int.natCast_nonneg _⟩, by rw [hj']; exact ⟨rfl, Int.natCast_nonneg _⟩, by rw [hj, hj']; simp only [Int.toNat_natCast, hc]; omega, by rw [hj']; show ((n + c : Nat) : Int).toNat < 1000000; rw [Int.toNat_natCast]; exact hl, by rw [hj', h2]; simp only [Int.toNat_natCast]; omega, fun m a ha => ?_⟩ t
  rw [hv'] at ha
  obtain ⟨hm, rfl⟩ := numV_some ha
  show ∃ b, (if m < (iv j).2.toNat * 1 then vv i m else l0[m - (iv j).2.toNat * 1]?) = some b ∧ sameAV iv b (.int K (e' m))
  rw [hj]
  simp only [Int.toNat_natCast, Nat.mul_one]
  by_cases d : m < n
  · exact ⟨.int K (e m), by rw [if_pos d, hv]; unfold numV; rw [if_pos d], .inl (by rw [h1 m d])⟩
  · obtain ⟨v, v1, v2⟩ := h0 (m - n) (by omega)
    rw [show n + (m - n) = m by omega] at v2
    exact ⟨v, by rw [if_neg d]; exact v1, .inr ⟨_, v2, rfl⟩⟩
/-- a whole slice behind nothing, under another name -/
theorem b0' {q k j' i' n : Nat} {own : Bool} {K : IntKind} {e : Nat → Int} {l : List VB} (t : ∀ r ∈ l, VbOk iv vv vk F.fv r) (hk : iv k = (.i64, (n : Int))) (hj : iv j' = (.i64, (n : Int))) (hs : (bif own then vv q else F.fv q) = numV K n e) (hv : vv i' = numV K n e) (h2 : vk i' = n) (h0 : 0 < n) (hl : n < 1000000) : ∀ r ∈ (⟨true, 0, 0, 1, own, q, k, i', j'⟩ : VB) :: l, VbOk iv vv vk F.fv r := by
  refine allCons ⟨fun h => absurd (show true = false from h) (by decide), by rw [hk]; exact ⟨rfl, Int.natCast_nonneg _⟩, by rw [hk]; show (0 : Int) < (n : Int); omega, by rw [hj]; exact ⟨rfl, Int.natCast_nonneg _⟩, by rw [hj, hk]; simp, by rw [hj]; simpa [limit] using hl, by rw [hj, h2]; simp, fun m hm => ?_, fun m a ha => ?_⟩ t
  · rw [hk] at hm
    show ∃ a, (bif own then vv q else F.fv q) m = some a ∧ vplain a = true
    rw [hs]
    exact ⟨.int K (e m), by unfold numV; rw [if_pos (by simpa using hm)], rfl⟩
  · rw [hv] at ha
    obtain ⟨hm, rfl⟩ := numV_some ha
    refine ⟨by rw [hj]; simpa using hm, .int K (e m), ?_, .inl rfl⟩
    show (if m < (bif true then 0 else (iv 0).2.toNat) * 1 then vv 0 m else (bif own then vv q else F.fv q) (m - (bif true then 0 else (iv 0).2.toNat) * 1)) = _
    rw [hs]
    simp only [cond_true, Nat.zero_mul, Nat.not_lt_zero, if_false, Nat.sub_zero]
    unfold numV; rw [if_pos hm]
end
section
variable {p : P} {k : Nat}
/-- the piece behind the builder's chars -/
theorem vbJ (o : Ok p) (j : Jn p) (h0 : 0 < p.pl) {own : Bool} {q : Nat} {l : List VB} (t : ∀ r ∈ l, VbOk (ivP p k) (vvP p k) (vkP p k) (fgP p).fv r) (hs : (bif own then vvP p k q else (fgP p).fv q) = numV .u16 p.pl p.A) : ∀ r ∈ (⟨false, 50, 84, 1, own, q, 100, 5, 0⟩ : VB) :: l, VbOk (ivP p k) (vvP p k) (vkP p k) (fgP p).fv r := by
  have h1 := j.la; have h2 := o.x.a7
  exact bN (n := p.lt) (c := p.pl) (e := p.C) (e1 := p.A) (e' := cat p.lt p.C p.A) t (hj' := by show ((IntKind.i64, (p.x.la : Int)) : IntKind × Int) = _; rw [j.la]) (hs := hs) (hv := by show numV .u16 p.x.la p.x.A = _; rw [j.la, j.xA]) (h2 := j.la) (g1 := fun m hm => if_pos hm) (g2 := fun m hm => by unfold cat; rw [if_neg (by omega), show p.lt + m - p.lt = m by omega])
theorem catZ (j : Jn p) (hz : p.lt = 0) : p.x.A = p.A := by
  rw [j.xA, hz]; funext m; show (if m < 0 then _ else p.A (m - 0)) = _; rw [if_neg (Nat.not_lt_zero m), Nat.sub_zero]
/-- the piece behind nothing -/
theorem vbZ (o : Ok p) (j : Jn p) (h0 : 0 < p.pl) (hz : p.lt = 0) {own : Bool} {q : Nat} {l : List VB} (t : ∀ r ∈ l, VbOk (ivP p k) (vvP p k) (vkP p k) (fgP p).fv r) (hs : (bif own then vvP p k q else (fgP p).fv q) = numV .u16 p.pl p.A) : ∀ r ∈ (⟨true, 0, 0, 1, own, q, 100, 5, 0⟩ : VB) :: l, VbOk (ivP p k) (vvP p k) (vkP p k) (fgP p).fv r := by
  have h1 := j.la; have h2 := o.x.a7
  have e1 : p.x.la = p.pl := by omega
  exact b0' (n := p.pl) (K := .u16) (e := p.A) t rfl (by show ((IntKind.i64, (p.x.la : Int)) : IntKind × Int) = _; rw [e1]) hs (by show numV .u16 p.x.la p.x.A = _; rw [e1, catZ j hz]) e1 h0 (by omega)
/-- the builder's chars are copied -/
theorem vbC (o : Ok p) (h0 : 0 < p.lt) {l : List VB} (t : ∀ r ∈ l, VbOk (ivP p k) (vvP p k) (vkP p k) (fgP p).fv r) : ∀ r ∈ (⟨true, 0, 0, 1, true, 50, 84, 50, 84⟩ : VB) :: l, VbOk (ivP p k) (vvP p k) (vkP p k) (fgP p).fv r := by
  have h1 := o.b.n7
  exact Go.X.b0 (n := p.lt) (e := p.C) t
/-- known chars behind the builder's -/
theorem vaJ (o : Ok p) (j : Jn p) {l0 : List AV} (hc : l0.length = p.pl) (h : ∀ m, m < p.pl → ∃ v, l0[m]? = some v ∧ denI (ivP p k) v = some (.u16, p.A m)) : ∀ r ∈ ([⟨50, 84, 1, l0, 5, 0⟩] : List VA), VaOk (ivP p k) (vvP p k) (vkP p k) r := by
  have h1 := j.la; have h2 := o.x.a7
  refine aM (n := p.lt) (c := p.pl) (K := .u16) (e := p.C) (e' := cat p.lt p.C p.A) allNil rfl (by show ((IntKind.i64, (p.x.la : Int)) : IntKind × Int) = _; rw [j.la]) rfl (by show numV .u16 p.x.la p.x.A = _; rw [j.la, j.xA]) j.la hc (by omega) (fun m hm => if_pos hm) (fun m hm => ?_)
  obtain ⟨v, v1, v2⟩ := h m hm
  refine ⟨v, v1, v2.trans ?_⟩
  unfold cat
  rw [if_neg (by omega), show p.lt + m - p.lt = m by omega]
theorem vaN (o : Ok p) (j : Jn p) (hz : p.pl = 0) : ∀ r ∈ ([⟨50, 84, 1, [], 5, 0⟩] : List VA), VaOk (ivP p k) (vvP p k) (vkP p k) r :=
  vaJ o j hz.symm fun m hm => by omega
/- the builder's object is looked at, changed -/
noncomputable abbrev rowsO : List BRow := [(11, .oi 97, .oi 1, .bool true), (14, .oi 97, .int .i64 0, .bool true), (11, .oi 96, .oi 1, .bool true), (14, .oi 96, .int .i64 0, .bool true)]
noncomputable abbrev rowsP : List BRow := [(9, .oi 4, .int .i64 0, .bool false), (11, .oi 97, .oi 3, .bool true), (14, .oi 97, .int .i64 0, .bool true), (11, .oi 96, .oi 3, .bool true), (14, .oi 96, .int .i64 0, .bool true)]
theorem rowsO_ok (o : Ok p) : ∀ r ∈ rowsO, IbOk (ivP p k) r := by
  have h1 := o.x.t0
  exact rLt (rGe (rLt (rGe ibNil)))
theorem rowsP_ok (o : Ok p) : ∀ r ∈ rowsP, IbOk (ivP p k) r := by
  have h1 := o.x.t0; have h2 := t1_gt p.x
  exact rEq (rLt (rGe (rLt (rGe ibNil))))
noncomputable abbrev vlO : List VL := [⟨0, 97, 1, 0, [.int .u64 0]⟩, ⟨0, 96, 1, 0, [.oi 98]⟩]
noncomputable abbrev vlP : List VL := [⟨3, 97, 1, 0, [.int .u64 0]⟩]
theorem sb_lt (o : Ok p) : p.sb + 1 < 65536 := by
  have h1 := o.b.room; have h2 := o.x.t2; have h3 := t1_gt p.x; have h4 := wd_pos p.lt; omega
theorem vlO_ok (o : Ok p) : ∀ r ∈ vlO, VlOk (ivP p k) (vvP p k) r := by
  have h1 := o.x.t0
  have e2 : wI (p.x.W 2) = ((p.sb + 1 : Nat) : Int) := by
    rw [o.w2]; show ((BitVec.ofNat 64 (p.sb + 1)).toNat : Int) = _
    rw [BitVec.toNat_ofNat, Nat.mod_eq_of_lt (by have := sb_lt o; omega)]
  exact lC (lN allNil (n := p.x.tot) (q := 2) (e := fun m => wI (p.x.W m)) (hy := congrArg (Prod.mk IntKind.u64) e2.symm)) (n := p.x.tot) (q := 0) (e := fun m => wI (p.x.W m)) (hy := by show wI (p.x.W 0) = 0; rw [o.w0]; rfl)
theorem vlP_ok (o : Ok p) : ∀ r ∈ vlP, VlOk (ivP p k) (vvP p k) r := by
  have h1 := o.x.t0; have h2 := t1_gt p.x
  exact lC allNil (n := p.x.t1) (q := 0) (e := fun m => wI (p.x.w p.x.la m)) (hy := by show wI (p.x.w p.x.la 0) = 0; rw [w_lo p.x _ (by omega), o.w0]; rfl)
theorem vsP_ok (o : Ok p) : ∀ r ∈ ([⟨3, 96, 1, 0, [.oi 99], 70⟩] : List VS), VsOk (ivP p k) (vvP p k) (vkP p k) r := by
  have h1 := o.x.t0; have h2 := t1_gt p.x; have h3 := o.x.t2
  exact sN (n := p.x.t1) (q := 2) (K := .u64) (e := fun m => wI (p.x.w p.x.la m)) (e' := fun m => wI (p.W2 m)) allNil (hy := by
    show some ((IntKind.u64, ((p.x.tot + 1 : Nat) : Int)) : IntKind × Int) = some (.u64, wI (p.W2 2))
    rw [show p.W2 2 = BitVec.ofNat 64 (p.x.tot + 1) from if_pos rfl]
    show _ = some (IntKind.u64, ((BitVec.ofNat 64 (p.x.tot + 1)).toNat : Int))
    rw [BitVec.toNat_ofNat, Nat.mod_eq_of_lt (by omega)]) (hw := fun m _ hm => congrArg wI (if_neg hm))
theorem vcO_ok : ∀ r ∈ ([(0, 97), (2, 96)] : List (Nat × Nat)), ivP p k r.2 = (.i64, (r.1 : Int)) := cN (cN allNil)
noncomputable abbrev icO : List (IntKind × AV × AV) := [(.i64, .oi 98, .oi 81), (.i64, .oi 81, .oi 81), (.i64, .oi 4, .oi 4), (.u64, .oi 4, .oi 99)]
theorem icO_ok (o : Ok p) : ∀ r ∈ icO, IcOk' (ivP p k) r := by
  have h1 := sb_lt o; have h3 := o.x.t2; have h2 := t1_gt p.x
  exact rConv (rConv (rConv (rConv icNil (h := wrapU64 (by omega) (by omega)))))
/-- the search behind the new text -/
noncomputable abbrev KP : Hand := bs.bsHandC 4 7 0 97
theorem KP_ok {T : Tab} (o : Ok p) (e : SameTab (T0 p k) T) : @HandOk T Tryz.prog KP := by
  have h1 := o.x.c0; have h2 := o.x.c2
  exact bs.bsHandC_ok (n := p.x.cnt + 1) (p := 0) (F := p.x.S1) (by rw [← e.iv]; rfl) (S1_0 o.x) (by rw [← e.iv]; rfl) (fun m hm => ⟨.int .i64 (p.x.S1 m), by rw [← e.vv]; show numV .i64 (p.x.cnt + 1) p.x.S1 m = _; unfold numV; rw [if_pos hm], fun μ v hv => by simpa only [vrel] using hv⟩) (by omega) (by omega) (S1_inc o.x)
end
end Go.Proofs.YtkkaifeiopjjdaaGreatDoor.bd
