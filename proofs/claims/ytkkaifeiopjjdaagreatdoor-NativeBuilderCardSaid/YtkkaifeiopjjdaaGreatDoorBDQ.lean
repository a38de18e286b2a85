/-
  The law NativeBuilder: its loop, by induction.
-/
import Derived.Test.YtkkaifeiopjjdaaGreatDoorBDO2
set_option linter.unusedVariables false
set_option linter.unusedSimpArgs false
set_option linter.unusedSectionVars false
set_option maxRecDepth 1000000
set_option maxHeartbeats 0
namespace Go.Proofs.YtkkaifeiopjjdaaGreatDoor.bd
open Go.X Go.RowKit Go.Proofs
/-- how many words there may be -/
def bT : Nat → Nat
  | 0 => 6
  | i + 1 => bT i + 18 + wd (81 * i + 60) + wd (81 * i + 81)
theorem bT_8 : bT 8 = 1620 := by decide
theorem bT_le : ∀ i j, i ≤ j → bT i ≤ bT j
  | i, 0, h => by obtain rfl : i = 0 := by omega
                  exact Nat.le_refl _
  | i, j + 1, h => by
    by_cases e : i = j + 1
    · rw [e]; exact Nat.le_refl _
    · have h1 := bT_le i j (by omega)
      show bT i ≤ bT j + 18 + wd (81 * j + 60) + wd (81 * j + 81)
      omega
theorem wd_mono {a b : Nat} (h : a ≤ b) : wd a ≤ wd b := by unfold wd; omega
structure ElOk (e : El) : Prop where
  a60 : e.la ≤ 60
  hA : ∀ m, 0 ≤ e.A m ∧ e.A m < 65536
  k4 : e.ek < 4
  k0 : e.ek = 0 → 0 < e.la
  k1 : e.ek = 1 → e.la = 60 ∧ 60 < e.fa ∧ e.fa < 9223372036854775808
  k2 : 2 ≤ e.ek → e.la = 0
structure UOk (u : Ue) : Prop where
  el : ∀ j, ElOk (u.us j)
  nn : ∀ j, -9223372036854775808 ≤ u.ns j ∧ u.ns j ≤ 9223372036854775807
structure Cr (c : Co) : Prop where
  s0 : c.S 0 = 0
  sm : ∀ m, m < c.cnt → c.S m < c.tot
  inc : ∀ m k, m < k → k < c.cnt → c.S m < c.S k
  w0 : c.W 0 = 0#64
  w2 : c.W 2 = BitVec.ofNat 64 (c.sb + 1)
  at_ : At c.W c.sb c.lt c.C
  il : c.ix < c.cnt
  ix : c.S c.ix = (c.sb : Int)
  s3 : 3 ≤ c.sb
  room : c.sb + wd c.lt ≤ c.tot
  hC : ∀ m, 0 ≤ c.C m ∧ c.C m < 65536
structure Bd (c : Co) (l m k : Nat) : Prop where
  lt : c.lt ≤ l
  tot : c.tot ≤ m
  cnt : c.cnt ≤ k
section
variable {u : Ue} {c : Co} {i l m k : Nat}
theorem Cr.tx (r : Cr c) (b : Bd c l m k) (hk : k ≤ 60) {n : Nat} {F : Nat → Int} (hn : n ≤ 700) (hm : m + wd n ≤ 2048) (hF : ∀ m, 0 ≤ F m ∧ F m < 65536) : TxOk ⟨n, F, c.tot, c.W, c.cnt, c.S⟩ where
  a7 := hn
  hA := hF
  t0 := by have h1 := r.s3; have h2 := r.room; show 3 ≤ c.tot; omega
  t2 := by have h1 := b.tot; show c.tot + wd n ≤ 2048; omega
  c0 := by have h1 := r.il; show 1 ≤ c.cnt; omega
  c2 := by have h1 := b.cnt; show c.cnt ≤ 60; omega
  s0 := r.s0
  sm := r.sm
  inc := r.inc
theorem Cr.cT (r : Cr c) (h : TxOk (pA1 u c i).x) : Cr (bd.cT u c i) where
  s0 := S1_0 h
  sm := S1_lt h
  inc := S1_inc h
  w0 := by
    have h0 := h.t0
    show (pA1 u c i).x.w _ 0 = 0#64
    rw [w_lo _ _ (by omega)]; exact r.w0
  w2 := by
    have h0 := h.t0
    show (pA1 u c i).x.w _ 2 = _
    rw [w_lo _ _ (by omega)]; exact r.w2
  at_ := At.keep (p := (pA1 u c i).x) r.at_ r.room _
  il := by have h1 := r.il; show c.ix < c.cnt + 1; omega
  ix := (S1_lo (p := (pA1 u c i).x) r.il).trans r.ix
  s3 := r.s3
  room := by have h1 := r.room; have h2 := t1_gt (pA1 u c i).x; have e : (pA1 u c i).x.tot = c.tot := rfl; show c.sb + wd c.lt ≤ (pA1 u c i).x.t1; omega
  hC := r.hC
theorem cat_b {n : Nat} {f g : Nat → Int} (hf : ∀ m, 0 ≤ f m ∧ f m < 65536) (hg : ∀ m, 0 ≤ g m ∧ g m < 65536) (m : Nat) : 0 ≤ cat n f g m ∧ cat n f g m < 65536 := by
  unfold cat
  split
  · exact hf m
  · exact hg _
theorem Cr.bld (r : Cr c) {x : Tx} (hW : x.W = c.W) (hS : x.S = c.S) (ht : x.tot = c.tot) (hc : x.cnt = c.cnt) (h7 : c.lt ≤ 700) : TextOk x c.sb c.ix c.lt c.C where
  at_ := by rw [hW]; exact r.at_
  il := by rw [hc]; exact r.il
  ix := by rw [hS]; exact r.ix
  s3 := r.s3
  room := by rw [ht]; exact r.room
  n7 := h7
  hF := r.hC
theorem Cr.ok2 (r : Cr (bd.cT u c i)) (h : TxOk (pA2 u c i).x) (h7 : c.lt ≤ 700) : Ok (pA2 u c i) where
  x := h
  b := r.bld rfl rfl rfl rfl h7
  w0 := r.w0
  w2 := r.w2
theorem Cr.okB (r : Cr c) (h : TxOk (pB u c i).x) (h7 : c.lt ≤ 700) : Ok (pB u c i) where
  x := h
  b := r.bld rfl rfl rfl rfl h7
  w0 := r.w0
  w2 := r.w2
theorem bA_ok (h : TxOk (pA1 u c i).x) (o : UOk u) : TextOk (pA2 u c i).x (pA2 u c i).sa (pA2 u c i).ia (pA2 u c i).pl (pA2 u c i).A where
  at_ := at_new h
  il := Nat.lt_succ_self _
  ix := S1_tot (pA1 u c i).x
  s3 := h.t0
  room := Nat.le_refl _
  n7 := h.a7
  hF := h.hA
theorem cQ_ok {p : P} (o : Ok p) : Cr (cQ p) where
  s0 := S1_0 o.x
  sm := S1_lt o.x
  inc := S1_inc o.x
  w0 := show (if (0 : Nat) = 2 then BitVec.ofNat 64 (p.x.tot + 1) else p.x.w p.x.la 0) = 0#64 from (if_neg (by decide)).trans ((w_lo p.x _ (by have := o.x.t0; omega)).trans o.w0)
  w2 := show (if (2 : Nat) = 2 then BitVec.ofNat 64 (p.x.tot + 1) else p.x.w p.x.la 2) = BitVec.ofNat 64 (p.x.tot + 1) from if_pos rfl
  at_ := (at_new o.x).put o.x.t0
  il := Nat.lt_succ_self _
  ix := S1_tot p.x
  s3 := o.x.t0
  room := Nat.le_refl _
  hC := o.x.hA
theorem pC_b (o : UOk u) (m : Nat) : 0 ≤ pC u i m ∧ pC u i m < 65536 := by
  unfold pC
  split
  · exact ⟨stx.Cn_lo _ _, by have := stx.Cn_hi (pM u i) m; omega⟩
  · split
    · show 0 ≤ IntKind.u16.wrap _ ∧ IntKind.u16.wrap _ < 65536
      unfold IntKind.wrap IntKind.bits IntKind.signed
      simp only [Bool.false_and]
      exact ⟨Int.emod_nonneg _ (by decide), Int.emod_lt_of_pos _ (by decide)⟩
    · have key : ∀ (l : List Int), (∀ x ∈ l, 0 ≤ x ∧ x < 65536) → 0 ≤ l.getD m 0 ∧ l.getD m 0 < 65536 := fun l hl => by
        rw [List.getD_eq_getElem?_getD]
        cases e : l[m]? with
        | none => exact ⟨by decide, by decide⟩
        | some x => exact hl x (List.mem_of_getElem? e)
      split
      · exact key _ (by decide)
      · exact key _ (by decide)
theorem i32_lo (n : Int) : -2147483648 ≤ IntKind.i32.wrap n ∧ IntKind.i32.wrap n ≤ 2147483647 := by
  simp only [IntKind.wrap, IntKind.bits, IntKind.signed, Bool.true_and, decide_eq_true_eq, show (2 : Int) ^ (32 - 1) = 2147483648 from rfl, show (2 : Int) ^ 32 = 4294967296 from rfl]
  by_cases h : n % 4294967296 ≥ 2147483648
  · rw [if_pos h]; omega
  · rw [if_neg h]; omega
theorem i32_id {n : Int} (h0 : -2147483648 ≤ n) (h1 : n ≤ 2147483647) : IntKind.i32.wrap n = n := by
  simp only [IntKind.wrap, IntKind.bits, IntKind.signed, Bool.true_and, decide_eq_true_eq, show (2 : Int) ^ (32 - 1) = 2147483648 from rfl, show (2 : Int) ^ 32 = 4294967296 from rfl]
  by_cases h : n % 4294967296 ≥ 2147483648
  · rw [if_pos h]; omega
  · rw [if_neg h]; omega
theorem odd_or (n : Int) : odd n = 0 ∨ odd n = 1 := by
  have h : (BitVec.ofInt IntKind.i64.bits n &&& BitVec.ofInt IntKind.i64.bits 1).toNat ≤ 1 := by
    rw [BitVec.toNat_and]
    exact Nat.and_le_right
  unfold odd
  generalize (BitVec.ofInt IntKind.i64.bits n &&& BitVec.ofInt IntKind.i64.bits 1).toNat = x at h ⊢
  have : x = 0 ∨ x = 1 := by omega
  rcases this with rfl | rfl
  · exact .inl (by decide)
  · exact .inr (by decide)
end
end Go.Proofs.YtkkaifeiopjjdaaGreatDoor.bd
