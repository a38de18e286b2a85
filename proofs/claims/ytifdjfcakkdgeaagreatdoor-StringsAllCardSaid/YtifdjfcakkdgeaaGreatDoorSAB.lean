/-
  The law StringsAll: a text is made: rows.
-/
import Derived.Test.YtifdjfcakkdgeaaGreatDoorSAA
set_option linter.unusedVariables false
set_option linter.unusedSimpArgs false
set_option linter.unusedSectionVars false
set_option maxRecDepth 1000000
set_option maxHeartbeats 0
namespace Go.Proofs.YtifdjfcakkdgeaaGreatDoor.sa
open Go.X Go.RowKit Go.Proofs
noncomputable abbrev rowsT : List BRow := [(11, .oi 0, .int .i64 0, .bool false), (13, .oi 0, .int .i64 2147483647, .bool false),
  (2, .oi 0, .int .i64 2, .oi 8), (0, .oi 8, .int .i64 8, .oi 9), (1, .oi 9, .int .i64 1, .oi 10), (3, .oi 10, .int .i64 8, .oi 11), (0, .int .i64 3, .oi 11, .oi 5),
  (1, .int .i64 2048, .oi 1, .oi 6)]
noncomputable abbrev rowsA : List BRow := [(11, .oi 1, .oi 3, .bool true), (14, .oi 1, .int .i64 0, .bool true), (0, .oi 1, .int .i64 1, .oi 4), (13, .oi 4, .int .i64 0, .bool true), (0, .oi 4, .int .i64 1, .oi 12), (11, .oi 12, .oi 3, .bool true), (14, .oi 12, .int .i64 0, .bool true)]
theorem catR {α : Type} {a b : List α} {P : α → Prop} (h1 : ∀ r ∈ a, P r) (h2 : ∀ r ∈ b, P r) : ∀ r ∈ a ++ b, P r := fun r hr => (List.mem_append.1 hr).elim (h1 r) (h2 r)
section
variable {p : Pm} {k : Nat}
theorem rowsT_ok (h : Ar p) : ∀ r ∈ rowsT, IbOk (ivP p k) r := by
  have h1 := h.a60; have h2 := h.t2
  have w1 : wd p.la = 3 + (p.la * 2 + 7) / 8 := rfl
  exact rLt (rGt (rMul (rAdd (rSub (rQuo (rAdd (rSub ibNil)))))))
theorem t1_gt (p : Pm) : p.tot + 3 ≤ p.t1 := by have := wd_pos p.la; unfold Pm.t1; omega
theorem rowsA_ok (h : Ar p) (hf : p.t1 ≤ 2048) : ∀ r ∈ rowsA, IbOk (ivP p k) r := by
  have h1 := t1_gt p
  exact rLt (rGe (rAdd (rGt (rAdd (rLt (rGe ibNil))))))
theorem wrapU64 {n : Int} (h0 : 0 ≤ n) (h1 : n < 65536) : IntKind.u64.wrap n = n := by
  unfold IntKind.wrap IntKind.bits IntKind.signed
  simp only [Bool.false_and]
  exact Int.emod_eq_of_lt h0 (by omega)
theorem icT_ok (h : Ar p) : ∀ r ∈ ([(.u64, .oi 0, .oi 13)] : List (IntKind × AV × AV)), IcOk' (ivP p k) r := by
  have h1 := h.a60
  exact rConv icNil (h := wrapU64 (by omega) (by omega))
theorem S1_tot (p : Pm) : p.S1 p.cnt = (p.tot : Int) := if_neg (Nat.lt_irrefl _)
theorem vaS_ok (h : Ar p) {l : List VA} (t : ∀ r ∈ l, VaOk (ivP p k) (vvP p k) (vkP p k) r) : ∀ r ∈ (⟨1, 2, 1, [.oi 1], 4, 7⟩ : VA) :: l, VaOk (ivP p k) (vvP p k) (vkP p k) r := by
  have h1 := h.c2
  exact aN (K := .i64) (n := p.cnt) (e := p.S) (e' := p.S1) (x := .oi 1) t (hy := by show some ((IntKind.i64, (p.tot : Int)) : IntKind × Int) = some (.i64, p.S1 p.cnt); rw [S1_tot]) (h1 := fun m hm => if_pos hm)
theorem vzT_ok (h : Ar p) (hf : p.t1 ≤ 2048) : ∀ r ∈ ([⟨0, 1, 1, 5, [.int .u64 0], 26, 3⟩] : List VZ), VzOk (ivP p k) (vvP p k) (vkP p k) r :=
  zN (n := p.tot) (c := wd p.la) (e := fun m => wI (p.W m)) (e' := fun m => wI (p.WZ m)) allNil (hl := by show p.t1 < 1000000; omega) (h1 := fun m hm => congrArg wI (if_pos hm)) (h0 := fun m hm => congrArg wI (if_neg (Nat.not_lt.2 hm)))
theorem WY0 (p : Pm) : wI (p.WY p.tot) = 0 := by
  show wI (if p.tot < p.tot then p.W p.tot else 0#64) = 0
  rw [if_neg (Nat.lt_irrefl _)]; rfl
theorem vsT_ok (h : Ar p) {j q : Nat} (hj : ivP p k q = (.i64, (p.tot : Int)) := by exact rfl) (hq : ivP p k j = (.i64, ((p.tot + 2 : Nat) : Int)) := by exact rfl) : ∀ r ∈ ([⟨26, q, 1, 0, [.int .u64 0], 27⟩, ⟨27, j, 1, 0, [.oi 13], 28⟩] : List VS), VsOk (ivP p k) (vvP p k) (vkP p k) r := by
  have h1 := t1_gt p; have h2 := h.a60
  have n0 := w0_n p (by omega) 0
  have r1 := sN (K := .u64) (n := p.t1) (q := p.tot + 2) (i := 27) (j := j) (i' := 28) (x := .oi 13) (e := fun m => wI (p.WY m)) (e' := fun m => wI (p.w 0 m)) (iv := ivP p k) (vv := vvP p k) (vk := vkP p k) allNil (hk := hq) (hy := congrArg (fun z => some (IntKind.u64, z)) n0.symm) (hw := fun m _ hm => congrArg wI (w0_ne p m hm))
  exact sN (K := .u64) (n := p.t1) (q := p.tot) (i := 26) (j := q) (i' := 27) (x := .int .u64 0) (e := fun m => wI (p.WZ m)) (e' := fun m => wI (p.WY m)) r1 (hk := hj) (hy := by show some ((IntKind.u64, (0 : Int)) : IntKind × Int) = some (.u64, wI (p.WY p.tot)); rw [WY0]) (hw := fun m _ hm => rfl)
end
/-- the table of a text that is made: it has chars and fits -/
noncomputable abbrev RT (p : Pm) (h : Ar p) (hf : p.t1 ≤ 2048) : Rw (ivP p 0) (vvP p 0) (vkP p 0) (fgP p) (txP p 0) where
  vvp := vvPp p 0
  ib := rowsT ++ ((13, .oi 5, .oi 6, .bool false) :: rowsA)
  ibok := by
    have h1 : p.t1 = p.tot + wd p.la := rfl
    exact catR (rowsT_ok h) (rGt (rowsA_ok h hf))
  ic := [(.u64, .oi 0, .oi 13)]
  icok := icT_ok h
  va := [⟨1, 2, 1, [.oi 1], 4, 7⟩]
  vaok := vaS_ok h allNil
  vz := [⟨0, 1, 1, 5, [.int .u64 0], 26, 3⟩]
  vzok := vzT_ok h hf
  vs := [⟨26, 1, 1, 0, [.int .u64 0], 27⟩, ⟨27, 12, 1, 0, [.oi 13], 28⟩]
  vsok := vsT_ok h
/-- the first text of all -/
noncomputable abbrev rowsT0 : List BRow := [(11, .oi 0, .int .i64 0, .bool false), (13, .oi 0, .int .i64 2147483647, .bool false),
  (2, .oi 0, .int .i64 2, .oi 8), (0, .oi 8, .int .i64 8, .oi 9), (1, .oi 9, .int .i64 1, .oi 10), (3, .oi 10, .int .i64 8, .oi 11), (0, .int .i64 3, .oi 11, .oi 5), (13, .oi 5, .int .i64 2048, .bool false), (11, .oi 97, .oi 5, .bool true), (14, .oi 97, .int .i64 0, .bool true)]
noncomputable abbrev RT0 (p : Pm) (h : Ar p) (hf : p.t1 ≤ 2048) (h0 : 0 < p.la) (ht : p.tot = 0) : Rw (ivP p 0) (vvP p 0) (vkP p 0) (fgP p) (txP p 0) where
  vvp := vvPp p 0
  ib := rowsT0 ++ rowsA
  ibok := by
    have h1 : p.t1 = p.tot + wd p.la := rfl
    have h2 := h.a60
    have w1 : wd p.la = 3 + (p.la * 2 + 7) / 8 := rfl
    exact catR (rLt (rGt (rMul (rAdd (rSub (rQuo (rAdd (rGt (rLt (rGe ibNil)))))))))) (rowsA_ok h hf)
  ic := [(.u64, .oi 0, .oi 13)]
  icok := icT_ok h
  vc := [(0, 97), (2, 96)]
  vcok := cN (cN allNil)
  vn := [⟨1, 5, [.int .u64 0], 26, 5⟩]
  vnok := by
    have h1 : p.t1 = p.tot + wd p.la := rfl
    have e : p.t1 = wd p.la := by omega
    have w1 := wd_pos p.la
    exact nN (n := wd p.la) (e := fun m => wI (p.WZ m)) allNil (hv := by show numV .u64 p.t1 _ = _; rw [e]) (h2 := e) (he := fun m _ => by show wI (if m < p.tot then p.W m else 0#64) = 0; rw [if_neg (by omega)]; rfl)
  vs := [⟨26, 97, 1, 0, [.int .u64 0], 27⟩, ⟨27, 12, 1, 0, [.oi 13], 28⟩]
  vsok := vsT_ok h (hj := by show ((IntKind.i64, ((0 : Nat) : Int)) : IntKind × Int) = _; rw [ht])
theorem t1z {p : Pm} (hz : p.la = 0) : p.t1 = p.tot + 3 := by unfold Pm.t1; rw [hz]; rfl
/-- known numbers behind a vector -/
theorem aK {iv : Nat → IntKind × Int} {vv : Nat → Nat → Option AV} {vk : Nat → Nat} {i j i' j' n c : Nat} {K : IntKind} {l : List VA} {e e' : Nat → Int} (t : ∀ r ∈ l, VaOk iv vv vk r) (hj : iv j = (.i64, (n : Int))) (hj' : iv j' = (.i64, ((n + c : Nat) : Int))) (hv : vv i = numV K n e) (hv' : vv i' = numV K (n + c) e') (h2 : vk i' = n + c) (hl : n + c < 1000000) (h1 : ∀ m, m < n → e' m = e m) (h0 : ∀ m, m < c → e' (n + m) = 0) : ∀ r ∈ (⟨i, j, 1, List.replicate c (.int K 0), i', j'⟩ : VA) :: l, VaOk iv vv vk r := by
  refine allCons ⟨by rw [hj]; exact ⟨rfl, Int.natCast_nonneg _⟩, by rw [hj']; exact ⟨rfl, Int.natCast_nonneg _⟩, by rw [hj, hj']; simp only [Int.toNat_natCast, List.length_replicate]; omega, by rw [hj']; show ((n + c : Nat) : Int).toNat < 1000000; rw [Int.toNat_natCast]; exact hl, by rw [hj', h2]; simp only [Int.toNat_natCast]; omega, fun m a ha => ?_⟩ t
  rw [hv'] at ha
  obtain ⟨hm, rfl⟩ := numV_some ha
  show ∃ b, (if m < (iv j).2.toNat * 1 then vv i m else (List.replicate c (AV.int K 0))[m - (iv j).2.toNat * 1]?) = some b ∧ sameAV iv b (.int K (e' m))
  rw [hj]
  simp only [Int.toNat_natCast, Nat.mul_one]
  by_cases d : m < n
  · exact ⟨.int K (e m), by rw [if_pos d, hv]; unfold numV; rw [if_pos d], .inl (by rw [h1 m d])⟩
  · refine ⟨.int K 0, by rw [if_neg d, List.getElem?_replicate, if_pos (by omega)], .inl ?_⟩
    have := h0 (m - n) (by omega)
    rw [show n + (m - n) = m by omega] at this
    rw [this]
section
variable {p : Pm} {k : Nat}
theorem vaZ_ok (h : Ar p) (hf : p.t1 ≤ 2048) (hz : p.la = 0) : ∀ r ∈ ([⟨0, 1, 1, [.int .u64 0, .int .u64 0, .int .u64 0], 26, 3⟩, ⟨1, 2, 1, [.oi 1], 4, 7⟩] : List VA), VaOk (ivP p k) (vvP p k) (vkP p k) r := by
  have e := t1z hz
  exact aK (n := p.tot) (c := 3) (K := .u64) (e := fun m => wI (p.W m)) (e' := fun m => wI (p.WZ m)) (vaS_ok h allNil) rfl (by rw [← e]; rfl) rfl (by rw [← e]; rfl) (by rw [← e]; rfl) (by omega) (fun m hm => congrArg wI (if_pos hm)) (fun m hm => congrArg wI (if_neg (by omega)))
theorem vsZ_ok (h : Ar p) (hz : p.la = 0) : ∀ r ∈ ([⟨26, 1, 1, 0, [.int .u64 0], 27⟩, ⟨27, 12, 1, 0, [.int .u64 0], 3⟩] : List VS), VsOk (ivP p k) (vvP p k) (vkP p k) r := by
  have h1 := t1_gt p; have h2 := h.a60
  have n0 := w0_n p (by omega) p.la
  have y1 : ∀ m, p.w p.la m = p.WY m := fun m => by rw [hz]; by_cases c : m = p.tot + 2
                                                    · rw [c]
                                                      show wn p.tot p.la p.A p.W 0 (p.tot + 2) = if p.tot + 2 < p.tot then p.W (p.tot + 2) else 0#64
                                                      rw [wn_hi, if_neg (by omega), hz]; rfl
                                                    · exact w0_ne p m c
  have r1 := sN (K := .u64) (n := p.t1) (q := p.tot + 2) (i := 27) (j := 12) (i' := 3) (x := .int .u64 0) (e := fun m => wI (p.WY m)) (e' := fun m => wI (p.w p.la m)) (iv := ivP p k) (vv := vvP p k) (vk := vkP p k) allNil (hy := by show some ((IntKind.u64, (0 : Int)) : IntKind × Int) = some (.u64, wI (p.w p.la (p.tot + 2))); rw [n0, hz]; rfl) (hw := fun m _ hm => congrArg wI (y1 m))
  exact sN (K := .u64) (n := p.t1) (q := p.tot) (i := 26) (j := 1) (i' := 27) (x := .int .u64 0) (e := fun m => wI (p.WZ m)) (e' := fun m => wI (p.WY m)) r1 (hy := by show some ((IntKind.u64, (0 : Int)) : IntKind × Int) = some (.u64, wI (p.WY p.tot)); rw [WY0]) (hw := fun m _ hm => rfl)
end
/-- it is empty and fits -/
noncomputable abbrev RTZ (p : Pm) (h : Ar p) (hf : p.t1 ≤ 2048) (hz : p.la = 0) : Rw (ivP p 0) (vvP p 0) (vkP p 0) (fgP p) (txP p 0) where
  vvp := vvPp p 0
  ib := (1, .int .i64 2048, .oi 1, .oi 6) :: (13, .int .i64 3, .oi 6, .bool false) :: (0, .oi 1, .int .i64 3, .oi 3) :: rowsA
  ibok := by
    have h1 := t1z hz; have h2 := h.t2
    exact rSub (rGt (rAdd (rowsA_ok h hf)))
  va := [⟨0, 1, 1, [.int .u64 0, .int .u64 0, .int .u64 0], 26, 3⟩, ⟨1, 2, 1, [.oi 1], 4, 7⟩]
  vaok := vaZ_ok h hf hz
  vs := [⟨26, 1, 1, 0, [.int .u64 0], 27⟩, ⟨27, 12, 1, 0, [.int .u64 0], 3⟩]
  vsok := vsZ_ok h hz
end Go.Proofs.YtifdjfcakkdgeaaGreatDoor.sa
