/-
  The law NativeString: tables when a text is empty.
-/
import Derived.Test.YtkkaifeiopjjdaaGreatDoorNSS
import Derived.Test.YtkkaifeiopjjdaaGreatDoorNSP
set_option linter.unusedVariables false
set_option linter.unusedSimpArgs false
set_option linter.unusedSectionVars false
set_option maxRecDepth 1000000
set_option maxHeartbeats 0
namespace Go.Proofs.YtkkaifeiopjjdaaGreatDoor.ns
open Go.X Go.RowKit Go.Proofs
/-- which texts are empty, where the index lies -/
structure Lz (p : Pm) (za zb lo hi : Bool) : Prop where
  ha : za = decide (p.la = 0)
  hb : zb = decide (p.lb = 0)
  hlo : lo = decide (p.ix < 0)
  hhi : hi = decide ((p.la : Int) ≤ p.ix)
section
variable {p : Pm} {za zb lo hi : Bool}
theorem Lz.a1 (L : Lz p true zb lo hi) : p.la = 0 := of_decide_eq_true L.ha.symm
theorem Lz.a0 (L : Lz p false zb lo hi) : 0 < p.la := by have := of_decide_eq_false L.ha.symm; omega
theorem Lz.b1 (L : Lz p za true lo hi) : p.lb = 0 := of_decide_eq_true L.hb.symm
theorem Lz.b0 (L : Lz p za false lo hi) : 0 < p.lb := by have := of_decide_eq_false L.hb.symm; omega
theorem rowsZ_ok (h : Ar p) (L : Lz p za zb lo hi) : ∀ r ∈ rowsM lo hi, IbOk (ivL p qZ 0) r := by
  have h1 := h.s1; have h2 := h.s2; have h3 := h.s3
  have e1 := L.hlo; have e2 := L.hhi
  have w1 : p.s1 = 3 + (p.la * 2 + 7) / 8 := rfl
  have w2 : p.s2 = p.s1 + wd p.lb := rfl
  have h4 : decide (p.ix ≥ 0) = !lo := by rw [e1]; by_cases c : p.ix < 0 <;> simp [c] <;> omega
  have h5 : decide (p.ix < (p.la : Int)) = !hi := by rw [e2]; by_cases c : (p.la : Int) ≤ p.ix <;> simp [c] <;> omega
  have h6 := h.a60; have h7 := h.b60
  exact rGt (rGt (rNe (rLt (rGe (rGe (rLt (rNe (rEq (rNe (rEq (rEq (rEq (rNe (rowsL_ok h)))))))) (h := h5)) (h := e2.symm)) (h := h4)) (h := e1.symm))))
theorem in_iz (L : Lz p za zb lo hi) (hin : (lo || hi) = false) : p.ix = (p.ix.toNat : Int) ∧ p.ix.toNat < p.la := by
  have e1 := L.hlo; have e2 := L.hhi
  simp only [Bool.or_eq_false_iff] at hin
  obtain ⟨rfl, rfl⟩ := hin
  have g1 := of_decide_eq_false e1.symm
  have g2 := of_decide_eq_false e2.symm
  omega
theorem vlZ_ok (h : Ar p) (L : Lz p za zb lo hi) : ∀ r ∈ vlM (lo || hi), VlOk (ivL p qZ 0) (vvL p qZ) r := by
  cases e : lo || hi with
  | true => exact vlL_ok h
  | false =>
    obtain ⟨g1, g2⟩ := in_iz L e
    exact lN (vlL_ok h) (hk := congrArg (Prod.mk IntKind.i64) g1) (h := g2)
theorem flZ_ok (h : Ar p) (L : Lz p za zb lo hi) : ∀ r ∈ flM (lo || hi), FlOk (ivL p qZ 0) (fgL p) r := by
  cases e : lo || hi with
  | true => exact allNil
  | false =>
    obtain ⟨g1, g2⟩ := in_iz L e
    exact fgN allNil (hk := congrArg (Prod.mk IntKind.i64) g1) (h := g2)
noncomputable def icZ (za zb : Bool) : List (IntKind × AV × AV) := Bool.rec (Bool.rec [] [(.i64, .oi 14, .int .i64 0)] zb) (Bool.rec [(.i64, .oi 13, .int .i64 0)] [(.i64, .oi 13, .int .i64 0), (.i64, .oi 14, .int .i64 0), (.i64, .oi 15, .int .i64 0)] zb) za
theorem icZ_ok : ∀ za zb, Lz p za zb lo hi → ∀ r ∈ icZ za zb, IcOk' (ivL p qZ 0) r
  | false, false, _ => icNil
  | false, true, L => by have h := L.b1; exact rConv (n := (p.lb : Int)) icNil (h := by rw [h]; rfl)
  | true, false, L => by have h := L.a1; exact rConv (n := (p.la : Int)) icNil (h := by rw [h]; rfl)
  | true, true, L => by
    have h := L.a1; have h2 := L.b1
    have h3 : p.lc = 0 := by show p.la + p.lb = 0; omega
    exact rConv (n := (p.la : Int)) (rConv (n := (p.lb : Int)) (rConv (n := (p.lc : Int)) icNil (h := by rw [h3]; rfl)) (h := by rw [h2]; rfl)) (h := by rw [h]; rfl)
noncomputable def vbZ (za zb : Bool) : List VB := Bool.rec (Bool.rec [] [⟨true, 0, 0, 1, true, 3, 0, 3, 0⟩, ⟨true, 0, 0, 1, false, 0, 0, 3, 0⟩] zb) (Bool.rec [⟨true, 0, 0, 1, true, 4, 1, 5, 3⟩, ⟨true, 0, 0, 1, false, 1, 1, 5, 3⟩] [] zb) za
/-- a whole slice behind nothing, told by another name and length -/
theorem b0' {iv : Nat → IntKind × Int} {vv : Nat → Nat → Option AV} {vk : Nat → Nat} {F : Fgn} {q k i' j' n : Nat} {own : Bool} {K : IntKind} {e e' : Nat → Int} {l : List VB} (t : ∀ r ∈ l, VbOk iv vv vk F.fv r) (hk : iv k = (.i64, (n : Int))) (hj : iv j' = (.i64, (n : Int))) (hs : (bif own then vv q else F.fv q) = numV K n e) (hv : vv i' = numV K n e') (h2 : vk i' = n) (h0 : 0 < n) (hl : n < 1000000) (he : ∀ m, m < n → e' m = e m) : ∀ r ∈ (⟨true, 0, 0, 1, own, q, k, i', j'⟩ : VB) :: l, VbOk iv vv vk F.fv r := by
  refine allCons ⟨fun h => absurd (show true = false from h) (by decide), by rw [hk]; exact ⟨rfl, Int.natCast_nonneg _⟩, by rw [hk]; show (0 : Int) < (n : Int); omega, by rw [hj]; exact ⟨rfl, Int.natCast_nonneg _⟩, by rw [hj, hk]; show ((n : Nat) : Int).toNat = 0 + ((n : Nat) : Int).toNat; omega, by rw [hj]; simpa [limit] using hl, by rw [hj, h2]; simp, fun m hm => ?_, fun m a ha => ?_⟩ t
  · rw [hk] at hm
    show ∃ a, (bif own then vv q else F.fv q) m = some a ∧ vplain a = true
    rw [hs]
    exact ⟨.int K (e m), by unfold numV; rw [if_pos (by simpa using hm)], rfl⟩
  · rw [hv] at ha
    obtain ⟨hm, rfl⟩ := numV_some ha
    refine ⟨by rw [hj]; simpa using hm, .int K (e m), ?_, .inl (by rw [he m hm])⟩
    show (if m < (bif true then 0 else (iv 0).2.toNat) * 1 then vv 0 m else (bif own then vv q else F.fv q) (m - (bif true then 0 else (iv 0).2.toNat) * 1)) = _
    rw [hs]
    simp only [cond_true, Nat.zero_mul, Nat.not_lt_zero, if_false, Nat.sub_zero]
    unfold numV; rw [if_pos hm]
theorem vbZ_ok (h : Ar p) : ∀ za zb, Lz p za zb lo hi → ∀ r ∈ vbZ za zb, VbOk (ivL p qZ 0) (vvL p qZ) (vkL p qZ) (fgL p).fv r
  | false, false, _ => allNil
  | true, true, _ => allNil
  | false, true, L => by
    have h1 := h.a60; have la0 := L.a0
    exact b0 (F := fgL p) (b0 (F := fgL p) allNil)
  | true, false, L => by
    have h1 := h.b60; have lb0 := L.b0; have la := L.a1
    have e : p.lc = p.lb := by show p.la + p.lb = p.lb; omega
    have g : ∀ m, m < p.lb → p.C m = p.B m := fun m _ => by unfold Pm.C; rw [if_neg (by omega), show m - p.la = m by omega]
    exact b0' (F := fgL p) (n := p.lb) (e := p.B) (e' := p.C) (b0' (F := fgL p) (n := p.lb) (e := p.B) (e' := p.C) allNil rfl (by rw [← e]; rfl) rfl (by rw [← e]; rfl) e lb0 (by omega) g) rfl (by rw [← e]; rfl) rfl (by rw [← e]; rfl) e lb0 (by omega) g
noncomputable def vaN (za zb : Bool) : List VA := Bool.rec (Bool.rec [] [⟨3, 0, 1, [], 5, 3⟩] zb) [] za
theorem vaN_ok (h : Ar p) : ∀ za zb, Lz p za zb lo hi → ∀ r ∈ vaN za zb, VaOk (ivL p qZ 0) (vvL p qZ) (vkL p qZ) r
  | false, false, _ => allNil
  | true, true, _ => allNil
  | true, false, _ => allNil
  | false, true, L => by
    have h1 := h.a60
    have e : p.lc = p.la := by have := L.b1; show p.la + p.lb = p.la; omega
    exact aK (n := p.la) (c := 0) (e := p.A) (e' := p.C) allNil rfl (by rw [Nat.add_zero, ← e]; rfl) rfl (by rw [Nat.add_zero, ← e]; rfl) (by rw [Nat.add_zero]; exact e) (by omega) (fun m hm => if_pos hm) (fun m hm => absurd hm (Nat.not_lt_zero m))
noncomputable def trZ (za zb : Bool) : List TRow := Bool.rec (Bool.rec [] [(4, [.ostr 0, .str 0 0], .bool false), (4, [.str 0 0, .ostr 0], .bool false)] zb) (Bool.rec [(4, [.ostr 1, .str 0 0], .bool false), (4, [.str 0 0, .ostr 1], .bool false)] [] zb) za
theorem key_ne {f : Nat → Int} {n : Nat} (h : 0 < n) : key f n ≠ strOf 0 0 := fun e => by
  have h1 : (key f n).data.toList.length = (strOf 0 0).data.toList.length := by rw [e]
  rw [key_len] at h1
  have h2 : (strOf 0 0).data.toList.length = 0 := by rfl
  obtain ⟨m, rfl⟩ : ∃ m, n = m + 1 := ⟨n - 1, by omega⟩
  rw [encL_front, List.length_append, h2] at h1
  have := (encC_len (f 0)).1
  omega
theorem trZ_ok : ∀ za zb, Lz p za zb lo hi → ∀ r ∈ trZ za zb, TrOk (keyO p) (ivL p qZ 0) r.1 r.2.1 r.2.2
  | false, false, _ => txNil
  | true, true, _ => txNil
  | false, true, L => txCons (tr4 (a := keyO p 0) (b := strOf 0 0) rfl (denS_str (by decide)) ⟨fun e => (nomatch e), fun e => absurd e (key_ne L.a0)⟩) (txCons (tr4 (a := strOf 0 0) (b := keyO p 0) (denS_str (by decide)) rfl ⟨fun e => (nomatch e), fun e => absurd e.symm (key_ne L.a0)⟩) txNil)
  | true, false, L => txCons (tr4 (a := keyO p 1) (b := strOf 0 0) rfl (denS_str (by decide)) ⟨fun e => (nomatch e), fun e => absurd e (key_ne L.b0)⟩) (txCons (tr4 (a := strOf 0 0) (b := keyO p 1) (denS_str (by decide)) rfl ⟨fun e => (nomatch e), fun e => absurd e.symm (key_ne L.b0)⟩) txNil)
end
noncomputable abbrev txN (p : Pm) (za zb : Bool) {lo hi : Bool} (L : Lz p za zb lo hi) : Txts (ivL p qZ 0) where
  str := keyO p
  tr := trZ za zb
  trok := trZ_ok za zb L
noncomputable def ibN (za zb : Bool) : List BRow := Bool.rec (Bool.rec [] [(10, .oi 0, .int .i64 0, .bool true), (9, .oi 0, .int .i64 0, .bool false)] zb) (Bool.rec [(10, .int .i64 0, .oi 1, .bool true), (9, .int .i64 0, .oi 1, .bool false)] [] zb) za
theorem ibN_ok {p : Pm} {lo hi : Bool} : ∀ za zb, Lz p za zb lo hi → ∀ r ∈ ibN za zb, IbOk (ivL p qZ 0) r
  | false, false, _ => ibNil
  | true, true, _ => ibNil
  | false, true, L => by have := L.a0; exact rNe (rEq ibNil)
  | true, false, L => by have := L.b0; exact rNe (rEq ibNil)
noncomputable abbrev RN (p : Pm) (za zb lo hi : Bool) (h : Ar p) (L : Lz p za zb lo hi) : Rw (ivL p qZ 0) (vvL p qZ) (vkL p qZ) (fgL p) (txN p za zb L) where
  vvp := vvLp p qZ
  ib := ibN za zb ++ rowsM lo hi
  ibok := fun r hr => (List.mem_append.1 hr).elim (ibN_ok za zb L r) (rowsZ_ok h L r)
  ic := icZ za zb ++ icM
  icok := fun r hr => (List.mem_append.1 hr).elim (icZ_ok za zb L r) (icM_ok h r)
  vl := vlM (lo || hi)
  vlok := vlZ_ok h L
  fl := flM (lo || hi)
  flok := flZ_ok h L
  va := vaN za zb
  vaok := vaN_ok h za zb L
  vb := vbZ za zb
  vbok := vbZ_ok h za zb L
  vc := [(0, 11), (2, 12)]
  vcok := cN (cN allNil)
end Go.Proofs.YtkkaifeiopjjdaaGreatDoor.ns
