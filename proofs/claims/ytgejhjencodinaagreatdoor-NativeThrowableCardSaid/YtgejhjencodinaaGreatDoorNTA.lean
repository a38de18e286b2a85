/-
  What the law NativeThrowable gives: its table.
-/
import Derived.Test.YtgejhjencodinaaGreatDoorNTL
import Derived.Test.YtgejhjencodinaaGreatDoorNTT0
import Derived.Test.YtgejhjencodinaaGreatDoorXN3
set_option linter.unusedSectionVars false
set_option linter.unusedVariables false
set_option maxRecDepth 1000000
set_option maxHeartbeats 0
namespace Go.Proofs.YtgejhjencodinaaGreatDoor.nt
open Go.X Go.RowKit Go.X.chars
abbrev ivT (len kind : Int) (U : Nat → Int) : Nat → IntKind × Int
  | 0 => (.i64, len)
  | 1 => (.i64, kind)
  | 2 => (.i64, kind.tmod 3)
  | 3 => (.i64, kind.tmod 3 + 3)
  | 4 => (.i64, 60)
  | m + 5 => ivC U (m + 5)
theorem ivT_ge {len kind : Int} {U : Nat → Int} : ∀ m, 100 ≤ m → ivT len kind U m = ivC U m
  | m + 5, _ => rfl
/-- what comes in -/
structure Pm where
  len : Int
  kind : Int
  U : Nat → Int
  b : Nat
  o : Nat
  cap : Nat
  A : Nat
abbrev Pm.F (p : Pm) : Fgn := { fb := fun _ => (p.b, p.o), fcap := fun _ => p.cap, fv := fun i m => match i with | 0 => numV .u16 p.A p.U m | _ => none }
def rFl : Nat → List VL
  | 0 => []
  | k + 1 => ⟨0, N (k / 4) (k % 4) 0, 1, 0, [.oi (N (k / 4) (k % 4) 1)]⟩ :: rFl k
theorem rFl_ok (p : Pm) : ∀ k, k ≤ p.A → ∀ r ∈ rFl k, FlOk (ivT p.len p.kind p.U) p.F r
  | 0, _ => fun r h => by simp [rFl] at h
  | k + 1, hA => by
    have hk : 4 * (k / 4) + k % 4 = k := by omega
    have h4 : k % 4 < 4 := by omega
    have key : FlOk (ivT p.len p.kind p.U) p.F ⟨0, N (k / 4) (k % 4) 0, 1, 0, [.oi (N (k / 4) (k % 4) 1)]⟩ := by
      refine flN (K := .u16) (k := k) (A := p.A) (e := p.U) (show ivT p.len p.kind p.U (N (k / 4) (k % 4) 0) = (.i64, (k : Int)) by rw [ivT_ge _ (by unfold N; omega), ivC_at p.U _ _ 0 h4 (by decide)]; simp only [cell]; rw [hk]) rfl (show k * 1 + 0 + 1 ≤ p.A by omega) ?_
      intro m b hb
      have hm : m = 0 := by
        have := (List.getElem?_eq_some_iff.1 hb).1
        simpa using this
      subst hm
      simp at hb
      subst hb
      rw [at_ (iv := ivT p.len p.kind p.U) ivT_ge (k / 4) (k % 4) 1 h4 (by decide)]
      simp [cell, hk]
    unfold rFl
    exact allC key (rFl_ok p k (by omega))
structure OkS (p : Pm) (L c : Nat) : Prop where
  hl : p.len = (L : Int)
  h60 : L ≤ 60
  hU : ∀ k, 0 ≤ p.U k ∧ p.U k < 65536
  hc : (p.kind.tmod 3 + 3).tmod 3 = (c : Int)
  hA : L ≤ p.A
structure OkL (p : Pm) (c : Nat) : Prop where
  hl : 60 < p.len
  h62 : p.len ≤ 9223372036854775807
  hU : ∀ k, 0 ≤ p.U k ∧ p.U k < 65536
  hc : (p.kind.tmod 3 + 3).tmod 3 = (c : Int)
  hA : 60 ≤ p.A
def kR (c : Nat) : List BRow := [(4, .oi 1, .int .i64 3, .oi 2), (0, .oi 2, .int .i64 3, .oi 3), (4, .oi 3, .int .i64 3, .int .i64 (c : Int))]
theorem kR_ok {len kind : Int} {U : Nat → Int} {c : Nat} (hc : (kind.tmod 3 + 3).tmod 3 = (c : Int)) : ∀ r ∈ kR c, IbOk (ivT len kind U) r := by
  letI := Tab.empty
  have h1 : -3 < kind.tmod 3 := tmod_lo (by decide)
  have h2 : kind.tmod 3 < 3 := tmod_hi (by decide)
  have h3 : -3 < (kind.tmod 3 + 3).tmod 3 := tmod_lo (by decide)
  have h4 : (kind.tmod 3 + 3).tmod 3 < 3 := tmod_hi (by decide)
  exact ibCons (ibRem (a := kind) (b := 3) (c := kind.tmod 3) rfl rfl rfl (by decide) rfl) (ibCons (ibAdd (a := kind.tmod 3) (b := 3) (c := kind.tmod 3 + 3) rfl rfl rfl rfl (by omega) (by omega)) (ibCons (ibRem (a := kind.tmod 3 + 3) (b := 3) (c := (c : Int)) rfl rfl rfl (by decide) hc) ibNil))
def bR (J L : Nat) (l : List BRow) : List BRow :=
  (11, .oi J, .int .i64 0, .bool false) :: (13, .oi J, .int .i64 2147483647, .bool false) :: (2, .oi J, .int .i64 2, .int .i64 ((2 * L : Nat) : Int)) :: (10, .int .i64 (L : Int), .oi J, .bool false) :: (11, .int .i64 (L : Int), .oi J, .bool false) :: l
theorem bR_ok {iv : Nat → IntKind × Int} {J L : Nat} (hJ : iv J = (.i64, (L : Int))) (hL : L ≤ 60) {l : List BRow} (hl : ∀ r ∈ l, IbOk iv r) : ∀ r ∈ bR J L l, IbOk iv r := by
  letI := Tab.empty
  have d : denI iv (.oi J) = some (.i64, (L : Int)) := by show some (iv J) = _; rw [hJ]
  exact ibCons (ibLt (a := (L : Int)) (b := 0) d rfl (decide_eq_false (by omega))) (ibCons (ibGt (a := (L : Int)) (b := 2147483647) d rfl (decide_eq_false (by omega))) (ibCons (ibMul (a := (L : Int)) (b := 2) (c := ((2 * L : Nat) : Int)) d rfl rfl (by omega) (by omega) (by omega)) (ibCons (ibNe (a := (L : Int)) (b := (L : Int)) rfl d (decide_eq_true rfl)) (ibCons (ibLt (a := (L : Int)) (b := (L : Int)) rfl d (decide_eq_false (by omega))) hl))))
def cR (J L : Nat) : List CRow := [(.u64, .oi J, .int .u64 (L : Int)), (.i64, .oi J, .int .i64 (L : Int))]
theorem cR_ok {iv : Nat → IntKind × Int} {J L : Nat} (hJ : iv J = (.i64, (L : Int))) (hL : L ≤ 60) : ∀ r ∈ cR J L, IcOk iv r := by
  have d : denI iv (.oi J) = some (.i64, (L : Int)) := by show some (iv J) = _; rw [hJ]
  exact allC (icOf (k := .u64) (n := (L : Int)) (c := (L : Int)) d rfl (wrapU64 (by omega) (by omega))) <| allC (icOf (k := .i64) (n := (L : Int)) (c := (L : Int)) d rfl (wrap64 (by omega) (by omega))) fun r h => by simp at h
def sR (L c : Nat) : List BRow := (13, .oi 0, .int .i64 60, .bool false) :: bR 0 L (kR c)
theorem sR_ok {p : Pm} {L c : Nat} (h : OkS p L c) : ∀ r ∈ sR L c, IbOk (ivT p.len p.kind p.U) r := by
  letI := Tab.empty
  have hJ : ivT p.len p.kind p.U 0 = (.i64, (L : Int)) := by show (IntKind.i64, p.len) = _; rw [h.hl]
  have := h.h60
  exact ibCons (ibGt (a := (L : Int)) (b := 60) (by show some (ivT p.len p.kind p.U 0) = _; rw [hJ]) rfl (decide_eq_false (by omega))) (bR_ok hJ h.h60 (kR_ok h.hc))
def lR (c : Nat) : List BRow := (13, .oi 0, .int .i64 60, .bool true) :: (12, .oi 4, .oi 0, .bool true) :: (14, .oi 4, .int .i64 0, .bool true) :: bR 4 60 (kR c)
theorem lR_ok {p : Pm} {c : Nat} (h : OkL p c) : ∀ r ∈ lR c, IbOk (ivT p.len p.kind p.U) r := by
  letI := Tab.empty
  have := h.hl
  exact ibCons (ibGt (a := p.len) (b := 60) rfl rfl (decide_eq_true (by omega))) (ibCons (ibLe (a := 60) (b := p.len) rfl rfl (decide_eq_true (by omega))) (ibCons (ibGe (a := 60) (b := 0) rfl rfl (decide_eq_true (by decide))) (bR_ok (L := 60) rfl (by decide) (kR_ok h.hc))))
abbrev VS (p : Pm) (L c : Nat) (h : OkS p L c) : VRows (ivT p.len p.kind p.U) noV noK where
  vvp := noVp
  ib := rB 0 L (sR L c) ((L + 3) / 4)
  ibok := rB_ok ivT_ge (by show (IntKind.i64, p.len) = _; rw [h.hl]) (sR_ok h) _
  ic := rC (cR 0 L) ((L + 3) / 4)
  icok := rC_ok ivT_ge h.hU (cR_ok (by show (IntKind.i64, p.len) = _; rw [h.hl]) h.h60) _
  vc := rV [] ((L + 3) / 4)
  vcok := rV_ok ivT_ge (fun p h => by simp at h) _
abbrev TS (p : Pm) (L c : Nat) (h : OkS p L c) : Tab := (VS p L c h).ftab p.F (rFl L) (rFl_ok p L h.hA)
abbrev VL_ (p : Pm) (c : Nat) (h : OkL p c) : VRows (ivT p.len p.kind p.U) noV noK where
  vvp := noVp
  ib := rB 4 60 (lR c) 15
  ibok := rB_ok ivT_ge rfl (lR_ok h) _
  ic := rC (cR 4 60) 15
  icok := rC_ok ivT_ge h.hU (cR_ok rfl (by decide)) _
  vc := rV [(60, 4)] 15
  vcok := rV_ok ivT_ge (fun p h => by simp at h; subst h; rfl) _
abbrev TL (p : Pm) (c : Nat) (h : OkL p c) : Tab := (VL_ p c h).ftab p.F (rFl 60) (rFl_ok p 60 h.hA)
abbrev VN_ (kind : Int) (c : Nat) (h : (kind.tmod 3 + 3).tmod 3 = (c : Int)) : VRows (ivT 0 kind (fun _ => 0)) noV noK where
  vvp := noVp
  ib := kR c
  ibok := kR_ok h
def GS (L c : Nat) (n : Bool) : Prop := ∀ (p : Pm) (h : OkS p L c), okTrue (@call (TS p L c h) Tryz.prog K_top0 5000 3 [.fo 0 0 1, .oi 1, .bool n] H.empty) = true
def GL (c : Nat) (n : Bool) : Prop := ∀ (p : Pm) (h : OkL p c), okTrue (@call (TL p c h) Tryz.prog K_top0 5000 3 [.fo 0 0 1, .oi 1, .bool n] H.empty) = true
def GN (c : Nat) (n : Bool) : Prop := ∀ (kind : Int) (h : (kind.tmod 3 + 3).tmod 3 = (c : Int)), okTrue (@call (VN_ kind c h).tab Tryz.prog K_top0 5000 3 [.nils, .oi 1, .bool n] H.empty) = true
theorem allNil {G : Nat × Nat × Bool → Prop} : ∀ q ∈ ([] : List (Nat × Nat × Bool)), G q := fun q h => by simp at h
end Go.Proofs.YtgejhjencodinaaGreatDoor.nt
