/-
  The law NativeCopy: the first loop.
-/
import Derived.Test.YtbjgdfijonkomaaGreatDoorNCA
set_option linter.unusedVariables false
set_option linter.unusedSimpArgs false
set_option linter.unusedSectionVars false
set_option maxRecDepth 1000000
set_option maxHeartbeats 0
namespace Go.Proofs.YtbjgdfijonkomaaGreatDoor.nc
open Go.X Go.RowKit Go.Proofs
def W1 (p : Pm) : Nat → Nat → BitVec 64 := fun v => match v with | 6 => p.W | _ => upd p.W (3 + p.i) (bV (p.A p.i))
noncomputable def L1_b : List BRow := [(10, .oi 8, .oi 8, .bool false), (11, .oi 8, .int .i64 0, .bool false), (11, .int .i64 0, .oi 8, .bool true), (11, .oi 14, .oi 13, .bool true), (14, .oi 14, .int .i64 0, .bool true), (11, .oi 15, .oi 13, .bool true), (14, .oi 15, .int .i64 0, .bool true), (11, .oi 5, .oi 0, .bool true), (14, .oi 5, .int .i64 0, .bool true), (11, .oi 5, .int .i64 0, .bool false), (14, .oi 5, .oi 0, .bool false), (3, .oi 5, .int .i64 1, .oi 5), (4, .oi 5, .int .i64 1, .int .i64 0), (0, .int .i64 3, .oi 5, .oi 7), (11, .oi 7, .oi 13, .bool true), (14, .oi 7, .int .i64 0, .bool true), (8, .oi 28, .int .u64 18446744073709551615, .int .u64 0), (15, .oi 29, .int .i64 0, .oi 29), (5, .oi 29, .int .u64 18446744073709551615, .oi 29), (6, .int .u64 0, .oi 29, .oi 29), (0, .oi 5, .int .i64 1, .oi 6)]
noncomputable def L1_c : List (IntKind × AV × AV) := [(.i64, .oi 26, .oi 0), (.u64, .oi 9, .oi 29)]
noncomputable def L1_v : List (Nat × Nat) := [(0, 14), (2, 15)]
noncomputable def L1_l : List VL := [⟨6, 14, 1, 0, [.int .u64 0]⟩, ⟨6, 15, 1, 0, [.oi 26]⟩, ⟨6, 7, 1, 0, [.oi 28]⟩]
noncomputable def L1_s : List VS := [⟨6, 7, 1, 0, [.oi 29], 7⟩]
noncomputable def L1_f : List VL := [⟨0, 5, 1, 0, [.oi 9]⟩]
section
variable (p : Pm) (la20 : p.la ≤ 20) (tx : 3 + p.la ≤ p.tot) (tt : p.tot ≤ 60) (w0 : wI (p.W 0) = 0) (w2 : wI (p.W 2) = (p.la : Int)) (hi : p.i < p.la)
include p la20 tx tt w0 w2 hi
theorem L1_bok : ∀ r ∈ L1_b, IbOk (ivC p) r := by
  letI := Tab.empty
  exact (ibCons (ibNe (a := ((3 + p.la : Nat) : Int)) (b := ((3 + p.la : Nat) : Int)) rfl rfl (decide_eq_true (by omega))) (ibCons (ibLt (a := ((3 + p.la : Nat) : Int)) (b := 0) rfl rfl (decide_eq_false (by omega))) (ibCons (ibLt (a := 0) (b := ((3 + p.la : Nat) : Int)) rfl rfl (decide_eq_true (by omega))) (ibCons (ibLt (a := ((0 : Nat) : Int)) (b := (p.tot : Int)) rfl rfl (decide_eq_true (by omega))) (ibCons (ibGe (a := ((0 : Nat) : Int)) (b := 0) rfl rfl (decide_eq_true (by omega))) (ibCons (ibLt (a := ((2 : Nat) : Int)) (b := (p.tot : Int)) rfl rfl (decide_eq_true (by omega))) (ibCons (ibGe (a := ((2 : Nat) : Int)) (b := 0) rfl rfl (decide_eq_true (by omega))) (ibCons (ibLt (a := (p.i : Int)) (b := (p.la : Int)) rfl rfl (decide_eq_true (by omega))) (ibCons (ibGe (a := (p.i : Int)) (b := 0) rfl rfl (decide_eq_true (by omega))) (ibCons (ibLt (a := (p.i : Int)) (b := 0) rfl rfl (decide_eq_false (by omega))) (ibCons (ibGe (a := (p.i : Int)) (b := (p.la : Int)) rfl rfl (decide_eq_false (by omega))) (ibCons (ibQuo (a := (p.i : Int)) (b := 1) (c := (p.i : Int)) rfl rfl rfl (by decide) (Int.tdiv_one _) (by omega) (by omega)) (ibCons (ibRem (a := (p.i : Int)) (b := 1) (c := 0) rfl rfl rfl (by decide) (Int.tmod_one _)) (ibCons (ibAdd (a := 3) (b := (p.i : Int)) (c := ((3 + p.i : Nat) : Int)) rfl rfl rfl (by omega) (by omega) (by omega)) (ibCons (ibLt (a := ((3 + p.i : Nat) : Int)) (b := (p.tot : Int)) rfl rfl (decide_eq_true (by omega))) (ibCons (ibGe (a := ((3 + p.i : Nat) : Int)) (b := 0) rfl rfl (decide_eq_true (by omega))) (ibCons (ibAndNotW (W := (p.W (3 + p.i))) (U := BitVec.allOnes 64) (V := 0#64) rfl dMask d0 (by rw [BitVec.not_allOnes]; exact BitVec.and_zero)) (ibCons (ibShlW (s := 0) (W := (bV (p.A p.i))) (V := (bV (p.A p.i))) rfl rfl rfl (by decide) (BitVec.shiftLeft_zero _)) (ibCons (ibAndW (W := (bV (p.A p.i))) (U := BitVec.allOnes 64) (V := (bV (p.A p.i))) rfl dMask rfl (BitVec.and_allOnes)) (ibCons (ibOrW (W := 0#64) (U := (bV (p.A p.i))) (V := (bV (p.A p.i))) d0 rfl rfl (BitVec.zero_or)) (ibCons (ibAdd (a := (p.i : Int)) (b := 1) (c := ((p.i + 1 : Nat) : Int)) rfl rfl rfl (by omega) (by omega) (by omega)) ibNil)))))))))))))))))))))
theorem L1_cok : ∀ r ∈ L1_c, IcOk (ivC p) r := (allCons (icOf (k := .i64) (n := (p.la : Int)) (c := (p.la : Int)) rfl rfl (wrap64 (by omega) (by omega))) (allCons (icOf (k := .u64) (n := p.A p.i) (c := wI (bV (p.A p.i))) rfl rfl (toBV _)) allNil))
theorem L1_vok : ∀ q ∈ L1_v, ivC p q.2 = (.i64, (q.1 : Int)) := (allCons rfl (allCons rfl allNil))
theorem L1_lok : ∀ r ∈ L1_l, VlOk (ivC p) (vvN p.tot (W1 p)) r := by
  let Wf := W1 p
  exact (allCons (vlW3 (L := []) (n := p.tot) (W := Wf 6) (k := 0) (q := 0) (c := 0) rfl rfl rfl rfl rfl (Nat.zero_add _).symm (by omega) (w0)) (allCons (vlW2 (L := []) (n := p.tot) (W := Wf 6) (k := 2) (q := 2) (y := 26) rfl rfl rfl rfl rfl (Nat.zero_add _).symm (by omega) (congrArg (Prod.mk IntKind.u64) w2.symm)) (allCons (vlW2 (L := []) (n := p.tot) (W := Wf 6) (k := 3 + p.i) (q := 3 + p.i) (y := 28) rfl rfl rfl rfl rfl (Nat.zero_add _).symm (by omega) (rfl)) allNil)))
theorem L1_sok : ∀ r ∈ L1_s, VsOk (ivC p) (vvN p.tot (W1 p)) (fun _ => p.tot) r := by
  let Wf := W1 p
  exact (allCons (vsW2 (L := []) (n := p.tot) (W := Wf 6) (W' := Wf 7) (k := 3 + p.i) (q := 3 + p.i) rfl rfl rfl rfl rfl rfl rfl rfl (Nat.zero_add _).symm (by omega) (by show some (IntKind.u64, wI (bV (p.A p.i))) = _; exact congrArg (fun z => some (IntKind.u64, wI z)) (upd_eq (W := p.W)).symm) (fun m hm => upd_ne hm)) allNil)
theorem L1_fok : ∀ r ∈ L1_f, FlOk (ivC p) (fgC p) r := (allCons (flN1 (K := .i64) (k := p.i) (A := p.la) (e := p.A) rfl rfl (by omega) rfl) allNil)
end
noncomputable abbrev TL1 (p : Pm) (la20 : p.la ≤ 20) (tx : 3 + p.la ≤ p.tot) (tt : p.tot ≤ 60) (w0 : wI (p.W 0) = 0) (w2 : wI (p.W 2) = (p.la : Int)) (hi : p.i < p.la) : Tab := TN (ivC p) p.tot (W1 p) (fgC p) (L1_b) (L1_bok p la20 tx tt w0 w2 hi) L1_c (L1_cok p la20 tx tt w0 w2 hi) L1_v (L1_vok p la20 tx tt w0 w2 hi) L1_l (L1_lok p la20 tx tt w0 w2 hi) L1_s (L1_sok p la20 tx tt w0 w2 hi) L1_f (L1_fok p la20 tx tt w0 w2 hi)
def W0 (p : Pm) : Nat → Nat → BitVec 64 := fun _ => p.W
noncomputable def X1_b : List BRow := [(11, .oi 5, .oi 0, .bool false), (11, .oi 5, .int .i64 0, .bool false)]
noncomputable def X1_c : List (IntKind × AV × AV) := []
noncomputable def X1_v : List (Nat × Nat) := []
noncomputable def X1_l : List VL := []
noncomputable def X1_s : List VS := []
noncomputable def X1_f : List VL := []
section
variable (p : Pm) (hi : ¬ p.i < p.la)
include p hi
theorem X1_bok : ∀ r ∈ X1_b, IbOk (ivC p) r := by
  letI := Tab.empty
  exact (ibCons (ibLt (a := (p.i : Int)) (b := (p.la : Int)) rfl rfl (decide_eq_false (by omega))) (ibCons (ibLt (a := (p.i : Int)) (b := 0) rfl rfl (decide_eq_false (by omega))) ibNil))
theorem X1_cok : ∀ r ∈ X1_c, IcOk (ivC p) r := allNil
theorem X1_vok : ∀ q ∈ X1_v, ivC p q.2 = (.i64, (q.1 : Int)) := allNil
theorem X1_lok : ∀ r ∈ X1_l, VlOk (ivC p) (vvN p.tot (W0 p)) r := by
  let Wf := W0 p
  exact allNil
theorem X1_sok : ∀ r ∈ X1_s, VsOk (ivC p) (vvN p.tot (W0 p)) (fun _ => p.tot) r := by
  let Wf := W0 p
  exact allNil
theorem X1_fok : ∀ r ∈ X1_f, FlOk (ivC p) (fgC p) r := allNil
end
noncomputable abbrev TX1 (p : Pm) (hi : ¬ p.i < p.la) : Tab := TN (ivC p) p.tot (W0 p) (fgC p) (X1_b) (X1_bok p hi) X1_c (X1_cok p hi) X1_v (X1_vok p hi) X1_l (X1_lok p hi) X1_s (X1_sok p hi) X1_f (X1_fok p hi)
def G1 (c : Cs) : Prop := ∀ p la20 tx tt w0 w2 hi, runTo (TL1 p la20 tx tt w0 w2 hi) Tryz.prog KK 3000 Tryz.f3.ntmps l1 (frOf ((21, .oi 5) :: fs9 c)) (hOf 6 (bs6 c.rf)) .normal (cvC (.oi 6) []) [(1, .vec 7, 6)] ((21, .oi 5) :: fs9 c) (bs6 c.rf) = true
def GX1 (c : Cs) : Prop := ∀ p hi, runTo (TX1 p hi) Tryz.prog KK 3000 Tryz.f3.ntmps l1 (frOf ((21, .oi 5) :: fs9 c)) (hOf 6 (bs6 c.rf)) (.exit 0) (cvC (.oi 5) []) [(1, .vec 6, 6)] (fs9 c) (bs6 c.rf) = true
def GI1 (c : Cs) : Prop := ∀ p, runTo (pl p) Tryz.prog KK 3000 Tryz.f3.ntmps i1 (frOf (fs9 c)) (hOf 6 (bs6 c.rf)) .normal (cvC (.int .i64 0) []) [(1, .vec 6, 6)] ((21, .oi 5) :: fs9 c) (bs6 c.rf) = true
theorem g1_1000 : G1 ⟨true, false, false, false⟩ := fun p la20 tx tt w0 w2 hi => (by as_aux_lemma => kernel_rfl)
theorem g1_1100 : G1 ⟨true, true, false, false⟩ := fun p la20 tx tt w0 w2 hi => (by as_aux_lemma => kernel_rfl)
theorem g1_1110 : G1 ⟨true, true, true, false⟩ := fun p la20 tx tt w0 w2 hi => (by as_aux_lemma => kernel_rfl)
theorem g1_1111 : G1 ⟨true, true, true, true⟩ := fun p la20 tx tt w0 w2 hi => (by as_aux_lemma => kernel_rfl)
theorem g1_1001 : G1 ⟨true, false, false, true⟩ := fun p la20 tx tt w0 w2 hi => (by as_aux_lemma => kernel_rfl)
theorem g1_1101 : G1 ⟨true, true, false, true⟩ := fun p la20 tx tt w0 w2 hi => (by as_aux_lemma => kernel_rfl)
theorem gx1_0000 : GX1 ⟨false, false, false, false⟩ := fun p hi => (by as_aux_lemma => kernel_rfl)
theorem gx1_0100 : GX1 ⟨false, true, false, false⟩ := fun p hi => (by as_aux_lemma => kernel_rfl)
theorem gx1_1000 : GX1 ⟨true, false, false, false⟩ := fun p hi => (by as_aux_lemma => kernel_rfl)
theorem gx1_1100 : GX1 ⟨true, true, false, false⟩ := fun p hi => (by as_aux_lemma => kernel_rfl)
theorem gx1_0010 : GX1 ⟨false, false, true, false⟩ := fun p hi => (by as_aux_lemma => kernel_rfl)
theorem gx1_1110 : GX1 ⟨true, true, true, false⟩ := fun p hi => (by as_aux_lemma => kernel_rfl)
theorem gx1_0011 : GX1 ⟨false, false, true, true⟩ := fun p hi => (by as_aux_lemma => kernel_rfl)
theorem gx1_1111 : GX1 ⟨true, true, true, true⟩ := fun p hi => (by as_aux_lemma => kernel_rfl)
theorem gx1_0001 : GX1 ⟨false, false, false, true⟩ := fun p hi => (by as_aux_lemma => kernel_rfl)
theorem gx1_0101 : GX1 ⟨false, true, false, true⟩ := fun p hi => (by as_aux_lemma => kernel_rfl)
theorem gx1_1001 : GX1 ⟨true, false, false, true⟩ := fun p hi => (by as_aux_lemma => kernel_rfl)
theorem gx1_1101 : GX1 ⟨true, true, false, true⟩ := fun p hi => (by as_aux_lemma => kernel_rfl)
theorem gi1_0000 : GI1 ⟨false, false, false, false⟩ := fun p => (by as_aux_lemma => kernel_rfl)
theorem gi1_0100 : GI1 ⟨false, true, false, false⟩ := fun p => (by as_aux_lemma => kernel_rfl)
theorem gi1_1000 : GI1 ⟨true, false, false, false⟩ := fun p => (by as_aux_lemma => kernel_rfl)
theorem gi1_1100 : GI1 ⟨true, true, false, false⟩ := fun p => (by as_aux_lemma => kernel_rfl)
theorem gi1_0010 : GI1 ⟨false, false, true, false⟩ := fun p => (by as_aux_lemma => kernel_rfl)
theorem gi1_1110 : GI1 ⟨true, true, true, false⟩ := fun p => (by as_aux_lemma => kernel_rfl)
theorem gi1_0011 : GI1 ⟨false, false, true, true⟩ := fun p => (by as_aux_lemma => kernel_rfl)
theorem gi1_1111 : GI1 ⟨true, true, true, true⟩ := fun p => (by as_aux_lemma => kernel_rfl)
theorem gi1_0001 : GI1 ⟨false, false, false, true⟩ := fun p => (by as_aux_lemma => kernel_rfl)
theorem gi1_0101 : GI1 ⟨false, true, false, true⟩ := fun p => (by as_aux_lemma => kernel_rfl)
theorem gi1_1001 : GI1 ⟨true, false, false, true⟩ := fun p => (by as_aux_lemma => kernel_rfl)
theorem gi1_1101 : GI1 ⟨true, true, false, true⟩ := fun p => (by as_aux_lemma => kernel_rfl)
end Go.Proofs.YtbjgdfijonkomaaGreatDoor.nc
