/-
  The law NativeCopy: the second loop.
-/
import Derived.Test.YtbjgdfijonkomaaGreatDoorNCB
set_option linter.unusedVariables false
set_option linter.unusedSimpArgs false
set_option linter.unusedSectionVars false
set_option maxRecDepth 1000000
set_option maxHeartbeats 0
namespace Go.Proofs.YtbjgdfijonkomaaGreatDoor.nc
open Go.X Go.RowKit Go.Proofs
def W2 (p : Pm) : Nat → Nat → BitVec 64 := fun v => match v with | 6 => p.W | _ => upd p.W (p.s + 3 + p.i) (bV (p.B p.i))
noncomputable def L2_b (sf : Bool) : List BRow := [(10, .oi 8, .oi 8, .bool false), (1, .oi 10, .int .i64 1, .oi 25), (10, .oi 25, .oi 25, .bool false), (11, .oi 8, .oi 25, .bool false), (11, .int .i64 0, .oi 25, .bool (!sf)), (11, .oi 25, .int .i64 0, .bool false), (9, .oi 8, .oi 25, .bool (!sf)), (9, .int .i64 0, .oi 25, .bool sf), (9, .oi 25, .int .i64 0, .bool sf), (0, .oi 10, .int .i64 1, .oi 16), (0, .oi 25, .int .i64 3, .oi 17), (11, .oi 25, .oi 13, .bool true), (14, .oi 25, .int .i64 0, .bool true), (11, .oi 16, .oi 13, .bool true), (14, .oi 16, .int .i64 0, .bool true), (11, .oi 5, .oi 1, .bool true), (14, .oi 5, .int .i64 0, .bool true), (11, .oi 5, .int .i64 0, .bool false), (14, .oi 5, .oi 1, .bool false), (3, .oi 5, .int .i64 1, .oi 5), (4, .oi 5, .int .i64 1, .int .i64 0), (0, .oi 17, .oi 5, .oi 11), (11, .oi 11, .oi 13, .bool true), (14, .oi 11, .int .i64 0, .bool true), (8, .oi 30, .int .u64 18446744073709551615, .int .u64 0), (15, .oi 31, .int .i64 0, .oi 31), (5, .oi 31, .int .u64 18446744073709551615, .oi 31), (6, .int .u64 0, .oi 31, .oi 31), (0, .oi 5, .int .i64 1, .oi 6)]
noncomputable def L2_c : List (IntKind × AV × AV) := [(.i64, .oi 27, .oi 1), (.u64, .oi 12, .oi 31)]
noncomputable def L2_v : List (Nat × Nat) := [(0, 14)]
noncomputable def L2_l : List VL := [⟨6, 25, 1, 0, [.int .u64 0]⟩, ⟨6, 16, 1, 0, [.oi 27]⟩, ⟨6, 11, 1, 0, [.oi 30]⟩]
noncomputable def L2_s : List VS := [⟨6, 11, 1, 0, [.oi 31], 7⟩]
noncomputable def L2_f : List VL := [⟨1, 5, 1, 0, [.oi 12]⟩]
section
variable (p : Pm) (sf : Bool) (la20 : p.la ≤ 20) (lb20 : p.lb ≤ 20) (tx : 3 + p.la ≤ p.tot) (ty : p.s + 3 + p.lb ≤ p.tot) (tt : p.tot ≤ 60) (s8 : p.s ≤ 3 + p.la) (w3 : wI (p.W p.s) = 0) (w4 : wI (p.W (p.s + 2)) = (p.lb : Int)) (sY1 : decide ((0 : Int) < (p.s : Int)) = !sf) (sY2 : decide (((3 + p.la : Nat) : Int) = (p.s : Int)) = !sf) (sY3 : decide ((0 : Int) = (p.s : Int)) = sf) (sY4 : decide ((p.s : Int) = 0) = sf) (hi : p.i < p.lb)
include p sf la20 lb20 tx ty tt s8 w3 w4 sY1 sY2 sY3 sY4 hi
theorem L2_bok : ∀ r ∈ L2_b sf, IbOk (ivC p) r := by
  letI := Tab.empty
  exact (ibCons (ibNe (a := ((3 + p.la : Nat) : Int)) (b := ((3 + p.la : Nat) : Int)) rfl rfl (decide_eq_true (by omega))) (ibCons (ibSub (a := ((p.s + 1 : Nat) : Int)) (b := 1) (c := (p.s : Int)) rfl rfl rfl (by omega) (by omega) (by omega)) (ibCons (ibNe (a := (p.s : Int)) (b := (p.s : Int)) rfl rfl (decide_eq_true (by omega))) (ibCons (ibLt (a := ((3 + p.la : Nat) : Int)) (b := (p.s : Int)) rfl rfl (decide_eq_false (by omega))) (ibCons (ibLt (a := 0) (b := (p.s : Int)) rfl rfl (sY1)) (ibCons (ibLt (a := (p.s : Int)) (b := 0) rfl rfl (decide_eq_false (by omega))) (ibCons (ibEq (a := ((3 + p.la : Nat) : Int)) (b := (p.s : Int)) rfl rfl (sY2)) (ibCons (ibEq (a := 0) (b := (p.s : Int)) rfl rfl (sY3)) (ibCons (ibEq (a := (p.s : Int)) (b := 0) rfl rfl (sY4)) (ibCons (ibAdd (a := ((p.s + 1 : Nat) : Int)) (b := 1) (c := ((p.s + 2 : Nat) : Int)) rfl rfl rfl (by omega) (by omega) (by omega)) (ibCons (ibAdd (a := (p.s : Int)) (b := 3) (c := ((p.s + 3 : Nat) : Int)) rfl rfl rfl (by omega) (by omega) (by omega)) (ibCons (ibLt (a := (p.s : Int)) (b := (p.tot : Int)) rfl rfl (decide_eq_true (by omega))) (ibCons (ibGe (a := (p.s : Int)) (b := 0) rfl rfl (decide_eq_true (by omega))) (ibCons (ibLt (a := ((p.s + 2 : Nat) : Int)) (b := (p.tot : Int)) rfl rfl (decide_eq_true (by omega))) (ibCons (ibGe (a := ((p.s + 2 : Nat) : Int)) (b := 0) rfl rfl (decide_eq_true (by omega))) (ibCons (ibLt (a := (p.i : Int)) (b := (p.lb : Int)) rfl rfl (decide_eq_true (by omega))) (ibCons (ibGe (a := (p.i : Int)) (b := 0) rfl rfl (decide_eq_true (by omega))) (ibCons (ibLt (a := (p.i : Int)) (b := 0) rfl rfl (decide_eq_false (by omega))) (ibCons (ibGe (a := (p.i : Int)) (b := (p.lb : Int)) rfl rfl (decide_eq_false (by omega))) (ibCons (ibQuo (a := (p.i : Int)) (b := 1) (c := (p.i : Int)) rfl rfl rfl (by decide) (Int.tdiv_one _) (by omega) (by omega)) (ibCons (ibRem (a := (p.i : Int)) (b := 1) (c := 0) rfl rfl rfl (by decide) (Int.tmod_one _)) (ibCons (ibAdd (a := ((p.s + 3 : Nat) : Int)) (b := (p.i : Int)) (c := ((p.s + 3 + p.i : Nat) : Int)) rfl rfl rfl (by omega) (by omega) (by omega)) (ibCons (ibLt (a := ((p.s + 3 + p.i : Nat) : Int)) (b := (p.tot : Int)) rfl rfl (decide_eq_true (by omega))) (ibCons (ibGe (a := ((p.s + 3 + p.i : Nat) : Int)) (b := 0) rfl rfl (decide_eq_true (by omega))) (ibCons (ibAndNotW (W := (p.W (p.s + 3 + p.i))) (U := BitVec.allOnes 64) (V := 0#64) rfl dMask d0 (by rw [BitVec.not_allOnes]; exact BitVec.and_zero)) (ibCons (ibShlW (s := 0) (W := (bV (p.B p.i))) (V := (bV (p.B p.i))) rfl rfl rfl (by decide) (BitVec.shiftLeft_zero _)) (ibCons (ibAndW (W := (bV (p.B p.i))) (U := BitVec.allOnes 64) (V := (bV (p.B p.i))) rfl dMask rfl (BitVec.and_allOnes)) (ibCons (ibOrW (W := 0#64) (U := (bV (p.B p.i))) (V := (bV (p.B p.i))) d0 rfl rfl (BitVec.zero_or)) (ibCons (ibAdd (a := (p.i : Int)) (b := 1) (c := ((p.i + 1 : Nat) : Int)) rfl rfl rfl (by omega) (by omega) (by omega)) ibNil)))))))))))))))))))))))))))))
theorem L2_cok : ∀ r ∈ L2_c, IcOk (ivC p) r := (allCons (icOf (k := .i64) (n := (p.lb : Int)) (c := (p.lb : Int)) rfl rfl (wrap64 (by omega) (by omega))) (allCons (icOf (k := .u64) (n := p.B p.i) (c := wI (bV (p.B p.i))) rfl rfl (toBV _)) allNil))
theorem L2_vok : ∀ q ∈ L2_v, ivC p q.2 = (.i64, (q.1 : Int)) := (allCons rfl allNil)
theorem L2_lok : ∀ r ∈ L2_l, VlOk (ivC p) (vvN p.tot (W2 p)) r := by
  let Wf := W2 p
  exact (allCons (vlW3 (L := []) (n := p.tot) (W := Wf 6) (k := p.s) (q := p.s) (c := 0) rfl rfl rfl rfl rfl (Nat.zero_add _).symm (by omega) (w3)) (allCons (vlW2 (L := []) (n := p.tot) (W := Wf 6) (k := p.s + 2) (q := p.s + 2) (y := 27) rfl rfl rfl rfl rfl (Nat.zero_add _).symm (by omega) (congrArg (Prod.mk IntKind.u64) w4.symm)) (allCons (vlW2 (L := []) (n := p.tot) (W := Wf 6) (k := p.s + 3 + p.i) (q := p.s + 3 + p.i) (y := 30) rfl rfl rfl rfl rfl (Nat.zero_add _).symm (by omega) (rfl)) allNil)))
theorem L2_sok : ∀ r ∈ L2_s, VsOk (ivC p) (vvN p.tot (W2 p)) (fun _ => p.tot) r := by
  let Wf := W2 p
  exact (allCons (vsW2 (L := []) (n := p.tot) (W := Wf 6) (W' := Wf 7) (k := p.s + 3 + p.i) (q := p.s + 3 + p.i) rfl rfl rfl rfl rfl rfl rfl rfl (Nat.zero_add _).symm (by omega) (by show some (IntKind.u64, wI (bV (p.B p.i))) = _; exact congrArg (fun z => some (IntKind.u64, wI z)) (upd_eq (W := p.W)).symm) (fun m hm => upd_ne hm)) allNil)
theorem L2_fok : ∀ r ∈ L2_f, FlOk (ivC p) (fgC p) r := (allCons (flN1 (K := .i64) (k := p.i) (A := p.lb) (e := p.B) rfl rfl (by omega) rfl) allNil)
end
noncomputable abbrev TL2 (p : Pm) (sf : Bool) (la20 : p.la ≤ 20) (lb20 : p.lb ≤ 20) (tx : 3 + p.la ≤ p.tot) (ty : p.s + 3 + p.lb ≤ p.tot) (tt : p.tot ≤ 60) (s8 : p.s ≤ 3 + p.la) (w3 : wI (p.W p.s) = 0) (w4 : wI (p.W (p.s + 2)) = (p.lb : Int)) (sY1 : decide ((0 : Int) < (p.s : Int)) = !sf) (sY2 : decide (((3 + p.la : Nat) : Int) = (p.s : Int)) = !sf) (sY3 : decide ((0 : Int) = (p.s : Int)) = sf) (sY4 : decide ((p.s : Int) = 0) = sf) (hi : p.i < p.lb) : Tab := TN (ivC p) p.tot (W2 p) (fgC p) (L2_b sf) (L2_bok p sf la20 lb20 tx ty tt s8 w3 w4 sY1 sY2 sY3 sY4 hi) L2_c (L2_cok p sf la20 lb20 tx ty tt s8 w3 w4 sY1 sY2 sY3 sY4 hi) L2_v (L2_vok p sf la20 lb20 tx ty tt s8 w3 w4 sY1 sY2 sY3 sY4 hi) L2_l (L2_lok p sf la20 lb20 tx ty tt s8 w3 w4 sY1 sY2 sY3 sY4 hi) L2_s (L2_sok p sf la20 lb20 tx ty tt s8 w3 w4 sY1 sY2 sY3 sY4 hi) L2_f (L2_fok p sf la20 lb20 tx ty tt s8 w3 w4 sY1 sY2 sY3 sY4 hi)
noncomputable def X2_b : List BRow := [(11, .oi 5, .oi 1, .bool false), (11, .oi 5, .int .i64 0, .bool false)]
noncomputable def X2_c : List (IntKind × AV × AV) := []
noncomputable def X2_v : List (Nat × Nat) := []
noncomputable def X2_l : List VL := []
noncomputable def X2_s : List VS := []
noncomputable def X2_f : List VL := []
section
variable (p : Pm) (hi : ¬ p.i < p.lb)
include p hi
theorem X2_bok : ∀ r ∈ X2_b, IbOk (ivC p) r := by
  letI := Tab.empty
  exact (ibCons (ibLt (a := (p.i : Int)) (b := (p.lb : Int)) rfl rfl (decide_eq_false (by omega))) (ibCons (ibLt (a := (p.i : Int)) (b := 0) rfl rfl (decide_eq_false (by omega))) ibNil))
theorem X2_cok : ∀ r ∈ X2_c, IcOk (ivC p) r := allNil
theorem X2_vok : ∀ q ∈ X2_v, ivC p q.2 = (.i64, (q.1 : Int)) := allNil
theorem X2_lok : ∀ r ∈ X2_l, VlOk (ivC p) (vvN p.tot (W0 p)) r := by
  let Wf := W0 p
  exact allNil
theorem X2_sok : ∀ r ∈ X2_s, VsOk (ivC p) (vvN p.tot (W0 p)) (fun _ => p.tot) r := by
  let Wf := W0 p
  exact allNil
theorem X2_fok : ∀ r ∈ X2_f, FlOk (ivC p) (fgC p) r := allNil
end
noncomputable abbrev TX2 (p : Pm) (hi : ¬ p.i < p.lb) : Tab := TN (ivC p) p.tot (W0 p) (fgC p) (X2_b) (X2_bok p hi) X2_c (X2_cok p hi) X2_v (X2_vok p hi) X2_l (X2_lok p hi) X2_s (X2_sok p hi) X2_f (X2_fok p hi)
noncomputable def Z2_b : List BRow := [(11, .oi 5, .oi 1, .bool true)]
noncomputable def Z2_c : List (IntKind × AV × AV) := []
noncomputable def Z2_v : List (Nat × Nat) := []
noncomputable def Z2_l : List VL := []
noncomputable def Z2_s : List VS := []
noncomputable def Z2_f : List VL := []
section
variable (p : Pm) (hi : p.i < p.lb)
include p hi
theorem Z2_bok : ∀ r ∈ Z2_b, IbOk (ivC p) r := by
  letI := Tab.empty
  exact (ibCons (ibLt (a := (p.i : Int)) (b := (p.lb : Int)) rfl rfl (decide_eq_true (by omega))) ibNil)
theorem Z2_cok : ∀ r ∈ Z2_c, IcOk (ivC p) r := allNil
theorem Z2_vok : ∀ q ∈ Z2_v, ivC p q.2 = (.i64, (q.1 : Int)) := allNil
theorem Z2_lok : ∀ r ∈ Z2_l, VlOk (ivC p) (vvN p.tot (W0 p)) r := by
  let Wf := W0 p
  exact allNil
theorem Z2_sok : ∀ r ∈ Z2_s, VsOk (ivC p) (vvN p.tot (W0 p)) (fun _ => p.tot) r := by
  let Wf := W0 p
  exact allNil
theorem Z2_fok : ∀ r ∈ Z2_f, FlOk (ivC p) (fgC p) r := allNil
end
noncomputable abbrev TZ2 (p : Pm) (hi : p.i < p.lb) : Tab := TN (ivC p) p.tot (W0 p) (fgC p) (Z2_b) (Z2_bok p hi) Z2_c (Z2_cok p hi) Z2_v (Z2_vok p hi) Z2_l (Z2_lok p hi) Z2_s (Z2_sok p hi) Z2_f (Z2_fok p hi)
def G2 (c : Cs) : Prop := ∀ p la20 lb20 tx ty tt s8 w3 w4 sY1 sY2 sY3 sY4 hi, runTo (TL2 p c.sf la20 lb20 tx ty tt s8 w3 w4 sY1 sY2 sY3 sY4 hi) Tryz.prog KK 3000 Tryz.f3.ntmps l2 (frOf ((22, .oi 5) :: fs9 c)) (hOf 6 (bs6 c.rf)) .normal (cvC (.oi 6) []) [(1, .vec 7, 6)] ((22, .oi 5) :: fs9 c) (bs6 c.rf) = true
def GX2 (c : Cs) : Prop := ∀ p hi, runTo (TX2 p hi) Tryz.prog KK 3000 Tryz.f3.ntmps l2 (frOf ((22, .oi 5) :: fs9 c)) (hOf 6 (bs6 c.rf)) (.exit 2) (cvC (.oi 5) []) [(1, .vec 6, 6)] (fs9 c) (bs6 c.rf) = true
def GZ2 (c : Cs) : Prop := ∀ p hi, runTo (TZ2 p hi) Tryz.prog KK 3000 Tryz.f3.ntmps l2 (frOf ((22, .oi 5) :: fs9 c)) (hOf 6 (bs6 c.rf)) (.exit 2) (cvC (.oi 5) []) [(1, .vec 6, 6)] (fs9 c) (bs6 c.rf) = true
def GI2 (c : Cs) : Prop := ∀ p, runTo (pl p) Tryz.prog KK 3000 Tryz.f3.ntmps i2 (frOf (fs9 c)) (hOf 6 (bs6 c.rf)) .normal (cvC (.int .i64 0) []) [(1, .vec 6, 6)] ((22, .oi 5) :: fs9 c) (bs6 c.rf) = true
theorem g2_0100 : G2 ⟨false, true, false, false⟩ := fun p la20 lb20 tx ty tt s8 w3 w4 sY1 sY2 sY3 sY4 hi => (by as_aux_lemma => kernel_rfl)
theorem g2_1100 : G2 ⟨true, true, false, false⟩ := fun p la20 lb20 tx ty tt s8 w3 w4 sY1 sY2 sY3 sY4 hi => (by as_aux_lemma => kernel_rfl)
theorem g2_1110 : G2 ⟨true, true, true, false⟩ := fun p la20 lb20 tx ty tt s8 w3 w4 sY1 sY2 sY3 sY4 hi => (by as_aux_lemma => kernel_rfl)
theorem g2_1111 : G2 ⟨true, true, true, true⟩ := fun p la20 lb20 tx ty tt s8 w3 w4 sY1 sY2 sY3 sY4 hi => (by as_aux_lemma => kernel_rfl)
theorem gx2_0000 : GX2 ⟨false, false, false, false⟩ := fun p hi => (by as_aux_lemma => kernel_rfl)
theorem gx2_0100 : GX2 ⟨false, true, false, false⟩ := fun p hi => (by as_aux_lemma => kernel_rfl)
theorem gx2_1000 : GX2 ⟨true, false, false, false⟩ := fun p hi => (by as_aux_lemma => kernel_rfl)
theorem gx2_1100 : GX2 ⟨true, true, false, false⟩ := fun p hi => (by as_aux_lemma => kernel_rfl)
theorem gx2_0010 : GX2 ⟨false, false, true, false⟩ := fun p hi => (by as_aux_lemma => kernel_rfl)
theorem gx2_1110 : GX2 ⟨true, true, true, false⟩ := fun p hi => (by as_aux_lemma => kernel_rfl)
theorem gx2_0011 : GX2 ⟨false, false, true, true⟩ := fun p hi => (by as_aux_lemma => kernel_rfl)
theorem gx2_1111 : GX2 ⟨true, true, true, true⟩ := fun p hi => (by as_aux_lemma => kernel_rfl)
theorem gx2_0001 : GX2 ⟨false, false, false, true⟩ := fun p hi => (by as_aux_lemma => kernel_rfl)
theorem gx2_0101 : GX2 ⟨false, true, false, true⟩ := fun p hi => (by as_aux_lemma => kernel_rfl)
theorem gx2_1001 : GX2 ⟨true, false, false, true⟩ := fun p hi => (by as_aux_lemma => kernel_rfl)
theorem gx2_1101 : GX2 ⟨true, true, false, true⟩ := fun p hi => (by as_aux_lemma => kernel_rfl)
theorem gz2_0101 : GZ2 ⟨false, true, false, true⟩ := fun p hi => (by as_aux_lemma => kernel_rfl)
theorem gz2_1101 : GZ2 ⟨true, true, false, true⟩ := fun p hi => (by as_aux_lemma => kernel_rfl)
theorem gi2_0000 : GI2 ⟨false, false, false, false⟩ := fun p => (by as_aux_lemma => kernel_rfl)
theorem gi2_0100 : GI2 ⟨false, true, false, false⟩ := fun p => (by as_aux_lemma => kernel_rfl)
theorem gi2_1000 : GI2 ⟨true, false, false, false⟩ := fun p => (by as_aux_lemma => kernel_rfl)
theorem gi2_1100 : GI2 ⟨true, true, false, false⟩ := fun p => (by as_aux_lemma => kernel_rfl)
theorem gi2_0010 : GI2 ⟨false, false, true, false⟩ := fun p => (by as_aux_lemma => kernel_rfl)
theorem gi2_1110 : GI2 ⟨true, true, true, false⟩ := fun p => (by as_aux_lemma => kernel_rfl)
theorem gi2_0011 : GI2 ⟨false, false, true, true⟩ := fun p => (by as_aux_lemma => kernel_rfl)
theorem gi2_1111 : GI2 ⟨true, true, true, true⟩ := fun p => (by as_aux_lemma => kernel_rfl)
theorem gi2_0001 : GI2 ⟨false, false, false, true⟩ := fun p => (by as_aux_lemma => kernel_rfl)
theorem gi2_0101 : GI2 ⟨false, true, false, true⟩ := fun p => (by as_aux_lemma => kernel_rfl)
theorem gi2_1001 : GI2 ⟨true, false, false, true⟩ := fun p => (by as_aux_lemma => kernel_rfl)
theorem gi2_1101 : GI2 ⟨true, true, false, true⟩ := fun p => (by as_aux_lemma => kernel_rfl)
end Go.Proofs.YtbjgdfijonkomaaGreatDoor.nc
