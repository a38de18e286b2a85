/-
  The law NativeCopy: heads and exits of its loops.
-/
import Derived.Test.YtbjgdfijonkomaaGreatDoorNCD
import Derived.Test.YtbjgdfijonkomaaGreatDoorNCE
import Derived.Test.YtbjgdfijonkomaaGreatDoorNCF
set_option linter.unusedVariables false
set_option linter.unusedSimpArgs false
set_option linter.unusedSectionVars false
set_option maxRecDepth 1000000
set_option maxHeartbeats 0
namespace Go.Proofs.YtbjgdfijonkomaaGreatDoor.nc
open Go.X Go.RowKit Go.Proofs
abbrev plV (p : Pm) (Wf : Nat → Nat → BitVec 64) : Tab := TN (ivC p) p.tot Wf (fgC p) [] ibNil [] allNil [] allNil [] allNil [] allNil [] allNil
noncomputable def Y1_b : List BRow := [(11, .oi 5, .oi 0, .bool false), (11, .oi 5, .int .i64 0, .bool false)]
noncomputable def Y1_c : List (IntKind × AV × AV) := []
noncomputable def Y1_v : List (Nat × Nat) := []
noncomputable def Y1_l : List VL := []
noncomputable def Y1_s : List VS := []
noncomputable def Y1_f : List VL := []
section
variable (p : Pm) (hi : ¬ p.i < p.la)
include p hi
theorem Y1_bok : ∀ r ∈ Y1_b, IbOk (ivC p) r := by
  letI := Tab.empty
  exact (ibCons (ibLt (a := (p.i : Int)) (b := (p.la : Int)) rfl rfl (decide_eq_false (by omega))) (ibCons (ibLt (a := (p.i : Int)) (b := 0) rfl rfl (decide_eq_false (by omega))) ibNil))
theorem Y1_cok : ∀ r ∈ Y1_c, IcOk (ivC p) r := allNil
theorem Y1_vok : ∀ q ∈ Y1_v, ivC p q.2 = (.i64, (q.1 : Int)) := allNil
theorem Y1_lok : ∀ r ∈ Y1_l, VlOk (ivC p) (vvN p.tot (W1 p)) r := by
  let Wf := W1 p
  exact allNil
theorem Y1_sok : ∀ r ∈ Y1_s, VsOk (ivC p) (vvN p.tot (W1 p)) (fun _ => p.tot) r := by
  let Wf := W1 p
  exact allNil
theorem Y1_fok : ∀ r ∈ Y1_f, FlOk (ivC p) (fgC p) r := allNil
end
noncomputable abbrev TY1 (p : Pm) (hi : ¬ p.i < p.la) : Tab := TN (ivC p) p.tot (W1 p) (fgC p) (Y1_b) (Y1_bok p hi) Y1_c (Y1_cok p hi) Y1_v (Y1_vok p hi) Y1_l (Y1_lok p hi) Y1_s (Y1_sok p hi) Y1_f (Y1_fok p hi)
noncomputable def Y2_b : List BRow := [(11, .oi 5, .oi 1, .bool false), (11, .oi 5, .int .i64 0, .bool false)]
noncomputable def Y2_c : List (IntKind × AV × AV) := []
noncomputable def Y2_v : List (Nat × Nat) := []
noncomputable def Y2_l : List VL := []
noncomputable def Y2_s : List VS := []
noncomputable def Y2_f : List VL := []
section
variable (p : Pm) (hi : ¬ p.i < p.lb)
include p hi
theorem Y2_bok : ∀ r ∈ Y2_b, IbOk (ivC p) r := by
  letI := Tab.empty
  exact (ibCons (ibLt (a := (p.i : Int)) (b := (p.lb : Int)) rfl rfl (decide_eq_false (by omega))) (ibCons (ibLt (a := (p.i : Int)) (b := 0) rfl rfl (decide_eq_false (by omega))) ibNil))
theorem Y2_cok : ∀ r ∈ Y2_c, IcOk (ivC p) r := allNil
theorem Y2_vok : ∀ q ∈ Y2_v, ivC p q.2 = (.i64, (q.1 : Int)) := allNil
theorem Y2_lok : ∀ r ∈ Y2_l, VlOk (ivC p) (vvN p.tot (W2 p)) r := by
  let Wf := W2 p
  exact allNil
theorem Y2_sok : ∀ r ∈ Y2_s, VsOk (ivC p) (vvN p.tot (W2 p)) (fun _ => p.tot) r := by
  let Wf := W2 p
  exact allNil
theorem Y2_fok : ∀ r ∈ Y2_f, FlOk (ivC p) (fgC p) r := allNil
end
noncomputable abbrev TY2 (p : Pm) (hi : ¬ p.i < p.lb) : Tab := TN (ivC p) p.tot (W2 p) (fgC p) (Y2_b) (Y2_bok p hi) Y2_c (Y2_cok p hi) Y2_v (Y2_vok p hi) Y2_l (Y2_lok p hi) Y2_s (Y2_sok p hi) Y2_f (Y2_fok p hi)
noncomputable def V2_b : List BRow := [(11, .oi 5, .oi 1, .bool true)]
noncomputable def V2_c : List (IntKind × AV × AV) := []
noncomputable def V2_v : List (Nat × Nat) := []
noncomputable def V2_l : List VL := []
noncomputable def V2_s : List VS := []
noncomputable def V2_f : List VL := []
section
variable (p : Pm) (hi : p.i < p.lb)
include p hi
theorem V2_bok : ∀ r ∈ V2_b, IbOk (ivC p) r := by
  letI := Tab.empty
  exact (ibCons (ibLt (a := (p.i : Int)) (b := (p.lb : Int)) rfl rfl (decide_eq_true (by omega))) ibNil)
theorem V2_cok : ∀ r ∈ V2_c, IcOk (ivC p) r := allNil
theorem V2_vok : ∀ q ∈ V2_v, ivC p q.2 = (.i64, (q.1 : Int)) := allNil
theorem V2_lok : ∀ r ∈ V2_l, VlOk (ivC p) (vvN p.tot (W2 p)) r := by
  let Wf := W2 p
  exact allNil
theorem V2_sok : ∀ r ∈ V2_s, VsOk (ivC p) (vvN p.tot (W2 p)) (fun _ => p.tot) r := by
  let Wf := W2 p
  exact allNil
theorem V2_fok : ∀ r ∈ V2_f, FlOk (ivC p) (fgC p) r := allNil
end
noncomputable abbrev TV2 (p : Pm) (hi : p.i < p.lb) : Tab := TN (ivC p) p.tot (W2 p) (fgC p) (V2_b) (V2_bok p hi) V2_c (V2_cok p hi) V2_v (V2_vok p hi) V2_l (V2_lok p hi) V2_s (V2_sok p hi) V2_f (V2_fok p hi)
def HY1 (c : Cs) : Prop := ∀ p hi, runTo (TY1 p hi) Tryz.prog KK 3000 Tryz.f3.ntmps l1 (frOf ((21, .oi 5) :: fs9 c)) (hOf 6 (bs6 c.rf)) (.exit 0) (cvC (.oi 5) []) [(1, .vec 6, 6)] (fs9 c) (bs6 c.rf) = true
def HY2 (c : Cs) : Prop := ∀ p hi, runTo (TY2 p hi) Tryz.prog KK 3000 Tryz.f3.ntmps l2 (frOf ((22, .oi 5) :: fs9 c)) (hOf 6 (bs6 c.rf)) (.exit 2) (cvC (.oi 5) []) [(1, .vec 6, 6)] (fs9 c) (bs6 c.rf) = true
def HV2 (c : Cs) : Prop := ∀ p hi, runTo (TV2 p hi) Tryz.prog KK 3000 Tryz.f3.ntmps l2 (frOf ((22, .oi 5) :: fs9 c)) (hOf 6 (bs6 c.rf)) (.exit 2) (cvC (.oi 5) []) [(1, .vec 6, 6)] (fs9 c) (bs6 c.rf) = true
def HI1 (c : Cs) : Prop := ∀ p Wf, runTo (plV p Wf) Tryz.prog KK 3000 Tryz.f3.ntmps i1 (frOf (fs9 c)) (hOf 6 (bs6 c.rf)) .normal (cvC (.int .i64 0) []) [(1, .vec 6, 6)] ((21, .oi 5) :: fs9 c) (bs6 c.rf) = true
def HI2 (c : Cs) : Prop := ∀ p Wf, runTo (plV p Wf) Tryz.prog KK 3000 Tryz.f3.ntmps i2 (frOf (fs9 c)) (hOf 6 (bs6 c.rf)) .normal (cvC (.int .i64 0) []) [(1, .vec 6, 6)] ((22, .oi 5) :: fs9 c) (bs6 c.rf) = true
def HI3 (c : Cs) : Prop := ∀ p Wf, runTo (plV p Wf) Tryz.prog KK 3000 Tryz.f3.ntmps i3 (frOf (fs3 c)) (hOf 6 (bs6 c.rf)) .normal (cvC (.int .i64 0) []) [(1, .vec 6, 6)] ((29, .oi 5) :: fs3 c) (bs6 c.rf) = true
def HE3 (c : Cs) : Prop := ∀ p Wf, runTrue (plV p Wf) Tryz.prog KK 3000 Tryz.f3 (restn 18 cB) (frOf (fs3 c)) (hOf 6 (bs6 c.rf)) = true
noncomputable abbrev cv9 : Cv := ⟨0, 6, ofPairs [(0, 0), (1, 1), (2, 2), (3, 3), (4, 4), (5, 5)], [(.fo 0 0 1, 0), (.fo 0 0 1, 1), (.oi 0, 0), (.oi 0, 1), (.oi 2, 2), (.oi 3, 3), (.oi 4, 4), (.oi 8, 8), (.int .i64 1, 10), (.oi 13, 13)]⟩
def HS9 (c : Cs) : Prop := ∀ p Wf, firstTo (plV p Wf) Tryz.prog KK 3000 Tryz.f3.ntmps 1 (restn 9 cB) (frOf (fs9 c)) (hOf 6 (bs6 c.rf)) (Bool.rec (cvC (.oi 5) []) cv9 c.sf) [(1, .vec 6, 6)] (fs9 ⟨c.ca, Bool.rec c.cb c.ca c.sf, c.sf, c.rf⟩) (bs6 c.rf) = true
theorem hy1_0000 : HY1 ⟨false, false, false, false⟩ := fun p hi => (by as_aux_lemma => kernel_rfl)
theorem hy1_0100 : HY1 ⟨false, true, false, false⟩ := fun p hi => (by as_aux_lemma => kernel_rfl)
theorem hy1_1000 : HY1 ⟨true, false, false, false⟩ := fun p hi => (by as_aux_lemma => kernel_rfl)
theorem hy1_1100 : HY1 ⟨true, true, false, false⟩ := fun p hi => (by as_aux_lemma => kernel_rfl)
theorem hy1_0010 : HY1 ⟨false, false, true, false⟩ := fun p hi => (by as_aux_lemma => kernel_rfl)
theorem hy1_1110 : HY1 ⟨true, true, true, false⟩ := fun p hi => (by as_aux_lemma => kernel_rfl)
theorem hy1_0011 : HY1 ⟨false, false, true, true⟩ := fun p hi => (by as_aux_lemma => kernel_rfl)
theorem hy1_1111 : HY1 ⟨true, true, true, true⟩ := fun p hi => (by as_aux_lemma => kernel_rfl)
theorem hy1_0001 : HY1 ⟨false, false, false, true⟩ := fun p hi => (by as_aux_lemma => kernel_rfl)
theorem hy1_0101 : HY1 ⟨false, true, false, true⟩ := fun p hi => (by as_aux_lemma => kernel_rfl)
theorem hy1_1001 : HY1 ⟨true, false, false, true⟩ := fun p hi => (by as_aux_lemma => kernel_rfl)
theorem hy1_1101 : HY1 ⟨true, true, false, true⟩ := fun p hi => (by as_aux_lemma => kernel_rfl)
theorem hy2_0000 : HY2 ⟨false, false, false, false⟩ := fun p hi => (by as_aux_lemma => kernel_rfl)
theorem hy2_0100 : HY2 ⟨false, true, false, false⟩ := fun p hi => (by as_aux_lemma => kernel_rfl)
theorem hy2_1000 : HY2 ⟨true, false, false, false⟩ := fun p hi => (by as_aux_lemma => kernel_rfl)
theorem hy2_1100 : HY2 ⟨true, true, false, false⟩ := fun p hi => (by as_aux_lemma => kernel_rfl)
theorem hy2_0010 : HY2 ⟨false, false, true, false⟩ := fun p hi => (by as_aux_lemma => kernel_rfl)
theorem hy2_1110 : HY2 ⟨true, true, true, false⟩ := fun p hi => (by as_aux_lemma => kernel_rfl)
theorem hy2_0011 : HY2 ⟨false, false, true, true⟩ := fun p hi => (by as_aux_lemma => kernel_rfl)
theorem hy2_1111 : HY2 ⟨true, true, true, true⟩ := fun p hi => (by as_aux_lemma => kernel_rfl)
theorem hy2_0001 : HY2 ⟨false, false, false, true⟩ := fun p hi => (by as_aux_lemma => kernel_rfl)
theorem hy2_0101 : HY2 ⟨false, true, false, true⟩ := fun p hi => (by as_aux_lemma => kernel_rfl)
theorem hy2_1001 : HY2 ⟨true, false, false, true⟩ := fun p hi => (by as_aux_lemma => kernel_rfl)
theorem hy2_1101 : HY2 ⟨true, true, false, true⟩ := fun p hi => (by as_aux_lemma => kernel_rfl)
theorem hv2_0101 : HV2 ⟨false, true, false, true⟩ := fun p hi => (by as_aux_lemma => kernel_rfl)
theorem hv2_1101 : HV2 ⟨true, true, false, true⟩ := fun p hi => (by as_aux_lemma => kernel_rfl)
theorem hi1_0000 : HI1 ⟨false, false, false, false⟩ := fun p Wf => (by as_aux_lemma => kernel_rfl)
theorem hi1_0100 : HI1 ⟨false, true, false, false⟩ := fun p Wf => (by as_aux_lemma => kernel_rfl)
theorem hi1_1000 : HI1 ⟨true, false, false, false⟩ := fun p Wf => (by as_aux_lemma => kernel_rfl)
theorem hi1_1100 : HI1 ⟨true, true, false, false⟩ := fun p Wf => (by as_aux_lemma => kernel_rfl)
theorem hi1_0010 : HI1 ⟨false, false, true, false⟩ := fun p Wf => (by as_aux_lemma => kernel_rfl)
theorem hi1_1110 : HI1 ⟨true, true, true, false⟩ := fun p Wf => (by as_aux_lemma => kernel_rfl)
theorem hi1_0011 : HI1 ⟨false, false, true, true⟩ := fun p Wf => (by as_aux_lemma => kernel_rfl)
theorem hi1_1111 : HI1 ⟨true, true, true, true⟩ := fun p Wf => (by as_aux_lemma => kernel_rfl)
theorem hi1_0001 : HI1 ⟨false, false, false, true⟩ := fun p Wf => (by as_aux_lemma => kernel_rfl)
theorem hi1_0101 : HI1 ⟨false, true, false, true⟩ := fun p Wf => (by as_aux_lemma => kernel_rfl)
theorem hi1_1001 : HI1 ⟨true, false, false, true⟩ := fun p Wf => (by as_aux_lemma => kernel_rfl)
theorem hi1_1101 : HI1 ⟨true, true, false, true⟩ := fun p Wf => (by as_aux_lemma => kernel_rfl)
theorem hi2_0000 : HI2 ⟨false, false, false, false⟩ := fun p Wf => (by as_aux_lemma => kernel_rfl)
theorem hi2_0100 : HI2 ⟨false, true, false, false⟩ := fun p Wf => (by as_aux_lemma => kernel_rfl)
theorem hi2_1000 : HI2 ⟨true, false, false, false⟩ := fun p Wf => (by as_aux_lemma => kernel_rfl)
theorem hi2_1100 : HI2 ⟨true, true, false, false⟩ := fun p Wf => (by as_aux_lemma => kernel_rfl)
theorem hi2_0010 : HI2 ⟨false, false, true, false⟩ := fun p Wf => (by as_aux_lemma => kernel_rfl)
theorem hi2_1110 : HI2 ⟨true, true, true, false⟩ := fun p Wf => (by as_aux_lemma => kernel_rfl)
theorem hi2_0011 : HI2 ⟨false, false, true, true⟩ := fun p Wf => (by as_aux_lemma => kernel_rfl)
theorem hi2_1111 : HI2 ⟨true, true, true, true⟩ := fun p Wf => (by as_aux_lemma => kernel_rfl)
theorem hi2_0001 : HI2 ⟨false, false, false, true⟩ := fun p Wf => (by as_aux_lemma => kernel_rfl)
theorem hi2_0101 : HI2 ⟨false, true, false, true⟩ := fun p Wf => (by as_aux_lemma => kernel_rfl)
theorem hi2_1001 : HI2 ⟨true, false, false, true⟩ := fun p Wf => (by as_aux_lemma => kernel_rfl)
theorem hi2_1101 : HI2 ⟨true, true, false, true⟩ := fun p Wf => (by as_aux_lemma => kernel_rfl)
theorem hi3_0000 : HI3 ⟨false, false, false, false⟩ := fun p Wf => (by as_aux_lemma => kernel_rfl)
theorem hi3_0100 : HI3 ⟨false, true, false, false⟩ := fun p Wf => (by as_aux_lemma => kernel_rfl)
theorem hi3_1000 : HI3 ⟨true, false, false, false⟩ := fun p Wf => (by as_aux_lemma => kernel_rfl)
theorem hi3_1100 : HI3 ⟨true, true, false, false⟩ := fun p Wf => (by as_aux_lemma => kernel_rfl)
theorem hi3_0010 : HI3 ⟨false, false, true, false⟩ := fun p Wf => (by as_aux_lemma => kernel_rfl)
theorem hi3_1110 : HI3 ⟨true, true, true, false⟩ := fun p Wf => (by as_aux_lemma => kernel_rfl)
theorem hi3_0011 : HI3 ⟨false, false, true, true⟩ := fun p Wf => (by as_aux_lemma => kernel_rfl)
theorem hi3_1111 : HI3 ⟨true, true, true, true⟩ := fun p Wf => (by as_aux_lemma => kernel_rfl)
theorem he3_0000 : HE3 ⟨false, false, false, false⟩ := fun p Wf => (by as_aux_lemma => kernel_rfl)
theorem he3_0100 : HE3 ⟨false, true, false, false⟩ := fun p Wf => (by as_aux_lemma => kernel_rfl)
theorem he3_1000 : HE3 ⟨true, false, false, false⟩ := fun p Wf => (by as_aux_lemma => kernel_rfl)
theorem he3_1100 : HE3 ⟨true, true, false, false⟩ := fun p Wf => (by as_aux_lemma => kernel_rfl)
theorem he3_0010 : HE3 ⟨false, false, true, false⟩ := fun p Wf => (by as_aux_lemma => kernel_rfl)
theorem he3_1110 : HE3 ⟨true, true, true, false⟩ := fun p Wf => (by as_aux_lemma => kernel_rfl)
theorem he3_0011 : HE3 ⟨false, false, true, true⟩ := fun p Wf => (by as_aux_lemma => kernel_rfl)
theorem he3_1111 : HE3 ⟨true, true, true, true⟩ := fun p Wf => (by as_aux_lemma => kernel_rfl)
theorem hs9_0000 : HS9 ⟨false, false, false, false⟩ := fun p Wf => (by as_aux_lemma => kernel_rfl)
theorem hs9_0001 : HS9 ⟨false, false, false, true⟩ := fun p Wf => (by as_aux_lemma => kernel_rfl)
theorem hs9_0010 : HS9 ⟨false, false, true, false⟩ := fun p Wf => (by as_aux_lemma => kernel_rfl)
theorem hs9_0011 : HS9 ⟨false, false, true, true⟩ := fun p Wf => (by as_aux_lemma => kernel_rfl)
theorem hs9_0100 : HS9 ⟨false, true, false, false⟩ := fun p Wf => (by as_aux_lemma => kernel_rfl)
theorem hs9_0101 : HS9 ⟨false, true, false, true⟩ := fun p Wf => (by as_aux_lemma => kernel_rfl)
theorem hs9_0110 : HS9 ⟨false, true, true, false⟩ := fun p Wf => (by as_aux_lemma => kernel_rfl)
theorem hs9_0111 : HS9 ⟨false, true, true, true⟩ := fun p Wf => (by as_aux_lemma => kernel_rfl)
theorem hs9_1000 : HS9 ⟨true, false, false, false⟩ := fun p Wf => (by as_aux_lemma => kernel_rfl)
theorem hs9_1001 : HS9 ⟨true, false, false, true⟩ := fun p Wf => (by as_aux_lemma => kernel_rfl)
theorem hs9_1010 : HS9 ⟨true, false, true, false⟩ := fun p Wf => (by as_aux_lemma => kernel_rfl)
theorem hs9_1011 : HS9 ⟨true, false, true, true⟩ := fun p Wf => (by as_aux_lemma => kernel_rfl)
theorem hs9_1100 : HS9 ⟨true, true, false, false⟩ := fun p Wf => (by as_aux_lemma => kernel_rfl)
theorem hs9_1101 : HS9 ⟨true, true, false, true⟩ := fun p Wf => (by as_aux_lemma => kernel_rfl)
theorem hs9_1110 : HS9 ⟨true, true, true, false⟩ := fun p Wf => (by as_aux_lemma => kernel_rfl)
theorem hs9_1111 : HS9 ⟨true, true, true, true⟩ := fun p Wf => (by as_aux_lemma => kernel_rfl)
end Go.Proofs.YtbjgdfijonkomaaGreatDoor.nc
