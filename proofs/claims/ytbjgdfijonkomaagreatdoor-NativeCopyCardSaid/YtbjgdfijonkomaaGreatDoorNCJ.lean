/-
  The law NativeCopy: how it begins, where a slice is nil.
-/
import Derived.Test.YtbjgdfijonkomaaGreatDoorNCI
set_option linter.unusedVariables false
set_option linter.unusedSimpArgs false
set_option linter.unusedSectionVars false
set_option maxRecDepth 1000000
set_option maxHeartbeats 0
namespace Go.Proofs.YtbjgdfijonkomaaGreatDoor.nc
open Go.X Go.RowKit Go.Proofs
noncomputable def WX (la lb : Nat) (rf : Bool) : Nat → BitVec 64 := upd (upd (upd (fun _ => 0#64) 2 (BitVec.ofNat 64 la)) (3 + la) (Bool.rec 0#64 1#64 rf)) (5 + la) (BitVec.ofNat 64 lb)
noncomputable def LX (la lb : Nat) (rf : Bool) : List AV := (List.range (6 + la + lb)).map fun m => AV.int .u64 (wI (WX la lb rf m))
noncomputable abbrev cvL (la lb : Nat) (rf : Bool) : Cv := ⟨0, 6, ofPairs (rlE rf), [(.fo 0 0 1, 0), (.fo 1 1 1, 1), (.oi 0, 0), (.oi 1, 1), (.oi 2, 2), (.oi 3, 3), (.oi 4, 4), (.int .i64 ((3 + la : Nat) : Int), 8), (.int .i64 ((4 + la : Nat) : Int), 10), (.int .i64 ((6 + la + lb : Nat) : Int), 13)]⟩
noncomputable abbrev vpL (la lb : Nat) (rf : Bool) : VP := [(oldB rf 1, .cells (6 + la + lb) true [] (T.ofList 0 .leaf (LX la lb rf)), 6)]
noncomputable def nNN_b (k : Nat) : List BRow := []
noncomputable def nNN_c (k : Nat) : List (IntKind × AV × AV) := []
noncomputable def nNN_v : List (Nat × Nat) := []
section
variable (p : Pm) (lenA lenB : Int) (k : Nat) (k20 : k ≤ 20)
include p lenA lenB k k20
theorem nNN_bok : ∀ r ∈ nNN_b k, IbOk (ivE p lenA lenB) r := by
  letI := Tab.empty
  exact ibNil
theorem nNN_cok : ∀ r ∈ nNN_c k, IcOk (ivE p lenA lenB) r := allNil
theorem nNN_vok : ∀ q ∈ nNN_v, ivE p lenA lenB q.2 = (.i64, (q.1 : Int)) := allNil
end
noncomputable abbrev TNNN (p : Pm) (lenA lenB : Int) (k : Nat) (k20 : k ≤ 20) : Tab := TN (ivE p lenA lenB) 0 (fun _ _ => 0#64) (fgC p) (nNN_b k) (nNN_bok p lenA lenB k k20) (nNN_c k) (nNN_cok p lenA lenB k k20) nNN_v (nNN_vok p lenA lenB k k20) [] allNil [] allNil [] allNil
def GNNN (k : Nat) (rf sf : Bool) : Prop := ∀ p lenA lenB k20, firstTo (TNNN p lenA lenB k k20) Tryz.prog KK 3000 Tryz.f3.ntmps 9 cB (T.ofList 0 .leaf [.nils, .nils, .oi 2, .oi 3, .oi 4, .bool sf, .bool rf]) H.empty (cvL 0 0 rf) (vpL 0 0 rf) (fsE ⟨false, false, sf, rf⟩ (.oi 10)) (bsE rf) = true
noncomputable def nNS_b (k : Nat) : List BRow := [(13, .oi 1, .int .i64 20, .bool false), (11, .oi 1, .int .i64 0, .bool false), (13, .oi 1, .int .i64 2147483647, .bool false), (2, .oi 1, .int .i64 8, .int .i64 ((k * 8 : Nat) : Int))]
noncomputable def nNS_c (k : Nat) : List (IntKind × AV × AV) := [(.u64, .oi 1, .int .u64 (k : Int))]
noncomputable def nNS_v : List (Nat × Nat) := []
section
variable (p : Pm) (lenA lenB : Int) (k : Nat) (k20 : k ≤ 20) (hk : p.lb = k)
include p lenA lenB k k20 hk
theorem nNS_bok : ∀ r ∈ nNS_b k, IbOk (ivE p lenA lenB) r := by
  letI := Tab.empty
  exact (ibCons (ibGt (a := (p.lb : Int)) (b := 20) rfl rfl (decide_eq_false (by omega))) (ibCons (ibLt (a := (p.lb : Int)) (b := 0) rfl rfl (decide_eq_false (by omega))) (ibCons (ibGt (a := (p.lb : Int)) (b := 2147483647) rfl rfl (decide_eq_false (by omega))) (ibCons (ibMul (a := (p.lb : Int)) (b := 8) (c := ((k * 8 : Nat) : Int)) rfl rfl rfl (by omega) (by omega) (by omega)) ibNil))))
theorem nNS_cok : ∀ r ∈ nNS_c k, IcOk (ivE p lenA lenB) r := (allCons (icOf (k := .u64) (n := (p.lb : Int)) (c := (k : Int)) rfl rfl (by rw [hk]; exact wrapU64 (by omega) (by omega))) allNil)
theorem nNS_vok : ∀ q ∈ nNS_v, ivE p lenA lenB q.2 = (.i64, (q.1 : Int)) := allNil
end
noncomputable abbrev TNNS (p : Pm) (lenA lenB : Int) (k : Nat) (k20 : k ≤ 20) (hk : p.lb = k) : Tab := TN (ivE p lenA lenB) 0 (fun _ _ => 0#64) (fgC p) (nNS_b k) (nNS_bok p lenA lenB k k20 hk) (nNS_c k) (nNS_cok p lenA lenB k k20 hk) nNS_v (nNS_vok p lenA lenB k k20 hk) [] allNil [] allNil [] allNil
def GNNS (k : Nat) (rf sf : Bool) : Prop := ∀ p lenA lenB k20 hk, firstTo (TNNS p lenA lenB k k20 hk) Tryz.prog KK 3000 Tryz.f3.ntmps 9 cB (T.ofList 0 .leaf [.nils, .fo 1 1 1, .oi 2, .oi 3, .oi 4, .bool sf, .bool rf]) H.empty (cvL 0 k rf) (vpL 0 k rf) (fsE ⟨false, true, sf, rf⟩ (.oi 10)) (bsE rf) = true
noncomputable def nNB_b (k : Nat) : List BRow := [(13, .oi 6, .int .i64 20, .bool true), (12, .oi 1, .oi 6, .bool true), (14, .oi 1, .int .i64 0, .bool true), (11, .oi 1, .int .i64 0, .bool false), (13, .oi 1, .int .i64 2147483647, .bool false), (2, .oi 1, .int .i64 8, .int .i64 ((k * 8 : Nat) : Int))]
noncomputable def nNB_c (k : Nat) : List (IntKind × AV × AV) := [(.u64, .oi 1, .int .u64 (k : Int))]
noncomputable def nNB_v : List (Nat × Nat) := [(20, 1)]
section
variable (p : Pm) (lenA lenB : Int) (k : Nat) (k20 : k ≤ 20) (hk : p.lb = k) (gB : 20 < lenB) (hB : k = 20)
include p lenA lenB k k20 hk gB hB
theorem nNB_bok : ∀ r ∈ nNB_b k, IbOk (ivE p lenA lenB) r := by
  letI := Tab.empty
  exact (ibCons (ibGt (a := lenB) (b := 20) rfl rfl (decide_eq_true (by omega))) (ibCons (ibLe (a := (p.lb : Int)) (b := lenB) rfl rfl (decide_eq_true (by omega))) (ibCons (ibGe (a := (p.lb : Int)) (b := 0) rfl rfl (decide_eq_true (by omega))) (ibCons (ibLt (a := (p.lb : Int)) (b := 0) rfl rfl (decide_eq_false (by omega))) (ibCons (ibGt (a := (p.lb : Int)) (b := 2147483647) rfl rfl (decide_eq_false (by omega))) (ibCons (ibMul (a := (p.lb : Int)) (b := 8) (c := ((k * 8 : Nat) : Int)) rfl rfl rfl (by omega) (by omega) (by omega)) ibNil))))))
theorem nNB_cok : ∀ r ∈ nNB_c k, IcOk (ivE p lenA lenB) r := (allCons (icOf (k := .u64) (n := (p.lb : Int)) (c := (k : Int)) rfl rfl (by rw [hk]; exact wrapU64 (by omega) (by omega))) allNil)
theorem nNB_vok : ∀ q ∈ nNB_v, ivE p lenA lenB q.2 = (.i64, (q.1 : Int)) := (allCons (by show ivE p lenA lenB 1 = (.i64, ((20 : Nat) : Int)); show (IntKind.i64, (p.lb : Int)) = _; rw [hk, hB]) allNil)
end
noncomputable abbrev TNNB (p : Pm) (lenA lenB : Int) (k : Nat) (k20 : k ≤ 20) (hk : p.lb = k) (gB : 20 < lenB) (hB : k = 20) : Tab := TN (ivE p lenA lenB) 0 (fun _ _ => 0#64) (fgC p) (nNB_b k) (nNB_bok p lenA lenB k k20 hk gB hB) (nNB_c k) (nNB_cok p lenA lenB k k20 hk gB hB) nNB_v (nNB_vok p lenA lenB k k20 hk gB hB) [] allNil [] allNil [] allNil
def GNNB (k : Nat) (rf sf : Bool) : Prop := ∀ p lenA lenB k20 hk gB hB, firstTo (TNNB p lenA lenB k k20 hk gB hB) Tryz.prog KK 3000 Tryz.f3.ntmps 9 cB (T.ofList 0 .leaf [.nils, .fo 1 6 1, .oi 2, .oi 3, .oi 4, .bool sf, .bool rf]) H.empty (cvL 0 k rf) (vpL 0 k rf) (fsE ⟨false, true, sf, rf⟩ (.oi 10)) (bsE rf) = true
noncomputable def nSN_b (k : Nat) : List BRow := [(13, .oi 0, .int .i64 20, .bool false), (11, .oi 0, .int .i64 0, .bool false), (13, .oi 0, .int .i64 2147483647, .bool false), (2, .oi 0, .int .i64 8, .int .i64 ((k * 8 : Nat) : Int))]
noncomputable def nSN_c (k : Nat) : List (IntKind × AV × AV) := [(.u64, .oi 0, .int .u64 (k : Int))]
noncomputable def nSN_v : List (Nat × Nat) := []
section
variable (p : Pm) (lenA lenB : Int) (k : Nat) (k20 : k ≤ 20) (hk : p.la = k)
include p lenA lenB k k20 hk
theorem nSN_bok : ∀ r ∈ nSN_b k, IbOk (ivE p lenA lenB) r := by
  letI := Tab.empty
  exact (ibCons (ibGt (a := (p.la : Int)) (b := 20) rfl rfl (decide_eq_false (by omega))) (ibCons (ibLt (a := (p.la : Int)) (b := 0) rfl rfl (decide_eq_false (by omega))) (ibCons (ibGt (a := (p.la : Int)) (b := 2147483647) rfl rfl (decide_eq_false (by omega))) (ibCons (ibMul (a := (p.la : Int)) (b := 8) (c := ((k * 8 : Nat) : Int)) rfl rfl rfl (by omega) (by omega) (by omega)) ibNil))))
theorem nSN_cok : ∀ r ∈ nSN_c k, IcOk (ivE p lenA lenB) r := (allCons (icOf (k := .u64) (n := (p.la : Int)) (c := (k : Int)) rfl rfl (by rw [hk]; exact wrapU64 (by omega) (by omega))) allNil)
theorem nSN_vok : ∀ q ∈ nSN_v, ivE p lenA lenB q.2 = (.i64, (q.1 : Int)) := allNil
end
noncomputable abbrev TNSN (p : Pm) (lenA lenB : Int) (k : Nat) (k20 : k ≤ 20) (hk : p.la = k) : Tab := TN (ivE p lenA lenB) 0 (fun _ _ => 0#64) (fgC p) (nSN_b k) (nSN_bok p lenA lenB k k20 hk) (nSN_c k) (nSN_cok p lenA lenB k k20 hk) nSN_v (nSN_vok p lenA lenB k k20 hk) [] allNil [] allNil [] allNil
def GNSN (k : Nat) (rf sf : Bool) : Prop := ∀ p lenA lenB k20 hk, firstTo (TNSN p lenA lenB k k20 hk) Tryz.prog KK 3000 Tryz.f3.ntmps 9 cB (T.ofList 0 .leaf [.fo 0 0 1, .nils, .oi 2, .oi 3, .oi 4, .bool sf, .bool rf]) H.empty (cvL k 0 rf) (vpL k 0 rf) (fsE ⟨true, false, sf, rf⟩ (.oi 10)) (bsE rf) = true
noncomputable def nBN_b (k : Nat) : List BRow := [(13, .oi 5, .int .i64 20, .bool true), (12, .oi 0, .oi 5, .bool true), (14, .oi 0, .int .i64 0, .bool true), (11, .oi 0, .int .i64 0, .bool false), (13, .oi 0, .int .i64 2147483647, .bool false), (2, .oi 0, .int .i64 8, .int .i64 ((k * 8 : Nat) : Int))]
noncomputable def nBN_c (k : Nat) : List (IntKind × AV × AV) := [(.u64, .oi 0, .int .u64 (k : Int))]
noncomputable def nBN_v : List (Nat × Nat) := [(20, 0)]
section
variable (p : Pm) (lenA lenB : Int) (k : Nat) (k20 : k ≤ 20) (hk : p.la = k) (gA : 20 < lenA) (hB : k = 20)
include p lenA lenB k k20 hk gA hB
theorem nBN_bok : ∀ r ∈ nBN_b k, IbOk (ivE p lenA lenB) r := by
  letI := Tab.empty
  exact (ibCons (ibGt (a := lenA) (b := 20) rfl rfl (decide_eq_true (by omega))) (ibCons (ibLe (a := (p.la : Int)) (b := lenA) rfl rfl (decide_eq_true (by omega))) (ibCons (ibGe (a := (p.la : Int)) (b := 0) rfl rfl (decide_eq_true (by omega))) (ibCons (ibLt (a := (p.la : Int)) (b := 0) rfl rfl (decide_eq_false (by omega))) (ibCons (ibGt (a := (p.la : Int)) (b := 2147483647) rfl rfl (decide_eq_false (by omega))) (ibCons (ibMul (a := (p.la : Int)) (b := 8) (c := ((k * 8 : Nat) : Int)) rfl rfl rfl (by omega) (by omega) (by omega)) ibNil))))))
theorem nBN_cok : ∀ r ∈ nBN_c k, IcOk (ivE p lenA lenB) r := (allCons (icOf (k := .u64) (n := (p.la : Int)) (c := (k : Int)) rfl rfl (by rw [hk]; exact wrapU64 (by omega) (by omega))) allNil)
theorem nBN_vok : ∀ q ∈ nBN_v, ivE p lenA lenB q.2 = (.i64, (q.1 : Int)) := (allCons (by show ivE p lenA lenB 0 = (.i64, ((20 : Nat) : Int)); show (IntKind.i64, (p.la : Int)) = _; rw [hk, hB]) allNil)
end
noncomputable abbrev TNBN (p : Pm) (lenA lenB : Int) (k : Nat) (k20 : k ≤ 20) (hk : p.la = k) (gA : 20 < lenA) (hB : k = 20) : Tab := TN (ivE p lenA lenB) 0 (fun _ _ => 0#64) (fgC p) (nBN_b k) (nBN_bok p lenA lenB k k20 hk gA hB) (nBN_c k) (nBN_cok p lenA lenB k k20 hk gA hB) nBN_v (nBN_vok p lenA lenB k k20 hk gA hB) [] allNil [] allNil [] allNil
def GNBN (k : Nat) (rf sf : Bool) : Prop := ∀ p lenA lenB k20 hk gA hB, firstTo (TNBN p lenA lenB k k20 hk gA hB) Tryz.prog KK 3000 Tryz.f3.ntmps 9 cB (T.ofList 0 .leaf [.fo 0 5 1, .nils, .oi 2, .oi 3, .oi 4, .bool sf, .bool rf]) H.empty (cvL k 0 rf) (vpL k 0 rf) (fsE ⟨true, false, sf, rf⟩ (.oi 10)) (bsE rf) = true
end Go.Proofs.YtbjgdfijonkomaaGreatDoor.nc
