/-
  Steps of the machine within the law TopMatrix.
-/
import Derived.Test.YthgncmohimdbmaaGreatDoorMXS
import Derived.Test.YthgncmohimdbmaaGreatDoorXN3
import Derived.Test.YthgncmohimdbmaaGreatDoorMBM
import Derived.Test.YthgncmohimdbmaaGreatDoorProg
import Derived.KernelRfl
set_option linter.unusedSectionVars false
set_option linter.unusedVariables false
set_option maxRecDepth 1000000
set_option maxHeartbeats 0
namespace Go.Proofs.YthgncmohimdbmaaGreatDoor.mx
open Go.X Go.RowKit Go.Proofs.YthgncmohimdbmaaGreatDoor
section
variable {B : Kp} {w0 : World} {μ : M} {a : Act} {w : World}
theorem ibR {n : Nat} {m : Nat} {i : Nat} {j : Nat} {s : Nat} {r : Nat} {tw : Nat} {W : Nat → BitVec 64} {F : Nat → Int} (h1 : n < 20) (h2 : m < 20) (h3 : tw < 900) (h4 : i ≤ n) (h5 : r < 90000) (h6 : s < 400000) (h7 : j ≤ 20) (h8 : i < n) : ∀ x_ ∈ ([(14, .oi 6, .int .i64 100000, .bool false), (0, .oi 6, .int .i64 1, .oi 10), (14, .oi 10, .int .i64 100000, .bool false), (0, .oi 10, .int .i64 1, .oi 11), (14, .oi 11, .int .i64 100000, .bool false), (0, .oi 11, .int .i64 1, .oi 12), (14, .oi 2, .oi 0, .bool false), (14, .oi 12, .int .i64 100000, .bool false), (0, .oi 12, .int .i64 1, .oi 13), (14, .oi 13, .int .i64 100000, .bool false), (0, .oi 13, .int .i64 1, .oi 14)] : List BRow), IbOk (ivR n m i j s r tw W F) x_ := by
  letI := Tab.empty
  exact (ibCons (ibGe (a := (((r : Nat) : Int))) (b := (100000)) rfl rfl (decide_eq_false (by omega)))
    (ibCons (ibAdd (a := (((r : Nat) : Int))) (b := (1)) (c := (((r + 1 : Nat) : Int))) rfl rfl rfl (by first | assumption | omega) (by omega) (by omega))
    (ibCons (ibGe (a := (((r + 1 : Nat) : Int))) (b := (100000)) rfl rfl (decide_eq_false (by omega)))
    (ibCons (ibAdd (a := (((r + 1 : Nat) : Int))) (b := (1)) (c := (((r + 2 : Nat) : Int))) rfl rfl rfl (by first | assumption | omega) (by omega) (by omega))
    (ibCons (ibGe (a := (((r + 2 : Nat) : Int))) (b := (100000)) rfl rfl (decide_eq_false (by omega)))
    (ibCons (ibAdd (a := (((r + 2 : Nat) : Int))) (b := (1)) (c := (((r + 3 : Nat) : Int))) rfl rfl rfl (by first | assumption | omega) (by omega) (by omega))
    (ibCons (ibGe (a := (((i : Nat) : Int))) (b := (((n : Nat) : Int))) rfl rfl (decide_eq_false (by omega)))
    (ibCons (ibGe (a := (((r + 3 : Nat) : Int))) (b := (100000)) rfl rfl (decide_eq_false (by omega)))
    (ibCons (ibAdd (a := (((r + 3 : Nat) : Int))) (b := (1)) (c := (((r + 4 : Nat) : Int))) rfl rfl rfl (by first | assumption | omega) (by omega) (by omega))
    (ibCons (ibGe (a := (((r + 4 : Nat) : Int))) (b := (100000)) rfl rfl (decide_eq_false (by omega)))
    (ibCons (ibAdd (a := (((r + 4 : Nat) : Int))) (b := (1)) (c := (((r + 5 : Nat) : Int))) rfl rfl rfl (by first | assumption | omega) (by omega) (by omega))
    ibNil)))))))))))
theorem icR {n : Nat} {m : Nat} {i : Nat} {j : Nat} {s : Nat} {r : Nat} {tw : Nat} {W : Nat → BitVec 64} {F : Nat → Int} (h1 : n < 20) (h2 : m < 20) (h3 : tw < 900) (h4 : i ≤ n) (h5 : r < 90000) (h6 : s < 400000) (h7 : j ≤ 20) (h8 : i < n) : ∀ x_ ∈ ([] : List (IntKind × AV × AV)), IcOk' (ivR n m i j s r tw W F) x_ := icNil
theorem vlR {n : Nat} {m : Nat} {i : Nat} {j : Nat} {s : Nat} {r : Nat} {tw : Nat} {W : Nat → BitVec 64} {F : Nat → Int} (h1 : n < 20) (h2 : m < 20) (h3 : tw < 900) (h4 : i ≤ n) (h5 : r < 90000) (h6 : s < 400000) (h7 : j ≤ 20) (h8 : i < n) : ∀ x_ ∈ ([] : List VL), VlOk (ivR n m i j s r tw W F) (vvR n m i j s r tw W F) x_ :=
  allNil
theorem vsR {n : Nat} {m : Nat} {i : Nat} {j : Nat} {s : Nat} {r : Nat} {tw : Nat} {W : Nat → BitVec 64} {F : Nat → Int} (h1 : n < 20) (h2 : m < 20) (h3 : tw < 900) (h4 : i ≤ n) (h5 : r < 90000) (h6 : s < 400000) (h7 : j ≤ 20) (h8 : i < n) : ∀ x_ ∈ ([] : List VS), VsOk (ivR n m i j s r tw W F) (vvR n m i j s r tw W F) (vkR n m i j s r tw W F) x_ :=
  allNil
theorem vzR {n : Nat} {m : Nat} {i : Nat} {j : Nat} {s : Nat} {r : Nat} {tw : Nat} {W : Nat → BitVec 64} {F : Nat → Int} (h1 : n < 20) (h2 : m < 20) (h3 : tw < 900) (h4 : i ≤ n) (h5 : r < 90000) (h6 : s < 400000) (h7 : j ≤ 20) (h8 : i < n) : ∀ x_ ∈ ([] : List VZ), VzOk (ivR n m i j s r tw W F) (vvR n m i j s r tw W F) (vkR n m i j s r tw W F) x_ :=
  allNil
theorem vaR {n : Nat} {m : Nat} {i : Nat} {j : Nat} {s : Nat} {r : Nat} {tw : Nat} {W : Nat → BitVec 64} {F : Nat → Int} (h1 : n < 20) (h2 : m < 20) (h3 : tw < 900) (h4 : i ≤ n) (h5 : r < 90000) (h6 : s < 400000) (h7 : j ≤ 20) (h8 : i < n) : ∀ x_ ∈ ([] : List VA), VaOk (ivR n m i j s r tw W F) (vvR n m i j s r tw W F) (vkR n m i j s r tw W F) x_ :=
  allNil
abbrev RR {n : Nat} {m : Nat} {i : Nat} {j : Nat} {s : Nat} {r : Nat} {tw : Nat} {W : Nat → BitVec 64} {F : Nat → Int} (h1 : n < 20) (h2 : m < 20) (h3 : tw < 900) (h4 : i ≤ n) (h5 : r < 90000) (h6 : s < 400000) (h7 : j ≤ 20) (h8 : i < n) : VRows (ivR n m i j s r tw W F) (vvR n m i j s r tw W F) (vkR n m i j s r tw W F) where
  vvp := vpR n m i j s r tw W F
  ib := [(14, .oi 6, .int .i64 100000, .bool false), (0, .oi 6, .int .i64 1, .oi 10), (14, .oi 10, .int .i64 100000, .bool false), (0, .oi 10, .int .i64 1, .oi 11), (14, .oi 11, .int .i64 100000, .bool false), (0, .oi 11, .int .i64 1, .oi 12), (14, .oi 2, .oi 0, .bool false), (14, .oi 12, .int .i64 100000, .bool false), (0, .oi 12, .int .i64 1, .oi 13), (14, .oi 13, .int .i64 100000, .bool false), (0, .oi 13, .int .i64 1, .oi 14)]
  ibok := ibR h1 h2 h3 h4 h5 h6 h7 h8
  ic := []
  icok := icR h1 h2 h3 h4 h5 h6 h7 h8
  vl := []
  vlok := vlR h1 h2 h3 h4 h5 h6 h7 h8
  vs := []
  vsok := vsR h1 h2 h3 h4 h5 h6 h7 h8
  vz := []
  vzok := vzR h1 h2 h3 h4 h5 h6 h7 h8
  va := []
  vaok := vaR h1 h2 h3 h4 h5 h6 h7 h8
  vc := []
  vcok := allNil
noncomputable abbrev rl_goR : List (Nat × Nat) := [(20000, 20000), (20001, 20087), (20002, 20088), (20003, 20003), (20004, 20004), (20005, 20005), (20006, 20006), (20007, 20007), (20008, 20008), (20010, 20010), (20011, 20011), (20012, 20012)]
noncomputable abbrev bs_goR : BS := [(10416, 10416, kb11), (10422, 10422, kb0), (13762, 13762, kb1), (13763, 13763, kb2), (13765, 13765, (.map [((.str 10 345494350552775703080525), (.oi 6), 0)] 1)), (13766, 13766, kb12), (14064, 14064, kb3), (14391, 14391, kb4), (15753, 15753, kb5), (15758, 15758, kb6), (20000, 20000, kb7), (20001, 20087, kb14), (20002, 20088, kb15), (20003, 20003, (.vec 0)), (20004, 20004, (.vec 1)), (20005, 20005, kb10), (20006, 20006, kb13), (20007, 20007, (.cells 1 true [] (T.ofList 0 .leaf [(.ptr 20008 0)]))), (20008, 20008, (.cells 6 false [] (T.ofList 0 .leaf [(.int .i64 0), (.int .i64 0), (.ptr 14064 0), (.int .i64 0), (.int .i64 22), .nilp]))), (20010, 20010, kb8), (20011, 20011, kb9)]
noncomputable abbrev ip_goR : IP := [(.oi 8, 8), (.oi 9, 9), (.oi 14, 6), (.oi 0, 0), (.oi 1, 1), (.oi 2, 2), (.int .i64 0, 4), (.oi 5, 5), (.oi 3, 3), (.oi 7, 7)]
theorem bq_goR : hOf 20040 bs_goR = hOf 20040 bsC := hOf_congr (by kernel_rfl)
theorem goR {u x : Nat} {n : Nat} {m : Nat} {i : Nat} {j : Nat} {s : Nat} {r : Nat} {tw : Nat} {W : Nat → BitVec 64} {F : Nat → Int} (h1 : n < 20) (h2 : m < 20) (h3 : tw < 900) (h4 : i ≤ n) (h5 : r < 90000) (h6 : s < 400000) (h7 : j ≤ 20) (h8 : i < n) (hb : Base B μ 20000) {Q : Exit → Act → World → Prop} {j_ : Nat} (s_ : SR n m i j s r tw W F B w0 μ a w) (hQ : ∀ a' w', SC (n) (m) (i) (0) (s) (r + 5) (tw) (u) (x) (W) (F) B w0 μ a' w' → Code.rounds Tryz.prog la Q j_ a' w') : Code.rounds Tryz.prog la Q (j_ + 5) a w := by
  have hip : IpOk ((RR (n := n) (m := m) (i := i) (j := j) (s := s) (r := r) (tw := tw) (W := W) (F := F) h1 h2 h3 h4 h5 h6 h7 h8).tab) (PC (n) (m) (i) (0) (s) (r + 5) (tw) (u) (x) (W) (F)) ip_goR := (ipCons (ipN (.i64, ((tw + 11 : Nat) : Int)) rfl rfl) (ipCons (ipN (.i64, ((n + 4 : Nat) : Int)) rfl rfl) (ipCons (ipN (.i64, ((r + 5 : Nat) : Int)) rfl (show (IntKind.i64, (((r + 5) : Nat) : Int)) = (IntKind.i64, ((r + 5 : Nat) : Int)) from Prod.ext rfl (show ((((r + 5) : Nat) : Int) : Int) = ((r + 5 : Nat) : Int) by omega))) (ipCons (ipN (.i64, ((n : Nat) : Int)) rfl rfl) (ipCons (ipN (.i64, ((m : Nat) : Int)) rfl rfl) (ipCons (ipN (.i64, ((i : Nat) : Int)) rfl rfl) (ipCons (ipK (show (IntKind.i64, ((0 : Nat) : Int)) = (IntKind.i64, 0) from Prod.ext rfl (show (((0 : Nat) : Int) : Int) = 0 by omega))) (ipCons (ipN (.i64, ((9 : Nat) : Int)) rfl rfl) (ipCons (ipN (.i64, ((s : Nat) : Int)) rfl rfl) (ipCons (ipN (.u64, ((n : Nat) : Int)) rfl rfl) ipNil))))))))))
  have hvp : VpOk ((RR (n := n) (m := m) (i := i) (j := j) (s := s) (r := r) (tw := tw) (W := W) (F := F) h1 h2 h3 h4 h5 h6 h7 h8).tab) (PC (n) (m) (i) (0) (s) (r + 5) (tw) (u) (x) (W) (F)) ⟨20000, 20040, ofPairs rl_goR, ip_goR⟩ [(20003, .vec 0, 0), (20004, .vec 1, 1)] := (vpCons (vpW (T := ((RR (n := n) (m := m) (i := i) (j := j) (s := s) (r := r) (tw := tw) (W := W) (F := F) h1 h2 h3 h4 h5 h6 h7 h8).tab)) (T' := (PC (n) (m) (i) (0) (s) (r + 5) (tw) (u) (x) (W) (F))) (i := 0) (i' := 0) hip (L := [(.int .u64 0), (.int .u64 0), (.int .u64 1), (.int .u64 0), (.int .u64 0), (.int .u64 2), (.int .u64 0), (.int .u64 0), (.int .u64 3), (.int .u64 0), (.oi 7)]) (L' := [(.int .u64 0), (.int .u64 0), (.int .u64 1), (.int .u64 0), (.int .u64 0), (.int .u64 2), (.int .u64 0), (.int .u64 0), (.int .u64 3), (.int .u64 0), (.oi 7)]) (n := 11 + tw) (n' := 11 + tw) (W := W) (W' := W) rfl rfl (Nat.le_refl _) (Nat.le_refl _) (by decide) (show 11 ≤ 11 + tw by omega) (by kernel_rfl) (fun _ _ h_ => vw_none (Nat.le_add_right _ _) h_) (fun q_ _ => congrArg (W) (show q_ = 0 + q_ from (Nat.zero_add q_).symm)))
    (vpCons (vpN (T := ((RR (n := n) (m := m) (i := i) (j := j) (s := s) (r := r) (tw := tw) (W := W) (F := F) h1 h2 h3 h4 h5 h6 h7 h8).tab)) (T' := (PC (n) (m) (i) (0) (s) (r + 5) (tw) (u) (x) (W) (F))) (i := 1) (i' := 1) hip (L := [(.int .i64 0), (.int .i64 2), (.int .i64 5), (.int .i64 8)]) (L' := [(.int .i64 0), (.int .i64 2), (.int .i64 5), (.int .i64 8)]) (n := n + 4) (n' := n + 4) (F := F) (F' := F) rfl rfl (Nat.le_refl _) (Nat.le_refl _) (by decide) (show 4 ≤ n + 4 by omega) (by kernel_rfl) (fun _ _ h_ => vw_none (Nat.le_add_right _ _) h_) (fun q_ _ => congrArg (F) (show q_ = 0 + q_ from (Nat.zero_add q_).symm)))
    vpNil))
  exact stepsTo_sound (T := ((RR (n := n) (m := m) (i := i) (j := j) (s := s) (r := r) (tw := tw) (W := W) (F := F) h1 h2 h3 h4 h5 h6 h7 h8).tab)) (T' := (PC (n) (m) (i) (0) (s) (r + 5) (tw) (u) (x) (W) (F))) (K := Hand.none) (m := 5000) mixed (@HandOk.none ((RR (n := n) (m := m) (i := i) (j := j) (s := s) (r := r) (tw := tw) (W := W) (F := F) h1 h2 h3 h4 h5 h6 h7 h8).tab) Tryz.prog) (C := ⟨20000, 20040, ofPairs rl_goR, ip_goR⟩) (ex := .normal) (rl := rl_goR) (vp := [(20003, .vec 0, 0), (20004, .vec 1, 1)]) (fs := fsR) (bs := bs_goR)
    hb (by decide) rfl (by kernel_rfl) hip hvp (glNone rfl rfl) (by as_aux_lemma => kernel_rfl) (St.same (VRows.same _ _) s_) (fun a' w' q => hQ a' w' (by rw [bq_goR] at q; exact q))
end
end Go.Proofs.YthgncmohimdbmaaGreatDoor.mx
