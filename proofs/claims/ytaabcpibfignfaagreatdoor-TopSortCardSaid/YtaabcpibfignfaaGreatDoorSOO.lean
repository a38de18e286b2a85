/-
  Steps of the machine within the law TopSort.
-/
import Derived.Test.YtaabcpibfignfaaGreatDoorSONN
import Derived.Test.YtaabcpibfignfaaGreatDoorSOS
import Derived.Test.YtaabcpibfignfaaGreatDoorXN3
import Derived.Test.YtaabcpibfignfaaGreatDoorProg
import Derived.KernelRfl
set_option linter.unusedSectionVars false
set_option linter.unusedVariables false
set_option maxRecDepth 1000000
set_option maxHeartbeats 0
namespace Go.Proofs.YtaabcpibfignfaaGreatDoor.so
open Go.X Go.RowKit Go.Proofs.YtaabcpibfignfaaGreatDoor
section
variable {B : Kp} {w0 : World} {μ : M} {a : Act} {w : World}
theorem ibO {n : Nat} {s : Nat} {i : Nat} {j : Nat} {r : Nat} {W : Nat → BitVec 64} (h1 : n < 25) (h2 : s < 1009) (h3 : i ≤ n) (h4 : r < 90000) (h5 : j ≤ 25) (h6 : 2 ≤ i) : ∀ x_ ∈ ([(14, .oi 4, .int .i64 100000, .bool false), (0, .oi 4, .int .i64 1, .oi 9), (0, .oi 2, .int .i64 (-1), .oi 10), (14, .oi 9, .int .i64 100000, .bool false), (0, .oi 9, .int .i64 1, .oi 12), (14, .oi 12, .int .i64 100000, .bool false), (0, .oi 12, .int .i64 1, .oi 13), (12, .oi 10, .int .i64 0, .bool false), (14, .oi 13, .int .i64 100000, .bool false), (0, .oi 13, .int .i64 1, .oi 14), (14, .oi 14, .int .i64 100000, .bool false), (0, .oi 14, .int .i64 1, .oi 15)] : List BRow), IbOk (ivO n s i j r W) x_ := by
  letI := Tab.empty
  exact (ibCons (ibGe (a := (((r : Nat) : Int))) (b := (100000)) rfl rfl (decide_eq_false (by omega)))
    (ibCons (ibAdd (a := (((r : Nat) : Int))) (b := (1)) (c := (((r + 1 : Nat) : Int))) rfl rfl rfl (by first | assumption | omega) (by omega) (by omega))
    (ibCons (ibAdd (a := (((i : Nat) : Int))) (b := (-1)) (c := ((i : Int) - 1)) rfl rfl rfl (by first | assumption | omega) (by omega) (by omega))
    (ibCons (ibGe (a := (((r + 1 : Nat) : Int))) (b := (100000)) rfl rfl (decide_eq_false (by omega)))
    (ibCons (ibAdd (a := (((r + 1 : Nat) : Int))) (b := (1)) (c := (((r + 2 : Nat) : Int))) rfl rfl rfl (by first | assumption | omega) (by omega) (by omega))
    (ibCons (ibGe (a := (((r + 2 : Nat) : Int))) (b := (100000)) rfl rfl (decide_eq_false (by omega)))
    (ibCons (ibAdd (a := (((r + 2 : Nat) : Int))) (b := (1)) (c := (((r + 3 : Nat) : Int))) rfl rfl rfl (by first | assumption | omega) (by omega) (by omega))
    (ibCons (ibLe (a := ((i : Int) - 1)) (b := (0)) rfl rfl (decide_eq_false (by omega)))
    (ibCons (ibGe (a := (((r + 3 : Nat) : Int))) (b := (100000)) rfl rfl (decide_eq_false (by omega)))
    (ibCons (ibAdd (a := (((r + 3 : Nat) : Int))) (b := (1)) (c := (((r + 4 : Nat) : Int))) rfl rfl rfl (by first | assumption | omega) (by omega) (by omega))
    (ibCons (ibGe (a := (((r + 4 : Nat) : Int))) (b := (100000)) rfl rfl (decide_eq_false (by omega)))
    (ibCons (ibAdd (a := (((r + 4 : Nat) : Int))) (b := (1)) (c := (((r + 5 : Nat) : Int))) rfl rfl rfl (by first | assumption | omega) (by omega) (by omega))
    ibNil))))))))))))
theorem icO {n : Nat} {s : Nat} {i : Nat} {j : Nat} {r : Nat} {W : Nat → BitVec 64} (h1 : n < 25) (h2 : s < 1009) (h3 : i ≤ n) (h4 : r < 90000) (h5 : j ≤ 25) (h6 : 2 ≤ i) : ∀ x_ ∈ ([(.i32, .oi 10, .oi 11), (.i64, .oi 11, .oi 10)] : List (IntKind × AV × AV)), IcOk' (ivO n s i j r W) x_ := (icCons (ic32 (n := ((i : Int) - 1)) rfl rfl (by omega) (by omega)) (icCons (ic64 (n := ((i : Int) - 1)) rfl rfl (by omega) (by omega)) icNil))
theorem vlO {n : Nat} {s : Nat} {i : Nat} {j : Nat} {r : Nat} {W : Nat → BitVec 64} (h1 : n < 25) (h2 : s < 1009) (h3 : i ≤ n) (h4 : r < 90000) (h5 : j ≤ 25) (h6 : 2 ≤ i) : ∀ x_ ∈ ([] : List VL), VlOk (ivO n s i j r W) (vvO n s i j r W) x_ :=
  allNil
theorem vsO {n : Nat} {s : Nat} {i : Nat} {j : Nat} {r : Nat} {W : Nat → BitVec 64} (h1 : n < 25) (h2 : s < 1009) (h3 : i ≤ n) (h4 : r < 90000) (h5 : j ≤ 25) (h6 : 2 ≤ i) : ∀ x_ ∈ ([] : List VS), VsOk (ivO n s i j r W) (vvO n s i j r W) (vkO n s i j r W) x_ :=
  allNil
theorem vzO {n : Nat} {s : Nat} {i : Nat} {j : Nat} {r : Nat} {W : Nat → BitVec 64} (h1 : n < 25) (h2 : s < 1009) (h3 : i ≤ n) (h4 : r < 90000) (h5 : j ≤ 25) (h6 : 2 ≤ i) : ∀ x_ ∈ ([] : List VZ), VzOk (ivO n s i j r W) (vvO n s i j r W) (vkO n s i j r W) x_ :=
  allNil
abbrev RO {n : Nat} {s : Nat} {i : Nat} {j : Nat} {r : Nat} {W : Nat → BitVec 64} (h1 : n < 25) (h2 : s < 1009) (h3 : i ≤ n) (h4 : r < 90000) (h5 : j ≤ 25) (h6 : 2 ≤ i) : VRows (ivO n s i j r W) (vvO n s i j r W) (vkO n s i j r W) where
  vvp := vpO n s i j r W
  ib := [(14, .oi 4, .int .i64 100000, .bool false), (0, .oi 4, .int .i64 1, .oi 9), (0, .oi 2, .int .i64 (-1), .oi 10), (14, .oi 9, .int .i64 100000, .bool false), (0, .oi 9, .int .i64 1, .oi 12), (14, .oi 12, .int .i64 100000, .bool false), (0, .oi 12, .int .i64 1, .oi 13), (12, .oi 10, .int .i64 0, .bool false), (14, .oi 13, .int .i64 100000, .bool false), (0, .oi 13, .int .i64 1, .oi 14), (14, .oi 14, .int .i64 100000, .bool false), (0, .oi 14, .int .i64 1, .oi 15)]
  ibok := ibO h1 h2 h3 h4 h5 h6
  ic := [(.i32, .oi 10, .oi 11), (.i64, .oi 11, .oi 10)]
  icok := icO h1 h2 h3 h4 h5 h6
  vl := []
  vlok := vlO h1 h2 h3 h4 h5 h6
  vs := []
  vsok := vsO h1 h2 h3 h4 h5 h6
  vz := []
  vzok := vzO h1 h2 h3 h4 h5 h6
  vc := []
  vcok := allNil
noncomputable abbrev rl_goO : List (Nat × Nat) := [(20000, 20000), (20001, 20113), (20002, 20114), (20003, 20003), (20004, 20004), (20005, 20005), (20006, 20006), (20007, 20007), (20008, 20008), (20010, 20010), (20011, 20011), (20012, 20012)]
noncomputable abbrev bs_goO : BS := [(10587, 10587, kb23), (10593, 10593, kb3), (13933, 13933, kb4), (13934, 13934, kb5), (13936, 13936, (.map [(tx24, (oN 4), 0)] 1)), (13937, 13937, kb24), (14235, 14235, kb8), (14558, 14558, kb10), (17203, 17203, kb11), (17208, 17208, kb12), (20000, 20000, kb13), (20001, 20113, kb26), (20002, 20114, kb22), (20003, 20003, (.vec 0)), (20004, 20004, kb25), (20005, 20005, kb19), (20006, 20006, kb18), (20007, 20007, (.cells 1 true [] (T.ofList 0 .leaf [(pN 20008)]))), (20008, 20008, (.cells 6 false [] (T.ofList 0 .leaf [z0, z0, (pN 14235), z0, (iN 47), .nilp]))), (20010, 20010, kb14), (20011, 20011, kb15)]
noncomputable abbrev ip_goO : IP := [(.oi 8, 8), (.oi 15, 4), (.oi 0, 0), (.oi 1, 1), (.oi 10, 2), (.int .i64 0, 3), (.oi 7, 7), (.oi 5, 5), (.oi 6, 6)]
theorem bq_goO : hOf 20040 bs_goO = hOf 20040 bsI := hOf_congr (by kernel_rfl)
theorem goO {n : Nat} {s : Nat} {i : Nat} {j : Nat} {r : Nat} {W : Nat → BitVec 64} (h1 : n < 25) (h2 : s < 1009) (h3 : i ≤ n) (h4 : r < 90000) (h5 : j ≤ 25) (h6 : 2 ≤ i) (hb : Base B μ 20000) {Q : Exit → Act → World → Prop} {j_ : Nat} (s_ : SO n s i j r W B w0 μ a w) (hQ : ∀ a' w', SI (n) (s) (i - 1) (0) (r + 5) (W) B w0 μ a' w' → Code.rounds Tryz.prog la Q j_ a' w') : Code.rounds Tryz.prog la Q (j_ + 5) a w := by
  have hip : IpOk ((RO (n := n) (s := s) (i := i) (j := j) (r := r) (W := W) h1 h2 h3 h4 h5 h6).tab) (PI (n) (s) (i - 1) (0) (r + 5) (W)) ip_goO := (ipCons (ipN (.i64, ((11 + (n * 4 + 7) / 8 : Nat) : Int)) rfl rfl) (ipCons (ipN (.i64, ((r + 5 : Nat) : Int)) rfl (show (IntKind.i64, (((r + 5) : Nat) : Int)) = (IntKind.i64, ((r + 5 : Nat) : Int)) from Prod.ext rfl (show ((((r + 5) : Nat) : Int) : Int) = ((r + 5 : Nat) : Int) by omega))) (ipCons (ipN (.i64, ((n : Nat) : Int)) rfl rfl) (ipCons (ipN (.i64, ((s : Nat) : Int)) rfl rfl) (ipCons (ipN (.i64, (i : Int) - 1) rfl (show (IntKind.i64, (((i - 1) : Nat) : Int)) = (IntKind.i64, (i : Int) - 1) from Prod.ext rfl (show ((((i - 1) : Nat) : Int) : Int) = (i : Int) - 1 by omega))) (ipCons (ipK (show (IntKind.i64, ((0 : Nat) : Int)) = (IntKind.i64, 0) from Prod.ext rfl (show (((0 : Nat) : Int) : Int) = 0 by omega))) (ipCons (ipN (.i64, ((9 : Nat) : Int)) rfl rfl) (ipCons (ipN (.u64, ((n : Nat) : Int)) rfl rfl) (ipCons (ipN (.i64, ((8 : Nat) : Int)) rfl rfl) ipNil)))))))))
  have hvp : VpOk ((RO (n := n) (s := s) (i := i) (j := j) (r := r) (W := W) h1 h2 h3 h4 h5 h6).tab) (PI (n) (s) (i - 1) (0) (r + 5) (W)) ⟨20000, 20040, ofPairs rl_goO, ip_goO⟩ [(20003, .vec 0, 0)] := (vpCons (vpW (T := ((RO (n := n) (s := s) (i := i) (j := j) (r := r) (W := W) h1 h2 h3 h4 h5 h6).tab)) (T' := (PI (n) (s) (i - 1) (0) (r + 5) (W))) (i := 0) (i' := 0) hip (L := [(.int .u64 0), (.int .u64 0), (.int .u64 1), (.int .u64 0), (.int .u64 0), (.int .u64 2), (.int .u64 0), (.int .u64 0), (.int .u64 3), (.int .u64 0), (oN 5)]) (L' := [(.int .u64 0), (.int .u64 0), (.int .u64 1), (.int .u64 0), (.int .u64 0), (.int .u64 2), (.int .u64 0), (.int .u64 0), (.int .u64 3), (.int .u64 0), (oN 5)]) (n := 11 + (n * 4 + 7) / 8) (n' := 11 + (n * 4 + 7) / 8) (W := W) (W' := W) rfl rfl (Nat.le_refl _) (Nat.le_refl _) (by decide) (show 11 ≤ 11 + (n * 4 + 7) / 8 by omega) (by kernel_rfl) (fun _ _ h_ => vw_none (Nat.le_add_right _ _) h_) (fun q_ _ => congrArg (W) (show q_ = 0 + q_ from (Nat.zero_add q_).symm)))
    vpNil)
  exact stepsTo_sound (T := ((RO (n := n) (s := s) (i := i) (j := j) (r := r) (W := W) h1 h2 h3 h4 h5 h6).tab)) (T' := (PI (n) (s) (i - 1) (0) (r + 5) (W))) (K := Hand.none) (m := 5000) mixed (@HandOk.none ((RO (n := n) (s := s) (i := i) (j := j) (r := r) (W := W) h1 h2 h3 h4 h5 h6).tab) Tryz.prog) (C := ⟨20000, 20040, ofPairs rl_goO, ip_goO⟩) (ex := .normal) (rl := rl_goO) (vp := [(20003, .vec 0, 0)]) (fs := fsR) (bs := bs_goO)
    hb (by decide) rfl (by kernel_rfl) hip hvp (glNone rfl rfl) (by as_aux_lemma => kernel_rfl) (St.same (VRows.same _ _) s_) (fun a' w' q => hQ a' w' (by rw [bq_goO] at q; exact q))
theorem ibOx {n : Nat} {s : Nat} {i : Nat} {j : Nat} {r : Nat} {W : Nat → BitVec 64} (h1 : n < 25) (h2 : s < 1009) (h3 : i ≤ n) (h4 : r < 90000) (h5 : j ≤ 25) (h6 : i ≤ 1) : ∀ x_ ∈ ([(14, .oi 4, .int .i64 100000, .bool false), (0, .oi 4, .int .i64 1, .oi 9), (0, .oi 2, .int .i64 (-1), .oi 10), (14, .oi 9, .int .i64 100000, .bool false), (0, .oi 9, .int .i64 1, .oi 12), (14, .oi 12, .int .i64 100000, .bool false), (0, .oi 12, .int .i64 1, .oi 13), (12, .oi 10, .int .i64 0, .bool true), (14, .oi 13, .int .i64 100000, .bool false), (0, .oi 13, .int .i64 1, .oi 14), (14, .oi 14, .int .i64 100000, .bool false), (0, .oi 14, .int .i64 1, .oi 15), (14, .oi 15, .int .i64 100000, .bool false), (0, .oi 15, .int .i64 1, .oi 16), (14, .oi 16, .int .i64 100000, .bool false), (0, .oi 16, .int .i64 1, .oi 17)] : List BRow), IbOk (ivO n s i j r W) x_ := by
  letI := Tab.empty
  exact (ibCons (ibGe (a := (((r : Nat) : Int))) (b := (100000)) rfl rfl (decide_eq_false (by omega)))
    (ibCons (ibAdd (a := (((r : Nat) : Int))) (b := (1)) (c := (((r + 1 : Nat) : Int))) rfl rfl rfl (by first | assumption | omega) (by omega) (by omega))
    (ibCons (ibAdd (a := (((i : Nat) : Int))) (b := (-1)) (c := ((i : Int) - 1)) rfl rfl rfl (by first | assumption | omega) (by omega) (by omega))
    (ibCons (ibGe (a := (((r + 1 : Nat) : Int))) (b := (100000)) rfl rfl (decide_eq_false (by omega)))
    (ibCons (ibAdd (a := (((r + 1 : Nat) : Int))) (b := (1)) (c := (((r + 2 : Nat) : Int))) rfl rfl rfl (by first | assumption | omega) (by omega) (by omega))
    (ibCons (ibGe (a := (((r + 2 : Nat) : Int))) (b := (100000)) rfl rfl (decide_eq_false (by omega)))
    (ibCons (ibAdd (a := (((r + 2 : Nat) : Int))) (b := (1)) (c := (((r + 3 : Nat) : Int))) rfl rfl rfl (by first | assumption | omega) (by omega) (by omega))
    (ibCons (ibLe (a := ((i : Int) - 1)) (b := (0)) rfl rfl (decide_eq_true (by omega)))
    (ibCons (ibGe (a := (((r + 3 : Nat) : Int))) (b := (100000)) rfl rfl (decide_eq_false (by omega)))
    (ibCons (ibAdd (a := (((r + 3 : Nat) : Int))) (b := (1)) (c := (((r + 4 : Nat) : Int))) rfl rfl rfl (by first | assumption | omega) (by omega) (by omega))
    (ibCons (ibGe (a := (((r + 4 : Nat) : Int))) (b := (100000)) rfl rfl (decide_eq_false (by omega)))
    (ibCons (ibAdd (a := (((r + 4 : Nat) : Int))) (b := (1)) (c := (((r + 5 : Nat) : Int))) rfl rfl rfl (by first | assumption | omega) (by omega) (by omega))
    (ibCons (ibGe (a := (((r + 5 : Nat) : Int))) (b := (100000)) rfl rfl (decide_eq_false (by omega)))
    (ibCons (ibAdd (a := (((r + 5 : Nat) : Int))) (b := (1)) (c := (((r + 6 : Nat) : Int))) rfl rfl rfl (by first | assumption | omega) (by omega) (by omega))
    (ibCons (ibGe (a := (((r + 6 : Nat) : Int))) (b := (100000)) rfl rfl (decide_eq_false (by omega)))
    (ibCons (ibAdd (a := (((r + 6 : Nat) : Int))) (b := (1)) (c := (((r + 7 : Nat) : Int))) rfl rfl rfl (by first | assumption | omega) (by omega) (by omega))
    ibNil))))))))))))))))
theorem icOx {n : Nat} {s : Nat} {i : Nat} {j : Nat} {r : Nat} {W : Nat → BitVec 64} (h1 : n < 25) (h2 : s < 1009) (h3 : i ≤ n) (h4 : r < 90000) (h5 : j ≤ 25) (h6 : i ≤ 1) : ∀ x_ ∈ ([(.i32, .oi 10, .oi 11), (.i64, .oi 11, .oi 10)] : List (IntKind × AV × AV)), IcOk' (ivO n s i j r W) x_ := (icCons (ic32 (n := ((i : Int) - 1)) rfl rfl (by omega) (by omega)) (icCons (ic64 (n := ((i : Int) - 1)) rfl rfl (by omega) (by omega)) icNil))
theorem vlOx {n : Nat} {s : Nat} {i : Nat} {j : Nat} {r : Nat} {W : Nat → BitVec 64} (h1 : n < 25) (h2 : s < 1009) (h3 : i ≤ n) (h4 : r < 90000) (h5 : j ≤ 25) (h6 : i ≤ 1) : ∀ x_ ∈ ([] : List VL), VlOk (ivO n s i j r W) (vvO n s i j r W) x_ :=
  allNil
theorem vsOx {n : Nat} {s : Nat} {i : Nat} {j : Nat} {r : Nat} {W : Nat → BitVec 64} (h1 : n < 25) (h2 : s < 1009) (h3 : i ≤ n) (h4 : r < 90000) (h5 : j ≤ 25) (h6 : i ≤ 1) : ∀ x_ ∈ ([] : List VS), VsOk (ivO n s i j r W) (vvO n s i j r W) (vkO n s i j r W) x_ :=
  allNil
theorem vzOx {n : Nat} {s : Nat} {i : Nat} {j : Nat} {r : Nat} {W : Nat → BitVec 64} (h1 : n < 25) (h2 : s < 1009) (h3 : i ≤ n) (h4 : r < 90000) (h5 : j ≤ 25) (h6 : i ≤ 1) : ∀ x_ ∈ ([] : List VZ), VzOk (ivO n s i j r W) (vvO n s i j r W) (vkO n s i j r W) x_ :=
  allNil
abbrev ROx {n : Nat} {s : Nat} {i : Nat} {j : Nat} {r : Nat} {W : Nat → BitVec 64} (h1 : n < 25) (h2 : s < 1009) (h3 : i ≤ n) (h4 : r < 90000) (h5 : j ≤ 25) (h6 : i ≤ 1) : VRows (ivO n s i j r W) (vvO n s i j r W) (vkO n s i j r W) where
  vvp := vpO n s i j r W
  ib := [(14, .oi 4, .int .i64 100000, .bool false), (0, .oi 4, .int .i64 1, .oi 9), (0, .oi 2, .int .i64 (-1), .oi 10), (14, .oi 9, .int .i64 100000, .bool false), (0, .oi 9, .int .i64 1, .oi 12), (14, .oi 12, .int .i64 100000, .bool false), (0, .oi 12, .int .i64 1, .oi 13), (12, .oi 10, .int .i64 0, .bool true), (14, .oi 13, .int .i64 100000, .bool false), (0, .oi 13, .int .i64 1, .oi 14), (14, .oi 14, .int .i64 100000, .bool false), (0, .oi 14, .int .i64 1, .oi 15), (14, .oi 15, .int .i64 100000, .bool false), (0, .oi 15, .int .i64 1, .oi 16), (14, .oi 16, .int .i64 100000, .bool false), (0, .oi 16, .int .i64 1, .oi 17)]
  ibok := ibOx h1 h2 h3 h4 h5 h6
  ic := [(.i32, .oi 10, .oi 11), (.i64, .oi 11, .oi 10)]
  icok := icOx h1 h2 h3 h4 h5 h6
  vl := []
  vlok := vlOx h1 h2 h3 h4 h5 h6
  vs := []
  vsok := vsOx h1 h2 h3 h4 h5 h6
  vz := []
  vzok := vzOx h1 h2 h3 h4 h5 h6
  vc := []
  vcok := allNil
noncomputable abbrev rl_goOx : List (Nat × Nat) := [(20000, 20000), (20001, 20113), (20002, 20114), (20003, 20003), (20004, 20004), (20005, 20005), (20006, 20006), (20007, 20007), (20008, 20008), (20010, 20010), (20011, 20011), (20012, 20012)]
noncomputable abbrev bs_goOx : BS := [(10587, 10587, kb23), (10593, 10593, kb3), (13933, 13933, kb4), (13934, 13934, kb5), (13936, 13936, (.map [(tx24, (oN 4), 0)] 1)), (13937, 13937, kb24), (14235, 14235, kb8), (14558, 14558, kb10), (17203, 17203, kb11), (17208, 17208, kb12), (20000, 20000, kb13), (20001, 20113, kb26), (20002, 20114, kb22), (20003, 20003, (.vec 0)), (20004, 20004, kb25), (20005, 20005, kb19), (20006, 20006, kb18), (20007, 20007, (.cells 1 true [] (T.ofList 0 .leaf [(pN 20008)]))), (20008, 20008, (.cells 6 false [] (T.ofList 0 .leaf [z0, z0, (pN 14235), z0, (iN 100), .nilp]))), (20010, 20010, kb14), (20011, 20011, kb15)]
noncomputable abbrev ip_goOx : IP := [(.oi 8, 8), (.oi 17, 4), (.oi 0, 0), (.int .i64 0, 1), (.int .i64 0, 2), (.oi 3, 3), (.oi 7, 7), (.oi 5, 5), (.oi 6, 6)]
theorem bq_goOx : hOf 20040 bs_goOx = hOf 20040 bsU := hOf_congr (by kernel_rfl)
theorem goOx {n : Nat} {s : Nat} {i : Nat} {j : Nat} {r : Nat} {W : Nat → BitVec 64} (h1 : n < 25) (h2 : s < 1009) (h3 : i ≤ n) (h4 : r < 90000) (h5 : j ≤ 25) (h6 : i ≤ 1) (hb : Base B μ 20000) {Q : Exit → Act → World → Prop} {j_ : Nat} (s_ : SO n s i j r W B w0 μ a w) (hQ : ∀ a' w', SU (n) (0) (0) (j) (r + 7) (W) B w0 μ a' w' → Code.rounds Tryz.prog la Q j_ a' w') : Code.rounds Tryz.prog la Q (j_ + 7) a w := by
  have hip : IpOk ((ROx (n := n) (s := s) (i := i) (j := j) (r := r) (W := W) h1 h2 h3 h4 h5 h6).tab) (PU (n) (0) (0) (j) (r + 7) (W)) ip_goOx := (ipCons (ipN (.i64, ((11 + (n * 4 + 7) / 8 : Nat) : Int)) rfl rfl) (ipCons (ipN (.i64, ((r + 7 : Nat) : Int)) rfl (show (IntKind.i64, (((r + 7) : Nat) : Int)) = (IntKind.i64, ((r + 7 : Nat) : Int)) from Prod.ext rfl (show ((((r + 7) : Nat) : Int) : Int) = ((r + 7 : Nat) : Int) by omega))) (ipCons (ipN (.i64, ((n : Nat) : Int)) rfl rfl) (ipCons (ipK (show (IntKind.i64, 0) = (IntKind.i64, 0) from Prod.ext rfl (show (0 : Int) = 0 by omega))) (ipCons (ipK (show (IntKind.i64, ((0 : Nat) : Int)) = (IntKind.i64, 0) from Prod.ext rfl (show (((0 : Nat) : Int) : Int) = 0 by omega))) (ipCons (ipN (.i64, ((j : Nat) : Int)) rfl rfl) (ipCons (ipN (.i64, ((9 : Nat) : Int)) rfl rfl) (ipCons (ipN (.u64, ((n : Nat) : Int)) rfl rfl) (ipCons (ipN (.i64, ((8 : Nat) : Int)) rfl rfl) ipNil)))))))))
  have hvp : VpOk ((ROx (n := n) (s := s) (i := i) (j := j) (r := r) (W := W) h1 h2 h3 h4 h5 h6).tab) (PU (n) (0) (0) (j) (r + 7) (W)) ⟨20000, 20040, ofPairs rl_goOx, ip_goOx⟩ [(20003, .vec 0, 0)] := (vpCons (vpW (T := ((ROx (n := n) (s := s) (i := i) (j := j) (r := r) (W := W) h1 h2 h3 h4 h5 h6).tab)) (T' := (PU (n) (0) (0) (j) (r + 7) (W))) (i := 0) (i' := 0) hip (L := [(.int .u64 0), (.int .u64 0), (.int .u64 1), (.int .u64 0), (.int .u64 0), (.int .u64 2), (.int .u64 0), (.int .u64 0), (.int .u64 3), (.int .u64 0), (oN 5)]) (L' := [(.int .u64 0), (.int .u64 0), (.int .u64 1), (.int .u64 0), (.int .u64 0), (.int .u64 2), (.int .u64 0), (.int .u64 0), (.int .u64 3), (.int .u64 0), (oN 5)]) (n := 11 + (n * 4 + 7) / 8) (n' := 11 + (n * 4 + 7) / 8) (W := W) (W' := W) rfl rfl (Nat.le_refl _) (Nat.le_refl _) (by decide) (show 11 ≤ 11 + (n * 4 + 7) / 8 by omega) (by kernel_rfl) (fun _ _ h_ => vw_none (Nat.le_add_right _ _) h_) (fun q_ _ => congrArg (W) (show q_ = 0 + q_ from (Nat.zero_add q_).symm)))
    vpNil)
  exact stepsTo_sound (T := ((ROx (n := n) (s := s) (i := i) (j := j) (r := r) (W := W) h1 h2 h3 h4 h5 h6).tab)) (T' := (PU (n) (0) (0) (j) (r + 7) (W))) (K := Hand.none) (m := 5000) mixed (@HandOk.none ((ROx (n := n) (s := s) (i := i) (j := j) (r := r) (W := W) h1 h2 h3 h4 h5 h6).tab) Tryz.prog) (C := ⟨20000, 20040, ofPairs rl_goOx, ip_goOx⟩) (ex := .normal) (rl := rl_goOx) (vp := [(20003, .vec 0, 0)]) (fs := fsR) (bs := bs_goOx)
    hb (by decide) rfl (by kernel_rfl) hip hvp (glNone rfl rfl) (by as_aux_lemma => kernel_rfl) (St.same (VRows.same _ _) s_) (fun a' w' q => hQ a' w' (by rw [bq_goOx] at q; exact q))
end
end Go.Proofs.YtaabcpibfignfaaGreatDoor.so
