/-
  Steps of the machine within the law TopSort.
-/
import Derived.Test.YtaabcpibfignfaaGreatDoorSONN
import Derived.Test.YtaabcpibfignfaaGreatDoorSOS
import Derived.Test.YtaabcpibfignfaaGreatDoorXN3
import Derived.Test.YtaabcpibfignfaaGreatDoorProg
import Derived.KernelRfl
set_option linter.unusedSectionVars false
set_option linter.unusedVariables false
set_option maxRecDepth 1000000
set_option maxHeartbeats 0
namespace Go.Proofs.YtaabcpibfignfaaGreatDoor.so
open Go.X Go.RowKit Go.Proofs.YtaabcpibfignfaaGreatDoor
section
variable {B : Kp} {w0 : World} {μ : M} {a : Act} {w : World}
theorem ibI0 {n : Nat} {s : Nat} {i : Nat} {j : Nat} {r : Nat} {W : Nat → BitVec 64} (h1 : n < 25) (h2 : s < 1009) (h3 : i < n) (h4 : r < 90000) (h5 : i ≤ j) (h6 : j ≤ 25) : ∀ x_ ∈ ([(14, .oi 4, .int .i64 100000, .bool false), (0, .oi 4, .int .i64 1, .oi 9), (14, .oi 9, .int .i64 100000, .bool false), (0, .oi 9, .int .i64 1, .oi 10), (14, .oi 10, .int .i64 100000, .bool false), (0, .oi 10, .int .i64 1, .oi 11), (14, .oi 3, .oi 2, .bool true), (14, .oi 11, .int .i64 100000, .bool false), (0, .oi 11, .int .i64 1, .oi 12)] : List BRow), IbOk (ivI n s i j r W) x_ := by
  letI := Tab.empty
  exact (ibCons (ibGe (a := (((r : Nat) : Int))) (b := (100000)) rfl rfl (decide_eq_false (by omega)))
    (ibCons (ibAdd (a := (((r : Nat) : Int))) (b := (1)) (c := (((r + 1 : Nat) : Int))) rfl rfl rfl (by first | assumption | omega) (by omega) (by omega))
    (ibCons (ibGe (a := (((r + 1 : Nat) : Int))) (b := (100000)) rfl rfl (decide_eq_false (by omega)))
    (ibCons (ibAdd (a := (((r + 1 : Nat) : Int))) (b := (1)) (c := (((r + 2 : Nat) : Int))) rfl rfl rfl (by first | assumption | omega) (by omega) (by omega))
    (ibCons (ibGe (a := (((r + 2 : Nat) : Int))) (b := (100000)) rfl rfl (decide_eq_false (by omega)))
    (ibCons (ibAdd (a := (((r + 2 : Nat) : Int))) (b := (1)) (c := (((r + 3 : Nat) : Int))) rfl rfl rfl (by first | assumption | omega) (by omega) (by omega))
    (ibCons (ibGe (a := (((j : Nat) : Int))) (b := (((i : Nat) : Int))) rfl rfl (decide_eq_true (by omega)))
    (ibCons (ibGe (a := (((r + 3 : Nat) : Int))) (b := (100000)) rfl rfl (decide_eq_false (by omega)))
    (ibCons (ibAdd (a := (((r + 3 : Nat) : Int))) (b := (1)) (c := (((r + 4 : Nat) : Int))) rfl rfl rfl (by first | assumption | omega) (by omega) (by omega))
    ibNil)))))))))
theorem icI0 {n : Nat} {s : Nat} {i : Nat} {j : Nat} {r : Nat} {W : Nat → BitVec 64} (h1 : n < 25) (h2 : s < 1009) (h3 : i < n) (h4 : r < 90000) (h5 : i ≤ j) (h6 : j ≤ 25) : ∀ x_ ∈ ([] : List (IntKind × AV × AV)), IcOk' (ivI n s i j r W) x_ := icNil
theorem vlI0 {n : Nat} {s : Nat} {i : Nat} {j : Nat} {r : Nat} {W : Nat → BitVec 64} (h1 : n < 25) (h2 : s < 1009) (h3 : i < n) (h4 : r < 90000) (h5 : i ≤ j) (h6 : j ≤ 25) : ∀ x_ ∈ ([] : List VL), VlOk (ivI n s i j r W) (vvI n s i j r W) x_ :=
  allNil
theorem vsI0 {n : Nat} {s : Nat} {i : Nat} {j : Nat} {r : Nat} {W : Nat → BitVec 64} (h1 : n < 25) (h2 : s < 1009) (h3 : i < n) (h4 : r < 90000) (h5 : i ≤ j) (h6 : j ≤ 25) : ∀ x_ ∈ ([] : List VS), VsOk (ivI n s i j r W) (vvI n s i j r W) (vkI n s i j r W) x_ :=
  allNil
theorem vzI0 {n : Nat} {s : Nat} {i : Nat} {j : Nat} {r : Nat} {W : Nat → BitVec 64} (h1 : n < 25) (h2 : s < 1009) (h3 : i < n) (h4 : r < 90000) (h5 : i ≤ j) (h6 : j ≤ 25) : ∀ x_ ∈ ([] : List VZ), VzOk (ivI n s i j r W) (vvI n s i j r W) (vkI n s i j r W) x_ :=
  allNil
abbrev RI0 {n : Nat} {s : Nat} {i : Nat} {j : Nat} {r : Nat} {W : Nat → BitVec 64} (h1 : n < 25) (h2 : s < 1009) (h3 : i < n) (h4 : r < 90000) (h5 : i ≤ j) (h6 : j ≤ 25) : VRows (ivI n s i j r W) (vvI n s i j r W) (vkI n s i j r W) where
  vvp := vpI n s i j r W
  ib := [(14, .oi 4, .int .i64 100000, .bool false), (0, .oi 4, .int .i64 1, .oi 9), (14, .oi 9, .int .i64 100000, .bool false), (0, .oi 9, .int .i64 1, .oi 10), (14, .oi 10, .int .i64 100000, .bool false), (0, .oi 10, .int .i64 1, .oi 11), (14, .oi 3, .oi 2, .bool true), (14, .oi 11, .int .i64 100000, .bool false), (0, .oi 11, .int .i64 1, .oi 12)]
  ibok := ibI0 h1 h2 h3 h4 h5 h6
  ic := []
  icok := icI0 h1 h2 h3 h4 h5 h6
  vl := []
  vlok := vlI0 h1 h2 h3 h4 h5 h6
  vs := []
  vsok := vsI0 h1 h2 h3 h4 h5 h6
  vz := []
  vzok := vzI0 h1 h2 h3 h4 h5 h6
  vc := []
  vcok := allNil
noncomputable abbrev rl_goI0 : List (Nat × Nat) := [(20000, 20000), (20001, 20087), (20002, 20088), (20003, 20003), (20004, 20004), (20005, 20005), (20006, 20006), (20007, 20007), (20008, 20008), (20010, 20010), (20011, 20011), (20012, 20012)]
noncomputable abbrev bs_goI0 : BS := [(10587, 10587, kb23), (10593, 10593, kb3), (13933, 13933, kb4), (13934, 13934, kb5), (13936, 13936, (.map [(tx24, (oN 4), 0)] 1)), (13937, 13937, kb24), (14235, 14235, kb8), (14558, 14558, kb10), (17203, 17203, kb11), (17208, 17208, kb12), (20000, 20000, kb13), (20001, 20087, kb26), (20002, 20088, kb22), (20003, 20003, (.vec 0)), (20004, 20004, kb25), (20005, 20005, kb19), (20006, 20006, kb18), (20007, 20007, (.cells 1 true [] (T.ofList 0 .leaf [(pN 20008)]))), (20008, 20008, (.cells 6 false [] (T.ofList 0 .leaf [z0, z0, (pN 14235), z0, (iN 38), .nilp]))), (20010, 20010, kb14), (20011, 20011, kb15)]
noncomputable abbrev ip_goI0 : IP := [(.oi 8, 8), (.oi 12, 4), (.oi 0, 0), (.oi 1, 1), (.oi 2, 2), (.oi 3, 3), (.oi 7, 7), (.oi 5, 5), (.oi 6, 6)]
theorem bq_goI0 : hOf 20040 bs_goI0 = hOf 20040 bsO := hOf_congr (by kernel_rfl)
theorem goI0 {n : Nat} {s : Nat} {i : Nat} {j : Nat} {r : Nat} {W : Nat → BitVec 64} (h1 : n < 25) (h2 : s < 1009) (h3 : i < n) (h4 : r < 90000) (h5 : i ≤ j) (h6 : j ≤ 25) (hb : Base B μ 20000) {Q : Exit → Act → World → Prop} {j_ : Nat} (s_ : SI n s i j r W B w0 μ a w) (hQ : ∀ a' w', SO (n) (s) (i) (j) (r + 4) (W) B w0 μ a' w' → Code.rounds Tryz.prog la Q j_ a' w') : Code.rounds Tryz.prog la Q (j_ + 4) a w := by
  have hip : IpOk ((RI0 (n := n) (s := s) (i := i) (j := j) (r := r) (W := W) h1 h2 h3 h4 h5 h6).tab) (PO (n) (s) (i) (j) (r + 4) (W)) ip_goI0 := (ipCons (ipN (.i64, ((11 + (n * 4 + 7) / 8 : Nat) : Int)) rfl rfl) (ipCons (ipN (.i64, ((r + 4 : Nat) : Int)) rfl (show (IntKind.i64, (((r + 4) : Nat) : Int)) = (IntKind.i64, ((r + 4 : Nat) : Int)) from Prod.ext rfl (show ((((r + 4) : Nat) : Int) : Int) = ((r + 4 : Nat) : Int) by omega))) (ipCons (ipN (.i64, ((n : Nat) : Int)) rfl rfl) (ipCons (ipN (.i64, ((s : Nat) : Int)) rfl rfl) (ipCons (ipN (.i64, ((i : Nat) : Int)) rfl rfl) (ipCons (ipN (.i64, ((j : Nat) : Int)) rfl rfl) (ipCons (ipN (.i64, ((9 : Nat) : Int)) rfl rfl) (ipCons (ipN (.u64, ((n : Nat) : Int)) rfl rfl) (ipCons (ipN (.i64, ((8 : Nat) : Int)) rfl rfl) ipNil)))))))))
  have hvp : VpOk ((RI0 (n := n) (s := s) (i := i) (j := j) (r := r) (W := W) h1 h2 h3 h4 h5 h6).tab) (PO (n) (s) (i) (j) (r + 4) (W)) ⟨20000, 20040, ofPairs rl_goI0, ip_goI0⟩ [(20003, .vec 0, 0)] := (vpCons (vpW (T := ((RI0 (n := n) (s := s) (i := i) (j := j) (r := r) (W := W) h1 h2 h3 h4 h5 h6).tab)) (T' := (PO (n) (s) (i) (j) (r + 4) (W))) (i := 0) (i' := 0) hip (L := [(.int .u64 0), (.int .u64 0), (.int .u64 1), (.int .u64 0), (.int .u64 0), (.int .u64 2), (.int .u64 0), (.int .u64 0), (.int .u64 3), (.int .u64 0), (oN 5)]) (L' := [(.int .u64 0), (.int .u64 0), (.int .u64 1), (.int .u64 0), (.int .u64 0), (.int .u64 2), (.int .u64 0), (.int .u64 0), (.int .u64 3), (.int .u64 0), (oN 5)]) (n := 11 + (n * 4 + 7) / 8) (n' := 11 + (n * 4 + 7) / 8) (W := W) (W' := W) rfl rfl (Nat.le_refl _) (Nat.le_refl _) (by decide) (show 11 ≤ 11 + (n * 4 + 7) / 8 by omega) (by kernel_rfl) (fun _ _ h_ => vw_none (Nat.le_add_right _ _) h_) (fun q_ _ => congrArg (W) (show q_ = 0 + q_ from (Nat.zero_add q_).symm)))
    vpNil)
  exact stepsTo_sound (T := ((RI0 (n := n) (s := s) (i := i) (j := j) (r := r) (W := W) h1 h2 h3 h4 h5 h6).tab)) (T' := (PO (n) (s) (i) (j) (r + 4) (W))) (K := Hand.none) (m := 5000) mixed (@HandOk.none ((RI0 (n := n) (s := s) (i := i) (j := j) (r := r) (W := W) h1 h2 h3 h4 h5 h6).tab) Tryz.prog) (C := ⟨20000, 20040, ofPairs rl_goI0, ip_goI0⟩) (ex := .normal) (rl := rl_goI0) (vp := [(20003, .vec 0, 0)]) (fs := fsR) (bs := bs_goI0)
    hb (by decide) rfl (by kernel_rfl) hip hvp (glNone rfl rfl) (by as_aux_lemma => kernel_rfl) (St.same (VRows.same _ _) s_) (fun a' w' q => hQ a' w' (by rw [bq_goI0] at q; exact q))
end
end Go.Proofs.YtaabcpibfignfaaGreatDoor.so
