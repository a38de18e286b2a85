/-
  Steps of the machine within the law TopSort.
-/
import Derived.Test.YtaabcpibfignfaaGreatDoorSONN
import Derived.Test.YtaabcpibfignfaaGreatDoorSOS
import Derived.Test.YtaabcpibfignfaaGreatDoorXN3
import Derived.Test.YtaabcpibfignfaaGreatDoorProg
import Derived.KernelRfl
set_option linter.unusedSectionVars false
set_option linter.unusedVariables false
set_option maxRecDepth 1000000
set_option maxHeartbeats 0
namespace Go.Proofs.YtaabcpibfignfaaGreatDoor.so
open Go.X Go.RowKit Go.Proofs.YtaabcpibfignfaaGreatDoor
section
variable {B : Kp} {w0 : World} {μ : M} {a : Act} {w : World}
theorem ibF {n : Nat} {s : Nat} {i : Nat} {r : Nat} {W : Nat → BitVec 64} (h1 : n < 25) (h2 : s < 1009) (h3 : i ≤ n) (h4 : r < 90000) (h5 : i < n) : ∀ x_ ∈ ([(14, .oi 3, .int .i64 100000, .bool false), (0, .oi 3, .int .i64 1, .oi 8), (14, .oi 8, .int .i64 100000, .bool false), (0, .oi 8, .int .i64 1, .oi 9), (14, .oi 9, .int .i64 100000, .bool false), (0, .oi 9, .int .i64 1, .oi 10), (14, .oi 2, .oi 0, .bool false), (14, .oi 10, .int .i64 100000, .bool false), (0, .oi 10, .int .i64 1, .oi 11), (14, .oi 11, .int .i64 100000, .bool false), (0, .oi 11, .int .i64 1, .oi 12), (14, .oi 12, .int .i64 100000, .bool false), (0, .oi 12, .int .i64 1, .oi 13), (2, .oi 1, .int .i64 61, .oi 15), (14, .oi 13, .int .i64 100000, .bool false), (0, .oi 13, .int .i64 1, .oi 17), (14, .oi 17, .int .i64 100000, .bool false), (0, .oi 17, .int .i64 1, .oi 18), (0, .oi 15, .int .i64 17, .oi 19), (14, .oi 18, .int .i64 100000, .bool false), (0, .oi 18, .int .i64 1, .oi 21), (14, .oi 21, .int .i64 100000, .bool false), (0, .oi 21, .int .i64 1, .oi 22), (3, .oi 19, .int .i64 1009, .oi 23), (4, .oi 19, .int .i64 1009, .oi 24), (14, .oi 22, .int .i64 100000, .bool false), (0, .oi 22, .int .i64 1, .oi 26)] : List BRow), IbOk (ivF n s i r W) x_ := by
  letI := Tab.empty
  exact (ibCons (ibGe (a := (((r : Nat) : Int))) (b := (100000)) rfl rfl (decide_eq_false (by omega)))
    (ibCons (ibAdd (a := (((r : Nat) : Int))) (b := (1)) (c := (((r + 1 : Nat) : Int))) rfl rfl rfl (by first | assumption | omega) (by omega) (by omega))
    (ibCons (ibGe (a := (((r + 1 : Nat) : Int))) (b := (100000)) rfl rfl (decide_eq_false (by omega)))
    (ibCons (ibAdd (a := (((r + 1 : Nat) : Int))) (b := (1)) (c := (((r + 2 : Nat) : Int))) rfl rfl rfl (by first | assumption | omega) (by omega) (by omega))
    (ibCons (ibGe (a := (((r + 2 : Nat) : Int))) (b := (100000)) rfl rfl (decide_eq_false (by omega)))
    (ibCons (ibAdd (a := (((r + 2 : Nat) : Int))) (b := (1)) (c := (((r + 3 : Nat) : Int))) rfl rfl rfl (by first | assumption | omega) (by omega) (by omega))
    (ibCons (ibGe (a := (((i : Nat) : Int))) (b := (((n : Nat) : Int))) rfl rfl (decide_eq_false (by omega)))
    (ibCons (ibGe (a := (((r + 3 : Nat) : Int))) (b := (100000)) rfl rfl (decide_eq_false (by omega)))
    (ibCons (ibAdd (a := (((r + 3 : Nat) : Int))) (b := (1)) (c := (((r + 4 : Nat) : Int))) rfl rfl rfl (by first | assumption | omega) (by omega) (by omega))
    (ibCons (ibGe (a := (((r + 4 : Nat) : Int))) (b := (100000)) rfl rfl (decide_eq_false (by omega)))
    (ibCons (ibAdd (a := (((r + 4 : Nat) : Int))) (b := (1)) (c := (((r + 5 : Nat) : Int))) rfl rfl rfl (by first | assumption | omega) (by omega) (by omega))
    (ibCons (ibGe (a := (((r + 5 : Nat) : Int))) (b := (100000)) rfl rfl (decide_eq_false (by omega)))
    (ibCons (ibAdd (a := (((r + 5 : Nat) : Int))) (b := (1)) (c := (((r + 6 : Nat) : Int))) rfl rfl rfl (by first | assumption | omega) (by omega) (by omega))
    (ibCons (ibMul (a := (((s : Nat) : Int))) (b := (61)) (c := (((s * 61 : Nat) : Int))) rfl rfl rfl (by omega) (by omega) (by omega))
    (ibCons (ibGe (a := (((r + 6 : Nat) : Int))) (b := (100000)) rfl rfl (decide_eq_false (by omega)))
    (ibCons (ibAdd (a := (((r + 6 : Nat) : Int))) (b := (1)) (c := (((r + 7 : Nat) : Int))) rfl rfl rfl (by first | assumption | omega) (by omega) (by omega))
    (ibCons (ibGe (a := (((r + 7 : Nat) : Int))) (b := (100000)) rfl rfl (decide_eq_false (by omega)))
    (ibCons (ibAdd (a := (((r + 7 : Nat) : Int))) (b := (1)) (c := (((r + 8 : Nat) : Int))) rfl rfl rfl (by first | assumption | omega) (by omega) (by omega))
    (ibCons (ibAdd (a := (((s * 61 : Nat) : Int))) (b := (17)) (c := (((s * 61 + 17 : Nat) : Int))) rfl rfl rfl (by first | assumption | omega) (by omega) (by omega))
    (ibCons (ibGe (a := (((r + 8 : Nat) : Int))) (b := (100000)) rfl rfl (decide_eq_false (by omega)))
    (ibCons (ibAdd (a := (((r + 8 : Nat) : Int))) (b := (1)) (c := (((r + 9 : Nat) : Int))) rfl rfl rfl (by first | assumption | omega) (by omega) (by omega))
    (ibCons (ibGe (a := (((r + 9 : Nat) : Int))) (b := (100000)) rfl rfl (decide_eq_false (by omega)))
    (ibCons (ibAdd (a := (((r + 9 : Nat) : Int))) (b := (1)) (c := (((r + 10 : Nat) : Int))) rfl rfl rfl (by first | assumption | omega) (by omega) (by omega))
    (ibCons (ibQuo (a := (((s * 61 + 17 : Nat) : Int))) (b := (1009)) (c := ((((s * 61 + 17) / 1009 : Nat) : Int))) rfl rfl rfl (by omega) (by rw [Int.tdiv_eq_ediv_of_nonneg (by omega)]; omega) (by omega) (by omega))
    (ibCons (ibRem (a := (((s * 61 + 17 : Nat) : Int))) (b := (1009)) (c := ((((s * 61 + 17) % 1009 : Nat) : Int))) rfl rfl rfl (by omega) (by rw [Int.tmod_eq_emod_of_nonneg (by omega)]; omega))
    (ibCons (ibGe (a := (((r + 10 : Nat) : Int))) (b := (100000)) rfl rfl (decide_eq_false (by omega)))
    (ibCons (ibAdd (a := (((r + 10 : Nat) : Int))) (b := (1)) (c := (((r + 11 : Nat) : Int))) rfl rfl rfl (by first | assumption | omega) (by omega) (by omega))
    ibNil)))))))))))))))))))))))))))
theorem icF {n : Nat} {s : Nat} {i : Nat} {r : Nat} {W : Nat → BitVec 64} (h1 : n < 25) (h2 : s < 1009) (h3 : i ≤ n) (h4 : r < 90000) (h5 : i < n) : ∀ x_ ∈ ([(.i32, .oi 1, .oi 14), (.i64, .oi 14, .oi 1), (.i32, .oi 15, .oi 16), (.i64, .oi 16, .oi 15), (.i32, .oi 19, .oi 20), (.i64, .oi 20, .oi 19), (.i32, .oi 24, .oi 25), (.i64, .oi 25, .oi 24)] : List (IntKind × AV × AV)), IcOk' (ivF n s i r W) x_ := (icCons (ic32 (n := (((s : Nat) : Int))) rfl rfl (by omega) (by omega)) (icCons (ic64 (n := (((s : Nat) : Int))) rfl rfl (by omega) (by omega)) (icCons (ic32 (n := (((s * 61 : Nat) : Int))) rfl rfl (by omega) (by omega)) (icCons (ic64 (n := (((s * 61 : Nat) : Int))) rfl rfl (by omega) (by omega)) (icCons (ic32 (n := (((s * 61 + 17 : Nat) : Int))) rfl rfl (by omega) (by omega)) (icCons (ic64 (n := (((s * 61 + 17 : Nat) : Int))) rfl rfl (by omega) (by omega)) (icCons (ic32 (n := ((((s * 61 + 17) % 1009 : Nat) : Int))) rfl rfl (by omega) (by omega)) (icCons (ic64 (n := ((((s * 61 + 17) % 1009 : Nat) : Int))) rfl rfl (by omega) (by omega)) icNil))))))))
theorem vlF {n : Nat} {s : Nat} {i : Nat} {r : Nat} {W : Nat → BitVec 64} (h1 : n < 25) (h2 : s < 1009) (h3 : i ≤ n) (h4 : r < 90000) (h5 : i < n) : ∀ x_ ∈ ([] : List VL), VlOk (ivF n s i r W) (vvF n s i r W) x_ :=
  allNil
theorem vsF {n : Nat} {s : Nat} {i : Nat} {r : Nat} {W : Nat → BitVec 64} (h1 : n < 25) (h2 : s < 1009) (h3 : i ≤ n) (h4 : r < 90000) (h5 : i < n) : ∀ x_ ∈ ([] : List VS), VsOk (ivF n s i r W) (vvF n s i r W) (vkF n s i r W) x_ :=
  allNil
theorem vzF {n : Nat} {s : Nat} {i : Nat} {r : Nat} {W : Nat → BitVec 64} (h1 : n < 25) (h2 : s < 1009) (h3 : i ≤ n) (h4 : r < 90000) (h5 : i < n) : ∀ x_ ∈ ([] : List VZ), VzOk (ivF n s i r W) (vvF n s i r W) (vkF n s i r W) x_ :=
  allNil
abbrev RF {n : Nat} {s : Nat} {i : Nat} {r : Nat} {W : Nat → BitVec 64} (h1 : n < 25) (h2 : s < 1009) (h3 : i ≤ n) (h4 : r < 90000) (h5 : i < n) : VRows (ivF n s i r W) (vvF n s i r W) (vkF n s i r W) where
  vvp := vpF n s i r W
  ib := [(14, .oi 3, .int .i64 100000, .bool false), (0, .oi 3, .int .i64 1, .oi 8), (14, .oi 8, .int .i64 100000, .bool false), (0, .oi 8, .int .i64 1, .oi 9), (14, .oi 9, .int .i64 100000, .bool false), (0, .oi 9, .int .i64 1, .oi 10), (14, .oi 2, .oi 0, .bool false), (14, .oi 10, .int .i64 100000, .bool false), (0, .oi 10, .int .i64 1, .oi 11), (14, .oi 11, .int .i64 100000, .bool false), (0, .oi 11, .int .i64 1, .oi 12), (14, .oi 12, .int .i64 100000, .bool false), (0, .oi 12, .int .i64 1, .oi 13), (2, .oi 1, .int .i64 61, .oi 15), (14, .oi 13, .int .i64 100000, .bool false), (0, .oi 13, .int .i64 1, .oi 17), (14, .oi 17, .int .i64 100000, .bool false), (0, .oi 17, .int .i64 1, .oi 18), (0, .oi 15, .int .i64 17, .oi 19), (14, .oi 18, .int .i64 100000, .bool false), (0, .oi 18, .int .i64 1, .oi 21), (14, .oi 21, .int .i64 100000, .bool false), (0, .oi 21, .int .i64 1, .oi 22), (3, .oi 19, .int .i64 1009, .oi 23), (4, .oi 19, .int .i64 1009, .oi 24), (14, .oi 22, .int .i64 100000, .bool false), (0, .oi 22, .int .i64 1, .oi 26)]
  ibok := ibF h1 h2 h3 h4 h5
  ic := [(.i32, .oi 1, .oi 14), (.i64, .oi 14, .oi 1), (.i32, .oi 15, .oi 16), (.i64, .oi 16, .oi 15), (.i32, .oi 19, .oi 20), (.i64, .oi 20, .oi 19), (.i32, .oi 24, .oi 25), (.i64, .oi 25, .oi 24)]
  icok := icF h1 h2 h3 h4 h5
  vl := []
  vlok := vlF h1 h2 h3 h4 h5
  vs := []
  vsok := vsF h1 h2 h3 h4 h5
  vz := []
  vzok := vzF h1 h2 h3 h4 h5
  vc := []
  vcok := allNil
noncomputable abbrev rl_goF : List (Nat × Nat) := [(20000, 20000), (20001, 20087), (20002, 20088), (20003, 20003), (20004, 20004), (20005, 20005), (20006, 20006), (20007, 20007), (20008, 20008), (20010, 20010), (20011, 20011), (20012, 20012)]
noncomputable abbrev bs_goF : BS := [(10587, 10587, kb16), (10593, 10593, kb3), (13933, 13933, kb4), (13934, 13934, kb5), (13936, 13936, (.map [(tx24, (oN 3), 0)] 1)), (13937, 13937, kb17), (14235, 14235, kb8), (14558, 14558, kb10), (17203, 17203, kb11), (17208, 17208, kb12), (20000, 20000, kb13), (20001, 20087, kb21), (20002, 20088, kb22), (20003, 20003, (.vec 0)), (20004, 20004, kb20), (20005, 20005, kb19), (20006, 20006, kb18), (20007, 20007, (.cells 1 true [] (T.ofList 0 .leaf [(pN 20008)]))), (20008, 20008, (.cells 6 false [] (T.ofList 0 .leaf [z0, z0, (pN 14235), z0, (iN 27), .nilp]))), (20010, 20010, kb14), (20011, 20011, kb15)]
noncomputable abbrev ip_goF : IP := [(.oi 7, 7), (.oi 26, 3), (.oi 0, 0), (.oi 24, 1), (.oi 2, 2), (.oi 6, 6), (.oi 4, 4), (.oi 5, 5)]
theorem bq_goF : hOf 20040 bs_goF = hOf 20040 bsE := hOf_congr (by kernel_rfl)
theorem goF {n : Nat} {s : Nat} {i : Nat} {r : Nat} {W : Nat → BitVec 64} (h1 : n < 25) (h2 : s < 1009) (h3 : i ≤ n) (h4 : r < 90000) (h5 : i < n) (hb : Base B μ 20000) {Q : Exit → Act → World → Prop} {j_ : Nat} (s_ : SF n s i r W B w0 μ a w) (hQ : ∀ a' w', SE (n) ((s * 61 + 17) % 1009) (i) (r + 11) (W) B w0 μ a' w' → Code.rounds Tryz.prog la Q j_ a' w') : Code.rounds Tryz.prog la Q (j_ + 11) a w := by
  have hip : IpOk ((RF (n := n) (s := s) (i := i) (r := r) (W := W) h1 h2 h3 h4 h5).tab) (PE (n) ((s * 61 + 17) % 1009) (i) (r + 11) (W)) ip_goF := (ipCons (ipN (.i64, ((11 + (n * 4 + 7) / 8 : Nat) : Int)) rfl rfl) (ipCons (ipN (.i64, ((r + 11 : Nat) : Int)) rfl (show (IntKind.i64, (((r + 11) : Nat) : Int)) = (IntKind.i64, ((r + 11 : Nat) : Int)) from Prod.ext rfl (show ((((r + 11) : Nat) : Int) : Int) = ((r + 11 : Nat) : Int) by omega))) (ipCons (ipN (.i64, ((n : Nat) : Int)) rfl rfl) (ipCons (ipN (.i64, (((s * 61 + 17) % 1009 : Nat) : Int)) rfl (show (IntKind.i64, ((((s * 61 + 17) % 1009) : Nat) : Int)) = (IntKind.i64, (((s * 61 + 17) % 1009 : Nat) : Int)) from Prod.ext rfl (show (((((s * 61 + 17) % 1009) : Nat) : Int) : Int) = (((s * 61 + 17) % 1009 : Nat) : Int) by omega))) (ipCons (ipN (.i64, ((i : Nat) : Int)) rfl rfl) (ipCons (ipN (.i64, ((9 : Nat) : Int)) rfl rfl) (ipCons (ipN (.u64, ((n : Nat) : Int)) rfl rfl) (ipCons (ipN (.i64, ((8 : Nat) : Int)) rfl rfl) ipNil))))))))
  have hvp : VpOk ((RF (n := n) (s := s) (i := i) (r := r) (W := W) h1 h2 h3 h4 h5).tab) (PE (n) ((s * 61 + 17) % 1009) (i) (r + 11) (W)) ⟨20000, 20040, ofPairs rl_goF, ip_goF⟩ [(20003, .vec 0, 0)] := (vpCons (vpW (T := ((RF (n := n) (s := s) (i := i) (r := r) (W := W) h1 h2 h3 h4 h5).tab)) (T' := (PE (n) ((s * 61 + 17) % 1009) (i) (r + 11) (W))) (i := 0) (i' := 0) hip (L := [(.int .u64 0), (.int .u64 0), (.int .u64 1), (.int .u64 0), (.int .u64 0), (.int .u64 2), (.int .u64 0), (.int .u64 0), (.int .u64 3), (.int .u64 0), (oN 4)]) (L' := [(.int .u64 0), (.int .u64 0), (.int .u64 1), (.int .u64 0), (.int .u64 0), (.int .u64 2), (.int .u64 0), (.int .u64 0), (.int .u64 3), (.int .u64 0), (oN 4)]) (n := 11 + (n * 4 + 7) / 8) (n' := 11 + (n * 4 + 7) / 8) (W := W) (W' := W) rfl rfl (Nat.le_refl _) (Nat.le_refl _) (by decide) (show 11 ≤ 11 + (n * 4 + 7) / 8 by omega) (by kernel_rfl) (fun _ _ h_ => vw_none (Nat.le_add_right _ _) h_) (fun q_ _ => congrArg (W) (show q_ = 0 + q_ from (Nat.zero_add q_).symm)))
    vpNil)
  exact stepsTo_sound (T := ((RF (n := n) (s := s) (i := i) (r := r) (W := W) h1 h2 h3 h4 h5).tab)) (T' := (PE (n) ((s * 61 + 17) % 1009) (i) (r + 11) (W))) (K := Hand.none) (m := 5000) mixed (@HandOk.none ((RF (n := n) (s := s) (i := i) (r := r) (W := W) h1 h2 h3 h4 h5).tab) Tryz.prog) (C := ⟨20000, 20040, ofPairs rl_goF, ip_goF⟩) (ex := .normal) (rl := rl_goF) (vp := [(20003, .vec 0, 0)]) (fs := fsR) (bs := bs_goF)
    hb (by decide) rfl (by kernel_rfl) hip hvp (glNone rfl rfl) (by as_aux_lemma => kernel_rfl) (St.same (VRows.same _ _) s_) (fun a' w' q => hQ a' w' (by rw [bq_goF] at q; exact q))
theorem ibFx {n : Nat} {s : Nat} {i : Nat} {r : Nat} {W : Nat → BitVec 64} (h1 : n < 25) (h2 : s < 1009) (h3 : i ≤ n) (h4 : r < 90000) (h5 : n ≤ i) : ∀ x_ ∈ ([(14, .oi 3, .int .i64 100000, .bool false), (0, .oi 3, .int .i64 1, .oi 8), (14, .oi 8, .int .i64 100000, .bool false), (0, .oi 8, .int .i64 1, .oi 9), (14, .oi 9, .int .i64 100000, .bool false), (0, .oi 9, .int .i64 1, .oi 10), (14, .oi 2, .oi 0, .bool true)] : List BRow), IbOk (ivF n s i r W) x_ := by
  letI := Tab.empty
  exact (ibCons (ibGe (a := (((r : Nat) : Int))) (b := (100000)) rfl rfl (decide_eq_false (by omega)))
    (ibCons (ibAdd (a := (((r : Nat) : Int))) (b := (1)) (c := (((r + 1 : Nat) : Int))) rfl rfl rfl (by first | assumption | omega) (by omega) (by omega))
    (ibCons (ibGe (a := (((r + 1 : Nat) : Int))) (b := (100000)) rfl rfl (decide_eq_false (by omega)))
    (ibCons (ibAdd (a := (((r + 1 : Nat) : Int))) (b := (1)) (c := (((r + 2 : Nat) : Int))) rfl rfl rfl (by first | assumption | omega) (by omega) (by omega))
    (ibCons (ibGe (a := (((r + 2 : Nat) : Int))) (b := (100000)) rfl rfl (decide_eq_false (by omega)))
    (ibCons (ibAdd (a := (((r + 2 : Nat) : Int))) (b := (1)) (c := (((r + 3 : Nat) : Int))) rfl rfl rfl (by first | assumption | omega) (by omega) (by omega))
    (ibCons (ibGe (a := (((i : Nat) : Int))) (b := (((n : Nat) : Int))) rfl rfl (decide_eq_true (by omega)))
    ibNil)))))))
theorem icFx {n : Nat} {s : Nat} {i : Nat} {r : Nat} {W : Nat → BitVec 64} (h1 : n < 25) (h2 : s < 1009) (h3 : i ≤ n) (h4 : r < 90000) (h5 : n ≤ i) : ∀ x_ ∈ ([] : List (IntKind × AV × AV)), IcOk' (ivF n s i r W) x_ := icNil
theorem vlFx {n : Nat} {s : Nat} {i : Nat} {r : Nat} {W : Nat → BitVec 64} (h1 : n < 25) (h2 : s < 1009) (h3 : i ≤ n) (h4 : r < 90000) (h5 : n ≤ i) : ∀ x_ ∈ ([] : List VL), VlOk (ivF n s i r W) (vvF n s i r W) x_ :=
  allNil
theorem vsFx {n : Nat} {s : Nat} {i : Nat} {r : Nat} {W : Nat → BitVec 64} (h1 : n < 25) (h2 : s < 1009) (h3 : i ≤ n) (h4 : r < 90000) (h5 : n ≤ i) : ∀ x_ ∈ ([] : List VS), VsOk (ivF n s i r W) (vvF n s i r W) (vkF n s i r W) x_ :=
  allNil
theorem vzFx {n : Nat} {s : Nat} {i : Nat} {r : Nat} {W : Nat → BitVec 64} (h1 : n < 25) (h2 : s < 1009) (h3 : i ≤ n) (h4 : r < 90000) (h5 : n ≤ i) : ∀ x_ ∈ ([] : List VZ), VzOk (ivF n s i r W) (vvF n s i r W) (vkF n s i r W) x_ :=
  allNil
abbrev RFx {n : Nat} {s : Nat} {i : Nat} {r : Nat} {W : Nat → BitVec 64} (h1 : n < 25) (h2 : s < 1009) (h3 : i ≤ n) (h4 : r < 90000) (h5 : n ≤ i) : VRows (ivF n s i r W) (vvF n s i r W) (vkF n s i r W) where
  vvp := vpF n s i r W
  ib := [(14, .oi 3, .int .i64 100000, .bool false), (0, .oi 3, .int .i64 1, .oi 8), (14, .oi 8, .int .i64 100000, .bool false), (0, .oi 8, .int .i64 1, .oi 9), (14, .oi 9, .int .i64 100000, .bool false), (0, .oi 9, .int .i64 1, .oi 10), (14, .oi 2, .oi 0, .bool true)]
  ibok := ibFx h1 h2 h3 h4 h5
  ic := []
  icok := icFx h1 h2 h3 h4 h5
  vl := []
  vlok := vlFx h1 h2 h3 h4 h5
  vs := []
  vsok := vsFx h1 h2 h3 h4 h5
  vz := []
  vzok := vzFx h1 h2 h3 h4 h5
  vc := []
  vcok := allNil
noncomputable abbrev rl_goFx : List (Nat × Nat) := [(20000, 20000), (20001, 20087), (20002, 20088), (20003, 20003), (20004, 20004), (20005, 20005), (20006, 20006), (20007, 20007), (20008, 20008), (20010, 20010), (20011, 20011), (20012, 20012)]
noncomputable abbrev bs_goFx : BS := [(10587, 10587, kb23), (10593, 10593, kb3), (13933, 13933, kb4), (13934, 13934, kb5), (13936, 13936, (.map [(tx24, (oN 4), 0)] 1)), (13937, 13937, kb24), (14235, 14235, kb8), (14558, 14558, kb10), (17203, 17203, kb11), (17208, 17208, kb12), (20000, 20000, kb13), (20001, 20087, kb26), (20002, 20088, kb22), (20003, 20003, (.vec 0)), (20004, 20004, kb25), (20005, 20005, kb19), (20006, 20006, kb18), (20007, 20007, (.cells 1 true [] (T.ofList 0 .leaf [(pN 20008)]))), (20008, 20008, (.cells 6 false [] (T.ofList 0 .leaf [z0, z0, (pN 14235), z0, (iN 38), .nilp]))), (20010, 20010, kb14), (20011, 20011, kb15)]
noncomputable abbrev ip_goFx : IP := [(.oi 7, 8), (.oi 10, 4), (.oi 0, 0), (.oi 1, 1), (.oi 2, 2), (.int .i64 0, 3), (.oi 6, 7), (.oi 4, 5), (.oi 5, 6)]
theorem bq_goFx : hOf 20040 bs_goFx = hOf 20040 bsO := hOf_congr (by kernel_rfl)
theorem goFx {n : Nat} {s : Nat} {i : Nat} {r : Nat} {W : Nat → BitVec 64} (h1 : n < 25) (h2 : s < 1009) (h3 : i ≤ n) (h4 : r < 90000) (h5 : n ≤ i) (hb : Base B μ 20000) {Q : Exit → Act → World → Prop} {j_ : Nat} (s_ : SF n s i r W B w0 μ a w) (hQ : ∀ a' w', SO (n) (s) (i) (0) (r + 3) (W) B w0 μ a' w' → Code.rounds Tryz.prog la Q j_ a' w') : Code.rounds Tryz.prog la Q (j_ + 3) a w := by
  have hip : IpOk ((RFx (n := n) (s := s) (i := i) (r := r) (W := W) h1 h2 h3 h4 h5).tab) (PO (n) (s) (i) (0) (r + 3) (W)) ip_goFx := (ipCons (ipN (.i64, ((11 + (n * 4 + 7) / 8 : Nat) : Int)) rfl rfl) (ipCons (ipN (.i64, ((r + 3 : Nat) : Int)) rfl (show (IntKind.i64, (((r + 3) : Nat) : Int)) = (IntKind.i64, ((r + 3 : Nat) : Int)) from Prod.ext rfl (show ((((r + 3) : Nat) : Int) : Int) = ((r + 3 : Nat) : Int) by omega))) (ipCons (ipN (.i64, ((n : Nat) : Int)) rfl rfl) (ipCons (ipN (.i64, ((s : Nat) : Int)) rfl rfl) (ipCons (ipN (.i64, ((i : Nat) : Int)) rfl rfl) (ipCons (ipK (show (IntKind.i64, ((0 : Nat) : Int)) = (IntKind.i64, 0) from Prod.ext rfl (show (((0 : Nat) : Int) : Int) = 0 by omega))) (ipCons (ipN (.i64, ((9 : Nat) : Int)) rfl rfl) (ipCons (ipN (.u64, ((n : Nat) : Int)) rfl rfl) (ipCons (ipN (.i64, ((8 : Nat) : Int)) rfl rfl) ipNil)))))))))
  have hvp : VpOk ((RFx (n := n) (s := s) (i := i) (r := r) (W := W) h1 h2 h3 h4 h5).tab) (PO (n) (s) (i) (0) (r + 3) (W)) ⟨20000, 20040, ofPairs rl_goFx, ip_goFx⟩ [(20003, .vec 0, 0)] := (vpCons (vpW (T := ((RFx (n := n) (s := s) (i := i) (r := r) (W := W) h1 h2 h3 h4 h5).tab)) (T' := (PO (n) (s) (i) (0) (r + 3) (W))) (i := 0) (i' := 0) hip (L := [(.int .u64 0), (.int .u64 0), (.int .u64 1), (.int .u64 0), (.int .u64 0), (.int .u64 2), (.int .u64 0), (.int .u64 0), (.int .u64 3), (.int .u64 0), (oN 4)]) (L' := [(.int .u64 0), (.int .u64 0), (.int .u64 1), (.int .u64 0), (.int .u64 0), (.int .u64 2), (.int .u64 0), (.int .u64 0), (.int .u64 3), (.int .u64 0), (oN 5)]) (n := 11 + (n * 4 + 7) / 8) (n' := 11 + (n * 4 + 7) / 8) (W := W) (W' := W) rfl rfl (Nat.le_refl _) (Nat.le_refl _) (by decide) (show 11 ≤ 11 + (n * 4 + 7) / 8 by omega) (by kernel_rfl) (fun _ _ h_ => vw_none (Nat.le_add_right _ _) h_) (fun q_ _ => congrArg (W) (show q_ = 0 + q_ from (Nat.zero_add q_).symm)))
    vpNil)
  exact stepsTo_sound (T := ((RFx (n := n) (s := s) (i := i) (r := r) (W := W) h1 h2 h3 h4 h5).tab)) (T' := (PO (n) (s) (i) (0) (r + 3) (W))) (K := Hand.none) (m := 5000) mixed (@HandOk.none ((RFx (n := n) (s := s) (i := i) (r := r) (W := W) h1 h2 h3 h4 h5).tab) Tryz.prog) (C := ⟨20000, 20040, ofPairs rl_goFx, ip_goFx⟩) (ex := .normal) (rl := rl_goFx) (vp := [(20003, .vec 0, 0)]) (fs := fsR) (bs := bs_goFx)
    hb (by decide) rfl (by kernel_rfl) hip hvp (glNone rfl rfl) (by as_aux_lemma => kernel_rfl) (St.same (VRows.same _ _) s_) (fun a' w' q => hQ a' w' (by rw [bq_goFx] at q; exact q))
end
end Go.Proofs.YtaabcpibfignfaaGreatDoor.so
