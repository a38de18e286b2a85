/-
  Steps of the machine within the law TopMatrix.
-/
import Derived.Test.YthgncmohimdbmaaGreatDoorMXS
import Derived.Test.YthgncmohimdbmaaGreatDoorXN3
import Derived.Test.YthgncmohimdbmaaGreatDoorMBM
import Derived.Test.YthgncmohimdbmaaGreatDoorProg
import Derived.KernelRfl
set_option linter.unusedSectionVars false
set_option linter.unusedVariables false
set_option maxRecDepth 1000000
set_option maxHeartbeats 0
namespace Go.Proofs.YthgncmohimdbmaaGreatDoor.mx
open Go.X Go.RowKit Go.Proofs.YthgncmohimdbmaaGreatDoor
section
variable {B : Kp} {w0 : World} {μ : M} {a : Act} {w : World}
theorem ibE {n : Nat} {m : Nat} {i : Nat} {j : Nat} {s : Nat} {r : Nat} {tw : Nat} {u : Nat} {x : Nat} {W : Nat → BitVec 64} {F : Nat → Int} (h1 : n < 20) (h2 : m < 20) (h3 : tw < 900) (h4 : i < n) (h5 : r < 90000) (h6 : s < 400000) (h7 : m ≤ j) (h8 : j ≤ 20) : ∀ x_ ∈ ([(14, .oi 6, .int .i64 100000, .bool false), (0, .oi 6, .int .i64 1, .oi 10), (14, .oi 10, .int .i64 100000, .bool false), (0, .oi 10, .int .i64 1, .oi 11), (14, .oi 11, .int .i64 100000, .bool false), (0, .oi 11, .int .i64 1, .oi 12), (14, .oi 4, .oi 1, .bool true), (14, .oi 12, .int .i64 100000, .bool false), (0, .oi 12, .int .i64 1, .oi 13), (0, .oi 2, .int .i64 1, .oi 30), (14, .oi 13, .int .i64 100000, .bool false), (0, .oi 13, .int .i64 1, .oi 14)] : List BRow), IbOk (ivC n m i j s r tw u x W F) x_ := by
  letI := Tab.empty
  exact (ibCons (ibGe (a := (((r : Nat) : Int))) (b := (100000)) rfl rfl (decide_eq_false (by omega)))
    (ibCons (ibAdd (a := (((r : Nat) : Int))) (b := (1)) (c := (((r + 1 : Nat) : Int))) rfl rfl rfl (by first | assumption | omega) (by omega) (by omega))
    (ibCons (ibGe (a := (((r + 1 : Nat) : Int))) (b := (100000)) rfl rfl (decide_eq_false (by omega)))
    (ibCons (ibAdd (a := (((r + 1 : Nat) : Int))) (b := (1)) (c := (((r + 2 : Nat) : Int))) rfl rfl rfl (by first | assumption | omega) (by omega) (by omega))
    (ibCons (ibGe (a := (((r + 2 : Nat) : Int))) (b := (100000)) rfl rfl (decide_eq_false (by omega)))
    (ibCons (ibAdd (a := (((r + 2 : Nat) : Int))) (b := (1)) (c := (((r + 3 : Nat) : Int))) rfl rfl rfl (by first | assumption | omega) (by omega) (by omega))
    (ibCons (ibGe (a := (((j : Nat) : Int))) (b := (((m : Nat) : Int))) rfl rfl (decide_eq_true (by omega)))
    (ibCons (ibGe (a := (((r + 3 : Nat) : Int))) (b := (100000)) rfl rfl (decide_eq_false (by omega)))
    (ibCons (ibAdd (a := (((r + 3 : Nat) : Int))) (b := (1)) (c := (((r + 4 : Nat) : Int))) rfl rfl rfl (by first | assumption | omega) (by omega) (by omega))
    (ibCons (ibAdd (a := (((i : Nat) : Int))) (b := (1)) (c := (((i + 1 : Nat) : Int))) rfl rfl rfl (by first | assumption | omega) (by omega) (by omega))
    (ibCons (ibGe (a := (((r + 4 : Nat) : Int))) (b := (100000)) rfl rfl (decide_eq_false (by omega)))
    (ibCons (ibAdd (a := (((r + 4 : Nat) : Int))) (b := (1)) (c := (((r + 5 : Nat) : Int))) rfl rfl rfl (by first | assumption | omega) (by omega) (by omega))
    ibNil))))))))))))
theorem icE {n : Nat} {m : Nat} {i : Nat} {j : Nat} {s : Nat} {r : Nat} {tw : Nat} {u : Nat} {x : Nat} {W : Nat → BitVec 64} {F : Nat → Int} (h1 : n < 20) (h2 : m < 20) (h3 : tw < 900) (h4 : i < n) (h5 : r < 90000) (h6 : s < 400000) (h7 : m ≤ j) (h8 : j ≤ 20) : ∀ x_ ∈ ([(.i32, .oi 30, .oi 31), (.i64, .oi 31, .oi 30)] : List (IntKind × AV × AV)), IcOk' (ivC n m i j s r tw u x W F) x_ := (icCons (ic32 (n := (((i + 1 : Nat) : Int))) rfl rfl (by omega) (by omega)) (icCons (ic64 (n := (((i + 1 : Nat) : Int))) rfl rfl (by omega) (by omega)) icNil))
theorem vlE {n : Nat} {m : Nat} {i : Nat} {j : Nat} {s : Nat} {r : Nat} {tw : Nat} {u : Nat} {x : Nat} {W : Nat → BitVec 64} {F : Nat → Int} (h1 : n < 20) (h2 : m < 20) (h3 : tw < 900) (h4 : i < n) (h5 : r < 90000) (h6 : s < 400000) (h7 : m ≤ j) (h8 : j ≤ 20) : ∀ x_ ∈ ([] : List VL), VlOk (ivC n m i j s r tw u x W F) (vvC n m i j s r tw u x W F) x_ :=
  allNil
theorem vsE {n : Nat} {m : Nat} {i : Nat} {j : Nat} {s : Nat} {r : Nat} {tw : Nat} {u : Nat} {x : Nat} {W : Nat → BitVec 64} {F : Nat → Int} (h1 : n < 20) (h2 : m < 20) (h3 : tw < 900) (h4 : i < n) (h5 : r < 90000) (h6 : s < 400000) (h7 : m ≤ j) (h8 : j ≤ 20) : ∀ x_ ∈ ([] : List VS), VsOk (ivC n m i j s r tw u x W F) (vvC n m i j s r tw u x W F) (vkC n m i j s r tw u x W F) x_ :=
  allNil
theorem vzE {n : Nat} {m : Nat} {i : Nat} {j : Nat} {s : Nat} {r : Nat} {tw : Nat} {u : Nat} {x : Nat} {W : Nat → BitVec 64} {F : Nat → Int} (h1 : n < 20) (h2 : m < 20) (h3 : tw < 900) (h4 : i < n) (h5 : r < 90000) (h6 : s < 400000) (h7 : m ≤ j) (h8 : j ≤ 20) : ∀ x_ ∈ ([] : List VZ), VzOk (ivC n m i j s r tw u x W F) (vvC n m i j s r tw u x W F) (vkC n m i j s r tw u x W F) x_ :=
  allNil
theorem vaE {n : Nat} {m : Nat} {i : Nat} {j : Nat} {s : Nat} {r : Nat} {tw : Nat} {u : Nat} {x : Nat} {W : Nat → BitVec 64} {F : Nat → Int} (h1 : n < 20) (h2 : m < 20) (h3 : tw < 900) (h4 : i < n) (h5 : r < 90000) (h6 : s < 400000) (h7 : m ≤ j) (h8 : j ≤ 20) : ∀ x_ ∈ ([] : List VA), VaOk (ivC n m i j s r tw u x W F) (vvC n m i j s r tw u x W F) (vkC n m i j s r tw u x W F) x_ :=
  allNil
abbrev RE {n : Nat} {m : Nat} {i : Nat} {j : Nat} {s : Nat} {r : Nat} {tw : Nat} {u : Nat} {x : Nat} {W : Nat → BitVec 64} {F : Nat → Int} (h1 : n < 20) (h2 : m < 20) (h3 : tw < 900) (h4 : i < n) (h5 : r < 90000) (h6 : s < 400000) (h7 : m ≤ j) (h8 : j ≤ 20) : VRows (ivC n m i j s r tw u x W F) (vvC n m i j s r tw u x W F) (vkC n m i j s r tw u x W F) where
  vvp := vpC n m i j s r tw u x W F
  ib := [(14, .oi 6, .int .i64 100000, .bool false), (0, .oi 6, .int .i64 1, .oi 10), (14, .oi 10, .int .i64 100000, .bool false), (0, .oi 10, .int .i64 1, .oi 11), (14, .oi 11, .int .i64 100000, .bool false), (0, .oi 11, .int .i64 1, .oi 12), (14, .oi 4, .oi 1, .bool true), (14, .oi 12, .int .i64 100000, .bool false), (0, .oi 12, .int .i64 1, .oi 13), (0, .oi 2, .int .i64 1, .oi 30), (14, .oi 13, .int .i64 100000, .bool false), (0, .oi 13, .int .i64 1, .oi 14)]
  ibok := ibE h1 h2 h3 h4 h5 h6 h7 h8
  ic := [(.i32, .oi 30, .oi 31), (.i64, .oi 31, .oi 30)]
  icok := icE h1 h2 h3 h4 h5 h6 h7 h8
  vl := []
  vlok := vlE h1 h2 h3 h4 h5 h6 h7 h8
  vs := []
  vsok := vsE h1 h2 h3 h4 h5 h6 h7 h8
  vz := []
  vzok := vzE h1 h2 h3 h4 h5 h6 h7 h8
  va := []
  vaok := vaE h1 h2 h3 h4 h5 h6 h7 h8
  vc := []
  vcok := allNil
noncomputable abbrev rl_goE : List (Nat × Nat) := [(20000, 20000), (20001, 20087), (20002, 20088), (20003, 20003), (20004, 20004), (20005, 20005), (20006, 20006), (20007, 20007), (20008, 20008), (20010, 20010), (20011, 20011), (20012, 20012)]
noncomputable abbrev bs_goE : BS := [(10416, 10416, kb11), (10422, 10422, kb0), (13762, 13762, kb1), (13763, 13763, kb2), (13765, 13765, (.map [((.str 10 345494350552775703080525), (.oi 6), 0)] 1)), (13766, 13766, kb12), (14064, 14064, kb3), (14391, 14391, kb4), (15753, 15753, kb5), (15758, 15758, kb6), (20000, 20000, kb7), (20001, 20087, kb14), (20002, 20088, kb15), (20003, 20003, (.vec 0)), (20004, 20004, (.vec 1)), (20005, 20005, kb10), (20006, 20006, kb13), (20007, 20007, (.cells 1 true [] (T.ofList 0 .leaf [(.ptr 20008 0)]))), (20008, 20008, (.cells 6 false [] (T.ofList 0 .leaf [(.int .i64 0), (.int .i64 0), (.ptr 14064 0), (.int .i64 0), (.int .i64 15), .nilp]))), (20010, 20010, kb8), (20011, 20011, kb9)]
noncomputable abbrev ip_goE : IP := [(.oi 8, 8), (.oi 9, 9), (.oi 14, 6), (.oi 0, 0), (.oi 1, 1), (.oi 30, 2), (.oi 4, 4), (.oi 5, 5), (.oi 3, 3), (.oi 7, 7)]
theorem bq_goE : hOf 20040 bs_goE = hOf 20040 bsR := hOf_congr (by kernel_rfl)
theorem goE {n : Nat} {m : Nat} {i : Nat} {j : Nat} {s : Nat} {r : Nat} {tw : Nat} {u : Nat} {x : Nat} {W : Nat → BitVec 64} {F : Nat → Int} (h1 : n < 20) (h2 : m < 20) (h3 : tw < 900) (h4 : i < n) (h5 : r < 90000) (h6 : s < 400000) (h7 : m ≤ j) (h8 : j ≤ 20) (hb : Base B μ 20000) {Q : Exit → Act → World → Prop} {j_ : Nat} (s_ : SC n m i j s r tw u x W F B w0 μ a w) (hQ : ∀ a' w', SR (n) (m) (i + 1) (j) (s) (r + 5) (tw) (W) (F) B w0 μ a' w' → Code.rounds Tryz.prog la Q j_ a' w') : Code.rounds Tryz.prog la Q (j_ + 5) a w := by
  have hip : IpOk ((RE (n := n) (m := m) (i := i) (j := j) (s := s) (r := r) (tw := tw) (u := u) (x := x) (W := W) (F := F) h1 h2 h3 h4 h5 h6 h7 h8).tab) (PR (n) (m) (i + 1) (j) (s) (r + 5) (tw) (W) (F)) ip_goE := (ipCons (ipN (.i64, ((tw + 11 : Nat) : Int)) rfl rfl) (ipCons (ipN (.i64, ((n + 4 : Nat) : Int)) rfl rfl) (ipCons (ipN (.i64, ((r + 5 : Nat) : Int)) rfl (show (IntKind.i64, (((r + 5) : Nat) : Int)) = (IntKind.i64, ((r + 5 : Nat) : Int)) from Prod.ext rfl (show ((((r + 5) : Nat) : Int) : Int) = ((r + 5 : Nat) : Int) by omega))) (ipCons (ipN (.i64, ((n : Nat) : Int)) rfl rfl) (ipCons (ipN (.i64, ((m : Nat) : Int)) rfl rfl) (ipCons (ipN (.i64, ((i + 1 : Nat) : Int)) rfl (show (IntKind.i64, (((i + 1) : Nat) : Int)) = (IntKind.i64, ((i + 1 : Nat) : Int)) from Prod.ext rfl (show ((((i + 1) : Nat) : Int) : Int) = ((i + 1 : Nat) : Int) by omega))) (ipCons (ipN (.i64, ((j : Nat) : Int)) rfl rfl) (ipCons (ipN (.i64, ((9 : Nat) : Int)) rfl rfl) (ipCons (ipN (.i64, ((s : Nat) : Int)) rfl rfl) (ipCons (ipN (.u64, ((n : Nat) : Int)) rfl rfl) ipNil))))))))))
  have hvp : VpOk ((RE (n := n) (m := m) (i := i) (j := j) (s := s) (r := r) (tw := tw) (u := u) (x := x) (W := W) (F := F) h1 h2 h3 h4 h5 h6 h7 h8).tab) (PR (n) (m) (i + 1) (j) (s) (r + 5) (tw) (W) (F)) ⟨20000, 20040, ofPairs rl_goE, ip_goE⟩ [(20003, .vec 0, 0), (20004, .vec 1, 1)] := (vpCons (vpW (T := ((RE (n := n) (m := m) (i := i) (j := j) (s := s) (r := r) (tw := tw) (u := u) (x := x) (W := W) (F := F) h1 h2 h3 h4 h5 h6 h7 h8).tab)) (T' := (PR (n) (m) (i + 1) (j) (s) (r + 5) (tw) (W) (F))) (i := 0) (i' := 0) hip (L := [(.int .u64 0), (.int .u64 0), (.int .u64 1), (.int .u64 0), (.int .u64 0), (.int .u64 2), (.int .u64 0), (.int .u64 0), (.int .u64 3), (.int .u64 0), (.oi 7)]) (L' := [(.int .u64 0), (.int .u64 0), (.int .u64 1), (.int .u64 0), (.int .u64 0), (.int .u64 2), (.int .u64 0), (.int .u64 0), (.int .u64 3), (.int .u64 0), (.oi 7)]) (n := 11 + tw) (n' := 11 + tw) (W := W) (W' := W) rfl rfl (Nat.le_refl _) (Nat.le_refl _) (by decide) (show 11 ≤ 11 + tw by omega) (by kernel_rfl) (fun _ _ h_ => vw_none (Nat.le_add_right _ _) h_) (fun q_ _ => congrArg (W) (show q_ = 0 + q_ from (Nat.zero_add q_).symm)))
    (vpCons (vpN (T := ((RE (n := n) (m := m) (i := i) (j := j) (s := s) (r := r) (tw := tw) (u := u) (x := x) (W := W) (F := F) h1 h2 h3 h4 h5 h6 h7 h8).tab)) (T' := (PR (n) (m) (i + 1) (j) (s) (r + 5) (tw) (W) (F))) (i := 1) (i' := 1) hip (L := [(.int .i64 0), (.int .i64 2), (.int .i64 5), (.int .i64 8)]) (L' := [(.int .i64 0), (.int .i64 2), (.int .i64 5), (.int .i64 8)]) (n := n + 4) (n' := n + 4) (F := F) (F' := F) rfl rfl (Nat.le_refl _) (Nat.le_refl _) (by decide) (show 4 ≤ n + 4 by omega) (by kernel_rfl) (fun _ _ h_ => vw_none (Nat.le_add_right _ _) h_) (fun q_ _ => congrArg (F) (show q_ = 0 + q_ from (Nat.zero_add q_).symm)))
    vpNil))
  exact stepsTo_sound (T := ((RE (n := n) (m := m) (i := i) (j := j) (s := s) (r := r) (tw := tw) (u := u) (x := x) (W := W) (F := F) h1 h2 h3 h4 h5 h6 h7 h8).tab)) (T' := (PR (n) (m) (i + 1) (j) (s) (r + 5) (tw) (W) (F))) (K := Hand.none) (m := 5000) mixed (@HandOk.none ((RE (n := n) (m := m) (i := i) (j := j) (s := s) (r := r) (tw := tw) (u := u) (x := x) (W := W) (F := F) h1 h2 h3 h4 h5 h6 h7 h8).tab) Tryz.prog) (C := ⟨20000, 20040, ofPairs rl_goE, ip_goE⟩) (ex := .normal) (rl := rl_goE) (vp := [(20003, .vec 0, 0), (20004, .vec 1, 1)]) (fs := fsR) (bs := bs_goE)
    hb (by decide) rfl (by kernel_rfl) hip hvp (glNone rfl rfl) (by as_aux_lemma => kernel_rfl) (St.same (VRows.same _ _) s_) (fun a' w' q => hQ a' w' (by rw [bq_goE] at q; exact q))
end
end Go.Proofs.YthgncmohimdbmaaGreatDoor.mx
