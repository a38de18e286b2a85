/-
  Steps to the first loop.
-/
import Derived.Test.YtfkfmjlppllfoaaGreatDoorSVS
import Derived.Test.YtfkfmjlppllfoaaGreatDoorXN3
import Derived.Test.YtfkfmjlppllfoaaGreatDoorProg
import Derived.KernelRfl
set_option linter.unusedSectionVars false
set_option linter.unusedVariables false
set_option maxRecDepth 1000000
set_option maxHeartbeats 0
namespace Go.Proofs.YtfkfmjlppllfoaaGreatDoor.sv
open Go.X Go.RowKit Go.Proofs.YtfkfmjlppllfoaaGreatDoor
section
variable {B : Kp} {w0 : World} {μ : M} {a : Act} {w : World}
theorem ibB {n : Nat} (h1 : n < 400) : ∀ x_ ∈ ([(0, .oi 0, .int .i64 1, .oi 2)] : List BRow), IbOk (ivB n) x_ := by
  letI := Tab.empty
  exact (ibCons (ibAdd (a := (((n : Nat) : Int))) (b := (1)) (c := (((n + 1 : Nat) : Int))) rfl rfl rfl (by first | assumption | omega) (by omega) (by omega))
    ibNil)
theorem icB {n : Nat} (h1 : n < 400) : ∀ x_ ∈ ([(.i32, .oi 0, .oi 1), (.i64, .oi 1, .oi 0), (.i32, .oi 2, .oi 3), (.i64, .oi 3, .oi 2)] : List (IntKind × AV × AV)), IcOk' (ivB n) x_ := (icCons (ic32 (n := (((n : Nat) : Int))) rfl rfl (by omega) (by omega)) (icCons (ic64 (n := (((n : Nat) : Int))) rfl rfl (by omega) (by omega)) (icCons (ic32 (n := (((n + 1 : Nat) : Int))) rfl rfl (by omega) (by omega)) (icCons (ic64 (n := (((n + 1 : Nat) : Int))) rfl rfl (by omega) (by omega)) icNil))))
theorem vlB {n : Nat} (h1 : n < 400) : ∀ x_ ∈ ([] : List VL), VlOk (ivB n) (vvB n) x_ :=
  allNil
theorem vsB {n : Nat} (h1 : n < 400) : ∀ x_ ∈ ([] : List VS), VsOk (ivB n) (vvB n) (vkB n) x_ :=
  allNil
theorem vzB {n : Nat} (h1 : n < 400) : ∀ x_ ∈ ([] : List VZ), VzOk (ivB n) (vvB n) (vkB n) x_ :=
  allNil
abbrev RB {n : Nat} (h1 : n < 400) : VRows (ivB n) (vvB n) (vkB n) where
  vvp := vpB n
  ib := [(0, .oi 0, .int .i64 1, .oi 2)]
  ibok := ibB h1
  ic := [(.i32, .oi 0, .oi 1), (.i64, .oi 1, .oi 0), (.i32, .oi 2, .oi 3), (.i64, .oi 3, .oi 2)]
  icok := icB h1
  vl := []
  vlok := vlB h1
  vs := []
  vsok := vsB h1
  vz := []
  vzok := vzB h1
  vc := []
  vcok := allNil
noncomputable abbrev rl_goB : List (Nat × Nat) := [(20000, 20000), (20001, 20283), (20002, 20284), (20003, 13985), (20004, 13987), (20005, 13984), (20006, 20006), (20007, 20007), (20008, 20008), (20010, 20010), (20011, 20011)]
noncomputable abbrev bs_goB : BS := [(7162, 7162, (.map [((.str 1 77), (.ptr 14065 0), 0)] 1)), (7163, 7163, kb0), (7164, 7164, kb1), (10416, 10416, kb2), (10417, 10417, (.cells 5 false [] (T.ofList 0 .leaf [(.ptr 7164 0), (.ov 20003 2 1), (.so 20004 0 3 1), (.so 20005 0 3 3), (.map 10416)]))), (10423, 10423, kb3), (13763, 13763, (.cells 4 false [] (T.ofList 0 .leaf [(.so 20001 0 6 1), (.so 20002 0 6 1), (.so 20006 0 1 7), (.int .i64 12)]))), (13764, 13764, kb5), (13766, 13766, (.map [((.str 9 1349587270641094438477), (.int .i64 9), 0)] 1)), (13767, 13767, (.cells 32 false [] (T.ofList 0 .leaf [(.ptr 7164 0), (.ptr 10422 0), (.ptr 10417 0), (.ptr 10419 0), (.ptr 10423 0), (.ptr 13763 0), (.so 20007 0 1 1), (.map 13764), (.map 13765), .nils, (.int .i64 1), (.int .i64 3), (.int .i64 6), (.int .i64 0), .nilp, (.bool true), (.int .i64 100000), (.int .i64 9), (.int .i64 0), (.int .i64 1), (.int .i64 0), (.int .i64 0), (.int .u8 0), (.int .i64 0), (.str 0 0), (.str 0 0), (.bool false), (.int .i64 0), .nils, (.int .i64 0), (.int .i64 0), (.map 13766)]))), (14065, 14065, kb8), (14067, 14067, kb9), (14379, 14379, kb10), (15654, 15654, kb11), (15659, 15659, kb12), (20000, 20000, kb13), (20001, 20283, (.cells 6 true [] (T.ofList 0 .leaf [(.oi 0), (.int .i64 0), (.int .i64 0), (.int .i64 0), (.int .i64 0), (.oi 1)]))), (20002, 20284, (.cells 6 true [] (T.ofList 0 .leaf [(.bool false), (.bool false), (.bool false), (.bool false), (.bool false), (.bool false)]))), (20003, 13985, (.vec 0)), (20004, 13987, kb7), (20005, 13984, kb6), (20006, 20006, (.cells 7 true [] (ofPairs [(0, (.int .i64 0)), (1, (.int .i64 0)), (3, (.int .i64 0)), (4, (.int .i64 5)), (5, (.int .i64 3)), (6, (.int .i64 1))]))), (20007, 20007, (.cells 1 true [] (T.ofList 0 .leaf [(.ptr 20008 0)]))), (20008, 20008, (.cells 6 false [] (T.ofList 0 .leaf [(.int .i64 0), (.int .i64 0), (.ptr 14065 0), (.int .i64 0), (.int .i64 9), .nilp]))), (20010, 20010, kb14), (20011, 20011, kb15)]
noncomputable abbrev ip_goB : IP := [(.int .i64 8, 2), (.oi 0, 0), (.oi 2, 1)]
theorem bq_goB : hOf 20040 bs_goB = hOf 20040 bsN := hOf_congr (by kernel_rfl)
theorem goB {n : Nat} (h1 : n < 400) (hb : Base B μ 20000) {Q : Exit → Act → World → Prop} {j_ : Nat} (s_ : SB n B w0 μ a w) (hQ : ∀ a' w', SN (n) B w0 μ a' w' → Code.rounds Tryz.prog la Q j_ a' w') : Code.rounds Tryz.prog la Q (j_ + 9) a w := by
  have hip : IpOk ((RB (n := n) h1).tab) (PN (n)) ip_goB := (ipCons (ipK (show (IntKind.i64, ((8 : Nat) : Int)) = (IntKind.i64, 8) from Prod.ext rfl (show (((8 : Nat) : Int) : Int) = 8 by omega))) (ipCons (ipN (.i64, ((n : Nat) : Int)) rfl rfl) (ipCons (ipN (.i64, ((n + 1 : Nat) : Int)) rfl rfl) ipNil)))
  have hvp : VpOk ((RB (n := n) h1).tab) (PN (n)) ⟨20000, 20040, ofPairs rl_goB, ip_goB⟩ [(13985, .cells 8 true [] (T.ofList 0 .leaf [(.int .u64 0), (.int .u64 0), (.int .u64 1), (.int .u64 0), (.int .u64 0), (.int .u64 2), (.int .u64 0), (.int .u64 0)]), 0)] := (vpCons (vpWcells (T := ((RB (n := n) h1).tab)) (T' := (PN (n))) (i' := 0) hip (L := [(.int .u64 0), (.int .u64 0), (.int .u64 1), (.int .u64 0), (.int .u64 0), (.int .u64 2), (.int .u64 0), (.int .u64 0)]) (L' := [(.int .u64 0), (.int .u64 0), (.int .u64 1), (.int .u64 0), (.int .u64 0), (.int .u64 2), (.int .u64 0), (.int .u64 0)]) (n := 8) (W' := fun _ => 0#64) rfl rfl (by decide) (Nat.le_refl _) rfl (by kernel_rfl))
    vpNil)
  exact stepsTo_sound (T := ((RB (n := n) h1).tab)) (T' := (PN (n))) (K := Hand.none) (m := 5000) mixed (@HandOk.none ((RB (n := n) h1).tab) Tryz.prog) (C := ⟨20000, 20040, ofPairs rl_goB, ip_goB⟩) (ex := .normal) (rl := rl_goB) (vp := [(13985, .cells 8 true [] (T.ofList 0 .leaf [(.int .u64 0), (.int .u64 0), (.int .u64 1), (.int .u64 0), (.int .u64 0), (.int .u64 2), (.int .u64 0), (.int .u64 0)]), 0)]) (fs := fsR) (bs := bs_goB)
    hb (by decide) rfl (by kernel_rfl) hip hvp (glNone rfl rfl) (by as_aux_lemma => kernel_rfl) (St.same (VRows.same _ _) s_) (fun a' w' q => hQ a' w' (by rw [bq_goB] at q; exact q))
theorem ibN {n : Nat} (h1 : n < 400) : ∀ x_ ∈ ([(11, .oi 1, .int .i64 0, .bool false), (13, .oi 1, .int .i64 2147483647, .bool false), (2, .oi 1, .int .i64 1, .oi 1), (0, .oi 1, .int .i64 8, .oi 3), (1, .oi 3, .int .i64 1, .oi 4), (3, .oi 4, .int .i64 8, .oi 5), (0, .int .i64 3, .oi 5, .oi 6), (11, .oi 6, .int .i64 0, .bool false), (1, .int .i64 2048, .oi 2, .oi 7), (13, .oi 6, .oi 7, .bool false), (11, .oi 2, .oi 8, .bool true), (14, .oi 2, .int .i64 0, .bool true), (0, .oi 2, .int .i64 1, .oi 9), (13, .oi 9, .int .i64 0, .bool true), (0, .oi 9, .int .i64 1, .oi 10), (11, .oi 10, .oi 8, .bool true), (14, .oi 10, .int .i64 0, .bool true), (9, .oi 9, .int .i64 0, .bool false)] : List BRow), IbOk (ivN n) x_ := by
  letI := Tab.empty
  exact (ibCons (ibLt (a := (((n + 1 : Nat) : Int))) (b := (0)) rfl rfl (decide_eq_false (by omega)))
    (ibCons (ibGt (a := (((n + 1 : Nat) : Int))) (b := (2147483647)) rfl rfl (decide_eq_false (by omega)))
    (ibCons (ibMul (a := (((n + 1 : Nat) : Int))) (b := (1)) (c := (((n + 1 : Nat) : Int))) rfl rfl rfl (by first | assumption | omega) (by omega) (by omega))
    (ibCons (ibAdd (a := (((n + 1 : Nat) : Int))) (b := (8)) (c := (((n + 9 : Nat) : Int))) rfl rfl rfl (by first | assumption | omega) (by omega) (by omega))
    (ibCons (ibSub (a := (((n + 9 : Nat) : Int))) (b := (1)) (c := (((n + 8 : Nat) : Int))) rfl rfl rfl (by first | assumption | omega) (by omega) (by omega))
    (ibCons (ibQuo (a := (((n + 8 : Nat) : Int))) (b := (8)) (c := ((((n + 8) / 8 : Nat) : Int))) rfl rfl rfl (by omega) (by rw [Int.tdiv_eq_ediv_of_nonneg (by omega)]; omega) (by omega) (by omega))
    (ibCons (ibAdd (a := (3)) (b := ((((n + 8) / 8 : Nat) : Int))) (c := (((3 + (n + 8) / 8 : Nat) : Int))) rfl rfl rfl (by first | assumption | omega) (by omega) (by omega))
    (ibCons (ibLt (a := (((3 + (n + 8) / 8 : Nat) : Int))) (b := (0)) rfl rfl (decide_eq_false (by omega)))
    (ibCons (ibSub (a := (2048)) (b := (((8 : Nat) : Int))) (c := (2040)) rfl rfl rfl (by first | assumption | omega) (by omega) (by omega))
    (ibCons (ibGt (a := (((3 + (n + 8) / 8 : Nat) : Int))) (b := (2040)) rfl rfl (decide_eq_false (by omega)))
    (ibCons (ibLt (a := (((8 : Nat) : Int))) (b := (((11 + (n + 8) / 8 : Nat) : Int))) rfl rfl (decide_eq_true (by omega)))
    (ibCons (ibGe (a := (((8 : Nat) : Int))) (b := (0)) rfl rfl (decide_eq_true (by omega)))
    (ibCons (ibAdd (a := (((8 : Nat) : Int))) (b := (1)) (c := (((9 : Nat) : Int))) rfl rfl rfl (by first | assumption | omega) (by omega) (by omega))
    (ibCons (ibGt (a := (((9 : Nat) : Int))) (b := (0)) rfl rfl (decide_eq_true (by omega)))
    (ibCons (ibAdd (a := (((9 : Nat) : Int))) (b := (1)) (c := (((10 : Nat) : Int))) rfl rfl rfl (by first | assumption | omega) (by omega) (by omega))
    (ibCons (ibLt (a := (((10 : Nat) : Int))) (b := (((11 + (n + 8) / 8 : Nat) : Int))) rfl rfl (decide_eq_true (by omega)))
    (ibCons (ibGe (a := (((10 : Nat) : Int))) (b := (0)) rfl rfl (decide_eq_true (by omega)))
    (ibCons (ibEq (a := (((9 : Nat) : Int))) (b := (0)) rfl rfl (decide_eq_false (by omega)))
    ibNil))))))))))))))))))
theorem icN {n : Nat} (h1 : n < 400) : ∀ x_ ∈ ([(.u64, .oi 1, .oi 11)] : List (IntKind × AV × AV)), IcOk' (ivN n) x_ := (icCons (icOf (k := .u64) (n := (((n + 1 : Nat) : Int))) (c := (((n + 1 : Nat) : Int))) rfl rfl (by first | assumption | rfl | exact wrap64 (by omega) (by omega) | exact wrapU64 (by omega) (by omega))) icNil)
theorem vlN {n : Nat} (h1 : n < 400) : ∀ x_ ∈ ([] : List VL), VlOk (ivN n) (vvN n) x_ :=
  allNil
theorem vsN {n : Nat} (h1 : n < 400) : ∀ x_ ∈ ([⟨1, 2, 1, 0, [(.int .u64 3)], 2⟩, ⟨2, 10, 1, 0, [(.oi 11)], 3⟩] : List VS), VsOk (ivN n) (vvN n) (vkN n) x_ :=
  (allCons (vsW2 (L := [(.int .u64 0), (.int .u64 0), (.int .u64 1), (.int .u64 0), (.int .u64 0), (.int .u64 2), (.int .u64 0), (.int .u64 0)]) (n := 11 + (n + 8) / 8) (W := fun _ => 0#64) (W' := fun q => if q = 0 then 3#64 else 0#64) (k := 8) (q := 0) (x := (.int .u64 3)) rfl rfl rfl rfl rfl rfl rfl rfl (by show _ = _ + _; simp <;> omega) (by omega) rfl (fun _ h_ => if_neg h_))
    (allCons (vsW2 (L := [(.int .u64 0), (.int .u64 0), (.int .u64 1), (.int .u64 0), (.int .u64 0), (.int .u64 2), (.int .u64 0), (.int .u64 0)]) (n := 11 + (n + 8) / 8) (W := fun q => if q = 0 then 3#64 else 0#64) (W' := fun q => if q = 2 then BitVec.ofNat 64 (n + 1) else if q = 0 then 3#64 else 0#64) (k := 10) (q := 2) (x := (.oi 11)) rfl rfl rfl rfl rfl rfl rfl rfl (by show _ = _ + _; simp <;> omega) (by omega) (by show some (IntKind.u64, ((n + 1 : Nat) : Int)) = some (IntKind.u64, wI (BitVec.ofNat 64 (n + 1))); rw [wI_ofNat (by omega)]) (fun _ h_ => if_neg h_))
    allNil))
theorem vzN {n : Nat} (h1 : n < 400) : ∀ x_ ∈ ([⟨0, 2, 1, 6, [(.int .u64 0)], 1, 8⟩] : List VZ), VzOk (ivN n) (vvN n) (vkN n) x_ :=
  (allCons (vzW (L := [(.int .u64 0), (.int .u64 0), (.int .u64 1), (.int .u64 0), (.int .u64 0), (.int .u64 2), (.int .u64 0), (.int .u64 0)]) (a := 8) (b := 11 + (n + 8) / 8) (c := 3 + (n + 8) / 8) (W := fun _ => 0#64) (W' := fun _ => 0#64) rfl rfl rfl rfl rfl rfl rfl rfl (by omega) (by omega) (by decide) (fun _ _ => rfl) (fun _ _ => rfl))
    allNil)
abbrev RN {n : Nat} (h1 : n < 400) : VRows (ivN n) (vvN n) (vkN n) where
  vvp := vpN n
  ib := [(11, .oi 1, .int .i64 0, .bool false), (13, .oi 1, .int .i64 2147483647, .bool false), (2, .oi 1, .int .i64 1, .oi 1), (0, .oi 1, .int .i64 8, .oi 3), (1, .oi 3, .int .i64 1, .oi 4), (3, .oi 4, .int .i64 8, .oi 5), (0, .int .i64 3, .oi 5, .oi 6), (11, .oi 6, .int .i64 0, .bool false), (1, .int .i64 2048, .oi 2, .oi 7), (13, .oi 6, .oi 7, .bool false), (11, .oi 2, .oi 8, .bool true), (14, .oi 2, .int .i64 0, .bool true), (0, .oi 2, .int .i64 1, .oi 9), (13, .oi 9, .int .i64 0, .bool true), (0, .oi 9, .int .i64 1, .oi 10), (11, .oi 10, .oi 8, .bool true), (14, .oi 10, .int .i64 0, .bool true), (9, .oi 9, .int .i64 0, .bool false)]
  ibok := ibN h1
  ic := [(.u64, .oi 1, .oi 11)]
  icok := icN h1
  vl := []
  vlok := vlN h1
  vs := [⟨1, 2, 1, 0, [(.int .u64 3)], 2⟩, ⟨2, 10, 1, 0, [(.oi 11)], 3⟩]
  vsok := vsN h1
  vz := [⟨0, 2, 1, 6, [(.int .u64 0)], 1, 8⟩]
  vzok := vzN h1
  vc := []
  vcok := allNil
noncomputable abbrev rl_goN : List (Nat × Nat) := [(20000, 20000), (20001, 20001), (20002, 20002), (20003, 20109), (20004, 20111), (20005, 20108), (20006, 20006), (20007, 20007), (20008, 20008), (20010, 20010), (20011, 20011)]
noncomputable abbrev bs_goN : BS := [(10417, 10417, kb16), (10423, 10423, kb3), (13763, 13763, kb4), (13764, 13764, kb5), (13766, 13766, (.map [((.str 9 1349587270641094438477), (.oi 4), 0)] 1)), (13767, 13767, kb17), (14065, 14065, kb8), (14379, 14379, kb10), (15654, 15654, kb11), (15659, 15659, kb12), (20000, 20000, kb13), (20001, 20001, kb21), (20002, 20002, kb22), (20003, 20109, (.vec 0)), (20004, 20111, kb20), (20005, 20108, kb19), (20006, 20006, kb18), (20007, 20007, (.cells 1 true [] (T.ofList 0 .leaf [(.ptr 20008 0)]))), (20008, 20008, (.cells 6 false [] (T.ofList 0 .leaf [(.int .i64 0), (.int .i64 0), (.ptr 14065 0), (.int .i64 0), (.int .i64 15), .nilp]))), (20010, 20010, kb14), (20011, 20011, kb15)]
noncomputable abbrev ip_goN : IP := [(.oi 8, 8), (.int .i64 13, 4), (.oi 0, 0), (.int .i64 2, 1), (.int .i64 0, 3), (.int .i64 0, 2), (.oi 9, 7), (.oi 2, 6)]
theorem bq_goN : hOf 20040 bs_goN = hOf 20040 bsT := hOf_congr (by kernel_rfl)
theorem goN {n : Nat} (h1 : n < 400) (hb : Base B μ 20000) {Q : Exit → Act → World → Prop} {j_ : Nat} (s_ : SN n B w0 μ a w) (hQ : ∀ a' w', ST (n) (2) (0) (0) (13) (fun _ => 0#64) B w0 μ a' w' → Code.rounds Tryz.prog la Q j_ a' w') : Code.rounds Tryz.prog la Q (j_ + 4) a w := by
  have hip : IpOk ((RN (n := n) h1).tab) (PT (n) (2) (0) (0) (13) (fun _ => 0#64)) ip_goN := (ipCons (ipN (.i64, ((11 + (n + 8) / 8 : Nat) : Int)) rfl rfl) (ipCons (ipK (show (IntKind.i64, ((13 : Nat) : Int)) = (IntKind.i64, 13) from Prod.ext rfl (show (((13 : Nat) : Int) : Int) = 13 by omega))) (ipCons (ipN (.i64, ((n : Nat) : Int)) rfl rfl) (ipCons (ipK (show (IntKind.i64, ((2 : Nat) : Int)) = (IntKind.i64, 2) from Prod.ext rfl (show (((2 : Nat) : Int) : Int) = 2 by omega))) (ipCons (ipK (show (IntKind.i64, ((0 : Nat) : Int)) = (IntKind.i64, 0) from Prod.ext rfl (show (((0 : Nat) : Int) : Int) = 0 by omega))) (ipCons (ipK (show (IntKind.i64, ((0 : Nat) : Int)) = (IntKind.i64, 0) from Prod.ext rfl (show (((0 : Nat) : Int) : Int) = 0 by omega))) (ipCons (ipN (.i64, ((9 : Nat) : Int)) rfl rfl) (ipCons (ipN (.i64, ((8 : Nat) : Int)) rfl rfl) ipNil))))))))
  have hvp : VpOk ((RN (n := n) h1).tab) (PT (n) (2) (0) (0) (13) (fun _ => 0#64)) ⟨20000, 20040, ofPairs rl_goN, ip_goN⟩ [(20109, .vec 3, 0)] := (vpCons (vpW (T := ((RN (n := n) h1).tab)) (T' := (PT (n) (2) (0) (0) (13) (fun _ => 0#64))) (i := 3) (i' := 0) hip (L := [(.int .u64 0), (.int .u64 0), (.int .u64 1), (.int .u64 0), (.int .u64 0), (.int .u64 2), (.int .u64 0), (.int .u64 0)]) (L' := [(.int .u64 0), (.int .u64 0), (.int .u64 1), (.int .u64 0), (.int .u64 0), (.int .u64 2), (.int .u64 0), (.int .u64 0), (.int .u64 3), (.int .u64 0), (.oi 5)]) (n := 11 + (n + 8) / 8) (n' := 11 + (n + 8) / 8) (W := fun q => if q = 2 then BitVec.ofNat 64 (n + 1) else if q = 0 then 3#64 else 0#64) (W' := (fun _ => 0#64)) rfl rfl (Nat.le_refl _) (Nat.le_refl _) (by decide) (show 11 ≤ 11 + (n + 8) / 8 by omega) (by kernel_rfl) (fun q_ x_ h_ μ v hv => (by
      match q_, h_ with
      | 0, h_ => cases h_; exact hv
      | 1, h_ => cases h_; exact hv
      | 2, h_ => cases h_; (show v = _); rw [hv]; (show Value.int .u64 (wI (BitVec.ofNat 64 (n + 1))) = Value.int .u64 ((n + 1 : Nat) : Int)); rw [wI_ofNat (by omega)]
      | q_ + 3, h_ => exact absurd h_ (by rw [List.getElem?_eq_none (by show 11 ≤ 8 + (q_ + 3); omega)]; exact nofun))) (fun q_ _ => (by show (0 : BitVec 64) = (if 3 + q_ = 2 then _ else if 3 + q_ = 0 then _ else _); rw [if_neg (by omega), if_neg (by omega)]; rfl)))
    vpNil)
  exact stepsTo_sound (T := ((RN (n := n) h1).tab)) (T' := (PT (n) (2) (0) (0) (13) (fun _ => 0#64))) (K := Hand.none) (m := 5000) mixed (@HandOk.none ((RN (n := n) h1).tab) Tryz.prog) (C := ⟨20000, 20040, ofPairs rl_goN, ip_goN⟩) (ex := .normal) (rl := rl_goN) (vp := [(20109, .vec 3, 0)]) (fs := fsR) (bs := bs_goN)
    hb (by decide) rfl (by kernel_rfl) hip hvp (glNone rfl rfl) (by as_aux_lemma => kernel_rfl) (St.same (VRows.same _ _) s_) (fun a' w' q => hQ a' w' (by rw [bq_goN] at q; exact q))
end
end Go.Proofs.YtfkfmjlppllfoaaGreatDoor.sv
