/-
  Steps of the machine within the law TopSort.
-/
import Derived.Test.YtaabcpibfignfaaGreatDoorSONN
import Derived.Test.YtaabcpibfignfaaGreatDoorSOS
import Derived.Test.YtaabcpibfignfaaGreatDoorXN3
import Derived.Test.YtaabcpibfignfaaGreatDoorProg
import Derived.KernelRfl
set_option linter.unusedSectionVars false
set_option linter.unusedVariables false
set_option maxRecDepth 1000000
set_option maxHeartbeats 0
namespace Go.Proofs.YtaabcpibfignfaaGreatDoor.so
open Go.X Go.RowKit Go.Proofs.YtaabcpibfignfaaGreatDoor
section
variable {B : Kp} {w0 : World} {μ : M} {a : Act} {w : World}
theorem ibB {n : Nat} {s : Nat} (h1 : n < 25) (h2 : s < 1009) : ∀ x_ ∈ ([] : List BRow), IbOk (ivB n s) x_ := by
  letI := Tab.empty
  exact ibNil
theorem icB {n : Nat} {s : Nat} (h1 : n < 25) (h2 : s < 1009) : ∀ x_ ∈ ([] : List (IntKind × AV × AV)), IcOk' (ivB n s) x_ := icNil
theorem vlB {n : Nat} {s : Nat} (h1 : n < 25) (h2 : s < 1009) : ∀ x_ ∈ ([] : List VL), VlOk (ivB n s) (vvB n s) x_ :=
  allNil
theorem vsB {n : Nat} {s : Nat} (h1 : n < 25) (h2 : s < 1009) : ∀ x_ ∈ ([] : List VS), VsOk (ivB n s) (vvB n s) (vkB n s) x_ :=
  allNil
theorem vzB {n : Nat} {s : Nat} (h1 : n < 25) (h2 : s < 1009) : ∀ x_ ∈ ([] : List VZ), VzOk (ivB n s) (vvB n s) (vkB n s) x_ :=
  allNil
abbrev RB {n : Nat} {s : Nat} (h1 : n < 25) (h2 : s < 1009) : VRows (ivB n s) (vvB n s) (vkB n s) where
  vvp := vpB n s
  ib := []
  ibok := ibB h1 h2
  ic := []
  icok := icB h1 h2
  vl := []
  vlok := vlB h1 h2
  vs := []
  vsok := vsB h1 h2
  vz := []
  vzok := vzB h1 h2
  vc := []
  vcok := allNil
noncomputable abbrev rl_goB : List (Nat × Nat) := [(20000, 20000), (20001, 20065), (20002, 20066), (20003, 14155), (20004, 14157), (20005, 14154), (20006, 20006), (20007, 20007), (20008, 20008), (20010, 20010), (20011, 20011), (20012, 20012)]
noncomputable abbrev bs_goB : BS := [(7332, 7332, (.map [(tx67, (pN 14235), 0)] 1)), (7333, 7333, kb0), (7334, 7334, kb1), (10586, 10586, kb2), (10587, 10587, (.cells 5 false [] (T.ofList 0 .leaf [(pN 7334), (.ov 20003 2 1), (.so 20004 0 3 1), (.so 20005 0 3 3), (.map 10586)]))), (10593, 10593, kb3), (13933, 13933, (.cells 4 false [] (T.ofList 0 .leaf [(.so 20001 0 6 1), (.so 20002 0 6 1), (.so 20006 0 1 7), (iN 17)]))), (13934, 13934, kb5), (13936, 13936, (.map [(tx24, (iN 5), 0)] 1)), (13937, 13937, (.cells 32 false [] (T.ofList 0 .leaf [(pN 7334), (pN 10592), (pN 10587), (pN 10589), (pN 10593), (pN 13933), (.so 20007 0 1 1), (.map 13934), (.map 13935), .nils, z1, (iN 3), (iN 6), z0, .nilp, bT, (iN 100000), (iN 5), z0, z1, z0, z0, (uN 0), z0, tx0, tx0, bF, z0, .nils, z0, z0, (.map 13936)]))), (14235, 14235, kb8), (14237, 14237, kb9), (14558, 14558, kb10), (17203, 17203, kb11), (17208, 17208, kb12), (20000, 20000, kb13), (20001, 20065, (.cells 6 true [] (T.ofList 0 .leaf [(oN 0), (oN 1), z0, z0, z0, (oN 0)]))), (20002, 20066, (.cells 6 true [] (T.ofList 0 .leaf [bF, bF, bF, bF, bF, bF]))), (20003, 14155, (.vec 0)), (20004, 14157, kb7), (20005, 14154, kb6), (20006, 20006, (.cells 7 true [] (ofPairs [(0, z0), (1, z0), (3, z0), (4, (iN 5)), (5, (iN 8)), (6, z1)]))), (20007, 20007, (.cells 1 true [] (T.ofList 0 .leaf [(pN 20008)]))), (20008, 20008, (.cells 6 false [] (T.ofList 0 .leaf [z0, z0, (pN 14235), z0, (iN 5), .nilp]))), (20010, 20010, kb14), (20011, 20011, kb15)]
noncomputable abbrev ip_goB : IP := [(.int .i64 8, 2), (.oi 0, 0), (.oi 1, 1)]
theorem bq_goB : hOf 20040 bs_goB = hOf 20040 bsN := hOf_congr (by kernel_rfl)
theorem goB {n : Nat} {s : Nat} (h1 : n < 25) (h2 : s < 1009) (hb : Base B μ 20000) {Q : Exit → Act → World → Prop} {j_ : Nat} (s_ : SB n s B w0 μ a w) (hQ : ∀ a' w', SN (n) (s) B w0 μ a' w' → Code.rounds Tryz.prog la Q j_ a' w') : Code.rounds Tryz.prog la Q (j_ + 5) a w := by
  have hip : IpOk ((RB (n := n) (s := s) h1 h2).tab) (PN (n) (s)) ip_goB := (ipCons (ipK (show (IntKind.i64, ((8 : Nat) : Int)) = (IntKind.i64, 8) from Prod.ext rfl (show (((8 : Nat) : Int) : Int) = 8 by omega))) (ipCons (ipN (.i64, ((n : Nat) : Int)) rfl rfl) (ipCons (ipN (.i64, ((s : Nat) : Int)) rfl rfl) ipNil)))
  have hvp : VpOk ((RB (n := n) (s := s) h1 h2).tab) (PN (n) (s)) ⟨20000, 20040, ofPairs rl_goB, ip_goB⟩ [(14155, .cells 8 true [] (T.ofList 0 .leaf [(.int .u64 0), (.int .u64 0), (.int .u64 1), (.int .u64 0), (.int .u64 0), (.int .u64 2), (.int .u64 0), (.int .u64 0)]), 0)] := (vpCons (vpWcells (T := ((RB (n := n) (s := s) h1 h2).tab)) (T' := (PN (n) (s))) (i' := 0) hip (L := [(.int .u64 0), (.int .u64 0), (.int .u64 1), (.int .u64 0), (.int .u64 0), (.int .u64 2), (.int .u64 0), (.int .u64 0)]) (L' := [(.int .u64 0), (.int .u64 0), (.int .u64 1), (.int .u64 0), (.int .u64 0), (.int .u64 2), (.int .u64 0), (.int .u64 0)]) (n := 8) (W' := fun _ => 0#64) rfl rfl (by decide) (Nat.le_refl _) rfl (by kernel_rfl))
    vpNil)
  exact stepsTo_sound (T := ((RB (n := n) (s := s) h1 h2).tab)) (T' := (PN (n) (s))) (K := Hand.none) (m := 5000) mixed (@HandOk.none ((RB (n := n) (s := s) h1 h2).tab) Tryz.prog) (C := ⟨20000, 20040, ofPairs rl_goB, ip_goB⟩) (ex := .normal) (rl := rl_goB) (vp := [(14155, .cells 8 true [] (T.ofList 0 .leaf [(.int .u64 0), (.int .u64 0), (.int .u64 1), (.int .u64 0), (.int .u64 0), (.int .u64 2), (.int .u64 0), (.int .u64 0)]), 0)]) (fs := fsR) (bs := bs_goB)
    hb (by decide) rfl (by kernel_rfl) hip hvp (glNone rfl rfl) (by as_aux_lemma => kernel_rfl) (St.same (VRows.same _ _) s_) (fun a' w' q => hQ a' w' (by rw [bq_goB] at q; exact q))
theorem ibN {n : Nat} {s : Nat} (h1 : n < 25) (h2 : s < 1009) : ∀ x_ ∈ ([(11, .oi 0, .int .i64 0, .bool false), (13, .oi 0, .int .i64 2147483647, .bool false), (2, .oi 0, .int .i64 4, .oi 3), (0, .oi 3, .int .i64 8, .oi 4), (1, .oi 4, .int .i64 1, .oi 5), (3, .oi 5, .int .i64 8, .oi 6), (0, .int .i64 3, .oi 6, .oi 7), (11, .oi 7, .int .i64 0, .bool false), (1, .int .i64 2048, .oi 2, .oi 8), (13, .oi 7, .oi 8, .bool false), (11, .oi 2, .oi 9, .bool true), (14, .oi 2, .int .i64 0, .bool true), (0, .oi 2, .int .i64 1, .oi 10), (13, .oi 10, .int .i64 0, .bool true), (0, .oi 10, .int .i64 1, .oi 11), (11, .oi 11, .oi 9, .bool true), (14, .oi 11, .int .i64 0, .bool true), (9, .oi 10, .int .i64 0, .bool false)] : List BRow), IbOk (ivN n s) x_ := by
  letI := Tab.empty
  exact (ibCons (ibLt (a := (((n : Nat) : Int))) (b := (0)) rfl rfl (decide_eq_false (by omega)))
    (ibCons (ibGt (a := (((n : Nat) : Int))) (b := (2147483647)) rfl rfl (decide_eq_false (by omega)))
    (ibCons (ibMul (a := (((n : Nat) : Int))) (b := (4)) (c := (((n * 4 : Nat) : Int))) rfl rfl rfl (by omega) (by omega) (by omega))
    (ibCons (ibAdd (a := (((n * 4 : Nat) : Int))) (b := (8)) (c := (((n * 4 + 8 : Nat) : Int))) rfl rfl rfl (by first | assumption | omega) (by omega) (by omega))
    (ibCons (ibSub (a := (((n * 4 + 8 : Nat) : Int))) (b := (1)) (c := (((n * 4 + 7 : Nat) : Int))) rfl rfl rfl (by first | assumption | omega) (by omega) (by omega))
    (ibCons (ibQuo (a := (((n * 4 + 7 : Nat) : Int))) (b := (8)) (c := ((((n * 4 + 7) / 8 : Nat) : Int))) rfl rfl rfl (by omega) (by rw [Int.tdiv_eq_ediv_of_nonneg (by omega)]; omega) (by omega) (by omega))
    (ibCons (ibAdd (a := (3)) (b := ((((n * 4 + 7) / 8 : Nat) : Int))) (c := (((3 + (n * 4 + 7) / 8 : Nat) : Int))) rfl rfl rfl (by first | assumption | omega) (by omega) (by omega))
    (ibCons (ibLt (a := (((3 + (n * 4 + 7) / 8 : Nat) : Int))) (b := (0)) rfl rfl (decide_eq_false (by omega)))
    (ibCons (ibSub (a := (2048)) (b := (((8 : Nat) : Int))) (c := (((2040 : Nat) : Int))) rfl rfl rfl (by first | assumption | omega) (by omega) (by omega))
    (ibCons (ibGt (a := (((3 + (n * 4 + 7) / 8 : Nat) : Int))) (b := (((2040 : Nat) : Int))) rfl rfl (decide_eq_false (by omega)))
    (ibCons (ibLt (a := (((8 : Nat) : Int))) (b := (((11 + (n * 4 + 7) / 8 : Nat) : Int))) rfl rfl (decide_eq_true (by omega)))
    (ibCons (ibGe (a := (((8 : Nat) : Int))) (b := (0)) rfl rfl (decide_eq_true (by omega)))
    (ibCons (ibAdd (a := (((8 : Nat) : Int))) (b := (1)) (c := (((9 : Nat) : Int))) rfl rfl rfl (by first | assumption | omega) (by omega) (by omega))
    (ibCons (ibGt (a := (((9 : Nat) : Int))) (b := (0)) rfl rfl (decide_eq_true (by omega)))
    (ibCons (ibAdd (a := (((9 : Nat) : Int))) (b := (1)) (c := (((10 : Nat) : Int))) rfl rfl rfl (by first | assumption | omega) (by omega) (by omega))
    (ibCons (ibLt (a := (((10 : Nat) : Int))) (b := (((11 + (n * 4 + 7) / 8 : Nat) : Int))) rfl rfl (decide_eq_true (by omega)))
    (ibCons (ibGe (a := (((10 : Nat) : Int))) (b := (0)) rfl rfl (decide_eq_true (by omega)))
    (ibCons (ibEq (a := (((9 : Nat) : Int))) (b := (0)) rfl rfl (decide_eq_false (by omega)))
    ibNil))))))))))))))))))
theorem icN {n : Nat} {s : Nat} (h1 : n < 25) (h2 : s < 1009) : ∀ x_ ∈ ([(.u64, .oi 0, .oi 12)] : List (IntKind × AV × AV)), IcOk' (ivN n s) x_ := (icCons (icOf (k := .u64) (n := (((n : Nat) : Int))) (c := (((n : Nat) : Int))) rfl rfl (by first | assumption | rfl | exact wrap64 (by omega) (by omega) | exact wrapU64 (by omega) (by omega))) icNil)
theorem vlN {n : Nat} {s : Nat} (h1 : n < 25) (h2 : s < 1009) : ∀ x_ ∈ ([] : List VL), VlOk (ivN n s) (vvN n s) x_ :=
  allNil
theorem vsN {n : Nat} {s : Nat} (h1 : n < 25) (h2 : s < 1009) : ∀ x_ ∈ ([⟨1, 2, 1, 0, [(.int .u64 3)], 2⟩, ⟨2, 11, 1, 0, [(oN 12)], 3⟩] : List VS), VsOk (ivN n s) (vvN n s) (vkN n s) x_ :=
  (allCons (vsW2 (L := [(.int .u64 0), (.int .u64 0), (.int .u64 1), (.int .u64 0), (.int .u64 0), (.int .u64 2), (.int .u64 0), (.int .u64 0)]) (n := 11 + (n * 4 + 7) / 8) (W := fun _ => 0#64) (W' := fun q => if q = 0 then 3#64 else 0#64) (k := 8) (q := 0) (x := (.int .u64 3)) rfl rfl rfl rfl rfl rfl rfl rfl (by show _ = _ + _; simp <;> omega) (by omega) rfl (fun _ h_ => if_neg h_))
    (allCons (vsW2 (L := [(.int .u64 0), (.int .u64 0), (.int .u64 1), (.int .u64 0), (.int .u64 0), (.int .u64 2), (.int .u64 0), (.int .u64 0)]) (n := 11 + (n * 4 + 7) / 8) (W := fun q => if q = 0 then 3#64 else 0#64) (W' := fun q => if q = 2 then BitVec.ofNat 64 n else if q = 0 then 3#64 else 0#64) (k := 10) (q := 2) (x := (oN 12)) rfl rfl rfl rfl rfl rfl rfl rfl (by show _ = _ + _; simp <;> omega) (by omega) (by show some (IntKind.u64, ((n : Nat) : Int)) = some (IntKind.u64, wI (BitVec.ofNat 64 n)); rw [wI_ofNat (by omega)]) (fun _ h_ => if_neg h_))
    allNil))
theorem vzN {n : Nat} {s : Nat} (h1 : n < 25) (h2 : s < 1009) : ∀ x_ ∈ ([⟨0, 2, 1, 7, [(.int .u64 0)], 1, 9⟩] : List VZ), VzOk (ivN n s) (vvN n s) (vkN n s) x_ :=
  (allCons (vzW (L := [(.int .u64 0), (.int .u64 0), (.int .u64 1), (.int .u64 0), (.int .u64 0), (.int .u64 2), (.int .u64 0), (.int .u64 0)]) (a := 8) (b := 11 + (n * 4 + 7) / 8) (c := 3 + (n * 4 + 7) / 8) (W := fun _ => 0#64) (W' := fun _ => 0#64) rfl rfl rfl rfl rfl rfl rfl rfl (by omega) (by omega) (by decide) (fun _ _ => rfl) (fun _ _ => rfl))
    allNil)
abbrev RN {n : Nat} {s : Nat} (h1 : n < 25) (h2 : s < 1009) : VRows (ivN n s) (vvN n s) (vkN n s) where
  vvp := vpN n s
  ib := [(11, .oi 0, .int .i64 0, .bool false), (13, .oi 0, .int .i64 2147483647, .bool false), (2, .oi 0, .int .i64 4, .oi 3), (0, .oi 3, .int .i64 8, .oi 4), (1, .oi 4, .int .i64 1, .oi 5), (3, .oi 5, .int .i64 8, .oi 6), (0, .int .i64 3, .oi 6, .oi 7), (11, .oi 7, .int .i64 0, .bool false), (1, .int .i64 2048, .oi 2, .oi 8), (13, .oi 7, .oi 8, .bool false), (11, .oi 2, .oi 9, .bool true), (14, .oi 2, .int .i64 0, .bool true), (0, .oi 2, .int .i64 1, .oi 10), (13, .oi 10, .int .i64 0, .bool true), (0, .oi 10, .int .i64 1, .oi 11), (11, .oi 11, .oi 9, .bool true), (14, .oi 11, .int .i64 0, .bool true), (9, .oi 10, .int .i64 0, .bool false)]
  ibok := ibN h1 h2
  ic := [(.u64, .oi 0, .oi 12)]
  icok := icN h1 h2
  vl := []
  vlok := vlN h1 h2
  vs := [⟨1, 2, 1, 0, [(.int .u64 3)], 2⟩, ⟨2, 11, 1, 0, [(oN 12)], 3⟩]
  vsok := vsN h1 h2
  vz := [⟨0, 2, 1, 7, [(.int .u64 0)], 1, 9⟩]
  vzok := vzN h1 h2
  vc := []
  vcok := allNil
noncomputable abbrev rl_goN : List (Nat × Nat) := [(20000, 20000), (20001, 20001), (20002, 20002), (20003, 20109), (20004, 20111), (20005, 20108), (20006, 20006), (20007, 20007), (20008, 20008), (20010, 20010), (20011, 20011), (20012, 20012)]
noncomputable abbrev bs_goN : BS := [(10587, 10587, kb16), (10593, 10593, kb3), (13933, 13933, kb4), (13934, 13934, kb5), (13936, 13936, (.map [(tx24, (oN 3), 0)] 1)), (13937, 13937, kb17), (14235, 14235, kb8), (14558, 14558, kb10), (17203, 17203, kb11), (17208, 17208, kb12), (20000, 20000, kb13), (20001, 20001, kb21), (20002, 20002, kb22), (20003, 20109, (.vec 0)), (20004, 20111, kb20), (20005, 20108, kb19), (20006, 20006, kb18), (20007, 20007, (.cells 1 true [] (T.ofList 0 .leaf [(pN 20008)]))), (20008, 20008, (.cells 6 false [] (T.ofList 0 .leaf [z0, z0, (pN 14235), z0, (iN 9), .nilp]))), (20010, 20010, kb14), (20011, 20011, kb15)]
noncomputable abbrev ip_goN : IP := [(.oi 9, 7), (.int .i64 7, 3), (.oi 0, 0), (.oi 1, 1), (.int .i64 0, 2), (.oi 10, 6), (.oi 2, 5)]
theorem bq_goN : hOf 20040 bs_goN = hOf 20040 bsF := hOf_congr (by kernel_rfl)
theorem goN {n : Nat} {s : Nat} (h1 : n < 25) (h2 : s < 1009) (hb : Base B μ 20000) {Q : Exit → Act → World → Prop} {j_ : Nat} (s_ : SN n s B w0 μ a w) (hQ : ∀ a' w', SF (n) (s) (0) (7) (fun _ => 0#64) B w0 μ a' w' → Code.rounds Tryz.prog la Q j_ a' w') : Code.rounds Tryz.prog la Q (j_ + 2) a w := by
  have hip : IpOk ((RN (n := n) (s := s) h1 h2).tab) (PF (n) (s) (0) (7) (fun _ => 0#64)) ip_goN := (ipCons (ipN (.i64, ((11 + (n * 4 + 7) / 8 : Nat) : Int)) rfl rfl) (ipCons (ipK (show (IntKind.i64, ((7 : Nat) : Int)) = (IntKind.i64, 7) from Prod.ext rfl (show (((7 : Nat) : Int) : Int) = 7 by omega))) (ipCons (ipN (.i64, ((n : Nat) : Int)) rfl rfl) (ipCons (ipN (.i64, ((s : Nat) : Int)) rfl rfl) (ipCons (ipK (show (IntKind.i64, ((0 : Nat) : Int)) = (IntKind.i64, 0) from Prod.ext rfl (show (((0 : Nat) : Int) : Int) = 0 by omega))) (ipCons (ipN (.i64, ((9 : Nat) : Int)) rfl rfl) (ipCons (ipN (.i64, ((8 : Nat) : Int)) rfl rfl) ipNil)))))))
  have hvp : VpOk ((RN (n := n) (s := s) h1 h2).tab) (PF (n) (s) (0) (7) (fun _ => 0#64)) ⟨20000, 20040, ofPairs rl_goN, ip_goN⟩ [(20109, .vec 3, 0)] := (vpCons (vpW (T := ((RN (n := n) (s := s) h1 h2).tab)) (T' := (PF (n) (s) (0) (7) (fun _ => 0#64))) (i := 3) (i' := 0) hip (L := [(.int .u64 0), (.int .u64 0), (.int .u64 1), (.int .u64 0), (.int .u64 0), (.int .u64 2), (.int .u64 0), (.int .u64 0)]) (L' := [(.int .u64 0), (.int .u64 0), (.int .u64 1), (.int .u64 0), (.int .u64 0), (.int .u64 2), (.int .u64 0), (.int .u64 0), (.int .u64 3), (.int .u64 0), (oN 4)]) (n := 11 + (n * 4 + 7) / 8) (n' := 11 + (n * 4 + 7) / 8) (W := fun q => if q = 2 then BitVec.ofNat 64 n else if q = 0 then 3#64 else 0#64) (W' := (fun _ => 0#64)) rfl rfl (Nat.le_refl _) (Nat.le_refl _) (by decide) (show 11 ≤ 11 + (n * 4 + 7) / 8 by omega) (by kernel_rfl) (fun q_ x_ h_ μ v hv => (by
      match q_, h_ with
      | 0, h_ => cases h_; exact hv
      | 1, h_ => cases h_; exact hv
      | 2, h_ => cases h_; (show v = _); rw [hv]; (show Value.int .u64 (wI (BitVec.ofNat 64 n)) = Value.int .u64 ((n : Nat) : Int)); rw [wI_ofNat (by omega)]
      | q_ + 3, h_ => exact absurd h_ (by rw [List.getElem?_eq_none (by show 11 ≤ 8 + (q_ + 3); omega)]; exact nofun))) (fun q_ _ => (by show (0 : BitVec 64) = (if 3 + q_ = 2 then _ else if 3 + q_ = 0 then _ else _); rw [if_neg (by omega), if_neg (by omega)]; rfl)))
    vpNil)
  exact stepsTo_sound (T := ((RN (n := n) (s := s) h1 h2).tab)) (T' := (PF (n) (s) (0) (7) (fun _ => 0#64))) (K := Hand.none) (m := 5000) mixed (@HandOk.none ((RN (n := n) (s := s) h1 h2).tab) Tryz.prog) (C := ⟨20000, 20040, ofPairs rl_goN, ip_goN⟩) (ex := .normal) (rl := rl_goN) (vp := [(20109, .vec 3, 0)]) (fs := fsR) (bs := bs_goN)
    hb (by decide) rfl (by kernel_rfl) hip hvp (glNone rfl rfl) (by as_aux_lemma => kernel_rfl) (St.same (VRows.same _ _) s_) (fun a' w' q => hQ a' w' (by rw [bq_goN] at q; exact q))
end
end Go.Proofs.YtaabcpibfignfaaGreatDoor.so
