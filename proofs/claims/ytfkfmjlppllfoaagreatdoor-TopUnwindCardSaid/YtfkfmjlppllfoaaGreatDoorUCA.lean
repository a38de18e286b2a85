/-
  The call of Run in the law TopUnwind.
-/
import Derived.Test.YtfkfmjlppllfoaaGreatDoorUNN
import Derived.Test.YtfkfmjlppllfoaaGreatDoorUNT
import Derived.Test.YtfkfmjlppllfoaaGreatDoorUQT0
import Derived.Test.YtfkfmjlppllfoaaGreatDoorXN3
set_option linter.unusedSectionVars false
set_option linter.unusedVariables false
set_option maxRecDepth 1000000
set_option maxHeartbeats 0
namespace Go.Proofs.YtfkfmjlppllfoaaGreatDoor.uc
open Go.X Go.RowKit Go.Proofs.YtfkfmjlppllfoaaGreatDoor.uq Go.Proofs.YtfkfmjlppllfoaaGreatDoor
noncomputable abbrev rv0 : Nat → Value := fun _ => .nilIface
theorem hOf_congr {N : Nat} {a b : BS} (h : bsOf a = bsOf b) : hOf N a = hOf N b := by unfold hOf; rw [h]
theorem hIn_next {N : Nat} {bs : BL} : (hIn N bs).next = N := by unfold hIn; rw [fT_eq]
theorem restR : restn 2 un.fullR = .seq (.block 0 (.loop un.la)) un.tl := by kernel_rfl
theorem baseUp {B : Kp} {μ : M} {n m : Nat} (h : Base B μ n) (hn : n ≤ m) : Base B μ m := ⟨fun x l e => Nat.lt_of_lt_of_le (h.names x l e) hn, fun x e => Nat.lt_of_lt_of_le (h.res x e) hn⟩
theorem bodyR : Tryz.f47.body = some un.fullR := by kernel_rfl
noncomputable abbrev nt : Nat := Tryz.f47.ntmps
abbrev ivT (x : Int) (y : Int) (q : Int) (s : Nat) (d : Nat) (S : Nat) (W : Nat) : Nat → IntKind × Int
  | 0 => (.i64, x)
  | 1 => (.i32, x)
  | 2 => (.i64, y)
  | 3 => (.i32, y)
  | 4 => (.i64, q)
  | _ => (.i64, 0)
abbrev vvT (s d S W : Nat) : Nat → Nat → Option AV
  | _ => fun _ => none
abbrev vkT (s d S W : Nat) : Nat → Nat
  | _ => 0
theorem vpT (s d S W : Nat) : ∀ i m a, vvT s d S W i m = some a → vplain a = true
  | _, _, _, h => (by cases h)
abbrev PT (x : Int) (y : Int) (q : Int) (s : Nat) (d : Nat) (S : Nat) (W : Nat) (rv : Nat → Value) : Tab := ((bare (ivT x y q s d S W) (vvT s d S W) (vkT s d S W) (vpT s d S W)).rtab rv)
theorem ibL {x : Int} {y : Int} {q : Int} {s : Nat} {d : Nat} {S : Nat} {W : Nat} (g1 : 1 ≤ x) (g2 : x ≤ 60) (g3 : 0 ≤ y) (g4 : y < 80) : ∀ x_ ∈ ([] : List BRow), IbOk (ivT x y q s d S W) x_ := by
  letI := Tab.empty
  exact ibNil
theorem icL {x : Int} {y : Int} {q : Int} {s : Nat} {d : Nat} {S : Nat} {W : Nat} (g1 : 1 ≤ x) (g2 : x ≤ 60) (g3 : 0 ≤ y) (g4 : y < 80) : ∀ x_ ∈ ([(.i32, .oi 0, .oi 1), (.i64, .oi 1, .oi 0), (.i32, .oi 2, .oi 3), (.i64, .oi 3, .oi 2)] : List (IntKind × AV × AV)), IcOk' (ivT x y q s d S W) x_ := (icCons (ic32 (n := (x)) rfl rfl (by omega) (by omega)) (icCons (ic64 (n := (x)) rfl rfl (by omega) (by omega)) (icCons (ic32 (n := (y)) rfl rfl (by omega) (by omega)) (icCons (ic64 (n := (y)) rfl rfl (by omega) (by omega)) icNil))))
theorem vlL {x : Int} {y : Int} {q : Int} {s : Nat} {d : Nat} {S : Nat} {W : Nat} (g1 : 1 ≤ x) (g2 : x ≤ 60) (g3 : 0 ≤ y) (g4 : y < 80) : ∀ x_ ∈ ([] : List VL), VlOk (ivT x y q s d S W) (vvT s d S W) x_ :=
  allNil
theorem vsL {x : Int} {y : Int} {q : Int} {s : Nat} {d : Nat} {S : Nat} {W : Nat} (g1 : 1 ≤ x) (g2 : x ≤ 60) (g3 : 0 ≤ y) (g4 : y < 80) : ∀ x_ ∈ ([] : List VS), VsOk (ivT x y q s d S W) (vvT s d S W) (vkT s d S W) x_ :=
  allNil
theorem vaL {x : Int} {y : Int} {q : Int} {s : Nat} {d : Nat} {S : Nat} {W : Nat} (g1 : 1 ≤ x) (g2 : x ≤ 60) (g3 : 0 ≤ y) (g4 : y < 80) : ∀ x_ ∈ ([] : List VA), VaOk (ivT x y q s d S W) (vvT s d S W) (vkT s d S W) x_ :=
  allNil
abbrev RL {x : Int} {y : Int} {q : Int} {s : Nat} {d : Nat} {S : Nat} {W : Nat} (g1 : 1 ≤ x) (g2 : x ≤ 60) (g3 : 0 ≤ y) (g4 : y < 80) : VRows (ivT x y q s d S W) (vvT s d S W) (vkT s d S W) where
  vvp := vpT s d S W
  ib := []
  ibok := ibL g1 g2 g3 g4
  ic := [(.i32, .oi 0, .oi 1), (.i64, .oi 1, .oi 0), (.i32, .oi 2, .oi 3), (.i64, .oi 3, .oi 2)]
  icok := icL g1 g2 g3 g4
  vl := []
  vlok := vlL g1 g2 g3 g4
  vs := []
  vsok := vsL g1 g2 g3 g4
  va := []
  vaok := vaL g1 g2 g3 g4
  vc := []
  vcok := allNil
theorem ibKD {x : Int} {y : Int} {q : Int} {s : Nat} {d : Nat} {S : Nat} {W : Nat} (g1 : 1 ≤ x) (g2 : x ≤ 60) (g3 : 0 ≤ y) (g4 : y < 80) (g5 : 1 ≤ y) (g6 : y ≤ x) : ∀ x_ ∈ ([(14, .oi 2, .int .i64 1, .bool true), (12, .oi 2, .oi 0, .bool true), (9, .oi 2, .oi 2, .bool true)] : List BRow), IbOk (ivT x y q s d S W) x_ := by
  letI := Tab.empty
  exact (ibCons (ibGe (a := (y)) (b := (1)) rfl rfl (decide_eq_true (by omega)))
    (ibCons (ibLe (a := (y)) (b := (x)) rfl rfl (decide_eq_true (by omega)))
    (ibCons (ibEq (a := (y)) (b := (y)) rfl rfl (decide_eq_true rfl))
    ibNil)))
theorem icKD {x : Int} {y : Int} {q : Int} {s : Nat} {d : Nat} {S : Nat} {W : Nat} (g1 : 1 ≤ x) (g2 : x ≤ 60) (g3 : 0 ≤ y) (g4 : y < 80) (g5 : 1 ≤ y) (g6 : y ≤ x) : ∀ x_ ∈ ([(.i32, .oi 0, .oi 1), (.i64, .oi 1, .oi 0), (.i32, .oi 2, .oi 3), (.i64, .oi 3, .oi 2)] : List (IntKind × AV × AV)), IcOk' (ivT x y q s d S W) x_ := (icCons (ic32 (n := (x)) rfl rfl (by omega) (by omega)) (icCons (ic64 (n := (x)) rfl rfl (by omega) (by omega)) (icCons (ic32 (n := (y)) rfl rfl (by omega) (by omega)) (icCons (ic64 (n := (y)) rfl rfl (by omega) (by omega)) icNil))))
theorem vlKD {x : Int} {y : Int} {q : Int} {s : Nat} {d : Nat} {S : Nat} {W : Nat} (g1 : 1 ≤ x) (g2 : x ≤ 60) (g3 : 0 ≤ y) (g4 : y < 80) (g5 : 1 ≤ y) (g6 : y ≤ x) : ∀ x_ ∈ ([] : List VL), VlOk (ivT x y q s d S W) (vvT s d S W) x_ :=
  allNil
theorem vsKD {x : Int} {y : Int} {q : Int} {s : Nat} {d : Nat} {S : Nat} {W : Nat} (g1 : 1 ≤ x) (g2 : x ≤ 60) (g3 : 0 ≤ y) (g4 : y < 80) (g5 : 1 ≤ y) (g6 : y ≤ x) : ∀ x_ ∈ ([] : List VS), VsOk (ivT x y q s d S W) (vvT s d S W) (vkT s d S W) x_ :=
  allNil
theorem vaKD {x : Int} {y : Int} {q : Int} {s : Nat} {d : Nat} {S : Nat} {W : Nat} (g1 : 1 ≤ x) (g2 : x ≤ 60) (g3 : 0 ≤ y) (g4 : y < 80) (g5 : 1 ≤ y) (g6 : y ≤ x) : ∀ x_ ∈ ([] : List VA), VaOk (ivT x y q s d S W) (vvT s d S W) (vkT s d S W) x_ :=
  allNil
abbrev RKD {x : Int} {y : Int} {q : Int} {s : Nat} {d : Nat} {S : Nat} {W : Nat} (g1 : 1 ≤ x) (g2 : x ≤ 60) (g3 : 0 ≤ y) (g4 : y < 80) (g5 : 1 ≤ y) (g6 : y ≤ x) : VRows (ivT x y q s d S W) (vvT s d S W) (vkT s d S W) where
  vvp := vpT s d S W
  ib := [(14, .oi 2, .int .i64 1, .bool true), (12, .oi 2, .oi 0, .bool true), (9, .oi 2, .oi 2, .bool true)]
  ibok := ibKD g1 g2 g3 g4 g5 g6
  ic := [(.i32, .oi 0, .oi 1), (.i64, .oi 1, .oi 0), (.i32, .oi 2, .oi 3), (.i64, .oi 3, .oi 2)]
  icok := icKD g1 g2 g3 g4 g5 g6
  vl := []
  vlok := vlKD g1 g2 g3 g4 g5 g6
  vs := []
  vsok := vsKD g1 g2 g3 g4 g5 g6
  va := []
  vaok := vaKD g1 g2 g3 g4 g5 g6
  vc := []
  vcok := allNil
theorem ibKZ {x : Int} {y : Int} {q : Int} {s : Nat} {d : Nat} {S : Nat} {W : Nat} (g1 : 1 ≤ x) (g2 : x ≤ 60) (g3 : 0 ≤ y) (g4 : y < 80) (g5 : y < 1) : ∀ x_ ∈ ([(14, .oi 2, .int .i64 1, .bool false)] : List BRow), IbOk (ivT x y q s d S W) x_ := by
  letI := Tab.empty
  exact (ibCons (ibGe (a := (y)) (b := (1)) rfl rfl (decide_eq_false (by omega)))
    ibNil)
theorem icKZ {x : Int} {y : Int} {q : Int} {s : Nat} {d : Nat} {S : Nat} {W : Nat} (g1 : 1 ≤ x) (g2 : x ≤ 60) (g3 : 0 ≤ y) (g4 : y < 80) (g5 : y < 1) : ∀ x_ ∈ ([(.i32, .oi 0, .oi 1), (.i64, .oi 1, .oi 0), (.i32, .oi 2, .oi 3), (.i64, .oi 3, .oi 2)] : List (IntKind × AV × AV)), IcOk' (ivT x y q s d S W) x_ := (icCons (ic32 (n := (x)) rfl rfl (by omega) (by omega)) (icCons (ic64 (n := (x)) rfl rfl (by omega) (by omega)) (icCons (ic32 (n := (y)) rfl rfl (by omega) (by omega)) (icCons (ic64 (n := (y)) rfl rfl (by omega) (by omega)) icNil))))
theorem vlKZ {x : Int} {y : Int} {q : Int} {s : Nat} {d : Nat} {S : Nat} {W : Nat} (g1 : 1 ≤ x) (g2 : x ≤ 60) (g3 : 0 ≤ y) (g4 : y < 80) (g5 : y < 1) : ∀ x_ ∈ ([] : List VL), VlOk (ivT x y q s d S W) (vvT s d S W) x_ :=
  allNil
theorem vsKZ {x : Int} {y : Int} {q : Int} {s : Nat} {d : Nat} {S : Nat} {W : Nat} (g1 : 1 ≤ x) (g2 : x ≤ 60) (g3 : 0 ≤ y) (g4 : y < 80) (g5 : y < 1) : ∀ x_ ∈ ([] : List VS), VsOk (ivT x y q s d S W) (vvT s d S W) (vkT s d S W) x_ :=
  allNil
theorem vaKZ {x : Int} {y : Int} {q : Int} {s : Nat} {d : Nat} {S : Nat} {W : Nat} (g1 : 1 ≤ x) (g2 : x ≤ 60) (g3 : 0 ≤ y) (g4 : y < 80) (g5 : y < 1) : ∀ x_ ∈ ([] : List VA), VaOk (ivT x y q s d S W) (vvT s d S W) (vkT s d S W) x_ :=
  allNil
abbrev RKZ {x : Int} {y : Int} {q : Int} {s : Nat} {d : Nat} {S : Nat} {W : Nat} (g1 : 1 ≤ x) (g2 : x ≤ 60) (g3 : 0 ≤ y) (g4 : y < 80) (g5 : y < 1) : VRows (ivT x y q s d S W) (vvT s d S W) (vkT s d S W) where
  vvp := vpT s d S W
  ib := [(14, .oi 2, .int .i64 1, .bool false)]
  ibok := ibKZ g1 g2 g3 g4 g5
  ic := [(.i32, .oi 0, .oi 1), (.i64, .oi 1, .oi 0), (.i32, .oi 2, .oi 3), (.i64, .oi 3, .oi 2)]
  icok := icKZ g1 g2 g3 g4 g5
  vl := []
  vlok := vlKZ g1 g2 g3 g4 g5
  vs := []
  vsok := vsKZ g1 g2 g3 g4 g5
  va := []
  vaok := vaKZ g1 g2 g3 g4 g5
  vc := []
  vcok := allNil
theorem ibKG {x : Int} {y : Int} {q : Int} {s : Nat} {d : Nat} {S : Nat} {W : Nat} (g1 : 1 ≤ x) (g2 : x ≤ 60) (g3 : 0 ≤ y) (g4 : y < 80) (g5 : 1 ≤ y) (g6 : x < y) : ∀ x_ ∈ ([(14, .oi 2, .int .i64 1, .bool true), (12, .oi 2, .oi 0, .bool false)] : List BRow), IbOk (ivT x y q s d S W) x_ := by
  letI := Tab.empty
  exact (ibCons (ibGe (a := (y)) (b := (1)) rfl rfl (decide_eq_true (by omega)))
    (ibCons (ibLe (a := (y)) (b := (x)) rfl rfl (decide_eq_false (by omega)))
    ibNil))
theorem icKG {x : Int} {y : Int} {q : Int} {s : Nat} {d : Nat} {S : Nat} {W : Nat} (g1 : 1 ≤ x) (g2 : x ≤ 60) (g3 : 0 ≤ y) (g4 : y < 80) (g5 : 1 ≤ y) (g6 : x < y) : ∀ x_ ∈ ([(.i32, .oi 0, .oi 1), (.i64, .oi 1, .oi 0), (.i32, .oi 2, .oi 3), (.i64, .oi 3, .oi 2)] : List (IntKind × AV × AV)), IcOk' (ivT x y q s d S W) x_ := (icCons (ic32 (n := (x)) rfl rfl (by omega) (by omega)) (icCons (ic64 (n := (x)) rfl rfl (by omega) (by omega)) (icCons (ic32 (n := (y)) rfl rfl (by omega) (by omega)) (icCons (ic64 (n := (y)) rfl rfl (by omega) (by omega)) icNil))))
theorem vlKG {x : Int} {y : Int} {q : Int} {s : Nat} {d : Nat} {S : Nat} {W : Nat} (g1 : 1 ≤ x) (g2 : x ≤ 60) (g3 : 0 ≤ y) (g4 : y < 80) (g5 : 1 ≤ y) (g6 : x < y) : ∀ x_ ∈ ([] : List VL), VlOk (ivT x y q s d S W) (vvT s d S W) x_ :=
  allNil
theorem vsKG {x : Int} {y : Int} {q : Int} {s : Nat} {d : Nat} {S : Nat} {W : Nat} (g1 : 1 ≤ x) (g2 : x ≤ 60) (g3 : 0 ≤ y) (g4 : y < 80) (g5 : 1 ≤ y) (g6 : x < y) : ∀ x_ ∈ ([] : List VS), VsOk (ivT x y q s d S W) (vvT s d S W) (vkT s d S W) x_ :=
  allNil
theorem vaKG {x : Int} {y : Int} {q : Int} {s : Nat} {d : Nat} {S : Nat} {W : Nat} (g1 : 1 ≤ x) (g2 : x ≤ 60) (g3 : 0 ≤ y) (g4 : y < 80) (g5 : 1 ≤ y) (g6 : x < y) : ∀ x_ ∈ ([] : List VA), VaOk (ivT x y q s d S W) (vvT s d S W) (vkT s d S W) x_ :=
  allNil
abbrev RKG {x : Int} {y : Int} {q : Int} {s : Nat} {d : Nat} {S : Nat} {W : Nat} (g1 : 1 ≤ x) (g2 : x ≤ 60) (g3 : 0 ≤ y) (g4 : y < 80) (g5 : 1 ≤ y) (g6 : x < y) : VRows (ivT x y q s d S W) (vvT s d S W) (vkT s d S W) where
  vvp := vpT s d S W
  ib := [(14, .oi 2, .int .i64 1, .bool true), (12, .oi 2, .oi 0, .bool false)]
  ibok := ibKG g1 g2 g3 g4 g5 g6
  ic := [(.i32, .oi 0, .oi 1), (.i64, .oi 1, .oi 0), (.i32, .oi 2, .oi 3), (.i64, .oi 3, .oi 2)]
  icok := icKG g1 g2 g3 g4 g5 g6
  vl := []
  vlok := vlKG g1 g2 g3 g4 g5 g6
  vs := []
  vsok := vsKG g1 g2 g3 g4 g5 g6
  va := []
  vaok := vaKG g1 g2 g3 g4 g5 g6
  vc := []
  vcok := allNil
noncomputable abbrev bsP : BL := [(7241, (.map [(tx51, (pN 14138), 0)] 1)), (7242, (.map [(tx0, (pN 7439), 0), (tx26, (pN 7587), 1), (tx27, (pN 7696), 2), (tx16, (pN 7807), 3), (tx28, (pN 7921), 4), (tx29, (pN 8034), 5), (tx23, (pN 8131), 6), (tx35, (pN 8225), 7), (tx20, (pN 8316), 8), (tx14, (pN 8406), 9), (tx21, (pN 8512), 10), (tx30, (pN 8615), 11), (tx18, (pN 8730), 12), (tx7, (pN 8828), 13), (tx13, (pN 8921), 14), (tx31, (pN 9026), 15), (tx12, (pN 9125), 16), (tx22, (pN 9237), 17), (tx24, (pN 9333), 18), (tx36, (pN 9434), 19), (tx33, (pN 9536), 20), (tx25, (pN 9646), 21), (tx3, (pN 9657), 22), (tx10, (pN 9768), 23), (tx2, (pN 9860), 24), (tx9, (pN 9967), 25), (tx4, (pN 9988), 26), (tx1, (pN 10045), 27), (tx15, (pN 10185), 28), (tx44, (pN 10197), 29), (tx6, (pN 10285), 30), (tx19, (pN 10385), 31), (tx39, (pN 10485), 32)] 33)), (7243, (.cells 3 false [] (T.ofList 0 .leaf [(.map 7241), (.map 7242), (.so 15583 0 1 1)]))), (8406, (.cells 8 false [] (T.ofList 0 .leaf [(iN 52), .nils, (iN 33), tx14, tx6, .nils, .nils, (.so 8415 0 2 9)]))), (9657, (.cells 8 false [] (T.ofList 0 .leaf [(iN 52), .nils, (iN 33), tx3, tx11, .nils, .nils, (.so 9669 0 3 9)]))), (9860, (.cells 8 false [] (T.ofList 0 .leaf [(iN 52), .nils, (iN 33), tx2, tx14, .nils, .nils, (.so 9869 0 2 9)]))), (9869, (.cells 18 true [] (T.ofList 0 .leaf [z1, tx8, tx32, bF, z0, z0, .nils, .nils, .nils, z1, tx8, tx5, bF, z0, z0, .nils, .nils, .nils]))), (10285, (.cells 8 false [] (T.ofList 0 .leaf [(iN 52), .nils, (iN 33), tx6, tx3, .nils, (.sl 10299 0 1 1), (.so 10298 0 3 9)]))), (10299, (.cells 4 false [] (T.ofList 0 .leaf [z2, tx68, tx52, z0]))), (10495, (.map [(tx0, z0, 0), (tx9, z1, 1), (tx10, z2, 2)] 3)), (10496, (.cells 5 false [] (T.ofList 0 .leaf [(pN 7243), (.so 14064 0 8 1), (.so 14066 0 3 1), (.so 14063 0 3 3), (.map 10495)]))), (10499, (.map [] 0)), (10500, (.map [] 0)), (10501, (.cells 3 false [] (T.ofList 0 .leaf [(pN 7243), (.map 10499), (.map 10500)]))), (10502, (.cells 7 false [] (T.ofList 0 .leaf [(pN 10496), (pN 10498), (pN 7243), (.so 11216 0 39 3), .nils, bF, bF]))), (11216, (.cells 117 true [] (T.ofList 0 .leaf [tx11, z0, .nilf, tx3, z1, (.fn (.func 155) [] []), tx3, z2, (.fn (.func 156) [] []), tx3, z1, (.fn (.func 157) [] []), tx4, z1, (.fn (.func 161) [] []), tx4, z2, (.fn (.func 162) [] []), tx4, z2, (.fn (.func 163) [] []), tx4, z2, (.fn (.func 164) [] []), tx4, z1, (.fn (.func 165) [] []), tx4, z1, (.fn (.func 166) [] []), tx11, z1, (.fn (.func 167) [] [(pN 11710)]), tx11, z1, (.fn (.func 167) [] [(pN 11783)]), tx11, z1, (.fn (.func 167) [] [(pN 11857)]), tx11, z1, (.fn (.func 167) [] [(pN 11932)]), tx1, z1, (.fn (.func 170) [] []), tx1, z2, (.fn (.func 171) [] [(pN 12044)]), tx1, z2, (.fn (.func 171) [] [(pN 12176)]), tx1, z2, (.fn (.func 171) [] [(pN 12274)]), tx1, z2, (.fn (.func 171) [] [(pN 12373)]), tx1, z2, (.fn (.func 171) [] [(pN 12473)]), tx1, z1, (.fn (.func 175) [] []), tx1, z1, (.fn (.func 176) [] []), tx11, (iN 5), (.fn (.func 160) [] []), tx0, z2, (.fn (.func 177) [] [(pN 12705), (pN 12703)]), tx0, z2, (.fn (.func 177) [] [(pN 12811), (pN 12703)]), tx0, z2, (.fn (.func 177) [] [(pN 12883), (pN 12703)]), tx0, z2, (.fn (.func 177) [] [(pN 12956), (pN 12703)]), tx0, z2, (.fn (.func 177) [] [(pN 13030), (pN 12703)]), tx0, z2, (.fn (.func 177) [] [(pN 13105), (pN 12703)]), tx0, z2, (.fn (.func 177) [] [(pN 13218), (pN 13216)]), tx0, z2, (.fn (.func 177) [] [(pN 13330), (pN 13216)]), tx0, z2, (.fn (.func 177) [] [(pN 13408), (pN 13216)]), tx0, z2, (.fn (.func 177) [] [(pN 13487), (pN 13216)]), tx0, z2, (.fn (.func 177) [] [(pN 13567), (pN 13216)]), tx0, z2, (.fn (.func 177) [] [(pN 13648), (pN 13216)]), tx0, z1, (.fn (.func 179) [] []), tx6, z1, (.fn (.func 155) [] []), tx6, z2, (.fn (.func 158) [] []), tx6, z1, (.fn (.func 159) [] [])]))), (13842, (.cells 4 false [] (T.ofList 0 .leaf [.nils, .nils, .nils, z0]))), (13843, (.map [] 0)), (13844, (.map [] 0)), (13845, (.map [] 0)), (13846, (.cells 32 false [] (T.ofList 0 .leaf [(pN 7243), (pN 10501), (pN 10496), (pN 10498), (pN 10502), (pN 13842), .nils, (.map 13843), (.map 13844), .nils, z1, (iN 3), (iN 6), z0, .nilp, bF, z0, z0, z0, z0, z0, z0, (uN 0), z0, tx11, tx11, bF, z0, .nils, z0, z0, (.map 13845)]))), (14063, (.cells 9 true [] (T.ofList 0 .leaf [tx0, .nils, (uN 0), tx9, (.so 13965 0 1 1), (uN 0), tx10, (.so 14061 0 1 1), (uN 0)]))), (14064, (.cells 8 true [] (T.ofList 0 .leaf [(.int .u64 0), (.int .u64 0), (.int .u64 1), (.int .u64 0), (.int .u64 0), (.int .u64 2), (.int .u64 0), (.int .u64 0)]))), (14066, (.cells 3 true [] (T.ofList 0 .leaf [z0, z2, (iN 5)]))), (14138, (.cells 8 false [] (T.ofList 0 .leaf [(iN 52), (.sl 14140 0 17 17), (iN 33), tx51, tx3, .nils, .nils, (.so 15581 0 1 9)]))), (14140, (.cells 85 false [z0, tx11, z0, z0, z0] (ofPairs [(5, z1), (6, tx2), (7, z0), (8, z0), (9, z0), (10, (iN 7)), (11, tx11), (12, z0), (13, z1), (14, z0), (15, z1), (16, tx8), (17, z0), (18, z0), (19, z0), (20, z1), (21, tx32), (22, z0), (23, z0), (24, z0), (25, (iN 12)), (26, tx11), (27, z0), (28, (iN 3)), (29, (iN 4)), (30, (iN 10)), (31, tx11), (32, z0), (33, z2), (34, (iN 5)), (35, z1), (36, tx51), (37, z0), (38, z0), (39, z0), (40, (iN 7)), (41, tx11), (42, z0), (43, (iN 7)), (44, z0), (45, z1), (46, tx65), (47, z0), (48, z0), (49, z0), (50, z1), (51, tx60), (52, z0), (53, z0), (54, z0), (55, (iN 12)), (56, tx11), (57, z0), (58, (iN 9)), (59, (iN 10)), (60, (iN 10)), (61, tx11), (62, z0), (63, (iN 8)), (64, (iN 11)), (65, z1), (66, tx67), (67, z0), (68, z0), (69, z0), (70, z1), (71, tx83), (72, z0), (73, z0), (74, z0), (75, z1), (76, tx3), (77, z0), (78, z0), (79, z0), (80, (iN 7)), (81, tx11), (82, z0), (83, (iN 15)), (84, z0)]))), (14709, (.cells 36 true [] (T.ofList 0 .leaf [(uN 26), (uN 157), (uN 0), (uN 11), (uN 187), (uN 0), (uN 2), (uN 89), (uN 183), (uN 0), (uN 6), (uN 191), (uN 26), (uN 4), (uN 100), (uN 27), (uN 184), (uN 0), (uN 12), (uN 172), (uN 87), (uN 26), (uN 27), (uN 160), (uN 0), (uN 5), (uN 26), (uN 172), (uN 187), (uN 0), (uN 2), (uN 89), (uN 183), (uN 0), (uN 6), (uN 191)]))), (15514, (.cells 4 true [] (T.ofList 0 .leaf [(iN 12), (iN 20), (iN 20), z2]))), (15538, (.cells 6 true [] (T.ofList 0 .leaf [z1, tx11, z0, z1, tx11, z0]))), (15553, (.cells 6 true [] (T.ofList 0 .leaf [z1, tx11, z0, z1, tx11, z0]))), (15558, (.cells 3 true [] (T.ofList 0 .leaf [(iN 7), tx11, z2]))), (15573, (.cells 6 true [] (T.ofList 0 .leaf [z1, tx11, z0, z1, tx11, z0]))), (15576, (.cells 12 true [] (T.ofList 0 .leaf [(iN 255), (iN 12), (.so 15538 0 2 3), .nils, (iN 255), (iN 7), (.so 15553 0 2 3), (.so 15558 0 1 3), (iN 255), (iN 7), (.so 15573 0 2 3), .nils]))), (15581, (.cells 9 true [] (T.ofList 0 .leaf [(iN 9), tx65, tx60, bT, (iN 3), z2, (.so 14709 0 36 1), (.so 15514 0 1 4), (.so 15576 0 3 4)]))), (15584, (.cells 2 false [] (T.ofList 0 .leaf [(oN 0), (oN 2)])))]
noncomputable def CRd : In := ⟨47, [(pN 13846), tx51, tx65, (.sl 15584 0 2 2), (iN 5000)], 15588, bsP, (.agg [z0, z1, (uN 73), (oN 2), tx11, tx11, bF, (oN 4), .nils, z0, z1]), 17010, []⟩
noncomputable abbrev bsEd : BS := [(13846, 13846, (.cells 32 false [] (ofPairs [(15, bF), (20, z0), (21, z1), (22, (uN 73)), (23, (oN 2)), (24, tx11), (25, tx11), (26, bF), (27, (oN 4)), (28, .nils), (29, z0), (30, z1)]))), (15588, 15588, (.cells 11 false [] (T.ofList 0 .leaf [z0, z0, (uN 0), z0, tx11, tx11, bF, z0, .nils, z0, z0])))]
noncomputable abbrev bsFd : BS := [(15588, 15588, (.cells 11 false [] (T.ofList 0 .leaf [z0, z1, (uN 73), (oN 2), tx11, tx11, bF, (oN 4), .nils, z0, z1])))]
noncomputable def CRa : In := ⟨47, [(pN 13846), tx51, tx65, (.sl 15584 0 2 2), (iN 5000)], 15588, bsP, (.agg [z0, z2, (uN 0), z0, tx2, tx11, bF, (oN 4), .nils, z0, z1]), 17010, []⟩
noncomputable abbrev bsEa : BS := [(13846, 13846, (.cells 32 false [] (ofPairs [(15, bF), (20, z0), (21, z2), (22, (uN 0)), (23, z0), (24, tx2), (25, tx11), (26, bF), (27, (oN 4)), (28, .nils), (29, z0), (30, z1)]))), (15588, 15588, (.cells 11 false [] (T.ofList 0 .leaf [z0, z0, (uN 0), z0, tx11, tx11, bF, z0, .nils, z0, z0])))]
noncomputable abbrev bsFa : BS := [(15588, 15588, (.cells 11 false [] (T.ofList 0 .leaf [z0, z2, (uN 0), z0, tx2, tx11, bF, (oN 4), .nils, z0, z1])))]
section
variable {B : Kp} {w0 : World} {μ : M} {a : Act} {w : World}
noncomputable abbrev fsq : List (Nat × AV) := [(0, .ptr 13846 0), (10, .ptr 15588 0)]
def Qd {x y q : Int} (g1 : 1 ≤ x) (g2 : x ≤ 60) (g3 : 0 ≤ y) (g4 : y < 80) (B : Kp) (w0 : World) (μ : M) (e : Exit) (a : Act) (w : World) : Prop := e = .exit 0 ∧ St ((RL (x := x) (y := y) (q := q) (s := 0) (d := 0) (S := 0) (W := 0) g1 g2 g3 g4).tab) B w0 μ nt (frOf fsq) (hOf 17010 bsEd) a w
def Qa {x y q : Int} (g1 : 1 ≤ x) (g2 : x ≤ 60) (g3 : 0 ≤ y) (g4 : y < 80) (B : Kp) (w0 : World) (μ : M) (e : Exit) (a : Act) (w : World) : Prop := e = .exit 0 ∧ St ((RL (x := x) (y := y) (q := q) (s := 0) (d := 0) (S := 0) (W := 0) g1 g2 g3 g4).tab) B w0 μ nt (frOf fsq) (hOf 17010 bsEa) a w
theorem ibE27 {u : Int} {lu : Int} {res : Int} {r : Int} {wd : Int} {c0 : Int} {s : Nat} {d : Nat} {S : Nat} {W : Nat} (h3 : 0 ≤ r) (h4 : r + 20 ≤ 5000) (h5 : 9 ≤ wd) (h6 : wd ≤ 2048) (h7 : 0 ≤ c0) (h8 : c0 ≤ 200000) (h13 : -1000 ≤ res) (h14 : res ≤ 1000) (h11 : s ≤ 10000) (h12 : d ≤ 10000) : ∀ x_ ∈ ([(14, .oi 3, .int .i64 5000, .bool false), (9, .oi 8, .int .i64 0, .bool false), (1, .oi 8, .int .i64 1, .oi 6), (11, .oi 6, .oi 8, .bool true), (14, .oi 6, .int .i64 0, .bool true), (0, .oi 3, .int .i64 1, .oi 9), (0, .oi 5, .int .i64 1, .oi 10), (1, .oi 7, .int .i64 1, .oi 11), (1, .oi 11, .int .i64 0, .oi 11), (11, .oi 11, .oi 7, .bool true), (14, .oi 11, .int .i64 0, .bool true), (12, .oi 11, .oi 7, .bool true), (1, .oi 4, .int .i64 9, .oi 12), (12, .oi 6, .oi 11, .bool true), (12, .oi 6, .oi 8, .bool true), (9, .oi 6, .int .i64 0, .bool true)] : List BRow), IbOk (un.ivD27 u lu res r wd c0 s d S W) x_ := by
  letI := Tab.empty
  exact (ibCons (ibGe (a := (r)) (b := (5000)) rfl rfl (decide_eq_false (by omega)))
    (ibCons (ibEq (a := (((0 + 1 : Nat) : Int))) (b := (0)) rfl rfl (decide_eq_false (by omega)))
    (ibCons (ibSub (a := (((0 + 1 : Nat) : Int))) (b := (1)) (c := (((0 : Nat) : Int))) rfl rfl rfl (by first | assumption | omega) (by omega) (by omega))
    (ibCons (ibLt (a := (((0 : Nat) : Int))) (b := (((0 + 1 : Nat) : Int))) rfl rfl (decide_eq_true (by omega)))
    (ibCons (ibGe (a := (((0 : Nat) : Int))) (b := (0)) rfl rfl (decide_eq_true (by omega)))
    (ibCons (ibAdd (a := (r)) (b := (1)) (c := (r + 1)) rfl rfl rfl (by first | assumption | omega) (by omega) (by omega))
    (ibCons (ibAdd (a := (c0)) (b := (1)) (c := (c0 + 1)) rfl rfl rfl (by first | assumption | omega) (by omega) (by omega))
    (ibCons (ibSub (a := (((0 + 3 : Nat) : Int))) (b := (1)) (c := (((0 + 2 : Nat) : Int))) rfl rfl rfl (by first | assumption | omega) (by omega) (by omega))
    (ibCons (ibSub (a := (((0 + 2 : Nat) : Int))) (b := (0)) (c := (((0 + 2 : Nat) : Int))) rfl rfl rfl (by first | assumption | omega) (by omega) (by omega))
    (ibCons (ibLt (a := (((0 + 2 : Nat) : Int))) (b := (((0 + 3 : Nat) : Int))) rfl rfl (decide_eq_true (by omega)))
    (ibCons (ibGe (a := (((0 + 2 : Nat) : Int))) (b := (0)) rfl rfl (decide_eq_true (by omega)))
    (ibCons (ibLe (a := (((0 + 2 : Nat) : Int))) (b := (((0 + 3 : Nat) : Int))) rfl rfl (decide_eq_true (by omega)))
    (ibCons (ibSub (a := (wd)) (b := (9)) (c := (wd - 9)) rfl rfl rfl (by first | assumption | omega) (by omega) (by omega))
    (ibCons (ibLe (a := (((0 : Nat) : Int))) (b := (((0 + 2 : Nat) : Int))) rfl rfl (decide_eq_true (by omega)))
    (ibCons (ibLe (a := (((0 : Nat) : Int))) (b := (((0 + 1 : Nat) : Int))) rfl rfl (decide_eq_true (by omega)))
    (ibCons (ibEq (a := (((0 : Nat) : Int))) (b := (0)) rfl rfl (decide_eq_true (by omega)))
    ibNil))))))))))))))))
theorem icE27 {u : Int} {lu : Int} {res : Int} {r : Int} {wd : Int} {c0 : Int} {s : Nat} {d : Nat} {S : Nat} {W : Nat} (h3 : 0 ≤ r) (h4 : r + 20 ≤ 5000) (h5 : 9 ≤ wd) (h6 : wd ≤ 2048) (h7 : 0 ≤ c0) (h8 : c0 ≤ 200000) (h13 : -1000 ≤ res) (h14 : res ≤ 1000) (h11 : s ≤ 10000) (h12 : d ≤ 10000) : ∀ x_ ∈ ([] : List (IntKind × AV × AV)), IcOk' (un.ivD27 u lu res r wd c0 s d S W) x_ := icNil
theorem vlE27 {u : Int} {lu : Int} {res : Int} {r : Int} {wd : Int} {c0 : Int} {s : Nat} {d : Nat} {S : Nat} {W : Nat} (h3 : 0 ≤ r) (h4 : r + 20 ≤ 5000) (h5 : 9 ≤ wd) (h6 : wd ≤ 2048) (h7 : 0 ≤ c0) (h8 : c0 ≤ 200000) (h13 : -1000 ≤ res) (h14 : res ≤ 1000) (h11 : s ≤ 10000) (h12 : d ≤ 10000) : ∀ x_ ∈ ([⟨3, 6, 1, 0, [(pN 20005)]⟩, ⟨4, 6, 7, 6, [z1]⟩, ⟨0, 11, 1, 0, [(oN 2)]⟩, ⟨1, 11, 1, 0, [bF]⟩, ⟨5, 6, 7, 4, [z2]⟩, ⟨5, 6, 7, 5, [(iN 3)]⟩, ⟨5, 6, 7, 3, [(oN 6)]⟩] : List VL), VlOk (un.ivD27 u lu res r wd c0 s d S W) (un.vvD27 s d S W) x_ :=
  (allCons (vlP (k := 0) (b := 0) (c := 3) (o := 0) (L := [(pN 20005)]) rfl rfl (by show (0) * 1 + 0 = 0 + 0; omega) rfl)
    (allCons (vlP (k := 0) (b := 0) (c := 2) (o := 6) (L := [z0, z0, (iN 27), (oN 6), z2, (iN 3), z1]) rfl rfl (by show (0) * 7 + 6 = 0 + 6; omega) rfl)
    (allCons (vlP (k := 0 + 2) (b := 0) (c := 0) (o := 2) (L := [(oN 0), (oN 1), (oN 2)]) rfl rfl (by show (0 + 2) * 1 + 0 = 0 + 2; omega) rfl)
    (allCons (vlP (k := 0 + 2) (b := 0) (c := 1) (o := 2) (L := [bF, bF, bF]) rfl rfl (by show (0 + 2) * 1 + 0 = 0 + 2; omega) rfl)
    (allCons (vlP (k := 0) (b := 0) (c := 2) (o := 4) (L := [z0, z0, (iN 27), (oN 6), z2, (iN 3), z0]) rfl rfl (by show (0) * 7 + 4 = 0 + 4; omega) rfl)
    (allCons (vlP (k := 0) (b := 0) (c := 2) (o := 5) (L := [z0, z0, (iN 27), (oN 6), z2, (iN 3), z0]) rfl rfl (by show (0) * 7 + 5 = 0 + 5; omega) rfl)
    (allCons (vlP (k := 0) (b := 0) (c := 2) (o := 3) (L := [z0, z0, (iN 27), (oN 6), z2, (iN 3), z0]) rfl rfl (by show (0) * 7 + 3 = 0 + 3; omega) rfl)
    allNil)))))))
theorem vsE27 {u : Int} {lu : Int} {res : Int} {r : Int} {wd : Int} {c0 : Int} {s : Nat} {d : Nat} {S : Nat} {W : Nat} (h3 : 0 ≤ r) (h4 : r + 20 ≤ 5000) (h5 : 9 ≤ wd) (h6 : wd ≤ 2048) (h7 : 0 ≤ c0) (h8 : c0 ≤ 200000) (h13 : -1000 ≤ res) (h14 : res ≤ 1000) (h11 : s ≤ 10000) (h12 : d ≤ 10000) : ∀ x_ ∈ ([⟨2, 6, 7, 2, [(iN 27)], 4⟩, ⟨4, 6, 7, 6, [z0], 5⟩] : List VS), VsOk (un.ivD27 u lu res r wd c0 s d S W) (un.vvD27 s d S W) (un.vkD27 s d S W) x_ :=
  (allCons (vsP (k := 0) (b := 0) (c := 2) (o := 2) (L := [z0, z0, (iN 26), (oN 6), z2, (iN 3), z1]) (L' := [z0, z0, (iN 27), (oN 6), z2, (iN 3), z1]) rfl rfl rfl rfl rfl (by show (0) * 7 + 2 = 0 + 2; omega) rfl (by decide))
    (allCons (vsP (k := 0) (b := 0) (c := 2) (o := 6) (L := [z0, z0, (iN 27), (oN 6), z2, (iN 3), z1]) (L' := [z0, z0, (iN 27), (oN 6), z2, (iN 3), z0]) rfl rfl rfl rfl rfl (by show (0) * 7 + 6 = 0 + 6; omega) rfl (by decide))
    allNil))
theorem vaE27 {u : Int} {lu : Int} {res : Int} {r : Int} {wd : Int} {c0 : Int} {s : Nat} {d : Nat} {S : Nat} {W : Nat} (h3 : 0 ≤ r) (h4 : r + 20 ≤ 5000) (h5 : 9 ≤ wd) (h6 : wd ≤ 2048) (h7 : 0 ≤ c0) (h8 : c0 ≤ 200000) (h13 : -1000 ≤ res) (h14 : res ≤ 1000) (h11 : s ≤ 10000) (h12 : d ≤ 10000) : ∀ x_ ∈ ([] : List VA), VaOk (un.ivD27 u lu res r wd c0 s d S W) (un.vvD27 s d S W) (un.vkD27 s d S W) x_ :=
  allNil
abbrev RE27 {u : Int} {lu : Int} {res : Int} {r : Int} {wd : Int} {c0 : Int} {s : Nat} {d : Nat} {S : Nat} {W : Nat} (h3 : 0 ≤ r) (h4 : r + 20 ≤ 5000) (h5 : 9 ≤ wd) (h6 : wd ≤ 2048) (h7 : 0 ≤ c0) (h8 : c0 ≤ 200000) (h13 : -1000 ≤ res) (h14 : res ≤ 1000) (h11 : s ≤ 10000) (h12 : d ≤ 10000) : VRows (un.ivD27 u lu res r wd c0 s d S W) (un.vvD27 s d S W) (un.vkD27 s d S W) where
  vvp := un.vpD27 s d S W
  ib := [(14, .oi 3, .int .i64 5000, .bool false), (9, .oi 8, .int .i64 0, .bool false), (1, .oi 8, .int .i64 1, .oi 6), (11, .oi 6, .oi 8, .bool true), (14, .oi 6, .int .i64 0, .bool true), (0, .oi 3, .int .i64 1, .oi 9), (0, .oi 5, .int .i64 1, .oi 10), (1, .oi 7, .int .i64 1, .oi 11), (1, .oi 11, .int .i64 0, .oi 11), (11, .oi 11, .oi 7, .bool true), (14, .oi 11, .int .i64 0, .bool true), (12, .oi 11, .oi 7, .bool true), (1, .oi 4, .int .i64 9, .oi 12), (12, .oi 6, .oi 11, .bool true), (12, .oi 6, .oi 8, .bool true), (9, .oi 6, .int .i64 0, .bool true)]
  ibok := ibE27 h3 h4 h5 h6 h7 h8 h13 h14 h11 h12
  ic := []
  icok := icE27 h3 h4 h5 h6 h7 h8 h13 h14 h11 h12
  vl := [⟨3, 6, 1, 0, [(pN 20005)]⟩, ⟨4, 6, 7, 6, [z1]⟩, ⟨0, 11, 1, 0, [(oN 2)]⟩, ⟨1, 11, 1, 0, [bF]⟩, ⟨5, 6, 7, 4, [z2]⟩, ⟨5, 6, 7, 5, [(iN 3)]⟩, ⟨5, 6, 7, 3, [(oN 6)]⟩]
  vlok := vlE27 h3 h4 h5 h6 h7 h8 h13 h14 h11 h12
  vs := [⟨2, 6, 7, 2, [(iN 27)], 4⟩, ⟨4, 6, 7, 6, [z0], 5⟩]
  vsok := vsE27 h3 h4 h5 h6 h7 h8 h13 h14 h11 h12
  va := []
  vaok := vaE27 h3 h4 h5 h6 h7 h8 h13 h14 h11 h12
  vc := []
  vcok := allNil
noncomputable abbrev rlQ27 : List (Nat × Nat) := [(15588, 20000)]
noncomputable abbrev ipQ27 : IP := [(.oi 2, 2), (.oi 9, 4)]
noncomputable abbrev bsq27 : BS := [(13846, 13846, (.cells 32 false [] (ofPairs [(15, bF), (20, z0), (21, z1), (22, (uN 73)), (23, (oN 2)), (24, tx11), (25, tx11), (26, bF), (27, (oN 4)), (28, .nils), (29, z0), (30, z1)]))), (15588, 20000, (.cells 11 false [] (T.ofList 0 .leaf [z0, z0, (uN 0), z0, tx11, tx11, bF, z0, .nils, z0, z0])))]
theorem bqq27 : hOf 17010 bsq27 = hOf 17010 bsEd := hOf_congr (by kernel_rfl)
theorem goQ27 {x y q : Int} (g1 : 1 ≤ x) (g2 : x ≤ 60) (g3 : 0 ≤ y) (g4 : y < 80) {u lu res r wd c0 : Int} (h3 : 0 ≤ r) (h4 : r + 20 ≤ 5000) (h5 : 9 ≤ wd) (h6 : wd ≤ 2048) (h7 : 0 ≤ c0) (h8 : c0 ≤ 200000) (h13 : -1000 ≤ res) (h14 : res ≤ 1000) (e1 : res = y) (e2 : r + 1 = q) (e3 : wd = 9) (hb : Base B μ 15588) (s_ : un.SD27 u lu res r wd c0 0 0 0 0 rv0 B w0 μ a w) : Code.rounds Tryz.prog un.la (Qd (x := x) (y := y) (q := q) g1 g2 g3 g4 B w0 μ) (0 + 1) a w := by
  have hip : IpOk ((RE27 (u := u) (lu := lu) (res := res) (r := r) (wd := wd) (c0 := c0) (s := 0) (d := 0) (S := 0) (W := 0) h3 h4 h5 h6 h7 h8 h13 h14 (Nat.zero_le _) (Nat.zero_le _)).rtab rv0) ((RL (x := x) (y := y) (q := q) (s := 0) (d := 0) (S := 0) (W := 0) g1 g2 g3 g4).tab) ipQ27 := (ipCons (ipN (.i64, res) rfl (show (IntKind.i64, y) = (IntKind.i64, res) from Prod.ext rfl (show (y : Int) = res by omega))) (ipCons (ipN (.i64, r + 1) rfl (show (IntKind.i64, q) = (IntKind.i64, r + 1) from Prod.ext rfl (show (q : Int) = r + 1 by omega))) ipNil))
  refine stepsTo_sound (T := ((RE27 (u := u) (lu := lu) (res := res) (r := r) (wd := wd) (c0 := c0) (s := 0) (d := 0) (S := 0) (W := 0) h3 h4 h5 h6 h7 h8 h13 h14 (Nat.zero_le _) (Nat.zero_le _)).rtab rv0)) (T' := ((RL (x := x) (y := y) (q := q) (s := 0) (d := 0) (S := 0) (W := 0) g1 g2 g3 g4).tab)) (K := Hand.none) (m := 5000) un.mixed (@HandOk.none ((RE27 (u := u) (lu := lu) (res := res) (r := r) (wd := wd) (c0 := c0) (s := 0) (d := 0) (S := 0) (W := 0) h3 h4 h5 h6 h7 h8 h13 h14 (Nat.zero_le _) (Nat.zero_le _)).rtab rv0) Tryz.prog) (C := ⟨15588, 17010, ofPairs rlQ27, ipQ27⟩) (ex := .exit 0) (rl := rlQ27) (vp := []) (fs := fsq) (bs := bsq27)
    hb (by decide) rfl (by kernel_rfl) hip vpNil (glNone rfl rfl) (by as_aux_lemma => kernel_rfl) (St.same (VRows.rsame _ _ _) s_) (fun a' w' q_ => ⟨rfl, by rw [bqq27] at q_; exact q_⟩)
theorem ibE19 {u : Int} {lu : Int} {res : Int} {r : Int} {wd : Int} {c0 : Int} {s : Nat} {d : Nat} {S : Nat} {W : Nat} (h3 : 0 ≤ r) (h4 : r + 20 ≤ 5000) (h5 : 9 ≤ wd) (h6 : wd ≤ 2048) (h7 : 0 ≤ c0) (h8 : c0 ≤ 200000) (h13 : -1000 ≤ res) (h14 : res ≤ 1000) (h11 : s ≤ 10000) (h12 : d ≤ 10000) : ∀ x_ ∈ ([(14, .oi 3, .int .i64 5000, .bool false), (9, .oi 8, .int .i64 0, .bool false), (1, .oi 8, .int .i64 1, .oi 6), (11, .oi 6, .oi 8, .bool true), (14, .oi 6, .int .i64 0, .bool true), (0, .oi 3, .int .i64 1, .oi 9), (0, .oi 5, .int .i64 1, .oi 10), (1, .oi 7, .int .i64 1, .oi 11), (1, .oi 11, .int .i64 0, .oi 11), (11, .oi 11, .oi 7, .bool true), (14, .oi 11, .int .i64 0, .bool true), (12, .oi 11, .oi 7, .bool true), (1, .oi 4, .int .i64 9, .oi 12), (12, .oi 6, .oi 11, .bool true), (12, .oi 6, .oi 8, .bool true), (9, .oi 6, .int .i64 0, .bool true)] : List BRow), IbOk (un.ivD19 u lu res r wd c0 s d S W) x_ := by
  letI := Tab.empty
  exact (ibCons (ibGe (a := (r)) (b := (5000)) rfl rfl (decide_eq_false (by omega)))
    (ibCons (ibEq (a := (((0 + 1 : Nat) : Int))) (b := (0)) rfl rfl (decide_eq_false (by omega)))
    (ibCons (ibSub (a := (((0 + 1 : Nat) : Int))) (b := (1)) (c := (((0 : Nat) : Int))) rfl rfl rfl (by first | assumption | omega) (by omega) (by omega))
    (ibCons (ibLt (a := (((0 : Nat) : Int))) (b := (((0 + 1 : Nat) : Int))) rfl rfl (decide_eq_true (by omega)))
    (ibCons (ibGe (a := (((0 : Nat) : Int))) (b := (0)) rfl rfl (decide_eq_true (by omega)))
    (ibCons (ibAdd (a := (r)) (b := (1)) (c := (r + 1)) rfl rfl rfl (by first | assumption | omega) (by omega) (by omega))
    (ibCons (ibAdd (a := (c0)) (b := (1)) (c := (c0 + 1)) rfl rfl rfl (by first | assumption | omega) (by omega) (by omega))
    (ibCons (ibSub (a := (((0 + 3 : Nat) : Int))) (b := (1)) (c := (((0 + 2 : Nat) : Int))) rfl rfl rfl (by first | assumption | omega) (by omega) (by omega))
    (ibCons (ibSub (a := (((0 + 2 : Nat) : Int))) (b := (0)) (c := (((0 + 2 : Nat) : Int))) rfl rfl rfl (by first | assumption | omega) (by omega) (by omega))
    (ibCons (ibLt (a := (((0 + 2 : Nat) : Int))) (b := (((0 + 3 : Nat) : Int))) rfl rfl (decide_eq_true (by omega)))
    (ibCons (ibGe (a := (((0 + 2 : Nat) : Int))) (b := (0)) rfl rfl (decide_eq_true (by omega)))
    (ibCons (ibLe (a := (((0 + 2 : Nat) : Int))) (b := (((0 + 3 : Nat) : Int))) rfl rfl (decide_eq_true (by omega)))
    (ibCons (ibSub (a := (wd)) (b := (9)) (c := (wd - 9)) rfl rfl rfl (by first | assumption | omega) (by omega) (by omega))
    (ibCons (ibLe (a := (((0 : Nat) : Int))) (b := (((0 + 2 : Nat) : Int))) rfl rfl (decide_eq_true (by omega)))
    (ibCons (ibLe (a := (((0 : Nat) : Int))) (b := (((0 + 1 : Nat) : Int))) rfl rfl (decide_eq_true (by omega)))
    (ibCons (ibEq (a := (((0 : Nat) : Int))) (b := (0)) rfl rfl (decide_eq_true (by omega)))
    ibNil))))))))))))))))
theorem icE19 {u : Int} {lu : Int} {res : Int} {r : Int} {wd : Int} {c0 : Int} {s : Nat} {d : Nat} {S : Nat} {W : Nat} (h3 : 0 ≤ r) (h4 : r + 20 ≤ 5000) (h5 : 9 ≤ wd) (h6 : wd ≤ 2048) (h7 : 0 ≤ c0) (h8 : c0 ≤ 200000) (h13 : -1000 ≤ res) (h14 : res ≤ 1000) (h11 : s ≤ 10000) (h12 : d ≤ 10000) : ∀ x_ ∈ ([] : List (IntKind × AV × AV)), IcOk' (un.ivD19 u lu res r wd c0 s d S W) x_ := icNil
theorem vlE19 {u : Int} {lu : Int} {res : Int} {r : Int} {wd : Int} {c0 : Int} {s : Nat} {d : Nat} {S : Nat} {W : Nat} (h3 : 0 ≤ r) (h4 : r + 20 ≤ 5000) (h5 : 9 ≤ wd) (h6 : wd ≤ 2048) (h7 : 0 ≤ c0) (h8 : c0 ≤ 200000) (h13 : -1000 ≤ res) (h14 : res ≤ 1000) (h11 : s ≤ 10000) (h12 : d ≤ 10000) : ∀ x_ ∈ ([⟨3, 6, 1, 0, [(pN 20005)]⟩, ⟨4, 6, 7, 6, [z1]⟩, ⟨0, 11, 1, 0, [(oN 2)]⟩, ⟨1, 11, 1, 0, [bF]⟩, ⟨5, 6, 7, 4, [z2]⟩, ⟨5, 6, 7, 5, [(iN 3)]⟩, ⟨5, 6, 7, 3, [(oN 6)]⟩] : List VL), VlOk (un.ivD19 u lu res r wd c0 s d S W) (un.vvD19 s d S W) x_ :=
  (allCons (vlP (k := 0) (b := 0) (c := 3) (o := 0) (L := [(pN 20005)]) rfl rfl (by show (0) * 1 + 0 = 0 + 0; omega) rfl)
    (allCons (vlP (k := 0) (b := 0) (c := 2) (o := 6) (L := [z0, z0, (iN 19), (oN 6), z2, (iN 3), z1]) rfl rfl (by show (0) * 7 + 6 = 0 + 6; omega) rfl)
    (allCons (vlP (k := 0 + 2) (b := 0) (c := 0) (o := 2) (L := [(oN 0), (oN 1), (oN 2)]) rfl rfl (by show (0 + 2) * 1 + 0 = 0 + 2; omega) rfl)
    (allCons (vlP (k := 0 + 2) (b := 0) (c := 1) (o := 2) (L := [bF, bF, bF]) rfl rfl (by show (0 + 2) * 1 + 0 = 0 + 2; omega) rfl)
    (allCons (vlP (k := 0) (b := 0) (c := 2) (o := 4) (L := [z0, z0, (iN 19), (oN 6), z2, (iN 3), z0]) rfl rfl (by show (0) * 7 + 4 = 0 + 4; omega) rfl)
    (allCons (vlP (k := 0) (b := 0) (c := 2) (o := 5) (L := [z0, z0, (iN 19), (oN 6), z2, (iN 3), z0]) rfl rfl (by show (0) * 7 + 5 = 0 + 5; omega) rfl)
    (allCons (vlP (k := 0) (b := 0) (c := 2) (o := 3) (L := [z0, z0, (iN 19), (oN 6), z2, (iN 3), z0]) rfl rfl (by show (0) * 7 + 3 = 0 + 3; omega) rfl)
    allNil)))))))
theorem vsE19 {u : Int} {lu : Int} {res : Int} {r : Int} {wd : Int} {c0 : Int} {s : Nat} {d : Nat} {S : Nat} {W : Nat} (h3 : 0 ≤ r) (h4 : r + 20 ≤ 5000) (h5 : 9 ≤ wd) (h6 : wd ≤ 2048) (h7 : 0 ≤ c0) (h8 : c0 ≤ 200000) (h13 : -1000 ≤ res) (h14 : res ≤ 1000) (h11 : s ≤ 10000) (h12 : d ≤ 10000) : ∀ x_ ∈ ([⟨2, 6, 7, 2, [(iN 19)], 4⟩, ⟨4, 6, 7, 6, [z0], 5⟩] : List VS), VsOk (un.ivD19 u lu res r wd c0 s d S W) (un.vvD19 s d S W) (un.vkD19 s d S W) x_ :=
  (allCons (vsP (k := 0) (b := 0) (c := 2) (o := 2) (L := [z0, z0, (iN 16), (oN 6), z2, (iN 3), z1]) (L' := [z0, z0, (iN 19), (oN 6), z2, (iN 3), z1]) rfl rfl rfl rfl rfl (by show (0) * 7 + 2 = 0 + 2; omega) rfl (by decide))
    (allCons (vsP (k := 0) (b := 0) (c := 2) (o := 6) (L := [z0, z0, (iN 19), (oN 6), z2, (iN 3), z1]) (L' := [z0, z0, (iN 19), (oN 6), z2, (iN 3), z0]) rfl rfl rfl rfl rfl (by show (0) * 7 + 6 = 0 + 6; omega) rfl (by decide))
    allNil))
theorem vaE19 {u : Int} {lu : Int} {res : Int} {r : Int} {wd : Int} {c0 : Int} {s : Nat} {d : Nat} {S : Nat} {W : Nat} (h3 : 0 ≤ r) (h4 : r + 20 ≤ 5000) (h5 : 9 ≤ wd) (h6 : wd ≤ 2048) (h7 : 0 ≤ c0) (h8 : c0 ≤ 200000) (h13 : -1000 ≤ res) (h14 : res ≤ 1000) (h11 : s ≤ 10000) (h12 : d ≤ 10000) : ∀ x_ ∈ ([] : List VA), VaOk (un.ivD19 u lu res r wd c0 s d S W) (un.vvD19 s d S W) (un.vkD19 s d S W) x_ :=
  allNil
abbrev RE19 {u : Int} {lu : Int} {res : Int} {r : Int} {wd : Int} {c0 : Int} {s : Nat} {d : Nat} {S : Nat} {W : Nat} (h3 : 0 ≤ r) (h4 : r + 20 ≤ 5000) (h5 : 9 ≤ wd) (h6 : wd ≤ 2048) (h7 : 0 ≤ c0) (h8 : c0 ≤ 200000) (h13 : -1000 ≤ res) (h14 : res ≤ 1000) (h11 : s ≤ 10000) (h12 : d ≤ 10000) : VRows (un.ivD19 u lu res r wd c0 s d S W) (un.vvD19 s d S W) (un.vkD19 s d S W) where
  vvp := un.vpD19 s d S W
  ib := [(14, .oi 3, .int .i64 5000, .bool false), (9, .oi 8, .int .i64 0, .bool false), (1, .oi 8, .int .i64 1, .oi 6), (11, .oi 6, .oi 8, .bool true), (14, .oi 6, .int .i64 0, .bool true), (0, .oi 3, .int .i64 1, .oi 9), (0, .oi 5, .int .i64 1, .oi 10), (1, .oi 7, .int .i64 1, .oi 11), (1, .oi 11, .int .i64 0, .oi 11), (11, .oi 11, .oi 7, .bool true), (14, .oi 11, .int .i64 0, .bool true), (12, .oi 11, .oi 7, .bool true), (1, .oi 4, .int .i64 9, .oi 12), (12, .oi 6, .oi 11, .bool true), (12, .oi 6, .oi 8, .bool true), (9, .oi 6, .int .i64 0, .bool true)]
  ibok := ibE19 h3 h4 h5 h6 h7 h8 h13 h14 h11 h12
  ic := []
  icok := icE19 h3 h4 h5 h6 h7 h8 h13 h14 h11 h12
  vl := [⟨3, 6, 1, 0, [(pN 20005)]⟩, ⟨4, 6, 7, 6, [z1]⟩, ⟨0, 11, 1, 0, [(oN 2)]⟩, ⟨1, 11, 1, 0, [bF]⟩, ⟨5, 6, 7, 4, [z2]⟩, ⟨5, 6, 7, 5, [(iN 3)]⟩, ⟨5, 6, 7, 3, [(oN 6)]⟩]
  vlok := vlE19 h3 h4 h5 h6 h7 h8 h13 h14 h11 h12
  vs := [⟨2, 6, 7, 2, [(iN 19)], 4⟩, ⟨4, 6, 7, 6, [z0], 5⟩]
  vsok := vsE19 h3 h4 h5 h6 h7 h8 h13 h14 h11 h12
  va := []
  vaok := vaE19 h3 h4 h5 h6 h7 h8 h13 h14 h11 h12
  vc := []
  vcok := allNil
noncomputable abbrev rlQ19 : List (Nat × Nat) := [(15588, 20000)]
noncomputable abbrev ipQ19 : IP := [(.oi 2, 2), (.oi 9, 4)]
noncomputable abbrev bsq19 : BS := [(13846, 13846, (.cells 32 false [] (ofPairs [(15, bF), (20, z0), (21, z1), (22, (uN 73)), (23, (oN 2)), (24, tx11), (25, tx11), (26, bF), (27, (oN 4)), (28, .nils), (29, z0), (30, z1)]))), (15588, 20000, (.cells 11 false [] (T.ofList 0 .leaf [z0, z0, (uN 0), z0, tx11, tx11, bF, z0, .nils, z0, z0])))]
theorem bqq19 : hOf 17010 bsq19 = hOf 17010 bsEd := hOf_congr (by kernel_rfl)
theorem goQ19 {x y q : Int} (g1 : 1 ≤ x) (g2 : x ≤ 60) (g3 : 0 ≤ y) (g4 : y < 80) {u lu res r wd c0 : Int} (h3 : 0 ≤ r) (h4 : r + 20 ≤ 5000) (h5 : 9 ≤ wd) (h6 : wd ≤ 2048) (h7 : 0 ≤ c0) (h8 : c0 ≤ 200000) (h13 : -1000 ≤ res) (h14 : res ≤ 1000) (e1 : res = y) (e2 : r + 1 = q) (e3 : wd = 9) (hb : Base B μ 15588) (s_ : un.SD19 u lu res r wd c0 0 0 0 0 rv0 B w0 μ a w) : Code.rounds Tryz.prog un.la (Qd (x := x) (y := y) (q := q) g1 g2 g3 g4 B w0 μ) (0 + 1) a w := by
  have hip : IpOk ((RE19 (u := u) (lu := lu) (res := res) (r := r) (wd := wd) (c0 := c0) (s := 0) (d := 0) (S := 0) (W := 0) h3 h4 h5 h6 h7 h8 h13 h14 (Nat.zero_le _) (Nat.zero_le _)).rtab rv0) ((RL (x := x) (y := y) (q := q) (s := 0) (d := 0) (S := 0) (W := 0) g1 g2 g3 g4).tab) ipQ19 := (ipCons (ipN (.i64, res) rfl (show (IntKind.i64, y) = (IntKind.i64, res) from Prod.ext rfl (show (y : Int) = res by omega))) (ipCons (ipN (.i64, r + 1) rfl (show (IntKind.i64, q) = (IntKind.i64, r + 1) from Prod.ext rfl (show (q : Int) = r + 1 by omega))) ipNil))
  refine stepsTo_sound (T := ((RE19 (u := u) (lu := lu) (res := res) (r := r) (wd := wd) (c0 := c0) (s := 0) (d := 0) (S := 0) (W := 0) h3 h4 h5 h6 h7 h8 h13 h14 (Nat.zero_le _) (Nat.zero_le _)).rtab rv0)) (T' := ((RL (x := x) (y := y) (q := q) (s := 0) (d := 0) (S := 0) (W := 0) g1 g2 g3 g4).tab)) (K := Hand.none) (m := 5000) un.mixed (@HandOk.none ((RE19 (u := u) (lu := lu) (res := res) (r := r) (wd := wd) (c0 := c0) (s := 0) (d := 0) (S := 0) (W := 0) h3 h4 h5 h6 h7 h8 h13 h14 (Nat.zero_le _) (Nat.zero_le _)).rtab rv0) Tryz.prog) (C := ⟨15588, 17010, ofPairs rlQ19, ipQ19⟩) (ex := .exit 0) (rl := rlQ19) (vp := []) (fs := fsq) (bs := bsq19)
    hb (by decide) rfl (by kernel_rfl) hip vpNil (glNone rfl rfl) (by as_aux_lemma => kernel_rfl) (St.same (VRows.rsame _ _ _) s_) (fun a' w' q_ => ⟨rfl, by rw [bqq19] at q_; exact q_⟩)
theorem ibEA {u : Int} {lu : Int} {r : Int} {wd : Int} {c0 : Int} {s : Nat} {d : Nat} {S : Nat} {W : Nat} (h3 : 0 ≤ r) (h4 : r + 20 ≤ 5000) (h5 : 9 ≤ wd) (h6 : wd ≤ 2048) (h7 : 0 ≤ c0) (h8 : c0 ≤ 200000) (hW : W + 1 = 3 * S) (hS : 3 ≤ S) (hT : S ≤ 100) (h11 : s ≤ 10000) (h12 : d ≤ 10000) : ∀ x_ ∈ ([(14, .oi 3, .int .i64 5000, .bool false), (9, .oi 12, .int .i64 0, .bool false), (1, .oi 12, .int .i64 1, .oi 6), (11, .oi 6, .oi 12, .bool true), (14, .oi 6, .int .i64 0, .bool true), (0, .oi 3, .int .i64 1, .oi 13), (0, .oi 5, .int .i64 1, .oi 14), (1, .oi 11, .int .i64 1, .oi 15), (1, .oi 15, .int .i64 0, .oi 15), (11, .oi 15, .oi 11, .bool true), (14, .oi 15, .int .i64 0, .bool true), (10, .oi 2, .int .i64 0, .bool true), (1, .oi 2, .int .i64 1, .oi 7), (11, .oi 7, .oi 9, .bool true), (14, .oi 7, .int .i64 0, .bool true), (1, .oi 4, .int .i64 9, .oi 16), (12, .oi 6, .oi 11, .bool true), (12, .oi 6, .oi 12, .bool true), (9, .oi 6, .int .i64 0, .bool true), (0, .oi 7, .int .i64 2, .oi 17), (0, .oi 17, .int .i64 0, .oi 17), (11, .oi 17, .oi 9, .bool true), (14, .oi 17, .int .i64 0, .bool true)] : List BRow), IbOk (un.ivDA u lu r wd c0 s d S W) x_ := by
  letI := Tab.empty
  exact (ibCons (ibGe (a := (r)) (b := (5000)) rfl rfl (decide_eq_false (by omega)))
    (ibCons (ibEq (a := (((0 + 1 : Nat) : Int))) (b := (0)) rfl rfl (decide_eq_false (by omega)))
    (ibCons (ibSub (a := (((0 + 1 : Nat) : Int))) (b := (1)) (c := (((0 : Nat) : Int))) rfl rfl rfl (by first | assumption | omega) (by omega) (by omega))
    (ibCons (ibLt (a := (((0 : Nat) : Int))) (b := (((0 + 1 : Nat) : Int))) rfl rfl (decide_eq_true (by omega)))
    (ibCons (ibGe (a := (((0 : Nat) : Int))) (b := (0)) rfl rfl (decide_eq_true (by omega)))
    (ibCons (ibAdd (a := (r)) (b := (1)) (c := (r + 1)) rfl rfl rfl (by first | assumption | omega) (by omega) (by omega))
    (ibCons (ibAdd (a := (c0)) (b := (1)) (c := (c0 + 1)) rfl rfl rfl (by first | assumption | omega) (by omega) (by omega))
    (ibCons (ibSub (a := (((0 + 3 : Nat) : Int))) (b := (1)) (c := (((0 + 2 : Nat) : Int))) rfl rfl rfl (by first | assumption | omega) (by omega) (by omega))
    (ibCons (ibSub (a := (((0 + 2 : Nat) : Int))) (b := (0)) (c := (((0 + 2 : Nat) : Int))) rfl rfl rfl (by first | assumption | omega) (by omega) (by omega))
    (ibCons (ibLt (a := (((0 + 2 : Nat) : Int))) (b := (((0 + 3 : Nat) : Int))) rfl rfl (decide_eq_true (by omega)))
    (ibCons (ibGe (a := (((0 + 2 : Nat) : Int))) (b := (0)) rfl rfl (decide_eq_true (by omega)))
    (ibCons (ibNe (a := (((W + 1 : Nat) : Int))) (b := (0)) rfl rfl (decide_eq_false (by omega)))
    (ibCons (ibSub (a := (((W + 1 : Nat) : Int))) (b := (1)) (c := (((W : Nat) : Int))) rfl rfl rfl (by first | assumption | omega) (by omega) (by omega))
    (ibCons (ibLt (a := (((W : Nat) : Int))) (b := (((W + 3 : Nat) : Int))) rfl rfl (decide_eq_true (by omega)))
    (ibCons (ibGe (a := (((W : Nat) : Int))) (b := (0)) rfl rfl (decide_eq_true (by omega)))
    (ibCons (ibSub (a := (wd)) (b := (9)) (c := (wd - 9)) rfl rfl rfl (by first | assumption | omega) (by omega) (by omega))
    (ibCons (ibLe (a := (((0 : Nat) : Int))) (b := (((0 + 3 : Nat) : Int))) rfl rfl (decide_eq_true (by omega)))
    (ibCons (ibLe (a := (((0 : Nat) : Int))) (b := (((0 + 1 : Nat) : Int))) rfl rfl (decide_eq_true (by omega)))
    (ibCons (ibEq (a := (((0 : Nat) : Int))) (b := (0)) rfl rfl (decide_eq_true (by omega)))
    (ibCons (ibAdd (a := (((W : Nat) : Int))) (b := (2)) (c := (((W + 2 : Nat) : Int))) rfl rfl rfl (by first | assumption | omega) (by omega) (by omega))
    (ibCons (ibAdd (a := (((W + 2 : Nat) : Int))) (b := (0)) (c := (((W + 2 : Nat) : Int))) rfl rfl rfl (by first | assumption | omega) (by omega) (by omega))
    (ibCons (ibLt (a := (((W + 2 : Nat) : Int))) (b := (((W + 3 : Nat) : Int))) rfl rfl (decide_eq_true (by omega)))
    (ibCons (ibGe (a := (((W + 2 : Nat) : Int))) (b := (0)) rfl rfl (decide_eq_true (by omega)))
    ibNil)))))))))))))))))))))))
theorem icEA {u : Int} {lu : Int} {r : Int} {wd : Int} {c0 : Int} {s : Nat} {d : Nat} {S : Nat} {W : Nat} (h3 : 0 ≤ r) (h4 : r + 20 ≤ 5000) (h5 : 9 ≤ wd) (h6 : wd ≤ 2048) (h7 : 0 ≤ c0) (h8 : c0 ≤ 200000) (hW : W + 1 = 3 * S) (hS : 3 ≤ S) (hT : S ≤ 100) (h11 : s ≤ 10000) (h12 : d ≤ 10000) : ∀ x_ ∈ ([] : List (IntKind × AV × AV)), IcOk' (un.ivDA u lu r wd c0 s d S W) x_ := icNil
theorem vlEA {u : Int} {lu : Int} {r : Int} {wd : Int} {c0 : Int} {s : Nat} {d : Nat} {S : Nat} {W : Nat} (h3 : 0 ≤ r) (h4 : r + 20 ≤ 5000) (h5 : 9 ≤ wd) (h6 : wd ≤ 2048) (h7 : 0 ≤ c0) (h8 : c0 ≤ 200000) (hW : W + 1 = 3 * S) (hS : 3 ≤ S) (hT : S ≤ 100) (h11 : s ≤ 10000) (h12 : d ≤ 10000) : ∀ x_ ∈ ([⟨5, 6, 1, 0, [(pN 20005)]⟩, ⟨6, 6, 7, 6, [z1]⟩, ⟨2, 15, 1, 0, [(oN 2)]⟩, ⟨3, 15, 1, 0, [bT]⟩, ⟨0, 7, 1, 0, [(.int .u64 3)]⟩, ⟨6, 6, 7, 4, [z2]⟩, ⟨6, 6, 7, 5, [(iN 3)]⟩, ⟨6, 6, 7, 3, [(oN 6)]⟩, ⟨0, 17, 1, 0, [(.int .u64 0)]⟩] : List VL), VlOk (un.ivDA u lu r wd c0 s d S W) (un.vvDA s d S W) x_ :=
  (allCons (vlP (k := 0) (b := 0) (c := 3) (o := 0) (L := [(pN 20005)]) rfl rfl (by show (0) * 1 + 0 = 0 + 0; omega) rfl)
    (allCons (vlP (k := 0) (b := 0) (c := 2) (o := 6) (L := [z0, z0, (iN 35), (oN 6), z2, (iN 3), z1]) rfl rfl (by show (0) * 7 + 6 = 0 + 6; omega) rfl)
    (allCons (vlP (k := 0 + 2) (b := 0) (c := 0) (o := 2) (L := [(oN 0), (oN 1), (oN 2)]) rfl rfl (by show (0 + 2) * 1 + 0 = 0 + 2; omega) rfl)
    (allCons (vlP (k := 0 + 2) (b := 0) (c := 1) (o := 2) (L := [bF, bF, bT]) rfl rfl (by show (0 + 2) * 1 + 0 = 0 + 2; omega) rfl)
    (allCons (vlG (k := W) (b := W) (g := noG) (o := 0) (L := [(.int .u64 3), (.int .u64 0), (.int .u64 0)]) rfl rfl (by show (W) * 1 + 0 = W + 0; omega) rfl)
    (allCons (vlP (k := 0) (b := 0) (c := 2) (o := 4) (L := [z0, z0, (iN 35), (oN 6), z2, (iN 3), z1]) rfl rfl (by show (0) * 7 + 4 = 0 + 4; omega) rfl)
    (allCons (vlP (k := 0) (b := 0) (c := 2) (o := 5) (L := [z0, z0, (iN 35), (oN 6), z2, (iN 3), z1]) rfl rfl (by show (0) * 7 + 5 = 0 + 5; omega) rfl)
    (allCons (vlP (k := 0) (b := 0) (c := 2) (o := 3) (L := [z0, z0, (iN 35), (oN 6), z2, (iN 3), z1]) rfl rfl (by show (0) * 7 + 3 = 0 + 3; omega) rfl)
    (allCons (vlG (k := W + 2) (b := W) (g := noG) (o := 2) (L := [(.int .u64 3), (.int .u64 0), (.int .u64 0)]) rfl rfl (by show (W + 2) * 1 + 0 = W + 2; omega) rfl)
    allNil)))))))))
theorem vsEA {u : Int} {lu : Int} {r : Int} {wd : Int} {c0 : Int} {s : Nat} {d : Nat} {S : Nat} {W : Nat} (h3 : 0 ≤ r) (h4 : r + 20 ≤ 5000) (h5 : 9 ≤ wd) (h6 : wd ≤ 2048) (h7 : 0 ≤ c0) (h8 : c0 ≤ 200000) (hW : W + 1 = 3 * S) (hS : 3 ≤ S) (hT : S ≤ 100) (h11 : s ≤ 10000) (h12 : d ≤ 10000) : ∀ x_ ∈ ([⟨4, 6, 7, 2, [(iN 35)], 6⟩] : List VS), VsOk (un.ivDA u lu r wd c0 s d S W) (un.vvDA s d S W) (un.vkDA s d S W) x_ :=
  (allCons (vsP (k := 0) (b := 0) (c := 2) (o := 2) (L := [z0, z0, (iN 32), (oN 6), z2, (iN 3), z1]) (L' := [z0, z0, (iN 35), (oN 6), z2, (iN 3), z1]) rfl rfl rfl rfl rfl (by show (0) * 7 + 2 = 0 + 2; omega) rfl (by decide))
    allNil)
theorem vaEA {u : Int} {lu : Int} {r : Int} {wd : Int} {c0 : Int} {s : Nat} {d : Nat} {S : Nat} {W : Nat} (h3 : 0 ≤ r) (h4 : r + 20 ≤ 5000) (h5 : 9 ≤ wd) (h6 : wd ≤ 2048) (h7 : 0 ≤ c0) (h8 : c0 ≤ 200000) (hW : W + 1 = 3 * S) (hS : 3 ≤ S) (hT : S ≤ 100) (h11 : s ≤ 10000) (h12 : d ≤ 10000) : ∀ x_ ∈ ([] : List VA), VaOk (un.ivDA u lu r wd c0 s d S W) (un.vvDA s d S W) (un.vkDA s d S W) x_ :=
  allNil
abbrev REA {u : Int} {lu : Int} {r : Int} {wd : Int} {c0 : Int} {s : Nat} {d : Nat} {S : Nat} {W : Nat} (h3 : 0 ≤ r) (h4 : r + 20 ≤ 5000) (h5 : 9 ≤ wd) (h6 : wd ≤ 2048) (h7 : 0 ≤ c0) (h8 : c0 ≤ 200000) (hW : W + 1 = 3 * S) (hS : 3 ≤ S) (hT : S ≤ 100) (h11 : s ≤ 10000) (h12 : d ≤ 10000) : VRows (un.ivDA u lu r wd c0 s d S W) (un.vvDA s d S W) (un.vkDA s d S W) where
  vvp := un.vpDA s d S W
  ib := [(14, .oi 3, .int .i64 5000, .bool false), (9, .oi 12, .int .i64 0, .bool false), (1, .oi 12, .int .i64 1, .oi 6), (11, .oi 6, .oi 12, .bool true), (14, .oi 6, .int .i64 0, .bool true), (0, .oi 3, .int .i64 1, .oi 13), (0, .oi 5, .int .i64 1, .oi 14), (1, .oi 11, .int .i64 1, .oi 15), (1, .oi 15, .int .i64 0, .oi 15), (11, .oi 15, .oi 11, .bool true), (14, .oi 15, .int .i64 0, .bool true), (10, .oi 2, .int .i64 0, .bool true), (1, .oi 2, .int .i64 1, .oi 7), (11, .oi 7, .oi 9, .bool true), (14, .oi 7, .int .i64 0, .bool true), (1, .oi 4, .int .i64 9, .oi 16), (12, .oi 6, .oi 11, .bool true), (12, .oi 6, .oi 12, .bool true), (9, .oi 6, .int .i64 0, .bool true), (0, .oi 7, .int .i64 2, .oi 17), (0, .oi 17, .int .i64 0, .oi 17), (11, .oi 17, .oi 9, .bool true), (14, .oi 17, .int .i64 0, .bool true)]
  ibok := ibEA h3 h4 h5 h6 h7 h8 hW hS hT h11 h12
  ic := []
  icok := icEA h3 h4 h5 h6 h7 h8 hW hS hT h11 h12
  vl := [⟨5, 6, 1, 0, [(pN 20005)]⟩, ⟨6, 6, 7, 6, [z1]⟩, ⟨2, 15, 1, 0, [(oN 2)]⟩, ⟨3, 15, 1, 0, [bT]⟩, ⟨0, 7, 1, 0, [(.int .u64 3)]⟩, ⟨6, 6, 7, 4, [z2]⟩, ⟨6, 6, 7, 5, [(iN 3)]⟩, ⟨6, 6, 7, 3, [(oN 6)]⟩, ⟨0, 17, 1, 0, [(.int .u64 0)]⟩]
  vlok := vlEA h3 h4 h5 h6 h7 h8 hW hS hT h11 h12
  vs := [⟨4, 6, 7, 2, [(iN 35)], 6⟩]
  vsok := vsEA h3 h4 h5 h6 h7 h8 hW hS hT h11 h12
  va := []
  vaok := vaEA h3 h4 h5 h6 h7 h8 hW hS hT h11 h12
  vc := []
  vcok := allNil
noncomputable abbrev rlQA : List (Nat × Nat) := [(15588, 20000)]
noncomputable abbrev ipQA : IP := [(.oi 13, 4)]
noncomputable abbrev bsqA : BS := [(13846, 13846, (.cells 32 false [] (ofPairs [(15, bF), (20, z0), (21, z2), (22, (uN 0)), (23, z0), (24, tx2), (25, tx11), (26, bF), (27, (oN 4)), (28, .nils), (29, z0), (30, z1)]))), (15588, 20000, (.cells 11 false [] (T.ofList 0 .leaf [z0, z0, (uN 0), z0, tx11, tx11, bF, z0, .nils, z0, z0])))]
theorem bqqA : hOf 17010 bsqA = hOf 17010 bsEa := hOf_congr (by kernel_rfl)
theorem goQA {x y q : Int} (g1 : 1 ≤ x) (g2 : x ≤ 60) (g3 : 0 ≤ y) (g4 : y < 80) {u lu r wd c0 : Int} {S W : Nat} (h3 : 0 ≤ r) (h4 : r + 20 ≤ 5000) (h5 : 9 ≤ wd) (h6 : wd ≤ 2048) (h7 : 0 ≤ c0) (h8 : c0 ≤ 200000) (hW : W + 1 = 3 * S) (hS : 3 ≤ S) (hT : S ≤ 100) (e2 : r + 1 = q) (e3 : wd = 9) (hb : Base B μ 15588) (s_ : un.SDA u lu r wd c0 0 0 S W rv0 B w0 μ a w) : Code.rounds Tryz.prog un.la (Qa (x := x) (y := y) (q := q) g1 g2 g3 g4 B w0 μ) (0 + 1) a w := by
  have hip : IpOk ((REA (u := u) (lu := lu) (r := r) (wd := wd) (c0 := c0) (s := 0) (d := 0) (S := S) (W := W) h3 h4 h5 h6 h7 h8 hW hS hT (Nat.zero_le _) (Nat.zero_le _)).rtab rv0) ((RL (x := x) (y := y) (q := q) (s := 0) (d := 0) (S := 0) (W := 0) g1 g2 g3 g4).tab) ipQA := (ipCons (ipN (.i64, r + 1) rfl (show (IntKind.i64, q) = (IntKind.i64, r + 1) from Prod.ext rfl (show (q : Int) = r + 1 by omega))) ipNil)
  refine stepsTo_sound (T := ((REA (u := u) (lu := lu) (r := r) (wd := wd) (c0 := c0) (s := 0) (d := 0) (S := S) (W := W) h3 h4 h5 h6 h7 h8 hW hS hT (Nat.zero_le _) (Nat.zero_le _)).rtab rv0)) (T' := ((RL (x := x) (y := y) (q := q) (s := 0) (d := 0) (S := 0) (W := 0) g1 g2 g3 g4).tab)) (K := (bs.bsHand 1 10 7 8)) (m := 5000) un.mixed (show @HandOk ((REA (u := u) (lu := lu) (r := r) (wd := wd) (c0 := c0) (s := 0) (d := 0) (S := S) (W := W) h3 h4 h5 h6 h7 h8 hW hS hT (Nat.zero_le _) (Nat.zero_le _)).rtab rv0) Tryz.prog (bs.bsHand 1 10 7 8) from (letI : Tab := ((REA (u := u) (lu := lu) (r := r) (wd := wd) (c0 := c0) (s := 0) (d := 0) (S := S) (W := W) h3 h4 h5 h6 h7 h8 hW hS hT (Nat.zero_le _) (Nat.zero_le _)).rtab rv0); (bs.bsHand_ok (T := ((REA (u := u) (lu := lu) (r := r) (wd := wd) (c0 := c0) (s := 0) (d := 0) (S := S) (W := W) h3 h4 h5 h6 h7 h8 hW hS hT (Nat.zero_le _) (Nat.zero_le _)).rtab rv0)) (i := 1) (j := 10) (t := 7) (r := 8) (n := S + 1) (p := S + 0) (F := bs.stF) rfl (show (IntKind.i64, ((W : Nat) : Int)) = (IntKind.i64, bs.stF (S + 0)) from Prod.ext rfl (show (((W : Nat) : Int) : Int) = ((3 * (S + 0) - 1 : Nat) : Int) by omega)) rfl (bs.stHs (T := ((REA (u := u) (lu := lu) (r := r) (wd := wd) (c0 := c0) (s := 0) (d := 0) (S := S) (W := W) h3 h4 h5 h6 h7 h8 hW hS hT (Nat.zero_le _) (Nat.zero_le _)).rtab rv0)) (S := S) (L := [(oN 7)]) rfl (bs.st1 (T := ((REA (u := u) (lu := lu) (r := r) (wd := wd) (c0 := c0) (s := 0) (d := 0) (S := S) (W := W) h3 h4 h5 h6 h7 h8 hW hS hT (Nat.zero_le _) (Nat.zero_le _)).rtab rv0)) (show (IntKind.i64, ((W : Nat) : Int)) = (IntKind.i64, bs.stF (S + 0)) from Prod.ext rfl (show (((W : Nat) : Int) : Int) = ((3 * (S + 0) - 1 : Nat) : Int) by omega)))) (by omega) (by omega) bs.stF_inc))) (C := ⟨15588, 17010, ofPairs rlQA, ipQA⟩) (ex := .exit 0) (rl := rlQA) (vp := []) (fs := fsq) (bs := bsqA)
    hb (by decide) rfl (by kernel_rfl) hip vpNil (glNone rfl rfl) (by as_aux_lemma => kernel_rfl) (St.same (VRows.rsame _ _ _) s_) (fun a' w' q_ => ⟨rfl, by rw [bqqA] at q_; exact q_⟩)
noncomputable abbrev rlTd : List (Nat × Nat) := [(15588, 15588)]
noncomputable abbrev ipTd : IP := [(.oi 2, 2), (.oi 4, 4)]
theorem taild {x y q : Int} (g1 : 1 ≤ x) (g2 : x ≤ 60) (g3 : 0 ≤ y) (g4 : y < 80) (hb : Base B μ 15588) (s : St ((RL (x := x) (y := y) (q := q) (s := 0) (d := 0) (S := 0) (W := 0) g1 g2 g3 g4).tab) B w0 μ nt (frOf fsq) (hOf 17010 bsEd) a w) : un.tl.wp Tryz.prog (@Done ((RL (x := x) (y := y) (q := q) (s := 0) (d := 0) (S := 0) (W := 0) g1 g2 g3 g4).tab) Tryz.prog Tryz.f47 B w0 μ CRd.v (hOf 17010 bsFd)) a w := by
  letI : Tab := ((RL (x := x) (y := y) (q := q) (s := 0) (d := 0) (S := 0) (W := 0) g1 g2 g3 g4).tab)
  have hip : IpOk ((RL (x := x) (y := y) (q := q) (s := 0) (d := 0) (S := 0) (W := 0) g1 g2 g3 g4).tab) ((RL (x := x) (y := y) (q := q) (s := 0) (d := 0) (S := 0) (W := 0) g1 g2 g3 g4).tab) ipTd := (ipCons (ipN _ rfl rfl) (ipCons (ipN _ rfl rfl) ipNil))
  refine wp_mono (runTo_sound (T := ((RL (x := x) (y := y) (q := q) (s := 0) (d := 0) (S := 0) (W := 0) g1 g2 g3 g4).tab)) (T' := ((RL (x := x) (y := y) (q := q) (s := 0) (d := 0) (S := 0) (W := 0) g1 g2 g3 g4).tab)) (K := K_top0) (n := 5000) un.mixed (@K_top0_ok ((RL (x := x) (y := y) (q := q) (s := 0) (d := 0) (S := 0) (W := 0) g1 g2 g3 g4).tab)) (C := ⟨15588, 17010, ofPairs rlTd, ipTd⟩) (ex := .ret) (rl := rlTd) (vp := []) (fs := [(10, .ptr 15588 0)]) (bs := bsFd)
    hb (by decide) rfl (by kernel_rfl) hip vpNil (glNone rfl rfl) (by as_aux_lemma => kernel_rfl) s) ?_
  rintro e' a' w' ⟨rfl, s'⟩
  exact St.done (.inr rfl) (by kernel_rfl) s'
noncomputable abbrev rlTa : List (Nat × Nat) := [(15588, 15588)]
noncomputable abbrev ipTa : IP := [(.oi 4, 4)]
theorem taila {x y q : Int} (g1 : 1 ≤ x) (g2 : x ≤ 60) (g3 : 0 ≤ y) (g4 : y < 80) (hb : Base B μ 15588) (s : St ((RL (x := x) (y := y) (q := q) (s := 0) (d := 0) (S := 0) (W := 0) g1 g2 g3 g4).tab) B w0 μ nt (frOf fsq) (hOf 17010 bsEa) a w) : un.tl.wp Tryz.prog (@Done ((RL (x := x) (y := y) (q := q) (s := 0) (d := 0) (S := 0) (W := 0) g1 g2 g3 g4).tab) Tryz.prog Tryz.f47 B w0 μ CRa.v (hOf 17010 bsFa)) a w := by
  letI : Tab := ((RL (x := x) (y := y) (q := q) (s := 0) (d := 0) (S := 0) (W := 0) g1 g2 g3 g4).tab)
  have hip : IpOk ((RL (x := x) (y := y) (q := q) (s := 0) (d := 0) (S := 0) (W := 0) g1 g2 g3 g4).tab) ((RL (x := x) (y := y) (q := q) (s := 0) (d := 0) (S := 0) (W := 0) g1 g2 g3 g4).tab) ipTa := (ipCons (ipN _ rfl rfl) ipNil)
  refine wp_mono (runTo_sound (T := ((RL (x := x) (y := y) (q := q) (s := 0) (d := 0) (S := 0) (W := 0) g1 g2 g3 g4).tab)) (T' := ((RL (x := x) (y := y) (q := q) (s := 0) (d := 0) (S := 0) (W := 0) g1 g2 g3 g4).tab)) (K := K_top0) (n := 5000) un.mixed (@K_top0_ok ((RL (x := x) (y := y) (q := q) (s := 0) (d := 0) (S := 0) (W := 0) g1 g2 g3 g4).tab)) (C := ⟨15588, 17010, ofPairs rlTa, ipTa⟩) (ex := .ret) (rl := rlTa) (vp := []) (fs := [(10, .ptr 15588 0)]) (bs := bsFa)
    hb (by decide) rfl (by kernel_rfl) hip vpNil (glNone rfl rfl) (by as_aux_lemma => kernel_rfl) s) ?_
  rintro e' a' w' ⟨rfl, s'⟩
  exact St.done (.inr rfl) (by kernel_rfl) s'
noncomputable abbrev rlB : List (Nat × Nat) := [(20000, 15588), (20001, 17799), (20002, 17800), (20003, 17798), (20004, 17803), (20005, 17801)]
noncomputable abbrev ipB : IP := [(.int .i64 2, 3), (.int .i64 1, 4), (.oi 0, 0), (.oi 2, 1)]
noncomputable abbrev bsB : BS := [(7241, 7241, (.map [(tx51, (pN 14138), 0)] 1)), (7242, 7242, (.map [(tx0, (pN 7439), 0), (tx26, (pN 7587), 1), (tx27, (pN 7696), 2), (tx16, (pN 7807), 3), (tx28, (pN 7921), 4), (tx29, (pN 8034), 5), (tx23, (pN 8131), 6), (tx35, (pN 8225), 7), (tx20, (pN 8316), 8), (tx14, (pN 8406), 9), (tx21, (pN 8512), 10), (tx30, (pN 8615), 11), (tx18, (pN 8730), 12), (tx7, (pN 8828), 13), (tx13, (pN 8921), 14), (tx31, (pN 9026), 15), (tx12, (pN 9125), 16), (tx22, (pN 9237), 17), (tx24, (pN 9333), 18), (tx36, (pN 9434), 19), (tx33, (pN 9536), 20), (tx25, (pN 9646), 21), (tx3, (pN 9657), 22), (tx10, (pN 9768), 23), (tx2, (pN 9860), 24), (tx9, (pN 9967), 25), (tx4, (pN 9988), 26), (tx1, (pN 10045), 27), (tx15, (pN 10185), 28), (tx44, (pN 10197), 29), (tx6, (pN 10285), 30), (tx19, (pN 10385), 31), (tx39, (pN 10485), 32)] 33)), (7243, 7243, (.cells 3 false [] (T.ofList 0 .leaf [(.map 7241), (.map 7242), (.so 15583 0 1 1)]))), (8406, 8406, (.cells 8 false [] (T.ofList 0 .leaf [(iN 52), .nils, (iN 33), tx14, tx6, .nils, .nils, (.so 8415 0 2 9)]))), (9657, 9657, (.cells 8 false [] (T.ofList 0 .leaf [(iN 52), .nils, (iN 33), tx3, tx11, .nils, .nils, (.so 9669 0 3 9)]))), (9860, 9860, (.cells 8 false [] (T.ofList 0 .leaf [(iN 52), .nils, (iN 33), tx2, tx14, .nils, .nils, (.so 9869 0 2 9)]))), (9869, 9869, (.cells 18 true [] (T.ofList 0 .leaf [z1, tx8, tx32, bF, z0, z0, .nils, .nils, .nils, z1, tx8, tx5, bF, z0, z0, .nils, .nils, .nils]))), (10285, 10285, (.cells 8 false [] (T.ofList 0 .leaf [(iN 52), .nils, (iN 33), tx6, tx3, .nils, (.sl 10299 0 1 1), (.so 10298 0 3 9)]))), (10299, 10299, (.cells 4 false [] (T.ofList 0 .leaf [z2, tx68, tx52, z0]))), (10495, 10495, (.map [(tx0, z0, 0), (tx9, z1, 1), (tx10, z2, 2)] 3)), (10496, 10496, (.cells 5 false [] (T.ofList 0 .leaf [(pN 7243), (.so 14064 0 8 1), (.so 14066 0 3 1), (.so 14063 0 3 3), (.map 10495)]))), (10502, 10502, (.cells 7 false [] (T.ofList 0 .leaf [(pN 10496), (pN 10498), (pN 7243), (.so 11216 0 39 3), .nils, bF, bF]))), (11216, 11216, (.cells 117 true [] (T.ofList 0 .leaf [tx11, z0, .nilf, tx3, z1, (.fn (.func 155) [] []), tx3, z2, (.fn (.func 156) [] []), tx3, z1, (.fn (.func 157) [] []), tx4, z1, (.fn (.func 161) [] []), tx4, z2, (.fn (.func 162) [] []), tx4, z2, (.fn (.func 163) [] []), tx4, z2, (.fn (.func 164) [] []), tx4, z1, (.fn (.func 165) [] []), tx4, z1, (.fn (.func 166) [] []), tx11, z1, (.fn (.func 167) [] [(pN 11710)]), tx11, z1, (.fn (.func 167) [] [(pN 11783)]), tx11, z1, (.fn (.func 167) [] [(pN 11857)]), tx11, z1, (.fn (.func 167) [] [(pN 11932)]), tx1, z1, (.fn (.func 170) [] []), tx1, z2, (.fn (.func 171) [] [(pN 12044)]), tx1, z2, (.fn (.func 171) [] [(pN 12176)]), tx1, z2, (.fn (.func 171) [] [(pN 12274)]), tx1, z2, (.fn (.func 171) [] [(pN 12373)]), tx1, z2, (.fn (.func 171) [] [(pN 12473)]), tx1, z1, (.fn (.func 175) [] []), tx1, z1, (.fn (.func 176) [] []), tx11, (iN 5), (.fn (.func 160) [] []), tx0, z2, (.fn (.func 177) [] [(pN 12705), (pN 12703)]), tx0, z2, (.fn (.func 177) [] [(pN 12811), (pN 12703)]), tx0, z2, (.fn (.func 177) [] [(pN 12883), (pN 12703)]), tx0, z2, (.fn (.func 177) [] [(pN 12956), (pN 12703)]), tx0, z2, (.fn (.func 177) [] [(pN 13030), (pN 12703)]), tx0, z2, (.fn (.func 177) [] [(pN 13105), (pN 12703)]), tx0, z2, (.fn (.func 177) [] [(pN 13218), (pN 13216)]), tx0, z2, (.fn (.func 177) [] [(pN 13330), (pN 13216)]), tx0, z2, (.fn (.func 177) [] [(pN 13408), (pN 13216)]), tx0, z2, (.fn (.func 177) [] [(pN 13487), (pN 13216)]), tx0, z2, (.fn (.func 177) [] [(pN 13567), (pN 13216)]), tx0, z2, (.fn (.func 177) [] [(pN 13648), (pN 13216)]), tx0, z1, (.fn (.func 179) [] []), tx6, z1, (.fn (.func 155) [] []), tx6, z2, (.fn (.func 158) [] []), tx6, z1, (.fn (.func 159) [] [])]))), (13842, 13842, (.cells 4 false [] (T.ofList 0 .leaf [(.ov 20001 3 1), (.ov 20002 3 1), (.ov 20003 4 7), (iN 9)]))), (13843, 13843, (.map [(tx51, (pN 17787), 0), (tx3, (pN 17792), 1)] 2)), (13844, 13844, (.map [(tx51, z0, 0)] 1)), (13845, 13845, (.map [] 0)), (13846, 13846, (.cells 32 false [] (T.ofList 0 .leaf [(pN 7243), (pN 10501), (pN 10496), (pN 10498), (pN 10502), (pN 13842), (.ov 20004 4 1), (.map 13843), (.map 13844), .nils, z1, (iN 3), (iN 6), z0, .nilp, bT, (iN 5000), z0, z0, z0, z0, z0, (uN 0), z0, tx11, tx11, bF, z0, .nils, z0, z0, (.map 13845)]))), (14063, 14063, (.cells 9 true [] (T.ofList 0 .leaf [tx0, .nils, (uN 0), tx9, (.so 13965 0 1 1), (uN 0), tx10, (.so 14061 0 1 1), (uN 0)]))), (14064, 14064, (.cells 8 true [] (T.ofList 0 .leaf [(.int .u64 0), (.int .u64 0), (.int .u64 1), (.int .u64 0), (.int .u64 0), (.int .u64 2), (.int .u64 0), (.int .u64 0)]))), (14066, 14066, (.cells 3 true [] (T.ofList 0 .leaf [z0, z2, (iN 5)]))), (14138, 14138, (.cells 8 false [] (T.ofList 0 .leaf [(iN 52), (.sl 14140 0 17 17), (iN 33), tx51, tx3, .nils, .nils, (.so 15581 0 1 9)]))), (14140, 14140, (.cells 85 false [z0, tx11, z0, z0, z0] (ofPairs [(5, z1), (6, tx2), (7, z0), (8, z0), (9, z0), (10, (iN 7)), (11, tx11), (12, z0), (13, z1), (14, z0), (15, z1), (16, tx8), (17, z0), (18, z0), (19, z0), (20, z1), (21, tx32), (22, z0), (23, z0), (24, z0), (25, (iN 12)), (26, tx11), (27, z0), (28, (iN 3)), (29, (iN 4)), (30, (iN 10)), (31, tx11), (32, z0), (33, z2), (34, (iN 5)), (35, z1), (36, tx51), (37, z0), (38, z0), (39, z0), (40, (iN 7)), (41, tx11), (42, z0), (43, (iN 7)), (44, z0), (45, z1), (46, tx65), (47, z0), (48, z0), (49, z0), (50, z1), (51, tx60), (52, z0), (53, z0), (54, z0), (55, (iN 12)), (56, tx11), (57, z0), (58, (iN 9)), (59, (iN 10)), (60, (iN 10)), (61, tx11), (62, z0), (63, (iN 8)), (64, (iN 11)), (65, z1), (66, tx67), (67, z0), (68, z0), (69, z0), (70, z1), (71, tx83), (72, z0), (73, z0), (74, z0), (75, z1), (76, tx3), (77, z0), (78, z0), (79, z0), (80, (iN 7)), (81, tx11), (82, z0), (83, (iN 15)), (84, z0)]))), (14709, 14709, (.cells 36 true [] (T.ofList 0 .leaf [(uN 26), (uN 157), (uN 0), (uN 11), (uN 187), (uN 0), (uN 2), (uN 89), (uN 183), (uN 0), (uN 6), (uN 191), (uN 26), (uN 4), (uN 100), (uN 27), (uN 184), (uN 0), (uN 12), (uN 172), (uN 87), (uN 26), (uN 27), (uN 160), (uN 0), (uN 5), (uN 26), (uN 172), (uN 187), (uN 0), (uN 2), (uN 89), (uN 183), (uN 0), (uN 6), (uN 191)]))), (15514, 15514, (.cells 4 true [] (T.ofList 0 .leaf [(iN 12), (iN 20), (iN 20), z2]))), (15576, 15576, (.cells 12 true [] (T.ofList 0 .leaf [(iN 255), (iN 12), (.so 15538 0 2 3), .nils, (iN 255), (iN 7), (.so 15553 0 2 3), (.so 15558 0 1 3), (iN 255), (iN 7), (.so 15573 0 2 3), .nils]))), (15581, 15581, (.cells 9 true [] (T.ofList 0 .leaf [(iN 9), tx65, tx60, bT, (iN 3), z2, (.so 14709 0 36 1), (.so 15514 0 1 4), (.so 15576 0 3 4)]))), (17787, 17787, (.cells 2 false [] (T.ofList 0 .leaf [z2, (.sl 17791 0 0 0)]))), (17792, 17792, (.cells 2 false [] (T.ofList 0 .leaf [z2, .nils]))), (20000, 15588, (.cells 11 false [] (T.ofList 0 .leaf [z0, z0, (uN 0), z0, tx11, tx11, bF, z0, .nils, z0, z0]))), (20001, 17799, (.vec 0)), (20002, 17800, (.vec 1)), (20003, 17798, (.vec 2)), (20004, 17803, (.vec 3)), (20005, 17801, (.cells 6 false [] (T.ofList 0 .leaf [z0, z0, (pN 14138), z0, z0, .nilp])))]
theorem bqB : hOf 20040 bsB = hOf 20040 un.bsB := hOf_congr (by kernel_rfl)
theorem CRd_ok {x y q : Int} (g1 : 1 ≤ x) (g2 : x ≤ 60) (g3 : 0 ≤ y) (g4 : y < 80) (n l : Nat) (hn : x = n) (hl : y = l) (hc : 1 ≤ l ∧ l ≤ n) (e2 : 2 + (un.kN l n : Int) = q) : @InOk Tryz.prog CRd ((RL (x := x) (y := y) (q := q) (s := 0) (d := 0) (S := 0) (W := 0) g1 g2 g3 g4).tab) := by
  letI : Tab := ((RL (x := x) (y := y) (q := q) (s := 0) (d := 0) (S := 0) (W := 0) g1 g2 g3 g4).tab)
  refine ⟨by kernel_rfl, hOf 17010 bsFd, ?_, by unfold hOf; rw [fT_eq]; rfl, by kernel_rfl⟩
  refine callOk_of (fn := Tryz.f47) Tryz.func47 bodyR (by decide +kernel) (by decide) fun B w0 μ0 a w hb0 s0 => ?_
  obtain ⟨μ, hx, hb, s, hnm⟩ := St.rebase hb0 s0
  have hb : Base B μ 15588 := by
    have h := hb
    rw [show (hIn CRd.N CRd.bs).next = 15588 from hIn_next] at h
    exact h
  have hbU : Base B μ 20000 := baseUp hb (by decide)
  have hM : ∃ l, μ 14138 = some l := hnm 14138 (.cells 8 false [] (T.ofList 0 .leaf [(iN 52), (.sl 14140 0 17 17), (iN 33), tx51, tx3, .nils, .nils, (.so 15581 0 1 9)])) (by kernel_rfl)
  refine wp_mono (Q := @Done ((RL (x := x) (y := y) (q := q) (s := 0) (d := 0) (S := 0) (W := 0) g1 g2 g3 g4).tab) Tryz.prog Tryz.f47 B w0 μ CRd.v (hOf 17010 bsFd)) ?_ (fun e a w d => Done.ext hx d)
  have hip : IpOk ((RL (x := x) (y := y) (q := q) (s := 0) (d := 0) (S := 0) (W := 0) g1 g2 g3 g4).tab) (un.PB x y 0 0 0 0 rv0) ipB := (ipCons (ipK (show (IntKind.i64, ((0 + 2 : Nat) : Int)) = (IntKind.i64, 2) from Prod.ext rfl (show (((0 + 2 : Nat) : Int) : Int) = 2 by omega))) (ipCons (ipK (show (IntKind.i64, ((0 + 1 : Nat) : Int)) = (IntKind.i64, 1) from Prod.ext rfl (show (((0 + 1 : Nat) : Int) : Int) = 1 by omega))) (ipCons (ipN (.i64, x) rfl rfl) (ipCons (ipN (.i64, y) rfl rfl) ipNil))))
  have hvp : VpOk ((RL (x := x) (y := y) (q := q) (s := 0) (d := 0) (S := 0) (W := 0) g1 g2 g3 g4).tab) (un.PB x y 0 0 0 0 rv0) ⟨20000, 20040, ofPairs rlB, ipB⟩ [(17799, .cells 2 true [] (T.ofList 0 .leaf [(oN 0), (oN 2)]), 0), (17800, .cells 2 true [] (T.ofList 0 .leaf [bF, bF]), 1), (17798, .cells 7 true [] (T.ofList 0 .leaf [z0, z0, z0, z0, z2, (iN 3), z0]), 2), (17803, .cells 1 true [] (T.ofList 0 .leaf [(pN 17801)]), 3)] := (vpCons (vpCells (c := 0) (L := [(oN 0), (oN 2)]) (L' := [(oN 0), (oN 1)]) (i' := 0) hip rfl rfl (by decide) (show pk 0 [(oN 0), (oN 1)] ≤ 2 from by decide) (by kernel_rfl)) (vpCons (vpCells (c := 1) (L := [bF, bF]) (L' := [bF, bF]) (i' := 1) hip rfl rfl (by decide) (show pk 0 [bF, bF] ≤ 2 from by decide) (by kernel_rfl)) (vpCons (vpCells (c := 2) (L := [z0, z0, z0, z0, z2, (iN 3), z0]) (L' := [z0, z0, z0, z0, z2, (iN 3), z0]) (i' := 2) hip rfl rfl (by decide) (show pk 0 [z0, z0, z0, z0, z2, (iN 3), z0] ≤ 7 from by decide) (by kernel_rfl)) (vpCons (vpCells (c := 3) (L := [(pN 17801)]) (L' := [(pN 20005)]) (i' := 3) hip rfl rfl (by decide) (show pk 0 [(pN 20005)] ≤ 1 from by decide) (by kernel_rfl)) vpNil))))
  refine firstTo_sound (T := ((RL (x := x) (y := y) (q := q) (s := 0) (d := 0) (S := 0) (W := 0) g1 g2 g3 g4).tab)) (T' := (un.PB x y 0 0 0 0 rv0)) (K := K_top0) (m := 5000) (n := 2) un.mixed (@K_top0_ok ((RL (x := x) (y := y) (q := q) (s := 0) (d := 0) (S := 0) (W := 0) g1 g2 g3 g4).tab)) (C := ⟨20000, 20040, ofPairs rlB, ipB⟩) (rl := rlB) (vp := [(17799, .cells 2 true [] (T.ofList 0 .leaf [(oN 0), (oN 2)]), 0), (17800, .cells 2 true [] (T.ofList 0 .leaf [bF, bF]), 1), (17798, .cells 7 true [] (T.ofList 0 .leaf [z0, z0, z0, z0, z2, (iN 3), z0]), 2), (17803, .cells 1 true [] (T.ofList 0 .leaf [(pN 17801)]), 3)]) (fs := un.fsR) (bs := bsB)
    hbU (by decide) rfl (by kernel_rfl) hip hvp (glNone rfl rfl) (by as_aux_lemma => kernel_rfl) s fun a' w' s' => ?_
  rw [bqB] at s'
  rw [restR]
  have kb := un.kN_bd l n
  refine wp_seq (wp_block (wp_mono (wp_loop_rounds _ (un.runS (Q := Qd (x := x) (y := y) (q := q) g1 g2 g3 g4 B w0 μ) (j := 0 + 1) n l (by omega) (by omega) (by omega) hbU hM hn hl s' (fun h u lu r' wd' c0' a2 w2 f1 f2 f3 f4 f5 q => ?_) (fun h u lu res r' wd' c0' a2 w2 f1 f2 f3 f4 f5 f6 q => ?_) (fun h u lu res r' wd' c0' a2 w2 f1 f2 f3 f4 f5 f6 q => ?_))) ?_))
  · exact absurd hc (by assumption)
  · exact goQ27 g1 g2 g3 g4 (by omega) (by omega) (by omega) (by omega) (by omega) (by omega) (by omega) (by omega) (by omega) (by omega) (by omega) hb q
  · exact goQ19 g1 g2 g3 g4 (by omega) (by omega) (by omega) (by omega) (by omega) (by omega) (by omega) (by omega) (by omega) (by omega) (by omega) hb q
  · rintro e2 a2 w2 ⟨rfl, s2⟩
    exact taild g1 g2 g3 g4 hb s2
theorem CRa_ok {x y q : Int} (g1 : 1 ≤ x) (g2 : x ≤ 60) (g3 : 0 ≤ y) (g4 : y < 80) (n l : Nat) (hn : x = n) (hl : y = l) (hc : ¬ (1 ≤ l ∧ l ≤ n)) (e2 : 2 + (un.kN l n : Int) = q) : @InOk Tryz.prog CRa ((RL (x := x) (y := y) (q := q) (s := 0) (d := 0) (S := 0) (W := 0) g1 g2 g3 g4).tab) := by
  letI : Tab := ((RL (x := x) (y := y) (q := q) (s := 0) (d := 0) (S := 0) (W := 0) g1 g2 g3 g4).tab)
  refine ⟨by kernel_rfl, hOf 17010 bsFa, ?_, by unfold hOf; rw [fT_eq]; rfl, by kernel_rfl⟩
  refine callOk_of (fn := Tryz.f47) Tryz.func47 bodyR (by decide +kernel) (by decide) fun B w0 μ0 a w hb0 s0 => ?_
  obtain ⟨μ, hx, hb, s, hnm⟩ := St.rebase hb0 s0
  have hb : Base B μ 15588 := by
    have h := hb
    rw [show (hIn CRa.N CRa.bs).next = 15588 from hIn_next] at h
    exact h
  have hbU : Base B μ 20000 := baseUp hb (by decide)
  have hM : ∃ l, μ 14138 = some l := hnm 14138 (.cells 8 false [] (T.ofList 0 .leaf [(iN 52), (.sl 14140 0 17 17), (iN 33), tx51, tx3, .nils, .nils, (.so 15581 0 1 9)])) (by kernel_rfl)
  refine wp_mono (Q := @Done ((RL (x := x) (y := y) (q := q) (s := 0) (d := 0) (S := 0) (W := 0) g1 g2 g3 g4).tab) Tryz.prog Tryz.f47 B w0 μ CRa.v (hOf 17010 bsFa)) ?_ (fun e a w d => Done.ext hx d)
  have hip : IpOk ((RL (x := x) (y := y) (q := q) (s := 0) (d := 0) (S := 0) (W := 0) g1 g2 g3 g4).tab) (un.PB x y 0 0 0 0 rv0) ipB := (ipCons (ipK (show (IntKind.i64, ((0 + 2 : Nat) : Int)) = (IntKind.i64, 2) from Prod.ext rfl (show (((0 + 2 : Nat) : Int) : Int) = 2 by omega))) (ipCons (ipK (show (IntKind.i64, ((0 + 1 : Nat) : Int)) = (IntKind.i64, 1) from Prod.ext rfl (show (((0 + 1 : Nat) : Int) : Int) = 1 by omega))) (ipCons (ipN (.i64, x) rfl rfl) (ipCons (ipN (.i64, y) rfl rfl) ipNil))))
  have hvp : VpOk ((RL (x := x) (y := y) (q := q) (s := 0) (d := 0) (S := 0) (W := 0) g1 g2 g3 g4).tab) (un.PB x y 0 0 0 0 rv0) ⟨20000, 20040, ofPairs rlB, ipB⟩ [(17799, .cells 2 true [] (T.ofList 0 .leaf [(oN 0), (oN 2)]), 0), (17800, .cells 2 true [] (T.ofList 0 .leaf [bF, bF]), 1), (17798, .cells 7 true [] (T.ofList 0 .leaf [z0, z0, z0, z0, z2, (iN 3), z0]), 2), (17803, .cells 1 true [] (T.ofList 0 .leaf [(pN 17801)]), 3)] := (vpCons (vpCells (c := 0) (L := [(oN 0), (oN 2)]) (L' := [(oN 0), (oN 1)]) (i' := 0) hip rfl rfl (by decide) (show pk 0 [(oN 0), (oN 1)] ≤ 2 from by decide) (by kernel_rfl)) (vpCons (vpCells (c := 1) (L := [bF, bF]) (L' := [bF, bF]) (i' := 1) hip rfl rfl (by decide) (show pk 0 [bF, bF] ≤ 2 from by decide) (by kernel_rfl)) (vpCons (vpCells (c := 2) (L := [z0, z0, z0, z0, z2, (iN 3), z0]) (L' := [z0, z0, z0, z0, z2, (iN 3), z0]) (i' := 2) hip rfl rfl (by decide) (show pk 0 [z0, z0, z0, z0, z2, (iN 3), z0] ≤ 7 from by decide) (by kernel_rfl)) (vpCons (vpCells (c := 3) (L := [(pN 17801)]) (L' := [(pN 20005)]) (i' := 3) hip rfl rfl (by decide) (show pk 0 [(pN 20005)] ≤ 1 from by decide) (by kernel_rfl)) vpNil))))
  refine firstTo_sound (T := ((RL (x := x) (y := y) (q := q) (s := 0) (d := 0) (S := 0) (W := 0) g1 g2 g3 g4).tab)) (T' := (un.PB x y 0 0 0 0 rv0)) (K := K_top0) (m := 5000) (n := 2) un.mixed (@K_top0_ok ((RL (x := x) (y := y) (q := q) (s := 0) (d := 0) (S := 0) (W := 0) g1 g2 g3 g4).tab)) (C := ⟨20000, 20040, ofPairs rlB, ipB⟩) (rl := rlB) (vp := [(17799, .cells 2 true [] (T.ofList 0 .leaf [(oN 0), (oN 2)]), 0), (17800, .cells 2 true [] (T.ofList 0 .leaf [bF, bF]), 1), (17798, .cells 7 true [] (T.ofList 0 .leaf [z0, z0, z0, z0, z2, (iN 3), z0]), 2), (17803, .cells 1 true [] (T.ofList 0 .leaf [(pN 17801)]), 3)]) (fs := un.fsR) (bs := bsB)
    hbU (by decide) rfl (by kernel_rfl) hip hvp (glNone rfl rfl) (by as_aux_lemma => kernel_rfl) s fun a' w' s' => ?_
  rw [bqB] at s'
  rw [restR]
  have kb := un.kN_bd l n
  refine wp_seq (wp_block (wp_mono (wp_loop_rounds _ (un.runS (Q := Qa (x := x) (y := y) (q := q) g1 g2 g3 g4 B w0 μ) (j := 0 + 1) n l (by omega) (by omega) (by omega) hbU hM hn hl s' (fun h u lu r' wd' c0' a2 w2 f1 f2 f3 f4 f5 q => ?_) (fun h u lu res r' wd' c0' a2 w2 f1 f2 f3 f4 f5 f6 q => ?_) (fun h u lu res r' wd' c0' a2 w2 f1 f2 f3 f4 f5 f6 q => ?_))) ?_))
  · exact goQA g1 g2 g3 g4 (by omega) (by omega) (by omega) (by omega) (by omega) (by omega) (by omega) (by omega) (by omega) (by omega) (by omega) hb q
  · exact absurd (And.intro (by omega) (by omega)) hc
  · exact absurd (And.intro (by omega) (by omega)) hc
  · rintro e2 a2 w2 ⟨rfl, s2⟩
    exact taila g1 g2 g3 g4 hb s2
end
end Go.Proofs.YtfkfmjlppllfoaaGreatDoor.uc
