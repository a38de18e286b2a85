/-
  The call of Run in the law TopFib.
-/
import Derived.Test.YtfkfmjlppllfoaaGreatDoorFBT
import Derived.Test.YtfkfmjlppllfoaaGreatDoorFQT0
import Derived.Test.YtfkfmjlppllfoaaGreatDoorXN3
set_option linter.unusedSectionVars false
set_option linter.unusedVariables false
set_option maxRecDepth 1000000
set_option maxHeartbeats 0
namespace Go.Proofs.YtfkfmjlppllfoaaGreatDoor.fc
open Go.X Go.RowKit Go.Proofs.YtfkfmjlppllfoaaGreatDoor.fq
noncomputable abbrev rv0 : Nat → Value := fun _ => .nilIface
theorem hOf_congr {N : Nat} {a b : BS} (h : bsOf a = bsOf b) : hOf N a = hOf N b := by unfold hOf; rw [h]
theorem hIn_next {N : Nat} {bs : BL} : (hIn N bs).next = N := by unfold hIn; rw [fT_eq]
theorem restR : restn 2 fb.fullR = .seq (.block 0 (.loop fb.la)) fb.tl := by kernel_rfl
theorem baseUp {B : Kp} {μ : M} {n m : Nat} (h : Base B μ n) (hn : n ≤ m) : Base B μ m := ⟨fun x l e => Nat.lt_of_lt_of_le (h.names x l e) hn, fun x e => Nat.lt_of_lt_of_le (h.res x e) hn⟩
theorem bodyR : Tryz.f47.body = some fb.fullR := by kernel_rfl
noncomputable abbrev nt : Nat := Tryz.f47.ntmps
abbrev ivT (x : Int) (r1 : Int) (q : Int) (s : Nat) (d : Nat) : Nat → IntKind × Int
  | 0 => (.i64, x)
  | 1 => (.i32, x)
  | 2 => (.i64, r1)
  | 3 => (.i64, q)
  | _ => (.i64, 0)
abbrev vvT (s d : Nat) : Nat → Nat → Option AV
  | _ => fun _ => none
abbrev vkT (s d : Nat) : Nat → Nat
  | _ => 0
theorem vpT (s d : Nat) : ∀ i m a, vvT s d i m = some a → vplain a = true
  | _, _, _, h => (by cases h)
abbrev PT (x : Int) (r1 : Int) (q : Int) (s : Nat) (d : Nat) (rv : Nat → Value) : Tab := ((bare (ivT x r1 q s d) (vvT s d) (vkT s d) (vpT s d)).rtab rv)
theorem ibL {x : Int} {r1 : Int} {q : Int} {s : Nat} {d : Nat} (g1 : 2 ≤ x) (g2 : x < 15) : ∀ x_ ∈ ([] : List BRow), IbOk (ivT x r1 q s d) x_ := by
  letI := Tab.empty
  exact ibNil
theorem icL {x : Int} {r1 : Int} {q : Int} {s : Nat} {d : Nat} (g1 : 2 ≤ x) (g2 : x < 15) : ∀ x_ ∈ ([(.i32, .oi 0, .oi 1), (.i64, .oi 1, .oi 0)] : List (IntKind × AV × AV)), IcOk' (ivT x r1 q s d) x_ := (icCons (ic32 (n := (x)) rfl rfl (by omega) (by omega)) (icCons (ic64 (n := (x)) rfl rfl (by omega) (by omega)) icNil))
theorem vlL {x : Int} {r1 : Int} {q : Int} {s : Nat} {d : Nat} (g1 : 2 ≤ x) (g2 : x < 15) : ∀ x_ ∈ ([] : List VL), VlOk (ivT x r1 q s d) (vvT s d) x_ :=
  allNil
theorem vsL {x : Int} {r1 : Int} {q : Int} {s : Nat} {d : Nat} (g1 : 2 ≤ x) (g2 : x < 15) : ∀ x_ ∈ ([] : List VS), VsOk (ivT x r1 q s d) (vvT s d) (vkT s d) x_ :=
  allNil
theorem vaL {x : Int} {r1 : Int} {q : Int} {s : Nat} {d : Nat} (g1 : 2 ≤ x) (g2 : x < 15) : ∀ x_ ∈ ([] : List VA), VaOk (ivT x r1 q s d) (vvT s d) (vkT s d) x_ :=
  allNil
abbrev RL {x : Int} {r1 : Int} {q : Int} {s : Nat} {d : Nat} (g1 : 2 ≤ x) (g2 : x < 15) : VRows (ivT x r1 q s d) (vvT s d) (vkT s d) where
  vvp := vpT s d
  ib := []
  ibok := ibL g1 g2
  ic := [(.i32, .oi 0, .oi 1), (.i64, .oi 1, .oi 0)]
  icok := icL g1 g2
  vl := []
  vlok := vlL g1 g2
  vs := []
  vsok := vsL g1 g2
  va := []
  vaok := vaL g1 g2
  vc := []
  vcok := allNil
theorem ibL2 {x : Int} {r1 : Int} {q : Int} {s : Nat} {d : Nat} (hx : x = 2) (hr : r1 = 1) : ∀ x_ ∈ ([(11, .int .i64 0, .oi 0, .bool true), (11, .int .i64 1, .oi 0, .bool true), (11, .int .i64 2, .oi 0, .bool false), (9, .oi 2, .int .i64 1, .bool true)] : List BRow), IbOk (ivT x r1 q s d) x_ := by
  letI := Tab.empty
  exact (ibCons (ibLt (a := (0)) (b := (x)) rfl rfl (decide_eq_true (by omega)))
    (ibCons (ibLt (a := (1)) (b := (x)) rfl rfl (decide_eq_true (by omega)))
    (ibCons (ibLt (a := (2)) (b := (x)) rfl rfl (decide_eq_false (by omega)))
    (ibCons (ibEq (a := (r1)) (b := (1)) rfl rfl (decide_eq_true (by omega)))
    ibNil))))
theorem icL2 {x : Int} {r1 : Int} {q : Int} {s : Nat} {d : Nat} (hx : x = 2) (hr : r1 = 1) : ∀ x_ ∈ ([(.i32, .oi 0, .oi 1), (.i64, .oi 1, .oi 0)] : List (IntKind × AV × AV)), IcOk' (ivT x r1 q s d) x_ := (icCons (ic32 (n := (x)) rfl rfl (by omega) (by omega)) (icCons (ic64 (n := (x)) rfl rfl (by omega) (by omega)) icNil))
theorem vlL2 {x : Int} {r1 : Int} {q : Int} {s : Nat} {d : Nat} (hx : x = 2) (hr : r1 = 1) : ∀ x_ ∈ ([] : List VL), VlOk (ivT x r1 q s d) (vvT s d) x_ :=
  allNil
theorem vsL2 {x : Int} {r1 : Int} {q : Int} {s : Nat} {d : Nat} (hx : x = 2) (hr : r1 = 1) : ∀ x_ ∈ ([] : List VS), VsOk (ivT x r1 q s d) (vvT s d) (vkT s d) x_ :=
  allNil
theorem vaL2 {x : Int} {r1 : Int} {q : Int} {s : Nat} {d : Nat} (hx : x = 2) (hr : r1 = 1) : ∀ x_ ∈ ([] : List VA), VaOk (ivT x r1 q s d) (vvT s d) (vkT s d) x_ :=
  allNil
abbrev RL2 {x : Int} {r1 : Int} {q : Int} {s : Nat} {d : Nat} (hx : x = 2) (hr : r1 = 1) : VRows (ivT x r1 q s d) (vvT s d) (vkT s d) where
  vvp := vpT s d
  ib := [(11, .int .i64 0, .oi 0, .bool true), (11, .int .i64 1, .oi 0, .bool true), (11, .int .i64 2, .oi 0, .bool false), (9, .oi 2, .int .i64 1, .bool true)]
  ibok := ibL2 hx hr
  ic := [(.i32, .oi 0, .oi 1), (.i64, .oi 1, .oi 0)]
  icok := icL2 hx hr
  vl := []
  vlok := vlL2 hx hr
  vs := []
  vsok := vsL2 hx hr
  va := []
  vaok := vaL2 hx hr
  vc := []
  vcok := allNil
theorem ibL3 {x : Int} {r1 : Int} {q : Int} {s : Nat} {d : Nat} (hx : x = 3) (hr : r1 = 2) : ∀ x_ ∈ ([(11, .int .i64 0, .oi 0, .bool true), (11, .int .i64 1, .oi 0, .bool true), (11, .int .i64 2, .oi 0, .bool true), (11, .int .i64 3, .oi 0, .bool false), (9, .oi 2, .int .i64 2, .bool true)] : List BRow), IbOk (ivT x r1 q s d) x_ := by
  letI := Tab.empty
  exact (ibCons (ibLt (a := (0)) (b := (x)) rfl rfl (decide_eq_true (by omega)))
    (ibCons (ibLt (a := (1)) (b := (x)) rfl rfl (decide_eq_true (by omega)))
    (ibCons (ibLt (a := (2)) (b := (x)) rfl rfl (decide_eq_true (by omega)))
    (ibCons (ibLt (a := (3)) (b := (x)) rfl rfl (decide_eq_false (by omega)))
    (ibCons (ibEq (a := (r1)) (b := (2)) rfl rfl (decide_eq_true (by omega)))
    ibNil)))))
theorem icL3 {x : Int} {r1 : Int} {q : Int} {s : Nat} {d : Nat} (hx : x = 3) (hr : r1 = 2) : ∀ x_ ∈ ([(.i32, .oi 0, .oi 1), (.i64, .oi 1, .oi 0)] : List (IntKind × AV × AV)), IcOk' (ivT x r1 q s d) x_ := (icCons (ic32 (n := (x)) rfl rfl (by omega) (by omega)) (icCons (ic64 (n := (x)) rfl rfl (by omega) (by omega)) icNil))
theorem vlL3 {x : Int} {r1 : Int} {q : Int} {s : Nat} {d : Nat} (hx : x = 3) (hr : r1 = 2) : ∀ x_ ∈ ([] : List VL), VlOk (ivT x r1 q s d) (vvT s d) x_ :=
  allNil
theorem vsL3 {x : Int} {r1 : Int} {q : Int} {s : Nat} {d : Nat} (hx : x = 3) (hr : r1 = 2) : ∀ x_ ∈ ([] : List VS), VsOk (ivT x r1 q s d) (vvT s d) (vkT s d) x_ :=
  allNil
theorem vaL3 {x : Int} {r1 : Int} {q : Int} {s : Nat} {d : Nat} (hx : x = 3) (hr : r1 = 2) : ∀ x_ ∈ ([] : List VA), VaOk (ivT x r1 q s d) (vvT s d) (vkT s d) x_ :=
  allNil
abbrev RL3 {x : Int} {r1 : Int} {q : Int} {s : Nat} {d : Nat} (hx : x = 3) (hr : r1 = 2) : VRows (ivT x r1 q s d) (vvT s d) (vkT s d) where
  vvp := vpT s d
  ib := [(11, .int .i64 0, .oi 0, .bool true), (11, .int .i64 1, .oi 0, .bool true), (11, .int .i64 2, .oi 0, .bool true), (11, .int .i64 3, .oi 0, .bool false), (9, .oi 2, .int .i64 2, .bool true)]
  ibok := ibL3 hx hr
  ic := [(.i32, .oi 0, .oi 1), (.i64, .oi 1, .oi 0)]
  icok := icL3 hx hr
  vl := []
  vlok := vlL3 hx hr
  vs := []
  vsok := vsL3 hx hr
  va := []
  vaok := vaL3 hx hr
  vc := []
  vcok := allNil
theorem ibL4 {x : Int} {r1 : Int} {q : Int} {s : Nat} {d : Nat} (hx : x = 4) (hr : r1 = 3) : ∀ x_ ∈ ([(11, .int .i64 0, .oi 0, .bool true), (11, .int .i64 1, .oi 0, .bool true), (11, .int .i64 2, .oi 0, .bool true), (11, .int .i64 3, .oi 0, .bool true), (11, .int .i64 4, .oi 0, .bool false), (9, .oi 2, .int .i64 3, .bool true)] : List BRow), IbOk (ivT x r1 q s d) x_ := by
  letI := Tab.empty
  exact (ibCons (ibLt (a := (0)) (b := (x)) rfl rfl (decide_eq_true (by omega)))
    (ibCons (ibLt (a := (1)) (b := (x)) rfl rfl (decide_eq_true (by omega)))
    (ibCons (ibLt (a := (2)) (b := (x)) rfl rfl (decide_eq_true (by omega)))
    (ibCons (ibLt (a := (3)) (b := (x)) rfl rfl (decide_eq_true (by omega)))
    (ibCons (ibLt (a := (4)) (b := (x)) rfl rfl (decide_eq_false (by omega)))
    (ibCons (ibEq (a := (r1)) (b := (3)) rfl rfl (decide_eq_true (by omega)))
    ibNil))))))
theorem icL4 {x : Int} {r1 : Int} {q : Int} {s : Nat} {d : Nat} (hx : x = 4) (hr : r1 = 3) : ∀ x_ ∈ ([(.i32, .oi 0, .oi 1), (.i64, .oi 1, .oi 0)] : List (IntKind × AV × AV)), IcOk' (ivT x r1 q s d) x_ := (icCons (ic32 (n := (x)) rfl rfl (by omega) (by omega)) (icCons (ic64 (n := (x)) rfl rfl (by omega) (by omega)) icNil))
theorem vlL4 {x : Int} {r1 : Int} {q : Int} {s : Nat} {d : Nat} (hx : x = 4) (hr : r1 = 3) : ∀ x_ ∈ ([] : List VL), VlOk (ivT x r1 q s d) (vvT s d) x_ :=
  allNil
theorem vsL4 {x : Int} {r1 : Int} {q : Int} {s : Nat} {d : Nat} (hx : x = 4) (hr : r1 = 3) : ∀ x_ ∈ ([] : List VS), VsOk (ivT x r1 q s d) (vvT s d) (vkT s d) x_ :=
  allNil
theorem vaL4 {x : Int} {r1 : Int} {q : Int} {s : Nat} {d : Nat} (hx : x = 4) (hr : r1 = 3) : ∀ x_ ∈ ([] : List VA), VaOk (ivT x r1 q s d) (vvT s d) (vkT s d) x_ :=
  allNil
abbrev RL4 {x : Int} {r1 : Int} {q : Int} {s : Nat} {d : Nat} (hx : x = 4) (hr : r1 = 3) : VRows (ivT x r1 q s d) (vvT s d) (vkT s d) where
  vvp := vpT s d
  ib := [(11, .int .i64 0, .oi 0, .bool true), (11, .int .i64 1, .oi 0, .bool true), (11, .int .i64 2, .oi 0, .bool true), (11, .int .i64 3, .oi 0, .bool true), (11, .int .i64 4, .oi 0, .bool false), (9, .oi 2, .int .i64 3, .bool true)]
  ibok := ibL4 hx hr
  ic := [(.i32, .oi 0, .oi 1), (.i64, .oi 1, .oi 0)]
  icok := icL4 hx hr
  vl := []
  vlok := vlL4 hx hr
  vs := []
  vsok := vsL4 hx hr
  va := []
  vaok := vaL4 hx hr
  vc := []
  vcok := allNil
theorem ibL5 {x : Int} {r1 : Int} {q : Int} {s : Nat} {d : Nat} (hx : x = 5) (hr : r1 = 5) : ∀ x_ ∈ ([(11, .int .i64 0, .oi 0, .bool true), (11, .int .i64 1, .oi 0, .bool true), (11, .int .i64 2, .oi 0, .bool true), (11, .int .i64 3, .oi 0, .bool true), (11, .int .i64 4, .oi 0, .bool true), (11, .int .i64 5, .oi 0, .bool false), (9, .oi 2, .int .i64 5, .bool true)] : List BRow), IbOk (ivT x r1 q s d) x_ := by
  letI := Tab.empty
  exact (ibCons (ibLt (a := (0)) (b := (x)) rfl rfl (decide_eq_true (by omega)))
    (ibCons (ibLt (a := (1)) (b := (x)) rfl rfl (decide_eq_true (by omega)))
    (ibCons (ibLt (a := (2)) (b := (x)) rfl rfl (decide_eq_true (by omega)))
    (ibCons (ibLt (a := (3)) (b := (x)) rfl rfl (decide_eq_true (by omega)))
    (ibCons (ibLt (a := (4)) (b := (x)) rfl rfl (decide_eq_true (by omega)))
    (ibCons (ibLt (a := (5)) (b := (x)) rfl rfl (decide_eq_false (by omega)))
    (ibCons (ibEq (a := (r1)) (b := (5)) rfl rfl (decide_eq_true (by omega)))
    ibNil)))))))
theorem icL5 {x : Int} {r1 : Int} {q : Int} {s : Nat} {d : Nat} (hx : x = 5) (hr : r1 = 5) : ∀ x_ ∈ ([(.i32, .oi 0, .oi 1), (.i64, .oi 1, .oi 0)] : List (IntKind × AV × AV)), IcOk' (ivT x r1 q s d) x_ := (icCons (ic32 (n := (x)) rfl rfl (by omega) (by omega)) (icCons (ic64 (n := (x)) rfl rfl (by omega) (by omega)) icNil))
theorem vlL5 {x : Int} {r1 : Int} {q : Int} {s : Nat} {d : Nat} (hx : x = 5) (hr : r1 = 5) : ∀ x_ ∈ ([] : List VL), VlOk (ivT x r1 q s d) (vvT s d) x_ :=
  allNil
theorem vsL5 {x : Int} {r1 : Int} {q : Int} {s : Nat} {d : Nat} (hx : x = 5) (hr : r1 = 5) : ∀ x_ ∈ ([] : List VS), VsOk (ivT x r1 q s d) (vvT s d) (vkT s d) x_ :=
  allNil
theorem vaL5 {x : Int} {r1 : Int} {q : Int} {s : Nat} {d : Nat} (hx : x = 5) (hr : r1 = 5) : ∀ x_ ∈ ([] : List VA), VaOk (ivT x r1 q s d) (vvT s d) (vkT s d) x_ :=
  allNil
abbrev RL5 {x : Int} {r1 : Int} {q : Int} {s : Nat} {d : Nat} (hx : x = 5) (hr : r1 = 5) : VRows (ivT x r1 q s d) (vvT s d) (vkT s d) where
  vvp := vpT s d
  ib := [(11, .int .i64 0, .oi 0, .bool true), (11, .int .i64 1, .oi 0, .bool true), (11, .int .i64 2, .oi 0, .bool true), (11, .int .i64 3, .oi 0, .bool true), (11, .int .i64 4, .oi 0, .bool true), (11, .int .i64 5, .oi 0, .bool false), (9, .oi 2, .int .i64 5, .bool true)]
  ibok := ibL5 hx hr
  ic := [(.i32, .oi 0, .oi 1), (.i64, .oi 1, .oi 0)]
  icok := icL5 hx hr
  vl := []
  vlok := vlL5 hx hr
  vs := []
  vsok := vsL5 hx hr
  va := []
  vaok := vaL5 hx hr
  vc := []
  vcok := allNil
theorem ibL6 {x : Int} {r1 : Int} {q : Int} {s : Nat} {d : Nat} (hx : x = 6) (hr : r1 = 8) : ∀ x_ ∈ ([(11, .int .i64 0, .oi 0, .bool true), (11, .int .i64 1, .oi 0, .bool true), (11, .int .i64 2, .oi 0, .bool true), (11, .int .i64 3, .oi 0, .bool true), (11, .int .i64 4, .oi 0, .bool true), (11, .int .i64 5, .oi 0, .bool true), (11, .int .i64 6, .oi 0, .bool false), (9, .oi 2, .int .i64 8, .bool true)] : List BRow), IbOk (ivT x r1 q s d) x_ := by
  letI := Tab.empty
  exact (ibCons (ibLt (a := (0)) (b := (x)) rfl rfl (decide_eq_true (by omega)))
    (ibCons (ibLt (a := (1)) (b := (x)) rfl rfl (decide_eq_true (by omega)))
    (ibCons (ibLt (a := (2)) (b := (x)) rfl rfl (decide_eq_true (by omega)))
    (ibCons (ibLt (a := (3)) (b := (x)) rfl rfl (decide_eq_true (by omega)))
    (ibCons (ibLt (a := (4)) (b := (x)) rfl rfl (decide_eq_true (by omega)))
    (ibCons (ibLt (a := (5)) (b := (x)) rfl rfl (decide_eq_true (by omega)))
    (ibCons (ibLt (a := (6)) (b := (x)) rfl rfl (decide_eq_false (by omega)))
    (ibCons (ibEq (a := (r1)) (b := (8)) rfl rfl (decide_eq_true (by omega)))
    ibNil))))))))
theorem icL6 {x : Int} {r1 : Int} {q : Int} {s : Nat} {d : Nat} (hx : x = 6) (hr : r1 = 8) : ∀ x_ ∈ ([(.i32, .oi 0, .oi 1), (.i64, .oi 1, .oi 0)] : List (IntKind × AV × AV)), IcOk' (ivT x r1 q s d) x_ := (icCons (ic32 (n := (x)) rfl rfl (by omega) (by omega)) (icCons (ic64 (n := (x)) rfl rfl (by omega) (by omega)) icNil))
theorem vlL6 {x : Int} {r1 : Int} {q : Int} {s : Nat} {d : Nat} (hx : x = 6) (hr : r1 = 8) : ∀ x_ ∈ ([] : List VL), VlOk (ivT x r1 q s d) (vvT s d) x_ :=
  allNil
theorem vsL6 {x : Int} {r1 : Int} {q : Int} {s : Nat} {d : Nat} (hx : x = 6) (hr : r1 = 8) : ∀ x_ ∈ ([] : List VS), VsOk (ivT x r1 q s d) (vvT s d) (vkT s d) x_ :=
  allNil
theorem vaL6 {x : Int} {r1 : Int} {q : Int} {s : Nat} {d : Nat} (hx : x = 6) (hr : r1 = 8) : ∀ x_ ∈ ([] : List VA), VaOk (ivT x r1 q s d) (vvT s d) (vkT s d) x_ :=
  allNil
abbrev RL6 {x : Int} {r1 : Int} {q : Int} {s : Nat} {d : Nat} (hx : x = 6) (hr : r1 = 8) : VRows (ivT x r1 q s d) (vvT s d) (vkT s d) where
  vvp := vpT s d
  ib := [(11, .int .i64 0, .oi 0, .bool true), (11, .int .i64 1, .oi 0, .bool true), (11, .int .i64 2, .oi 0, .bool true), (11, .int .i64 3, .oi 0, .bool true), (11, .int .i64 4, .oi 0, .bool true), (11, .int .i64 5, .oi 0, .bool true), (11, .int .i64 6, .oi 0, .bool false), (9, .oi 2, .int .i64 8, .bool true)]
  ibok := ibL6 hx hr
  ic := [(.i32, .oi 0, .oi 1), (.i64, .oi 1, .oi 0)]
  icok := icL6 hx hr
  vl := []
  vlok := vlL6 hx hr
  vs := []
  vsok := vsL6 hx hr
  va := []
  vaok := vaL6 hx hr
  vc := []
  vcok := allNil
theorem ibL7 {x : Int} {r1 : Int} {q : Int} {s : Nat} {d : Nat} (hx : x = 7) (hr : r1 = 13) : ∀ x_ ∈ ([(11, .int .i64 0, .oi 0, .bool true), (11, .int .i64 1, .oi 0, .bool true), (11, .int .i64 2, .oi 0, .bool true), (11, .int .i64 3, .oi 0, .bool true), (11, .int .i64 4, .oi 0, .bool true), (11, .int .i64 5, .oi 0, .bool true), (11, .int .i64 6, .oi 0, .bool true), (11, .int .i64 7, .oi 0, .bool false), (9, .oi 2, .int .i64 13, .bool true)] : List BRow), IbOk (ivT x r1 q s d) x_ := by
  letI := Tab.empty
  exact (ibCons (ibLt (a := (0)) (b := (x)) rfl rfl (decide_eq_true (by omega)))
    (ibCons (ibLt (a := (1)) (b := (x)) rfl rfl (decide_eq_true (by omega)))
    (ibCons (ibLt (a := (2)) (b := (x)) rfl rfl (decide_eq_true (by omega)))
    (ibCons (ibLt (a := (3)) (b := (x)) rfl rfl (decide_eq_true (by omega)))
    (ibCons (ibLt (a := (4)) (b := (x)) rfl rfl (decide_eq_true (by omega)))
    (ibCons (ibLt (a := (5)) (b := (x)) rfl rfl (decide_eq_true (by omega)))
    (ibCons (ibLt (a := (6)) (b := (x)) rfl rfl (decide_eq_true (by omega)))
    (ibCons (ibLt (a := (7)) (b := (x)) rfl rfl (decide_eq_false (by omega)))
    (ibCons (ibEq (a := (r1)) (b := (13)) rfl rfl (decide_eq_true (by omega)))
    ibNil)))))))))
theorem icL7 {x : Int} {r1 : Int} {q : Int} {s : Nat} {d : Nat} (hx : x = 7) (hr : r1 = 13) : ∀ x_ ∈ ([(.i32, .oi 0, .oi 1), (.i64, .oi 1, .oi 0)] : List (IntKind × AV × AV)), IcOk' (ivT x r1 q s d) x_ := (icCons (ic32 (n := (x)) rfl rfl (by omega) (by omega)) (icCons (ic64 (n := (x)) rfl rfl (by omega) (by omega)) icNil))
theorem vlL7 {x : Int} {r1 : Int} {q : Int} {s : Nat} {d : Nat} (hx : x = 7) (hr : r1 = 13) : ∀ x_ ∈ ([] : List VL), VlOk (ivT x r1 q s d) (vvT s d) x_ :=
  allNil
theorem vsL7 {x : Int} {r1 : Int} {q : Int} {s : Nat} {d : Nat} (hx : x = 7) (hr : r1 = 13) : ∀ x_ ∈ ([] : List VS), VsOk (ivT x r1 q s d) (vvT s d) (vkT s d) x_ :=
  allNil
theorem vaL7 {x : Int} {r1 : Int} {q : Int} {s : Nat} {d : Nat} (hx : x = 7) (hr : r1 = 13) : ∀ x_ ∈ ([] : List VA), VaOk (ivT x r1 q s d) (vvT s d) (vkT s d) x_ :=
  allNil
abbrev RL7 {x : Int} {r1 : Int} {q : Int} {s : Nat} {d : Nat} (hx : x = 7) (hr : r1 = 13) : VRows (ivT x r1 q s d) (vvT s d) (vkT s d) where
  vvp := vpT s d
  ib := [(11, .int .i64 0, .oi 0, .bool true), (11, .int .i64 1, .oi 0, .bool true), (11, .int .i64 2, .oi 0, .bool true), (11, .int .i64 3, .oi 0, .bool true), (11, .int .i64 4, .oi 0, .bool true), (11, .int .i64 5, .oi 0, .bool true), (11, .int .i64 6, .oi 0, .bool true), (11, .int .i64 7, .oi 0, .bool false), (9, .oi 2, .int .i64 13, .bool true)]
  ibok := ibL7 hx hr
  ic := [(.i32, .oi 0, .oi 1), (.i64, .oi 1, .oi 0)]
  icok := icL7 hx hr
  vl := []
  vlok := vlL7 hx hr
  vs := []
  vsok := vsL7 hx hr
  va := []
  vaok := vaL7 hx hr
  vc := []
  vcok := allNil
theorem ibL8 {x : Int} {r1 : Int} {q : Int} {s : Nat} {d : Nat} (hx : x = 8) (hr : r1 = 21) : ∀ x_ ∈ ([(11, .int .i64 0, .oi 0, .bool true), (11, .int .i64 1, .oi 0, .bool true), (11, .int .i64 2, .oi 0, .bool true), (11, .int .i64 3, .oi 0, .bool true), (11, .int .i64 4, .oi 0, .bool true), (11, .int .i64 5, .oi 0, .bool true), (11, .int .i64 6, .oi 0, .bool true), (11, .int .i64 7, .oi 0, .bool true), (11, .int .i64 8, .oi 0, .bool false), (9, .oi 2, .int .i64 21, .bool true)] : List BRow), IbOk (ivT x r1 q s d) x_ := by
  letI := Tab.empty
  exact (ibCons (ibLt (a := (0)) (b := (x)) rfl rfl (decide_eq_true (by omega)))
    (ibCons (ibLt (a := (1)) (b := (x)) rfl rfl (decide_eq_true (by omega)))
    (ibCons (ibLt (a := (2)) (b := (x)) rfl rfl (decide_eq_true (by omega)))
    (ibCons (ibLt (a := (3)) (b := (x)) rfl rfl (decide_eq_true (by omega)))
    (ibCons (ibLt (a := (4)) (b := (x)) rfl rfl (decide_eq_true (by omega)))
    (ibCons (ibLt (a := (5)) (b := (x)) rfl rfl (decide_eq_true (by omega)))
    (ibCons (ibLt (a := (6)) (b := (x)) rfl rfl (decide_eq_true (by omega)))
    (ibCons (ibLt (a := (7)) (b := (x)) rfl rfl (decide_eq_true (by omega)))
    (ibCons (ibLt (a := (8)) (b := (x)) rfl rfl (decide_eq_false (by omega)))
    (ibCons (ibEq (a := (r1)) (b := (21)) rfl rfl (decide_eq_true (by omega)))
    ibNil))))))))))
theorem icL8 {x : Int} {r1 : Int} {q : Int} {s : Nat} {d : Nat} (hx : x = 8) (hr : r1 = 21) : ∀ x_ ∈ ([(.i32, .oi 0, .oi 1), (.i64, .oi 1, .oi 0)] : List (IntKind × AV × AV)), IcOk' (ivT x r1 q s d) x_ := (icCons (ic32 (n := (x)) rfl rfl (by omega) (by omega)) (icCons (ic64 (n := (x)) rfl rfl (by omega) (by omega)) icNil))
theorem vlL8 {x : Int} {r1 : Int} {q : Int} {s : Nat} {d : Nat} (hx : x = 8) (hr : r1 = 21) : ∀ x_ ∈ ([] : List VL), VlOk (ivT x r1 q s d) (vvT s d) x_ :=
  allNil
theorem vsL8 {x : Int} {r1 : Int} {q : Int} {s : Nat} {d : Nat} (hx : x = 8) (hr : r1 = 21) : ∀ x_ ∈ ([] : List VS), VsOk (ivT x r1 q s d) (vvT s d) (vkT s d) x_ :=
  allNil
theorem vaL8 {x : Int} {r1 : Int} {q : Int} {s : Nat} {d : Nat} (hx : x = 8) (hr : r1 = 21) : ∀ x_ ∈ ([] : List VA), VaOk (ivT x r1 q s d) (vvT s d) (vkT s d) x_ :=
  allNil
abbrev RL8 {x : Int} {r1 : Int} {q : Int} {s : Nat} {d : Nat} (hx : x = 8) (hr : r1 = 21) : VRows (ivT x r1 q s d) (vvT s d) (vkT s d) where
  vvp := vpT s d
  ib := [(11, .int .i64 0, .oi 0, .bool true), (11, .int .i64 1, .oi 0, .bool true), (11, .int .i64 2, .oi 0, .bool true), (11, .int .i64 3, .oi 0, .bool true), (11, .int .i64 4, .oi 0, .bool true), (11, .int .i64 5, .oi 0, .bool true), (11, .int .i64 6, .oi 0, .bool true), (11, .int .i64 7, .oi 0, .bool true), (11, .int .i64 8, .oi 0, .bool false), (9, .oi 2, .int .i64 21, .bool true)]
  ibok := ibL8 hx hr
  ic := [(.i32, .oi 0, .oi 1), (.i64, .oi 1, .oi 0)]
  icok := icL8 hx hr
  vl := []
  vlok := vlL8 hx hr
  vs := []
  vsok := vsL8 hx hr
  va := []
  vaok := vaL8 hx hr
  vc := []
  vcok := allNil
theorem ibL9 {x : Int} {r1 : Int} {q : Int} {s : Nat} {d : Nat} (hx : x = 9) (hr : r1 = 34) : ∀ x_ ∈ ([(11, .int .i64 0, .oi 0, .bool true), (11, .int .i64 1, .oi 0, .bool true), (11, .int .i64 2, .oi 0, .bool true), (11, .int .i64 3, .oi 0, .bool true), (11, .int .i64 4, .oi 0, .bool true), (11, .int .i64 5, .oi 0, .bool true), (11, .int .i64 6, .oi 0, .bool true), (11, .int .i64 7, .oi 0, .bool true), (11, .int .i64 8, .oi 0, .bool true), (11, .int .i64 9, .oi 0, .bool false), (9, .oi 2, .int .i64 34, .bool true)] : List BRow), IbOk (ivT x r1 q s d) x_ := by
  letI := Tab.empty
  exact (ibCons (ibLt (a := (0)) (b := (x)) rfl rfl (decide_eq_true (by omega)))
    (ibCons (ibLt (a := (1)) (b := (x)) rfl rfl (decide_eq_true (by omega)))
    (ibCons (ibLt (a := (2)) (b := (x)) rfl rfl (decide_eq_true (by omega)))
    (ibCons (ibLt (a := (3)) (b := (x)) rfl rfl (decide_eq_true (by omega)))
    (ibCons (ibLt (a := (4)) (b := (x)) rfl rfl (decide_eq_true (by omega)))
    (ibCons (ibLt (a := (5)) (b := (x)) rfl rfl (decide_eq_true (by omega)))
    (ibCons (ibLt (a := (6)) (b := (x)) rfl rfl (decide_eq_true (by omega)))
    (ibCons (ibLt (a := (7)) (b := (x)) rfl rfl (decide_eq_true (by omega)))
    (ibCons (ibLt (a := (8)) (b := (x)) rfl rfl (decide_eq_true (by omega)))
    (ibCons (ibLt (a := (9)) (b := (x)) rfl rfl (decide_eq_false (by omega)))
    (ibCons (ibEq (a := (r1)) (b := (34)) rfl rfl (decide_eq_true (by omega)))
    ibNil)))))))))))
theorem icL9 {x : Int} {r1 : Int} {q : Int} {s : Nat} {d : Nat} (hx : x = 9) (hr : r1 = 34) : ∀ x_ ∈ ([(.i32, .oi 0, .oi 1), (.i64, .oi 1, .oi 0)] : List (IntKind × AV × AV)), IcOk' (ivT x r1 q s d) x_ := (icCons (ic32 (n := (x)) rfl rfl (by omega) (by omega)) (icCons (ic64 (n := (x)) rfl rfl (by omega) (by omega)) icNil))
theorem vlL9 {x : Int} {r1 : Int} {q : Int} {s : Nat} {d : Nat} (hx : x = 9) (hr : r1 = 34) : ∀ x_ ∈ ([] : List VL), VlOk (ivT x r1 q s d) (vvT s d) x_ :=
  allNil
theorem vsL9 {x : Int} {r1 : Int} {q : Int} {s : Nat} {d : Nat} (hx : x = 9) (hr : r1 = 34) : ∀ x_ ∈ ([] : List VS), VsOk (ivT x r1 q s d) (vvT s d) (vkT s d) x_ :=
  allNil
theorem vaL9 {x : Int} {r1 : Int} {q : Int} {s : Nat} {d : Nat} (hx : x = 9) (hr : r1 = 34) : ∀ x_ ∈ ([] : List VA), VaOk (ivT x r1 q s d) (vvT s d) (vkT s d) x_ :=
  allNil
abbrev RL9 {x : Int} {r1 : Int} {q : Int} {s : Nat} {d : Nat} (hx : x = 9) (hr : r1 = 34) : VRows (ivT x r1 q s d) (vvT s d) (vkT s d) where
  vvp := vpT s d
  ib := [(11, .int .i64 0, .oi 0, .bool true), (11, .int .i64 1, .oi 0, .bool true), (11, .int .i64 2, .oi 0, .bool true), (11, .int .i64 3, .oi 0, .bool true), (11, .int .i64 4, .oi 0, .bool true), (11, .int .i64 5, .oi 0, .bool true), (11, .int .i64 6, .oi 0, .bool true), (11, .int .i64 7, .oi 0, .bool true), (11, .int .i64 8, .oi 0, .bool true), (11, .int .i64 9, .oi 0, .bool false), (9, .oi 2, .int .i64 34, .bool true)]
  ibok := ibL9 hx hr
  ic := [(.i32, .oi 0, .oi 1), (.i64, .oi 1, .oi 0)]
  icok := icL9 hx hr
  vl := []
  vlok := vlL9 hx hr
  vs := []
  vsok := vsL9 hx hr
  va := []
  vaok := vaL9 hx hr
  vc := []
  vcok := allNil
theorem ibL10 {x : Int} {r1 : Int} {q : Int} {s : Nat} {d : Nat} (hx : x = 10) (hr : r1 = 55) : ∀ x_ ∈ ([(11, .int .i64 0, .oi 0, .bool true), (11, .int .i64 1, .oi 0, .bool true), (11, .int .i64 2, .oi 0, .bool true), (11, .int .i64 3, .oi 0, .bool true), (11, .int .i64 4, .oi 0, .bool true), (11, .int .i64 5, .oi 0, .bool true), (11, .int .i64 6, .oi 0, .bool true), (11, .int .i64 7, .oi 0, .bool true), (11, .int .i64 8, .oi 0, .bool true), (11, .int .i64 9, .oi 0, .bool true), (11, .int .i64 10, .oi 0, .bool false), (9, .oi 2, .int .i64 55, .bool true)] : List BRow), IbOk (ivT x r1 q s d) x_ := by
  letI := Tab.empty
  exact (ibCons (ibLt (a := (0)) (b := (x)) rfl rfl (decide_eq_true (by omega)))
    (ibCons (ibLt (a := (1)) (b := (x)) rfl rfl (decide_eq_true (by omega)))
    (ibCons (ibLt (a := (2)) (b := (x)) rfl rfl (decide_eq_true (by omega)))
    (ibCons (ibLt (a := (3)) (b := (x)) rfl rfl (decide_eq_true (by omega)))
    (ibCons (ibLt (a := (4)) (b := (x)) rfl rfl (decide_eq_true (by omega)))
    (ibCons (ibLt (a := (5)) (b := (x)) rfl rfl (decide_eq_true (by omega)))
    (ibCons (ibLt (a := (6)) (b := (x)) rfl rfl (decide_eq_true (by omega)))
    (ibCons (ibLt (a := (7)) (b := (x)) rfl rfl (decide_eq_true (by omega)))
    (ibCons (ibLt (a := (8)) (b := (x)) rfl rfl (decide_eq_true (by omega)))
    (ibCons (ibLt (a := (9)) (b := (x)) rfl rfl (decide_eq_true (by omega)))
    (ibCons (ibLt (a := (10)) (b := (x)) rfl rfl (decide_eq_false (by omega)))
    (ibCons (ibEq (a := (r1)) (b := (55)) rfl rfl (decide_eq_true (by omega)))
    ibNil))))))))))))
theorem icL10 {x : Int} {r1 : Int} {q : Int} {s : Nat} {d : Nat} (hx : x = 10) (hr : r1 = 55) : ∀ x_ ∈ ([(.i32, .oi 0, .oi 1), (.i64, .oi 1, .oi 0)] : List (IntKind × AV × AV)), IcOk' (ivT x r1 q s d) x_ := (icCons (ic32 (n := (x)) rfl rfl (by omega) (by omega)) (icCons (ic64 (n := (x)) rfl rfl (by omega) (by omega)) icNil))
theorem vlL10 {x : Int} {r1 : Int} {q : Int} {s : Nat} {d : Nat} (hx : x = 10) (hr : r1 = 55) : ∀ x_ ∈ ([] : List VL), VlOk (ivT x r1 q s d) (vvT s d) x_ :=
  allNil
theorem vsL10 {x : Int} {r1 : Int} {q : Int} {s : Nat} {d : Nat} (hx : x = 10) (hr : r1 = 55) : ∀ x_ ∈ ([] : List VS), VsOk (ivT x r1 q s d) (vvT s d) (vkT s d) x_ :=
  allNil
theorem vaL10 {x : Int} {r1 : Int} {q : Int} {s : Nat} {d : Nat} (hx : x = 10) (hr : r1 = 55) : ∀ x_ ∈ ([] : List VA), VaOk (ivT x r1 q s d) (vvT s d) (vkT s d) x_ :=
  allNil
abbrev RL10 {x : Int} {r1 : Int} {q : Int} {s : Nat} {d : Nat} (hx : x = 10) (hr : r1 = 55) : VRows (ivT x r1 q s d) (vvT s d) (vkT s d) where
  vvp := vpT s d
  ib := [(11, .int .i64 0, .oi 0, .bool true), (11, .int .i64 1, .oi 0, .bool true), (11, .int .i64 2, .oi 0, .bool true), (11, .int .i64 3, .oi 0, .bool true), (11, .int .i64 4, .oi 0, .bool true), (11, .int .i64 5, .oi 0, .bool true), (11, .int .i64 6, .oi 0, .bool true), (11, .int .i64 7, .oi 0, .bool true), (11, .int .i64 8, .oi 0, .bool true), (11, .int .i64 9, .oi 0, .bool true), (11, .int .i64 10, .oi 0, .bool false), (9, .oi 2, .int .i64 55, .bool true)]
  ibok := ibL10 hx hr
  ic := [(.i32, .oi 0, .oi 1), (.i64, .oi 1, .oi 0)]
  icok := icL10 hx hr
  vl := []
  vlok := vlL10 hx hr
  vs := []
  vsok := vsL10 hx hr
  va := []
  vaok := vaL10 hx hr
  vc := []
  vcok := allNil
theorem ibL11 {x : Int} {r1 : Int} {q : Int} {s : Nat} {d : Nat} (hx : x = 11) (hr : r1 = 89) : ∀ x_ ∈ ([(11, .int .i64 0, .oi 0, .bool true), (11, .int .i64 1, .oi 0, .bool true), (11, .int .i64 2, .oi 0, .bool true), (11, .int .i64 3, .oi 0, .bool true), (11, .int .i64 4, .oi 0, .bool true), (11, .int .i64 5, .oi 0, .bool true), (11, .int .i64 6, .oi 0, .bool true), (11, .int .i64 7, .oi 0, .bool true), (11, .int .i64 8, .oi 0, .bool true), (11, .int .i64 9, .oi 0, .bool true), (11, .int .i64 10, .oi 0, .bool true), (11, .int .i64 11, .oi 0, .bool false), (9, .oi 2, .int .i64 89, .bool true)] : List BRow), IbOk (ivT x r1 q s d) x_ := by
  letI := Tab.empty
  exact (ibCons (ibLt (a := (0)) (b := (x)) rfl rfl (decide_eq_true (by omega)))
    (ibCons (ibLt (a := (1)) (b := (x)) rfl rfl (decide_eq_true (by omega)))
    (ibCons (ibLt (a := (2)) (b := (x)) rfl rfl (decide_eq_true (by omega)))
    (ibCons (ibLt (a := (3)) (b := (x)) rfl rfl (decide_eq_true (by omega)))
    (ibCons (ibLt (a := (4)) (b := (x)) rfl rfl (decide_eq_true (by omega)))
    (ibCons (ibLt (a := (5)) (b := (x)) rfl rfl (decide_eq_true (by omega)))
    (ibCons (ibLt (a := (6)) (b := (x)) rfl rfl (decide_eq_true (by omega)))
    (ibCons (ibLt (a := (7)) (b := (x)) rfl rfl (decide_eq_true (by omega)))
    (ibCons (ibLt (a := (8)) (b := (x)) rfl rfl (decide_eq_true (by omega)))
    (ibCons (ibLt (a := (9)) (b := (x)) rfl rfl (decide_eq_true (by omega)))
    (ibCons (ibLt (a := (10)) (b := (x)) rfl rfl (decide_eq_true (by omega)))
    (ibCons (ibLt (a := (11)) (b := (x)) rfl rfl (decide_eq_false (by omega)))
    (ibCons (ibEq (a := (r1)) (b := (89)) rfl rfl (decide_eq_true (by omega)))
    ibNil)))))))))))))
theorem icL11 {x : Int} {r1 : Int} {q : Int} {s : Nat} {d : Nat} (hx : x = 11) (hr : r1 = 89) : ∀ x_ ∈ ([(.i32, .oi 0, .oi 1), (.i64, .oi 1, .oi 0)] : List (IntKind × AV × AV)), IcOk' (ivT x r1 q s d) x_ := (icCons (ic32 (n := (x)) rfl rfl (by omega) (by omega)) (icCons (ic64 (n := (x)) rfl rfl (by omega) (by omega)) icNil))
theorem vlL11 {x : Int} {r1 : Int} {q : Int} {s : Nat} {d : Nat} (hx : x = 11) (hr : r1 = 89) : ∀ x_ ∈ ([] : List VL), VlOk (ivT x r1 q s d) (vvT s d) x_ :=
  allNil
theorem vsL11 {x : Int} {r1 : Int} {q : Int} {s : Nat} {d : Nat} (hx : x = 11) (hr : r1 = 89) : ∀ x_ ∈ ([] : List VS), VsOk (ivT x r1 q s d) (vvT s d) (vkT s d) x_ :=
  allNil
theorem vaL11 {x : Int} {r1 : Int} {q : Int} {s : Nat} {d : Nat} (hx : x = 11) (hr : r1 = 89) : ∀ x_ ∈ ([] : List VA), VaOk (ivT x r1 q s d) (vvT s d) (vkT s d) x_ :=
  allNil
abbrev RL11 {x : Int} {r1 : Int} {q : Int} {s : Nat} {d : Nat} (hx : x = 11) (hr : r1 = 89) : VRows (ivT x r1 q s d) (vvT s d) (vkT s d) where
  vvp := vpT s d
  ib := [(11, .int .i64 0, .oi 0, .bool true), (11, .int .i64 1, .oi 0, .bool true), (11, .int .i64 2, .oi 0, .bool true), (11, .int .i64 3, .oi 0, .bool true), (11, .int .i64 4, .oi 0, .bool true), (11, .int .i64 5, .oi 0, .bool true), (11, .int .i64 6, .oi 0, .bool true), (11, .int .i64 7, .oi 0, .bool true), (11, .int .i64 8, .oi 0, .bool true), (11, .int .i64 9, .oi 0, .bool true), (11, .int .i64 10, .oi 0, .bool true), (11, .int .i64 11, .oi 0, .bool false), (9, .oi 2, .int .i64 89, .bool true)]
  ibok := ibL11 hx hr
  ic := [(.i32, .oi 0, .oi 1), (.i64, .oi 1, .oi 0)]
  icok := icL11 hx hr
  vl := []
  vlok := vlL11 hx hr
  vs := []
  vsok := vsL11 hx hr
  va := []
  vaok := vaL11 hx hr
  vc := []
  vcok := allNil
theorem ibL12 {x : Int} {r1 : Int} {q : Int} {s : Nat} {d : Nat} (hx : x = 12) (hr : r1 = 144) : ∀ x_ ∈ ([(11, .int .i64 0, .oi 0, .bool true), (11, .int .i64 1, .oi 0, .bool true), (11, .int .i64 2, .oi 0, .bool true), (11, .int .i64 3, .oi 0, .bool true), (11, .int .i64 4, .oi 0, .bool true), (11, .int .i64 5, .oi 0, .bool true), (11, .int .i64 6, .oi 0, .bool true), (11, .int .i64 7, .oi 0, .bool true), (11, .int .i64 8, .oi 0, .bool true), (11, .int .i64 9, .oi 0, .bool true), (11, .int .i64 10, .oi 0, .bool true), (11, .int .i64 11, .oi 0, .bool true), (11, .int .i64 12, .oi 0, .bool false), (9, .oi 2, .int .i64 144, .bool true)] : List BRow), IbOk (ivT x r1 q s d) x_ := by
  letI := Tab.empty
  exact (ibCons (ibLt (a := (0)) (b := (x)) rfl rfl (decide_eq_true (by omega)))
    (ibCons (ibLt (a := (1)) (b := (x)) rfl rfl (decide_eq_true (by omega)))
    (ibCons (ibLt (a := (2)) (b := (x)) rfl rfl (decide_eq_true (by omega)))
    (ibCons (ibLt (a := (3)) (b := (x)) rfl rfl (decide_eq_true (by omega)))
    (ibCons (ibLt (a := (4)) (b := (x)) rfl rfl (decide_eq_true (by omega)))
    (ibCons (ibLt (a := (5)) (b := (x)) rfl rfl (decide_eq_true (by omega)))
    (ibCons (ibLt (a := (6)) (b := (x)) rfl rfl (decide_eq_true (by omega)))
    (ibCons (ibLt (a := (7)) (b := (x)) rfl rfl (decide_eq_true (by omega)))
    (ibCons (ibLt (a := (8)) (b := (x)) rfl rfl (decide_eq_true (by omega)))
    (ibCons (ibLt (a := (9)) (b := (x)) rfl rfl (decide_eq_true (by omega)))
    (ibCons (ibLt (a := (10)) (b := (x)) rfl rfl (decide_eq_true (by omega)))
    (ibCons (ibLt (a := (11)) (b := (x)) rfl rfl (decide_eq_true (by omega)))
    (ibCons (ibLt (a := (12)) (b := (x)) rfl rfl (decide_eq_false (by omega)))
    (ibCons (ibEq (a := (r1)) (b := (144)) rfl rfl (decide_eq_true (by omega)))
    ibNil))))))))))))))
theorem icL12 {x : Int} {r1 : Int} {q : Int} {s : Nat} {d : Nat} (hx : x = 12) (hr : r1 = 144) : ∀ x_ ∈ ([(.i32, .oi 0, .oi 1), (.i64, .oi 1, .oi 0)] : List (IntKind × AV × AV)), IcOk' (ivT x r1 q s d) x_ := (icCons (ic32 (n := (x)) rfl rfl (by omega) (by omega)) (icCons (ic64 (n := (x)) rfl rfl (by omega) (by omega)) icNil))
theorem vlL12 {x : Int} {r1 : Int} {q : Int} {s : Nat} {d : Nat} (hx : x = 12) (hr : r1 = 144) : ∀ x_ ∈ ([] : List VL), VlOk (ivT x r1 q s d) (vvT s d) x_ :=
  allNil
theorem vsL12 {x : Int} {r1 : Int} {q : Int} {s : Nat} {d : Nat} (hx : x = 12) (hr : r1 = 144) : ∀ x_ ∈ ([] : List VS), VsOk (ivT x r1 q s d) (vvT s d) (vkT s d) x_ :=
  allNil
theorem vaL12 {x : Int} {r1 : Int} {q : Int} {s : Nat} {d : Nat} (hx : x = 12) (hr : r1 = 144) : ∀ x_ ∈ ([] : List VA), VaOk (ivT x r1 q s d) (vvT s d) (vkT s d) x_ :=
  allNil
abbrev RL12 {x : Int} {r1 : Int} {q : Int} {s : Nat} {d : Nat} (hx : x = 12) (hr : r1 = 144) : VRows (ivT x r1 q s d) (vvT s d) (vkT s d) where
  vvp := vpT s d
  ib := [(11, .int .i64 0, .oi 0, .bool true), (11, .int .i64 1, .oi 0, .bool true), (11, .int .i64 2, .oi 0, .bool true), (11, .int .i64 3, .oi 0, .bool true), (11, .int .i64 4, .oi 0, .bool true), (11, .int .i64 5, .oi 0, .bool true), (11, .int .i64 6, .oi 0, .bool true), (11, .int .i64 7, .oi 0, .bool true), (11, .int .i64 8, .oi 0, .bool true), (11, .int .i64 9, .oi 0, .bool true), (11, .int .i64 10, .oi 0, .bool true), (11, .int .i64 11, .oi 0, .bool true), (11, .int .i64 12, .oi 0, .bool false), (9, .oi 2, .int .i64 144, .bool true)]
  ibok := ibL12 hx hr
  ic := [(.i32, .oi 0, .oi 1), (.i64, .oi 1, .oi 0)]
  icok := icL12 hx hr
  vl := []
  vlok := vlL12 hx hr
  vs := []
  vsok := vsL12 hx hr
  va := []
  vaok := vaL12 hx hr
  vc := []
  vcok := allNil
theorem ibL13 {x : Int} {r1 : Int} {q : Int} {s : Nat} {d : Nat} (hx : x = 13) (hr : r1 = 233) : ∀ x_ ∈ ([(11, .int .i64 0, .oi 0, .bool true), (11, .int .i64 1, .oi 0, .bool true), (11, .int .i64 2, .oi 0, .bool true), (11, .int .i64 3, .oi 0, .bool true), (11, .int .i64 4, .oi 0, .bool true), (11, .int .i64 5, .oi 0, .bool true), (11, .int .i64 6, .oi 0, .bool true), (11, .int .i64 7, .oi 0, .bool true), (11, .int .i64 8, .oi 0, .bool true), (11, .int .i64 9, .oi 0, .bool true), (11, .int .i64 10, .oi 0, .bool true), (11, .int .i64 11, .oi 0, .bool true), (11, .int .i64 12, .oi 0, .bool true), (11, .int .i64 13, .oi 0, .bool false), (9, .oi 2, .int .i64 233, .bool true)] : List BRow), IbOk (ivT x r1 q s d) x_ := by
  letI := Tab.empty
  exact (ibCons (ibLt (a := (0)) (b := (x)) rfl rfl (decide_eq_true (by omega)))
    (ibCons (ibLt (a := (1)) (b := (x)) rfl rfl (decide_eq_true (by omega)))
    (ibCons (ibLt (a := (2)) (b := (x)) rfl rfl (decide_eq_true (by omega)))
    (ibCons (ibLt (a := (3)) (b := (x)) rfl rfl (decide_eq_true (by omega)))
    (ibCons (ibLt (a := (4)) (b := (x)) rfl rfl (decide_eq_true (by omega)))
    (ibCons (ibLt (a := (5)) (b := (x)) rfl rfl (decide_eq_true (by omega)))
    (ibCons (ibLt (a := (6)) (b := (x)) rfl rfl (decide_eq_true (by omega)))
    (ibCons (ibLt (a := (7)) (b := (x)) rfl rfl (decide_eq_true (by omega)))
    (ibCons (ibLt (a := (8)) (b := (x)) rfl rfl (decide_eq_true (by omega)))
    (ibCons (ibLt (a := (9)) (b := (x)) rfl rfl (decide_eq_true (by omega)))
    (ibCons (ibLt (a := (10)) (b := (x)) rfl rfl (decide_eq_true (by omega)))
    (ibCons (ibLt (a := (11)) (b := (x)) rfl rfl (decide_eq_true (by omega)))
    (ibCons (ibLt (a := (12)) (b := (x)) rfl rfl (decide_eq_true (by omega)))
    (ibCons (ibLt (a := (13)) (b := (x)) rfl rfl (decide_eq_false (by omega)))
    (ibCons (ibEq (a := (r1)) (b := (233)) rfl rfl (decide_eq_true (by omega)))
    ibNil)))))))))))))))
theorem icL13 {x : Int} {r1 : Int} {q : Int} {s : Nat} {d : Nat} (hx : x = 13) (hr : r1 = 233) : ∀ x_ ∈ ([(.i32, .oi 0, .oi 1), (.i64, .oi 1, .oi 0)] : List (IntKind × AV × AV)), IcOk' (ivT x r1 q s d) x_ := (icCons (ic32 (n := (x)) rfl rfl (by omega) (by omega)) (icCons (ic64 (n := (x)) rfl rfl (by omega) (by omega)) icNil))
theorem vlL13 {x : Int} {r1 : Int} {q : Int} {s : Nat} {d : Nat} (hx : x = 13) (hr : r1 = 233) : ∀ x_ ∈ ([] : List VL), VlOk (ivT x r1 q s d) (vvT s d) x_ :=
  allNil
theorem vsL13 {x : Int} {r1 : Int} {q : Int} {s : Nat} {d : Nat} (hx : x = 13) (hr : r1 = 233) : ∀ x_ ∈ ([] : List VS), VsOk (ivT x r1 q s d) (vvT s d) (vkT s d) x_ :=
  allNil
theorem vaL13 {x : Int} {r1 : Int} {q : Int} {s : Nat} {d : Nat} (hx : x = 13) (hr : r1 = 233) : ∀ x_ ∈ ([] : List VA), VaOk (ivT x r1 q s d) (vvT s d) (vkT s d) x_ :=
  allNil
abbrev RL13 {x : Int} {r1 : Int} {q : Int} {s : Nat} {d : Nat} (hx : x = 13) (hr : r1 = 233) : VRows (ivT x r1 q s d) (vvT s d) (vkT s d) where
  vvp := vpT s d
  ib := [(11, .int .i64 0, .oi 0, .bool true), (11, .int .i64 1, .oi 0, .bool true), (11, .int .i64 2, .oi 0, .bool true), (11, .int .i64 3, .oi 0, .bool true), (11, .int .i64 4, .oi 0, .bool true), (11, .int .i64 5, .oi 0, .bool true), (11, .int .i64 6, .oi 0, .bool true), (11, .int .i64 7, .oi 0, .bool true), (11, .int .i64 8, .oi 0, .bool true), (11, .int .i64 9, .oi 0, .bool true), (11, .int .i64 10, .oi 0, .bool true), (11, .int .i64 11, .oi 0, .bool true), (11, .int .i64 12, .oi 0, .bool true), (11, .int .i64 13, .oi 0, .bool false), (9, .oi 2, .int .i64 233, .bool true)]
  ibok := ibL13 hx hr
  ic := [(.i32, .oi 0, .oi 1), (.i64, .oi 1, .oi 0)]
  icok := icL13 hx hr
  vl := []
  vlok := vlL13 hx hr
  vs := []
  vsok := vsL13 hx hr
  va := []
  vaok := vaL13 hx hr
  vc := []
  vcok := allNil
theorem ibL14 {x : Int} {r1 : Int} {q : Int} {s : Nat} {d : Nat} (hx : x = 14) (hr : r1 = 377) : ∀ x_ ∈ ([(11, .int .i64 0, .oi 0, .bool true), (11, .int .i64 1, .oi 0, .bool true), (11, .int .i64 2, .oi 0, .bool true), (11, .int .i64 3, .oi 0, .bool true), (11, .int .i64 4, .oi 0, .bool true), (11, .int .i64 5, .oi 0, .bool true), (11, .int .i64 6, .oi 0, .bool true), (11, .int .i64 7, .oi 0, .bool true), (11, .int .i64 8, .oi 0, .bool true), (11, .int .i64 9, .oi 0, .bool true), (11, .int .i64 10, .oi 0, .bool true), (11, .int .i64 11, .oi 0, .bool true), (11, .int .i64 12, .oi 0, .bool true), (11, .int .i64 13, .oi 0, .bool true), (11, .int .i64 14, .oi 0, .bool false), (9, .oi 2, .int .i64 377, .bool true)] : List BRow), IbOk (ivT x r1 q s d) x_ := by
  letI := Tab.empty
  exact (ibCons (ibLt (a := (0)) (b := (x)) rfl rfl (decide_eq_true (by omega)))
    (ibCons (ibLt (a := (1)) (b := (x)) rfl rfl (decide_eq_true (by omega)))
    (ibCons (ibLt (a := (2)) (b := (x)) rfl rfl (decide_eq_true (by omega)))
    (ibCons (ibLt (a := (3)) (b := (x)) rfl rfl (decide_eq_true (by omega)))
    (ibCons (ibLt (a := (4)) (b := (x)) rfl rfl (decide_eq_true (by omega)))
    (ibCons (ibLt (a := (5)) (b := (x)) rfl rfl (decide_eq_true (by omega)))
    (ibCons (ibLt (a := (6)) (b := (x)) rfl rfl (decide_eq_true (by omega)))
    (ibCons (ibLt (a := (7)) (b := (x)) rfl rfl (decide_eq_true (by omega)))
    (ibCons (ibLt (a := (8)) (b := (x)) rfl rfl (decide_eq_true (by omega)))
    (ibCons (ibLt (a := (9)) (b := (x)) rfl rfl (decide_eq_true (by omega)))
    (ibCons (ibLt (a := (10)) (b := (x)) rfl rfl (decide_eq_true (by omega)))
    (ibCons (ibLt (a := (11)) (b := (x)) rfl rfl (decide_eq_true (by omega)))
    (ibCons (ibLt (a := (12)) (b := (x)) rfl rfl (decide_eq_true (by omega)))
    (ibCons (ibLt (a := (13)) (b := (x)) rfl rfl (decide_eq_true (by omega)))
    (ibCons (ibLt (a := (14)) (b := (x)) rfl rfl (decide_eq_false (by omega)))
    (ibCons (ibEq (a := (r1)) (b := (377)) rfl rfl (decide_eq_true (by omega)))
    ibNil))))))))))))))))
theorem icL14 {x : Int} {r1 : Int} {q : Int} {s : Nat} {d : Nat} (hx : x = 14) (hr : r1 = 377) : ∀ x_ ∈ ([(.i32, .oi 0, .oi 1), (.i64, .oi 1, .oi 0)] : List (IntKind × AV × AV)), IcOk' (ivT x r1 q s d) x_ := (icCons (ic32 (n := (x)) rfl rfl (by omega) (by omega)) (icCons (ic64 (n := (x)) rfl rfl (by omega) (by omega)) icNil))
theorem vlL14 {x : Int} {r1 : Int} {q : Int} {s : Nat} {d : Nat} (hx : x = 14) (hr : r1 = 377) : ∀ x_ ∈ ([] : List VL), VlOk (ivT x r1 q s d) (vvT s d) x_ :=
  allNil
theorem vsL14 {x : Int} {r1 : Int} {q : Int} {s : Nat} {d : Nat} (hx : x = 14) (hr : r1 = 377) : ∀ x_ ∈ ([] : List VS), VsOk (ivT x r1 q s d) (vvT s d) (vkT s d) x_ :=
  allNil
theorem vaL14 {x : Int} {r1 : Int} {q : Int} {s : Nat} {d : Nat} (hx : x = 14) (hr : r1 = 377) : ∀ x_ ∈ ([] : List VA), VaOk (ivT x r1 q s d) (vvT s d) (vkT s d) x_ :=
  allNil
abbrev RL14 {x : Int} {r1 : Int} {q : Int} {s : Nat} {d : Nat} (hx : x = 14) (hr : r1 = 377) : VRows (ivT x r1 q s d) (vvT s d) (vkT s d) where
  vvp := vpT s d
  ib := [(11, .int .i64 0, .oi 0, .bool true), (11, .int .i64 1, .oi 0, .bool true), (11, .int .i64 2, .oi 0, .bool true), (11, .int .i64 3, .oi 0, .bool true), (11, .int .i64 4, .oi 0, .bool true), (11, .int .i64 5, .oi 0, .bool true), (11, .int .i64 6, .oi 0, .bool true), (11, .int .i64 7, .oi 0, .bool true), (11, .int .i64 8, .oi 0, .bool true), (11, .int .i64 9, .oi 0, .bool true), (11, .int .i64 10, .oi 0, .bool true), (11, .int .i64 11, .oi 0, .bool true), (11, .int .i64 12, .oi 0, .bool true), (11, .int .i64 13, .oi 0, .bool true), (11, .int .i64 14, .oi 0, .bool false), (9, .oi 2, .int .i64 377, .bool true)]
  ibok := ibL14 hx hr
  ic := [(.i32, .oi 0, .oi 1), (.i64, .oi 1, .oi 0)]
  icok := icL14 hx hr
  vl := []
  vlok := vlL14 hx hr
  vs := []
  vsok := vsL14 hx hr
  va := []
  vaok := vaL14 hx hr
  vc := []
  vcok := allNil
noncomputable abbrev bsP : BL := [(7001, (.map [((.str 1 77), (.ptr 13892 0), 0)] 1)), (7002, (.map [((.str 19 2439265639030268300842157990401791553877467498), (.ptr 7199 0), 0), ((.str 29 3085170664936786167588614718972924591866388410301586339335837578584426), (.ptr 7347 0), 1), ((.str 29 2977327179366744475310567174670984700336777289692309623825572795146602), (.ptr 7456 0), 2), ((.str 40 921438131347674524995356669863897659779420152864154109574888483886346161678995665599280333611370), (.ptr 7567 0), 3), ((.str 29 2977327179366744475310578792928741468592950331792981622238945052352874), (.ptr 7681 0), 4), ((.str 28 11630184294401345606682283003339240975915084228737354846334270988650), (.ptr 7794 0), 5), ((.str 31 202189744697330995387852485397630371027294446829100397077902765524415570282), (.ptr 7891 0), 6), ((.str 26 183890501555036136351903328603364899342229922045770665733546346), (.ptr 7985 0), 7), ((.str 15 594182256714433171583859471190221162), (.ptr 8076 0), 8), ((.str 19 2462787319999361794871408518597065734545105258), (.ptr 8166 0), 9), ((.str 37 56911353679811531822920492603033782110087255578636309514658723732473720363105297718731114), (.ptr 8272 0), 10), ((.str 28 12051447909910759173808661238977857107111767888823090726697178653034), (.ptr 8375 0), 11), ((.str 38 14060030080378334426808655457799320232265086119729716606675995945190890063755479020322840938), (.ptr 8490 0), 12), ((.str 38 14569306542030247732875768419210667608278730874565438596096215620376147580735894642209743210), (.ptr 8588 0), 13), ((.str 35 838043098472257520366253329360822735706660890049674080341799799296269125818196058474), (.ptr 8681 0), 14), ((.str 28 12051447909910278778317482300033197087305720853520054876288643916138), (.ptr 8786 0), 15), ((.str 22 42815343838886881203639546329033052610660173325164906), (.ptr 8885 0), 16), ((.str 36 214539033208897925213755128370838752992305990670598911423725060199978812837976799076714), (.ptr 8997 0), 17), ((.str 30 789803690223817235625993454897404583541813632134065715887439951296881002), (.ptr 9093 0), 18), ((.str 26 183890501555012814945400634590948384637649511452497603397575018), (.ptr 9194 0), 19), ((.str 27 47075968398083285027902446257440240237115773113246055769402925418), (.ptr 9296 0), 20), ((.str 30 762195757917886585679527096405151622096281774544538073876077408773628266), (.ptr 9406 0), 21), ((.str 16 154706541852025644484233205990057992554), (.ptr 9417 0), 22), ((.str 26 183890501555043540957095622503328518117729969598634276033028458), (.ptr 9528 0), 23), ((.str 26 177462528906270532328520934635542489792491443287338843928682858), (.ptr 9620 0), 24), ((.str 28 12051447909911140811364177168575840195048631602135540194265359868266), (.ptr 9727 0), 25), ((.str 16 137483774941304901841256615957136564586), (.ptr 9748 0), 26), ((.str 23 10956966084090815260342509131105871416374185281426186602), (.ptr 9805 0), 27), ((.str 41 235888161625004678398811307485157800903531559133223452051171428016118026562849321940164899390251370), (.ptr 9945 0), 28), ((.str 16 145412635431568811361768410208787652970), (.ptr 9957 0), 29), ((.str 19 2261816869159440624969593107871851903301607786), (.ptr 10045 0), 30), ((.str 38 14569306542031293471471962209605688152784288289213751582725315083544705153644676387098222954), (.ptr 10145 0), 31), ((.str 21 167247436870678459232146883126634948762985622298986), (.ptr 10245 0), 32)] 33)), (7003, (.cells 3 false [] (T.ofList 0 .leaf [(.map 7001), (.map 7002), (.so 14753 0 1 1)]))), (9417, (.cells 8 false [] (T.ofList 0 .leaf [(.int .i64 52), .nils, (.int .i64 33), (.str 16 154706541852025644484233205990057992554), (.str 0 0), .nils, .nils, (.so 9429 0 3 9)]))), (10259, (.map [] 0)), (10260, (.map [] 0)), (10261, (.cells 3 false [] (T.ofList 0 .leaf [(.ptr 7003 0), (.map 10259), (.map 10260)]))), (10262, (.cells 7 false [] (T.ofList 0 .leaf [(.ptr 10256 0), (.ptr 10258 0), (.ptr 7003 0), (.so 10976 0 39 3), .nils, (.bool false), (.bool false)]))), (13602, (.cells 4 false [] (T.ofList 0 .leaf [.nils, .nils, .nils, (.int .i64 0)]))), (13603, (.map [] 0)), (13604, (.map [] 0)), (13605, (.map [] 0)), (13606, (.cells 32 false [] (T.ofList 0 .leaf [(.ptr 7003 0), (.ptr 10261 0), (.ptr 10256 0), (.ptr 10258 0), (.ptr 10262 0), (.ptr 13602 0), .nils, (.map 13603), (.map 13604), .nils, (.int .i64 1), (.int .i64 3), (.int .i64 6), (.int .i64 0), .nilp, (.bool false), (.int .i64 0), (.int .i64 0), (.int .i64 0), (.int .i64 0), (.int .i64 0), (.int .i64 0), (.int .u8 0), (.int .i64 0), (.str 0 0), (.str 0 0), (.bool false), (.int .i64 0), .nils, (.int .i64 0), (.int .i64 0), (.map 13605)]))), (13892, (.cells 8 false [] (T.ofList 0 .leaf [(.int .i64 52), (.sl 13894 0 11 11), (.int .i64 33), (.str 1 77), (.str 16 154706541852025644484233205990057992554), .nils, .nils, (.so 14751 0 1 9)]))), (13894, (.cells 55 false [(.int .i64 0), (.str 0 0), (.int .i64 0), (.int .i64 0), (.int .i64 0)] (ofPairs [(5, (.int .i64 1)), (6, (.str 1 77)), (7, (.int .i64 0)), (8, (.int .i64 0)), (9, (.int .i64 0)), (10, (.int .i64 7)), (11, (.str 0 0)), (12, (.int .i64 0)), (13, (.int .i64 1)), (14, (.int .i64 0)), (15, (.int .i64 1)), (16, (.str 3 6449510)), (17, (.int .i64 0)), (18, (.int .i64 0)), (19, (.int .i64 0)), (20, (.int .i64 1)), (21, (.str 4 1227442472)), (22, (.int .i64 0)), (23, (.int .i64 0)), (24, (.int .i64 0)), (25, (.int .i64 12)), (26, (.str 0 0)), (27, (.int .i64 0)), (28, (.int .i64 3)), (29, (.int .i64 4)), (30, (.int .i64 10)), (31, (.str 0 0)), (32, (.int .i64 0)), (33, (.int .i64 2)), (34, (.int .i64 5)), (35, (.int .i64 1)), (36, (.str 13 8035587729358898777305137640531)), (37, (.int .i64 0)), (38, (.int .i64 0)), (39, (.int .i64 0)), (40, (.int .i64 1)), (41, (.str 4 1701080899)), (42, (.int .i64 0)), (43, (.int .i64 0)), (44, (.int .i64 0)), (45, (.int .i64 1)), (46, (.str 16 154706541852025644484233205990057992554)), (47, (.int .i64 0)), (48, (.int .i64 0)), (49, (.int .i64 0)), (50, (.int .i64 7)), (51, (.str 0 0)), (52, (.int .i64 0)), (53, (.int .i64 9)), (54, (.int .i64 0))]))), (14243, (.cells 21 true [] (T.ofList 0 .leaf [(.int .u8 26), (.int .u8 5), (.int .u8 162), (.int .u8 0), (.int .u8 5), (.int .u8 26), (.int .u8 172), (.int .u8 26), (.int .u8 4), (.int .u8 100), (.int .u8 184), (.int .u8 0), (.int .u8 6), (.int .u8 26), (.int .u8 5), (.int .u8 100), (.int .u8 184), (.int .u8 0), (.int .u8 6), (.int .u8 96), (.int .u8 172)]))), (14746, (.cells 4 true [] (T.ofList 0 .leaf [(.int .i64 7), (.int .i64 7), .nils, .nils]))), (14751, (.cells 9 true [] (T.ofList 0 .leaf [(.int .i64 9), (.str 3 6449510), (.str 4 1227442472), (.bool true), (.int .i64 3), (.int .i64 1), (.so 14243 0 21 1), .nils, (.so 14746 0 1 4)]))), (14754, (.cells 1 false [] (T.ofList 0 .leaf [(.oi 0)])))]
noncomputable def CR : In := ⟨47, [(.ptr 13606 0), (.str 1 77), (.str 3 6449510), (.sl 14754 0 1 1), (.int .i64 100000)], 14758, bsP, (.agg [(.int .i64 0), (.int .i64 1), (.int .u8 73), (.oi 2), (.str 0 0), (.str 0 0), (.bool false), (.oi 3), .nils, (.int .i64 0), (.int .i64 1)]), 17010, [(13606, (.cells 32 false [] (ofPairs [(19, (.int .i64 1))])))]⟩
noncomputable abbrev bsE : BS := [(13606, 13606, (.cells 32 false [] (ofPairs [(15, (.bool false)), (19, (.int .i64 1)), (20, (.int .i64 0)), (21, (.int .i64 1)), (22, (.int .u8 73)), (23, (.oi 2)), (24, (.str 0 0)), (25, (.str 0 0)), (26, (.bool false)), (27, (.oi 3)), (28, .nils), (29, (.int .i64 0)), (30, (.int .i64 1))]))), (14758, 14758, (.cells 11 false [] (T.ofList 0 .leaf [(.int .i64 0), (.int .i64 0), (.int .u8 0), (.int .i64 0), (.str 0 0), (.str 0 0), (.bool false), (.int .i64 0), .nils, (.int .i64 0), (.int .i64 0)])))]
noncomputable abbrev bsF : BS := [(13606, 13606, (.cells 32 false [] (ofPairs [(19, (.int .i64 1))]))), (14758, 14758, (.cells 11 false [] (T.ofList 0 .leaf [(.int .i64 0), (.int .i64 1), (.int .u8 73), (.oi 2), (.str 0 0), (.str 0 0), (.bool false), (.oi 3), .nils, (.int .i64 0), (.int .i64 1)])))]
section
variable {B : Kp} {w0 : World} {μ : M} {a : Act} {w : World}
theorem ibD {u : Int} {res : Int} {r : Int} {wd : Int} {c0 : Int} {s : Nat} {d : Nat} (h3 : 0 ≤ r) (h4 : r + 20 ≤ 100000) (h5 : 8 ≤ wd) (h6 : wd ≤ 2048) (h7 : 0 ≤ c0) (h8 : c0 ≤ 200000) (h13 : 0 ≤ res) (h14 : res ≤ 100000) (h11 : s ≤ 10000) (h12 : d ≤ 10000) : ∀ x_ ∈ ([(14, .oi 2, .int .i64 100000, .bool false), (9, .oi 7, .int .i64 0, .bool false), (1, .oi 7, .int .i64 1, .oi 5), (11, .oi 5, .oi 7, .bool true), (14, .oi 5, .int .i64 0, .bool true), (0, .oi 2, .int .i64 1, .oi 8), (0, .oi 4, .int .i64 1, .oi 9), (1, .oi 6, .int .i64 1, .oi 7), (1, .oi 7, .int .i64 0, .oi 7), (11, .oi 7, .oi 6, .bool true), (14, .oi 7, .int .i64 0, .bool true), (12, .oi 7, .oi 6, .bool true), (1, .oi 3, .int .i64 8, .oi 10), (12, .oi 5, .oi 7, .bool true), (9, .oi 5, .int .i64 0, .bool true)] : List BRow), IbOk (fb.ivD u res r wd c0 s d) x_ := by
  letI := Tab.empty
  exact (ibCons (ibGe (a := (r)) (b := (100000)) rfl rfl (decide_eq_false (by omega)))
    (ibCons (ibEq (a := (((0 + 1 : Nat) : Int))) (b := (0)) rfl rfl (decide_eq_false (by omega)))
    (ibCons (ibSub (a := (((0 + 1 : Nat) : Int))) (b := (1)) (c := (((0 : Nat) : Int))) rfl rfl rfl (by first | assumption | omega) (by omega) (by omega))
    (ibCons (ibLt (a := (((0 : Nat) : Int))) (b := (((0 + 1 : Nat) : Int))) rfl rfl (decide_eq_true (by omega)))
    (ibCons (ibGe (a := (((0 : Nat) : Int))) (b := (0)) rfl rfl (decide_eq_true (by omega)))
    (ibCons (ibAdd (a := (r)) (b := (1)) (c := (r + 1)) rfl rfl rfl (by first | assumption | omega) (by omega) (by omega))
    (ibCons (ibAdd (a := (c0)) (b := (1)) (c := (c0 + 1)) rfl rfl rfl (by first | assumption | omega) (by omega) (by omega))
    (ibCons (ibSub (a := (((0 + 2 : Nat) : Int))) (b := (1)) (c := (((0 + 1 : Nat) : Int))) rfl rfl rfl (by first | assumption | omega) (by omega) (by omega))
    (ibCons (ibSub (a := (((0 + 1 : Nat) : Int))) (b := (0)) (c := (((0 + 1 : Nat) : Int))) rfl rfl rfl (by first | assumption | omega) (by omega) (by omega))
    (ibCons (ibLt (a := (((0 + 1 : Nat) : Int))) (b := (((0 + 2 : Nat) : Int))) rfl rfl (decide_eq_true (by omega)))
    (ibCons (ibGe (a := (((0 + 1 : Nat) : Int))) (b := (0)) rfl rfl (decide_eq_true (by omega)))
    (ibCons (ibLe (a := (((0 + 1 : Nat) : Int))) (b := (((0 + 2 : Nat) : Int))) rfl rfl (decide_eq_true (by omega)))
    (ibCons (ibSub (a := (wd)) (b := (8)) (c := (wd - 8)) rfl rfl rfl (by first | assumption | omega) (by omega) (by omega))
    (ibCons (ibLe (a := (((0 : Nat) : Int))) (b := (((0 + 1 : Nat) : Int))) rfl rfl (decide_eq_true (by omega)))
    (ibCons (ibEq (a := (((0 : Nat) : Int))) (b := (0)) rfl rfl (decide_eq_true (by omega)))
    ibNil)))))))))))))))
theorem icD {u : Int} {res : Int} {r : Int} {wd : Int} {c0 : Int} {s : Nat} {d : Nat} (h3 : 0 ≤ r) (h4 : r + 20 ≤ 100000) (h5 : 8 ≤ wd) (h6 : wd ≤ 2048) (h7 : 0 ≤ c0) (h8 : c0 ≤ 200000) (h13 : 0 ≤ res) (h14 : res ≤ 100000) (h11 : s ≤ 10000) (h12 : d ≤ 10000) : ∀ x_ ∈ ([] : List (IntKind × AV × AV)), IcOk' (fb.ivD u res r wd c0 s d) x_ := icNil
theorem vlD {u : Int} {res : Int} {r : Int} {wd : Int} {c0 : Int} {s : Nat} {d : Nat} (h3 : 0 ≤ r) (h4 : r + 20 ≤ 100000) (h5 : 8 ≤ wd) (h6 : wd ≤ 2048) (h7 : 0 ≤ c0) (h8 : c0 ≤ 200000) (h13 : 0 ≤ res) (h14 : res ≤ 100000) (h11 : s ≤ 10000) (h12 : d ≤ 10000) : ∀ x_ ∈ ([⟨3, 5, 1, 0, [(.ptr 20005 0)]⟩, ⟨4, 5, 7, 6, [(.int .i64 1)]⟩, ⟨0, 7, 1, 0, [(.oi 1)]⟩, ⟨1, 7, 1, 0, [(.bool false)]⟩, ⟨5, 5, 7, 4, [(.int .i64 1)]⟩, ⟨5, 5, 7, 5, [(.int .i64 3)]⟩, ⟨5, 5, 7, 3, [(.oi 5)]⟩] : List VL), VlOk (fb.ivD u res r wd c0 s d) (fb.vvD s d) x_ :=
  (allCons (vlP (k := 0) (b := 0) (c := 3) (o := 0) (L := [(.ptr 20005 0)]) rfl rfl (by show (0) * 1 + 0 = 0 + 0; omega) rfl)
    (allCons (vlP (k := 0) (b := 0) (c := 2) (o := 6) (L := [(.int .i64 0), (.int .i64 0), (.int .i64 20), (.oi 5), (.int .i64 1), (.int .i64 3), (.int .i64 1)]) rfl rfl (by show (0) * 7 + 6 = 0 + 6; omega) rfl)
    (allCons (vlP (k := 0 + 1) (b := 0) (c := 0) (o := 1) (L := [(.oi 0), (.oi 1)]) rfl rfl (by show (0 + 1) * 1 + 0 = 0 + 1; omega) rfl)
    (allCons (vlP (k := 0 + 1) (b := 0) (c := 1) (o := 1) (L := [(.bool false), (.bool false)]) rfl rfl (by show (0 + 1) * 1 + 0 = 0 + 1; omega) rfl)
    (allCons (vlP (k := 0) (b := 0) (c := 2) (o := 4) (L := [(.int .i64 0), (.int .i64 0), (.int .i64 20), (.oi 5), (.int .i64 1), (.int .i64 3), (.int .i64 0)]) rfl rfl (by show (0) * 7 + 4 = 0 + 4; omega) rfl)
    (allCons (vlP (k := 0) (b := 0) (c := 2) (o := 5) (L := [(.int .i64 0), (.int .i64 0), (.int .i64 20), (.oi 5), (.int .i64 1), (.int .i64 3), (.int .i64 0)]) rfl rfl (by show (0) * 7 + 5 = 0 + 5; omega) rfl)
    (allCons (vlP (k := 0) (b := 0) (c := 2) (o := 3) (L := [(.int .i64 0), (.int .i64 0), (.int .i64 20), (.oi 5), (.int .i64 1), (.int .i64 3), (.int .i64 0)]) rfl rfl (by show (0) * 7 + 3 = 0 + 3; omega) rfl)
    allNil)))))))
theorem vsD {u : Int} {res : Int} {r : Int} {wd : Int} {c0 : Int} {s : Nat} {d : Nat} (h3 : 0 ≤ r) (h4 : r + 20 ≤ 100000) (h5 : 8 ≤ wd) (h6 : wd ≤ 2048) (h7 : 0 ≤ c0) (h8 : c0 ≤ 200000) (h13 : 0 ≤ res) (h14 : res ≤ 100000) (h11 : s ≤ 10000) (h12 : d ≤ 10000) : ∀ x_ ∈ ([⟨2, 5, 7, 2, [(.int .i64 20)], 4⟩, ⟨4, 5, 7, 6, [(.int .i64 0)], 5⟩] : List VS), VsOk (fb.ivD u res r wd c0 s d) (fb.vvD s d) (fb.vkD s d) x_ :=
  (allCons (vsP (k := 0) (b := 0) (c := 2) (o := 2) (L := [(.int .i64 0), (.int .i64 0), (.int .i64 19), (.oi 5), (.int .i64 1), (.int .i64 3), (.int .i64 1)]) (L' := [(.int .i64 0), (.int .i64 0), (.int .i64 20), (.oi 5), (.int .i64 1), (.int .i64 3), (.int .i64 1)]) rfl rfl rfl rfl rfl (by show (0) * 7 + 2 = 0 + 2; omega) rfl (by decide))
    (allCons (vsP (k := 0) (b := 0) (c := 2) (o := 6) (L := [(.int .i64 0), (.int .i64 0), (.int .i64 20), (.oi 5), (.int .i64 1), (.int .i64 3), (.int .i64 1)]) (L' := [(.int .i64 0), (.int .i64 0), (.int .i64 20), (.oi 5), (.int .i64 1), (.int .i64 3), (.int .i64 0)]) rfl rfl rfl rfl rfl (by show (0) * 7 + 6 = 0 + 6; omega) rfl (by decide))
    allNil))
theorem vaD {u : Int} {res : Int} {r : Int} {wd : Int} {c0 : Int} {s : Nat} {d : Nat} (h3 : 0 ≤ r) (h4 : r + 20 ≤ 100000) (h5 : 8 ≤ wd) (h6 : wd ≤ 2048) (h7 : 0 ≤ c0) (h8 : c0 ≤ 200000) (h13 : 0 ≤ res) (h14 : res ≤ 100000) (h11 : s ≤ 10000) (h12 : d ≤ 10000) : ∀ x_ ∈ ([] : List VA), VaOk (fb.ivD u res r wd c0 s d) (fb.vvD s d) (fb.vkD s d) x_ :=
  allNil
abbrev RD {u : Int} {res : Int} {r : Int} {wd : Int} {c0 : Int} {s : Nat} {d : Nat} (h3 : 0 ≤ r) (h4 : r + 20 ≤ 100000) (h5 : 8 ≤ wd) (h6 : wd ≤ 2048) (h7 : 0 ≤ c0) (h8 : c0 ≤ 200000) (h13 : 0 ≤ res) (h14 : res ≤ 100000) (h11 : s ≤ 10000) (h12 : d ≤ 10000) : VRows (fb.ivD u res r wd c0 s d) (fb.vvD s d) (fb.vkD s d) where
  vvp := fb.vpD s d
  ib := [(14, .oi 2, .int .i64 100000, .bool false), (9, .oi 7, .int .i64 0, .bool false), (1, .oi 7, .int .i64 1, .oi 5), (11, .oi 5, .oi 7, .bool true), (14, .oi 5, .int .i64 0, .bool true), (0, .oi 2, .int .i64 1, .oi 8), (0, .oi 4, .int .i64 1, .oi 9), (1, .oi 6, .int .i64 1, .oi 7), (1, .oi 7, .int .i64 0, .oi 7), (11, .oi 7, .oi 6, .bool true), (14, .oi 7, .int .i64 0, .bool true), (12, .oi 7, .oi 6, .bool true), (1, .oi 3, .int .i64 8, .oi 10), (12, .oi 5, .oi 7, .bool true), (9, .oi 5, .int .i64 0, .bool true)]
  ibok := ibD h3 h4 h5 h6 h7 h8 h13 h14 h11 h12
  ic := []
  icok := icD h3 h4 h5 h6 h7 h8 h13 h14 h11 h12
  vl := [⟨3, 5, 1, 0, [(.ptr 20005 0)]⟩, ⟨4, 5, 7, 6, [(.int .i64 1)]⟩, ⟨0, 7, 1, 0, [(.oi 1)]⟩, ⟨1, 7, 1, 0, [(.bool false)]⟩, ⟨5, 5, 7, 4, [(.int .i64 1)]⟩, ⟨5, 5, 7, 5, [(.int .i64 3)]⟩, ⟨5, 5, 7, 3, [(.oi 5)]⟩]
  vlok := vlD h3 h4 h5 h6 h7 h8 h13 h14 h11 h12
  vs := [⟨2, 5, 7, 2, [(.int .i64 20)], 4⟩, ⟨4, 5, 7, 6, [(.int .i64 0)], 5⟩]
  vsok := vsD h3 h4 h5 h6 h7 h8 h13 h14 h11 h12
  va := []
  vaok := vaD h3 h4 h5 h6 h7 h8 h13 h14 h11 h12
  vc := []
  vcok := allNil
noncomputable abbrev rlQ : List (Nat × Nat) := [(14758, 20000)]
noncomputable abbrev ipQ : IP := [(.oi 1, 2), (.oi 8, 3)]
noncomputable abbrev bsq : BS := [(13606, 13606, (.cells 32 false [] (ofPairs [(15, (.bool false)), (19, (.int .i64 1)), (20, (.int .i64 0)), (21, (.int .i64 1)), (22, (.int .u8 73)), (23, (.oi 2)), (24, (.str 0 0)), (25, (.str 0 0)), (26, (.bool false)), (27, (.oi 3)), (28, .nils), (29, (.int .i64 0)), (30, (.int .i64 1))]))), (14758, 20000, (.cells 11 false [] (T.ofList 0 .leaf [(.int .i64 0), (.int .i64 0), (.int .u8 0), (.int .i64 0), (.str 0 0), (.str 0 0), (.bool false), (.int .i64 0), .nils, (.int .i64 0), (.int .i64 0)])))]
theorem bqq : hOf 17010 bsq = hOf 17010 bsE := hOf_congr (by kernel_rfl)
noncomputable abbrev fsq : List (Nat × AV) := [(0, .ptr 13606 0), (10, .ptr 14758 0)]
def Q_ {x r1 q : Int} (g1 : 2 ≤ x) (g2 : x < 15) (B : Kp) (w0 : World) (μ : M) (e : Exit) (a : Act) (w : World) : Prop := e = .exit 0 ∧ St ((RL (x := x) (r1 := r1) (q := q) (s := 0) (d := 0) g1 g2).tab) B w0 μ nt (frOf fsq) (hOf 17010 bsE) a w
theorem goQ {x r1 q : Int} (g1 : 2 ≤ x) (g2 : x < 15) {u res r wd c0 : Int} (h3 : 0 ≤ r) (h4 : r + 20 ≤ 100000) (h5 : 8 ≤ wd) (h6 : wd ≤ 2048) (h7 : 0 ≤ c0) (h8 : c0 ≤ 200000) (h13 : 0 ≤ res) (h14 : res ≤ 100000) (e1 : res = r1) (e2 : r + 1 = q) (e3 : wd = 8) (hb : Base B μ 14758) (s_ : fb.SD u res r wd c0 0 0 rv0 B w0 μ a w) : Code.rounds Tryz.prog fb.la (Q_ (x := x) (r1 := r1) (q := q) g1 g2 B w0 μ) (0 + 1) a w := by
  have hip : IpOk ((RD (u := u) (res := res) (r := r) (wd := wd) (c0 := c0) (s := 0) (d := 0) h3 h4 h5 h6 h7 h8 h13 h14 (Nat.zero_le _) (Nat.zero_le _)).rtab rv0) ((RL (x := x) (r1 := r1) (q := q) (s := 0) (d := 0) g1 g2).tab) ipQ := (ipCons (ipN (.i64, res) rfl (show (IntKind.i64, r1) = (IntKind.i64, res) from Prod.ext rfl (show (r1 : Int) = res by omega))) (ipCons (ipN (.i64, r + 1) rfl (show (IntKind.i64, q) = (IntKind.i64, r + 1) from Prod.ext rfl (show (q : Int) = r + 1 by omega))) ipNil))
  refine stepsTo_sound (T := ((RD (u := u) (res := res) (r := r) (wd := wd) (c0 := c0) (s := 0) (d := 0) h3 h4 h5 h6 h7 h8 h13 h14 (Nat.zero_le _) (Nat.zero_le _)).rtab rv0)) (T' := ((RL (x := x) (r1 := r1) (q := q) (s := 0) (d := 0) g1 g2).tab)) (K := Hand.none) (m := 5000) fb.mixed (@HandOk.none ((RD (u := u) (res := res) (r := r) (wd := wd) (c0 := c0) (s := 0) (d := 0) h3 h4 h5 h6 h7 h8 h13 h14 (Nat.zero_le _) (Nat.zero_le _)).rtab rv0) Tryz.prog) (C := ⟨14758, 17010, ofPairs rlQ, ipQ⟩) (ex := .exit 0) (rl := rlQ) (vp := []) (fs := fsq) (bs := bsq)
    hb (by decide) rfl (by kernel_rfl) hip vpNil (glNone rfl rfl) (by as_aux_lemma => kernel_rfl) (St.same (VRows.rsame _ _ _) s_) (fun a' w' q_ => ⟨rfl, by rw [bqq] at q_; exact q_⟩)
noncomputable abbrev rlT : List (Nat × Nat) := [(14758, 14758)]
noncomputable abbrev ipT : IP := [(.oi 2, 2), (.oi 3, 3)]
theorem tail {x r1 q : Int} (g1 : 2 ≤ x) (g2 : x < 15) (hb : Base B μ 14758) (s : St ((RL (x := x) (r1 := r1) (q := q) (s := 0) (d := 0) g1 g2).tab) B w0 μ nt (frOf fsq) (hOf 17010 bsE) a w) : fb.tl.wp Tryz.prog (@Done ((RL (x := x) (r1 := r1) (q := q) (s := 0) (d := 0) g1 g2).tab) Tryz.prog Tryz.f47 B w0 μ CR.v (hOf 17010 bsF)) a w := by
  letI : Tab := ((RL (x := x) (r1 := r1) (q := q) (s := 0) (d := 0) g1 g2).tab)
  have hip : IpOk ((RL (x := x) (r1 := r1) (q := q) (s := 0) (d := 0) g1 g2).tab) ((RL (x := x) (r1 := r1) (q := q) (s := 0) (d := 0) g1 g2).tab) ipT := (ipCons (ipN _ rfl rfl) (ipCons (ipN _ rfl rfl) ipNil))
  refine wp_mono (runTo_sound (T := ((RL (x := x) (r1 := r1) (q := q) (s := 0) (d := 0) g1 g2).tab)) (T' := ((RL (x := x) (r1 := r1) (q := q) (s := 0) (d := 0) g1 g2).tab)) (K := K_top0) (n := 5000) fb.mixed (@K_top0_ok ((RL (x := x) (r1 := r1) (q := q) (s := 0) (d := 0) g1 g2).tab)) (C := ⟨14758, 17010, ofPairs rlT, ipT⟩) (ex := .ret) (rl := rlT) (vp := []) (fs := [(10, .ptr 14758 0)]) (bs := bsF)
    hb (by decide) rfl (by kernel_rfl) hip vpNil (glNone rfl rfl) (by as_aux_lemma => kernel_rfl) s) ?_
  rintro e' a' w' ⟨rfl, s'⟩
  exact St.done (.inr rfl) (by kernel_rfl) s'
noncomputable abbrev rlB : List (Nat × Nat) := [(20000, 14758), (20001, 15874), (20002, 15875), (20003, 15873), (20004, 15878), (20005, 15876)]
noncomputable abbrev ipB : IP := [(.int .i64 1, 2), (.oi 0, 0)]
noncomputable abbrev bsB : BS := [(7001, 7001, (.map [((.str 1 77), (.ptr 13892 0), 0)] 1)), (7002, 7002, (.map [((.str 19 2439265639030268300842157990401791553877467498), (.ptr 7199 0), 0), ((.str 29 3085170664936786167588614718972924591866388410301586339335837578584426), (.ptr 7347 0), 1), ((.str 29 2977327179366744475310567174670984700336777289692309623825572795146602), (.ptr 7456 0), 2), ((.str 40 921438131347674524995356669863897659779420152864154109574888483886346161678995665599280333611370), (.ptr 7567 0), 3), ((.str 29 2977327179366744475310578792928741468592950331792981622238945052352874), (.ptr 7681 0), 4), ((.str 28 11630184294401345606682283003339240975915084228737354846334270988650), (.ptr 7794 0), 5), ((.str 31 202189744697330995387852485397630371027294446829100397077902765524415570282), (.ptr 7891 0), 6), ((.str 26 183890501555036136351903328603364899342229922045770665733546346), (.ptr 7985 0), 7), ((.str 15 594182256714433171583859471190221162), (.ptr 8076 0), 8), ((.str 19 2462787319999361794871408518597065734545105258), (.ptr 8166 0), 9), ((.str 37 56911353679811531822920492603033782110087255578636309514658723732473720363105297718731114), (.ptr 8272 0), 10), ((.str 28 12051447909910759173808661238977857107111767888823090726697178653034), (.ptr 8375 0), 11), ((.str 38 14060030080378334426808655457799320232265086119729716606675995945190890063755479020322840938), (.ptr 8490 0), 12), ((.str 38 14569306542030247732875768419210667608278730874565438596096215620376147580735894642209743210), (.ptr 8588 0), 13), ((.str 35 838043098472257520366253329360822735706660890049674080341799799296269125818196058474), (.ptr 8681 0), 14), ((.str 28 12051447909910278778317482300033197087305720853520054876288643916138), (.ptr 8786 0), 15), ((.str 22 42815343838886881203639546329033052610660173325164906), (.ptr 8885 0), 16), ((.str 36 214539033208897925213755128370838752992305990670598911423725060199978812837976799076714), (.ptr 8997 0), 17), ((.str 30 789803690223817235625993454897404583541813632134065715887439951296881002), (.ptr 9093 0), 18), ((.str 26 183890501555012814945400634590948384637649511452497603397575018), (.ptr 9194 0), 19), ((.str 27 47075968398083285027902446257440240237115773113246055769402925418), (.ptr 9296 0), 20), ((.str 30 762195757917886585679527096405151622096281774544538073876077408773628266), (.ptr 9406 0), 21), ((.str 16 154706541852025644484233205990057992554), (.ptr 9417 0), 22), ((.str 26 183890501555043540957095622503328518117729969598634276033028458), (.ptr 9528 0), 23), ((.str 26 177462528906270532328520934635542489792491443287338843928682858), (.ptr 9620 0), 24), ((.str 28 12051447909911140811364177168575840195048631602135540194265359868266), (.ptr 9727 0), 25), ((.str 16 137483774941304901841256615957136564586), (.ptr 9748 0), 26), ((.str 23 10956966084090815260342509131105871416374185281426186602), (.ptr 9805 0), 27), ((.str 41 235888161625004678398811307485157800903531559133223452051171428016118026562849321940164899390251370), (.ptr 9945 0), 28), ((.str 16 145412635431568811361768410208787652970), (.ptr 9957 0), 29), ((.str 19 2261816869159440624969593107871851903301607786), (.ptr 10045 0), 30), ((.str 38 14569306542031293471471962209605688152784288289213751582725315083544705153644676387098222954), (.ptr 10145 0), 31), ((.str 21 167247436870678459232146883126634948762985622298986), (.ptr 10245 0), 32)] 33)), (7003, 7003, (.cells 3 false [] (T.ofList 0 .leaf [(.map 7001), (.map 7002), (.so 14753 0 1 1)]))), (9417, 9417, (.cells 8 false [] (T.ofList 0 .leaf [(.int .i64 52), .nils, (.int .i64 33), (.str 16 154706541852025644484233205990057992554), (.str 0 0), .nils, .nils, (.so 9429 0 3 9)]))), (10262, 10262, (.cells 7 false [] (T.ofList 0 .leaf [(.ptr 10256 0), (.ptr 10258 0), (.ptr 7003 0), (.so 10976 0 39 3), .nils, (.bool false), (.bool false)]))), (13602, 13602, (.cells 4 false [] (T.ofList 0 .leaf [(.ov 20001 2 1), (.ov 20002 2 1), (.ov 20003 2 7), (.int .i64 8)]))), (13603, 13603, (.map [((.str 1 77), (.ptr 15862 0), 0), ((.str 16 154706541852025644484233205990057992554), (.ptr 15867 0), 1)] 2)), (13604, 13604, (.map [((.str 1 77), (.int .i64 0), 0)] 1)), (13605, 13605, (.map [] 0)), (13606, 13606, (.cells 32 false [] (T.ofList 0 .leaf [(.ptr 7003 0), (.ptr 10261 0), (.ptr 10256 0), (.ptr 10258 0), (.ptr 10262 0), (.ptr 13602 0), (.ov 20004 2 1), (.map 13603), (.map 13604), .nils, (.int .i64 1), (.int .i64 3), (.int .i64 6), (.int .i64 0), .nilp, (.bool true), (.int .i64 100000), (.int .i64 0), (.int .i64 0), (.int .i64 0), (.int .i64 0), (.int .i64 0), (.int .u8 0), (.int .i64 0), (.str 0 0), (.str 0 0), (.bool false), (.int .i64 0), .nils, (.int .i64 0), (.int .i64 0), (.map 13605)]))), (13892, 13892, (.cells 8 false [] (T.ofList 0 .leaf [(.int .i64 52), (.sl 13894 0 11 11), (.int .i64 33), (.str 1 77), (.str 16 154706541852025644484233205990057992554), .nils, .nils, (.so 14751 0 1 9)]))), (13894, 13894, (.cells 55 false [(.int .i64 0), (.str 0 0), (.int .i64 0), (.int .i64 0), (.int .i64 0)] (ofPairs [(5, (.int .i64 1)), (6, (.str 1 77)), (7, (.int .i64 0)), (8, (.int .i64 0)), (9, (.int .i64 0)), (10, (.int .i64 7)), (11, (.str 0 0)), (12, (.int .i64 0)), (13, (.int .i64 1)), (14, (.int .i64 0)), (15, (.int .i64 1)), (16, (.str 3 6449510)), (17, (.int .i64 0)), (18, (.int .i64 0)), (19, (.int .i64 0)), (20, (.int .i64 1)), (21, (.str 4 1227442472)), (22, (.int .i64 0)), (23, (.int .i64 0)), (24, (.int .i64 0)), (25, (.int .i64 12)), (26, (.str 0 0)), (27, (.int .i64 0)), (28, (.int .i64 3)), (29, (.int .i64 4)), (30, (.int .i64 10)), (31, (.str 0 0)), (32, (.int .i64 0)), (33, (.int .i64 2)), (34, (.int .i64 5)), (35, (.int .i64 1)), (36, (.str 13 8035587729358898777305137640531)), (37, (.int .i64 0)), (38, (.int .i64 0)), (39, (.int .i64 0)), (40, (.int .i64 1)), (41, (.str 4 1701080899)), (42, (.int .i64 0)), (43, (.int .i64 0)), (44, (.int .i64 0)), (45, (.int .i64 1)), (46, (.str 16 154706541852025644484233205990057992554)), (47, (.int .i64 0)), (48, (.int .i64 0)), (49, (.int .i64 0)), (50, (.int .i64 7)), (51, (.str 0 0)), (52, (.int .i64 0)), (53, (.int .i64 9)), (54, (.int .i64 0))]))), (14243, 14243, (.cells 21 true [] (T.ofList 0 .leaf [(.int .u8 26), (.int .u8 5), (.int .u8 162), (.int .u8 0), (.int .u8 5), (.int .u8 26), (.int .u8 172), (.int .u8 26), (.int .u8 4), (.int .u8 100), (.int .u8 184), (.int .u8 0), (.int .u8 6), (.int .u8 26), (.int .u8 5), (.int .u8 100), (.int .u8 184), (.int .u8 0), (.int .u8 6), (.int .u8 96), (.int .u8 172)]))), (14746, 14746, (.cells 4 true [] (T.ofList 0 .leaf [(.int .i64 7), (.int .i64 7), .nils, .nils]))), (14751, 14751, (.cells 9 true [] (T.ofList 0 .leaf [(.int .i64 9), (.str 3 6449510), (.str 4 1227442472), (.bool true), (.int .i64 3), (.int .i64 1), (.so 14243 0 21 1), .nils, (.so 14746 0 1 4)]))), (15862, 15862, (.cells 2 false [] (T.ofList 0 .leaf [(.int .i64 2), (.sl 15866 0 0 0)]))), (15867, 15867, (.cells 2 false [] (T.ofList 0 .leaf [(.int .i64 2), .nils]))), (20000, 14758, (.cells 11 false [] (T.ofList 0 .leaf [(.int .i64 0), (.int .i64 0), (.int .u8 0), (.int .i64 0), (.str 0 0), (.str 0 0), (.bool false), (.int .i64 0), .nils, (.int .i64 0), (.int .i64 0)]))), (20001, 15874, (.vec 0)), (20002, 15875, (.vec 1)), (20003, 15873, (.vec 2)), (20004, 15878, (.vec 3)), (20005, 15876, (.cells 6 false [] (T.ofList 0 .leaf [(.int .i64 0), (.int .i64 0), (.ptr 13892 0), (.int .i64 0), (.int .i64 0), .nilp])))]
theorem bqB : hOf 20010 bsB = hOf 20010 fb.bsB := hOf_congr (by kernel_rfl)
theorem CR_ok {x r1 q : Int} (g1 : 2 ≤ x) (g2 : x < 15) (n : Nat) (hn : x = n) (e1 : (fb.fN n : Int) = r1) (e2 : 2 + (fb.kN n : Int) = q) : @InOk Tryz.prog CR ((RL (x := x) (r1 := r1) (q := q) (s := 0) (d := 0) g1 g2).tab) := by
  letI : Tab := ((RL (x := x) (r1 := r1) (q := q) (s := 0) (d := 0) g1 g2).tab)
  refine ⟨by kernel_rfl, hOf 17010 bsF, ?_, by unfold hOf; rw [fT_eq]; rfl, by kernel_rfl⟩
  refine callOk_of (fn := Tryz.f47) Tryz.func47 bodyR (by decide +kernel) (by decide) fun B w0 μ0 a w hb0 s0 => ?_
  obtain ⟨μ, hx, hb, s, hnm⟩ := St.rebase hb0 s0
  have hb : Base B μ 14758 := by
    have h := hb
    rw [show (hIn CR.N CR.bs).next = 14758 from hIn_next] at h
    exact h
  have hbU : Base B μ 20000 := baseUp hb (by decide)
  have hM : ∃ l, μ 13892 = some l := hnm 13892 (.cells 8 false [] (T.ofList 0 .leaf [(.int .i64 52), (.sl 13894 0 11 11), (.int .i64 33), (.str 1 77), (.str 16 154706541852025644484233205990057992554), .nils, .nils, (.so 14751 0 1 9)])) (by kernel_rfl)
  refine wp_mono (Q := @Done ((RL (x := x) (r1 := r1) (q := q) (s := 0) (d := 0) g1 g2).tab) Tryz.prog Tryz.f47 B w0 μ CR.v (hOf 17010 bsF)) ?_ (fun e a w d => Done.ext hx d)
  have hip : IpOk ((RL (x := x) (r1 := r1) (q := q) (s := 0) (d := 0) g1 g2).tab) (fb.PB x 0 0 rv0) ipB := (ipCons (ipK (show (IntKind.i64, ((0 + 1 : Nat) : Int)) = (IntKind.i64, 1) from Prod.ext rfl (show (((0 + 1 : Nat) : Int) : Int) = 1 by omega))) (ipCons (ipN (.i64, x) rfl rfl) ipNil))
  have hvp : VpOk ((RL (x := x) (r1 := r1) (q := q) (s := 0) (d := 0) g1 g2).tab) (fb.PB x 0 0 rv0) ⟨20000, 20010, ofPairs rlB, ipB⟩ [(15874, .cells 1 true [] (T.ofList 0 .leaf [(.oi 0)]), 0), (15875, .cells 1 true [] (T.ofList 0 .leaf [(.bool false)]), 1), (15873, .cells 7 true [] (T.ofList 0 .leaf [(.int .i64 0), (.int .i64 0), (.int .i64 0), (.int .i64 0), (.int .i64 1), (.int .i64 3), (.int .i64 0)]), 2), (15878, .cells 1 true [] (T.ofList 0 .leaf [(.ptr 15876 0)]), 3)] := (vpCons (vpCells (c := 0) (L := [(.oi 0)]) (L' := [(.oi 0)]) (i' := 0) hip rfl rfl (by decide) (show pk 0 [(.oi 0)] ≤ 1 from by decide) (by kernel_rfl)) (vpCons (vpCells (c := 1) (L := [(.bool false)]) (L' := [(.bool false)]) (i' := 1) hip rfl rfl (by decide) (show pk 0 [(.bool false)] ≤ 1 from by decide) (by kernel_rfl)) (vpCons (vpCells (c := 2) (L := [(.int .i64 0), (.int .i64 0), (.int .i64 0), (.int .i64 0), (.int .i64 1), (.int .i64 3), (.int .i64 0)]) (L' := [(.int .i64 0), (.int .i64 0), (.int .i64 0), (.int .i64 0), (.int .i64 1), (.int .i64 3), (.int .i64 0)]) (i' := 2) hip rfl rfl (by decide) (show pk 0 [(.int .i64 0), (.int .i64 0), (.int .i64 0), (.int .i64 0), (.int .i64 1), (.int .i64 3), (.int .i64 0)] ≤ 7 from by decide) (by kernel_rfl)) (vpCons (vpCells (c := 3) (L := [(.ptr 15876 0)]) (L' := [(.ptr 20005 0)]) (i' := 3) hip rfl rfl (by decide) (show pk 0 [(.ptr 20005 0)] ≤ 1 from by decide) (by kernel_rfl)) vpNil))))
  refine firstTo_sound (T := ((RL (x := x) (r1 := r1) (q := q) (s := 0) (d := 0) g1 g2).tab)) (T' := (fb.PB x 0 0 rv0)) (K := K_top0) (m := 5000) (n := 2) fb.mixed (@K_top0_ok ((RL (x := x) (r1 := r1) (q := q) (s := 0) (d := 0) g1 g2).tab)) (C := ⟨20000, 20010, ofPairs rlB, ipB⟩) (rl := rlB) (vp := [(15874, .cells 1 true [] (T.ofList 0 .leaf [(.oi 0)]), 0), (15875, .cells 1 true [] (T.ofList 0 .leaf [(.bool false)]), 1), (15873, .cells 7 true [] (T.ofList 0 .leaf [(.int .i64 0), (.int .i64 0), (.int .i64 0), (.int .i64 0), (.int .i64 1), (.int .i64 3), (.int .i64 0)]), 2), (15878, .cells 1 true [] (T.ofList 0 .leaf [(.ptr 15876 0)]), 3)]) (fs := fb.fsR) (bs := bsB)
    hbU (by decide) rfl (by kernel_rfl) hip hvp (glNone rfl rfl) (by as_aux_lemma => kernel_rfl) s fun a' w' s' => ?_
  rw [bqB] at s'
  rw [restR]
  have kb := fb.kN_bd n (by omega)
  have fb_ := fb.fN_bd n (by omega)
  refine wp_seq (wp_block (wp_mono (wp_loop_rounds _ (fb.runS (Q := Q_ (x := x) (r1 := r1) (q := q) g1 g2 B w0 μ) (j := 0 + 1) n (by omega) (by omega) hbU hM hn s' fun u res' r' wd' c0' a2 w2 f1 f2 f3 f4 q => ?_)) ?_))
  · exact goQ g1 g2 (by omega) (by omega) (by omega) (by omega) (by omega) (by omega) (by omega) (by omega) (by omega) (by omega) (by omega) hb q
  · rintro e2 a2 w2 ⟨rfl, s2⟩
    exact tail g1 g2 hb s2
end
end Go.Proofs.YtfkfmjlppllfoaaGreatDoor.fc
