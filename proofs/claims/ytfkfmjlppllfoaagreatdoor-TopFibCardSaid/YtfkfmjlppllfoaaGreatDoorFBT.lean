/-
  Beginning and end of the machine within the law TopFib.
-/
import Derived.Test.YtfkfmjlppllfoaaGreatDoorXN3
import Derived.Test.YtfkfmjlppllfoaaGreatDoorFBR
import Derived.Test.YtfkfmjlppllfoaaGreatDoorProg
import Derived.KernelRfl
set_option linter.unusedSectionVars false
set_option linter.unusedVariables false
set_option maxRecDepth 1000000
set_option maxHeartbeats 0
namespace Go.Proofs.YtfkfmjlppllfoaaGreatDoor.fb
open Go.X Go.RowKit
abbrev ivB (v : Int) (s : Nat) (d : Nat) : Nat → IntKind × Int
  | 0 => (.i64, v)
  | 1 => (.i64, ((0 : Nat) : Int))
  | 2 => (.i64, ((0 + 1 : Nat) : Int))
  | 3 => (.i64, ((0 + 2 : Nat) : Int))
  | _ => (.i64, 0)
abbrev vvB (s d : Nat) : Nat → Nat → Option AV
  | 0 => pv (0) 0 [(.oi 0)]
  | 1 => pv (0) 1 [(.bool false)]
  | 2 => pv (0) 2 [(.int .i64 0), (.int .i64 0), (.int .i64 0), (.int .i64 0), (.int .i64 1), (.int .i64 3), (.int .i64 0)]
  | 3 => pv (0) 3 [(.ptr 20005 0)]
  | 4 => pv (0) 2 [(.int .i64 0), (.int .i64 0), (.int .i64 0), (.int .i64 0), (.int .i64 1), (.int .i64 3), (.int .i64 1)]
  | 5 => pv (0) 0 [(.oi 0), (.oi 0)]
  | 6 => pv (0) 1 [(.bool false), (.bool false)]
  | _ => fun _ => none
abbrev vkB (s d : Nat) : Nat → Nat
  | 0 => pk (0) [(.oi 0)]
  | 1 => pk (0) [(.bool false)]
  | 2 => pk (0) [(.int .i64 0), (.int .i64 0), (.int .i64 0), (.int .i64 0), (.int .i64 1), (.int .i64 3), (.int .i64 0)]
  | 3 => pk (0) [(.ptr 20005 0)]
  | 4 => pk (0) [(.int .i64 0), (.int .i64 0), (.int .i64 0), (.int .i64 0), (.int .i64 1), (.int .i64 3), (.int .i64 1)]
  | 5 => pk (0) [(.oi 0), (.oi 0)]
  | 6 => pk (0) [(.bool false), (.bool false)]
  | _ => 0
theorem vpB (s d : Nat) : ∀ i m a, vvB s d i m = some a → vplain a = true
  | 0, _, _, h => pv_plainB rfl h
  | 1, _, _, h => pv_plainB rfl h
  | 2, _, _, h => pv_plainB rfl h
  | 3, _, _, h => pv_plainB rfl h
  | 4, _, _, h => pv_plainB rfl h
  | 5, _, _, h => pv_plainB rfl h
  | 6, _, _, h => pv_plainB rfl h
  | _ + 7, _, _, h => (by cases h)
abbrev PB (v : Int) (s : Nat) (d : Nat) (rv : Nat → Value) : Tab := ((bare (ivB v s d) (vvB s d) (vkB s d) (vpB s d)).rtab rv)
noncomputable abbrev bsB : BS := [(7001, 7001, (.map [((.str 1 77), (.ptr 13892 0), 0)] 1)), (7002, 7002, kb0), (7003, 7003, kb1), (9417, 9417, kb2), (10262, 10262, kb3), (13602, 13602, (.cells 4 false [] (T.ofList 0 .leaf [(.ov 20001 2 1), (.ov 20002 2 1), (.ov 20003 2 7), (.int .i64 8)]))), (13603, 13603, kb4), (13604, 13604, (.map [((.str 1 77), (.int .i64 0), 0)] 1)), (13605, 13605, (.map [] 0)), (13606, 13606, (.cells 32 false [] (T.ofList 0 .leaf [(.ptr 7003 0), (.ptr 10261 0), (.ptr 10256 0), (.ptr 10258 0), (.ptr 10262 0), (.ptr 13602 0), (.ov 20004 2 1), (.map 13603), (.map 13604), .nils, (.int .i64 1), (.int .i64 3), (.int .i64 6), (.int .i64 0), .nilp, (.bool true), (.int .i64 100000), (.int .i64 0), (.int .i64 0), (.int .i64 0), (.int .i64 0), (.int .i64 0), (.int .u8 0), (.int .i64 0), (.str 0 0), (.str 0 0), (.bool false), (.int .i64 0), .nils, (.int .i64 0), (.int .i64 0), (.map 13605)]))), (13892, 13892, kb5), (13894, 13894, kb6), (14243, 14243, kb7), (14746, 14746, kb8), (14751, 14751, kb9), (15862, 15862, kb11), (15867, 15867, kb12), (20000, 20000, kb10), (20001, 20001, (.vec 0)), (20002, 20002, (.vec 1)), (20003, 20003, (.vec 2)), (20004, 20004, (.vec 3)), (20005, 20005, (.cells 6 false [] (T.ofList 0 .leaf [(.int .i64 0), (.int .i64 0), (.ptr 13892 0), (.int .i64 0), (.int .i64 0), .nilp])))]
def SB (v : Int) (s : Nat) (d : Nat) (rv : Nat → Value) (B : Kp) (w0 : World) (μ : M) (a : Act) (w : World) : Prop := St (PB v s d rv) B w0 μ Tryz.f47.ntmps (frOf fsR) (hOf 20010 bsB) a w
abbrev ivD (u : Int) (res : Int) (r : Int) (wd : Int) (c0 : Int) (s : Nat) (d : Nat) : Nat → IntKind × Int
  | 0 => (.i64, u)
  | 1 => (.i64, res)
  | 2 => (.i64, r)
  | 3 => (.i64, wd)
  | 4 => (.i64, c0)
  | 5 => (.i64, ((0 : Nat) : Int))
  | 6 => (.i64, ((0 + 2 : Nat) : Int))
  | 7 => (.i64, ((0 + 1 : Nat) : Int))
  | 8 => (.i64, r + 1)
  | 9 => (.i64, c0 + 1)
  | 10 => (.i64, wd - 8)
  | _ => (.i64, 0)
abbrev vvD (s d : Nat) : Nat → Nat → Option AV
  | 0 => pv (0) 0 [(.oi 0), (.oi 1)]
  | 1 => pv (0) 1 [(.bool false), (.bool false)]
  | 2 => pv (0) 2 [(.int .i64 0), (.int .i64 0), (.int .i64 19), (.oi 5), (.int .i64 1), (.int .i64 3), (.int .i64 1)]
  | 3 => pv (0) 3 [(.ptr 20005 0)]
  | 4 => pv (0) 2 [(.int .i64 0), (.int .i64 0), (.int .i64 20), (.oi 5), (.int .i64 1), (.int .i64 3), (.int .i64 1)]
  | 5 => pv (0) 2 [(.int .i64 0), (.int .i64 0), (.int .i64 20), (.oi 5), (.int .i64 1), (.int .i64 3), (.int .i64 0)]
  | _ => fun _ => none
abbrev vkD (s d : Nat) : Nat → Nat
  | 0 => pk (0) [(.oi 0), (.oi 1)]
  | 1 => pk (0) [(.bool false), (.bool false)]
  | 2 => pk (0) [(.int .i64 0), (.int .i64 0), (.int .i64 19), (.oi 5), (.int .i64 1), (.int .i64 3), (.int .i64 1)]
  | 3 => pk (0) [(.ptr 20005 0)]
  | 4 => pk (0) [(.int .i64 0), (.int .i64 0), (.int .i64 20), (.oi 5), (.int .i64 1), (.int .i64 3), (.int .i64 1)]
  | 5 => pk (0) [(.int .i64 0), (.int .i64 0), (.int .i64 20), (.oi 5), (.int .i64 1), (.int .i64 3), (.int .i64 0)]
  | _ => 0
theorem vpD (s d : Nat) : ∀ i m a, vvD s d i m = some a → vplain a = true
  | 0, _, _, h => pv_plainB rfl h
  | 1, _, _, h => pv_plainB rfl h
  | 2, _, _, h => pv_plainB rfl h
  | 3, _, _, h => pv_plainB rfl h
  | 4, _, _, h => pv_plainB rfl h
  | 5, _, _, h => pv_plainB rfl h
  | _ + 6, _, _, h => (by cases h)
abbrev PD (u : Int) (res : Int) (r : Int) (wd : Int) (c0 : Int) (s : Nat) (d : Nat) (rv : Nat → Value) : Tab := ((bare (ivD u res r wd c0 s d) (vvD s d) (vkD s d) (vpD s d)).rtab rv)
noncomputable abbrev bsD : BS := [(10262, 10262, kb3), (13602, 13602, (.cells 4 false [] (T.ofList 0 .leaf [(.ov 20001 6 1), (.ov 20002 6 1), (.ov 20003 7 7), (.oi 3)]))), (13603, 13603, kb4), (13605, 13605, (.map [((.str 10 345494341284064378891853), (.oi 4), 0)] 1)), (13606, 13606, (.cells 32 false [] (T.ofList 0 .leaf [(.ptr 7003 0), (.ptr 10261 0), (.ptr 10256 0), (.ptr 10258 0), (.ptr 10262 0), (.ptr 13602 0), (.ov 20004 7 1), (.map 13603), (.map 13604), .nils, (.int .i64 1), (.int .i64 3), (.int .i64 6), (.int .i64 0), .nilp, (.bool true), (.int .i64 100000), (.oi 2), (.int .i64 0), (.int .i64 1), (.int .i64 0), (.int .i64 0), (.int .u8 0), (.int .i64 0), (.str 0 0), (.str 0 0), (.bool false), (.int .i64 0), .nils, (.int .i64 0), (.int .i64 0), (.map 13605)]))), (13892, 13892, kb5), (14243, 14243, kb7), (14746, 14746, kb8), (14751, 14751, kb9), (15862, 15862, kb11), (15867, 15867, kb12), (20000, 20000, kb10), (20001, 20001, (.vec 0)), (20002, 20002, (.vec 1)), (20003, 20003, (.vec 2)), (20004, 20004, (.vec 3)), (20005, 20005, kb19)]
def SD (u : Int) (res : Int) (r : Int) (wd : Int) (c0 : Int) (s : Nat) (d : Nat) (rv : Nat → Value) (B : Kp) (w0 : World) (μ : M) (a : Act) (w : World) : Prop := St (PD u res r wd c0 s d rv) B w0 μ Tryz.f47.ntmps (frOf fsR) (hOf 20010 bsD) a w
section
variable {B : Kp} {w0 w w1 : World} {μ μ0 : M} {a : Act}
theorem ibS {v : Int} {s : Nat} {d : Nat} (h1 : 0 ≤ v) (h2 : v ≤ 200) : ∀ x_ ∈ ([(9, .oi 2, .int .i64 0, .bool false), (1, .oi 2, .int .i64 1, .oi 1), (11, .oi 1, .oi 2, .bool true), (14, .oi 1, .int .i64 0, .bool true)] : List BRow), IbOk (ivB v s d) x_ := by
  letI := Tab.empty
  exact (ibCons (ibEq (a := (((0 + 1 : Nat) : Int))) (b := (0)) rfl rfl (decide_eq_false (by omega)))
    (ibCons (ibSub (a := (((0 + 1 : Nat) : Int))) (b := (1)) (c := (((0 : Nat) : Int))) rfl rfl rfl (by first | assumption | omega) (by omega) (by omega))
    (ibCons (ibLt (a := (((0 : Nat) : Int))) (b := (((0 + 1 : Nat) : Int))) rfl rfl (decide_eq_true (by omega)))
    (ibCons (ibGe (a := (((0 : Nat) : Int))) (b := (0)) rfl rfl (decide_eq_true (by omega)))
    ibNil))))
theorem icS {v : Int} {s : Nat} {d : Nat} (h1 : 0 ≤ v) (h2 : v ≤ 200) : ∀ x_ ∈ ([] : List (IntKind × AV × AV)), IcOk' (ivB v s d) x_ := icNil
theorem vlS {v : Int} {s : Nat} {d : Nat} (h1 : 0 ≤ v) (h2 : v ≤ 200) : ∀ x_ ∈ ([⟨3, 1, 1, 0, [(.ptr 20005 0)]⟩, ⟨2, 1, 7, 4, [(.int .i64 1)]⟩, ⟨2, 1, 7, 3, [(.int .i64 0)]⟩, ⟨0, 1, 1, 0, [(.oi 0)]⟩, ⟨1, 1, 1, 0, [(.bool false)]⟩, ⟨2, 1, 7, 6, [(.int .i64 0)]⟩, ⟨2, 1, 7, 5, [(.int .i64 3)]⟩] : List VL), VlOk (ivB v s d) (vvB s d) x_ :=
  (allCons (vlP (k := 0) (b := 0) (c := 3) (o := 0) (L := [(.ptr 20005 0)]) rfl rfl (by show (0) * 1 + 0 = 0 + 0; omega) rfl)
    (allCons (vlP (k := 0) (b := 0) (c := 2) (o := 4) (L := [(.int .i64 0), (.int .i64 0), (.int .i64 0), (.int .i64 0), (.int .i64 1), (.int .i64 3), (.int .i64 0)]) rfl rfl (by show (0) * 7 + 4 = 0 + 4; omega) rfl)
    (allCons (vlP (k := 0) (b := 0) (c := 2) (o := 3) (L := [(.int .i64 0), (.int .i64 0), (.int .i64 0), (.int .i64 0), (.int .i64 1), (.int .i64 3), (.int .i64 0)]) rfl rfl (by show (0) * 7 + 3 = 0 + 3; omega) rfl)
    (allCons (vlP (k := 0) (b := 0) (c := 0) (o := 0) (L := [(.oi 0)]) rfl rfl (by show (0) * 1 + 0 = 0 + 0; omega) rfl)
    (allCons (vlP (k := 0) (b := 0) (c := 1) (o := 0) (L := [(.bool false)]) rfl rfl (by show (0) * 1 + 0 = 0 + 0; omega) rfl)
    (allCons (vlP (k := 0) (b := 0) (c := 2) (o := 6) (L := [(.int .i64 0), (.int .i64 0), (.int .i64 0), (.int .i64 0), (.int .i64 1), (.int .i64 3), (.int .i64 0)]) rfl rfl (by show (0) * 7 + 6 = 0 + 6; omega) rfl)
    (allCons (vlP (k := 0) (b := 0) (c := 2) (o := 5) (L := [(.int .i64 0), (.int .i64 0), (.int .i64 0), (.int .i64 0), (.int .i64 1), (.int .i64 3), (.int .i64 0)]) rfl rfl (by show (0) * 7 + 5 = 0 + 5; omega) rfl)
    allNil)))))))
theorem vsS {v : Int} {s : Nat} {d : Nat} (h1 : 0 ≤ v) (h2 : v ≤ 200) : ∀ x_ ∈ ([⟨2, 1, 7, 2, [(.int .i64 0)], 2⟩, ⟨2, 1, 7, 6, [(.int .i64 1)], 4⟩] : List VS), VsOk (ivB v s d) (vvB s d) (vkB s d) x_ :=
  (allCons (vsP (k := 0) (b := 0) (c := 2) (o := 2) (L := [(.int .i64 0), (.int .i64 0), (.int .i64 0), (.int .i64 0), (.int .i64 1), (.int .i64 3), (.int .i64 0)]) (L' := [(.int .i64 0), (.int .i64 0), (.int .i64 0), (.int .i64 0), (.int .i64 1), (.int .i64 3), (.int .i64 0)]) rfl rfl rfl rfl rfl (by show (0) * 7 + 2 = 0 + 2; omega) rfl (by decide))
    (allCons (vsP (k := 0) (b := 0) (c := 2) (o := 6) (L := [(.int .i64 0), (.int .i64 0), (.int .i64 0), (.int .i64 0), (.int .i64 1), (.int .i64 3), (.int .i64 0)]) (L' := [(.int .i64 0), (.int .i64 0), (.int .i64 0), (.int .i64 0), (.int .i64 1), (.int .i64 3), (.int .i64 1)]) rfl rfl rfl rfl rfl (by show (0) * 7 + 6 = 0 + 6; omega) rfl (by decide))
    allNil))
theorem vaS {v : Int} {s : Nat} {d : Nat} (h1 : 0 ≤ v) (h2 : v ≤ 200) : ∀ x_ ∈ ([⟨0, 2, 1, [(.oi 0)], 5, 3⟩, ⟨1, 2, 1, [(.bool false)], 6, 3⟩] : List VA), VaOk (ivB v s d) (vvB s d) (vkB s d) x_ :=
  (allCons (vaP (j := 0 + 1) (j' := 0 + 2) (b := 0) (c := 0) (o := 1) (L := [(.oi 0)]) (L' := [(.oi 0), (.oi 0)]) rfl rfl rfl rfl rfl (by show (0 + 1) * 1 = 0 + 1; omega) (by show (0 + 2) * 1 = 0 + 1 + 1; omega) rfl (by decide) (by show 0 + 2 < 1000000; omega))
    (allCons (vaP (j := 0 + 1) (j' := 0 + 2) (b := 0) (c := 1) (o := 1) (L := [(.bool false)]) (L' := [(.bool false), (.bool false)]) rfl rfl rfl rfl rfl (by show (0 + 1) * 1 = 0 + 1; omega) (by show (0 + 2) * 1 = 0 + 1 + 1; omega) rfl (by decide) (by show 0 + 2 < 1000000; omega))
    allNil))
abbrev RS {v : Int} {s : Nat} {d : Nat} (h1 : 0 ≤ v) (h2 : v ≤ 200) : VRows (ivB v s d) (vvB s d) (vkB s d) where
  vvp := vpB s d
  ib := [(9, .oi 2, .int .i64 0, .bool false), (1, .oi 2, .int .i64 1, .oi 1), (11, .oi 1, .oi 2, .bool true), (14, .oi 1, .int .i64 0, .bool true)]
  ibok := ibS h1 h2
  ic := []
  icok := icS h1 h2
  vl := [⟨3, 1, 1, 0, [(.ptr 20005 0)]⟩, ⟨2, 1, 7, 4, [(.int .i64 1)]⟩, ⟨2, 1, 7, 3, [(.int .i64 0)]⟩, ⟨0, 1, 1, 0, [(.oi 0)]⟩, ⟨1, 1, 1, 0, [(.bool false)]⟩, ⟨2, 1, 7, 6, [(.int .i64 0)]⟩, ⟨2, 1, 7, 5, [(.int .i64 3)]⟩]
  vlok := vlS h1 h2
  vs := [⟨2, 1, 7, 2, [(.int .i64 0)], 2⟩, ⟨2, 1, 7, 6, [(.int .i64 1)], 4⟩]
  vsok := vsS h1 h2
  va := [⟨0, 2, 1, [(.oi 0)], 5, 3⟩, ⟨1, 2, 1, [(.bool false)], 6, 3⟩]
  vaok := vaS h1 h2
  vc := [(0, 1)]
  vcok := (allCons rfl allNil)
noncomputable abbrev rl_goS : List (Nat × Nat) := [(20000, 20000), (20001, 20028), (20002, 20029), (20003, 20003), (20004, 20004), (20005, 20005)]
noncomputable abbrev bs_goS : BS := [(7001, 7001, (.map [((.str 1 77), (.ptr 13892 0), 0)] 1)), (7002, 7002, kb0), (7003, 7003, kb1), (9417, 9417, kb2), (10262, 10262, kb3), (13602, 13602, (.cells 4 false [] (T.ofList 0 .leaf [(.ov 20001 6 1), (.ov 20002 6 1), (.ov 20003 7 7), (.oi 2)]))), (13603, 13603, kb4), (13604, 13604, (.map [((.str 1 77), (.int .i64 0), 0)] 1)), (13605, 13605, (.map [((.str 10 345494341284064378891853), (.oi 3), 0)] 1)), (13606, 13606, (.cells 32 false [] (T.ofList 0 .leaf [(.ptr 7003 0), (.ptr 10261 0), (.ptr 10256 0), (.ptr 10258 0), (.ptr 10262 0), (.ptr 13602 0), (.ov 20004 7 1), (.map 13603), (.map 13604), .nils, (.int .i64 1), (.int .i64 3), (.int .i64 6), (.int .i64 0), .nilp, (.bool true), (.int .i64 100000), (.oi 1), (.int .i64 0), (.int .i64 1), (.int .i64 0), (.int .i64 0), (.int .u8 0), (.int .i64 0), (.str 0 0), (.str 0 0), (.bool false), (.int .i64 0), .nils, (.int .i64 0), (.int .i64 0), (.map 13605)]))), (13892, 13892, kb5), (13894, 13894, kb6), (14243, 14243, kb7), (14746, 14746, kb8), (14751, 14751, kb9), (15862, 15862, kb11), (15867, 15867, kb12), (20000, 20000, kb10), (20001, 20028, (.vec 0)), (20002, 20029, (.vec 1)), (20003, 20003, (.vec 2)), (20004, 20004, (.vec 3)), (20005, 20005, kb13)]
noncomputable abbrev ip_goS : IP := [(.oi 3, 6), (.oi 2, 7), (.int .i64 8, 2), (.int .i64 1, 3), (.int .i64 1, 1), (.oi 0, 0), (.int .i64 0, 4)]
theorem bq_goS : hOf 20010 bs_goS = hOf 20010 bsE := hOf_congr (by kernel_rfl)
theorem goS {v : Int} {s : Nat} {d : Nat} (h1 : 0 ≤ v) (h2 : v ≤ 200) {rv : Nat → Value} (hb : Base B μ 20000) {Q : Exit → Act → World → Prop} {j_ : Nat} (s_ : SB v 0 0 rv B w0 μ a w) (hQ : ∀ a' w', SE (v) (1) (8) (1) (0) (0) rv B w0 μ a' w' → Code.rounds Tryz.prog la Q j_ a' w') : Code.rounds Tryz.prog la Q (j_ + 1) a w := by
  have hip : IpOk ((RS (v := v) (s := 0) (d := 0) h1 h2).rtab rv) (PE (v) (1) (8) (1) (0) (0) rv) ip_goS := (ipCons (ipN (.i64, ((0 + 2 : Nat) : Int)) rfl rfl) (ipCons (ipN (.i64, ((0 + 1 : Nat) : Int)) rfl rfl) (ipCons (ipK (show (IntKind.i64, 8) = (IntKind.i64, 8) from Prod.ext rfl (show (8 : Int) = 8 by omega))) (ipCons (ipK (show (IntKind.i64, 1) = (IntKind.i64, 1) from Prod.ext rfl (show (1 : Int) = 1 by omega))) (ipCons (ipK (show (IntKind.i64, 1) = (IntKind.i64, 1) from Prod.ext rfl (show (1 : Int) = 1 by omega))) (ipCons (ipN (.i64, v) rfl rfl) (ipCons (ipK (show (IntKind.i64, ((0 : Nat) : Int)) = (IntKind.i64, 0) from Prod.ext rfl (show (((0 : Nat) : Int) : Int) = 0 by omega))) ipNil)))))))
  have hvp : VpOk ((RS (v := v) (s := 0) (d := 0) h1 h2).rtab rv) (PE (v) (1) (8) (1) (0) (0) rv) ⟨20000, 20010, ofPairs rl_goS, ip_goS⟩ [(20028, .vec 5, 0), (20029, .vec 6, 1), (20003, .vec 4, 2), (20004, .vec 3, 3)] := (vpCons (vpPre (b := 0) (c := 0) (L := [(.oi 0), (.oi 0)]) (L' := [(.oi 0), (.oi 0)]) (i := 5) (i' := 0) hip rfl rfl rfl (Nat.add_le_add_left (by decide) _) (by kernel_rfl))
    (vpCons (vpPre (b := 0) (c := 1) (L := [(.bool false), (.bool false)]) (L' := [(.bool false), (.bool false)]) (i := 6) (i' := 1) hip rfl rfl rfl (Nat.add_le_add_left (by decide) _) (by kernel_rfl))
    (vpCons (vpPre (b := 0) (c := 2) (L := [(.int .i64 0), (.int .i64 0), (.int .i64 0), (.int .i64 0), (.int .i64 1), (.int .i64 3), (.int .i64 1)]) (L' := [(.int .i64 0), (.int .i64 0), (.int .i64 0), (.oi 4), (.int .i64 1), (.int .i64 3), (.int .i64 1)]) (i := 4) (i' := 2) hip rfl rfl rfl (Nat.add_le_add_left (by decide) _) (by kernel_rfl))
    (vpCons (vpPre (b := 0) (c := 3) (L := [(.ptr 20005 0)]) (L' := [(.ptr 20005 0)]) (i := 3) (i' := 3) hip rfl rfl rfl (Nat.add_le_add_left (by decide) _) (by kernel_rfl))
    vpNil))))
  exact stepsTo_sound (T := ((RS (v := v) (s := 0) (d := 0) h1 h2).rtab rv)) (T' := (PE (v) (1) (8) (1) (0) (0) rv)) (K := Hand.none) (m := 5000) mixed (@HandOk.none ((RS (v := v) (s := 0) (d := 0) h1 h2).rtab rv) Tryz.prog) (C := ⟨20000, 20010, ofPairs rl_goS, ip_goS⟩) (ex := .normal) (rl := rl_goS) (vp := [(20028, .vec 5, 0), (20029, .vec 6, 1), (20003, .vec 4, 2), (20004, .vec 3, 3)]) (fs := fsR) (bs := bs_goS)
    hb (by decide) rfl (by kernel_rfl) hip hvp (glNone rfl rfl) (by as_aux_lemma => kernel_rfl) (St.same (VRows.rsame _ _ _) s_) (fun a' w' q => hQ a' w' (by rw [bq_goS] at q; exact q))
noncomputable abbrev rl_D : List (Nat × Nat) := [(20000, 20000), (20001, 20001), (20002, 20002), (20003, 20003), (20004, 20004), (20005, 20005)]
noncomputable abbrev ip_D : IP := [(.oi 0, 6), (.oi 1, 7), (.oi 2, 3), (.oi 3, 4), (.oi 4, 2), (.oi 5, 0), (.oi 6, 1), (.oi 7, 5)]
theorem toD {u res r wd c0 : Int} {rv : Nat → Value} (hb : Base B μ0 20000) (s_ : SR20 u res r wd c0 0 0 rv B w0 μ0 a w) : SD u res r wd c0 0 0 rv B w0 μ0 a w := by
  have hip : IpOk (PR20 u res r wd c0 0 0 rv) (PD u res r wd c0 0 0 rv) ip_D := (ipCons (ipN (.i64, ((0 + 2 : Nat) : Int)) rfl rfl) (ipCons (ipN (.i64, ((0 + 1 : Nat) : Int)) rfl rfl) (ipCons (ipN (.i64, wd) rfl rfl) (ipCons (ipN (.i64, c0) rfl rfl) (ipCons (ipN (.i64, r) rfl rfl) (ipCons (ipN (.i64, u) rfl rfl) (ipCons (ipN (.i64, res) rfl rfl) (ipCons (ipN (.i64, ((0 : Nat) : Int)) rfl rfl) ipNil))))))))
  have hvp : VpOk (PR20 u res r wd c0 0 0 rv) (PD u res r wd c0 0 0 rv) ⟨20000, 20010, ofPairs rl_D, ip_D⟩ [(20001, .vec 0, 0), (20002, .vec 1, 1), (20003, .vec 2, 2), (20004, .vec 3, 3)] := (vpCons (vpPre (b := 0) (c := 0) (L := [(.oi 5), (.oi 6)]) (L' := [(.oi 0), (.oi 1)]) (i := 0) (i' := 0) hip rfl rfl rfl (Nat.add_le_add_left (by decide) _) (by kernel_rfl))
    (vpCons (vpPre (b := 0) (c := 1) (L := [(.bool false), (.bool false)]) (L' := [(.bool false), (.bool false)]) (i := 1) (i' := 1) hip rfl rfl rfl (Nat.add_le_add_left (by decide) _) (by kernel_rfl))
    (vpCons (vpPre (b := 0) (c := 2) (L := [(.int .i64 0), (.int .i64 0), (.int .i64 19), (.oi 7), (.int .i64 1), (.int .i64 3), (.int .i64 1)]) (L' := [(.int .i64 0), (.int .i64 0), (.int .i64 19), (.oi 5), (.int .i64 1), (.int .i64 3), (.int .i64 1)]) (i := 2) (i' := 2) hip rfl rfl rfl (Nat.add_le_add_left (by decide) _) (by kernel_rfl))
    (vpCons (vpPre (b := 0) (c := 3) (L := [(.ptr 20005 0)]) (L' := [(.ptr 20005 0)]) (i := 3) (i' := 3) hip rfl rfl rfl (Nat.add_le_add_left (by decide) _) (by kernel_rfl))
    vpNil))))
  exact St.weak (T := (PR20 u res r wd c0 0 0 rv)) (T' := (PD u res r wd c0 0 0 rv)) (C := ⟨20000, 20010, ofPairs rl_D, ip_D⟩) hb (by decide) (rl := rl_D) rfl (by kernel_rfl) hip hvp (glNone rfl rfl) (fs := fsR) (bs := bsD) (by kernel_rfl) (by kernel_rfl) s_
theorem runS {rv : Nat → Value} {Q : Exit → Act → World → Prop} {j : Nat} {v : Int} {a : Act} {w : World} (n : Nat) (hn : 2 ≤ n) (hn2 : n ≤ 14) (hb : Base B μ 20000) (hM : ∃ l, μ 13892 = some l) (hv : v = n)
    (s_ : SB v 0 0 rv B w0 μ a w)
    (kD : ∀ (u res' r' wd' c0' : Int) (a' : Act) (w' : World), res' = fN n → r' = 1 + kN n → wd' = 8 → c0' = 1 + kN n → SD u res' r' wd' c0' 0 0 rv B w0 μ a' w' → Code.rounds Tryz.prog la Q j a' w') :
    Code.rounds Tryz.prog la Q (j + kN n + 1) a w := by
  have kb := kN_bd n (by omega)
  refine goS (s := 0) (d := 0) (by omega) (by omega) hb s_ (fun a1 w1 q1 => ?_)
  refine (calls_ok n).1 hn2 hb hM hv (by omega) (by omega) (by omega) (by omega) (by omega) (by omega) (by omega) (by omega) q1 (fun h => absurd h (by omega)) ?_
  intro _ u res' r' wd' c0' a' w' x1 x2 x3 x4 x5 x6 q
  exact kD u res' r' wd' c0' a' w' x3 x4 x5 x6 (toD hb q)
end
end Go.Proofs.YtfkfmjlppllfoaaGreatDoor.fb
