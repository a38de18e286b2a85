/-
  Beginning and ends of the machine within the law TopUnwind.
-/
import Derived.Test.YtfkfmjlppllfoaaGreatDoorUNN
import Derived.Test.YtfkfmjlppllfoaaGreatDoorXN3
import Derived.Test.YtfkfmjlppllfoaaGreatDoorUNR
import Derived.Test.YtfkfmjlppllfoaaGreatDoorUST
import Derived.Test.YtfkfmjlppllfoaaGreatDoorProg
import Derived.KernelRfl
set_option linter.unusedSectionVars false
set_option linter.unusedVariables false
set_option maxRecDepth 1000000
set_option maxHeartbeats 0
namespace Go.Proofs.YtfkfmjlppllfoaaGreatDoor.un
open Go.X Go.RowKit Go.Proofs.YtfkfmjlppllfoaaGreatDoor
noncomputable abbrev kd44 : Blk := (.cells 4 false [] (T.ofList 0 .leaf [(.ov 20001 7 1), (.ov 20002 7 1), (.ov 20003 8 7), (oN 4)]))
noncomputable abbrev kd45 : Blk := (.cells 32 false [] (T.ofList 0 .leaf [(pN 7243), (pN 10501), (pN 10496), (pN 10498), (pN 10502), (pN 13842), (.ov 20004 8 1), (.map 13843), (.map 13844), .nils, z1, (iN 3), (iN 6), z0, .nilp, bT, (iN 5000), (oN 3), z0, z1, z0, z0, (uN 0), z0, tx11, tx11, bF, z0, .nils, z0, z0, (.map 13845)]))
abbrev ivB (v : Int) (lv : Int) (s : Nat) (d : Nat) (S : Nat) (W : Nat) : Nat → IntKind × Int
  | 0 => (.i64, v)
  | 1 => (.i64, lv)
  | 2 => (.i64, ((0 : Nat) : Int))
  | 3 => (.i64, ((0 + 2 : Nat) : Int))
  | 4 => (.i64, ((0 + 1 : Nat) : Int))
  | 5 => (.i64, ((0 + 3 : Nat) : Int))
  | _ => (.i64, 0)
abbrev vvB (s d S W : Nat) : Nat → Nat → Option AV
  | 0 => pv (0) 0 [(oN 0), (oN 1)]
  | 1 => pv (0) 1 [bF, bF]
  | 2 => pv (0) 2 [z0, z0, z0, z0, z2, (iN 3), z0]
  | 3 => pv (0) 3 [(pN 20005)]
  | 4 => pv (0) 2 [z0, z0, z0, z0, z2, (iN 3), z1]
  | 5 => pv (0) 0 [(oN 0), (oN 1), (oN 0)]
  | 6 => pv (0) 1 [bF, bF, bF]
  | _ => fun _ => none
abbrev vkB (s d S W : Nat) : Nat → Nat
  | 0 => pk (0) [(oN 0), (oN 1)]
  | 1 => pk (0) [bF, bF]
  | 2 => pk (0) [z0, z0, z0, z0, z2, (iN 3), z0]
  | 3 => pk (0) [(pN 20005)]
  | 4 => pk (0) [z0, z0, z0, z0, z2, (iN 3), z1]
  | 5 => pk (0) [(oN 0), (oN 1), (oN 0)]
  | 6 => pk (0) [bF, bF, bF]
  | _ => 0
theorem vpB (s d S W : Nat) : ∀ i m a, vvB s d S W i m = some a → vplain a = true
  | 0, _, _, h => pv_plainB rfl h
  | 1, _, _, h => pv_plainB rfl h
  | 2, _, _, h => pv_plainB rfl h
  | 3, _, _, h => pv_plainB rfl h
  | 4, _, _, h => pv_plainB rfl h
  | 5, _, _, h => pv_plainB rfl h
  | 6, _, _, h => pv_plainB rfl h
  | _ + 7, _, _, h => (by cases h)
abbrev PB (v : Int) (lv : Int) (s : Nat) (d : Nat) (S : Nat) (W : Nat) (rv : Nat → Value) : Tab := ((bare (ivB v lv s d S W) (vvB s d S W) (vkB s d S W) (vpB s d S W)).rtab rv)
noncomputable abbrev bsB : BS := [(7241, 7241, (.map [(tx51, (pN 14138), 0)] 1)), (7242, 7242, kb0), (7243, 7243, kb1), (8406, 8406, kb2), (9657, 9657, kb3), (9860, 9860, kb4), (9869, 9869, kb5), (10285, 10285, kb6), (10299, 10299, kb7), (10495, 10495, kb8), (10496, 10496, kb9), (10502, 10502, kb10), (11216, 11216, kb11), (13842, 13842, (.cells 4 false [] (T.ofList 0 .leaf [(.ov 20001 3 1), (.ov 20002 3 1), (.ov 20003 4 7), (iN 9)]))), (13843, 13843, kb12), (13844, 13844, (.map [(tx51, z0, 0)] 1)), (13845, 13845, (.map [] 0)), (13846, 13846, (.cells 32 false [] (T.ofList 0 .leaf [(pN 7243), (pN 10501), (pN 10496), (pN 10498), (pN 10502), (pN 13842), (.ov 20004 4 1), (.map 13843), (.map 13844), .nils, z1, (iN 3), (iN 6), z0, .nilp, bT, (iN 5000), z0, z0, z0, z0, z0, (uN 0), z0, tx11, tx11, bF, z0, .nils, z0, z0, (.map 13845)]))), (14063, 14063, kb13), (14064, 14064, kb14), (14066, 14066, kb15), (14138, 14138, kb16), (14140, 14140, kb17), (14709, 14709, kb18), (15514, 15514, kb19), (15576, 15576, kb20), (15581, 15581, kb21), (17787, 17787, kb23), (17792, 17792, kb24), (20000, 20000, kb22), (20001, 20001, (.vec 0)), (20002, 20002, (.vec 1)), (20003, 20003, (.vec 2)), (20004, 20004, (.vec 3)), (20005, 20005, (.cells 6 false [] (T.ofList 0 .leaf [z0, z0, (pN 14138), z0, z0, .nilp])))]
def SB (v : Int) (lv : Int) (s : Nat) (d : Nat) (S : Nat) (W : Nat) (rv : Nat → Value) (B : Kp) (w0 : World) (μ : M) (a : Act) (w : World) : Prop := St (PB v lv s d S W rv) B w0 μ Tryz.f47.ntmps (frOf fsR) (hOf 20040 bsB) a w
abbrev ivD27 (u : Int) (lu : Int) (res : Int) (r : Int) (wd : Int) (c0 : Int) (s : Nat) (d : Nat) (S : Nat) (W : Nat) : Nat → IntKind × Int
  | 0 => (.i64, u)
  | 1 => (.i64, lu)
  | 2 => (.i64, res)
  | 3 => (.i64, r)
  | 4 => (.i64, wd)
  | 5 => (.i64, c0)
  | 6 => (.i64, ((0 : Nat) : Int))
  | 7 => (.i64, ((0 + 3 : Nat) : Int))
  | 8 => (.i64, ((0 + 1 : Nat) : Int))
  | 9 => (.i64, r + 1)
  | 10 => (.i64, c0 + 1)
  | 11 => (.i64, ((0 + 2 : Nat) : Int))
  | 12 => (.i64, wd - 9)
  | _ => (.i64, 0)
abbrev vvD27 (s d S W : Nat) : Nat → Nat → Option AV
  | 0 => pv (0) 0 [(oN 0), (oN 1), (oN 2)]
  | 1 => pv (0) 1 [bF, bF, bF]
  | 2 => pv (0) 2 [z0, z0, (iN 26), (oN 6), z2, (iN 3), z1]
  | 3 => pv (0) 3 [(pN 20005)]
  | 4 => pv (0) 2 [z0, z0, (iN 27), (oN 6), z2, (iN 3), z1]
  | 5 => pv (0) 2 [z0, z0, (iN 27), (oN 6), z2, (iN 3), z0]
  | _ => fun _ => none
abbrev vkD27 (s d S W : Nat) : Nat → Nat
  | 0 => pk (0) [(oN 0), (oN 1), (oN 2)]
  | 1 => pk (0) [bF, bF, bF]
  | 2 => pk (0) [z0, z0, (iN 26), (oN 6), z2, (iN 3), z1]
  | 3 => pk (0) [(pN 20005)]
  | 4 => pk (0) [z0, z0, (iN 27), (oN 6), z2, (iN 3), z1]
  | 5 => pk (0) [z0, z0, (iN 27), (oN 6), z2, (iN 3), z0]
  | _ => 0
theorem vpD27 (s d S W : Nat) : ∀ i m a, vvD27 s d S W i m = some a → vplain a = true
  | 0, _, _, h => pv_plainB rfl h
  | 1, _, _, h => pv_plainB rfl h
  | 2, _, _, h => pv_plainB rfl h
  | 3, _, _, h => pv_plainB rfl h
  | 4, _, _, h => pv_plainB rfl h
  | 5, _, _, h => pv_plainB rfl h
  | _ + 6, _, _, h => (by cases h)
abbrev PD27 (u : Int) (lu : Int) (res : Int) (r : Int) (wd : Int) (c0 : Int) (s : Nat) (d : Nat) (S : Nat) (W : Nat) (rv : Nat → Value) : Tab := ((bare (ivD27 u lu res r wd c0 s d S W) (vvD27 s d S W) (vkD27 s d S W) (vpD27 s d S W)).rtab rv)
noncomputable abbrev bsD27 : BS := [(10502, 10502, kb10), (13842, 13842, kd44), (13843, 13843, kb32), (13845, 13845, (.map [(tx34, (oN 5), 0)] 1)), (13846, 13846, kd45), (14138, 14138, kb16), (14709, 14709, kb18), (15514, 15514, kb19), (15576, 15576, kb20), (15581, 15581, kb21), (17787, 17787, kb23), (17792, 17792, kb24), (20000, 20000, kb22), (20001, 20001, (.vec 0)), (20002, 20002, (.vec 1)), (20003, 20003, (.vec 2)), (20004, 20004, (.vec 3)), (20005, 20005, kb39), (20023, 20023, kb24)]
def SD27 (u : Int) (lu : Int) (res : Int) (r : Int) (wd : Int) (c0 : Int) (s : Nat) (d : Nat) (S : Nat) (W : Nat) (rv : Nat → Value) (B : Kp) (w0 : World) (μ : M) (a : Act) (w : World) : Prop := St (PD27 u lu res r wd c0 s d S W rv) B w0 μ Tryz.f47.ntmps (frOf fsR) (hOf 20040 bsD27) a w
abbrev ivD19 (u : Int) (lu : Int) (res : Int) (r : Int) (wd : Int) (c0 : Int) (s : Nat) (d : Nat) (S : Nat) (W : Nat) : Nat → IntKind × Int
  | 0 => (.i64, u)
  | 1 => (.i64, lu)
  | 2 => (.i64, res)
  | 3 => (.i64, r)
  | 4 => (.i64, wd)
  | 5 => (.i64, c0)
  | 6 => (.i64, ((0 : Nat) : Int))
  | 7 => (.i64, ((0 + 3 : Nat) : Int))
  | 8 => (.i64, ((0 + 1 : Nat) : Int))
  | 9 => (.i64, r + 1)
  | 10 => (.i64, c0 + 1)
  | 11 => (.i64, ((0 + 2 : Nat) : Int))
  | 12 => (.i64, wd - 9)
  | _ => (.i64, 0)
abbrev vvD19 (s d S W : Nat) : Nat → Nat → Option AV
  | 0 => pv (0) 0 [(oN 0), (oN 1), (oN 2)]
  | 1 => pv (0) 1 [bF, bF, bF]
  | 2 => pv (0) 2 [z0, z0, (iN 16), (oN 6), z2, (iN 3), z1]
  | 3 => pv (0) 3 [(pN 20005)]
  | 4 => pv (0) 2 [z0, z0, (iN 19), (oN 6), z2, (iN 3), z1]
  | 5 => pv (0) 2 [z0, z0, (iN 19), (oN 6), z2, (iN 3), z0]
  | _ => fun _ => none
abbrev vkD19 (s d S W : Nat) : Nat → Nat
  | 0 => pk (0) [(oN 0), (oN 1), (oN 2)]
  | 1 => pk (0) [bF, bF, bF]
  | 2 => pk (0) [z0, z0, (iN 16), (oN 6), z2, (iN 3), z1]
  | 3 => pk (0) [(pN 20005)]
  | 4 => pk (0) [z0, z0, (iN 19), (oN 6), z2, (iN 3), z1]
  | 5 => pk (0) [z0, z0, (iN 19), (oN 6), z2, (iN 3), z0]
  | _ => 0
theorem vpD19 (s d S W : Nat) : ∀ i m a, vvD19 s d S W i m = some a → vplain a = true
  | 0, _, _, h => pv_plainB rfl h
  | 1, _, _, h => pv_plainB rfl h
  | 2, _, _, h => pv_plainB rfl h
  | 3, _, _, h => pv_plainB rfl h
  | 4, _, _, h => pv_plainB rfl h
  | 5, _, _, h => pv_plainB rfl h
  | _ + 6, _, _, h => (by cases h)
abbrev PD19 (u : Int) (lu : Int) (res : Int) (r : Int) (wd : Int) (c0 : Int) (s : Nat) (d : Nat) (S : Nat) (W : Nat) (rv : Nat → Value) : Tab := ((bare (ivD19 u lu res r wd c0 s d S W) (vvD19 s d S W) (vkD19 s d S W) (vpD19 s d S W)).rtab rv)
noncomputable abbrev bsD19 : BS := [(10502, 10502, kb10), (13842, 13842, kd44), (13843, 13843, kb32), (13845, 13845, (.map [(tx34, (oN 5), 0)] 1)), (13846, 13846, kd45), (14138, 14138, kb16), (14709, 14709, kb18), (15514, 15514, kb19), (15576, 15576, kb20), (15581, 15581, kb21), (17787, 17787, kb23), (17792, 17792, kb24), (20000, 20000, kb22), (20001, 20001, (.vec 0)), (20002, 20002, (.vec 1)), (20003, 20003, (.vec 2)), (20004, 20004, (.vec 3)), (20005, 20005, kb40), (20023, 20023, kb24)]
def SD19 (u : Int) (lu : Int) (res : Int) (r : Int) (wd : Int) (c0 : Int) (s : Nat) (d : Nat) (S : Nat) (W : Nat) (rv : Nat → Value) (B : Kp) (w0 : World) (μ : M) (a : Act) (w : World) : Prop := St (PD19 u lu res r wd c0 s d S W rv) B w0 μ Tryz.f47.ntmps (frOf fsR) (hOf 20040 bsD19) a w
abbrev ivDA (u : Int) (lu : Int) (r : Int) (wd : Int) (c0 : Int) (s : Nat) (d : Nat) (S : Nat) (W : Nat) : Nat → IntKind × Int
  | 0 => (.i64, u)
  | 1 => (.i64, lu)
  | 2 => (.i64, ((W + 1 : Nat) : Int))
  | 3 => (.i64, r)
  | 4 => (.i64, wd)
  | 5 => (.i64, c0)
  | 6 => (.i64, ((0 : Nat) : Int))
  | 7 => (.i64, ((W : Nat) : Int))
  | 8 => (.i64, ((S : Nat) : Int))
  | 9 => (.i64, ((W + 3 : Nat) : Int))
  | 10 => (.i64, ((S + 1 : Nat) : Int))
  | 11 => (.i64, ((0 + 3 : Nat) : Int))
  | 12 => (.i64, ((0 + 1 : Nat) : Int))
  | 13 => (.i64, r + 1)
  | 14 => (.i64, c0 + 1)
  | 15 => (.i64, ((0 + 2 : Nat) : Int))
  | 16 => (.i64, wd - 9)
  | 17 => (.i64, ((W + 2 : Nat) : Int))
  | _ => (.i64, 0)
abbrev vvDA (s d S W : Nat) : Nat → Nat → Option AV
  | 0 => pvg noG (W) [(.int .u64 3), (.int .u64 0), (.int .u64 0)]
  | 1 => pvg bs.stG (S) [(oN 7)]
  | 2 => pv (0) 0 [(oN 0), (oN 1), (oN 2)]
  | 3 => pv (0) 1 [bF, bF, bT]
  | 4 => pv (0) 2 [z0, z0, (iN 32), (oN 6), z2, (iN 3), z1]
  | 5 => pv (0) 3 [(pN 20005)]
  | 6 => pv (0) 2 [z0, z0, (iN 35), (oN 6), z2, (iN 3), z1]
  | _ => fun _ => none
abbrev vkDA (s d S W : Nat) : Nat → Nat
  | 0 => pk (W) [(.int .u64 3), (.int .u64 0), (.int .u64 0)]
  | 1 => pk (S) [(oN 7)]
  | 2 => pk (0) [(oN 0), (oN 1), (oN 2)]
  | 3 => pk (0) [bF, bF, bT]
  | 4 => pk (0) [z0, z0, (iN 32), (oN 6), z2, (iN 3), z1]
  | 5 => pk (0) [(pN 20005)]
  | 6 => pk (0) [z0, z0, (iN 35), (oN 6), z2, (iN 3), z1]
  | _ => 0
theorem vpDA (s d S W : Nat) : ∀ i m a, vvDA s d S W i m = some a → vplain a = true
  | 0, _, _, h => pvg_plainB noG_plain rfl h
  | 1, _, _, h => pvg_plainB bs.stG_plain rfl h
  | 2, _, _, h => pv_plainB rfl h
  | 3, _, _, h => pv_plainB rfl h
  | 4, _, _, h => pv_plainB rfl h
  | 5, _, _, h => pv_plainB rfl h
  | 6, _, _, h => pv_plainB rfl h
  | _ + 7, _, _, h => (by cases h)
abbrev PDA (u : Int) (lu : Int) (r : Int) (wd : Int) (c0 : Int) (s : Nat) (d : Nat) (S : Nat) (W : Nat) (rv : Nat → Value) : Tab := ((bare (ivDA u lu r wd c0 s d S W) (vvDA s d S W) (vkDA s d S W) (vpDA s d S W)).rtab rv)
noncomputable abbrev bsDA : BS := [(10496, 10496, (.cells 5 false [] (T.ofList 0 .leaf [(pN 7243), (.ov 20021 9 1), (.ov 20022 10 1), (.so 20025 0 4 3), (.map 10495)]))), (10502, 10502, kb10), (13842, 13842, (.cells 4 false [] (T.ofList 0 .leaf [(.ov 20001 11 1), (.ov 20002 11 1), (.ov 20003 12 7), (oN 4)]))), (13843, 13843, kb32), (13845, 13845, (.map [(tx34, (oN 5), 0)] 1)), (13846, 13846, (.cells 32 false [] (T.ofList 0 .leaf [(pN 7243), (pN 10501), (pN 10496), (pN 10498), (pN 10502), (pN 13842), (.ov 20004 12 1), (.map 13843), (.map 13844), .nils, z1, (iN 3), (iN 6), z0, .nilp, bT, (iN 5000), (oN 3), z0, z1, z0, z0, (uN 0), z0, tx11, tx11, bF, z0, .nils, z0, z0, (.map 13845)]))), (14138, 14138, kb16), (14709, 14709, kb18), (15514, 15514, kb19), (15576, 15576, kb20), (15581, 15581, kb21), (17787, 17787, kb23), (17792, 17792, kb24), (20000, 20000, kb22), (20001, 20001, (.vec 2)), (20002, 20002, (.vec 3)), (20003, 20003, (.vec 4)), (20004, 20004, (.vec 5)), (20005, 20005, kb36), (20021, 20021, (.vec 0)), (20022, 20022, (.vec 1)), (20023, 20023, kb24), (20024, 20024, (.cells 1 true [] (T.ofList 0 .leaf [(uN 76)]))), (20025, 20025, kb35)]
def SDA (u : Int) (lu : Int) (r : Int) (wd : Int) (c0 : Int) (s : Nat) (d : Nat) (S : Nat) (W : Nat) (rv : Nat → Value) (B : Kp) (w0 : World) (μ : M) (a : Act) (w : World) : Prop := St (PDA u lu r wd c0 s d S W rv) B w0 μ Tryz.f47.ntmps (frOf fsR) (hOf 20040 bsDA) a w
section
variable {B : Kp} {w0 w w1 : World} {μ μ0 : M} {a : Act}
theorem ibS {v : Int} {lv : Int} {s : Nat} {d : Nat} {S : Nat} {W : Nat} (h1 : 0 ≤ v) (h2 : v ≤ 200) (hl : 0 ≤ lv) (hm : lv ≤ 200) : ∀ x_ ∈ ([(9, .oi 4, .int .i64 0, .bool false), (1, .oi 4, .int .i64 1, .oi 2), (11, .oi 2, .oi 4, .bool true), (14, .oi 2, .int .i64 0, .bool true), (11, .oi 2, .oi 3, .bool true)] : List BRow), IbOk (ivB v lv s d S W) x_ := by
  letI := Tab.empty
  exact (ibCons (ibEq (a := (((0 + 1 : Nat) : Int))) (b := (0)) rfl rfl (decide_eq_false (by omega)))
    (ibCons (ibSub (a := (((0 + 1 : Nat) : Int))) (b := (1)) (c := (((0 : Nat) : Int))) rfl rfl rfl (by first | assumption | omega) (by omega) (by omega))
    (ibCons (ibLt (a := (((0 : Nat) : Int))) (b := (((0 + 1 : Nat) : Int))) rfl rfl (decide_eq_true (by omega)))
    (ibCons (ibGe (a := (((0 : Nat) : Int))) (b := (0)) rfl rfl (decide_eq_true (by omega)))
    (ibCons (ibLt (a := (((0 : Nat) : Int))) (b := (((0 + 2 : Nat) : Int))) rfl rfl (decide_eq_true (by omega)))
    ibNil)))))
theorem icS {v : Int} {lv : Int} {s : Nat} {d : Nat} {S : Nat} {W : Nat} (h1 : 0 ≤ v) (h2 : v ≤ 200) (hl : 0 ≤ lv) (hm : lv ≤ 200) : ∀ x_ ∈ ([] : List (IntKind × AV × AV)), IcOk' (ivB v lv s d S W) x_ := icNil
theorem vlS {v : Int} {lv : Int} {s : Nat} {d : Nat} {S : Nat} {W : Nat} (h1 : 0 ≤ v) (h2 : v ≤ 200) (hl : 0 ≤ lv) (hm : lv ≤ 200) : ∀ x_ ∈ ([⟨3, 2, 1, 0, [(pN 20005)]⟩, ⟨2, 2, 7, 4, [z2]⟩, ⟨2, 2, 7, 3, [z0]⟩, ⟨0, 2, 1, 0, [(oN 0)]⟩, ⟨1, 2, 1, 0, [bF]⟩, ⟨2, 2, 7, 6, [z0]⟩, ⟨2, 2, 7, 5, [(iN 3)]⟩] : List VL), VlOk (ivB v lv s d S W) (vvB s d S W) x_ :=
  (allCons (vlP (k := 0) (b := 0) (c := 3) (o := 0) (L := [(pN 20005)]) rfl rfl (by show (0) * 1 + 0 = 0 + 0; omega) rfl)
    (allCons (vlP (k := 0) (b := 0) (c := 2) (o := 4) (L := [z0, z0, z0, z0, z2, (iN 3), z0]) rfl rfl (by show (0) * 7 + 4 = 0 + 4; omega) rfl)
    (allCons (vlP (k := 0) (b := 0) (c := 2) (o := 3) (L := [z0, z0, z0, z0, z2, (iN 3), z0]) rfl rfl (by show (0) * 7 + 3 = 0 + 3; omega) rfl)
    (allCons (vlP (k := 0) (b := 0) (c := 0) (o := 0) (L := [(oN 0), (oN 1)]) rfl rfl (by show (0) * 1 + 0 = 0 + 0; omega) rfl)
    (allCons (vlP (k := 0) (b := 0) (c := 1) (o := 0) (L := [bF, bF]) rfl rfl (by show (0) * 1 + 0 = 0 + 0; omega) rfl)
    (allCons (vlP (k := 0) (b := 0) (c := 2) (o := 6) (L := [z0, z0, z0, z0, z2, (iN 3), z0]) rfl rfl (by show (0) * 7 + 6 = 0 + 6; omega) rfl)
    (allCons (vlP (k := 0) (b := 0) (c := 2) (o := 5) (L := [z0, z0, z0, z0, z2, (iN 3), z0]) rfl rfl (by show (0) * 7 + 5 = 0 + 5; omega) rfl)
    allNil)))))))
theorem vsS {v : Int} {lv : Int} {s : Nat} {d : Nat} {S : Nat} {W : Nat} (h1 : 0 ≤ v) (h2 : v ≤ 200) (hl : 0 ≤ lv) (hm : lv ≤ 200) : ∀ x_ ∈ ([⟨2, 2, 7, 2, [z0], 2⟩, ⟨2, 2, 7, 6, [z1], 4⟩] : List VS), VsOk (ivB v lv s d S W) (vvB s d S W) (vkB s d S W) x_ :=
  (allCons (vsP (k := 0) (b := 0) (c := 2) (o := 2) (L := [z0, z0, z0, z0, z2, (iN 3), z0]) (L' := [z0, z0, z0, z0, z2, (iN 3), z0]) rfl rfl rfl rfl rfl (by show (0) * 7 + 2 = 0 + 2; omega) rfl (by decide))
    (allCons (vsP (k := 0) (b := 0) (c := 2) (o := 6) (L := [z0, z0, z0, z0, z2, (iN 3), z0]) (L' := [z0, z0, z0, z0, z2, (iN 3), z1]) rfl rfl rfl rfl rfl (by show (0) * 7 + 6 = 0 + 6; omega) rfl (by decide))
    allNil))
theorem vaS {v : Int} {lv : Int} {s : Nat} {d : Nat} {S : Nat} {W : Nat} (h1 : 0 ≤ v) (h2 : v ≤ 200) (hl : 0 ≤ lv) (hm : lv ≤ 200) : ∀ x_ ∈ ([⟨0, 3, 1, [(oN 0)], 5, 5⟩, ⟨1, 3, 1, [bF], 6, 5⟩] : List VA), VaOk (ivB v lv s d S W) (vvB s d S W) (vkB s d S W) x_ :=
  (allCons (vaP (j := 0 + 2) (j' := 0 + 3) (b := 0) (c := 0) (o := 2) (L := [(oN 0), (oN 1)]) (L' := [(oN 0), (oN 1), (oN 0)]) rfl rfl rfl rfl rfl (by show (0 + 2) * 1 = 0 + 2; omega) (by show (0 + 3) * 1 = 0 + 2 + 1; omega) rfl (by decide) (by show 0 + 3 < 1000000; omega))
    (allCons (vaP (j := 0 + 2) (j' := 0 + 3) (b := 0) (c := 1) (o := 2) (L := [bF, bF]) (L' := [bF, bF, bF]) rfl rfl rfl rfl rfl (by show (0 + 2) * 1 = 0 + 2; omega) (by show (0 + 3) * 1 = 0 + 2 + 1; omega) rfl (by decide) (by show 0 + 3 < 1000000; omega))
    allNil))
abbrev RS {v : Int} {lv : Int} {s : Nat} {d : Nat} {S : Nat} {W : Nat} (h1 : 0 ≤ v) (h2 : v ≤ 200) (hl : 0 ≤ lv) (hm : lv ≤ 200) : VRows (ivB v lv s d S W) (vvB s d S W) (vkB s d S W) where
  vvp := vpB s d S W
  ib := [(9, .oi 4, .int .i64 0, .bool false), (1, .oi 4, .int .i64 1, .oi 2), (11, .oi 2, .oi 4, .bool true), (14, .oi 2, .int .i64 0, .bool true), (11, .oi 2, .oi 3, .bool true)]
  ibok := ibS h1 h2 hl hm
  ic := []
  icok := icS h1 h2 hl hm
  vl := [⟨3, 2, 1, 0, [(pN 20005)]⟩, ⟨2, 2, 7, 4, [z2]⟩, ⟨2, 2, 7, 3, [z0]⟩, ⟨0, 2, 1, 0, [(oN 0)]⟩, ⟨1, 2, 1, 0, [bF]⟩, ⟨2, 2, 7, 6, [z0]⟩, ⟨2, 2, 7, 5, [(iN 3)]⟩]
  vlok := vlS h1 h2 hl hm
  vs := [⟨2, 2, 7, 2, [z0], 2⟩, ⟨2, 2, 7, 6, [z1], 4⟩]
  vsok := vsS h1 h2 hl hm
  va := [⟨0, 3, 1, [(oN 0)], 5, 5⟩, ⟨1, 3, 1, [bF], 6, 5⟩]
  vaok := vaS h1 h2 hl hm
  vc := [(0, 2)]
  vcok := (allCons rfl allNil)
noncomputable abbrev rl_goS : List (Nat × Nat) := [(20000, 20000), (20001, 20058), (20002, 20059), (20003, 20003), (20004, 20004), (20005, 20005)]
noncomputable abbrev bs_goS : BS := [(7241, 7241, (.map [(tx51, (pN 14138), 0)] 1)), (7242, 7242, kb0), (7243, 7243, kb1), (8406, 8406, kb2), (9657, 9657, kb3), (9860, 9860, kb4), (9869, 9869, kb5), (10285, 10285, kb6), (10299, 10299, kb7), (10495, 10495, kb8), (10496, 10496, kb9), (10502, 10502, kb10), (11216, 11216, kb11), (13842, 13842, (.cells 4 false [] (T.ofList 0 .leaf [(.ov 20001 7 1), (.ov 20002 7 1), (.ov 20003 8 7), (oN 3)]))), (13843, 13843, kb12), (13844, 13844, (.map [(tx51, z0, 0)] 1)), (13845, 13845, (.map [(tx34, (oN 4), 0)] 1)), (13846, 13846, (.cells 32 false [] (T.ofList 0 .leaf [(pN 7243), (pN 10501), (pN 10496), (pN 10498), (pN 10502), (pN 13842), (.ov 20004 8 1), (.map 13843), (.map 13844), .nils, z1, (iN 3), (iN 6), z0, .nilp, bT, (iN 5000), (oN 2), z0, z1, z0, z0, (uN 0), z0, tx11, tx11, bF, z0, .nils, z0, z0, (.map 13845)]))), (14063, 14063, kb13), (14064, 14064, kb14), (14066, 14066, kb15), (14138, 14138, kb16), (14140, 14140, kb17), (14709, 14709, kb18), (15514, 15514, kb19), (15576, 15576, kb20), (15581, 15581, kb21), (17787, 17787, kb23), (17792, 17792, kb24), (20000, 20000, kb22), (20001, 20058, (.vec 0)), (20002, 20059, (.vec 1)), (20003, 20003, (.vec 2)), (20004, 20004, (.vec 3)), (20005, 20005, kb25)]
noncomputable abbrev ip_goS : IP := [(.oi 5, 7), (.oi 4, 8), (.int .i64 9, 3), (.int .i64 1, 4), (.int .i64 1, 2), (.oi 0, 0), (.oi 1, 1), (.int .i64 0, 5)]
theorem bq_goS : hOf 20040 bs_goS = hOf 20040 bsE := hOf_congr (by kernel_rfl)
theorem goS {v : Int} {lv : Int} {s : Nat} {d : Nat} {S : Nat} {W : Nat} (h1 : 0 ≤ v) (h2 : v ≤ 200) (hl : 0 ≤ lv) (hm : lv ≤ 200) {rv : Nat → Value} (hb : Base B μ 20000) {Q : Exit → Act → World → Prop} {j_ : Nat} (s_ : SB v lv 0 0 0 0 rv B w0 μ a w) (hQ : ∀ a' w', SE (v) (lv) (1) (9) (1) (0) (0) (0) (0) rv B w0 μ a' w' → Code.rounds Tryz.prog la Q j_ a' w') : Code.rounds Tryz.prog la Q (j_ + 1) a w := by
  have hip : IpOk ((RS (v := v) (lv := lv) (s := 0) (d := 0) (S := 0) (W := 0) h1 h2 hl hm).rtab rv) (PE (v) (lv) (1) (9) (1) (0) (0) (0) (0) rv) ip_goS := (ipCons (ipN (.i64, ((0 + 3 : Nat) : Int)) rfl rfl) (ipCons (ipN (.i64, ((0 + 1 : Nat) : Int)) rfl rfl) (ipCons (ipK (show (IntKind.i64, 9) = (IntKind.i64, 9) from Prod.ext rfl (show (9 : Int) = 9 by omega))) (ipCons (ipK (show (IntKind.i64, 1) = (IntKind.i64, 1) from Prod.ext rfl (show (1 : Int) = 1 by omega))) (ipCons (ipK (show (IntKind.i64, 1) = (IntKind.i64, 1) from Prod.ext rfl (show (1 : Int) = 1 by omega))) (ipCons (ipN (.i64, v) rfl rfl) (ipCons (ipN (.i64, lv) rfl rfl) (ipCons (ipK (show (IntKind.i64, ((0 : Nat) : Int)) = (IntKind.i64, 0) from Prod.ext rfl (show (((0 : Nat) : Int) : Int) = 0 by omega))) ipNil))))))))
  have hvp : VpOk ((RS (v := v) (lv := lv) (s := 0) (d := 0) (S := 0) (W := 0) h1 h2 hl hm).rtab rv) (PE (v) (lv) (1) (9) (1) (0) (0) (0) (0) rv) ⟨20000, 20040, ofPairs rl_goS, ip_goS⟩ [(20058, .vec 5, 0), (20059, .vec 6, 1), (20003, .vec 4, 2), (20004, .vec 3, 3)] := (vpCons (vpPre (b := 0) (c := 0) (L := [(oN 0), (oN 1), (oN 0)]) (L' := [(oN 0), (oN 1), (oN 0)]) (i := 5) (i' := 0) hip rfl rfl rfl (Nat.add_le_add_left (by decide) _) (by kernel_rfl))
    (vpCons (vpPre (b := 0) (c := 1) (L := [bF, bF, bF]) (L' := [bF, bF, bF]) (i := 6) (i' := 1) hip rfl rfl rfl (Nat.add_le_add_left (by decide) _) (by kernel_rfl))
    (vpCons (vpPre (b := 0) (c := 2) (L := [z0, z0, z0, z0, z2, (iN 3), z1]) (L' := [z0, z0, z0, (oN 5), z2, (iN 3), z1]) (i := 4) (i' := 2) hip rfl rfl rfl (Nat.add_le_add_left (by decide) _) (by kernel_rfl))
    (vpCons (vpPre (b := 0) (c := 3) (L := [(pN 20005)]) (L' := [(pN 20005)]) (i := 3) (i' := 3) hip rfl rfl rfl (Nat.add_le_add_left (by decide) _) (by kernel_rfl))
    vpNil))))
  exact stepsTo_sound (T := ((RS (v := v) (lv := lv) (s := 0) (d := 0) (S := 0) (W := 0) h1 h2 hl hm).rtab rv)) (T' := (PE (v) (lv) (1) (9) (1) (0) (0) (0) (0) rv)) (K := Hand.none) (m := 5000) mixed (@HandOk.none ((RS (v := v) (lv := lv) (s := 0) (d := 0) (S := 0) (W := 0) h1 h2 hl hm).rtab rv) Tryz.prog) (C := ⟨20000, 20040, ofPairs rl_goS, ip_goS⟩) (ex := .normal) (rl := rl_goS) (vp := [(20058, .vec 5, 0), (20059, .vec 6, 1), (20003, .vec 4, 2), (20004, .vec 3, 3)]) (fs := fsR) (bs := bs_goS)
    hb (by decide) rfl (by kernel_rfl) hip hvp (glNone rfl rfl) (by as_aux_lemma => kernel_rfl) (St.same (VRows.rsame _ _ _) s_) (fun a' w' q => hQ a' w' (by rw [bq_goS] at q; exact q))
noncomputable abbrev rl_toD27 : List (Nat × Nat) := [(20000, 20000), (20001, 20001), (20002, 20002), (20003, 20003), (20004, 20004), (20005, 20005), (20023, 20023)]
noncomputable abbrev ip_toD27 : IP := [(.oi 0, 7), (.oi 1, 8), (.oi 2, 4), (.oi 3, 5), (.oi 4, 3), (.oi 8, 6), (.oi 5, 0), (.oi 6, 1), (.oi 7, 2)]
theorem toD27 {u lu res r wd c0 : Int} {rv : Nat → Value} (hb : Base B μ0 20000) (s_ : SR27 (u) (lu) (res) (r) (wd) (c0) (0) (0) (0) (0) rv B w0 μ0 a w) : SD27 (u) (lu) (res) (r) (wd) (c0) (0) (0) (0) (0) rv B w0 μ0 a w := by
  have hip : IpOk (PR27 (u) (lu) (res) (r) (wd) (c0) (0) (0) (0) (0) rv) (PD27 (u) (lu) (res) (r) (wd) (c0) (0) (0) (0) (0) rv) ip_toD27 := (ipCons (ipN (.i64, ((0 + 3 : Nat) : Int)) rfl rfl) (ipCons (ipN (.i64, ((0 + 1 : Nat) : Int)) rfl rfl) (ipCons (ipN (.i64, wd) rfl rfl) (ipCons (ipN (.i64, c0) rfl rfl) (ipCons (ipN (.i64, r) rfl rfl) (ipCons (ipN (.i64, ((0 : Nat) : Int)) rfl rfl) (ipCons (ipN (.i64, u) rfl rfl) (ipCons (ipN (.i64, lu) rfl rfl) (ipCons (ipN (.i64, res) rfl rfl) ipNil)))))))))
  have hvp : VpOk (PR27 (u) (lu) (res) (r) (wd) (c0) (0) (0) (0) (0) rv) (PD27 (u) (lu) (res) (r) (wd) (c0) (0) (0) (0) (0) rv) ⟨20000, 20040, ofPairs rl_toD27, ip_toD27⟩ [(20001, .vec 0, 0), (20002, .vec 1, 1), (20003, .vec 2, 2), (20004, .vec 3, 3)] := (vpCons (vpPre (b := 0) (c := 0) (L := [(oN 5), (oN 6), (oN 7)]) (L' := [(oN 0), (oN 1), (oN 2)]) (i := 0) (i' := 0) hip rfl rfl rfl (Nat.add_le_add_left (by decide) _) (by kernel_rfl))
    (vpCons (vpPre (b := 0) (c := 1) (L := [bF, bF, bF]) (L' := [bF, bF, bF]) (i := 1) (i' := 1) hip rfl rfl rfl (Nat.add_le_add_left (by decide) _) (by kernel_rfl))
    (vpCons (vpPre (b := 0) (c := 2) (L := [z0, z0, (iN 26), (oN 8), z2, (iN 3), z1]) (L' := [z0, z0, (iN 26), (oN 6), z2, (iN 3), z1]) (i := 2) (i' := 2) hip rfl rfl rfl (Nat.add_le_add_left (by decide) _) (by kernel_rfl))
    (vpCons (vpPre (b := 0) (c := 3) (L := [(pN 20005)]) (L' := [(pN 20005)]) (i := 3) (i' := 3) hip rfl rfl rfl (Nat.add_le_add_left (by decide) _) (by kernel_rfl))
    vpNil))))
  exact St.weak (T := (PR27 (u) (lu) (res) (r) (wd) (c0) (0) (0) (0) (0) rv)) (T' := (PD27 (u) (lu) (res) (r) (wd) (c0) (0) (0) (0) (0) rv)) (C := ⟨20000, 20040, ofPairs rl_toD27, ip_toD27⟩) hb (by decide) (rl := rl_toD27) rfl (by kernel_rfl) hip hvp (glNone rfl rfl) (fs := fsR) (bs := bsD27) (by kernel_rfl) (by kernel_rfl) s_
noncomputable abbrev rl_toD19 : List (Nat × Nat) := [(20000, 20000), (20001, 20001), (20002, 20002), (20003, 20003), (20004, 20004), (20005, 20005), (20023, 20023)]
noncomputable abbrev ip_toD19 : IP := [(.oi 0, 7), (.oi 1, 8), (.oi 2, 4), (.oi 3, 5), (.oi 4, 3), (.oi 8, 6), (.oi 5, 0), (.oi 6, 1), (.oi 7, 2)]
theorem toD19 {u lu res r wd c0 : Int} {rv : Nat → Value} (hb : Base B μ0 20000) (s_ : SR19 (u) (lu) (res) (r) (wd) (c0) (0) (0) (0) (0) rv B w0 μ0 a w) : SD19 (u) (lu) (res) (r) (wd) (c0) (0) (0) (0) (0) rv B w0 μ0 a w := by
  have hip : IpOk (PR19 (u) (lu) (res) (r) (wd) (c0) (0) (0) (0) (0) rv) (PD19 (u) (lu) (res) (r) (wd) (c0) (0) (0) (0) (0) rv) ip_toD19 := (ipCons (ipN (.i64, ((0 + 3 : Nat) : Int)) rfl rfl) (ipCons (ipN (.i64, ((0 + 1 : Nat) : Int)) rfl rfl) (ipCons (ipN (.i64, wd) rfl rfl) (ipCons (ipN (.i64, c0) rfl rfl) (ipCons (ipN (.i64, r) rfl rfl) (ipCons (ipN (.i64, ((0 : Nat) : Int)) rfl rfl) (ipCons (ipN (.i64, u) rfl rfl) (ipCons (ipN (.i64, lu) rfl rfl) (ipCons (ipN (.i64, res) rfl rfl) ipNil)))))))))
  have hvp : VpOk (PR19 (u) (lu) (res) (r) (wd) (c0) (0) (0) (0) (0) rv) (PD19 (u) (lu) (res) (r) (wd) (c0) (0) (0) (0) (0) rv) ⟨20000, 20040, ofPairs rl_toD19, ip_toD19⟩ [(20001, .vec 0, 0), (20002, .vec 1, 1), (20003, .vec 2, 2), (20004, .vec 3, 3)] := (vpCons (vpPre (b := 0) (c := 0) (L := [(oN 5), (oN 6), (oN 7)]) (L' := [(oN 0), (oN 1), (oN 2)]) (i := 0) (i' := 0) hip rfl rfl rfl (Nat.add_le_add_left (by decide) _) (by kernel_rfl))
    (vpCons (vpPre (b := 0) (c := 1) (L := [bF, bF, bF]) (L' := [bF, bF, bF]) (i := 1) (i' := 1) hip rfl rfl rfl (Nat.add_le_add_left (by decide) _) (by kernel_rfl))
    (vpCons (vpPre (b := 0) (c := 2) (L := [z0, z0, (iN 16), (oN 8), z2, (iN 3), z1]) (L' := [z0, z0, (iN 16), (oN 6), z2, (iN 3), z1]) (i := 2) (i' := 2) hip rfl rfl rfl (Nat.add_le_add_left (by decide) _) (by kernel_rfl))
    (vpCons (vpPre (b := 0) (c := 3) (L := [(pN 20005)]) (L' := [(pN 20005)]) (i := 3) (i' := 3) hip rfl rfl rfl (Nat.add_le_add_left (by decide) _) (by kernel_rfl))
    vpNil))))
  exact St.weak (T := (PR19 (u) (lu) (res) (r) (wd) (c0) (0) (0) (0) (0) rv)) (T' := (PD19 (u) (lu) (res) (r) (wd) (c0) (0) (0) (0) (0) rv)) (C := ⟨20000, 20040, ofPairs rl_toD19, ip_toD19⟩) hb (by decide) (rl := rl_toD19) rfl (by kernel_rfl) hip hvp (glNone rfl rfl) (fs := fsR) (bs := bsD19) (by kernel_rfl) (by kernel_rfl) s_
noncomputable abbrev rl_toDA : List (Nat × Nat) := [(20000, 20000), (20001, 20001), (20002, 20002), (20003, 20003), (20004, 20004), (20005, 20005), (20021, 20021), (20022, 20022), (20023, 20023), (20024, 20024), (20025, 20025)]
noncomputable abbrev ip_toDA : IP := [(.oi 0, 9), (.oi 1, 10), (.oi 2, 11), (.oi 3, 12), (.oi 4, 4), (.oi 5, 5), (.oi 6, 3), (.oi 11, 7), (.oi 10, 6), (.oi 7, 0), (.oi 8, 1), (.oi 9, 2)]
theorem toDA {u lu r wd c0 : Int} {S W : Nat} {rv : Nat → Value} (hb : Base B μ0 20000) (s_ : SA35 (u) (lu) (r) (wd) (c0) (0) (0) (S) (W) rv B w0 μ0 a w) : SDA (u) (lu) (r) (wd) (c0) (0) (0) (S) (W) rv B w0 μ0 a w := by
  have hip : IpOk (PA35 (u) (lu) (r) (wd) (c0) (0) (0) (S) (W) rv) (PDA (u) (lu) (r) (wd) (c0) (0) (0) (S) (W) rv) ip_toDA := (ipCons (ipN (.i64, ((W + 3 : Nat) : Int)) rfl rfl) (ipCons (ipN (.i64, ((S + 1 : Nat) : Int)) rfl rfl) (ipCons (ipN (.i64, ((0 + 3 : Nat) : Int)) rfl rfl) (ipCons (ipN (.i64, ((0 + 1 : Nat) : Int)) rfl rfl) (ipCons (ipN (.i64, wd) rfl rfl) (ipCons (ipN (.i64, c0) rfl rfl) (ipCons (ipN (.i64, r) rfl rfl) (ipCons (ipN (.i64, ((W : Nat) : Int)) rfl rfl) (ipCons (ipN (.i64, ((0 : Nat) : Int)) rfl rfl) (ipCons (ipN (.i64, u) rfl rfl) (ipCons (ipN (.i64, lu) rfl rfl) (ipCons (ipN (.i64, ((W + 1 : Nat) : Int)) rfl rfl) ipNil))))))))))))
  have hvp : VpOk (PA35 (u) (lu) (r) (wd) (c0) (0) (0) (S) (W) rv) (PDA (u) (lu) (r) (wd) (c0) (0) (0) (S) (W) rv) ⟨20000, 20040, ofPairs rl_toDA, ip_toDA⟩ [(20001, .vec 0, 2), (20002, .vec 1, 3), (20003, .vec 2, 4), (20004, .vec 3, 5), (20021, .vec 4, 0), (20022, .vec 5, 1)] := (vpCons (vpPre (b := 0) (c := 0) (L := [(oN 7), (oN 8), (oN 9)]) (L' := [(oN 0), (oN 1), (oN 2)]) (i := 0) (i' := 2) hip rfl rfl rfl (Nat.add_le_add_left (by decide) _) (by kernel_rfl))
    (vpCons (vpPre (b := 0) (c := 1) (L := [bF, bF, bT]) (L' := [bF, bF, bT]) (i := 1) (i' := 3) hip rfl rfl rfl (Nat.add_le_add_left (by decide) _) (by kernel_rfl))
    (vpCons (vpPre (b := 0) (c := 2) (L := [z0, z0, (iN 32), (oN 10), z2, (iN 3), z1]) (L' := [z0, z0, (iN 32), (oN 6), z2, (iN 3), z1]) (i := 2) (i' := 4) hip rfl rfl rfl (Nat.add_le_add_left (by decide) _) (by kernel_rfl))
    (vpCons (vpPre (b := 0) (c := 3) (L := [(pN 20005)]) (L' := [(pN 20005)]) (i := 3) (i' := 5) hip rfl rfl rfl (Nat.add_le_add_left (by decide) _) (by kernel_rfl))
    (vpCons (vpG (T := (PA35 (u) (lu) (r) (wd) (c0) (0) (0) (S) (W) rv)) (T' := (PDA (u) (lu) (r) (wd) (c0) (0) (0) (S) (W) rv)) (i := 4) (i' := 0) hip 0 (g := noG) (L := [(.int .u64 3), (.int .u64 0), (.int .u64 0)]) (L' := [(.int .u64 3), (.int .u64 0), (.int .u64 0)]) rfl rfl noG_int (Nat.le_refl _) bs.noZero (by kernel_rfl))
    (vpCons (vpG (T := (PA35 (u) (lu) (r) (wd) (c0) (0) (0) (S) (W) rv)) (T' := (PDA (u) (lu) (r) (wd) (c0) (0) (0) (S) (W) rv)) (i := 5) (i' := 1) hip 0 (g := bs.stG) (L := [(oN 11)]) (L' := [(oN 7)]) rfl rfl bs.stG_int (Nat.le_refl _) bs.noZero (by kernel_rfl))
    vpNil))))))
  exact St.weak (T := (PA35 (u) (lu) (r) (wd) (c0) (0) (0) (S) (W) rv)) (T' := (PDA (u) (lu) (r) (wd) (c0) (0) (0) (S) (W) rv)) (C := ⟨20000, 20040, ofPairs rl_toDA, ip_toDA⟩) hb (by decide) (rl := rl_toDA) rfl (by kernel_rfl) hip hvp (glNone rfl rfl) (fs := fsR) (bs := bsDA) (by kernel_rfl) (by kernel_rfl) s_
theorem runS {rv : Nat → Value} {Q : Exit → Act → World → Prop} {j : Nat} {v lv : Int} {a : Act} {w : World} (n l : Nat) (hn : 1 ≤ n) (hn2 : n ≤ 60) (hl : l ≤ 100) (hb : Base B μ 20000) (hM : ∃ l, μ 14138 = some l) (hv : v = n) (hlv : lv = l)
    (s_ : SB v lv 0 0 0 0 rv B w0 μ a w)
    (kA : (¬ (1 ≤ l ∧ l ≤ n) → ∀ (u lu r' wd' c0' : Int) (a' : Act) (w' : World), 0 ≤ u → u ≤ 200 → r' = 1 + kN l n → wd' = 9 → c0' = 1 + kN l n → SDA u lu r' wd' c0' 0 0 (3 + n) (8 + 3 * n) rv B w0 μ a' w' → Code.rounds Tryz.prog la Q j a' w'))
    (kM : (l = n → ∀ (u lu res r' wd' c0' : Int) (a' : Act) (w' : World), 0 ≤ u → u ≤ 200 → res = l → r' = 1 + kN l n → wd' = 9 → c0' = 1 + kN l n → SD27 u lu res r' wd' c0' 0 0 0 0 rv B w0 μ a' w' → Code.rounds Tryz.prog la Q j a' w'))
    (kR : (1 ≤ l ∧ l < n → ∀ (u lu res r' wd' c0' : Int) (a' : Act) (w' : World), 0 ≤ u → u ≤ 200 → res = l → r' = 1 + kN l n → wd' = 9 → c0' = 1 + kN l n → SD19 u lu res r' wd' c0' 0 0 0 0 rv B w0 μ a' w' → Code.rounds Tryz.prog la Q j a' w')) :
    Code.rounds Tryz.prog la Q (j + kN l n + 1) a w := by
  have kb := kN_bd l n
  refine goS (s := 0) (d := 0) (S := 0) (W := 0) (by omega) (by omega) (by omega) (by omega) hb s_ (fun a1 w1 q1 => ?_)
  refine calls_ok l n hn2 hb hM hv hlv hl (by omega) (by omega) (by omega) (by omega) (by omega) (by omega) (by omega) (by omega) q1 (fun h => absurd h (by omega)) ?_ ?_ ?_
  · intro _ h u lu r' wd' c' S' W' a' w' x1 x2 x3 x4 x5 x6 x7 q
    subst x6
    subst x7
    exact kA h u lu r' wd' c' a' w' x1 x2 x3 x4 x5 (toDA hb q)
  · intro _ h u lu res r' wd' c' S' W' a' w' x1 x2 x3 x4 x5 x6 x7 x8 q
    exact kM h u lu res r' wd' c' a' w' x1 x2 x3 x4 x5 x6 (toD27 hb q)
  · intro h1 h2 u lu res r' wd' c' S' W' a' w' x1 x2 x3 x4 x5 x6 x7 x8 q
    exact kR ⟨h1, h2⟩ u lu res r' wd' c' a' w' x1 x2 x3 x4 x5 x6 (toD19 hb q)
end
end Go.Proofs.YtfkfmjlppllfoaaGreatDoor.un
