/-
  Steps back from a call.
-/
import Derived.Test.YtfkfmjlppllfoaaGreatDoorUNN
import Derived.Test.YtfkfmjlppllfoaaGreatDoorUNS
import Derived.Test.YtfkfmjlppllfoaaGreatDoorXN3
import Derived.Test.YtfkfmjlppllfoaaGreatDoorUST
import Derived.Test.YtfkfmjlppllfoaaGreatDoorProg
import Derived.KernelRfl
set_option linter.unusedSectionVars false
set_option linter.unusedVariables false
set_option maxRecDepth 1000000
set_option maxHeartbeats 0
namespace Go.Proofs.YtfkfmjlppllfoaaGreatDoor.un
open Go.X Go.RowKit Go.Proofs.YtfkfmjlppllfoaaGreatDoor
section
variable {B : Kp} {w0 : World} {μ : M} {a : Act} {w : World}
theorem ibC27 {v : Int} {lv : Int} {u : Int} {lu : Int} {res : Int} {r : Int} {wd : Int} {c0 : Int} {s : Nat} {d : Nat} {S : Nat} {W : Nat} (h2 : v ≤ 200) (h3 : 0 ≤ r) (h4 : r + 20 ≤ 5000) (h5 : 9 ≤ wd) (h6 : wd ≤ 2048) (h7 : 0 ≤ c0) (h8 : c0 ≤ 200000) (h11 : s ≤ 10000) (h12 : d ≤ 10000) (h13 : -1000 ≤ res) (h14 : res ≤ 1000) : ∀ x_ ∈ ([(14, .oi 5, .int .i64 5000, .bool false), (9, .oi 12, .int .i64 0, .bool false), (1, .oi 12, .int .i64 1, .oi 13), (11, .oi 13, .oi 12, .bool true), (14, .oi 13, .int .i64 0, .bool true), (0, .oi 5, .int .i64 1, .oi 14), (0, .oi 7, .int .i64 1, .oi 15), (1, .oi 11, .int .i64 1, .oi 16), (1, .oi 16, .int .i64 0, .oi 16), (11, .oi 16, .oi 11, .bool true), (14, .oi 16, .int .i64 0, .bool true), (12, .oi 16, .oi 11, .bool true), (1, .oi 6, .int .i64 9, .oi 17), (12, .oi 9, .oi 16, .bool true), (14, .oi 9, .int .i64 0, .bool true), (12, .oi 13, .oi 12, .bool true), (9, .oi 13, .int .i64 0, .bool false), (1, .oi 13, .int .i64 1, .oi 10), (11, .oi 10, .oi 13, .bool true), (14, .oi 10, .int .i64 0, .bool true)] : List BRow), IbOk (ivC27 v lv u lu res r wd c0 s d S W) x_ := by
  letI := Tab.empty
  exact (ibCons (ibGe (a := (r)) (b := (5000)) rfl rfl (decide_eq_false (by omega)))
    (ibCons (ibEq (a := (((d + 2 : Nat) : Int))) (b := (0)) rfl rfl (decide_eq_false (by omega)))
    (ibCons (ibSub (a := (((d + 2 : Nat) : Int))) (b := (1)) (c := (((d + 1 : Nat) : Int))) rfl rfl rfl (by first | assumption | omega) (by omega) (by omega))
    (ibCons (ibLt (a := (((d + 1 : Nat) : Int))) (b := (((d + 2 : Nat) : Int))) rfl rfl (decide_eq_true (by omega)))
    (ibCons (ibGe (a := (((d + 1 : Nat) : Int))) (b := (0)) rfl rfl (decide_eq_true (by omega)))
    (ibCons (ibAdd (a := (r)) (b := (1)) (c := (r + 1)) rfl rfl rfl (by first | assumption | omega) (by omega) (by omega))
    (ibCons (ibAdd (a := (c0)) (b := (1)) (c := (c0 + 1)) rfl rfl rfl (by first | assumption | omega) (by omega) (by omega))
    (ibCons (ibSub (a := (((s + 5 : Nat) : Int))) (b := (1)) (c := (((s + 4 : Nat) : Int))) rfl rfl rfl (by first | assumption | omega) (by omega) (by omega))
    (ibCons (ibSub (a := (((s + 4 : Nat) : Int))) (b := (0)) (c := (((s + 4 : Nat) : Int))) rfl rfl rfl (by first | assumption | omega) (by omega) (by omega))
    (ibCons (ibLt (a := (((s + 4 : Nat) : Int))) (b := (((s + 5 : Nat) : Int))) rfl rfl (decide_eq_true (by omega)))
    (ibCons (ibGe (a := (((s + 4 : Nat) : Int))) (b := (0)) rfl rfl (decide_eq_true (by omega)))
    (ibCons (ibLe (a := (((s + 4 : Nat) : Int))) (b := (((s + 5 : Nat) : Int))) rfl rfl (decide_eq_true (by omega)))
    (ibCons (ibSub (a := (wd)) (b := (9)) (c := (wd - 9)) rfl rfl rfl (by first | assumption | omega) (by omega) (by omega))
    (ibCons (ibLe (a := (((s + 2 : Nat) : Int))) (b := (((s + 4 : Nat) : Int))) rfl rfl (decide_eq_true (by omega)))
    (ibCons (ibGe (a := (((s + 2 : Nat) : Int))) (b := (0)) rfl rfl (decide_eq_true (by omega)))
    (ibCons (ibLe (a := (((d + 1 : Nat) : Int))) (b := (((d + 2 : Nat) : Int))) rfl rfl (decide_eq_true (by omega)))
    (ibCons (ibEq (a := (((d + 1 : Nat) : Int))) (b := (0)) rfl rfl (decide_eq_false (by omega)))
    (ibCons (ibSub (a := (((d + 1 : Nat) : Int))) (b := (1)) (c := (((d : Nat) : Int))) rfl rfl rfl (by first | assumption | omega) (by omega) (by omega))
    (ibCons (ibLt (a := (((d : Nat) : Int))) (b := (((d + 1 : Nat) : Int))) rfl rfl (decide_eq_true (by omega)))
    (ibCons (ibGe (a := (((d : Nat) : Int))) (b := (0)) rfl rfl (decide_eq_true (by omega)))
    ibNil))))))))))))))))))))
theorem icC27 {v : Int} {lv : Int} {u : Int} {lu : Int} {res : Int} {r : Int} {wd : Int} {c0 : Int} {s : Nat} {d : Nat} {S : Nat} {W : Nat} (h2 : v ≤ 200) (h3 : 0 ≤ r) (h4 : r + 20 ≤ 5000) (h5 : 9 ≤ wd) (h6 : wd ≤ 2048) (h7 : 0 ≤ c0) (h8 : c0 ≤ 200000) (h11 : s ≤ 10000) (h12 : d ≤ 10000) (h13 : -1000 ≤ res) (h14 : res ≤ 1000) : ∀ x_ ∈ ([] : List (IntKind × AV × AV)), IcOk' (ivC27 v lv u lu res r wd c0 s d S W) x_ := icNil
theorem vlC27 {v : Int} {lv : Int} {u : Int} {lu : Int} {res : Int} {r : Int} {wd : Int} {c0 : Int} {s : Nat} {d : Nat} {S : Nat} {W : Nat} (h2 : v ≤ 200) (h3 : 0 ≤ r) (h4 : r + 20 ≤ 5000) (h5 : 9 ≤ wd) (h6 : wd ≤ 2048) (h7 : 0 ≤ c0) (h8 : c0 ≤ 200000) (h11 : s ≤ 10000) (h12 : d ≤ 10000) (h13 : -1000 ≤ res) (h14 : res ≤ 1000) : ∀ x_ ∈ ([⟨3, 13, 1, 0, [(pN 20005)]⟩, ⟨4, 13, 7, 6, [z1]⟩, ⟨0, 16, 1, 0, [(oN 4)]⟩, ⟨1, 16, 1, 0, [bF]⟩, ⟨5, 13, 7, 4, [z2]⟩, ⟨5, 13, 7, 5, [(iN 3)]⟩, ⟨5, 13, 7, 3, [(oN 9)]⟩, ⟨3, 10, 1, 0, [(pN 20040)]⟩, ⟨5, 10, 7, 6, [z0]⟩, ⟨5, 10, 7, 5, [(iN 3)]⟩] : List VL), VlOk (ivC27 v lv u lu res r wd c0 s d S W) (vvC27 s d S W) x_ :=
  (allCons (vlP (k := d + 1) (b := d) (c := 3) (o := 1) (L := [(pN 20040), (pN 20005)]) rfl rfl (by show (d + 1) * 1 + 0 = d + 1; omega) rfl)
    (allCons (vlP (k := d + 1) (b := 7 * d) (c := 2) (o := 13) (L := [z0, z0, (iN 16), (oN 8), z2, (iN 3), z0, z0, z0, (iN 27), (oN 9), z2, (iN 3), z1]) rfl rfl (by show (d + 1) * 7 + 6 = 7 * d + 13; omega) rfl)
    (allCons (vlP (k := s + 4) (b := s) (c := 0) (o := 4) (L := [(oN 0), (oN 1), (oN 2), (oN 3), (oN 4)]) rfl rfl (by show (s + 4) * 1 + 0 = s + 4; omega) rfl)
    (allCons (vlP (k := s + 4) (b := s) (c := 1) (o := 4) (L := [bF, bF, bF, bF, bF]) rfl rfl (by show (s + 4) * 1 + 0 = s + 4; omega) rfl)
    (allCons (vlP (k := d + 1) (b := 7 * d) (c := 2) (o := 11) (L := [z0, z0, (iN 16), (oN 8), z2, (iN 3), z0, z0, z0, (iN 27), (oN 9), z2, (iN 3), z0]) rfl rfl (by show (d + 1) * 7 + 4 = 7 * d + 11; omega) rfl)
    (allCons (vlP (k := d + 1) (b := 7 * d) (c := 2) (o := 12) (L := [z0, z0, (iN 16), (oN 8), z2, (iN 3), z0, z0, z0, (iN 27), (oN 9), z2, (iN 3), z0]) rfl rfl (by show (d + 1) * 7 + 5 = 7 * d + 12; omega) rfl)
    (allCons (vlP (k := d + 1) (b := 7 * d) (c := 2) (o := 10) (L := [z0, z0, (iN 16), (oN 8), z2, (iN 3), z0, z0, z0, (iN 27), (oN 9), z2, (iN 3), z0]) rfl rfl (by show (d + 1) * 7 + 3 = 7 * d + 10; omega) rfl)
    (allCons (vlP (k := d) (b := d) (c := 3) (o := 0) (L := [(pN 20040), (pN 20005)]) rfl rfl (by show (d) * 1 + 0 = d + 0; omega) rfl)
    (allCons (vlP (k := d) (b := 7 * d) (c := 2) (o := 6) (L := [z0, z0, (iN 16), (oN 8), z2, (iN 3), z0, z0, z0, (iN 27), (oN 9), z2, (iN 3), z0]) rfl rfl (by show (d) * 7 + 6 = 7 * d + 6; omega) rfl)
    (allCons (vlP (k := d) (b := 7 * d) (c := 2) (o := 5) (L := [z0, z0, (iN 16), (oN 8), z2, (iN 3), z0, z0, z0, (iN 27), (oN 9), z2, (iN 3), z0]) rfl rfl (by show (d) * 7 + 5 = 7 * d + 5; omega) rfl)
    allNil))))))))))
theorem vsC27 {v : Int} {lv : Int} {u : Int} {lu : Int} {res : Int} {r : Int} {wd : Int} {c0 : Int} {s : Nat} {d : Nat} {S : Nat} {W : Nat} (h2 : v ≤ 200) (h3 : 0 ≤ r) (h4 : r + 20 ≤ 5000) (h5 : 9 ≤ wd) (h6 : wd ≤ 2048) (h7 : 0 ≤ c0) (h8 : c0 ≤ 200000) (h11 : s ≤ 10000) (h12 : d ≤ 10000) (h13 : -1000 ≤ res) (h14 : res ≤ 1000) : ∀ x_ ∈ ([⟨2, 13, 7, 2, [(iN 27)], 4⟩, ⟨4, 13, 7, 6, [z0], 5⟩, ⟨5, 10, 7, 6, [z1], 6⟩] : List VS), VsOk (ivC27 v lv u lu res r wd c0 s d S W) (vvC27 s d S W) (vkC27 s d S W) x_ :=
  (allCons (vsP (k := d + 1) (b := 7 * d) (c := 2) (o := 9) (L := [z0, z0, (iN 16), (oN 8), z2, (iN 3), z0, z0, z0, (iN 26), (oN 9), z2, (iN 3), z1]) (L' := [z0, z0, (iN 16), (oN 8), z2, (iN 3), z0, z0, z0, (iN 27), (oN 9), z2, (iN 3), z1]) rfl rfl rfl rfl rfl (by show (d + 1) * 7 + 2 = 7 * d + 9; omega) rfl (by decide))
    (allCons (vsP (k := d + 1) (b := 7 * d) (c := 2) (o := 13) (L := [z0, z0, (iN 16), (oN 8), z2, (iN 3), z0, z0, z0, (iN 27), (oN 9), z2, (iN 3), z1]) (L' := [z0, z0, (iN 16), (oN 8), z2, (iN 3), z0, z0, z0, (iN 27), (oN 9), z2, (iN 3), z0]) rfl rfl rfl rfl rfl (by show (d + 1) * 7 + 6 = 7 * d + 13; omega) rfl (by decide))
    (allCons (vsP (k := d) (b := 7 * d) (c := 2) (o := 6) (L := [z0, z0, (iN 16), (oN 8), z2, (iN 3), z0, z0, z0, (iN 27), (oN 9), z2, (iN 3), z0]) (L' := [z0, z0, (iN 16), (oN 8), z2, (iN 3), z1, z0, z0, (iN 27), (oN 9), z2, (iN 3), z0]) rfl rfl rfl rfl rfl (by show (d) * 7 + 6 = 7 * d + 6; omega) rfl (by decide))
    allNil)))
theorem vaC27 {v : Int} {lv : Int} {u : Int} {lu : Int} {res : Int} {r : Int} {wd : Int} {c0 : Int} {s : Nat} {d : Nat} {S : Nat} {W : Nat} (h2 : v ≤ 200) (h3 : 0 ≤ r) (h4 : r + 20 ≤ 5000) (h5 : 9 ≤ wd) (h6 : wd ≤ 2048) (h7 : 0 ≤ c0) (h8 : c0 ≤ 200000) (h11 : s ≤ 10000) (h12 : d ≤ 10000) (h13 : -1000 ≤ res) (h14 : res ≤ 1000) : ∀ x_ ∈ ([⟨0, 9, 1, [(oN 4)], 7, 18⟩, ⟨1, 9, 1, [bF], 8, 18⟩] : List VA), VaOk (ivC27 v lv u lu res r wd c0 s d S W) (vvC27 s d S W) (vkC27 s d S W) x_ :=
  (allCons (vaP (j := s + 2) (j' := s + 3) (b := s) (c := 0) (o := 2) (L := [(oN 0), (oN 1), (oN 2), (oN 3), (oN 4)]) (L' := [(oN 0), (oN 1), (oN 4)]) rfl rfl rfl rfl rfl (by show (s + 2) * 1 = s + 2; omega) (by show (s + 3) * 1 = s + 2 + 1; omega) rfl (by decide) (by show s + 3 < 1000000; omega))
    (allCons (vaP (j := s + 2) (j' := s + 3) (b := s) (c := 1) (o := 2) (L := [bF, bF, bF, bF, bF]) (L' := [bF, bF, bF]) rfl rfl rfl rfl rfl (by show (s + 2) * 1 = s + 2; omega) (by show (s + 3) * 1 = s + 2 + 1; omega) rfl (by decide) (by show s + 3 < 1000000; omega))
    allNil))
abbrev RC27 {v : Int} {lv : Int} {u : Int} {lu : Int} {res : Int} {r : Int} {wd : Int} {c0 : Int} {s : Nat} {d : Nat} {S : Nat} {W : Nat} (h2 : v ≤ 200) (h3 : 0 ≤ r) (h4 : r + 20 ≤ 5000) (h5 : 9 ≤ wd) (h6 : wd ≤ 2048) (h7 : 0 ≤ c0) (h8 : c0 ≤ 200000) (h11 : s ≤ 10000) (h12 : d ≤ 10000) (h13 : -1000 ≤ res) (h14 : res ≤ 1000) : VRows (ivC27 v lv u lu res r wd c0 s d S W) (vvC27 s d S W) (vkC27 s d S W) where
  vvp := vpC27 s d S W
  ib := [(14, .oi 5, .int .i64 5000, .bool false), (9, .oi 12, .int .i64 0, .bool false), (1, .oi 12, .int .i64 1, .oi 13), (11, .oi 13, .oi 12, .bool true), (14, .oi 13, .int .i64 0, .bool true), (0, .oi 5, .int .i64 1, .oi 14), (0, .oi 7, .int .i64 1, .oi 15), (1, .oi 11, .int .i64 1, .oi 16), (1, .oi 16, .int .i64 0, .oi 16), (11, .oi 16, .oi 11, .bool true), (14, .oi 16, .int .i64 0, .bool true), (12, .oi 16, .oi 11, .bool true), (1, .oi 6, .int .i64 9, .oi 17), (12, .oi 9, .oi 16, .bool true), (14, .oi 9, .int .i64 0, .bool true), (12, .oi 13, .oi 12, .bool true), (9, .oi 13, .int .i64 0, .bool false), (1, .oi 13, .int .i64 1, .oi 10), (11, .oi 10, .oi 13, .bool true), (14, .oi 10, .int .i64 0, .bool true)]
  ibok := ibC27 h2 h3 h4 h5 h6 h7 h8 h11 h12 h13 h14
  ic := []
  icok := icC27 h2 h3 h4 h5 h6 h7 h8 h11 h12 h13 h14
  vl := [⟨3, 13, 1, 0, [(pN 20005)]⟩, ⟨4, 13, 7, 6, [z1]⟩, ⟨0, 16, 1, 0, [(oN 4)]⟩, ⟨1, 16, 1, 0, [bF]⟩, ⟨5, 13, 7, 4, [z2]⟩, ⟨5, 13, 7, 5, [(iN 3)]⟩, ⟨5, 13, 7, 3, [(oN 9)]⟩, ⟨3, 10, 1, 0, [(pN 20040)]⟩, ⟨5, 10, 7, 6, [z0]⟩, ⟨5, 10, 7, 5, [(iN 3)]⟩]
  vlok := vlC27 h2 h3 h4 h5 h6 h7 h8 h11 h12 h13 h14
  vs := [⟨2, 13, 7, 2, [(iN 27)], 4⟩, ⟨4, 13, 7, 6, [z0], 5⟩, ⟨5, 10, 7, 6, [z1], 6⟩]
  vsok := vsC27 h2 h3 h4 h5 h6 h7 h8 h11 h12 h13 h14
  va := [⟨0, 9, 1, [(oN 4)], 7, 18⟩, ⟨1, 9, 1, [bF], 8, 18⟩]
  vaok := vaC27 h2 h3 h4 h5 h6 h7 h8 h11 h12 h13 h14
  vc := []
  vcok := allNil
noncomputable abbrev rl_goC27 : List (Nat × Nat) := [(20000, 20000), (20001, 20099), (20002, 20100), (20003, 20003), (20004, 20004), (20005, 20040), (20023, 20023)]
noncomputable abbrev bs_goC27 : BS := [(10502, 10502, kb10), (13842, 13842, kb26), (13843, 13843, kb32), (13845, 13845, (.map [(tx34, (oN 3), 0)] 1)), (13846, 13846, kb27), (14138, 14138, kb16), (14709, 14709, kb18), (15514, 15514, kb19), (15576, 15576, kb20), (15581, 15581, kb21), (17787, 17787, kb23), (17792, 17792, kb24), (20000, 20000, kb22), (20001, 20099, (.vec 0)), (20002, 20100, (.vec 1)), (20003, 20003, (.vec 2)), (20004, 20004, (.vec 3)), (20005, 20040, kb40), (20023, 20023, kb24)]
noncomputable abbrev ip_goC27 : IP := [(.oi 18, 0), (.oi 13, 1), (.oi 17, 2), (.oi 15, 3), (.oi 14, 4), (.oi 0, 5), (.oi 1, 6), (.oi 4, 7), (.oi 8, 8)]
theorem bq_goC27 : hOf 20040 bs_goC27 = hOf 20040 bsR19 := hOf_congr (by kernel_rfl)
theorem goC27 {v : Int} {lv : Int} {u : Int} {lu : Int} {res : Int} {r : Int} {wd : Int} {c0 : Int} {s : Nat} {d : Nat} {S : Nat} {W : Nat} (h2 : v ≤ 200) (h3 : 0 ≤ r) (h4 : r + 20 ≤ 5000) (h5 : 9 ≤ wd) (h6 : wd ≤ 2048) (h7 : 0 ≤ c0) (h8 : c0 ≤ 200000) (h11 : s ≤ 10000) (h12 : d ≤ 10000) (h13 : -1000 ≤ res) (h14 : res ≤ 1000) {rv : Nat → Value} (hb : Base B μ 20000) {Q : Exit → Act → World → Prop} {j_ : Nat} (s_ : SC27 v lv u lu res r wd c0 s d S W rv B w0 μ a w) (hQ : ∀ a' w', SR19 (v) (lv) (res) (r + 1) (wd - 9) (c0 + 1) (s) (d) (0) (0) rv B w0 μ a' w' → Code.rounds Tryz.prog la Q j_ a' w') : Code.rounds Tryz.prog la Q (j_ + 1) a w := by
  have hip : IpOk ((RC27 (v := v) (lv := lv) (u := u) (lu := lu) (res := res) (r := r) (wd := wd) (c0 := c0) (s := s) (d := d) (S := S) (W := W) h2 h3 h4 h5 h6 h7 h8 h11 h12 h13 h14).rtab rv) (PR19 (v) (lv) (res) (r + 1) (wd - 9) (c0 + 1) (s) (d) (0) (0) rv) ip_goC27 := (ipCons (ipN (.i64, ((s + 3 : Nat) : Int)) rfl rfl) (ipCons (ipN (.i64, ((d + 1 : Nat) : Int)) rfl rfl) (ipCons (ipN (.i64, wd - 9) rfl (show (IntKind.i64, (wd - 9)) = (IntKind.i64, wd - 9) from Prod.ext rfl (show ((wd - 9) : Int) = wd - 9 by omega))) (ipCons (ipN (.i64, c0 + 1) rfl (show (IntKind.i64, (c0 + 1)) = (IntKind.i64, c0 + 1) from Prod.ext rfl (show ((c0 + 1) : Int) = c0 + 1 by omega))) (ipCons (ipN (.i64, r + 1) rfl (show (IntKind.i64, (r + 1)) = (IntKind.i64, r + 1) from Prod.ext rfl (show ((r + 1) : Int) = r + 1 by omega))) (ipCons (ipN (.i64, v) rfl rfl) (ipCons (ipN (.i64, lv) rfl rfl) (ipCons (ipN (.i64, res) rfl rfl) (ipCons (ipN (.i64, ((s : Nat) : Int)) rfl rfl) ipNil)))))))))
  have hvp : VpOk ((RC27 (v := v) (lv := lv) (u := u) (lu := lu) (res := res) (r := r) (wd := wd) (c0 := c0) (s := s) (d := d) (S := S) (W := W) h2 h3 h4 h5 h6 h7 h8 h11 h12 h13 h14).rtab rv) (PR19 (v) (lv) (res) (r + 1) (wd - 9) (c0 + 1) (s) (d) (0) (0) rv) ⟨20000, 20040, ofPairs rl_goC27, ip_goC27⟩ [(20099, .vec 7, 0), (20100, .vec 8, 1), (20003, .vec 6, 2), (20004, .vec 3, 3)] := (vpCons (vpPre (i := 7) (i' := 0) hip rfl rfl rfl (Nat.add_le_add_left (by decide) _) (by kernel_rfl))
    (vpCons (vpPre (i := 8) (i' := 1) hip rfl rfl rfl (Nat.add_le_add_left (by decide) _) (by kernel_rfl))
    (vpCons (vpPre (i := 6) (i' := 2) hip rfl rfl rfl (Nat.add_le_add_left (by decide) _) (by kernel_rfl))
    (vpCons (vpPre (i := 3) (i' := 3) hip rfl rfl rfl (Nat.add_le_add_left (by decide) _) (by kernel_rfl))
    vpNil))))
  exact stepsTo_sound (T := ((RC27 (v := v) (lv := lv) (u := u) (lu := lu) (res := res) (r := r) (wd := wd) (c0 := c0) (s := s) (d := d) (S := S) (W := W) h2 h3 h4 h5 h6 h7 h8 h11 h12 h13 h14).rtab rv)) (T' := (PR19 (v) (lv) (res) (r + 1) (wd - 9) (c0 + 1) (s) (d) (0) (0) rv)) (K := Hand.none) (m := 5000) mixed (@HandOk.none ((RC27 (v := v) (lv := lv) (u := u) (lu := lu) (res := res) (r := r) (wd := wd) (c0 := c0) (s := s) (d := d) (S := S) (W := W) h2 h3 h4 h5 h6 h7 h8 h11 h12 h13 h14).rtab rv) Tryz.prog) (C := ⟨20000, 20040, ofPairs rl_goC27, ip_goC27⟩) (ex := .normal) (rl := rl_goC27) (vp := [(20099, .vec 7, 0), (20100, .vec 8, 1), (20003, .vec 6, 2), (20004, .vec 3, 3)]) (fs := fsR) (bs := bs_goC27)
    hb (by decide) rfl (by kernel_rfl) hip hvp (glNone rfl rfl) (by as_aux_lemma => kernel_rfl) (St.same (VRows.rsame _ _ _) s_) (fun a' w' q => hQ a' w' (by rw [bq_goC27] at q; exact q))
theorem ibC19 {v : Int} {lv : Int} {u : Int} {lu : Int} {res : Int} {r : Int} {wd : Int} {c0 : Int} {s : Nat} {d : Nat} {S : Nat} {W : Nat} (h2 : v ≤ 200) (h3 : 0 ≤ r) (h4 : r + 20 ≤ 5000) (h5 : 9 ≤ wd) (h6 : wd ≤ 2048) (h7 : 0 ≤ c0) (h8 : c0 ≤ 200000) (h11 : s ≤ 10000) (h12 : d ≤ 10000) (h13 : -1000 ≤ res) (h14 : res ≤ 1000) : ∀ x_ ∈ ([(14, .oi 5, .int .i64 5000, .bool false), (9, .oi 12, .int .i64 0, .bool false), (1, .oi 12, .int .i64 1, .oi 13), (11, .oi 13, .oi 12, .bool true), (14, .oi 13, .int .i64 0, .bool true), (0, .oi 5, .int .i64 1, .oi 14), (0, .oi 7, .int .i64 1, .oi 15), (1, .oi 11, .int .i64 1, .oi 16), (1, .oi 16, .int .i64 0, .oi 16), (11, .oi 16, .oi 11, .bool true), (14, .oi 16, .int .i64 0, .bool true), (12, .oi 16, .oi 11, .bool true), (1, .oi 6, .int .i64 9, .oi 17), (12, .oi 9, .oi 16, .bool true), (14, .oi 9, .int .i64 0, .bool true), (12, .oi 13, .oi 12, .bool true), (9, .oi 13, .int .i64 0, .bool false), (1, .oi 13, .int .i64 1, .oi 10), (11, .oi 10, .oi 13, .bool true), (14, .oi 10, .int .i64 0, .bool true)] : List BRow), IbOk (ivC19 v lv u lu res r wd c0 s d S W) x_ := by
  letI := Tab.empty
  exact (ibCons (ibGe (a := (r)) (b := (5000)) rfl rfl (decide_eq_false (by omega)))
    (ibCons (ibEq (a := (((d + 2 : Nat) : Int))) (b := (0)) rfl rfl (decide_eq_false (by omega)))
    (ibCons (ibSub (a := (((d + 2 : Nat) : Int))) (b := (1)) (c := (((d + 1 : Nat) : Int))) rfl rfl rfl (by first | assumption | omega) (by omega) (by omega))
    (ibCons (ibLt (a := (((d + 1 : Nat) : Int))) (b := (((d + 2 : Nat) : Int))) rfl rfl (decide_eq_true (by omega)))
    (ibCons (ibGe (a := (((d + 1 : Nat) : Int))) (b := (0)) rfl rfl (decide_eq_true (by omega)))
    (ibCons (ibAdd (a := (r)) (b := (1)) (c := (r + 1)) rfl rfl rfl (by first | assumption | omega) (by omega) (by omega))
    (ibCons (ibAdd (a := (c0)) (b := (1)) (c := (c0 + 1)) rfl rfl rfl (by first | assumption | omega) (by omega) (by omega))
    (ibCons (ibSub (a := (((s + 5 : Nat) : Int))) (b := (1)) (c := (((s + 4 : Nat) : Int))) rfl rfl rfl (by first | assumption | omega) (by omega) (by omega))
    (ibCons (ibSub (a := (((s + 4 : Nat) : Int))) (b := (0)) (c := (((s + 4 : Nat) : Int))) rfl rfl rfl (by first | assumption | omega) (by omega) (by omega))
    (ibCons (ibLt (a := (((s + 4 : Nat) : Int))) (b := (((s + 5 : Nat) : Int))) rfl rfl (decide_eq_true (by omega)))
    (ibCons (ibGe (a := (((s + 4 : Nat) : Int))) (b := (0)) rfl rfl (decide_eq_true (by omega)))
    (ibCons (ibLe (a := (((s + 4 : Nat) : Int))) (b := (((s + 5 : Nat) : Int))) rfl rfl (decide_eq_true (by omega)))
    (ibCons (ibSub (a := (wd)) (b := (9)) (c := (wd - 9)) rfl rfl rfl (by first | assumption | omega) (by omega) (by omega))
    (ibCons (ibLe (a := (((s + 2 : Nat) : Int))) (b := (((s + 4 : Nat) : Int))) rfl rfl (decide_eq_true (by omega)))
    (ibCons (ibGe (a := (((s + 2 : Nat) : Int))) (b := (0)) rfl rfl (decide_eq_true (by omega)))
    (ibCons (ibLe (a := (((d + 1 : Nat) : Int))) (b := (((d + 2 : Nat) : Int))) rfl rfl (decide_eq_true (by omega)))
    (ibCons (ibEq (a := (((d + 1 : Nat) : Int))) (b := (0)) rfl rfl (decide_eq_false (by omega)))
    (ibCons (ibSub (a := (((d + 1 : Nat) : Int))) (b := (1)) (c := (((d : Nat) : Int))) rfl rfl rfl (by first | assumption | omega) (by omega) (by omega))
    (ibCons (ibLt (a := (((d : Nat) : Int))) (b := (((d + 1 : Nat) : Int))) rfl rfl (decide_eq_true (by omega)))
    (ibCons (ibGe (a := (((d : Nat) : Int))) (b := (0)) rfl rfl (decide_eq_true (by omega)))
    ibNil))))))))))))))))))))
theorem icC19 {v : Int} {lv : Int} {u : Int} {lu : Int} {res : Int} {r : Int} {wd : Int} {c0 : Int} {s : Nat} {d : Nat} {S : Nat} {W : Nat} (h2 : v ≤ 200) (h3 : 0 ≤ r) (h4 : r + 20 ≤ 5000) (h5 : 9 ≤ wd) (h6 : wd ≤ 2048) (h7 : 0 ≤ c0) (h8 : c0 ≤ 200000) (h11 : s ≤ 10000) (h12 : d ≤ 10000) (h13 : -1000 ≤ res) (h14 : res ≤ 1000) : ∀ x_ ∈ ([] : List (IntKind × AV × AV)), IcOk' (ivC19 v lv u lu res r wd c0 s d S W) x_ := icNil
theorem vlC19 {v : Int} {lv : Int} {u : Int} {lu : Int} {res : Int} {r : Int} {wd : Int} {c0 : Int} {s : Nat} {d : Nat} {S : Nat} {W : Nat} (h2 : v ≤ 200) (h3 : 0 ≤ r) (h4 : r + 20 ≤ 5000) (h5 : 9 ≤ wd) (h6 : wd ≤ 2048) (h7 : 0 ≤ c0) (h8 : c0 ≤ 200000) (h11 : s ≤ 10000) (h12 : d ≤ 10000) (h13 : -1000 ≤ res) (h14 : res ≤ 1000) : ∀ x_ ∈ ([⟨3, 13, 1, 0, [(pN 20005)]⟩, ⟨4, 13, 7, 6, [z1]⟩, ⟨0, 16, 1, 0, [(oN 4)]⟩, ⟨1, 16, 1, 0, [bF]⟩, ⟨5, 13, 7, 4, [z2]⟩, ⟨5, 13, 7, 5, [(iN 3)]⟩, ⟨5, 13, 7, 3, [(oN 9)]⟩, ⟨3, 10, 1, 0, [(pN 20040)]⟩, ⟨5, 10, 7, 6, [z0]⟩, ⟨5, 10, 7, 5, [(iN 3)]⟩] : List VL), VlOk (ivC19 v lv u lu res r wd c0 s d S W) (vvC19 s d S W) x_ :=
  (allCons (vlP (k := d + 1) (b := d) (c := 3) (o := 1) (L := [(pN 20040), (pN 20005)]) rfl rfl (by show (d + 1) * 1 + 0 = d + 1; omega) rfl)
    (allCons (vlP (k := d + 1) (b := 7 * d) (c := 2) (o := 13) (L := [z0, z0, (iN 16), (oN 8), z2, (iN 3), z0, z0, z0, (iN 19), (oN 9), z2, (iN 3), z1]) rfl rfl (by show (d + 1) * 7 + 6 = 7 * d + 13; omega) rfl)
    (allCons (vlP (k := s + 4) (b := s) (c := 0) (o := 4) (L := [(oN 0), (oN 1), (oN 2), (oN 3), (oN 4)]) rfl rfl (by show (s + 4) * 1 + 0 = s + 4; omega) rfl)
    (allCons (vlP (k := s + 4) (b := s) (c := 1) (o := 4) (L := [bF, bF, bF, bF, bF]) rfl rfl (by show (s + 4) * 1 + 0 = s + 4; omega) rfl)
    (allCons (vlP (k := d + 1) (b := 7 * d) (c := 2) (o := 11) (L := [z0, z0, (iN 16), (oN 8), z2, (iN 3), z0, z0, z0, (iN 19), (oN 9), z2, (iN 3), z0]) rfl rfl (by show (d + 1) * 7 + 4 = 7 * d + 11; omega) rfl)
    (allCons (vlP (k := d + 1) (b := 7 * d) (c := 2) (o := 12) (L := [z0, z0, (iN 16), (oN 8), z2, (iN 3), z0, z0, z0, (iN 19), (oN 9), z2, (iN 3), z0]) rfl rfl (by show (d + 1) * 7 + 5 = 7 * d + 12; omega) rfl)
    (allCons (vlP (k := d + 1) (b := 7 * d) (c := 2) (o := 10) (L := [z0, z0, (iN 16), (oN 8), z2, (iN 3), z0, z0, z0, (iN 19), (oN 9), z2, (iN 3), z0]) rfl rfl (by show (d + 1) * 7 + 3 = 7 * d + 10; omega) rfl)
    (allCons (vlP (k := d) (b := d) (c := 3) (o := 0) (L := [(pN 20040), (pN 20005)]) rfl rfl (by show (d) * 1 + 0 = d + 0; omega) rfl)
    (allCons (vlP (k := d) (b := 7 * d) (c := 2) (o := 6) (L := [z0, z0, (iN 16), (oN 8), z2, (iN 3), z0, z0, z0, (iN 19), (oN 9), z2, (iN 3), z0]) rfl rfl (by show (d) * 7 + 6 = 7 * d + 6; omega) rfl)
    (allCons (vlP (k := d) (b := 7 * d) (c := 2) (o := 5) (L := [z0, z0, (iN 16), (oN 8), z2, (iN 3), z0, z0, z0, (iN 19), (oN 9), z2, (iN 3), z0]) rfl rfl (by show (d) * 7 + 5 = 7 * d + 5; omega) rfl)
    allNil))))))))))
theorem vsC19 {v : Int} {lv : Int} {u : Int} {lu : Int} {res : Int} {r : Int} {wd : Int} {c0 : Int} {s : Nat} {d : Nat} {S : Nat} {W : Nat} (h2 : v ≤ 200) (h3 : 0 ≤ r) (h4 : r + 20 ≤ 5000) (h5 : 9 ≤ wd) (h6 : wd ≤ 2048) (h7 : 0 ≤ c0) (h8 : c0 ≤ 200000) (h11 : s ≤ 10000) (h12 : d ≤ 10000) (h13 : -1000 ≤ res) (h14 : res ≤ 1000) : ∀ x_ ∈ ([⟨2, 13, 7, 2, [(iN 19)], 4⟩, ⟨4, 13, 7, 6, [z0], 5⟩, ⟨5, 10, 7, 6, [z1], 6⟩] : List VS), VsOk (ivC19 v lv u lu res r wd c0 s d S W) (vvC19 s d S W) (vkC19 s d S W) x_ :=
  (allCons (vsP (k := d + 1) (b := 7 * d) (c := 2) (o := 9) (L := [z0, z0, (iN 16), (oN 8), z2, (iN 3), z0, z0, z0, (iN 16), (oN 9), z2, (iN 3), z1]) (L' := [z0, z0, (iN 16), (oN 8), z2, (iN 3), z0, z0, z0, (iN 19), (oN 9), z2, (iN 3), z1]) rfl rfl rfl rfl rfl (by show (d + 1) * 7 + 2 = 7 * d + 9; omega) rfl (by decide))
    (allCons (vsP (k := d + 1) (b := 7 * d) (c := 2) (o := 13) (L := [z0, z0, (iN 16), (oN 8), z2, (iN 3), z0, z0, z0, (iN 19), (oN 9), z2, (iN 3), z1]) (L' := [z0, z0, (iN 16), (oN 8), z2, (iN 3), z0, z0, z0, (iN 19), (oN 9), z2, (iN 3), z0]) rfl rfl rfl rfl rfl (by show (d + 1) * 7 + 6 = 7 * d + 13; omega) rfl (by decide))
    (allCons (vsP (k := d) (b := 7 * d) (c := 2) (o := 6) (L := [z0, z0, (iN 16), (oN 8), z2, (iN 3), z0, z0, z0, (iN 19), (oN 9), z2, (iN 3), z0]) (L' := [z0, z0, (iN 16), (oN 8), z2, (iN 3), z1, z0, z0, (iN 19), (oN 9), z2, (iN 3), z0]) rfl rfl rfl rfl rfl (by show (d) * 7 + 6 = 7 * d + 6; omega) rfl (by decide))
    allNil)))
theorem vaC19 {v : Int} {lv : Int} {u : Int} {lu : Int} {res : Int} {r : Int} {wd : Int} {c0 : Int} {s : Nat} {d : Nat} {S : Nat} {W : Nat} (h2 : v ≤ 200) (h3 : 0 ≤ r) (h4 : r + 20 ≤ 5000) (h5 : 9 ≤ wd) (h6 : wd ≤ 2048) (h7 : 0 ≤ c0) (h8 : c0 ≤ 200000) (h11 : s ≤ 10000) (h12 : d ≤ 10000) (h13 : -1000 ≤ res) (h14 : res ≤ 1000) : ∀ x_ ∈ ([⟨0, 9, 1, [(oN 4)], 7, 18⟩, ⟨1, 9, 1, [bF], 8, 18⟩] : List VA), VaOk (ivC19 v lv u lu res r wd c0 s d S W) (vvC19 s d S W) (vkC19 s d S W) x_ :=
  (allCons (vaP (j := s + 2) (j' := s + 3) (b := s) (c := 0) (o := 2) (L := [(oN 0), (oN 1), (oN 2), (oN 3), (oN 4)]) (L' := [(oN 0), (oN 1), (oN 4)]) rfl rfl rfl rfl rfl (by show (s + 2) * 1 = s + 2; omega) (by show (s + 3) * 1 = s + 2 + 1; omega) rfl (by decide) (by show s + 3 < 1000000; omega))
    (allCons (vaP (j := s + 2) (j' := s + 3) (b := s) (c := 1) (o := 2) (L := [bF, bF, bF, bF, bF]) (L' := [bF, bF, bF]) rfl rfl rfl rfl rfl (by show (s + 2) * 1 = s + 2; omega) (by show (s + 3) * 1 = s + 2 + 1; omega) rfl (by decide) (by show s + 3 < 1000000; omega))
    allNil))
abbrev RC19 {v : Int} {lv : Int} {u : Int} {lu : Int} {res : Int} {r : Int} {wd : Int} {c0 : Int} {s : Nat} {d : Nat} {S : Nat} {W : Nat} (h2 : v ≤ 200) (h3 : 0 ≤ r) (h4 : r + 20 ≤ 5000) (h5 : 9 ≤ wd) (h6 : wd ≤ 2048) (h7 : 0 ≤ c0) (h8 : c0 ≤ 200000) (h11 : s ≤ 10000) (h12 : d ≤ 10000) (h13 : -1000 ≤ res) (h14 : res ≤ 1000) : VRows (ivC19 v lv u lu res r wd c0 s d S W) (vvC19 s d S W) (vkC19 s d S W) where
  vvp := vpC19 s d S W
  ib := [(14, .oi 5, .int .i64 5000, .bool false), (9, .oi 12, .int .i64 0, .bool false), (1, .oi 12, .int .i64 1, .oi 13), (11, .oi 13, .oi 12, .bool true), (14, .oi 13, .int .i64 0, .bool true), (0, .oi 5, .int .i64 1, .oi 14), (0, .oi 7, .int .i64 1, .oi 15), (1, .oi 11, .int .i64 1, .oi 16), (1, .oi 16, .int .i64 0, .oi 16), (11, .oi 16, .oi 11, .bool true), (14, .oi 16, .int .i64 0, .bool true), (12, .oi 16, .oi 11, .bool true), (1, .oi 6, .int .i64 9, .oi 17), (12, .oi 9, .oi 16, .bool true), (14, .oi 9, .int .i64 0, .bool true), (12, .oi 13, .oi 12, .bool true), (9, .oi 13, .int .i64 0, .bool false), (1, .oi 13, .int .i64 1, .oi 10), (11, .oi 10, .oi 13, .bool true), (14, .oi 10, .int .i64 0, .bool true)]
  ibok := ibC19 h2 h3 h4 h5 h6 h7 h8 h11 h12 h13 h14
  ic := []
  icok := icC19 h2 h3 h4 h5 h6 h7 h8 h11 h12 h13 h14
  vl := [⟨3, 13, 1, 0, [(pN 20005)]⟩, ⟨4, 13, 7, 6, [z1]⟩, ⟨0, 16, 1, 0, [(oN 4)]⟩, ⟨1, 16, 1, 0, [bF]⟩, ⟨5, 13, 7, 4, [z2]⟩, ⟨5, 13, 7, 5, [(iN 3)]⟩, ⟨5, 13, 7, 3, [(oN 9)]⟩, ⟨3, 10, 1, 0, [(pN 20040)]⟩, ⟨5, 10, 7, 6, [z0]⟩, ⟨5, 10, 7, 5, [(iN 3)]⟩]
  vlok := vlC19 h2 h3 h4 h5 h6 h7 h8 h11 h12 h13 h14
  vs := [⟨2, 13, 7, 2, [(iN 19)], 4⟩, ⟨4, 13, 7, 6, [z0], 5⟩, ⟨5, 10, 7, 6, [z1], 6⟩]
  vsok := vsC19 h2 h3 h4 h5 h6 h7 h8 h11 h12 h13 h14
  va := [⟨0, 9, 1, [(oN 4)], 7, 18⟩, ⟨1, 9, 1, [bF], 8, 18⟩]
  vaok := vaC19 h2 h3 h4 h5 h6 h7 h8 h11 h12 h13 h14
  vc := []
  vcok := allNil
noncomputable abbrev rl_goC19 : List (Nat × Nat) := [(20000, 20000), (20001, 20099), (20002, 20100), (20003, 20003), (20004, 20004), (20005, 20040), (20023, 20023)]
noncomputable abbrev bs_goC19 : BS := [(10502, 10502, kb10), (13842, 13842, kb26), (13843, 13843, kb32), (13845, 13845, (.map [(tx34, (oN 3), 0)] 1)), (13846, 13846, kb27), (14138, 14138, kb16), (14709, 14709, kb18), (15514, 15514, kb19), (15576, 15576, kb20), (15581, 15581, kb21), (17787, 17787, kb23), (17792, 17792, kb24), (20000, 20000, kb22), (20001, 20099, (.vec 0)), (20002, 20100, (.vec 1)), (20003, 20003, (.vec 2)), (20004, 20004, (.vec 3)), (20005, 20040, kb40), (20023, 20023, kb24)]
noncomputable abbrev ip_goC19 : IP := [(.oi 18, 0), (.oi 13, 1), (.oi 17, 2), (.oi 15, 3), (.oi 14, 4), (.oi 0, 5), (.oi 1, 6), (.oi 4, 7), (.oi 8, 8)]
theorem bq_goC19 : hOf 20040 bs_goC19 = hOf 20040 bsR19 := hOf_congr (by kernel_rfl)
theorem goC19 {v : Int} {lv : Int} {u : Int} {lu : Int} {res : Int} {r : Int} {wd : Int} {c0 : Int} {s : Nat} {d : Nat} {S : Nat} {W : Nat} (h2 : v ≤ 200) (h3 : 0 ≤ r) (h4 : r + 20 ≤ 5000) (h5 : 9 ≤ wd) (h6 : wd ≤ 2048) (h7 : 0 ≤ c0) (h8 : c0 ≤ 200000) (h11 : s ≤ 10000) (h12 : d ≤ 10000) (h13 : -1000 ≤ res) (h14 : res ≤ 1000) {rv : Nat → Value} (hb : Base B μ 20000) {Q : Exit → Act → World → Prop} {j_ : Nat} (s_ : SC19 v lv u lu res r wd c0 s d S W rv B w0 μ a w) (hQ : ∀ a' w', SR19 (v) (lv) (res) (r + 1) (wd - 9) (c0 + 1) (s) (d) (0) (0) rv B w0 μ a' w' → Code.rounds Tryz.prog la Q j_ a' w') : Code.rounds Tryz.prog la Q (j_ + 1) a w := by
  have hip : IpOk ((RC19 (v := v) (lv := lv) (u := u) (lu := lu) (res := res) (r := r) (wd := wd) (c0 := c0) (s := s) (d := d) (S := S) (W := W) h2 h3 h4 h5 h6 h7 h8 h11 h12 h13 h14).rtab rv) (PR19 (v) (lv) (res) (r + 1) (wd - 9) (c0 + 1) (s) (d) (0) (0) rv) ip_goC19 := (ipCons (ipN (.i64, ((s + 3 : Nat) : Int)) rfl rfl) (ipCons (ipN (.i64, ((d + 1 : Nat) : Int)) rfl rfl) (ipCons (ipN (.i64, wd - 9) rfl (show (IntKind.i64, (wd - 9)) = (IntKind.i64, wd - 9) from Prod.ext rfl (show ((wd - 9) : Int) = wd - 9 by omega))) (ipCons (ipN (.i64, c0 + 1) rfl (show (IntKind.i64, (c0 + 1)) = (IntKind.i64, c0 + 1) from Prod.ext rfl (show ((c0 + 1) : Int) = c0 + 1 by omega))) (ipCons (ipN (.i64, r + 1) rfl (show (IntKind.i64, (r + 1)) = (IntKind.i64, r + 1) from Prod.ext rfl (show ((r + 1) : Int) = r + 1 by omega))) (ipCons (ipN (.i64, v) rfl rfl) (ipCons (ipN (.i64, lv) rfl rfl) (ipCons (ipN (.i64, res) rfl rfl) (ipCons (ipN (.i64, ((s : Nat) : Int)) rfl rfl) ipNil)))))))))
  have hvp : VpOk ((RC19 (v := v) (lv := lv) (u := u) (lu := lu) (res := res) (r := r) (wd := wd) (c0 := c0) (s := s) (d := d) (S := S) (W := W) h2 h3 h4 h5 h6 h7 h8 h11 h12 h13 h14).rtab rv) (PR19 (v) (lv) (res) (r + 1) (wd - 9) (c0 + 1) (s) (d) (0) (0) rv) ⟨20000, 20040, ofPairs rl_goC19, ip_goC19⟩ [(20099, .vec 7, 0), (20100, .vec 8, 1), (20003, .vec 6, 2), (20004, .vec 3, 3)] := (vpCons (vpPre (i := 7) (i' := 0) hip rfl rfl rfl (Nat.add_le_add_left (by decide) _) (by kernel_rfl))
    (vpCons (vpPre (i := 8) (i' := 1) hip rfl rfl rfl (Nat.add_le_add_left (by decide) _) (by kernel_rfl))
    (vpCons (vpPre (i := 6) (i' := 2) hip rfl rfl rfl (Nat.add_le_add_left (by decide) _) (by kernel_rfl))
    (vpCons (vpPre (i := 3) (i' := 3) hip rfl rfl rfl (Nat.add_le_add_left (by decide) _) (by kernel_rfl))
    vpNil))))
  exact stepsTo_sound (T := ((RC19 (v := v) (lv := lv) (u := u) (lu := lu) (res := res) (r := r) (wd := wd) (c0 := c0) (s := s) (d := d) (S := S) (W := W) h2 h3 h4 h5 h6 h7 h8 h11 h12 h13 h14).rtab rv)) (T' := (PR19 (v) (lv) (res) (r + 1) (wd - 9) (c0 + 1) (s) (d) (0) (0) rv)) (K := Hand.none) (m := 5000) mixed (@HandOk.none ((RC19 (v := v) (lv := lv) (u := u) (lu := lu) (res := res) (r := r) (wd := wd) (c0 := c0) (s := s) (d := d) (S := S) (W := W) h2 h3 h4 h5 h6 h7 h8 h11 h12 h13 h14).rtab rv) Tryz.prog) (C := ⟨20000, 20040, ofPairs rl_goC19, ip_goC19⟩) (ex := .normal) (rl := rl_goC19) (vp := [(20099, .vec 7, 0), (20100, .vec 8, 1), (20003, .vec 6, 2), (20004, .vec 3, 3)]) (fs := fsR) (bs := bs_goC19)
    hb (by decide) rfl (by kernel_rfl) hip hvp (glNone rfl rfl) (by as_aux_lemma => kernel_rfl) (St.same (VRows.rsame _ _ _) s_) (fun a' w' q => hQ a' w' (by rw [bq_goC19] at q; exact q))
end
end Go.Proofs.YtfkfmjlppllfoaaGreatDoor.un
