/-
  Steps back from a call.
-/
import Derived.Test.YtfkfmjlppllfoaaGreatDoorMNN
import Derived.Test.YtfkfmjlppllfoaaGreatDoorMUS
import Derived.Test.YtfkfmjlppllfoaaGreatDoorXN3
import Derived.Test.YtfkfmjlppllfoaaGreatDoorProg
import Derived.KernelRfl
set_option linter.unusedSectionVars false
set_option linter.unusedVariables false
set_option maxRecDepth 1000000
set_option maxHeartbeats 0
namespace Go.Proofs.YtfkfmjlppllfoaaGreatDoor.mu
open Go.X Go.RowKit
section
variable {B : Kp} {w0 : World} {μ : M} {a : Act} {w : World}
theorem ibC012 {v : Int} {u : Int} {res : Int} {r : Int} {wd : Int} {c0 : Int} {c1 : Int} {s : Nat} {d : Nat} (h3 : 0 ≤ r) (h4 : r + 20 ≤ 5000) (h5 : 7 ≤ wd) (h6 : wd ≤ 2048) (h7 : 0 ≤ c0) (h8 : c0 ≤ 100000) (h9 : 0 ≤ c1) (h10 : c1 ≤ 100000) (h11 : s ≤ 10000) (h12 : d ≤ 10000) (h13 : -5 ≤ res) (h14 : res ≤ 5) : ∀ x_ ∈ ([(14, .oi 3, .int .i64 5000, .bool false), (9, .oi 11, .int .i64 0, .bool false), (1, .oi 11, .int .i64 1, .oi 12), (11, .oi 12, .oi 11, .bool true), (14, .oi 12, .int .i64 0, .bool true), (0, .oi 3, .int .i64 1, .oi 13), (0, .oi 6, .int .i64 1, .oi 14), (1, .oi 10, .int .i64 1, .oi 15), (1, .oi 15, .int .i64 0, .oi 15), (11, .oi 15, .oi 10, .bool true), (14, .oi 15, .int .i64 0, .bool true), (12, .oi 15, .oi 10, .bool true), (1, .oi 4, .int .i64 7, .oi 16), (12, .oi 8, .oi 15, .bool true), (14, .oi 8, .int .i64 0, .bool true), (12, .oi 12, .oi 11, .bool true), (9, .oi 12, .int .i64 0, .bool false), (1, .oi 12, .int .i64 1, .oi 9), (11, .oi 9, .oi 12, .bool true), (14, .oi 9, .int .i64 0, .bool true)] : List BRow), IbOk (ivC012 v u res r wd c0 c1 s d) x_ := by
  letI := Tab.empty
  exact (ibCons (ibGe (a := (r)) (b := (5000)) rfl rfl (decide_eq_false (by omega)))
    (ibCons (ibEq (a := (((d + 2 : Nat) : Int))) (b := (0)) rfl rfl (decide_eq_false (by omega)))
    (ibCons (ibSub (a := (((d + 2 : Nat) : Int))) (b := (1)) (c := (((d + 1 : Nat) : Int))) rfl rfl rfl (by first | assumption | omega) (by omega) (by omega))
    (ibCons (ibLt (a := (((d + 1 : Nat) : Int))) (b := (((d + 2 : Nat) : Int))) rfl rfl (decide_eq_true (by omega)))
    (ibCons (ibGe (a := (((d + 1 : Nat) : Int))) (b := (0)) rfl rfl (decide_eq_true (by omega)))
    (ibCons (ibAdd (a := (r)) (b := (1)) (c := (r + 1)) rfl rfl rfl (by first | assumption | omega) (by omega) (by omega))
    (ibCons (ibAdd (a := (c1)) (b := (1)) (c := (c1 + 1)) rfl rfl rfl (by first | assumption | omega) (by omega) (by omega))
    (ibCons (ibSub (a := (((s + 3 : Nat) : Int))) (b := (1)) (c := (((s + 2 : Nat) : Int))) rfl rfl rfl (by first | assumption | omega) (by omega) (by omega))
    (ibCons (ibSub (a := (((s + 2 : Nat) : Int))) (b := (0)) (c := (((s + 2 : Nat) : Int))) rfl rfl rfl (by first | assumption | omega) (by omega) (by omega))
    (ibCons (ibLt (a := (((s + 2 : Nat) : Int))) (b := (((s + 3 : Nat) : Int))) rfl rfl (decide_eq_true (by omega)))
    (ibCons (ibGe (a := (((s + 2 : Nat) : Int))) (b := (0)) rfl rfl (decide_eq_true (by omega)))
    (ibCons (ibLe (a := (((s + 2 : Nat) : Int))) (b := (((s + 3 : Nat) : Int))) rfl rfl (decide_eq_true (by omega)))
    (ibCons (ibSub (a := (wd)) (b := (7)) (c := (wd - 7)) rfl rfl rfl (by first | assumption | omega) (by omega) (by omega))
    (ibCons (ibLe (a := (((s + 1 : Nat) : Int))) (b := (((s + 2 : Nat) : Int))) rfl rfl (decide_eq_true (by omega)))
    (ibCons (ibGe (a := (((s + 1 : Nat) : Int))) (b := (0)) rfl rfl (decide_eq_true (by omega)))
    (ibCons (ibLe (a := (((d + 1 : Nat) : Int))) (b := (((d + 2 : Nat) : Int))) rfl rfl (decide_eq_true (by omega)))
    (ibCons (ibEq (a := (((d + 1 : Nat) : Int))) (b := (0)) rfl rfl (decide_eq_false (by omega)))
    (ibCons (ibSub (a := (((d + 1 : Nat) : Int))) (b := (1)) (c := (((d : Nat) : Int))) rfl rfl rfl (by first | assumption | omega) (by omega) (by omega))
    (ibCons (ibLt (a := (((d : Nat) : Int))) (b := (((d + 1 : Nat) : Int))) rfl rfl (decide_eq_true (by omega)))
    (ibCons (ibGe (a := (((d : Nat) : Int))) (b := (0)) rfl rfl (decide_eq_true (by omega)))
    ibNil))))))))))))))))))))
theorem icC012 {v : Int} {u : Int} {res : Int} {r : Int} {wd : Int} {c0 : Int} {c1 : Int} {s : Nat} {d : Nat} (h3 : 0 ≤ r) (h4 : r + 20 ≤ 5000) (h5 : 7 ≤ wd) (h6 : wd ≤ 2048) (h7 : 0 ≤ c0) (h8 : c0 ≤ 100000) (h9 : 0 ≤ c1) (h10 : c1 ≤ 100000) (h11 : s ≤ 10000) (h12 : d ≤ 10000) (h13 : -5 ≤ res) (h14 : res ≤ 5) : ∀ x_ ∈ ([] : List (IntKind × AV × AV)), IcOk' (ivC012 v u res r wd c0 c1 s d) x_ := icNil
theorem vlC012 {v : Int} {u : Int} {res : Int} {r : Int} {wd : Int} {c0 : Int} {c1 : Int} {s : Nat} {d : Nat} (h3 : 0 ≤ r) (h4 : r + 20 ≤ 5000) (h5 : 7 ≤ wd) (h6 : wd ≤ 2048) (h7 : 0 ≤ c0) (h8 : c0 ≤ 100000) (h9 : 0 ≤ c1) (h10 : c1 ≤ 100000) (h11 : s ≤ 10000) (h12 : d ≤ 10000) (h13 : -5 ≤ res) (h14 : res ≤ 5) : ∀ x_ ∈ ([⟨3, 12, 1, 0, [(pN 20005)]⟩, ⟨4, 12, 7, 6, [z1]⟩, ⟨0, 15, 1, 0, [(oN 2)]⟩, ⟨1, 15, 1, 0, [bF]⟩, ⟨5, 12, 7, 4, [z1]⟩, ⟨5, 12, 7, 5, [z2]⟩, ⟨5, 12, 7, 3, [(oN 8)]⟩, ⟨3, 9, 1, 0, [(pN 20010)]⟩, ⟨5, 9, 7, 6, [z0]⟩, ⟨5, 9, 7, 5, [z2]⟩] : List VL), VlOk (ivC012 v u res r wd c0 c1 s d) (vvC012 s d) x_ :=
  (allCons (vlP (k := d + 1) (b := d) (c := 3) (o := 1) (L := [(pN 20010), (pN 20005)]) rfl rfl (by show (d + 1) * 1 + 0 = d + 1; omega) rfl)
    (allCons (vlP (k := d + 1) (b := 7 * d) (c := 2) (o := 13) (L := [z0, z0, (iN 9), (oN 7), z1, z2, z0, z0, z1, (iN 12), (oN 8), z1, z2, z1]) rfl rfl (by show (d + 1) * 7 + 6 = 7 * d + 13; omega) rfl)
    (allCons (vlP (k := s + 2) (b := s) (c := 0) (o := 2) (L := [(oN 0), (oN 1), (oN 2)]) rfl rfl (by show (s + 2) * 1 + 0 = s + 2; omega) rfl)
    (allCons (vlP (k := s + 2) (b := s) (c := 1) (o := 2) (L := [bF, bF, bF]) rfl rfl (by show (s + 2) * 1 + 0 = s + 2; omega) rfl)
    (allCons (vlP (k := d + 1) (b := 7 * d) (c := 2) (o := 11) (L := [z0, z0, (iN 9), (oN 7), z1, z2, z0, z0, z1, (iN 12), (oN 8), z1, z2, z0]) rfl rfl (by show (d + 1) * 7 + 4 = 7 * d + 11; omega) rfl)
    (allCons (vlP (k := d + 1) (b := 7 * d) (c := 2) (o := 12) (L := [z0, z0, (iN 9), (oN 7), z1, z2, z0, z0, z1, (iN 12), (oN 8), z1, z2, z0]) rfl rfl (by show (d + 1) * 7 + 5 = 7 * d + 12; omega) rfl)
    (allCons (vlP (k := d + 1) (b := 7 * d) (c := 2) (o := 10) (L := [z0, z0, (iN 9), (oN 7), z1, z2, z0, z0, z1, (iN 12), (oN 8), z1, z2, z0]) rfl rfl (by show (d + 1) * 7 + 3 = 7 * d + 10; omega) rfl)
    (allCons (vlP (k := d) (b := d) (c := 3) (o := 0) (L := [(pN 20010), (pN 20005)]) rfl rfl (by show (d) * 1 + 0 = d + 0; omega) rfl)
    (allCons (vlP (k := d) (b := 7 * d) (c := 2) (o := 6) (L := [z0, z0, (iN 9), (oN 7), z1, z2, z0, z0, z1, (iN 12), (oN 8), z1, z2, z0]) rfl rfl (by show (d) * 7 + 6 = 7 * d + 6; omega) rfl)
    (allCons (vlP (k := d) (b := 7 * d) (c := 2) (o := 5) (L := [z0, z0, (iN 9), (oN 7), z1, z2, z0, z0, z1, (iN 12), (oN 8), z1, z2, z0]) rfl rfl (by show (d) * 7 + 5 = 7 * d + 5; omega) rfl)
    allNil))))))))))
theorem vsC012 {v : Int} {u : Int} {res : Int} {r : Int} {wd : Int} {c0 : Int} {c1 : Int} {s : Nat} {d : Nat} (h3 : 0 ≤ r) (h4 : r + 20 ≤ 5000) (h5 : 7 ≤ wd) (h6 : wd ≤ 2048) (h7 : 0 ≤ c0) (h8 : c0 ≤ 100000) (h9 : 0 ≤ c1) (h10 : c1 ≤ 100000) (h11 : s ≤ 10000) (h12 : d ≤ 10000) (h13 : -5 ≤ res) (h14 : res ≤ 5) : ∀ x_ ∈ ([⟨2, 12, 7, 2, [(iN 12)], 4⟩, ⟨4, 12, 7, 6, [z0], 5⟩, ⟨5, 9, 7, 6, [z1], 6⟩] : List VS), VsOk (ivC012 v u res r wd c0 c1 s d) (vvC012 s d) (vkC012 s d) x_ :=
  (allCons (vsP (k := d + 1) (b := 7 * d) (c := 2) (o := 9) (L := [z0, z0, (iN 9), (oN 7), z1, z2, z0, z0, z1, (iN 9), (oN 8), z1, z2, z1]) (L' := [z0, z0, (iN 9), (oN 7), z1, z2, z0, z0, z1, (iN 12), (oN 8), z1, z2, z1]) rfl rfl rfl rfl rfl (by show (d + 1) * 7 + 2 = 7 * d + 9; omega) rfl (by decide))
    (allCons (vsP (k := d + 1) (b := 7 * d) (c := 2) (o := 13) (L := [z0, z0, (iN 9), (oN 7), z1, z2, z0, z0, z1, (iN 12), (oN 8), z1, z2, z1]) (L' := [z0, z0, (iN 9), (oN 7), z1, z2, z0, z0, z1, (iN 12), (oN 8), z1, z2, z0]) rfl rfl rfl rfl rfl (by show (d + 1) * 7 + 6 = 7 * d + 13; omega) rfl (by decide))
    (allCons (vsP (k := d) (b := 7 * d) (c := 2) (o := 6) (L := [z0, z0, (iN 9), (oN 7), z1, z2, z0, z0, z1, (iN 12), (oN 8), z1, z2, z0]) (L' := [z0, z0, (iN 9), (oN 7), z1, z2, z1, z0, z1, (iN 12), (oN 8), z1, z2, z0]) rfl rfl rfl rfl rfl (by show (d) * 7 + 6 = 7 * d + 6; omega) rfl (by decide))
    allNil)))
theorem vaC012 {v : Int} {u : Int} {res : Int} {r : Int} {wd : Int} {c0 : Int} {c1 : Int} {s : Nat} {d : Nat} (h3 : 0 ≤ r) (h4 : r + 20 ≤ 5000) (h5 : 7 ≤ wd) (h6 : wd ≤ 2048) (h7 : 0 ≤ c0) (h8 : c0 ≤ 100000) (h9 : 0 ≤ c1) (h10 : c1 ≤ 100000) (h11 : s ≤ 10000) (h12 : d ≤ 10000) (h13 : -5 ≤ res) (h14 : res ≤ 5) : ∀ x_ ∈ ([⟨0, 8, 1, [(oN 2)], 7, 15⟩, ⟨1, 8, 1, [bF], 8, 15⟩] : List VA), VaOk (ivC012 v u res r wd c0 c1 s d) (vvC012 s d) (vkC012 s d) x_ :=
  (allCons (vaP (j := s + 1) (j' := s + 2) (b := s) (c := 0) (o := 1) (L := [(oN 0), (oN 1), (oN 2)]) (L' := [(oN 0), (oN 2)]) rfl rfl rfl rfl rfl (by show (s + 1) * 1 = s + 1; omega) (by show (s + 2) * 1 = s + 1 + 1; omega) rfl (by decide) (by show s + 2 < 1000000; omega))
    (allCons (vaP (j := s + 1) (j' := s + 2) (b := s) (c := 1) (o := 1) (L := [bF, bF, bF]) (L' := [bF, bF]) rfl rfl rfl rfl rfl (by show (s + 1) * 1 = s + 1; omega) (by show (s + 2) * 1 = s + 1 + 1; omega) rfl (by decide) (by show s + 2 < 1000000; omega))
    allNil))
abbrev RC012 {v : Int} {u : Int} {res : Int} {r : Int} {wd : Int} {c0 : Int} {c1 : Int} {s : Nat} {d : Nat} (h3 : 0 ≤ r) (h4 : r + 20 ≤ 5000) (h5 : 7 ≤ wd) (h6 : wd ≤ 2048) (h7 : 0 ≤ c0) (h8 : c0 ≤ 100000) (h9 : 0 ≤ c1) (h10 : c1 ≤ 100000) (h11 : s ≤ 10000) (h12 : d ≤ 10000) (h13 : -5 ≤ res) (h14 : res ≤ 5) : VRows (ivC012 v u res r wd c0 c1 s d) (vvC012 s d) (vkC012 s d) where
  vvp := vpC012 s d
  ib := [(14, .oi 3, .int .i64 5000, .bool false), (9, .oi 11, .int .i64 0, .bool false), (1, .oi 11, .int .i64 1, .oi 12), (11, .oi 12, .oi 11, .bool true), (14, .oi 12, .int .i64 0, .bool true), (0, .oi 3, .int .i64 1, .oi 13), (0, .oi 6, .int .i64 1, .oi 14), (1, .oi 10, .int .i64 1, .oi 15), (1, .oi 15, .int .i64 0, .oi 15), (11, .oi 15, .oi 10, .bool true), (14, .oi 15, .int .i64 0, .bool true), (12, .oi 15, .oi 10, .bool true), (1, .oi 4, .int .i64 7, .oi 16), (12, .oi 8, .oi 15, .bool true), (14, .oi 8, .int .i64 0, .bool true), (12, .oi 12, .oi 11, .bool true), (9, .oi 12, .int .i64 0, .bool false), (1, .oi 12, .int .i64 1, .oi 9), (11, .oi 9, .oi 12, .bool true), (14, .oi 9, .int .i64 0, .bool true)]
  ibok := ibC012 h3 h4 h5 h6 h7 h8 h9 h10 h11 h12 h13 h14
  ic := []
  icok := icC012 h3 h4 h5 h6 h7 h8 h9 h10 h11 h12 h13 h14
  vl := [⟨3, 12, 1, 0, [(pN 20005)]⟩, ⟨4, 12, 7, 6, [z1]⟩, ⟨0, 15, 1, 0, [(oN 2)]⟩, ⟨1, 15, 1, 0, [bF]⟩, ⟨5, 12, 7, 4, [z1]⟩, ⟨5, 12, 7, 5, [z2]⟩, ⟨5, 12, 7, 3, [(oN 8)]⟩, ⟨3, 9, 1, 0, [(pN 20010)]⟩, ⟨5, 9, 7, 6, [z0]⟩, ⟨5, 9, 7, 5, [z2]⟩]
  vlok := vlC012 h3 h4 h5 h6 h7 h8 h9 h10 h11 h12 h13 h14
  vs := [⟨2, 12, 7, 2, [(iN 12)], 4⟩, ⟨4, 12, 7, 6, [z0], 5⟩, ⟨5, 9, 7, 6, [z1], 6⟩]
  vsok := vsC012 h3 h4 h5 h6 h7 h8 h9 h10 h11 h12 h13 h14
  va := [⟨0, 8, 1, [(oN 2)], 7, 15⟩, ⟨1, 8, 1, [bF], 8, 15⟩]
  vaok := vaC012 h3 h4 h5 h6 h7 h8 h9 h10 h11 h12 h13 h14
  vc := []
  vcok := allNil
noncomputable abbrev rl_goC012 : List (Nat × Nat) := [(20000, 20000), (20001, 20064), (20002, 20065), (20003, 20003), (20004, 20004), (20005, 20010)]
noncomputable abbrev bs_goC012 : BS := [(7168, 7168, (.map [(tx17, (pN 14062), 0)] 1)), (7169, 7169, kb0), (7170, 7170, kb1), (9584, 9584, kb2), (10426, 10426, (.map [(tx17, z0, 0)] 1)), (10428, 10428, kb3), (10429, 10429, kb4), (13769, 13769, kb21), (13770, 13770, kb6), (13771, 13771, (.map [(tx17, z0, 0)] 1)), (13772, 13772, kb7), (13773, 13773, kb22), (14062, 14062, kb9), (14064, 14064, kb10), (14502, 14502, kb11), (14826, 14826, kb12), (14870, 14870, kb13), (15194, 15194, kb14), (15200, 15200, kb15), (16578, 16578, kb17), (16583, 16583, kb18), (20000, 20000, kb16), (20001, 20064, (.vec 0)), (20002, 20065, (.vec 1)), (20003, 20003, (.vec 2)), (20004, 20004, (.vec 3)), (20005, 20010, kb29)]
noncomputable abbrev ip_goC012 : IP := [(.oi 15, 0), (.oi 12, 1), (.oi 16, 2), (.oi 5, 3), (.oi 14, 4), (.oi 13, 5), (.oi 0, 6), (.oi 2, 7), (.oi 7, 8)]
theorem bq_goC012 : hOf 20010 bs_goC012 = hOf 20010 bsR012 := hOf_congr (by kernel_rfl)
theorem goC012 {v : Int} {u : Int} {res : Int} {r : Int} {wd : Int} {c0 : Int} {c1 : Int} {s : Nat} {d : Nat} (h3 : 0 ≤ r) (h4 : r + 20 ≤ 5000) (h5 : 7 ≤ wd) (h6 : wd ≤ 2048) (h7 : 0 ≤ c0) (h8 : c0 ≤ 100000) (h9 : 0 ≤ c1) (h10 : c1 ≤ 100000) (h11 : s ≤ 10000) (h12 : d ≤ 10000) (h13 : -5 ≤ res) (h14 : res ≤ 5) {rv : Nat → Value} (hb : Base B μ 20000) {Q : Exit → Act → World → Prop} {j_ : Nat} (s_ : SC012 v u res r wd c0 c1 s d rv B w0 μ a w) (hQ : ∀ a' w', SR012 (v) (res) (r + 1) (wd - 7) (c0) (c1 + 1) (s) (d) rv B w0 μ a' w' → Code.rounds Tryz.prog la Q j_ a' w') : Code.rounds Tryz.prog la Q (j_ + 1) a w := by
  have hip : IpOk ((RC012 (v := v) (u := u) (res := res) (r := r) (wd := wd) (c0 := c0) (c1 := c1) (s := s) (d := d) h3 h4 h5 h6 h7 h8 h9 h10 h11 h12 h13 h14).rtab rv) (PR012 (v) (res) (r + 1) (wd - 7) (c0) (c1 + 1) (s) (d) rv) ip_goC012 := (ipCons (ipN (.i64, ((s + 2 : Nat) : Int)) rfl rfl) (ipCons (ipN (.i64, ((d + 1 : Nat) : Int)) rfl rfl) (ipCons (ipN (.i64, wd - 7) rfl rfl) (ipCons (ipN (.i64, c0) rfl rfl) (ipCons (ipN (.i64, c1 + 1) rfl rfl) (ipCons (ipN (.i64, r + 1) rfl rfl) (ipCons (ipN (.i64, v) rfl rfl) (ipCons (ipN (.i64, res) rfl rfl) (ipCons (ipN (.i64, ((s : Nat) : Int)) rfl rfl) ipNil)))))))))
  have hvp : VpOk ((RC012 (v := v) (u := u) (res := res) (r := r) (wd := wd) (c0 := c0) (c1 := c1) (s := s) (d := d) h3 h4 h5 h6 h7 h8 h9 h10 h11 h12 h13 h14).rtab rv) (PR012 (v) (res) (r + 1) (wd - 7) (c0) (c1 + 1) (s) (d) rv) ⟨20000, 20010, ofPairs rl_goC012, ip_goC012⟩ [(20064, .vec 7, 0), (20065, .vec 8, 1), (20003, .vec 6, 2), (20004, .vec 3, 3)] := (vpCons (vpPre (i := 7) (i' := 0) hip rfl rfl rfl (Nat.add_le_add_left (by decide) _) (by kernel_rfl))
    (vpCons (vpPre (i := 8) (i' := 1) hip rfl rfl rfl (Nat.add_le_add_left (by decide) _) (by kernel_rfl))
    (vpCons (vpPre (i := 6) (i' := 2) hip rfl rfl rfl (Nat.add_le_add_left (by decide) _) (by kernel_rfl))
    (vpCons (vpPre (i := 3) (i' := 3) hip rfl rfl rfl (Nat.add_le_add_left (by decide) _) (by kernel_rfl))
    vpNil))))
  exact stepsTo_sound (T := ((RC012 (v := v) (u := u) (res := res) (r := r) (wd := wd) (c0 := c0) (c1 := c1) (s := s) (d := d) h3 h4 h5 h6 h7 h8 h9 h10 h11 h12 h13 h14).rtab rv)) (T' := (PR012 (v) (res) (r + 1) (wd - 7) (c0) (c1 + 1) (s) (d) rv)) (K := Hand.none) (m := 5000) mixed (@HandOk.none ((RC012 (v := v) (u := u) (res := res) (r := r) (wd := wd) (c0 := c0) (c1 := c1) (s := s) (d := d) h3 h4 h5 h6 h7 h8 h9 h10 h11 h12 h13 h14).rtab rv) Tryz.prog) (C := ⟨20000, 20010, ofPairs rl_goC012, ip_goC012⟩) (ex := .normal) (rl := rl_goC012) (vp := [(20064, .vec 7, 0), (20065, .vec 8, 1), (20003, .vec 6, 2), (20004, .vec 3, 3)]) (fs := fsR) (bs := bs_goC012)
    hb (by decide) rfl (by kernel_rfl) hip hvp (glNone rfl rfl) (by as_aux_lemma => kernel_rfl) (St.same (VRows.rsame _ _ _) s_) (fun a' w' q => hQ a' w' (by rw [bq_goC012] at q; exact q))
theorem ibC112 {v : Int} {u : Int} {res : Int} {r : Int} {wd : Int} {c0 : Int} {c1 : Int} {s : Nat} {d : Nat} (h3 : 0 ≤ r) (h4 : r + 20 ≤ 5000) (h5 : 7 ≤ wd) (h6 : wd ≤ 2048) (h7 : 0 ≤ c0) (h8 : c0 ≤ 100000) (h9 : 0 ≤ c1) (h10 : c1 ≤ 100000) (h11 : s ≤ 10000) (h12 : d ≤ 10000) (h13 : -5 ≤ res) (h14 : res ≤ 5) : ∀ x_ ∈ ([(14, .oi 3, .int .i64 5000, .bool false), (9, .oi 11, .int .i64 0, .bool false), (1, .oi 11, .int .i64 1, .oi 12), (11, .oi 12, .oi 11, .bool true), (14, .oi 12, .int .i64 0, .bool true), (0, .oi 3, .int .i64 1, .oi 13), (0, .oi 5, .int .i64 1, .oi 14), (1, .oi 10, .int .i64 1, .oi 15), (1, .oi 15, .int .i64 0, .oi 15), (11, .oi 15, .oi 10, .bool true), (14, .oi 15, .int .i64 0, .bool true), (12, .oi 15, .oi 10, .bool true), (1, .oi 4, .int .i64 7, .oi 16), (12, .oi 8, .oi 15, .bool true), (14, .oi 8, .int .i64 0, .bool true), (12, .oi 12, .oi 11, .bool true), (9, .oi 12, .int .i64 0, .bool false), (1, .oi 12, .int .i64 1, .oi 9), (11, .oi 9, .oi 12, .bool true), (14, .oi 9, .int .i64 0, .bool true)] : List BRow), IbOk (ivC112 v u res r wd c0 c1 s d) x_ := by
  letI := Tab.empty
  exact (ibCons (ibGe (a := (r)) (b := (5000)) rfl rfl (decide_eq_false (by omega)))
    (ibCons (ibEq (a := (((d + 2 : Nat) : Int))) (b := (0)) rfl rfl (decide_eq_false (by omega)))
    (ibCons (ibSub (a := (((d + 2 : Nat) : Int))) (b := (1)) (c := (((d + 1 : Nat) : Int))) rfl rfl rfl (by first | assumption | omega) (by omega) (by omega))
    (ibCons (ibLt (a := (((d + 1 : Nat) : Int))) (b := (((d + 2 : Nat) : Int))) rfl rfl (decide_eq_true (by omega)))
    (ibCons (ibGe (a := (((d + 1 : Nat) : Int))) (b := (0)) rfl rfl (decide_eq_true (by omega)))
    (ibCons (ibAdd (a := (r)) (b := (1)) (c := (r + 1)) rfl rfl rfl (by first | assumption | omega) (by omega) (by omega))
    (ibCons (ibAdd (a := (c0)) (b := (1)) (c := (c0 + 1)) rfl rfl rfl (by first | assumption | omega) (by omega) (by omega))
    (ibCons (ibSub (a := (((s + 3 : Nat) : Int))) (b := (1)) (c := (((s + 2 : Nat) : Int))) rfl rfl rfl (by first | assumption | omega) (by omega) (by omega))
    (ibCons (ibSub (a := (((s + 2 : Nat) : Int))) (b := (0)) (c := (((s + 2 : Nat) : Int))) rfl rfl rfl (by first | assumption | omega) (by omega) (by omega))
    (ibCons (ibLt (a := (((s + 2 : Nat) : Int))) (b := (((s + 3 : Nat) : Int))) rfl rfl (decide_eq_true (by omega)))
    (ibCons (ibGe (a := (((s + 2 : Nat) : Int))) (b := (0)) rfl rfl (decide_eq_true (by omega)))
    (ibCons (ibLe (a := (((s + 2 : Nat) : Int))) (b := (((s + 3 : Nat) : Int))) rfl rfl (decide_eq_true (by omega)))
    (ibCons (ibSub (a := (wd)) (b := (7)) (c := (wd - 7)) rfl rfl rfl (by first | assumption | omega) (by omega) (by omega))
    (ibCons (ibLe (a := (((s + 1 : Nat) : Int))) (b := (((s + 2 : Nat) : Int))) rfl rfl (decide_eq_true (by omega)))
    (ibCons (ibGe (a := (((s + 1 : Nat) : Int))) (b := (0)) rfl rfl (decide_eq_true (by omega)))
    (ibCons (ibLe (a := (((d + 1 : Nat) : Int))) (b := (((d + 2 : Nat) : Int))) rfl rfl (decide_eq_true (by omega)))
    (ibCons (ibEq (a := (((d + 1 : Nat) : Int))) (b := (0)) rfl rfl (decide_eq_false (by omega)))
    (ibCons (ibSub (a := (((d + 1 : Nat) : Int))) (b := (1)) (c := (((d : Nat) : Int))) rfl rfl rfl (by first | assumption | omega) (by omega) (by omega))
    (ibCons (ibLt (a := (((d : Nat) : Int))) (b := (((d + 1 : Nat) : Int))) rfl rfl (decide_eq_true (by omega)))
    (ibCons (ibGe (a := (((d : Nat) : Int))) (b := (0)) rfl rfl (decide_eq_true (by omega)))
    ibNil))))))))))))))))))))
theorem icC112 {v : Int} {u : Int} {res : Int} {r : Int} {wd : Int} {c0 : Int} {c1 : Int} {s : Nat} {d : Nat} (h3 : 0 ≤ r) (h4 : r + 20 ≤ 5000) (h5 : 7 ≤ wd) (h6 : wd ≤ 2048) (h7 : 0 ≤ c0) (h8 : c0 ≤ 100000) (h9 : 0 ≤ c1) (h10 : c1 ≤ 100000) (h11 : s ≤ 10000) (h12 : d ≤ 10000) (h13 : -5 ≤ res) (h14 : res ≤ 5) : ∀ x_ ∈ ([] : List (IntKind × AV × AV)), IcOk' (ivC112 v u res r wd c0 c1 s d) x_ := icNil
theorem vlC112 {v : Int} {u : Int} {res : Int} {r : Int} {wd : Int} {c0 : Int} {c1 : Int} {s : Nat} {d : Nat} (h3 : 0 ≤ r) (h4 : r + 20 ≤ 5000) (h5 : 7 ≤ wd) (h6 : wd ≤ 2048) (h7 : 0 ≤ c0) (h8 : c0 ≤ 100000) (h9 : 0 ≤ c1) (h10 : c1 ≤ 100000) (h11 : s ≤ 10000) (h12 : d ≤ 10000) (h13 : -5 ≤ res) (h14 : res ≤ 5) : ∀ x_ ∈ ([⟨3, 12, 1, 0, [(pN 20005)]⟩, ⟨4, 12, 7, 6, [z1]⟩, ⟨0, 15, 1, 0, [(oN 2)]⟩, ⟨1, 15, 1, 0, [bF]⟩, ⟨5, 12, 7, 4, [z1]⟩, ⟨5, 12, 7, 5, [z2]⟩, ⟨5, 12, 7, 3, [(oN 8)]⟩, ⟨3, 9, 1, 0, [(pN 20010)]⟩, ⟨5, 9, 7, 6, [z0]⟩, ⟨5, 9, 7, 5, [z2]⟩] : List VL), VlOk (ivC112 v u res r wd c0 c1 s d) (vvC112 s d) x_ :=
  (allCons (vlP (k := d + 1) (b := d) (c := 3) (o := 1) (L := [(pN 20010), (pN 20005)]) rfl rfl (by show (d + 1) * 1 + 0 = d + 1; omega) rfl)
    (allCons (vlP (k := d + 1) (b := 7 * d) (c := 2) (o := 13) (L := [z0, z1, (iN 9), (oN 7), z1, z2, z0, z0, z0, (iN 12), (oN 8), z1, z2, z1]) rfl rfl (by show (d + 1) * 7 + 6 = 7 * d + 13; omega) rfl)
    (allCons (vlP (k := s + 2) (b := s) (c := 0) (o := 2) (L := [(oN 0), (oN 1), (oN 2)]) rfl rfl (by show (s + 2) * 1 + 0 = s + 2; omega) rfl)
    (allCons (vlP (k := s + 2) (b := s) (c := 1) (o := 2) (L := [bF, bF, bF]) rfl rfl (by show (s + 2) * 1 + 0 = s + 2; omega) rfl)
    (allCons (vlP (k := d + 1) (b := 7 * d) (c := 2) (o := 11) (L := [z0, z1, (iN 9), (oN 7), z1, z2, z0, z0, z0, (iN 12), (oN 8), z1, z2, z0]) rfl rfl (by show (d + 1) * 7 + 4 = 7 * d + 11; omega) rfl)
    (allCons (vlP (k := d + 1) (b := 7 * d) (c := 2) (o := 12) (L := [z0, z1, (iN 9), (oN 7), z1, z2, z0, z0, z0, (iN 12), (oN 8), z1, z2, z0]) rfl rfl (by show (d + 1) * 7 + 5 = 7 * d + 12; omega) rfl)
    (allCons (vlP (k := d + 1) (b := 7 * d) (c := 2) (o := 10) (L := [z0, z1, (iN 9), (oN 7), z1, z2, z0, z0, z0, (iN 12), (oN 8), z1, z2, z0]) rfl rfl (by show (d + 1) * 7 + 3 = 7 * d + 10; omega) rfl)
    (allCons (vlP (k := d) (b := d) (c := 3) (o := 0) (L := [(pN 20010), (pN 20005)]) rfl rfl (by show (d) * 1 + 0 = d + 0; omega) rfl)
    (allCons (vlP (k := d) (b := 7 * d) (c := 2) (o := 6) (L := [z0, z1, (iN 9), (oN 7), z1, z2, z0, z0, z0, (iN 12), (oN 8), z1, z2, z0]) rfl rfl (by show (d) * 7 + 6 = 7 * d + 6; omega) rfl)
    (allCons (vlP (k := d) (b := 7 * d) (c := 2) (o := 5) (L := [z0, z1, (iN 9), (oN 7), z1, z2, z0, z0, z0, (iN 12), (oN 8), z1, z2, z0]) rfl rfl (by show (d) * 7 + 5 = 7 * d + 5; omega) rfl)
    allNil))))))))))
theorem vsC112 {v : Int} {u : Int} {res : Int} {r : Int} {wd : Int} {c0 : Int} {c1 : Int} {s : Nat} {d : Nat} (h3 : 0 ≤ r) (h4 : r + 20 ≤ 5000) (h5 : 7 ≤ wd) (h6 : wd ≤ 2048) (h7 : 0 ≤ c0) (h8 : c0 ≤ 100000) (h9 : 0 ≤ c1) (h10 : c1 ≤ 100000) (h11 : s ≤ 10000) (h12 : d ≤ 10000) (h13 : -5 ≤ res) (h14 : res ≤ 5) : ∀ x_ ∈ ([⟨2, 12, 7, 2, [(iN 12)], 4⟩, ⟨4, 12, 7, 6, [z0], 5⟩, ⟨5, 9, 7, 6, [z1], 6⟩] : List VS), VsOk (ivC112 v u res r wd c0 c1 s d) (vvC112 s d) (vkC112 s d) x_ :=
  (allCons (vsP (k := d + 1) (b := 7 * d) (c := 2) (o := 9) (L := [z0, z1, (iN 9), (oN 7), z1, z2, z0, z0, z0, (iN 9), (oN 8), z1, z2, z1]) (L' := [z0, z1, (iN 9), (oN 7), z1, z2, z0, z0, z0, (iN 12), (oN 8), z1, z2, z1]) rfl rfl rfl rfl rfl (by show (d + 1) * 7 + 2 = 7 * d + 9; omega) rfl (by decide))
    (allCons (vsP (k := d + 1) (b := 7 * d) (c := 2) (o := 13) (L := [z0, z1, (iN 9), (oN 7), z1, z2, z0, z0, z0, (iN 12), (oN 8), z1, z2, z1]) (L' := [z0, z1, (iN 9), (oN 7), z1, z2, z0, z0, z0, (iN 12), (oN 8), z1, z2, z0]) rfl rfl rfl rfl rfl (by show (d + 1) * 7 + 6 = 7 * d + 13; omega) rfl (by decide))
    (allCons (vsP (k := d) (b := 7 * d) (c := 2) (o := 6) (L := [z0, z1, (iN 9), (oN 7), z1, z2, z0, z0, z0, (iN 12), (oN 8), z1, z2, z0]) (L' := [z0, z1, (iN 9), (oN 7), z1, z2, z1, z0, z0, (iN 12), (oN 8), z1, z2, z0]) rfl rfl rfl rfl rfl (by show (d) * 7 + 6 = 7 * d + 6; omega) rfl (by decide))
    allNil)))
theorem vaC112 {v : Int} {u : Int} {res : Int} {r : Int} {wd : Int} {c0 : Int} {c1 : Int} {s : Nat} {d : Nat} (h3 : 0 ≤ r) (h4 : r + 20 ≤ 5000) (h5 : 7 ≤ wd) (h6 : wd ≤ 2048) (h7 : 0 ≤ c0) (h8 : c0 ≤ 100000) (h9 : 0 ≤ c1) (h10 : c1 ≤ 100000) (h11 : s ≤ 10000) (h12 : d ≤ 10000) (h13 : -5 ≤ res) (h14 : res ≤ 5) : ∀ x_ ∈ ([⟨0, 8, 1, [(oN 2)], 7, 15⟩, ⟨1, 8, 1, [bF], 8, 15⟩] : List VA), VaOk (ivC112 v u res r wd c0 c1 s d) (vvC112 s d) (vkC112 s d) x_ :=
  (allCons (vaP (j := s + 1) (j' := s + 2) (b := s) (c := 0) (o := 1) (L := [(oN 0), (oN 1), (oN 2)]) (L' := [(oN 0), (oN 2)]) rfl rfl rfl rfl rfl (by show (s + 1) * 1 = s + 1; omega) (by show (s + 2) * 1 = s + 1 + 1; omega) rfl (by decide) (by show s + 2 < 1000000; omega))
    (allCons (vaP (j := s + 1) (j' := s + 2) (b := s) (c := 1) (o := 1) (L := [bF, bF, bF]) (L' := [bF, bF]) rfl rfl rfl rfl rfl (by show (s + 1) * 1 = s + 1; omega) (by show (s + 2) * 1 = s + 1 + 1; omega) rfl (by decide) (by show s + 2 < 1000000; omega))
    allNil))
abbrev RC112 {v : Int} {u : Int} {res : Int} {r : Int} {wd : Int} {c0 : Int} {c1 : Int} {s : Nat} {d : Nat} (h3 : 0 ≤ r) (h4 : r + 20 ≤ 5000) (h5 : 7 ≤ wd) (h6 : wd ≤ 2048) (h7 : 0 ≤ c0) (h8 : c0 ≤ 100000) (h9 : 0 ≤ c1) (h10 : c1 ≤ 100000) (h11 : s ≤ 10000) (h12 : d ≤ 10000) (h13 : -5 ≤ res) (h14 : res ≤ 5) : VRows (ivC112 v u res r wd c0 c1 s d) (vvC112 s d) (vkC112 s d) where
  vvp := vpC112 s d
  ib := [(14, .oi 3, .int .i64 5000, .bool false), (9, .oi 11, .int .i64 0, .bool false), (1, .oi 11, .int .i64 1, .oi 12), (11, .oi 12, .oi 11, .bool true), (14, .oi 12, .int .i64 0, .bool true), (0, .oi 3, .int .i64 1, .oi 13), (0, .oi 5, .int .i64 1, .oi 14), (1, .oi 10, .int .i64 1, .oi 15), (1, .oi 15, .int .i64 0, .oi 15), (11, .oi 15, .oi 10, .bool true), (14, .oi 15, .int .i64 0, .bool true), (12, .oi 15, .oi 10, .bool true), (1, .oi 4, .int .i64 7, .oi 16), (12, .oi 8, .oi 15, .bool true), (14, .oi 8, .int .i64 0, .bool true), (12, .oi 12, .oi 11, .bool true), (9, .oi 12, .int .i64 0, .bool false), (1, .oi 12, .int .i64 1, .oi 9), (11, .oi 9, .oi 12, .bool true), (14, .oi 9, .int .i64 0, .bool true)]
  ibok := ibC112 h3 h4 h5 h6 h7 h8 h9 h10 h11 h12 h13 h14
  ic := []
  icok := icC112 h3 h4 h5 h6 h7 h8 h9 h10 h11 h12 h13 h14
  vl := [⟨3, 12, 1, 0, [(pN 20005)]⟩, ⟨4, 12, 7, 6, [z1]⟩, ⟨0, 15, 1, 0, [(oN 2)]⟩, ⟨1, 15, 1, 0, [bF]⟩, ⟨5, 12, 7, 4, [z1]⟩, ⟨5, 12, 7, 5, [z2]⟩, ⟨5, 12, 7, 3, [(oN 8)]⟩, ⟨3, 9, 1, 0, [(pN 20010)]⟩, ⟨5, 9, 7, 6, [z0]⟩, ⟨5, 9, 7, 5, [z2]⟩]
  vlok := vlC112 h3 h4 h5 h6 h7 h8 h9 h10 h11 h12 h13 h14
  vs := [⟨2, 12, 7, 2, [(iN 12)], 4⟩, ⟨4, 12, 7, 6, [z0], 5⟩, ⟨5, 9, 7, 6, [z1], 6⟩]
  vsok := vsC112 h3 h4 h5 h6 h7 h8 h9 h10 h11 h12 h13 h14
  va := [⟨0, 8, 1, [(oN 2)], 7, 15⟩, ⟨1, 8, 1, [bF], 8, 15⟩]
  vaok := vaC112 h3 h4 h5 h6 h7 h8 h9 h10 h11 h12 h13 h14
  vc := []
  vcok := allNil
noncomputable abbrev rl_goC112 : List (Nat × Nat) := [(20000, 20000), (20001, 20064), (20002, 20065), (20003, 20003), (20004, 20004), (20005, 20010)]
noncomputable abbrev bs_goC112 : BS := [(7168, 7168, (.map [(tx17, (pN 14062), 0)] 1)), (7169, 7169, kb0), (7170, 7170, kb1), (9584, 9584, kb2), (10426, 10426, (.map [(tx17, z0, 0)] 1)), (10428, 10428, kb3), (10429, 10429, kb4), (13769, 13769, kb21), (13770, 13770, kb6), (13771, 13771, (.map [(tx17, z0, 0)] 1)), (13772, 13772, kb7), (13773, 13773, kb22), (14062, 14062, kb9), (14064, 14064, kb10), (14502, 14502, kb11), (14826, 14826, kb12), (14870, 14870, kb13), (15194, 15194, kb14), (15200, 15200, kb15), (16578, 16578, kb17), (16583, 16583, kb18), (20000, 20000, kb16), (20001, 20064, (.vec 0)), (20002, 20065, (.vec 1)), (20003, 20003, (.vec 2)), (20004, 20004, (.vec 3)), (20005, 20010, kb28)]
noncomputable abbrev ip_goC112 : IP := [(.oi 15, 0), (.oi 12, 1), (.oi 16, 2), (.oi 14, 3), (.oi 6, 4), (.oi 13, 5), (.oi 0, 6), (.oi 2, 7), (.oi 7, 8)]
theorem bq_goC112 : hOf 20010 bs_goC112 = hOf 20010 bsR112 := hOf_congr (by kernel_rfl)
theorem goC112 {v : Int} {u : Int} {res : Int} {r : Int} {wd : Int} {c0 : Int} {c1 : Int} {s : Nat} {d : Nat} (h3 : 0 ≤ r) (h4 : r + 20 ≤ 5000) (h5 : 7 ≤ wd) (h6 : wd ≤ 2048) (h7 : 0 ≤ c0) (h8 : c0 ≤ 100000) (h9 : 0 ≤ c1) (h10 : c1 ≤ 100000) (h11 : s ≤ 10000) (h12 : d ≤ 10000) (h13 : -5 ≤ res) (h14 : res ≤ 5) {rv : Nat → Value} (hb : Base B μ 20000) {Q : Exit → Act → World → Prop} {j_ : Nat} (s_ : SC112 v u res r wd c0 c1 s d rv B w0 μ a w) (hQ : ∀ a' w', SR112 (v) (res) (r + 1) (wd - 7) (c0 + 1) (c1) (s) (d) rv B w0 μ a' w' → Code.rounds Tryz.prog la Q j_ a' w') : Code.rounds Tryz.prog la Q (j_ + 1) a w := by
  have hip : IpOk ((RC112 (v := v) (u := u) (res := res) (r := r) (wd := wd) (c0 := c0) (c1 := c1) (s := s) (d := d) h3 h4 h5 h6 h7 h8 h9 h10 h11 h12 h13 h14).rtab rv) (PR112 (v) (res) (r + 1) (wd - 7) (c0 + 1) (c1) (s) (d) rv) ip_goC112 := (ipCons (ipN (.i64, ((s + 2 : Nat) : Int)) rfl rfl) (ipCons (ipN (.i64, ((d + 1 : Nat) : Int)) rfl rfl) (ipCons (ipN (.i64, wd - 7) rfl rfl) (ipCons (ipN (.i64, c0 + 1) rfl rfl) (ipCons (ipN (.i64, c1) rfl rfl) (ipCons (ipN (.i64, r + 1) rfl rfl) (ipCons (ipN (.i64, v) rfl rfl) (ipCons (ipN (.i64, res) rfl rfl) (ipCons (ipN (.i64, ((s : Nat) : Int)) rfl rfl) ipNil)))))))))
  have hvp : VpOk ((RC112 (v := v) (u := u) (res := res) (r := r) (wd := wd) (c0 := c0) (c1 := c1) (s := s) (d := d) h3 h4 h5 h6 h7 h8 h9 h10 h11 h12 h13 h14).rtab rv) (PR112 (v) (res) (r + 1) (wd - 7) (c0 + 1) (c1) (s) (d) rv) ⟨20000, 20010, ofPairs rl_goC112, ip_goC112⟩ [(20064, .vec 7, 0), (20065, .vec 8, 1), (20003, .vec 6, 2), (20004, .vec 3, 3)] := (vpCons (vpPre (i := 7) (i' := 0) hip rfl rfl rfl (Nat.add_le_add_left (by decide) _) (by kernel_rfl))
    (vpCons (vpPre (i := 8) (i' := 1) hip rfl rfl rfl (Nat.add_le_add_left (by decide) _) (by kernel_rfl))
    (vpCons (vpPre (i := 6) (i' := 2) hip rfl rfl rfl (Nat.add_le_add_left (by decide) _) (by kernel_rfl))
    (vpCons (vpPre (i := 3) (i' := 3) hip rfl rfl rfl (Nat.add_le_add_left (by decide) _) (by kernel_rfl))
    vpNil))))
  exact stepsTo_sound (T := ((RC112 (v := v) (u := u) (res := res) (r := r) (wd := wd) (c0 := c0) (c1 := c1) (s := s) (d := d) h3 h4 h5 h6 h7 h8 h9 h10 h11 h12 h13 h14).rtab rv)) (T' := (PR112 (v) (res) (r + 1) (wd - 7) (c0 + 1) (c1) (s) (d) rv)) (K := Hand.none) (m := 5000) mixed (@HandOk.none ((RC112 (v := v) (u := u) (res := res) (r := r) (wd := wd) (c0 := c0) (c1 := c1) (s := s) (d := d) h3 h4 h5 h6 h7 h8 h9 h10 h11 h12 h13 h14).rtab rv) Tryz.prog) (C := ⟨20000, 20010, ofPairs rl_goC112, ip_goC112⟩) (ex := .normal) (rl := rl_goC112) (vp := [(20064, .vec 7, 0), (20065, .vec 8, 1), (20003, .vec 6, 2), (20004, .vec 3, 3)]) (fs := fsR) (bs := bs_goC112)
    hb (by decide) rfl (by kernel_rfl) hip hvp (glNone rfl rfl) (by as_aux_lemma => kernel_rfl) (St.same (VRows.rsame _ _ _) s_) (fun a' w' q => hQ a' w' (by rw [bq_goC112] at q; exact q))
theorem ibC05 {v : Int} {u : Int} {res : Int} {r : Int} {wd : Int} {c0 : Int} {c1 : Int} {s : Nat} {d : Nat} (h3 : 0 ≤ r) (h4 : r + 20 ≤ 5000) (h5 : 7 ≤ wd) (h6 : wd ≤ 2048) (h7 : 0 ≤ c0) (h8 : c0 ≤ 100000) (h9 : 0 ≤ c1) (h10 : c1 ≤ 100000) (h11 : s ≤ 10000) (h12 : d ≤ 10000) (h13 : -5 ≤ res) (h14 : res ≤ 5) : ∀ x_ ∈ ([(14, .oi 3, .int .i64 5000, .bool false), (9, .oi 11, .int .i64 0, .bool false), (1, .oi 11, .int .i64 1, .oi 12), (11, .oi 12, .oi 11, .bool true), (14, .oi 12, .int .i64 0, .bool true), (0, .oi 3, .int .i64 1, .oi 13), (0, .oi 6, .int .i64 1, .oi 14), (1, .oi 10, .int .i64 1, .oi 15), (1, .oi 15, .int .i64 0, .oi 15), (11, .oi 15, .oi 10, .bool true), (14, .oi 15, .int .i64 0, .bool true), (12, .oi 15, .oi 10, .bool true), (1, .oi 4, .int .i64 7, .oi 16), (12, .oi 8, .oi 15, .bool true), (14, .oi 8, .int .i64 0, .bool true), (12, .oi 12, .oi 11, .bool true), (9, .oi 12, .int .i64 0, .bool false), (1, .oi 12, .int .i64 1, .oi 9), (11, .oi 9, .oi 12, .bool true), (14, .oi 9, .int .i64 0, .bool true)] : List BRow), IbOk (ivC05 v u res r wd c0 c1 s d) x_ := by
  letI := Tab.empty
  exact (ibCons (ibGe (a := (r)) (b := (5000)) rfl rfl (decide_eq_false (by omega)))
    (ibCons (ibEq (a := (((d + 2 : Nat) : Int))) (b := (0)) rfl rfl (decide_eq_false (by omega)))
    (ibCons (ibSub (a := (((d + 2 : Nat) : Int))) (b := (1)) (c := (((d + 1 : Nat) : Int))) rfl rfl rfl (by first | assumption | omega) (by omega) (by omega))
    (ibCons (ibLt (a := (((d + 1 : Nat) : Int))) (b := (((d + 2 : Nat) : Int))) rfl rfl (decide_eq_true (by omega)))
    (ibCons (ibGe (a := (((d + 1 : Nat) : Int))) (b := (0)) rfl rfl (decide_eq_true (by omega)))
    (ibCons (ibAdd (a := (r)) (b := (1)) (c := (r + 1)) rfl rfl rfl (by first | assumption | omega) (by omega) (by omega))
    (ibCons (ibAdd (a := (c1)) (b := (1)) (c := (c1 + 1)) rfl rfl rfl (by first | assumption | omega) (by omega) (by omega))
    (ibCons (ibSub (a := (((s + 3 : Nat) : Int))) (b := (1)) (c := (((s + 2 : Nat) : Int))) rfl rfl rfl (by first | assumption | omega) (by omega) (by omega))
    (ibCons (ibSub (a := (((s + 2 : Nat) : Int))) (b := (0)) (c := (((s + 2 : Nat) : Int))) rfl rfl rfl (by first | assumption | omega) (by omega) (by omega))
    (ibCons (ibLt (a := (((s + 2 : Nat) : Int))) (b := (((s + 3 : Nat) : Int))) rfl rfl (decide_eq_true (by omega)))
    (ibCons (ibGe (a := (((s + 2 : Nat) : Int))) (b := (0)) rfl rfl (decide_eq_true (by omega)))
    (ibCons (ibLe (a := (((s + 2 : Nat) : Int))) (b := (((s + 3 : Nat) : Int))) rfl rfl (decide_eq_true (by omega)))
    (ibCons (ibSub (a := (wd)) (b := (7)) (c := (wd - 7)) rfl rfl rfl (by first | assumption | omega) (by omega) (by omega))
    (ibCons (ibLe (a := (((s + 1 : Nat) : Int))) (b := (((s + 2 : Nat) : Int))) rfl rfl (decide_eq_true (by omega)))
    (ibCons (ibGe (a := (((s + 1 : Nat) : Int))) (b := (0)) rfl rfl (decide_eq_true (by omega)))
    (ibCons (ibLe (a := (((d + 1 : Nat) : Int))) (b := (((d + 2 : Nat) : Int))) rfl rfl (decide_eq_true (by omega)))
    (ibCons (ibEq (a := (((d + 1 : Nat) : Int))) (b := (0)) rfl rfl (decide_eq_false (by omega)))
    (ibCons (ibSub (a := (((d + 1 : Nat) : Int))) (b := (1)) (c := (((d : Nat) : Int))) rfl rfl rfl (by first | assumption | omega) (by omega) (by omega))
    (ibCons (ibLt (a := (((d : Nat) : Int))) (b := (((d + 1 : Nat) : Int))) rfl rfl (decide_eq_true (by omega)))
    (ibCons (ibGe (a := (((d : Nat) : Int))) (b := (0)) rfl rfl (decide_eq_true (by omega)))
    ibNil))))))))))))))))))))
theorem icC05 {v : Int} {u : Int} {res : Int} {r : Int} {wd : Int} {c0 : Int} {c1 : Int} {s : Nat} {d : Nat} (h3 : 0 ≤ r) (h4 : r + 20 ≤ 5000) (h5 : 7 ≤ wd) (h6 : wd ≤ 2048) (h7 : 0 ≤ c0) (h8 : c0 ≤ 100000) (h9 : 0 ≤ c1) (h10 : c1 ≤ 100000) (h11 : s ≤ 10000) (h12 : d ≤ 10000) (h13 : -5 ≤ res) (h14 : res ≤ 5) : ∀ x_ ∈ ([] : List (IntKind × AV × AV)), IcOk' (ivC05 v u res r wd c0 c1 s d) x_ := icNil
theorem vlC05 {v : Int} {u : Int} {res : Int} {r : Int} {wd : Int} {c0 : Int} {c1 : Int} {s : Nat} {d : Nat} (h3 : 0 ≤ r) (h4 : r + 20 ≤ 5000) (h5 : 7 ≤ wd) (h6 : wd ≤ 2048) (h7 : 0 ≤ c0) (h8 : c0 ≤ 100000) (h9 : 0 ≤ c1) (h10 : c1 ≤ 100000) (h11 : s ≤ 10000) (h12 : d ≤ 10000) (h13 : -5 ≤ res) (h14 : res ≤ 5) : ∀ x_ ∈ ([⟨3, 12, 1, 0, [(pN 20005)]⟩, ⟨4, 12, 7, 6, [z1]⟩, ⟨0, 15, 1, 0, [(oN 2)]⟩, ⟨1, 15, 1, 0, [bF]⟩, ⟨5, 12, 7, 4, [z1]⟩, ⟨5, 12, 7, 5, [z2]⟩, ⟨5, 12, 7, 3, [(oN 8)]⟩, ⟨3, 9, 1, 0, [(pN 20010)]⟩, ⟨5, 9, 7, 6, [z0]⟩, ⟨5, 9, 7, 5, [z2]⟩] : List VL), VlOk (ivC05 v u res r wd c0 c1 s d) (vvC05 s d) x_ :=
  (allCons (vlP (k := d + 1) (b := d) (c := 3) (o := 1) (L := [(pN 20010), (pN 20005)]) rfl rfl (by show (d + 1) * 1 + 0 = d + 1; omega) rfl)
    (allCons (vlP (k := d + 1) (b := 7 * d) (c := 2) (o := 13) (L := [z0, z0, (iN 9), (oN 7), z1, z2, z0, z0, z1, (iN 5), (oN 8), z1, z2, z1]) rfl rfl (by show (d + 1) * 7 + 6 = 7 * d + 13; omega) rfl)
    (allCons (vlP (k := s + 2) (b := s) (c := 0) (o := 2) (L := [(oN 0), (oN 1), (oN 2)]) rfl rfl (by show (s + 2) * 1 + 0 = s + 2; omega) rfl)
    (allCons (vlP (k := s + 2) (b := s) (c := 1) (o := 2) (L := [bF, bF, bF]) rfl rfl (by show (s + 2) * 1 + 0 = s + 2; omega) rfl)
    (allCons (vlP (k := d + 1) (b := 7 * d) (c := 2) (o := 11) (L := [z0, z0, (iN 9), (oN 7), z1, z2, z0, z0, z1, (iN 5), (oN 8), z1, z2, z0]) rfl rfl (by show (d + 1) * 7 + 4 = 7 * d + 11; omega) rfl)
    (allCons (vlP (k := d + 1) (b := 7 * d) (c := 2) (o := 12) (L := [z0, z0, (iN 9), (oN 7), z1, z2, z0, z0, z1, (iN 5), (oN 8), z1, z2, z0]) rfl rfl (by show (d + 1) * 7 + 5 = 7 * d + 12; omega) rfl)
    (allCons (vlP (k := d + 1) (b := 7 * d) (c := 2) (o := 10) (L := [z0, z0, (iN 9), (oN 7), z1, z2, z0, z0, z1, (iN 5), (oN 8), z1, z2, z0]) rfl rfl (by show (d + 1) * 7 + 3 = 7 * d + 10; omega) rfl)
    (allCons (vlP (k := d) (b := d) (c := 3) (o := 0) (L := [(pN 20010), (pN 20005)]) rfl rfl (by show (d) * 1 + 0 = d + 0; omega) rfl)
    (allCons (vlP (k := d) (b := 7 * d) (c := 2) (o := 6) (L := [z0, z0, (iN 9), (oN 7), z1, z2, z0, z0, z1, (iN 5), (oN 8), z1, z2, z0]) rfl rfl (by show (d) * 7 + 6 = 7 * d + 6; omega) rfl)
    (allCons (vlP (k := d) (b := 7 * d) (c := 2) (o := 5) (L := [z0, z0, (iN 9), (oN 7), z1, z2, z0, z0, z1, (iN 5), (oN 8), z1, z2, z0]) rfl rfl (by show (d) * 7 + 5 = 7 * d + 5; omega) rfl)
    allNil))))))))))
theorem vsC05 {v : Int} {u : Int} {res : Int} {r : Int} {wd : Int} {c0 : Int} {c1 : Int} {s : Nat} {d : Nat} (h3 : 0 ≤ r) (h4 : r + 20 ≤ 5000) (h5 : 7 ≤ wd) (h6 : wd ≤ 2048) (h7 : 0 ≤ c0) (h8 : c0 ≤ 100000) (h9 : 0 ≤ c1) (h10 : c1 ≤ 100000) (h11 : s ≤ 10000) (h12 : d ≤ 10000) (h13 : -5 ≤ res) (h14 : res ≤ 5) : ∀ x_ ∈ ([⟨2, 12, 7, 2, [(iN 5)], 4⟩, ⟨4, 12, 7, 6, [z0], 5⟩, ⟨5, 9, 7, 6, [z1], 6⟩] : List VS), VsOk (ivC05 v u res r wd c0 c1 s d) (vvC05 s d) (vkC05 s d) x_ :=
  (allCons (vsP (k := d + 1) (b := 7 * d) (c := 2) (o := 9) (L := [z0, z0, (iN 9), (oN 7), z1, z2, z0, z0, z1, (iN 4), (oN 8), z1, z2, z1]) (L' := [z0, z0, (iN 9), (oN 7), z1, z2, z0, z0, z1, (iN 5), (oN 8), z1, z2, z1]) rfl rfl rfl rfl rfl (by show (d + 1) * 7 + 2 = 7 * d + 9; omega) rfl (by decide))
    (allCons (vsP (k := d + 1) (b := 7 * d) (c := 2) (o := 13) (L := [z0, z0, (iN 9), (oN 7), z1, z2, z0, z0, z1, (iN 5), (oN 8), z1, z2, z1]) (L' := [z0, z0, (iN 9), (oN 7), z1, z2, z0, z0, z1, (iN 5), (oN 8), z1, z2, z0]) rfl rfl rfl rfl rfl (by show (d + 1) * 7 + 6 = 7 * d + 13; omega) rfl (by decide))
    (allCons (vsP (k := d) (b := 7 * d) (c := 2) (o := 6) (L := [z0, z0, (iN 9), (oN 7), z1, z2, z0, z0, z1, (iN 5), (oN 8), z1, z2, z0]) (L' := [z0, z0, (iN 9), (oN 7), z1, z2, z1, z0, z1, (iN 5), (oN 8), z1, z2, z0]) rfl rfl rfl rfl rfl (by show (d) * 7 + 6 = 7 * d + 6; omega) rfl (by decide))
    allNil)))
theorem vaC05 {v : Int} {u : Int} {res : Int} {r : Int} {wd : Int} {c0 : Int} {c1 : Int} {s : Nat} {d : Nat} (h3 : 0 ≤ r) (h4 : r + 20 ≤ 5000) (h5 : 7 ≤ wd) (h6 : wd ≤ 2048) (h7 : 0 ≤ c0) (h8 : c0 ≤ 100000) (h9 : 0 ≤ c1) (h10 : c1 ≤ 100000) (h11 : s ≤ 10000) (h12 : d ≤ 10000) (h13 : -5 ≤ res) (h14 : res ≤ 5) : ∀ x_ ∈ ([⟨0, 8, 1, [(oN 2)], 7, 15⟩, ⟨1, 8, 1, [bF], 8, 15⟩] : List VA), VaOk (ivC05 v u res r wd c0 c1 s d) (vvC05 s d) (vkC05 s d) x_ :=
  (allCons (vaP (j := s + 1) (j' := s + 2) (b := s) (c := 0) (o := 1) (L := [(oN 0), (oN 1), (oN 2)]) (L' := [(oN 0), (oN 2)]) rfl rfl rfl rfl rfl (by show (s + 1) * 1 = s + 1; omega) (by show (s + 2) * 1 = s + 1 + 1; omega) rfl (by decide) (by show s + 2 < 1000000; omega))
    (allCons (vaP (j := s + 1) (j' := s + 2) (b := s) (c := 1) (o := 1) (L := [bF, bF, bF]) (L' := [bF, bF]) rfl rfl rfl rfl rfl (by show (s + 1) * 1 = s + 1; omega) (by show (s + 2) * 1 = s + 1 + 1; omega) rfl (by decide) (by show s + 2 < 1000000; omega))
    allNil))
abbrev RC05 {v : Int} {u : Int} {res : Int} {r : Int} {wd : Int} {c0 : Int} {c1 : Int} {s : Nat} {d : Nat} (h3 : 0 ≤ r) (h4 : r + 20 ≤ 5000) (h5 : 7 ≤ wd) (h6 : wd ≤ 2048) (h7 : 0 ≤ c0) (h8 : c0 ≤ 100000) (h9 : 0 ≤ c1) (h10 : c1 ≤ 100000) (h11 : s ≤ 10000) (h12 : d ≤ 10000) (h13 : -5 ≤ res) (h14 : res ≤ 5) : VRows (ivC05 v u res r wd c0 c1 s d) (vvC05 s d) (vkC05 s d) where
  vvp := vpC05 s d
  ib := [(14, .oi 3, .int .i64 5000, .bool false), (9, .oi 11, .int .i64 0, .bool false), (1, .oi 11, .int .i64 1, .oi 12), (11, .oi 12, .oi 11, .bool true), (14, .oi 12, .int .i64 0, .bool true), (0, .oi 3, .int .i64 1, .oi 13), (0, .oi 6, .int .i64 1, .oi 14), (1, .oi 10, .int .i64 1, .oi 15), (1, .oi 15, .int .i64 0, .oi 15), (11, .oi 15, .oi 10, .bool true), (14, .oi 15, .int .i64 0, .bool true), (12, .oi 15, .oi 10, .bool true), (1, .oi 4, .int .i64 7, .oi 16), (12, .oi 8, .oi 15, .bool true), (14, .oi 8, .int .i64 0, .bool true), (12, .oi 12, .oi 11, .bool true), (9, .oi 12, .int .i64 0, .bool false), (1, .oi 12, .int .i64 1, .oi 9), (11, .oi 9, .oi 12, .bool true), (14, .oi 9, .int .i64 0, .bool true)]
  ibok := ibC05 h3 h4 h5 h6 h7 h8 h9 h10 h11 h12 h13 h14
  ic := []
  icok := icC05 h3 h4 h5 h6 h7 h8 h9 h10 h11 h12 h13 h14
  vl := [⟨3, 12, 1, 0, [(pN 20005)]⟩, ⟨4, 12, 7, 6, [z1]⟩, ⟨0, 15, 1, 0, [(oN 2)]⟩, ⟨1, 15, 1, 0, [bF]⟩, ⟨5, 12, 7, 4, [z1]⟩, ⟨5, 12, 7, 5, [z2]⟩, ⟨5, 12, 7, 3, [(oN 8)]⟩, ⟨3, 9, 1, 0, [(pN 20010)]⟩, ⟨5, 9, 7, 6, [z0]⟩, ⟨5, 9, 7, 5, [z2]⟩]
  vlok := vlC05 h3 h4 h5 h6 h7 h8 h9 h10 h11 h12 h13 h14
  vs := [⟨2, 12, 7, 2, [(iN 5)], 4⟩, ⟨4, 12, 7, 6, [z0], 5⟩, ⟨5, 9, 7, 6, [z1], 6⟩]
  vsok := vsC05 h3 h4 h5 h6 h7 h8 h9 h10 h11 h12 h13 h14
  va := [⟨0, 8, 1, [(oN 2)], 7, 15⟩, ⟨1, 8, 1, [bF], 8, 15⟩]
  vaok := vaC05 h3 h4 h5 h6 h7 h8 h9 h10 h11 h12 h13 h14
  vc := []
  vcok := allNil
noncomputable abbrev rl_goC05 : List (Nat × Nat) := [(20000, 20000), (20001, 20064), (20002, 20065), (20003, 20003), (20004, 20004), (20005, 20010)]
noncomputable abbrev bs_goC05 : BS := [(7168, 7168, (.map [(tx17, (pN 14062), 0)] 1)), (7169, 7169, kb0), (7170, 7170, kb1), (9584, 9584, kb2), (10426, 10426, (.map [(tx17, z0, 0)] 1)), (10428, 10428, kb3), (10429, 10429, kb4), (13769, 13769, kb21), (13770, 13770, kb6), (13771, 13771, (.map [(tx17, z0, 0)] 1)), (13772, 13772, kb7), (13773, 13773, kb22), (14062, 14062, kb9), (14064, 14064, kb10), (14502, 14502, kb11), (14826, 14826, kb12), (14870, 14870, kb13), (15194, 15194, kb14), (15200, 15200, kb15), (16578, 16578, kb17), (16583, 16583, kb18), (20000, 20000, kb16), (20001, 20064, (.vec 0)), (20002, 20065, (.vec 1)), (20003, 20003, (.vec 2)), (20004, 20004, (.vec 3)), (20005, 20010, kb29)]
noncomputable abbrev ip_goC05 : IP := [(.oi 15, 0), (.oi 12, 1), (.oi 16, 2), (.oi 5, 3), (.oi 14, 4), (.oi 13, 5), (.oi 0, 6), (.oi 2, 7), (.oi 7, 8)]
theorem bq_goC05 : hOf 20010 bs_goC05 = hOf 20010 bsR012 := hOf_congr (by kernel_rfl)
theorem goC05 {v : Int} {u : Int} {res : Int} {r : Int} {wd : Int} {c0 : Int} {c1 : Int} {s : Nat} {d : Nat} (h3 : 0 ≤ r) (h4 : r + 20 ≤ 5000) (h5 : 7 ≤ wd) (h6 : wd ≤ 2048) (h7 : 0 ≤ c0) (h8 : c0 ≤ 100000) (h9 : 0 ≤ c1) (h10 : c1 ≤ 100000) (h11 : s ≤ 10000) (h12 : d ≤ 10000) (h13 : -5 ≤ res) (h14 : res ≤ 5) {rv : Nat → Value} (hb : Base B μ 20000) {Q : Exit → Act → World → Prop} {j_ : Nat} (s_ : SC05 v u res r wd c0 c1 s d rv B w0 μ a w) (hQ : ∀ a' w', SR012 (v) (res) (r + 1) (wd - 7) (c0) (c1 + 1) (s) (d) rv B w0 μ a' w' → Code.rounds Tryz.prog la Q j_ a' w') : Code.rounds Tryz.prog la Q (j_ + 1) a w := by
  have hip : IpOk ((RC05 (v := v) (u := u) (res := res) (r := r) (wd := wd) (c0 := c0) (c1 := c1) (s := s) (d := d) h3 h4 h5 h6 h7 h8 h9 h10 h11 h12 h13 h14).rtab rv) (PR012 (v) (res) (r + 1) (wd - 7) (c0) (c1 + 1) (s) (d) rv) ip_goC05 := (ipCons (ipN (.i64, ((s + 2 : Nat) : Int)) rfl rfl) (ipCons (ipN (.i64, ((d + 1 : Nat) : Int)) rfl rfl) (ipCons (ipN (.i64, wd - 7) rfl rfl) (ipCons (ipN (.i64, c0) rfl rfl) (ipCons (ipN (.i64, c1 + 1) rfl rfl) (ipCons (ipN (.i64, r + 1) rfl rfl) (ipCons (ipN (.i64, v) rfl rfl) (ipCons (ipN (.i64, res) rfl rfl) (ipCons (ipN (.i64, ((s : Nat) : Int)) rfl rfl) ipNil)))))))))
  have hvp : VpOk ((RC05 (v := v) (u := u) (res := res) (r := r) (wd := wd) (c0 := c0) (c1 := c1) (s := s) (d := d) h3 h4 h5 h6 h7 h8 h9 h10 h11 h12 h13 h14).rtab rv) (PR012 (v) (res) (r + 1) (wd - 7) (c0) (c1 + 1) (s) (d) rv) ⟨20000, 20010, ofPairs rl_goC05, ip_goC05⟩ [(20064, .vec 7, 0), (20065, .vec 8, 1), (20003, .vec 6, 2), (20004, .vec 3, 3)] := (vpCons (vpPre (i := 7) (i' := 0) hip rfl rfl rfl (Nat.add_le_add_left (by decide) _) (by kernel_rfl))
    (vpCons (vpPre (i := 8) (i' := 1) hip rfl rfl rfl (Nat.add_le_add_left (by decide) _) (by kernel_rfl))
    (vpCons (vpPre (i := 6) (i' := 2) hip rfl rfl rfl (Nat.add_le_add_left (by decide) _) (by kernel_rfl))
    (vpCons (vpPre (i := 3) (i' := 3) hip rfl rfl rfl (Nat.add_le_add_left (by decide) _) (by kernel_rfl))
    vpNil))))
  exact stepsTo_sound (T := ((RC05 (v := v) (u := u) (res := res) (r := r) (wd := wd) (c0 := c0) (c1 := c1) (s := s) (d := d) h3 h4 h5 h6 h7 h8 h9 h10 h11 h12 h13 h14).rtab rv)) (T' := (PR012 (v) (res) (r + 1) (wd - 7) (c0) (c1 + 1) (s) (d) rv)) (K := Hand.none) (m := 5000) mixed (@HandOk.none ((RC05 (v := v) (u := u) (res := res) (r := r) (wd := wd) (c0 := c0) (c1 := c1) (s := s) (d := d) h3 h4 h5 h6 h7 h8 h9 h10 h11 h12 h13 h14).rtab rv) Tryz.prog) (C := ⟨20000, 20010, ofPairs rl_goC05, ip_goC05⟩) (ex := .normal) (rl := rl_goC05) (vp := [(20064, .vec 7, 0), (20065, .vec 8, 1), (20003, .vec 6, 2), (20004, .vec 3, 3)]) (fs := fsR) (bs := bs_goC05)
    hb (by decide) rfl (by kernel_rfl) hip hvp (glNone rfl rfl) (by as_aux_lemma => kernel_rfl) (St.same (VRows.rsame _ _ _) s_) (fun a' w' q => hQ a' w' (by rw [bq_goC05] at q; exact q))
theorem ibC15 {v : Int} {u : Int} {res : Int} {r : Int} {wd : Int} {c0 : Int} {c1 : Int} {s : Nat} {d : Nat} (h3 : 0 ≤ r) (h4 : r + 20 ≤ 5000) (h5 : 7 ≤ wd) (h6 : wd ≤ 2048) (h7 : 0 ≤ c0) (h8 : c0 ≤ 100000) (h9 : 0 ≤ c1) (h10 : c1 ≤ 100000) (h11 : s ≤ 10000) (h12 : d ≤ 10000) (h13 : -5 ≤ res) (h14 : res ≤ 5) : ∀ x_ ∈ ([(14, .oi 3, .int .i64 5000, .bool false), (9, .oi 11, .int .i64 0, .bool false), (1, .oi 11, .int .i64 1, .oi 12), (11, .oi 12, .oi 11, .bool true), (14, .oi 12, .int .i64 0, .bool true), (0, .oi 3, .int .i64 1, .oi 13), (0, .oi 5, .int .i64 1, .oi 14), (1, .oi 10, .int .i64 1, .oi 15), (1, .oi 15, .int .i64 0, .oi 15), (11, .oi 15, .oi 10, .bool true), (14, .oi 15, .int .i64 0, .bool true), (12, .oi 15, .oi 10, .bool true), (1, .oi 4, .int .i64 7, .oi 16), (12, .oi 8, .oi 15, .bool true), (14, .oi 8, .int .i64 0, .bool true), (12, .oi 12, .oi 11, .bool true), (9, .oi 12, .int .i64 0, .bool false), (1, .oi 12, .int .i64 1, .oi 9), (11, .oi 9, .oi 12, .bool true), (14, .oi 9, .int .i64 0, .bool true)] : List BRow), IbOk (ivC15 v u res r wd c0 c1 s d) x_ := by
  letI := Tab.empty
  exact (ibCons (ibGe (a := (r)) (b := (5000)) rfl rfl (decide_eq_false (by omega)))
    (ibCons (ibEq (a := (((d + 2 : Nat) : Int))) (b := (0)) rfl rfl (decide_eq_false (by omega)))
    (ibCons (ibSub (a := (((d + 2 : Nat) : Int))) (b := (1)) (c := (((d + 1 : Nat) : Int))) rfl rfl rfl (by first | assumption | omega) (by omega) (by omega))
    (ibCons (ibLt (a := (((d + 1 : Nat) : Int))) (b := (((d + 2 : Nat) : Int))) rfl rfl (decide_eq_true (by omega)))
    (ibCons (ibGe (a := (((d + 1 : Nat) : Int))) (b := (0)) rfl rfl (decide_eq_true (by omega)))
    (ibCons (ibAdd (a := (r)) (b := (1)) (c := (r + 1)) rfl rfl rfl (by first | assumption | omega) (by omega) (by omega))
    (ibCons (ibAdd (a := (c0)) (b := (1)) (c := (c0 + 1)) rfl rfl rfl (by first | assumption | omega) (by omega) (by omega))
    (ibCons (ibSub (a := (((s + 3 : Nat) : Int))) (b := (1)) (c := (((s + 2 : Nat) : Int))) rfl rfl rfl (by first | assumption | omega) (by omega) (by omega))
    (ibCons (ibSub (a := (((s + 2 : Nat) : Int))) (b := (0)) (c := (((s + 2 : Nat) : Int))) rfl rfl rfl (by first | assumption | omega) (by omega) (by omega))
    (ibCons (ibLt (a := (((s + 2 : Nat) : Int))) (b := (((s + 3 : Nat) : Int))) rfl rfl (decide_eq_true (by omega)))
    (ibCons (ibGe (a := (((s + 2 : Nat) : Int))) (b := (0)) rfl rfl (decide_eq_true (by omega)))
    (ibCons (ibLe (a := (((s + 2 : Nat) : Int))) (b := (((s + 3 : Nat) : Int))) rfl rfl (decide_eq_true (by omega)))
    (ibCons (ibSub (a := (wd)) (b := (7)) (c := (wd - 7)) rfl rfl rfl (by first | assumption | omega) (by omega) (by omega))
    (ibCons (ibLe (a := (((s + 1 : Nat) : Int))) (b := (((s + 2 : Nat) : Int))) rfl rfl (decide_eq_true (by omega)))
    (ibCons (ibGe (a := (((s + 1 : Nat) : Int))) (b := (0)) rfl rfl (decide_eq_true (by omega)))
    (ibCons (ibLe (a := (((d + 1 : Nat) : Int))) (b := (((d + 2 : Nat) : Int))) rfl rfl (decide_eq_true (by omega)))
    (ibCons (ibEq (a := (((d + 1 : Nat) : Int))) (b := (0)) rfl rfl (decide_eq_false (by omega)))
    (ibCons (ibSub (a := (((d + 1 : Nat) : Int))) (b := (1)) (c := (((d : Nat) : Int))) rfl rfl rfl (by first | assumption | omega) (by omega) (by omega))
    (ibCons (ibLt (a := (((d : Nat) : Int))) (b := (((d + 1 : Nat) : Int))) rfl rfl (decide_eq_true (by omega)))
    (ibCons (ibGe (a := (((d : Nat) : Int))) (b := (0)) rfl rfl (decide_eq_true (by omega)))
    ibNil))))))))))))))))))))
theorem icC15 {v : Int} {u : Int} {res : Int} {r : Int} {wd : Int} {c0 : Int} {c1 : Int} {s : Nat} {d : Nat} (h3 : 0 ≤ r) (h4 : r + 20 ≤ 5000) (h5 : 7 ≤ wd) (h6 : wd ≤ 2048) (h7 : 0 ≤ c0) (h8 : c0 ≤ 100000) (h9 : 0 ≤ c1) (h10 : c1 ≤ 100000) (h11 : s ≤ 10000) (h12 : d ≤ 10000) (h13 : -5 ≤ res) (h14 : res ≤ 5) : ∀ x_ ∈ ([] : List (IntKind × AV × AV)), IcOk' (ivC15 v u res r wd c0 c1 s d) x_ := icNil
theorem vlC15 {v : Int} {u : Int} {res : Int} {r : Int} {wd : Int} {c0 : Int} {c1 : Int} {s : Nat} {d : Nat} (h3 : 0 ≤ r) (h4 : r + 20 ≤ 5000) (h5 : 7 ≤ wd) (h6 : wd ≤ 2048) (h7 : 0 ≤ c0) (h8 : c0 ≤ 100000) (h9 : 0 ≤ c1) (h10 : c1 ≤ 100000) (h11 : s ≤ 10000) (h12 : d ≤ 10000) (h13 : -5 ≤ res) (h14 : res ≤ 5) : ∀ x_ ∈ ([⟨3, 12, 1, 0, [(pN 20005)]⟩, ⟨4, 12, 7, 6, [z1]⟩, ⟨0, 15, 1, 0, [(oN 2)]⟩, ⟨1, 15, 1, 0, [bF]⟩, ⟨5, 12, 7, 4, [z1]⟩, ⟨5, 12, 7, 5, [z2]⟩, ⟨5, 12, 7, 3, [(oN 8)]⟩, ⟨3, 9, 1, 0, [(pN 20010)]⟩, ⟨5, 9, 7, 6, [z0]⟩, ⟨5, 9, 7, 5, [z2]⟩] : List VL), VlOk (ivC15 v u res r wd c0 c1 s d) (vvC15 s d) x_ :=
  (allCons (vlP (k := d + 1) (b := d) (c := 3) (o := 1) (L := [(pN 20010), (pN 20005)]) rfl rfl (by show (d + 1) * 1 + 0 = d + 1; omega) rfl)
    (allCons (vlP (k := d + 1) (b := 7 * d) (c := 2) (o := 13) (L := [z0, z1, (iN 9), (oN 7), z1, z2, z0, z0, z0, (iN 5), (oN 8), z1, z2, z1]) rfl rfl (by show (d + 1) * 7 + 6 = 7 * d + 13; omega) rfl)
    (allCons (vlP (k := s + 2) (b := s) (c := 0) (o := 2) (L := [(oN 0), (oN 1), (oN 2)]) rfl rfl (by show (s + 2) * 1 + 0 = s + 2; omega) rfl)
    (allCons (vlP (k := s + 2) (b := s) (c := 1) (o := 2) (L := [bF, bF, bF]) rfl rfl (by show (s + 2) * 1 + 0 = s + 2; omega) rfl)
    (allCons (vlP (k := d + 1) (b := 7 * d) (c := 2) (o := 11) (L := [z0, z1, (iN 9), (oN 7), z1, z2, z0, z0, z0, (iN 5), (oN 8), z1, z2, z0]) rfl rfl (by show (d + 1) * 7 + 4 = 7 * d + 11; omega) rfl)
    (allCons (vlP (k := d + 1) (b := 7 * d) (c := 2) (o := 12) (L := [z0, z1, (iN 9), (oN 7), z1, z2, z0, z0, z0, (iN 5), (oN 8), z1, z2, z0]) rfl rfl (by show (d + 1) * 7 + 5 = 7 * d + 12; omega) rfl)
    (allCons (vlP (k := d + 1) (b := 7 * d) (c := 2) (o := 10) (L := [z0, z1, (iN 9), (oN 7), z1, z2, z0, z0, z0, (iN 5), (oN 8), z1, z2, z0]) rfl rfl (by show (d + 1) * 7 + 3 = 7 * d + 10; omega) rfl)
    (allCons (vlP (k := d) (b := d) (c := 3) (o := 0) (L := [(pN 20010), (pN 20005)]) rfl rfl (by show (d) * 1 + 0 = d + 0; omega) rfl)
    (allCons (vlP (k := d) (b := 7 * d) (c := 2) (o := 6) (L := [z0, z1, (iN 9), (oN 7), z1, z2, z0, z0, z0, (iN 5), (oN 8), z1, z2, z0]) rfl rfl (by show (d) * 7 + 6 = 7 * d + 6; omega) rfl)
    (allCons (vlP (k := d) (b := 7 * d) (c := 2) (o := 5) (L := [z0, z1, (iN 9), (oN 7), z1, z2, z0, z0, z0, (iN 5), (oN 8), z1, z2, z0]) rfl rfl (by show (d) * 7 + 5 = 7 * d + 5; omega) rfl)
    allNil))))))))))
theorem vsC15 {v : Int} {u : Int} {res : Int} {r : Int} {wd : Int} {c0 : Int} {c1 : Int} {s : Nat} {d : Nat} (h3 : 0 ≤ r) (h4 : r + 20 ≤ 5000) (h5 : 7 ≤ wd) (h6 : wd ≤ 2048) (h7 : 0 ≤ c0) (h8 : c0 ≤ 100000) (h9 : 0 ≤ c1) (h10 : c1 ≤ 100000) (h11 : s ≤ 10000) (h12 : d ≤ 10000) (h13 : -5 ≤ res) (h14 : res ≤ 5) : ∀ x_ ∈ ([⟨2, 12, 7, 2, [(iN 5)], 4⟩, ⟨4, 12, 7, 6, [z0], 5⟩, ⟨5, 9, 7, 6, [z1], 6⟩] : List VS), VsOk (ivC15 v u res r wd c0 c1 s d) (vvC15 s d) (vkC15 s d) x_ :=
  (allCons (vsP (k := d + 1) (b := 7 * d) (c := 2) (o := 9) (L := [z0, z1, (iN 9), (oN 7), z1, z2, z0, z0, z0, (iN 4), (oN 8), z1, z2, z1]) (L' := [z0, z1, (iN 9), (oN 7), z1, z2, z0, z0, z0, (iN 5), (oN 8), z1, z2, z1]) rfl rfl rfl rfl rfl (by show (d + 1) * 7 + 2 = 7 * d + 9; omega) rfl (by decide))
    (allCons (vsP (k := d + 1) (b := 7 * d) (c := 2) (o := 13) (L := [z0, z1, (iN 9), (oN 7), z1, z2, z0, z0, z0, (iN 5), (oN 8), z1, z2, z1]) (L' := [z0, z1, (iN 9), (oN 7), z1, z2, z0, z0, z0, (iN 5), (oN 8), z1, z2, z0]) rfl rfl rfl rfl rfl (by show (d + 1) * 7 + 6 = 7 * d + 13; omega) rfl (by decide))
    (allCons (vsP (k := d) (b := 7 * d) (c := 2) (o := 6) (L := [z0, z1, (iN 9), (oN 7), z1, z2, z0, z0, z0, (iN 5), (oN 8), z1, z2, z0]) (L' := [z0, z1, (iN 9), (oN 7), z1, z2, z1, z0, z0, (iN 5), (oN 8), z1, z2, z0]) rfl rfl rfl rfl rfl (by show (d) * 7 + 6 = 7 * d + 6; omega) rfl (by decide))
    allNil)))
theorem vaC15 {v : Int} {u : Int} {res : Int} {r : Int} {wd : Int} {c0 : Int} {c1 : Int} {s : Nat} {d : Nat} (h3 : 0 ≤ r) (h4 : r + 20 ≤ 5000) (h5 : 7 ≤ wd) (h6 : wd ≤ 2048) (h7 : 0 ≤ c0) (h8 : c0 ≤ 100000) (h9 : 0 ≤ c1) (h10 : c1 ≤ 100000) (h11 : s ≤ 10000) (h12 : d ≤ 10000) (h13 : -5 ≤ res) (h14 : res ≤ 5) : ∀ x_ ∈ ([⟨0, 8, 1, [(oN 2)], 7, 15⟩, ⟨1, 8, 1, [bF], 8, 15⟩] : List VA), VaOk (ivC15 v u res r wd c0 c1 s d) (vvC15 s d) (vkC15 s d) x_ :=
  (allCons (vaP (j := s + 1) (j' := s + 2) (b := s) (c := 0) (o := 1) (L := [(oN 0), (oN 1), (oN 2)]) (L' := [(oN 0), (oN 2)]) rfl rfl rfl rfl rfl (by show (s + 1) * 1 = s + 1; omega) (by show (s + 2) * 1 = s + 1 + 1; omega) rfl (by decide) (by show s + 2 < 1000000; omega))
    (allCons (vaP (j := s + 1) (j' := s + 2) (b := s) (c := 1) (o := 1) (L := [bF, bF, bF]) (L' := [bF, bF]) rfl rfl rfl rfl rfl (by show (s + 1) * 1 = s + 1; omega) (by show (s + 2) * 1 = s + 1 + 1; omega) rfl (by decide) (by show s + 2 < 1000000; omega))
    allNil))
abbrev RC15 {v : Int} {u : Int} {res : Int} {r : Int} {wd : Int} {c0 : Int} {c1 : Int} {s : Nat} {d : Nat} (h3 : 0 ≤ r) (h4 : r + 20 ≤ 5000) (h5 : 7 ≤ wd) (h6 : wd ≤ 2048) (h7 : 0 ≤ c0) (h8 : c0 ≤ 100000) (h9 : 0 ≤ c1) (h10 : c1 ≤ 100000) (h11 : s ≤ 10000) (h12 : d ≤ 10000) (h13 : -5 ≤ res) (h14 : res ≤ 5) : VRows (ivC15 v u res r wd c0 c1 s d) (vvC15 s d) (vkC15 s d) where
  vvp := vpC15 s d
  ib := [(14, .oi 3, .int .i64 5000, .bool false), (9, .oi 11, .int .i64 0, .bool false), (1, .oi 11, .int .i64 1, .oi 12), (11, .oi 12, .oi 11, .bool true), (14, .oi 12, .int .i64 0, .bool true), (0, .oi 3, .int .i64 1, .oi 13), (0, .oi 5, .int .i64 1, .oi 14), (1, .oi 10, .int .i64 1, .oi 15), (1, .oi 15, .int .i64 0, .oi 15), (11, .oi 15, .oi 10, .bool true), (14, .oi 15, .int .i64 0, .bool true), (12, .oi 15, .oi 10, .bool true), (1, .oi 4, .int .i64 7, .oi 16), (12, .oi 8, .oi 15, .bool true), (14, .oi 8, .int .i64 0, .bool true), (12, .oi 12, .oi 11, .bool true), (9, .oi 12, .int .i64 0, .bool false), (1, .oi 12, .int .i64 1, .oi 9), (11, .oi 9, .oi 12, .bool true), (14, .oi 9, .int .i64 0, .bool true)]
  ibok := ibC15 h3 h4 h5 h6 h7 h8 h9 h10 h11 h12 h13 h14
  ic := []
  icok := icC15 h3 h4 h5 h6 h7 h8 h9 h10 h11 h12 h13 h14
  vl := [⟨3, 12, 1, 0, [(pN 20005)]⟩, ⟨4, 12, 7, 6, [z1]⟩, ⟨0, 15, 1, 0, [(oN 2)]⟩, ⟨1, 15, 1, 0, [bF]⟩, ⟨5, 12, 7, 4, [z1]⟩, ⟨5, 12, 7, 5, [z2]⟩, ⟨5, 12, 7, 3, [(oN 8)]⟩, ⟨3, 9, 1, 0, [(pN 20010)]⟩, ⟨5, 9, 7, 6, [z0]⟩, ⟨5, 9, 7, 5, [z2]⟩]
  vlok := vlC15 h3 h4 h5 h6 h7 h8 h9 h10 h11 h12 h13 h14
  vs := [⟨2, 12, 7, 2, [(iN 5)], 4⟩, ⟨4, 12, 7, 6, [z0], 5⟩, ⟨5, 9, 7, 6, [z1], 6⟩]
  vsok := vsC15 h3 h4 h5 h6 h7 h8 h9 h10 h11 h12 h13 h14
  va := [⟨0, 8, 1, [(oN 2)], 7, 15⟩, ⟨1, 8, 1, [bF], 8, 15⟩]
  vaok := vaC15 h3 h4 h5 h6 h7 h8 h9 h10 h11 h12 h13 h14
  vc := []
  vcok := allNil
noncomputable abbrev rl_goC15 : List (Nat × Nat) := [(20000, 20000), (20001, 20064), (20002, 20065), (20003, 20003), (20004, 20004), (20005, 20010)]
noncomputable abbrev bs_goC15 : BS := [(7168, 7168, (.map [(tx17, (pN 14062), 0)] 1)), (7169, 7169, kb0), (7170, 7170, kb1), (9584, 9584, kb2), (10426, 10426, (.map [(tx17, z0, 0)] 1)), (10428, 10428, kb3), (10429, 10429, kb4), (13769, 13769, kb21), (13770, 13770, kb6), (13771, 13771, (.map [(tx17, z0, 0)] 1)), (13772, 13772, kb7), (13773, 13773, kb22), (14062, 14062, kb9), (14064, 14064, kb10), (14502, 14502, kb11), (14826, 14826, kb12), (14870, 14870, kb13), (15194, 15194, kb14), (15200, 15200, kb15), (16578, 16578, kb17), (16583, 16583, kb18), (20000, 20000, kb16), (20001, 20064, (.vec 0)), (20002, 20065, (.vec 1)), (20003, 20003, (.vec 2)), (20004, 20004, (.vec 3)), (20005, 20010, kb28)]
noncomputable abbrev ip_goC15 : IP := [(.oi 15, 0), (.oi 12, 1), (.oi 16, 2), (.oi 14, 3), (.oi 6, 4), (.oi 13, 5), (.oi 0, 6), (.oi 2, 7), (.oi 7, 8)]
theorem bq_goC15 : hOf 20010 bs_goC15 = hOf 20010 bsR112 := hOf_congr (by kernel_rfl)
theorem goC15 {v : Int} {u : Int} {res : Int} {r : Int} {wd : Int} {c0 : Int} {c1 : Int} {s : Nat} {d : Nat} (h3 : 0 ≤ r) (h4 : r + 20 ≤ 5000) (h5 : 7 ≤ wd) (h6 : wd ≤ 2048) (h7 : 0 ≤ c0) (h8 : c0 ≤ 100000) (h9 : 0 ≤ c1) (h10 : c1 ≤ 100000) (h11 : s ≤ 10000) (h12 : d ≤ 10000) (h13 : -5 ≤ res) (h14 : res ≤ 5) {rv : Nat → Value} (hb : Base B μ 20000) {Q : Exit → Act → World → Prop} {j_ : Nat} (s_ : SC15 v u res r wd c0 c1 s d rv B w0 μ a w) (hQ : ∀ a' w', SR112 (v) (res) (r + 1) (wd - 7) (c0 + 1) (c1) (s) (d) rv B w0 μ a' w' → Code.rounds Tryz.prog la Q j_ a' w') : Code.rounds Tryz.prog la Q (j_ + 1) a w := by
  have hip : IpOk ((RC15 (v := v) (u := u) (res := res) (r := r) (wd := wd) (c0 := c0) (c1 := c1) (s := s) (d := d) h3 h4 h5 h6 h7 h8 h9 h10 h11 h12 h13 h14).rtab rv) (PR112 (v) (res) (r + 1) (wd - 7) (c0 + 1) (c1) (s) (d) rv) ip_goC15 := (ipCons (ipN (.i64, ((s + 2 : Nat) : Int)) rfl rfl) (ipCons (ipN (.i64, ((d + 1 : Nat) : Int)) rfl rfl) (ipCons (ipN (.i64, wd - 7) rfl rfl) (ipCons (ipN (.i64, c0 + 1) rfl rfl) (ipCons (ipN (.i64, c1) rfl rfl) (ipCons (ipN (.i64, r + 1) rfl rfl) (ipCons (ipN (.i64, v) rfl rfl) (ipCons (ipN (.i64, res) rfl rfl) (ipCons (ipN (.i64, ((s : Nat) : Int)) rfl rfl) ipNil)))))))))
  have hvp : VpOk ((RC15 (v := v) (u := u) (res := res) (r := r) (wd := wd) (c0 := c0) (c1 := c1) (s := s) (d := d) h3 h4 h5 h6 h7 h8 h9 h10 h11 h12 h13 h14).rtab rv) (PR112 (v) (res) (r + 1) (wd - 7) (c0 + 1) (c1) (s) (d) rv) ⟨20000, 20010, ofPairs rl_goC15, ip_goC15⟩ [(20064, .vec 7, 0), (20065, .vec 8, 1), (20003, .vec 6, 2), (20004, .vec 3, 3)] := (vpCons (vpPre (i := 7) (i' := 0) hip rfl rfl rfl (Nat.add_le_add_left (by decide) _) (by kernel_rfl))
    (vpCons (vpPre (i := 8) (i' := 1) hip rfl rfl rfl (Nat.add_le_add_left (by decide) _) (by kernel_rfl))
    (vpCons (vpPre (i := 6) (i' := 2) hip rfl rfl rfl (Nat.add_le_add_left (by decide) _) (by kernel_rfl))
    (vpCons (vpPre (i := 3) (i' := 3) hip rfl rfl rfl (Nat.add_le_add_left (by decide) _) (by kernel_rfl))
    vpNil))))
  exact stepsTo_sound (T := ((RC15 (v := v) (u := u) (res := res) (r := r) (wd := wd) (c0 := c0) (c1 := c1) (s := s) (d := d) h3 h4 h5 h6 h7 h8 h9 h10 h11 h12 h13 h14).rtab rv)) (T' := (PR112 (v) (res) (r + 1) (wd - 7) (c0 + 1) (c1) (s) (d) rv)) (K := Hand.none) (m := 5000) mixed (@HandOk.none ((RC15 (v := v) (u := u) (res := res) (r := r) (wd := wd) (c0 := c0) (c1 := c1) (s := s) (d := d) h3 h4 h5 h6 h7 h8 h9 h10 h11 h12 h13 h14).rtab rv) Tryz.prog) (C := ⟨20000, 20010, ofPairs rl_goC15, ip_goC15⟩) (ex := .normal) (rl := rl_goC15) (vp := [(20064, .vec 7, 0), (20065, .vec 8, 1), (20003, .vec 6, 2), (20004, .vec 3, 3)]) (fs := fsR) (bs := bs_goC15)
    hb (by decide) rfl (by kernel_rfl) hip hvp (glNone rfl rfl) (by as_aux_lemma => kernel_rfl) (St.same (VRows.rsame _ _ _) s_) (fun a' w' q => hQ a' w' (by rw [bq_goC15] at q; exact q))
end
end Go.Proofs.YtfkfmjlppllfoaaGreatDoor.mu
