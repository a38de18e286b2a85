/-
  Steps from a call to the next one.
-/
import Derived.Test.YtfkfmjlppllfoaaGreatDoorMNN
import Derived.Test.YtfkfmjlppllfoaaGreatDoorMUS
import Derived.Test.YtfkfmjlppllfoaaGreatDoorXN3
import Derived.Test.YtfkfmjlppllfoaaGreatDoorProg
import Derived.KernelRfl
set_option linter.unusedSectionVars false
set_option linter.unusedVariables false
set_option maxRecDepth 1000000
set_option maxHeartbeats 0
namespace Go.Proofs.YtfkfmjlppllfoaaGreatDoor.mu
open Go.X Go.RowKit
section
variable {B : Kp} {w0 : World} {μ : M} {a : Act} {w : World}
theorem ibB0 {v : Int} {r : Int} {wd : Int} {c0 : Int} {c1 : Int} {s : Nat} {d : Nat} (h1 : 1 ≤ v) (h2 : v ≤ 200) (h3 : 0 ≤ r) (h4 : r + 20 ≤ 5000) (h5 : 0 ≤ wd) (h6 : wd + 7 ≤ 2048) (h7 : 0 ≤ c0) (h8 : c0 ≤ 100000) (h9 : 0 ≤ c1) (h10 : c1 ≤ 100000) (h11 : s ≤ 10000) (h12 : d ≤ 10000) : ∀ x_ ∈ ([(14, .oi 1, .int .i64 5000, .bool false), (9, .oi 8, .int .i64 0, .bool false), (1, .oi 8, .int .i64 1, .oi 6), (11, .oi 6, .oi 8, .bool true), (14, .oi 6, .int .i64 0, .bool true), (0, .oi 1, .int .i64 1, .oi 9), (0, .oi 3, .int .i64 1, .oi 10), (0, .oi 5, .int .i64 0, .oi 5), (11, .oi 5, .int .i64 0, .bool false), (11, .oi 5, .oi 7, .bool true), (14, .oi 5, .int .i64 0, .bool true), (14, .oi 9, .int .i64 5000, .bool false), (0, .oi 9, .int .i64 1, .oi 12), (0, .oi 10, .int .i64 1, .oi 13), (1, .oi 11, .int .i64 1, .oi 7), (1, .oi 7, .int .i64 0, .oi 7), (11, .oi 7, .oi 11, .bool true), (14, .oi 7, .int .i64 0, .bool true), (12, .oi 7, .oi 11, .bool true), (10, .oi 0, .int .i64 0, .bool true), (14, .oi 12, .int .i64 5000, .bool false), (0, .oi 12, .int .i64 1, .oi 14), (0, .oi 13, .int .i64 1, .oi 15), (14, .oi 14, .int .i64 5000, .bool false), (0, .oi 14, .int .i64 1, .oi 16), (0, .oi 15, .int .i64 1, .oi 17), (14, .oi 16, .int .i64 5000, .bool false), (0, .oi 16, .int .i64 1, .oi 19), (0, .oi 17, .int .i64 1, .oi 20), (1, .oi 18, .int .i64 1, .oi 11), (1, .oi 11, .int .i64 0, .oi 11), (11, .oi 11, .oi 18, .bool true), (14, .oi 11, .int .i64 0, .bool true), (11, .oi 7, .oi 18, .bool true), (1, .oi 0, .int .i64 1, .oi 22), (1, .oi 18, .int .i64 2, .oi 7), (12, .oi 7, .oi 18, .bool true), (14, .oi 19, .int .i64 5000, .bool false), (0, .oi 19, .int .i64 1, .oi 24), (0, .oi 20, .int .i64 1, .oi 25), (1, .int .i64 2048, .oi 2, .oi 26), (13, .int .i64 7, .oi 26, .bool false), (0, .oi 2, .int .i64 7, .oi 27), (9, .oi 28, .int .i64 0, .bool false), (1, .oi 28, .int .i64 1, .oi 8), (11, .oi 8, .oi 28, .bool true), (14, .oi 8, .int .i64 0, .bool true), (0, .oi 7, .int .i64 0, .oi 7)] : List BRow), IbOk (ivE0 v r wd c0 c1 s d) x_ := by
  letI := Tab.empty
  exact (ibCons (ibGe (a := (r)) (b := (5000)) rfl rfl (decide_eq_false (by omega)))
    (ibCons (ibEq (a := (((d + 1 : Nat) : Int))) (b := (0)) rfl rfl (decide_eq_false (by omega)))
    (ibCons (ibSub (a := (((d + 1 : Nat) : Int))) (b := (1)) (c := (((d : Nat) : Int))) rfl rfl rfl (by first | assumption | omega) (by omega) (by omega))
    (ibCons (ibLt (a := (((d : Nat) : Int))) (b := (((d + 1 : Nat) : Int))) rfl rfl (decide_eq_true (by omega)))
    (ibCons (ibGe (a := (((d : Nat) : Int))) (b := (0)) rfl rfl (decide_eq_true (by omega)))
    (ibCons (ibAdd (a := (r)) (b := (1)) (c := (r + 1)) rfl rfl rfl (by first | assumption | omega) (by omega) (by omega))
    (ibCons (ibAdd (a := (c0)) (b := (1)) (c := (c0 + 1)) rfl rfl rfl (by first | assumption | omega) (by omega) (by omega))
    (ibCons (ibAdd (a := (((s : Nat) : Int))) (b := (0)) (c := (((s : Nat) : Int))) rfl rfl rfl (by first | assumption | omega) (by omega) (by omega))
    (ibCons (ibLt (a := (((s : Nat) : Int))) (b := (0)) rfl rfl (decide_eq_false (by omega)))
    (ibCons (ibLt (a := (((s : Nat) : Int))) (b := (((s + 1 : Nat) : Int))) rfl rfl (decide_eq_true (by omega)))
    (ibCons (ibGe (a := (((s : Nat) : Int))) (b := (0)) rfl rfl (decide_eq_true (by omega)))
    (ibCons (ibGe (a := (r + 1)) (b := (5000)) rfl rfl (decide_eq_false (by omega)))
    (ibCons (ibAdd (a := (r + 1)) (b := (1)) (c := (r + 2)) rfl rfl rfl (by first | assumption | omega) (by omega) (by omega))
    (ibCons (ibAdd (a := (c0 + 1)) (b := (1)) (c := (c0 + 2)) rfl rfl rfl (by first | assumption | omega) (by omega) (by omega))
    (ibCons (ibSub (a := (((s + 2 : Nat) : Int))) (b := (1)) (c := (((s + 1 : Nat) : Int))) rfl rfl rfl (by first | assumption | omega) (by omega) (by omega))
    (ibCons (ibSub (a := (((s + 1 : Nat) : Int))) (b := (0)) (c := (((s + 1 : Nat) : Int))) rfl rfl rfl (by first | assumption | omega) (by omega) (by omega))
    (ibCons (ibLt (a := (((s + 1 : Nat) : Int))) (b := (((s + 2 : Nat) : Int))) rfl rfl (decide_eq_true (by omega)))
    (ibCons (ibGe (a := (((s + 1 : Nat) : Int))) (b := (0)) rfl rfl (decide_eq_true (by omega)))
    (ibCons (ibLe (a := (((s + 1 : Nat) : Int))) (b := (((s + 2 : Nat) : Int))) rfl rfl (decide_eq_true (by omega)))
    (ibCons (ibNe (a := (v)) (b := (0)) rfl rfl (decide_eq_false (by omega)))
    (ibCons (ibGe (a := (r + 2)) (b := (5000)) rfl rfl (decide_eq_false (by omega)))
    (ibCons (ibAdd (a := (r + 2)) (b := (1)) (c := (r + 3)) rfl rfl rfl (by first | assumption | omega) (by omega) (by omega))
    (ibCons (ibAdd (a := (c0 + 2)) (b := (1)) (c := (c0 + 3)) rfl rfl rfl (by first | assumption | omega) (by omega) (by omega))
    (ibCons (ibGe (a := (r + 3)) (b := (5000)) rfl rfl (decide_eq_false (by omega)))
    (ibCons (ibAdd (a := (r + 3)) (b := (1)) (c := (r + 4)) rfl rfl rfl (by first | assumption | omega) (by omega) (by omega))
    (ibCons (ibAdd (a := (c0 + 3)) (b := (1)) (c := (c0 + 4)) rfl rfl rfl (by first | assumption | omega) (by omega) (by omega))
    (ibCons (ibGe (a := (r + 4)) (b := (5000)) rfl rfl (decide_eq_false (by omega)))
    (ibCons (ibAdd (a := (r + 4)) (b := (1)) (c := (r + 5)) rfl rfl rfl (by first | assumption | omega) (by omega) (by omega))
    (ibCons (ibAdd (a := (c0 + 4)) (b := (1)) (c := (c0 + 5)) rfl rfl rfl (by first | assumption | omega) (by omega) (by omega))
    (ibCons (ibSub (a := (((s + 3 : Nat) : Int))) (b := (1)) (c := (((s + 2 : Nat) : Int))) rfl rfl rfl (by first | assumption | omega) (by omega) (by omega))
    (ibCons (ibSub (a := (((s + 2 : Nat) : Int))) (b := (0)) (c := (((s + 2 : Nat) : Int))) rfl rfl rfl (by first | assumption | omega) (by omega) (by omega))
    (ibCons (ibLt (a := (((s + 2 : Nat) : Int))) (b := (((s + 3 : Nat) : Int))) rfl rfl (decide_eq_true (by omega)))
    (ibCons (ibGe (a := (((s + 2 : Nat) : Int))) (b := (0)) rfl rfl (decide_eq_true (by omega)))
    (ibCons (ibLt (a := (((s + 1 : Nat) : Int))) (b := (((s + 3 : Nat) : Int))) rfl rfl (decide_eq_true (by omega)))
    (ibCons (ibSub (a := (v)) (b := (1)) (c := (v - 1)) rfl rfl rfl (by first | assumption | omega) (by omega) (by omega))
    (ibCons (ibSub (a := (((s + 3 : Nat) : Int))) (b := (2)) (c := (((s + 1 : Nat) : Int))) rfl rfl rfl (by first | assumption | omega) (by omega) (by omega))
    (ibCons (ibLe (a := (((s + 1 : Nat) : Int))) (b := (((s + 3 : Nat) : Int))) rfl rfl (decide_eq_true (by omega)))
    (ibCons (ibGe (a := (r + 5)) (b := (5000)) rfl rfl (decide_eq_false (by omega)))
    (ibCons (ibAdd (a := (r + 5)) (b := (1)) (c := (r + 6)) rfl rfl rfl (by first | assumption | omega) (by omega) (by omega))
    (ibCons (ibAdd (a := (c0 + 5)) (b := (1)) (c := (c0 + 6)) rfl rfl rfl (by first | assumption | omega) (by omega) (by omega))
    (ibCons (ibSub (a := (2048)) (b := (wd)) (c := (2048 - wd)) rfl rfl rfl (by first | assumption | omega) (by omega) (by omega))
    (ibCons (ibGt (a := (7)) (b := (2048 - wd)) rfl rfl (decide_eq_false (by omega)))
    (ibCons (ibAdd (a := (wd)) (b := (7)) (c := (wd + 7)) rfl rfl rfl (by first | assumption | omega) (by omega) (by omega))
    (ibCons (ibEq (a := (((d + 2 : Nat) : Int))) (b := (0)) rfl rfl (decide_eq_false (by omega)))
    (ibCons (ibSub (a := (((d + 2 : Nat) : Int))) (b := (1)) (c := (((d + 1 : Nat) : Int))) rfl rfl rfl (by first | assumption | omega) (by omega) (by omega))
    (ibCons (ibLt (a := (((d + 1 : Nat) : Int))) (b := (((d + 2 : Nat) : Int))) rfl rfl (decide_eq_true (by omega)))
    (ibCons (ibGe (a := (((d + 1 : Nat) : Int))) (b := (0)) rfl rfl (decide_eq_true (by omega)))
    (ibCons (ibAdd (a := (((s + 1 : Nat) : Int))) (b := (0)) (c := (((s + 1 : Nat) : Int))) rfl rfl rfl (by first | assumption | omega) (by omega) (by omega))
    ibNil))))))))))))))))))))))))))))))))))))))))))))))))
theorem icB0 {v : Int} {r : Int} {wd : Int} {c0 : Int} {c1 : Int} {s : Nat} {d : Nat} (h1 : 1 ≤ v) (h2 : v ≤ 200) (h3 : 0 ≤ r) (h4 : r + 20 ≤ 5000) (h5 : 0 ≤ wd) (h6 : wd + 7 ≤ 2048) (h7 : 0 ≤ c0) (h8 : c0 ≤ 100000) (h9 : 0 ≤ c1) (h10 : c1 ≤ 100000) (h11 : s ≤ 10000) (h12 : d ≤ 10000) : ∀ x_ ∈ ([(.i32, .oi 0, .oi 21), (.i64, .oi 21, .oi 0), (.i32, .oi 22, .oi 23), (.i64, .oi 23, .oi 22)] : List (IntKind × AV × AV)), IcOk' (ivE0 v r wd c0 c1 s d) x_ := (icCons (ic32 (n := (v)) rfl rfl (by omega) (by omega)) (icCons (ic64 (n := (v)) rfl rfl (by omega) (by omega)) (icCons (ic32 (n := (v - 1)) rfl rfl (by omega) (by omega)) (icCons (ic64 (n := (v - 1)) rfl rfl (by omega) (by omega)) icNil))))
theorem vlB0 {v : Int} {r : Int} {wd : Int} {c0 : Int} {c1 : Int} {s : Nat} {d : Nat} (h1 : 1 ≤ v) (h2 : v ≤ 200) (h3 : 0 ≤ r) (h4 : r + 20 ≤ 5000) (h5 : 0 ≤ wd) (h6 : wd + 7 ≤ 2048) (h7 : 0 ≤ c0) (h8 : c0 ≤ 100000) (h9 : 0 ≤ c1) (h10 : c1 ≤ 100000) (h11 : s ≤ 10000) (h12 : d ≤ 10000) : ∀ x_ ∈ ([⟨3, 6, 1, 0, [(pN 20005)]⟩, ⟨2, 6, 7, 4, [z1]⟩, ⟨2, 6, 7, 3, [(oN 5)]⟩, ⟨0, 5, 1, 0, [(oN 0)]⟩, ⟨1, 5, 1, 0, [bF]⟩, ⟨2, 6, 7, 6, [z0]⟩, ⟨2, 6, 7, 5, [z2]⟩, ⟨7, 6, 7, 6, [z1]⟩, ⟨5, 7, 1, 0, [(oN 0)]⟩, ⟨6, 7, 1, 0, [bF]⟩, ⟨9, 6, 7, 4, [z1]⟩, ⟨9, 6, 7, 3, [(oN 5)]⟩, ⟨5, 5, 1, 0, [(oN 0)]⟩, ⟨6, 5, 1, 0, [bF]⟩, ⟨9, 6, 7, 6, [z0]⟩, ⟨9, 6, 7, 5, [z2]⟩, ⟨11, 6, 7, 6, [z1]⟩, ⟨11, 6, 7, 5, [z2]⟩, ⟨15, 6, 7, 6, [z2]⟩, ⟨13, 11, 1, 0, [z1]⟩, ⟨14, 11, 1, 0, [bF]⟩, ⟨13, 7, 1, 0, [(oN 0)]⟩, ⟨14, 7, 1, 0, [bF]⟩, ⟨16, 6, 7, 6, [z0]⟩, ⟨16, 6, 7, 5, [z2]⟩, ⟨19, 6, 7, 6, [z1]⟩, ⟨18, 7, 1, 0, [(oN 22)]⟩, ⟨21, 8, 7, 4, [z1]⟩, ⟨21, 8, 7, 3, [(oN 7)]⟩] : List VL), VlOk (ivE0 v r wd c0 c1 s d) (vvE0 s d) x_ :=
  (allCons (vlP (k := d) (b := d) (c := 3) (o := 0) (L := [(pN 20005)]) rfl rfl (by show (d) * 1 + 0 = d + 0; omega) rfl)
    (allCons (vlP (k := d) (b := 7 * d) (c := 2) (o := 4) (L := [z0, z0, z0, (oN 5), z1, z2, z0]) rfl rfl (by show (d) * 7 + 4 = 7 * d + 4; omega) rfl)
    (allCons (vlP (k := d) (b := 7 * d) (c := 2) (o := 3) (L := [z0, z0, z0, (oN 5), z1, z2, z0]) rfl rfl (by show (d) * 7 + 3 = 7 * d + 3; omega) rfl)
    (allCons (vlP (k := s) (b := s) (c := 0) (o := 0) (L := [(oN 0)]) rfl rfl (by show (s) * 1 + 0 = s + 0; omega) rfl)
    (allCons (vlP (k := s) (b := s) (c := 1) (o := 0) (L := [bF]) rfl rfl (by show (s) * 1 + 0 = s + 0; omega) rfl)
    (allCons (vlP (k := d) (b := 7 * d) (c := 2) (o := 6) (L := [z0, z0, z0, (oN 5), z1, z2, z0]) rfl rfl (by show (d) * 7 + 6 = 7 * d + 6; omega) rfl)
    (allCons (vlP (k := d) (b := 7 * d) (c := 2) (o := 5) (L := [z0, z0, z0, (oN 5), z1, z2, z0]) rfl rfl (by show (d) * 7 + 5 = 7 * d + 5; omega) rfl)
    (allCons (vlP (k := d) (b := 7 * d) (c := 2) (o := 6) (L := [z0, z0, z1, (oN 5), z1, z2, z1]) rfl rfl (by show (d) * 7 + 6 = 7 * d + 6; omega) rfl)
    (allCons (vlP (k := s + 1) (b := s) (c := 0) (o := 1) (L := [(oN 0), (oN 0)]) rfl rfl (by show (s + 1) * 1 + 0 = s + 1; omega) rfl)
    (allCons (vlP (k := s + 1) (b := s) (c := 1) (o := 1) (L := [bF, bF]) rfl rfl (by show (s + 1) * 1 + 0 = s + 1; omega) rfl)
    (allCons (vlP (k := d) (b := 7 * d) (c := 2) (o := 4) (L := [z0, z0, (iN 6), (oN 5), z1, z2, z0]) rfl rfl (by show (d) * 7 + 4 = 7 * d + 4; omega) rfl)
    (allCons (vlP (k := d) (b := 7 * d) (c := 2) (o := 3) (L := [z0, z0, (iN 6), (oN 5), z1, z2, z0]) rfl rfl (by show (d) * 7 + 3 = 7 * d + 3; omega) rfl)
    (allCons (vlP (k := s) (b := s) (c := 0) (o := 0) (L := [(oN 0), (oN 0)]) rfl rfl (by show (s) * 1 + 0 = s + 0; omega) rfl)
    (allCons (vlP (k := s) (b := s) (c := 1) (o := 0) (L := [bF, bF]) rfl rfl (by show (s) * 1 + 0 = s + 0; omega) rfl)
    (allCons (vlP (k := d) (b := 7 * d) (c := 2) (o := 6) (L := [z0, z0, (iN 6), (oN 5), z1, z2, z0]) rfl rfl (by show (d) * 7 + 6 = 7 * d + 6; omega) rfl)
    (allCons (vlP (k := d) (b := 7 * d) (c := 2) (o := 5) (L := [z0, z0, (iN 6), (oN 5), z1, z2, z0]) rfl rfl (by show (d) * 7 + 5 = 7 * d + 5; omega) rfl)
    (allCons (vlP (k := d) (b := 7 * d) (c := 2) (o := 6) (L := [z0, z0, (iN 7), (oN 5), z1, z2, z1]) rfl rfl (by show (d) * 7 + 6 = 7 * d + 6; omega) rfl)
    (allCons (vlP (k := d) (b := 7 * d) (c := 2) (o := 5) (L := [z0, z0, (iN 7), (oN 5), z1, z2, z1]) rfl rfl (by show (d) * 7 + 5 = 7 * d + 5; omega) rfl)
    (allCons (vlP (k := d) (b := 7 * d) (c := 2) (o := 6) (L := [z0, z0, (iN 8), (oN 5), z1, z2, z2]) rfl rfl (by show (d) * 7 + 6 = 7 * d + 6; omega) rfl)
    (allCons (vlP (k := s + 2) (b := s) (c := 0) (o := 2) (L := [(oN 0), (oN 0), z1]) rfl rfl (by show (s + 2) * 1 + 0 = s + 2; omega) rfl)
    (allCons (vlP (k := s + 2) (b := s) (c := 1) (o := 2) (L := [bF, bF, bF]) rfl rfl (by show (s + 2) * 1 + 0 = s + 2; omega) rfl)
    (allCons (vlP (k := s + 1) (b := s) (c := 0) (o := 1) (L := [(oN 0), (oN 0), z1]) rfl rfl (by show (s + 1) * 1 + 0 = s + 1; omega) rfl)
    (allCons (vlP (k := s + 1) (b := s) (c := 1) (o := 1) (L := [bF, bF, bF]) rfl rfl (by show (s + 1) * 1 + 0 = s + 1; omega) rfl)
    (allCons (vlP (k := d) (b := 7 * d) (c := 2) (o := 6) (L := [z0, z0, (iN 8), (oN 5), z1, z2, z0]) rfl rfl (by show (d) * 7 + 6 = 7 * d + 6; omega) rfl)
    (allCons (vlP (k := d) (b := 7 * d) (c := 2) (o := 5) (L := [z0, z0, (iN 8), (oN 5), z1, z2, z0]) rfl rfl (by show (d) * 7 + 5 = 7 * d + 5; omega) rfl)
    (allCons (vlP (k := d) (b := 7 * d) (c := 2) (o := 6) (L := [z0, z0, (iN 9), (oN 5), z1, z2, z1]) rfl rfl (by show (d) * 7 + 6 = 7 * d + 6; omega) rfl)
    (allCons (vlP (k := s + 1) (b := s) (c := 0) (o := 1) (L := [(oN 0), (oN 22)]) rfl rfl (by show (s + 1) * 1 + 0 = s + 1; omega) rfl)
    (allCons (vlP (k := d + 1) (b := 7 * d) (c := 2) (o := 11) (L := [z0, z0, (iN 9), (oN 5), z1, z2, z0, z0, z1, z0, (oN 7), z1, z2, z0]) rfl rfl (by show (d + 1) * 7 + 4 = 7 * d + 11; omega) rfl)
    (allCons (vlP (k := d + 1) (b := 7 * d) (c := 2) (o := 10) (L := [z0, z0, (iN 9), (oN 5), z1, z2, z0, z0, z1, z0, (oN 7), z1, z2, z0]) rfl rfl (by show (d + 1) * 7 + 3 = 7 * d + 10; omega) rfl)
    allNil)))))))))))))))))))))))))))))
theorem vsB0 {v : Int} {r : Int} {wd : Int} {c0 : Int} {c1 : Int} {s : Nat} {d : Nat} (h1 : 1 ≤ v) (h2 : v ≤ 200) (h3 : 0 ≤ r) (h4 : r + 20 ≤ 5000) (h5 : 0 ≤ wd) (h6 : wd + 7 ≤ 2048) (h7 : 0 ≤ c0) (h8 : c0 ≤ 100000) (h9 : 0 ≤ c1) (h10 : c1 ≤ 100000) (h11 : s ≤ 10000) (h12 : d ≤ 10000) : ∀ x_ ∈ ([⟨2, 6, 7, 2, [z0], 2⟩, ⟨2, 6, 7, 6, [z1], 4⟩, ⟨4, 6, 7, 2, [z1], 7⟩, ⟨7, 6, 7, 6, [z0], 8⟩, ⟨8, 6, 7, 2, [(iN 6)], 9⟩, ⟨9, 6, 7, 6, [z1], 10⟩, ⟨10, 6, 7, 2, [(iN 7)], 11⟩, ⟨11, 6, 7, 6, [z2], 12⟩, ⟨12, 6, 7, 2, [(iN 8)], 15⟩, ⟨15, 6, 7, 6, [z0], 16⟩, ⟨16, 6, 7, 6, [z1], 17⟩, ⟨17, 6, 7, 2, [(iN 9)], 19⟩, ⟨19, 6, 7, 6, [z0], 20⟩, ⟨22, 7, 1, 0, [(oN 22)], 18⟩, ⟨6, 7, 1, 0, [bF], 6⟩] : List VS), VsOk (ivE0 v r wd c0 c1 s d) (vvE0 s d) (vkE0 s d) x_ :=
  (allCons (vsP (k := d) (b := 7 * d) (c := 2) (o := 2) (L := [z0, z0, z0, (oN 5), z1, z2, z0]) (L' := [z0, z0, z0, (oN 5), z1, z2, z0]) rfl rfl rfl rfl rfl (by show (d) * 7 + 2 = 7 * d + 2; omega) rfl (by decide))
    (allCons (vsP (k := d) (b := 7 * d) (c := 2) (o := 6) (L := [z0, z0, z0, (oN 5), z1, z2, z0]) (L' := [z0, z0, z0, (oN 5), z1, z2, z1]) rfl rfl rfl rfl rfl (by show (d) * 7 + 6 = 7 * d + 6; omega) rfl (by decide))
    (allCons (vsP (k := d) (b := 7 * d) (c := 2) (o := 2) (L := [z0, z0, z0, (oN 5), z1, z2, z1]) (L' := [z0, z0, z1, (oN 5), z1, z2, z1]) rfl rfl rfl rfl rfl (by show (d) * 7 + 2 = 7 * d + 2; omega) rfl (by decide))
    (allCons (vsP (k := d) (b := 7 * d) (c := 2) (o := 6) (L := [z0, z0, z1, (oN 5), z1, z2, z1]) (L' := [z0, z0, z1, (oN 5), z1, z2, z0]) rfl rfl rfl rfl rfl (by show (d) * 7 + 6 = 7 * d + 6; omega) rfl (by decide))
    (allCons (vsP (k := d) (b := 7 * d) (c := 2) (o := 2) (L := [z0, z0, z1, (oN 5), z1, z2, z0]) (L' := [z0, z0, (iN 6), (oN 5), z1, z2, z0]) rfl rfl rfl rfl rfl (by show (d) * 7 + 2 = 7 * d + 2; omega) rfl (by decide))
    (allCons (vsP (k := d) (b := 7 * d) (c := 2) (o := 6) (L := [z0, z0, (iN 6), (oN 5), z1, z2, z0]) (L' := [z0, z0, (iN 6), (oN 5), z1, z2, z1]) rfl rfl rfl rfl rfl (by show (d) * 7 + 6 = 7 * d + 6; omega) rfl (by decide))
    (allCons (vsP (k := d) (b := 7 * d) (c := 2) (o := 2) (L := [z0, z0, (iN 6), (oN 5), z1, z2, z1]) (L' := [z0, z0, (iN 7), (oN 5), z1, z2, z1]) rfl rfl rfl rfl rfl (by show (d) * 7 + 2 = 7 * d + 2; omega) rfl (by decide))
    (allCons (vsP (k := d) (b := 7 * d) (c := 2) (o := 6) (L := [z0, z0, (iN 7), (oN 5), z1, z2, z1]) (L' := [z0, z0, (iN 7), (oN 5), z1, z2, z2]) rfl rfl rfl rfl rfl (by show (d) * 7 + 6 = 7 * d + 6; omega) rfl (by decide))
    (allCons (vsP (k := d) (b := 7 * d) (c := 2) (o := 2) (L := [z0, z0, (iN 7), (oN 5), z1, z2, z2]) (L' := [z0, z0, (iN 8), (oN 5), z1, z2, z2]) rfl rfl rfl rfl rfl (by show (d) * 7 + 2 = 7 * d + 2; omega) rfl (by decide))
    (allCons (vsP (k := d) (b := 7 * d) (c := 2) (o := 6) (L := [z0, z0, (iN 8), (oN 5), z1, z2, z2]) (L' := [z0, z0, (iN 8), (oN 5), z1, z2, z0]) rfl rfl rfl rfl rfl (by show (d) * 7 + 6 = 7 * d + 6; omega) rfl (by decide))
    (allCons (vsP (k := d) (b := 7 * d) (c := 2) (o := 6) (L := [z0, z0, (iN 8), (oN 5), z1, z2, z0]) (L' := [z0, z0, (iN 8), (oN 5), z1, z2, z1]) rfl rfl rfl rfl rfl (by show (d) * 7 + 6 = 7 * d + 6; omega) rfl (by decide))
    (allCons (vsP (k := d) (b := 7 * d) (c := 2) (o := 2) (L := [z0, z0, (iN 8), (oN 5), z1, z2, z1]) (L' := [z0, z0, (iN 9), (oN 5), z1, z2, z1]) rfl rfl rfl rfl rfl (by show (d) * 7 + 2 = 7 * d + 2; omega) rfl (by decide))
    (allCons (vsP (k := d) (b := 7 * d) (c := 2) (o := 6) (L := [z0, z0, (iN 9), (oN 5), z1, z2, z1]) (L' := [z0, z0, (iN 9), (oN 5), z1, z2, z0]) rfl rfl rfl rfl rfl (by show (d) * 7 + 6 = 7 * d + 6; omega) rfl (by decide))
    (allCons (vsP (k := s + 1) (b := s) (c := 0) (o := 1) (L := [(oN 0), z0]) (L' := [(oN 0), (oN 22)]) rfl rfl rfl rfl rfl (by show (s + 1) * 1 + 0 = s + 1; omega) rfl (by decide))
    (allCons (vsP (k := s + 1) (b := s) (c := 1) (o := 1) (L := [bF, bF]) (L' := [bF, bF]) rfl rfl rfl rfl rfl (by show (s + 1) * 1 + 0 = s + 1; omega) rfl (by decide))
    allNil)))))))))))))))
theorem vaB0 {v : Int} {r : Int} {wd : Int} {c0 : Int} {c1 : Int} {s : Nat} {d : Nat} (h1 : 1 ≤ v) (h2 : v ≤ 200) (h3 : 0 ≤ r) (h4 : r + 20 ≤ 5000) (h5 : 0 ≤ wd) (h6 : wd + 7 ≤ 2048) (h7 : 0 ≤ c0) (h8 : c0 ≤ 100000) (h9 : 0 ≤ c1) (h10 : c1 ≤ 100000) (h11 : s ≤ 10000) (h12 : d ≤ 10000) : ∀ x_ ∈ ([⟨0, 7, 1, [(oN 0)], 5, 11⟩, ⟨1, 7, 1, [bF], 6, 11⟩, ⟨5, 7, 1, [(oN 0)], 5, 11⟩, ⟨6, 7, 1, [bF], 6, 11⟩, ⟨5, 11, 1, [z1], 13, 18⟩, ⟨6, 11, 1, [bF], 14, 18⟩, ⟨13, 7, 1, [(oN 22)], 18, 11⟩, ⟨14, 7, 1, [bF], 6, 11⟩, ⟨20, 8, 7, [z0, z1, z0, (oN 7), z1, z2, z0], 21, 28⟩, ⟨18, 7, 1, [z0], 22, 11⟩, ⟨3, 8, 1, [(pN 20279)], 23, 28⟩] : List VA), VaOk (ivE0 v r wd c0 c1 s d) (vvE0 s d) (vkE0 s d) x_ :=
  (allCons (vaP (j := s + 1) (j' := s + 2) (b := s) (c := 0) (o := 1) (L := [(oN 0)]) (L' := [(oN 0), (oN 0)]) rfl rfl rfl rfl rfl (by show (s + 1) * 1 = s + 1; omega) (by show (s + 2) * 1 = s + 1 + 1; omega) rfl (by decide) (by show s + 2 < 1000000; omega))
    (allCons (vaP (j := s + 1) (j' := s + 2) (b := s) (c := 1) (o := 1) (L := [bF]) (L' := [bF, bF]) rfl rfl rfl rfl rfl (by show (s + 1) * 1 = s + 1; omega) (by show (s + 2) * 1 = s + 1 + 1; omega) rfl (by decide) (by show s + 2 < 1000000; omega))
    (allCons (vaP (j := s + 1) (j' := s + 2) (b := s) (c := 0) (o := 1) (L := [(oN 0), (oN 0)]) (L' := [(oN 0), (oN 0)]) rfl rfl rfl rfl rfl (by show (s + 1) * 1 = s + 1; omega) (by show (s + 2) * 1 = s + 1 + 1; omega) rfl (by decide) (by show s + 2 < 1000000; omega))
    (allCons (vaP (j := s + 1) (j' := s + 2) (b := s) (c := 1) (o := 1) (L := [bF, bF]) (L' := [bF, bF]) rfl rfl rfl rfl rfl (by show (s + 1) * 1 = s + 1; omega) (by show (s + 2) * 1 = s + 1 + 1; omega) rfl (by decide) (by show s + 2 < 1000000; omega))
    (allCons (vaP (j := s + 2) (j' := s + 3) (b := s) (c := 0) (o := 2) (L := [(oN 0), (oN 0)]) (L' := [(oN 0), (oN 0), z1]) rfl rfl rfl rfl rfl (by show (s + 2) * 1 = s + 2; omega) (by show (s + 3) * 1 = s + 2 + 1; omega) rfl (by decide) (by show s + 3 < 1000000; omega))
    (allCons (vaP (j := s + 2) (j' := s + 3) (b := s) (c := 1) (o := 2) (L := [bF, bF]) (L' := [bF, bF, bF]) rfl rfl rfl rfl rfl (by show (s + 2) * 1 = s + 2; omega) (by show (s + 3) * 1 = s + 2 + 1; omega) rfl (by decide) (by show s + 3 < 1000000; omega))
    (allCons (vaP (j := s + 1) (j' := s + 2) (b := s) (c := 0) (o := 1) (L := [(oN 0), (oN 0), z1]) (L' := [(oN 0), (oN 22)]) rfl rfl rfl rfl rfl (by show (s + 1) * 1 = s + 1; omega) (by show (s + 2) * 1 = s + 1 + 1; omega) rfl (by decide) (by show s + 2 < 1000000; omega))
    (allCons (vaP (j := s + 1) (j' := s + 2) (b := s) (c := 1) (o := 1) (L := [bF, bF, bF]) (L' := [bF, bF]) rfl rfl rfl rfl rfl (by show (s + 1) * 1 = s + 1; omega) (by show (s + 2) * 1 = s + 1 + 1; omega) rfl (by decide) (by show s + 2 < 1000000; omega))
    (allCons (vaP (j := d + 1) (j' := d + 2) (b := 7 * d) (c := 2) (o := 7) (L := [z0, z0, (iN 9), (oN 5), z1, z2, z0]) (L' := [z0, z0, (iN 9), (oN 5), z1, z2, z0, z0, z1, z0, (oN 7), z1, z2, z0]) rfl rfl rfl rfl rfl (by show (d + 1) * 7 = 7 * d + 7; omega) (by show (d + 2) * 7 = 7 * d + 7 + 7; omega) rfl (by decide) (by show d + 2 < 1000000; omega))
    (allCons (vaP (j := s + 1) (j' := s + 2) (b := s) (c := 0) (o := 1) (L := [(oN 0), (oN 22)]) (L' := [(oN 0), z0]) rfl rfl rfl rfl rfl (by show (s + 1) * 1 = s + 1; omega) (by show (s + 2) * 1 = s + 1 + 1; omega) rfl (by decide) (by show s + 2 < 1000000; omega))
    (allCons (vaP (j := d + 1) (j' := d + 2) (b := d) (c := 3) (o := 1) (L := [(pN 20005)]) (L' := [(pN 20005), (pN 20279)]) rfl rfl rfl rfl rfl (by show (d + 1) * 1 = d + 1; omega) (by show (d + 2) * 1 = d + 1 + 1; omega) rfl (by decide) (by show d + 2 < 1000000; omega))
    allNil)))))))))))
abbrev RB0 {v : Int} {r : Int} {wd : Int} {c0 : Int} {c1 : Int} {s : Nat} {d : Nat} (h1 : 1 ≤ v) (h2 : v ≤ 200) (h3 : 0 ≤ r) (h4 : r + 20 ≤ 5000) (h5 : 0 ≤ wd) (h6 : wd + 7 ≤ 2048) (h7 : 0 ≤ c0) (h8 : c0 ≤ 100000) (h9 : 0 ≤ c1) (h10 : c1 ≤ 100000) (h11 : s ≤ 10000) (h12 : d ≤ 10000) : VRows (ivE0 v r wd c0 c1 s d) (vvE0 s d) (vkE0 s d) where
  vvp := vpE0 s d
  ib := [(14, .oi 1, .int .i64 5000, .bool false), (9, .oi 8, .int .i64 0, .bool false), (1, .oi 8, .int .i64 1, .oi 6), (11, .oi 6, .oi 8, .bool true), (14, .oi 6, .int .i64 0, .bool true), (0, .oi 1, .int .i64 1, .oi 9), (0, .oi 3, .int .i64 1, .oi 10), (0, .oi 5, .int .i64 0, .oi 5), (11, .oi 5, .int .i64 0, .bool false), (11, .oi 5, .oi 7, .bool true), (14, .oi 5, .int .i64 0, .bool true), (14, .oi 9, .int .i64 5000, .bool false), (0, .oi 9, .int .i64 1, .oi 12), (0, .oi 10, .int .i64 1, .oi 13), (1, .oi 11, .int .i64 1, .oi 7), (1, .oi 7, .int .i64 0, .oi 7), (11, .oi 7, .oi 11, .bool true), (14, .oi 7, .int .i64 0, .bool true), (12, .oi 7, .oi 11, .bool true), (10, .oi 0, .int .i64 0, .bool true), (14, .oi 12, .int .i64 5000, .bool false), (0, .oi 12, .int .i64 1, .oi 14), (0, .oi 13, .int .i64 1, .oi 15), (14, .oi 14, .int .i64 5000, .bool false), (0, .oi 14, .int .i64 1, .oi 16), (0, .oi 15, .int .i64 1, .oi 17), (14, .oi 16, .int .i64 5000, .bool false), (0, .oi 16, .int .i64 1, .oi 19), (0, .oi 17, .int .i64 1, .oi 20), (1, .oi 18, .int .i64 1, .oi 11), (1, .oi 11, .int .i64 0, .oi 11), (11, .oi 11, .oi 18, .bool true), (14, .oi 11, .int .i64 0, .bool true), (11, .oi 7, .oi 18, .bool true), (1, .oi 0, .int .i64 1, .oi 22), (1, .oi 18, .int .i64 2, .oi 7), (12, .oi 7, .oi 18, .bool true), (14, .oi 19, .int .i64 5000, .bool false), (0, .oi 19, .int .i64 1, .oi 24), (0, .oi 20, .int .i64 1, .oi 25), (1, .int .i64 2048, .oi 2, .oi 26), (13, .int .i64 7, .oi 26, .bool false), (0, .oi 2, .int .i64 7, .oi 27), (9, .oi 28, .int .i64 0, .bool false), (1, .oi 28, .int .i64 1, .oi 8), (11, .oi 8, .oi 28, .bool true), (14, .oi 8, .int .i64 0, .bool true), (0, .oi 7, .int .i64 0, .oi 7)]
  ibok := ibB0 h1 h2 h3 h4 h5 h6 h7 h8 h9 h10 h11 h12
  ic := [(.i32, .oi 0, .oi 21), (.i64, .oi 21, .oi 0), (.i32, .oi 22, .oi 23), (.i64, .oi 23, .oi 22)]
  icok := icB0 h1 h2 h3 h4 h5 h6 h7 h8 h9 h10 h11 h12
  vl := [⟨3, 6, 1, 0, [(pN 20005)]⟩, ⟨2, 6, 7, 4, [z1]⟩, ⟨2, 6, 7, 3, [(oN 5)]⟩, ⟨0, 5, 1, 0, [(oN 0)]⟩, ⟨1, 5, 1, 0, [bF]⟩, ⟨2, 6, 7, 6, [z0]⟩, ⟨2, 6, 7, 5, [z2]⟩, ⟨7, 6, 7, 6, [z1]⟩, ⟨5, 7, 1, 0, [(oN 0)]⟩, ⟨6, 7, 1, 0, [bF]⟩, ⟨9, 6, 7, 4, [z1]⟩, ⟨9, 6, 7, 3, [(oN 5)]⟩, ⟨5, 5, 1, 0, [(oN 0)]⟩, ⟨6, 5, 1, 0, [bF]⟩, ⟨9, 6, 7, 6, [z0]⟩, ⟨9, 6, 7, 5, [z2]⟩, ⟨11, 6, 7, 6, [z1]⟩, ⟨11, 6, 7, 5, [z2]⟩, ⟨15, 6, 7, 6, [z2]⟩, ⟨13, 11, 1, 0, [z1]⟩, ⟨14, 11, 1, 0, [bF]⟩, ⟨13, 7, 1, 0, [(oN 0)]⟩, ⟨14, 7, 1, 0, [bF]⟩, ⟨16, 6, 7, 6, [z0]⟩, ⟨16, 6, 7, 5, [z2]⟩, ⟨19, 6, 7, 6, [z1]⟩, ⟨18, 7, 1, 0, [(oN 22)]⟩, ⟨21, 8, 7, 4, [z1]⟩, ⟨21, 8, 7, 3, [(oN 7)]⟩]
  vlok := vlB0 h1 h2 h3 h4 h5 h6 h7 h8 h9 h10 h11 h12
  vs := [⟨2, 6, 7, 2, [z0], 2⟩, ⟨2, 6, 7, 6, [z1], 4⟩, ⟨4, 6, 7, 2, [z1], 7⟩, ⟨7, 6, 7, 6, [z0], 8⟩, ⟨8, 6, 7, 2, [(iN 6)], 9⟩, ⟨9, 6, 7, 6, [z1], 10⟩, ⟨10, 6, 7, 2, [(iN 7)], 11⟩, ⟨11, 6, 7, 6, [z2], 12⟩, ⟨12, 6, 7, 2, [(iN 8)], 15⟩, ⟨15, 6, 7, 6, [z0], 16⟩, ⟨16, 6, 7, 6, [z1], 17⟩, ⟨17, 6, 7, 2, [(iN 9)], 19⟩, ⟨19, 6, 7, 6, [z0], 20⟩, ⟨22, 7, 1, 0, [(oN 22)], 18⟩, ⟨6, 7, 1, 0, [bF], 6⟩]
  vsok := vsB0 h1 h2 h3 h4 h5 h6 h7 h8 h9 h10 h11 h12
  va := [⟨0, 7, 1, [(oN 0)], 5, 11⟩, ⟨1, 7, 1, [bF], 6, 11⟩, ⟨5, 7, 1, [(oN 0)], 5, 11⟩, ⟨6, 7, 1, [bF], 6, 11⟩, ⟨5, 11, 1, [z1], 13, 18⟩, ⟨6, 11, 1, [bF], 14, 18⟩, ⟨13, 7, 1, [(oN 22)], 18, 11⟩, ⟨14, 7, 1, [bF], 6, 11⟩, ⟨20, 8, 7, [z0, z1, z0, (oN 7), z1, z2, z0], 21, 28⟩, ⟨18, 7, 1, [z0], 22, 11⟩, ⟨3, 8, 1, [(pN 20279)], 23, 28⟩]
  vaok := vaB0 h1 h2 h3 h4 h5 h6 h7 h8 h9 h10 h11 h12
  vc := []
  vcok := allNil
noncomputable abbrev rl_goB0 : List (Nat × Nat) := [(20000, 20000), (20001, 20277), (20002, 20278), (20003, 20276), (20004, 20281), (20005, 20279), (20006, 20005)]
noncomputable abbrev bs_goB0 : BS := [(7168, 7168, (.map [(tx17, (pN 14062), 0)] 1)), (7169, 7169, kb0), (7170, 7170, kb1), (9584, 9584, kb2), (10426, 10426, (.map [(tx17, z0, 0)] 1)), (10428, 10428, kb3), (10429, 10429, kb4), (13769, 13769, kb21), (13770, 13770, kb6), (13771, 13771, (.map [(tx17, z0, 0)] 1)), (13772, 13772, kb7), (13773, 13773, kb22), (14062, 14062, kb9), (14064, 14064, kb10), (14502, 14502, kb11), (14826, 14826, kb12), (14870, 14870, kb13), (15194, 15194, kb14), (15200, 15200, kb15), (16578, 16578, kb17), (16583, 16583, kb18), (20000, 20000, kb16), (20001, 20277, (.vec 0)), (20002, 20278, (.vec 1)), (20003, 20276, (.vec 2)), (20004, 20281, (.vec 3)), (20005, 20279, kb20), (20006, 20005, kb23)]
noncomputable abbrev ip_goB0 : IP := [(.oi 11, 0), (.oi 28, 1), (.oi 27, 2), (.oi 25, 3), (.oi 4, 4), (.oi 24, 5), (.oi 0, 6), (.oi 22, 7), (.oi 5, 8), (.oi 7, 9)]
theorem bq_goB0 : hOf 20010 bs_goB0 = hOf 20010 bsE20 := hOf_congr (by kernel_rfl)
theorem goB0 {v : Int} {r : Int} {wd : Int} {c0 : Int} {c1 : Int} {s : Nat} {d : Nat} (h1 : 1 ≤ v) (h2 : v ≤ 200) (h3 : 0 ≤ r) (h4 : r + 20 ≤ 5000) (h5 : 0 ≤ wd) (h6 : wd + 7 ≤ 2048) (h7 : 0 ≤ c0) (h8 : c0 ≤ 100000) (h9 : 0 ≤ c1) (h10 : c1 ≤ 100000) (h11 : s ≤ 10000) (h12 : d ≤ 10000) {rv : Nat → Value} (hb : Base B μ 20000) {Q : Exit → Act → World → Prop} {j_ : Nat} (s_ : SE0 v r wd c0 c1 s d rv B w0 μ a w) (hQ : ∀ a' w', SE20 (v) (r) (wd) (c0) (c1) (s) (d) rv B w0 μ a' w' → Code.rounds Tryz.prog la Q j_ a' w') : Code.rounds Tryz.prog la Q (j_ + 6) a w := by
  have hip : IpOk ((RB0 (v := v) (r := r) (wd := wd) (c0 := c0) (c1 := c1) (s := s) (d := d) h1 h2 h3 h4 h5 h6 h7 h8 h9 h10 h11 h12).rtab rv) (PE20 (v) (r) (wd) (c0) (c1) (s) (d) rv) ip_goB0 := (ipCons (ipN (.i64, ((s + 2 : Nat) : Int)) rfl rfl) (ipCons (ipN (.i64, ((d + 2 : Nat) : Int)) rfl rfl) (ipCons (ipN (.i64, wd + 7) rfl rfl) (ipCons (ipN (.i64, c0 + 6) rfl rfl) (ipCons (ipN (.i64, c1) rfl rfl) (ipCons (ipN (.i64, r + 6) rfl rfl) (ipCons (ipN (.i64, v) rfl rfl) (ipCons (ipN (.i64, v - 1) rfl rfl) (ipCons (ipN (.i64, ((s : Nat) : Int)) rfl rfl) (ipCons (ipN (.i64, ((s + 1 : Nat) : Int)) rfl rfl) ipNil))))))))))
  have hvp : VpOk ((RB0 (v := v) (r := r) (wd := wd) (c0 := c0) (c1 := c1) (s := s) (d := d) h1 h2 h3 h4 h5 h6 h7 h8 h9 h10 h11 h12).rtab rv) (PE20 (v) (r) (wd) (c0) (c1) (s) (d) rv) ⟨20000, 20010, ofPairs rl_goB0, ip_goB0⟩ [(20277, .vec 18, 0), (20278, .vec 6, 1), (20276, .vec 21, 2), (20281, .vec 23, 3)] := (vpCons (vpPre (i := 18) (i' := 0) hip rfl rfl rfl (Nat.add_le_add_left (by decide) _) (by kernel_rfl))
    (vpCons (vpPre (i := 6) (i' := 1) hip rfl rfl rfl (Nat.add_le_add_left (by decide) _) (by kernel_rfl))
    (vpCons (vpPre (i := 21) (i' := 2) hip rfl rfl rfl (Nat.add_le_add_left (by decide) _) (by kernel_rfl))
    (vpCons (vpPre (i := 23) (i' := 3) hip rfl rfl rfl (Nat.add_le_add_left (by decide) _) (by kernel_rfl))
    vpNil))))
  exact stepsTo_sound (T := ((RB0 (v := v) (r := r) (wd := wd) (c0 := c0) (c1 := c1) (s := s) (d := d) h1 h2 h3 h4 h5 h6 h7 h8 h9 h10 h11 h12).rtab rv)) (T' := (PE20 (v) (r) (wd) (c0) (c1) (s) (d) rv)) (K := Hand.none) (m := 5000) mixed (@HandOk.none ((RB0 (v := v) (r := r) (wd := wd) (c0 := c0) (c1 := c1) (s := s) (d := d) h1 h2 h3 h4 h5 h6 h7 h8 h9 h10 h11 h12).rtab rv) Tryz.prog) (C := ⟨20000, 20010, ofPairs rl_goB0, ip_goB0⟩) (ex := .normal) (rl := rl_goB0) (vp := [(20277, .vec 18, 0), (20278, .vec 6, 1), (20276, .vec 21, 2), (20281, .vec 23, 3)]) (fs := fsR) (bs := bs_goB0)
    hb (by decide) rfl (by kernel_rfl) hip hvp (glNone rfl rfl) (by as_aux_lemma => kernel_rfl) (St.same (VRows.rsame _ _ _) s_) (fun a' w' q => hQ a' w' (by rw [bq_goB0] at q; exact q))
theorem ibA0 {v : Int} {r : Int} {wd : Int} {c0 : Int} {c1 : Int} {s : Nat} {d : Nat} (h1 : v = 0) (h2 : v ≤ 200) (h3 : 0 ≤ r) (h4 : r + 20 ≤ 5000) (h5 : 0 ≤ wd) (h6 : wd + 7 ≤ 2048) (h7 : 0 ≤ c0) (h8 : c0 ≤ 100000) (h9 : 0 ≤ c1) (h10 : c1 ≤ 100000) (h11 : s ≤ 10000) (h12 : d ≤ 10000) : ∀ x_ ∈ ([(14, .oi 1, .int .i64 5000, .bool false), (9, .oi 8, .int .i64 0, .bool false), (1, .oi 8, .int .i64 1, .oi 6), (11, .oi 6, .oi 8, .bool true), (14, .oi 6, .int .i64 0, .bool true), (0, .oi 1, .int .i64 1, .oi 9), (0, .oi 3, .int .i64 1, .oi 10), (0, .oi 5, .int .i64 0, .oi 5), (11, .oi 5, .int .i64 0, .bool false), (11, .oi 5, .oi 7, .bool true), (14, .oi 5, .int .i64 0, .bool true), (14, .oi 9, .int .i64 5000, .bool false), (0, .oi 9, .int .i64 1, .oi 12), (0, .oi 10, .int .i64 1, .oi 13), (1, .oi 11, .int .i64 1, .oi 7), (1, .oi 7, .int .i64 0, .oi 7), (11, .oi 7, .oi 11, .bool true), (14, .oi 7, .int .i64 0, .bool true), (12, .oi 7, .oi 11, .bool true), (10, .oi 0, .int .i64 0, .bool false), (14, .oi 12, .int .i64 5000, .bool false), (0, .oi 12, .int .i64 1, .oi 14), (0, .oi 13, .int .i64 1, .oi 15)] : List BRow), IbOk (ivE0 v r wd c0 c1 s d) x_ := by
  letI := Tab.empty
  exact (ibCons (ibGe (a := (r)) (b := (5000)) rfl rfl (decide_eq_false (by omega)))
    (ibCons (ibEq (a := (((d + 1 : Nat) : Int))) (b := (0)) rfl rfl (decide_eq_false (by omega)))
    (ibCons (ibSub (a := (((d + 1 : Nat) : Int))) (b := (1)) (c := (((d : Nat) : Int))) rfl rfl rfl (by first | assumption | omega) (by omega) (by omega))
    (ibCons (ibLt (a := (((d : Nat) : Int))) (b := (((d + 1 : Nat) : Int))) rfl rfl (decide_eq_true (by omega)))
    (ibCons (ibGe (a := (((d : Nat) : Int))) (b := (0)) rfl rfl (decide_eq_true (by omega)))
    (ibCons (ibAdd (a := (r)) (b := (1)) (c := (r + 1)) rfl rfl rfl (by first | assumption | omega) (by omega) (by omega))
    (ibCons (ibAdd (a := (c0)) (b := (1)) (c := (c0 + 1)) rfl rfl rfl (by first | assumption | omega) (by omega) (by omega))
    (ibCons (ibAdd (a := (((s : Nat) : Int))) (b := (0)) (c := (((s : Nat) : Int))) rfl rfl rfl (by first | assumption | omega) (by omega) (by omega))
    (ibCons (ibLt (a := (((s : Nat) : Int))) (b := (0)) rfl rfl (decide_eq_false (by omega)))
    (ibCons (ibLt (a := (((s : Nat) : Int))) (b := (((s + 1 : Nat) : Int))) rfl rfl (decide_eq_true (by omega)))
    (ibCons (ibGe (a := (((s : Nat) : Int))) (b := (0)) rfl rfl (decide_eq_true (by omega)))
    (ibCons (ibGe (a := (r + 1)) (b := (5000)) rfl rfl (decide_eq_false (by omega)))
    (ibCons (ibAdd (a := (r + 1)) (b := (1)) (c := (r + 2)) rfl rfl rfl (by first | assumption | omega) (by omega) (by omega))
    (ibCons (ibAdd (a := (c0 + 1)) (b := (1)) (c := (c0 + 2)) rfl rfl rfl (by first | assumption | omega) (by omega) (by omega))
    (ibCons (ibSub (a := (((s + 2 : Nat) : Int))) (b := (1)) (c := (((s + 1 : Nat) : Int))) rfl rfl rfl (by first | assumption | omega) (by omega) (by omega))
    (ibCons (ibSub (a := (((s + 1 : Nat) : Int))) (b := (0)) (c := (((s + 1 : Nat) : Int))) rfl rfl rfl (by first | assumption | omega) (by omega) (by omega))
    (ibCons (ibLt (a := (((s + 1 : Nat) : Int))) (b := (((s + 2 : Nat) : Int))) rfl rfl (decide_eq_true (by omega)))
    (ibCons (ibGe (a := (((s + 1 : Nat) : Int))) (b := (0)) rfl rfl (decide_eq_true (by omega)))
    (ibCons (ibLe (a := (((s + 1 : Nat) : Int))) (b := (((s + 2 : Nat) : Int))) rfl rfl (decide_eq_true (by omega)))
    (ibCons (ibNe (a := (v)) (b := (0)) rfl rfl (decide_eq_true (by omega)))
    (ibCons (ibGe (a := (r + 2)) (b := (5000)) rfl rfl (decide_eq_false (by omega)))
    (ibCons (ibAdd (a := (r + 2)) (b := (1)) (c := (r + 3)) rfl rfl rfl (by first | assumption | omega) (by omega) (by omega))
    (ibCons (ibAdd (a := (c0 + 2)) (b := (1)) (c := (c0 + 3)) rfl rfl rfl (by first | assumption | omega) (by omega) (by omega))
    ibNil)))))))))))))))))))))))
theorem icA0 {v : Int} {r : Int} {wd : Int} {c0 : Int} {c1 : Int} {s : Nat} {d : Nat} (h1 : v = 0) (h2 : v ≤ 200) (h3 : 0 ≤ r) (h4 : r + 20 ≤ 5000) (h5 : 0 ≤ wd) (h6 : wd + 7 ≤ 2048) (h7 : 0 ≤ c0) (h8 : c0 ≤ 100000) (h9 : 0 ≤ c1) (h10 : c1 ≤ 100000) (h11 : s ≤ 10000) (h12 : d ≤ 10000) : ∀ x_ ∈ ([] : List (IntKind × AV × AV)), IcOk' (ivE0 v r wd c0 c1 s d) x_ := icNil
theorem vlA0 {v : Int} {r : Int} {wd : Int} {c0 : Int} {c1 : Int} {s : Nat} {d : Nat} (h1 : v = 0) (h2 : v ≤ 200) (h3 : 0 ≤ r) (h4 : r + 20 ≤ 5000) (h5 : 0 ≤ wd) (h6 : wd + 7 ≤ 2048) (h7 : 0 ≤ c0) (h8 : c0 ≤ 100000) (h9 : 0 ≤ c1) (h10 : c1 ≤ 100000) (h11 : s ≤ 10000) (h12 : d ≤ 10000) : ∀ x_ ∈ ([⟨3, 6, 1, 0, [(pN 20005)]⟩, ⟨2, 6, 7, 4, [z1]⟩, ⟨2, 6, 7, 3, [(oN 5)]⟩, ⟨0, 5, 1, 0, [(oN 0)]⟩, ⟨1, 5, 1, 0, [bF]⟩, ⟨2, 6, 7, 6, [z0]⟩, ⟨2, 6, 7, 5, [z2]⟩, ⟨7, 6, 7, 6, [z1]⟩, ⟨5, 7, 1, 0, [(oN 0)]⟩, ⟨6, 7, 1, 0, [bF]⟩, ⟨24, 6, 7, 6, [z0]⟩, ⟨24, 6, 7, 5, [z2]⟩] : List VL), VlOk (ivE0 v r wd c0 c1 s d) (vvE0 s d) x_ :=
  (allCons (vlP (k := d) (b := d) (c := 3) (o := 0) (L := [(pN 20005)]) rfl rfl (by show (d) * 1 + 0 = d + 0; omega) rfl)
    (allCons (vlP (k := d) (b := 7 * d) (c := 2) (o := 4) (L := [z0, z0, z0, (oN 5), z1, z2, z0]) rfl rfl (by show (d) * 7 + 4 = 7 * d + 4; omega) rfl)
    (allCons (vlP (k := d) (b := 7 * d) (c := 2) (o := 3) (L := [z0, z0, z0, (oN 5), z1, z2, z0]) rfl rfl (by show (d) * 7 + 3 = 7 * d + 3; omega) rfl)
    (allCons (vlP (k := s) (b := s) (c := 0) (o := 0) (L := [(oN 0)]) rfl rfl (by show (s) * 1 + 0 = s + 0; omega) rfl)
    (allCons (vlP (k := s) (b := s) (c := 1) (o := 0) (L := [bF]) rfl rfl (by show (s) * 1 + 0 = s + 0; omega) rfl)
    (allCons (vlP (k := d) (b := 7 * d) (c := 2) (o := 6) (L := [z0, z0, z0, (oN 5), z1, z2, z0]) rfl rfl (by show (d) * 7 + 6 = 7 * d + 6; omega) rfl)
    (allCons (vlP (k := d) (b := 7 * d) (c := 2) (o := 5) (L := [z0, z0, z0, (oN 5), z1, z2, z0]) rfl rfl (by show (d) * 7 + 5 = 7 * d + 5; omega) rfl)
    (allCons (vlP (k := d) (b := 7 * d) (c := 2) (o := 6) (L := [z0, z0, z1, (oN 5), z1, z2, z1]) rfl rfl (by show (d) * 7 + 6 = 7 * d + 6; omega) rfl)
    (allCons (vlP (k := s + 1) (b := s) (c := 0) (o := 1) (L := [(oN 0), (oN 0)]) rfl rfl (by show (s + 1) * 1 + 0 = s + 1; omega) rfl)
    (allCons (vlP (k := s + 1) (b := s) (c := 1) (o := 1) (L := [bF, bF]) rfl rfl (by show (s + 1) * 1 + 0 = s + 1; omega) rfl)
    (allCons (vlP (k := d) (b := 7 * d) (c := 2) (o := 6) (L := [z0, z0, (iN 4), (oN 5), z1, z2, z0]) rfl rfl (by show (d) * 7 + 6 = 7 * d + 6; omega) rfl)
    (allCons (vlP (k := d) (b := 7 * d) (c := 2) (o := 5) (L := [z0, z0, (iN 4), (oN 5), z1, z2, z0]) rfl rfl (by show (d) * 7 + 5 = 7 * d + 5; omega) rfl)
    allNil))))))))))))
theorem vsA0 {v : Int} {r : Int} {wd : Int} {c0 : Int} {c1 : Int} {s : Nat} {d : Nat} (h1 : v = 0) (h2 : v ≤ 200) (h3 : 0 ≤ r) (h4 : r + 20 ≤ 5000) (h5 : 0 ≤ wd) (h6 : wd + 7 ≤ 2048) (h7 : 0 ≤ c0) (h8 : c0 ≤ 100000) (h9 : 0 ≤ c1) (h10 : c1 ≤ 100000) (h11 : s ≤ 10000) (h12 : d ≤ 10000) : ∀ x_ ∈ ([⟨2, 6, 7, 2, [z0], 2⟩, ⟨2, 6, 7, 6, [z1], 4⟩, ⟨4, 6, 7, 2, [z1], 7⟩, ⟨7, 6, 7, 6, [z0], 8⟩, ⟨8, 6, 7, 2, [(iN 4)], 24⟩, ⟨24, 6, 7, 6, [z1], 25⟩] : List VS), VsOk (ivE0 v r wd c0 c1 s d) (vvE0 s d) (vkE0 s d) x_ :=
  (allCons (vsP (k := d) (b := 7 * d) (c := 2) (o := 2) (L := [z0, z0, z0, (oN 5), z1, z2, z0]) (L' := [z0, z0, z0, (oN 5), z1, z2, z0]) rfl rfl rfl rfl rfl (by show (d) * 7 + 2 = 7 * d + 2; omega) rfl (by decide))
    (allCons (vsP (k := d) (b := 7 * d) (c := 2) (o := 6) (L := [z0, z0, z0, (oN 5), z1, z2, z0]) (L' := [z0, z0, z0, (oN 5), z1, z2, z1]) rfl rfl rfl rfl rfl (by show (d) * 7 + 6 = 7 * d + 6; omega) rfl (by decide))
    (allCons (vsP (k := d) (b := 7 * d) (c := 2) (o := 2) (L := [z0, z0, z0, (oN 5), z1, z2, z1]) (L' := [z0, z0, z1, (oN 5), z1, z2, z1]) rfl rfl rfl rfl rfl (by show (d) * 7 + 2 = 7 * d + 2; omega) rfl (by decide))
    (allCons (vsP (k := d) (b := 7 * d) (c := 2) (o := 6) (L := [z0, z0, z1, (oN 5), z1, z2, z1]) (L' := [z0, z0, z1, (oN 5), z1, z2, z0]) rfl rfl rfl rfl rfl (by show (d) * 7 + 6 = 7 * d + 6; omega) rfl (by decide))
    (allCons (vsP (k := d) (b := 7 * d) (c := 2) (o := 2) (L := [z0, z0, z1, (oN 5), z1, z2, z0]) (L' := [z0, z0, (iN 4), (oN 5), z1, z2, z0]) rfl rfl rfl rfl rfl (by show (d) * 7 + 2 = 7 * d + 2; omega) rfl (by decide))
    (allCons (vsP (k := d) (b := 7 * d) (c := 2) (o := 6) (L := [z0, z0, (iN 4), (oN 5), z1, z2, z0]) (L' := [z0, z0, (iN 4), (oN 5), z1, z2, z1]) rfl rfl rfl rfl rfl (by show (d) * 7 + 6 = 7 * d + 6; omega) rfl (by decide))
    allNil))))))
theorem vaA0 {v : Int} {r : Int} {wd : Int} {c0 : Int} {c1 : Int} {s : Nat} {d : Nat} (h1 : v = 0) (h2 : v ≤ 200) (h3 : 0 ≤ r) (h4 : r + 20 ≤ 5000) (h5 : 0 ≤ wd) (h6 : wd + 7 ≤ 2048) (h7 : 0 ≤ c0) (h8 : c0 ≤ 100000) (h9 : 0 ≤ c1) (h10 : c1 ≤ 100000) (h11 : s ≤ 10000) (h12 : d ≤ 10000) : ∀ x_ ∈ ([⟨0, 7, 1, [(oN 0)], 5, 11⟩, ⟨1, 7, 1, [bF], 6, 11⟩, ⟨5, 7, 1, [z1], 26, 11⟩, ⟨6, 7, 1, [bF], 6, 11⟩] : List VA), VaOk (ivE0 v r wd c0 c1 s d) (vvE0 s d) (vkE0 s d) x_ :=
  (allCons (vaP (j := s + 1) (j' := s + 2) (b := s) (c := 0) (o := 1) (L := [(oN 0)]) (L' := [(oN 0), (oN 0)]) rfl rfl rfl rfl rfl (by show (s + 1) * 1 = s + 1; omega) (by show (s + 2) * 1 = s + 1 + 1; omega) rfl (by decide) (by show s + 2 < 1000000; omega))
    (allCons (vaP (j := s + 1) (j' := s + 2) (b := s) (c := 1) (o := 1) (L := [bF]) (L' := [bF, bF]) rfl rfl rfl rfl rfl (by show (s + 1) * 1 = s + 1; omega) (by show (s + 2) * 1 = s + 1 + 1; omega) rfl (by decide) (by show s + 2 < 1000000; omega))
    (allCons (vaP (j := s + 1) (j' := s + 2) (b := s) (c := 0) (o := 1) (L := [(oN 0), (oN 0)]) (L' := [(oN 0), z1]) rfl rfl rfl rfl rfl (by show (s + 1) * 1 = s + 1; omega) (by show (s + 2) * 1 = s + 1 + 1; omega) rfl (by decide) (by show s + 2 < 1000000; omega))
    (allCons (vaP (j := s + 1) (j' := s + 2) (b := s) (c := 1) (o := 1) (L := [bF, bF]) (L' := [bF, bF]) rfl rfl rfl rfl rfl (by show (s + 1) * 1 = s + 1; omega) (by show (s + 2) * 1 = s + 1 + 1; omega) rfl (by decide) (by show s + 2 < 1000000; omega))
    allNil))))
abbrev RA0 {v : Int} {r : Int} {wd : Int} {c0 : Int} {c1 : Int} {s : Nat} {d : Nat} (h1 : v = 0) (h2 : v ≤ 200) (h3 : 0 ≤ r) (h4 : r + 20 ≤ 5000) (h5 : 0 ≤ wd) (h6 : wd + 7 ≤ 2048) (h7 : 0 ≤ c0) (h8 : c0 ≤ 100000) (h9 : 0 ≤ c1) (h10 : c1 ≤ 100000) (h11 : s ≤ 10000) (h12 : d ≤ 10000) : VRows (ivE0 v r wd c0 c1 s d) (vvE0 s d) (vkE0 s d) where
  vvp := vpE0 s d
  ib := [(14, .oi 1, .int .i64 5000, .bool false), (9, .oi 8, .int .i64 0, .bool false), (1, .oi 8, .int .i64 1, .oi 6), (11, .oi 6, .oi 8, .bool true), (14, .oi 6, .int .i64 0, .bool true), (0, .oi 1, .int .i64 1, .oi 9), (0, .oi 3, .int .i64 1, .oi 10), (0, .oi 5, .int .i64 0, .oi 5), (11, .oi 5, .int .i64 0, .bool false), (11, .oi 5, .oi 7, .bool true), (14, .oi 5, .int .i64 0, .bool true), (14, .oi 9, .int .i64 5000, .bool false), (0, .oi 9, .int .i64 1, .oi 12), (0, .oi 10, .int .i64 1, .oi 13), (1, .oi 11, .int .i64 1, .oi 7), (1, .oi 7, .int .i64 0, .oi 7), (11, .oi 7, .oi 11, .bool true), (14, .oi 7, .int .i64 0, .bool true), (12, .oi 7, .oi 11, .bool true), (10, .oi 0, .int .i64 0, .bool false), (14, .oi 12, .int .i64 5000, .bool false), (0, .oi 12, .int .i64 1, .oi 14), (0, .oi 13, .int .i64 1, .oi 15)]
  ibok := ibA0 h1 h2 h3 h4 h5 h6 h7 h8 h9 h10 h11 h12
  ic := []
  icok := icA0 h1 h2 h3 h4 h5 h6 h7 h8 h9 h10 h11 h12
  vl := [⟨3, 6, 1, 0, [(pN 20005)]⟩, ⟨2, 6, 7, 4, [z1]⟩, ⟨2, 6, 7, 3, [(oN 5)]⟩, ⟨0, 5, 1, 0, [(oN 0)]⟩, ⟨1, 5, 1, 0, [bF]⟩, ⟨2, 6, 7, 6, [z0]⟩, ⟨2, 6, 7, 5, [z2]⟩, ⟨7, 6, 7, 6, [z1]⟩, ⟨5, 7, 1, 0, [(oN 0)]⟩, ⟨6, 7, 1, 0, [bF]⟩, ⟨24, 6, 7, 6, [z0]⟩, ⟨24, 6, 7, 5, [z2]⟩]
  vlok := vlA0 h1 h2 h3 h4 h5 h6 h7 h8 h9 h10 h11 h12
  vs := [⟨2, 6, 7, 2, [z0], 2⟩, ⟨2, 6, 7, 6, [z1], 4⟩, ⟨4, 6, 7, 2, [z1], 7⟩, ⟨7, 6, 7, 6, [z0], 8⟩, ⟨8, 6, 7, 2, [(iN 4)], 24⟩, ⟨24, 6, 7, 6, [z1], 25⟩]
  vsok := vsA0 h1 h2 h3 h4 h5 h6 h7 h8 h9 h10 h11 h12
  va := [⟨0, 7, 1, [(oN 0)], 5, 11⟩, ⟨1, 7, 1, [bF], 6, 11⟩, ⟨5, 7, 1, [z1], 26, 11⟩, ⟨6, 7, 1, [bF], 6, 11⟩]
  vaok := vaA0 h1 h2 h3 h4 h5 h6 h7 h8 h9 h10 h11 h12
  vc := []
  vcok := allNil
noncomputable abbrev rl_goA0 : List (Nat × Nat) := [(20000, 20000), (20001, 20126), (20002, 20127), (20003, 20003), (20004, 20004), (20005, 20005)]
noncomputable abbrev bs_goA0 : BS := [(7168, 7168, (.map [(tx17, (pN 14062), 0)] 1)), (7169, 7169, kb0), (7170, 7170, kb1), (9584, 9584, kb2), (10426, 10426, (.map [(tx17, z0, 0)] 1)), (10428, 10428, kb3), (10429, 10429, kb4), (13769, 13769, kb21), (13770, 13770, kb6), (13771, 13771, (.map [(tx17, z0, 0)] 1)), (13772, 13772, kb7), (13773, 13773, kb22), (14062, 14062, kb9), (14064, 14064, kb10), (14502, 14502, kb11), (14826, 14826, kb12), (14870, 14870, kb13), (15194, 15194, kb14), (15200, 15200, kb15), (16578, 16578, kb17), (16583, 16583, kb18), (20000, 20000, kb16), (20001, 20126, (.vec 0)), (20002, 20127, (.vec 1)), (20003, 20003, (.vec 2)), (20004, 20004, (.vec 3)), (20005, 20005, kb31)]
noncomputable abbrev ip_goA0 : IP := [(.oi 11, 0), (.oi 8, 1), (.oi 2, 2), (.oi 15, 3), (.oi 4, 4), (.oi 14, 5), (.oi 0, 6), (.int .i64 1, 7), (.oi 5, 8)]
theorem bq_goA0 : hOf 20010 bs_goA0 = hOf 20010 bsR05 := hOf_congr (by kernel_rfl)
theorem goA0 {v : Int} {r : Int} {wd : Int} {c0 : Int} {c1 : Int} {s : Nat} {d : Nat} (h1 : v = 0) (h2 : v ≤ 200) (h3 : 0 ≤ r) (h4 : r + 20 ≤ 5000) (h5 : 0 ≤ wd) (h6 : wd + 7 ≤ 2048) (h7 : 0 ≤ c0) (h8 : c0 ≤ 100000) (h9 : 0 ≤ c1) (h10 : c1 ≤ 100000) (h11 : s ≤ 10000) (h12 : d ≤ 10000) {rv : Nat → Value} (hb : Base B μ 20000) {Q : Exit → Act → World → Prop} {j_ : Nat} (s_ : SE0 v r wd c0 c1 s d rv B w0 μ a w) (hQ : ∀ a' w', SR05 (v) (1) (r + 3) (wd) (c0 + 3) (c1) (s) (d) rv B w0 μ a' w' → Code.rounds Tryz.prog la Q j_ a' w') : Code.rounds Tryz.prog la Q (j_ + 3) a w := by
  have hip : IpOk ((RA0 (v := v) (r := r) (wd := wd) (c0 := c0) (c1 := c1) (s := s) (d := d) h1 h2 h3 h4 h5 h6 h7 h8 h9 h10 h11 h12).rtab rv) (PR05 (v) (1) (r + 3) (wd) (c0 + 3) (c1) (s) (d) rv) ip_goA0 := (ipCons (ipN (.i64, ((s + 2 : Nat) : Int)) rfl rfl) (ipCons (ipN (.i64, ((d + 1 : Nat) : Int)) rfl rfl) (ipCons (ipN (.i64, wd) rfl rfl) (ipCons (ipN (.i64, c0 + 3) rfl rfl) (ipCons (ipN (.i64, c1) rfl rfl) (ipCons (ipN (.i64, r + 3) rfl rfl) (ipCons (ipN (.i64, v) rfl rfl) (ipCons (ipK rfl) (ipCons (ipN (.i64, ((s : Nat) : Int)) rfl rfl) ipNil)))))))))
  have hvp : VpOk ((RA0 (v := v) (r := r) (wd := wd) (c0 := c0) (c1 := c1) (s := s) (d := d) h1 h2 h3 h4 h5 h6 h7 h8 h9 h10 h11 h12).rtab rv) (PR05 (v) (1) (r + 3) (wd) (c0 + 3) (c1) (s) (d) rv) ⟨20000, 20010, ofPairs rl_goA0, ip_goA0⟩ [(20126, .vec 26, 0), (20127, .vec 6, 1), (20003, .vec 25, 2), (20004, .vec 3, 3)] := (vpCons (vpPre (i := 26) (i' := 0) hip rfl rfl rfl (Nat.add_le_add_left (by decide) _) (by kernel_rfl))
    (vpCons (vpPre (i := 6) (i' := 1) hip rfl rfl rfl (Nat.add_le_add_left (by decide) _) (by kernel_rfl))
    (vpCons (vpPre (i := 25) (i' := 2) hip rfl rfl rfl (Nat.add_le_add_left (by decide) _) (by kernel_rfl))
    (vpCons (vpPre (i := 3) (i' := 3) hip rfl rfl rfl (Nat.add_le_add_left (by decide) _) (by kernel_rfl))
    vpNil))))
  exact stepsTo_sound (T := ((RA0 (v := v) (r := r) (wd := wd) (c0 := c0) (c1 := c1) (s := s) (d := d) h1 h2 h3 h4 h5 h6 h7 h8 h9 h10 h11 h12).rtab rv)) (T' := (PR05 (v) (1) (r + 3) (wd) (c0 + 3) (c1) (s) (d) rv)) (K := Hand.none) (m := 5000) mixed (@HandOk.none ((RA0 (v := v) (r := r) (wd := wd) (c0 := c0) (c1 := c1) (s := s) (d := d) h1 h2 h3 h4 h5 h6 h7 h8 h9 h10 h11 h12).rtab rv) Tryz.prog) (C := ⟨20000, 20010, ofPairs rl_goA0, ip_goA0⟩) (ex := .normal) (rl := rl_goA0) (vp := [(20126, .vec 26, 0), (20127, .vec 6, 1), (20003, .vec 25, 2), (20004, .vec 3, 3)]) (fs := fsR) (bs := bs_goA0)
    hb (by decide) rfl (by kernel_rfl) hip hvp (glNone rfl rfl) (by as_aux_lemma => kernel_rfl) (St.same (VRows.rsame _ _ _) s_) (fun a' w' q => hQ a' w' (by rw [bq_goA0] at q; exact q))
end
end Go.Proofs.YtfkfmjlppllfoaaGreatDoor.mu
