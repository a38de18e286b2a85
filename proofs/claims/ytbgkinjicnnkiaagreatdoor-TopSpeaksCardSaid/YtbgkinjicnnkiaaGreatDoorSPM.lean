/-
  Steps to the next call.
-/
import Derived.Test.YtbgkinjicnnkiaaGreatDoorSNN
import Derived.Test.YtbgkinjicnnkiaaGreatDoorSPS
import Derived.Test.YtbgkinjicnnkiaaGreatDoorXN3
import Derived.Test.YtbgkinjicnnkiaaGreatDoorSPX
import Derived.Test.YtbgkinjicnnkiaaGreatDoorProg
import Derived.KernelRfl
set_option linter.unusedSectionVars false
set_option linter.unusedVariables false
set_option maxRecDepth 1000000
set_option maxHeartbeats 0
namespace Go.Proofs.YtbgkinjicnnkiaaGreatDoor.sp
open Go.X Go.RowKit Go.Proofs.YtbgkinjicnnkiaaGreatDoor
section
variable {B : Kp} {w0 : World} {μ : M} {a : Act} {w : World}
theorem ibB2 {v : Int} {r : Int} {wd : Int} {c0 : Int} {s : Nat} {d : Nat} {o : Nat} (h1 : 0 ≤ v) (h2 : v ≤ 100) (h3 : 0 ≤ r) (h4 : r + 20 ≤ 2000) (h5 : 0 ≤ wd) (h6 : wd + 7 ≤ 2048) (h7 : 0 ≤ c0) (h8 : c0 ≤ 200000) (h11 : s ≤ 10000) (h12 : d ≤ 10000) : ∀ x_ ∈ ([(14, .oi 1, .int .i64 2000, .bool false), (9, .oi 7, .int .i64 0, .bool false), (1, .oi 7, .int .i64 1, .oi 5), (11, .oi 5, .oi 7, .bool true), (14, .oi 5, .int .i64 0, .bool true), (0, .oi 1, .int .i64 1, .oi 8), (0, .oi 3, .int .i64 1, .oi 9), (14, .oi 8, .int .i64 2000, .bool false), (0, .oi 8, .int .i64 1, .oi 11), (0, .oi 9, .int .i64 1, .oi 12), (0, .oi 4, .int .i64 0, .oi 4), (11, .oi 4, .int .i64 0, .bool false), (11, .oi 4, .oi 10, .bool true), (14, .oi 4, .int .i64 0, .bool true), (14, .oi 11, .int .i64 2000, .bool false), (0, .oi 11, .int .i64 1, .oi 14), (0, .oi 12, .int .i64 1, .oi 15), (1, .oi 13, .int .i64 1, .oi 10), (1, .oi 10, .int .i64 1, .oi 6), (11, .oi 6, .oi 13, .bool true), (14, .oi 6, .int .i64 0, .bool true), (1, .oi 10, .int .i64 0, .oi 10), (11, .oi 10, .oi 13, .bool true), (14, .oi 10, .int .i64 0, .bool true), (1, .oi 13, .int .i64 2, .oi 6), (12, .oi 6, .oi 13, .bool true), (1, .int .i64 2048, .oi 2, .oi 16), (13, .int .i64 7, .oi 16, .bool false), (0, .oi 2, .int .i64 7, .oi 17), (9, .oi 18, .int .i64 0, .bool false), (1, .oi 18, .int .i64 1, .oi 7), (11, .oi 7, .oi 18, .bool true), (14, .oi 7, .int .i64 0, .bool true), (0, .oi 6, .int .i64 0, .oi 6), (11, .oi 6, .oi 10, .bool true), (14, .oi 14, .int .i64 2000, .bool false), (0, .oi 14, .int .i64 1, .oi 19), (0, .oi 15, .int .i64 1, .oi 20)] : List BRow), IbOk (ivEm v r wd c0 s d o) x_ := by
  letI := Tab.empty
  exact (ibCons (ibGe (a := (r)) (b := (2000)) rfl rfl (decide_eq_false (by omega)))
    (ibCons (ibEq (a := (((d + 1 : Nat) : Int))) (b := (0)) rfl rfl (decide_eq_false (by omega)))
    (ibCons (ibSub (a := (((d + 1 : Nat) : Int))) (b := (1)) (c := (((d : Nat) : Int))) rfl rfl rfl (by first | assumption | omega) (by omega) (by omega))
    (ibCons (ibLt (a := (((d : Nat) : Int))) (b := (((d + 1 : Nat) : Int))) rfl rfl (decide_eq_true (by omega)))
    (ibCons (ibGe (a := (((d : Nat) : Int))) (b := (0)) rfl rfl (decide_eq_true (by omega)))
    (ibCons (ibAdd (a := (r)) (b := (1)) (c := (r + 1)) rfl rfl rfl (by first | assumption | omega) (by omega) (by omega))
    (ibCons (ibAdd (a := (c0)) (b := (1)) (c := (c0 + 1)) rfl rfl rfl (by first | assumption | omega) (by omega) (by omega))
    (ibCons (ibGe (a := (r + 1)) (b := (2000)) rfl rfl (decide_eq_false (by omega)))
    (ibCons (ibAdd (a := (r + 1)) (b := (1)) (c := (r + 2)) rfl rfl rfl (by first | assumption | omega) (by omega) (by omega))
    (ibCons (ibAdd (a := (c0 + 1)) (b := (1)) (c := (c0 + 2)) rfl rfl rfl (by first | assumption | omega) (by omega) (by omega))
    (ibCons (ibAdd (a := (((s : Nat) : Int))) (b := (0)) (c := (((s : Nat) : Int))) rfl rfl rfl (by first | assumption | omega) (by omega) (by omega))
    (ibCons (ibLt (a := (((s : Nat) : Int))) (b := (0)) rfl rfl (decide_eq_false (by omega)))
    (ibCons (ibLt (a := (((s : Nat) : Int))) (b := (((s + 2 : Nat) : Int))) rfl rfl (decide_eq_true (by omega)))
    (ibCons (ibGe (a := (((s : Nat) : Int))) (b := (0)) rfl rfl (decide_eq_true (by omega)))
    (ibCons (ibGe (a := (r + 2)) (b := (2000)) rfl rfl (decide_eq_false (by omega)))
    (ibCons (ibAdd (a := (r + 2)) (b := (1)) (c := (r + 3)) rfl rfl rfl (by first | assumption | omega) (by omega) (by omega))
    (ibCons (ibAdd (a := (c0 + 2)) (b := (1)) (c := (c0 + 3)) rfl rfl rfl (by first | assumption | omega) (by omega) (by omega))
    (ibCons (ibSub (a := (((s + 3 : Nat) : Int))) (b := (1)) (c := (((s + 2 : Nat) : Int))) rfl rfl rfl (by first | assumption | omega) (by omega) (by omega))
    (ibCons (ibSub (a := (((s + 2 : Nat) : Int))) (b := (1)) (c := (((s + 1 : Nat) : Int))) rfl rfl rfl (by first | assumption | omega) (by omega) (by omega))
    (ibCons (ibLt (a := (((s + 1 : Nat) : Int))) (b := (((s + 3 : Nat) : Int))) rfl rfl (decide_eq_true (by omega)))
    (ibCons (ibGe (a := (((s + 1 : Nat) : Int))) (b := (0)) rfl rfl (decide_eq_true (by omega)))
    (ibCons (ibSub (a := (((s + 2 : Nat) : Int))) (b := (0)) (c := (((s + 2 : Nat) : Int))) rfl rfl rfl (by first | assumption | omega) (by omega) (by omega))
    (ibCons (ibLt (a := (((s + 2 : Nat) : Int))) (b := (((s + 3 : Nat) : Int))) rfl rfl (decide_eq_true (by omega)))
    (ibCons (ibGe (a := (((s + 2 : Nat) : Int))) (b := (0)) rfl rfl (decide_eq_true (by omega)))
    (ibCons (ibSub (a := (((s + 3 : Nat) : Int))) (b := (2)) (c := (((s + 1 : Nat) : Int))) rfl rfl rfl (by first | assumption | omega) (by omega) (by omega))
    (ibCons (ibLe (a := (((s + 1 : Nat) : Int))) (b := (((s + 3 : Nat) : Int))) rfl rfl (decide_eq_true (by omega)))
    (ibCons (ibSub (a := (2048)) (b := (wd)) (c := (2048 - wd)) rfl rfl rfl (by first | assumption | omega) (by omega) (by omega))
    (ibCons (ibGt (a := (7)) (b := (2048 - wd)) rfl rfl (decide_eq_false (by omega)))
    (ibCons (ibAdd (a := (wd)) (b := (7)) (c := (wd + 7)) rfl rfl rfl (by first | assumption | omega) (by omega) (by omega))
    (ibCons (ibEq (a := (((d + 2 : Nat) : Int))) (b := (0)) rfl rfl (decide_eq_false (by omega)))
    (ibCons (ibSub (a := (((d + 2 : Nat) : Int))) (b := (1)) (c := (((d + 1 : Nat) : Int))) rfl rfl rfl (by first | assumption | omega) (by omega) (by omega))
    (ibCons (ibLt (a := (((d + 1 : Nat) : Int))) (b := (((d + 2 : Nat) : Int))) rfl rfl (decide_eq_true (by omega)))
    (ibCons (ibGe (a := (((d + 1 : Nat) : Int))) (b := (0)) rfl rfl (decide_eq_true (by omega)))
    (ibCons (ibAdd (a := (((s + 1 : Nat) : Int))) (b := (0)) (c := (((s + 1 : Nat) : Int))) rfl rfl rfl (by first | assumption | omega) (by omega) (by omega))
    (ibCons (ibLt (a := (((s + 1 : Nat) : Int))) (b := (((s + 2 : Nat) : Int))) rfl rfl (decide_eq_true (by omega)))
    (ibCons (ibGe (a := (r + 3)) (b := (2000)) rfl rfl (decide_eq_false (by omega)))
    (ibCons (ibAdd (a := (r + 3)) (b := (1)) (c := (r + 4)) rfl rfl rfl (by first | assumption | omega) (by omega) (by omega))
    (ibCons (ibAdd (a := (c0 + 3)) (b := (1)) (c := (c0 + 4)) rfl rfl rfl (by first | assumption | omega) (by omega) (by omega))
    ibNil))))))))))))))))))))))))))))))))))))))
theorem icB2 {v : Int} {r : Int} {wd : Int} {c0 : Int} {s : Nat} {d : Nat} {o : Nat} (h1 : 0 ≤ v) (h2 : v ≤ 100) (h3 : 0 ≤ r) (h4 : r + 20 ≤ 2000) (h5 : 0 ≤ wd) (h6 : wd + 7 ≤ 2048) (h7 : 0 ≤ c0) (h8 : c0 ≤ 200000) (h11 : s ≤ 10000) (h12 : d ≤ 10000) : ∀ x_ ∈ ([] : List (IntKind × AV × AV)), IcOk' (ivEm v r wd c0 s d o) x_ := icNil
theorem vlB2 {v : Int} {r : Int} {wd : Int} {c0 : Int} {s : Nat} {d : Nat} {o : Nat} (h1 : 0 ≤ v) (h2 : v ≤ 100) (h3 : 0 ≤ r) (h4 : r + 20 ≤ 2000) (h5 : 0 ≤ wd) (h6 : wd + 7 ≤ 2048) (h7 : 0 ≤ c0) (h8 : c0 ≤ 200000) (h11 : s ≤ 10000) (h12 : d ≤ 10000) : ∀ x_ ∈ ([⟨3, 5, 1, 0, [(pN 30005)]⟩, ⟨4, 5, 7, 6, [z0]⟩, ⟨4, 5, 7, 5, [z2]⟩, ⟨8, 5, 7, 4, [z1]⟩, ⟨8, 5, 7, 3, [(oN 4)]⟩, ⟨6, 4, 1, 0, [(iN 9)]⟩, ⟨7, 4, 1, 0, [bT]⟩, ⟨8, 5, 7, 6, [z1]⟩, ⟨8, 5, 7, 5, [z2]⟩, ⟨12, 5, 7, 6, [z2]⟩, ⟨10, 6, 1, 0, [z1]⟩, ⟨11, 6, 1, 0, [bT]⟩, ⟨10, 10, 1, 0, [(iN 9)]⟩, ⟨11, 10, 1, 0, [bT]⟩, ⟨14, 7, 7, 4, [z1]⟩, ⟨14, 7, 7, 3, [(oN 6)]⟩, ⟨17, 7, 1, 0, [(pN 30512)]⟩, ⟨14, 7, 7, 6, [z0]⟩, ⟨14, 7, 7, 5, [z2]⟩] : List VL), VlOk (ivEm v r wd c0 s d o) (vvEm s d o) x_ :=
  (allCons (vlP (k := d) (b := d) (c := 3) (o := 0) (L := [(pN 30005)]) rfl rfl (by show (d) * 1 + 0 = d + 0; omega) rfl)
    (allCons (vlP (k := d) (b := 7 * d) (c := 2) (o := 6) (L := [z1, z1, (iN 14), (oN 4), z1, z2, z0]) rfl rfl (by show (d) * 7 + 6 = 7 * d + 6; omega) rfl)
    (allCons (vlP (k := d) (b := 7 * d) (c := 2) (o := 5) (L := [z1, z1, (iN 14), (oN 4), z1, z2, z0]) rfl rfl (by show (d) * 7 + 5 = 7 * d + 5; omega) rfl)
    (allCons (vlP (k := d) (b := 7 * d) (c := 2) (o := 4) (L := [z1, z1, (iN 17), (oN 4), z1, z2, z1]) rfl rfl (by show (d) * 7 + 4 = 7 * d + 4; omega) rfl)
    (allCons (vlP (k := d) (b := 7 * d) (c := 2) (o := 3) (L := [z1, z1, (iN 17), (oN 4), z1, z2, z1]) rfl rfl (by show (d) * 7 + 3 = 7 * d + 3; omega) rfl)
    (allCons (vlP (k := s) (b := s) (c := 0) (o := 0) (L := [(iN 9), z1]) rfl rfl (by show (s) * 1 + 0 = s + 0; omega) rfl)
    (allCons (vlP (k := s) (b := s) (c := 1) (o := 0) (L := [bT, bT]) rfl rfl (by show (s) * 1 + 0 = s + 0; omega) rfl)
    (allCons (vlP (k := d) (b := 7 * d) (c := 2) (o := 6) (L := [z1, z1, (iN 17), (oN 4), z1, z2, z1]) rfl rfl (by show (d) * 7 + 6 = 7 * d + 6; omega) rfl)
    (allCons (vlP (k := d) (b := 7 * d) (c := 2) (o := 5) (L := [z1, z1, (iN 17), (oN 4), z1, z2, z1]) rfl rfl (by show (d) * 7 + 5 = 7 * d + 5; omega) rfl)
    (allCons (vlP (k := d) (b := 7 * d) (c := 2) (o := 6) (L := [z1, z1, (iN 18), (oN 4), z1, z2, z2]) rfl rfl (by show (d) * 7 + 6 = 7 * d + 6; omega) rfl)
    (allCons (vlP (k := s + 1) (b := s) (c := 0) (o := 1) (L := [(iN 9), z1, (iN 9)]) rfl rfl (by show (s + 1) * 1 + 0 = s + 1; omega) rfl)
    (allCons (vlP (k := s + 1) (b := s) (c := 1) (o := 1) (L := [bT, bT, bT]) rfl rfl (by show (s + 1) * 1 + 0 = s + 1; omega) rfl)
    (allCons (vlP (k := s + 2) (b := s) (c := 0) (o := 2) (L := [(iN 9), z1, (iN 9)]) rfl rfl (by show (s + 2) * 1 + 0 = s + 2; omega) rfl)
    (allCons (vlP (k := s + 2) (b := s) (c := 1) (o := 2) (L := [bT, bT, bT]) rfl rfl (by show (s + 2) * 1 + 0 = s + 2; omega) rfl)
    (allCons (vlP (k := d + 1) (b := 7 * d) (c := 2) (o := 11) (L := [z1, z1, (iN 18), (oN 4), z1, z2, z0, z1, z1, z0, (oN 6), z1, z2, z0]) rfl rfl (by show (d + 1) * 7 + 4 = 7 * d + 11; omega) rfl)
    (allCons (vlP (k := d + 1) (b := 7 * d) (c := 2) (o := 10) (L := [z1, z1, (iN 18), (oN 4), z1, z2, z0, z1, z1, z0, (oN 6), z1, z2, z0]) rfl rfl (by show (d + 1) * 7 + 3 = 7 * d + 10; omega) rfl)
    (allCons (vlP (k := d + 1) (b := d) (c := 3) (o := 1) (L := [(pN 30005), (pN 30512)]) rfl rfl (by show (d + 1) * 1 + 0 = d + 1; omega) rfl)
    (allCons (vlP (k := d + 1) (b := 7 * d) (c := 2) (o := 13) (L := [z1, z1, (iN 18), (oN 4), z1, z2, z0, z1, z1, z0, (oN 6), z1, z2, z0]) rfl rfl (by show (d + 1) * 7 + 6 = 7 * d + 13; omega) rfl)
    (allCons (vlP (k := d + 1) (b := 7 * d) (c := 2) (o := 12) (L := [z1, z1, (iN 18), (oN 4), z1, z2, z0, z1, z1, z0, (oN 6), z1, z2, z0]) rfl rfl (by show (d + 1) * 7 + 5 = 7 * d + 12; omega) rfl)
    allNil)))))))))))))))))))
theorem vsB2 {v : Int} {r : Int} {wd : Int} {c0 : Int} {s : Nat} {d : Nat} {o : Nat} (h1 : 0 ≤ v) (h2 : v ≤ 100) (h3 : 0 ≤ r) (h4 : r + 20 ≤ 2000) (h5 : 0 ≤ wd) (h6 : wd + 7 ≤ 2048) (h7 : 0 ≤ c0) (h8 : c0 ≤ 200000) (h11 : s ≤ 10000) (h12 : d ≤ 10000) : ∀ x_ ∈ ([⟨2, 5, 7, 2, [(iN 14)], 4⟩, ⟨4, 5, 7, 6, [z1], 5⟩, ⟨5, 5, 7, 2, [(iN 17)], 8⟩, ⟨8, 5, 7, 6, [z2], 9⟩, ⟨9, 5, 7, 2, [(iN 18)], 12⟩, ⟨12, 5, 7, 6, [z0], 13⟩, ⟨15, 6, 1, 0, [(iN 9)], 18⟩, ⟨16, 6, 1, 0, [bT], 7⟩, ⟨14, 7, 7, 2, [z0], 14⟩, ⟨14, 7, 7, 6, [z1], 19⟩] : List VS), VsOk (ivEm v r wd c0 s d o) (vvEm s d o) (vkEm s d o) x_ :=
  (allCons (vsP (k := d) (b := 7 * d) (c := 2) (o := 2) (L := [z1, z1, (iN 11), (oN 4), z1, z2, z0]) (L' := [z1, z1, (iN 14), (oN 4), z1, z2, z0]) rfl rfl rfl rfl rfl (by show (d) * 7 + 2 = 7 * d + 2; omega) rfl (by decide))
    (allCons (vsP (k := d) (b := 7 * d) (c := 2) (o := 6) (L := [z1, z1, (iN 14), (oN 4), z1, z2, z0]) (L' := [z1, z1, (iN 14), (oN 4), z1, z2, z1]) rfl rfl rfl rfl rfl (by show (d) * 7 + 6 = 7 * d + 6; omega) rfl (by decide))
    (allCons (vsP (k := d) (b := 7 * d) (c := 2) (o := 2) (L := [z1, z1, (iN 14), (oN 4), z1, z2, z1]) (L' := [z1, z1, (iN 17), (oN 4), z1, z2, z1]) rfl rfl rfl rfl rfl (by show (d) * 7 + 2 = 7 * d + 2; omega) rfl (by decide))
    (allCons (vsP (k := d) (b := 7 * d) (c := 2) (o := 6) (L := [z1, z1, (iN 17), (oN 4), z1, z2, z1]) (L' := [z1, z1, (iN 17), (oN 4), z1, z2, z2]) rfl rfl rfl rfl rfl (by show (d) * 7 + 6 = 7 * d + 6; omega) rfl (by decide))
    (allCons (vsP (k := d) (b := 7 * d) (c := 2) (o := 2) (L := [z1, z1, (iN 17), (oN 4), z1, z2, z2]) (L' := [z1, z1, (iN 18), (oN 4), z1, z2, z2]) rfl rfl rfl rfl rfl (by show (d) * 7 + 2 = 7 * d + 2; omega) rfl (by decide))
    (allCons (vsP (k := d) (b := 7 * d) (c := 2) (o := 6) (L := [z1, z1, (iN 18), (oN 4), z1, z2, z2]) (L' := [z1, z1, (iN 18), (oN 4), z1, z2, z0]) rfl rfl rfl rfl rfl (by show (d) * 7 + 6 = 7 * d + 6; omega) rfl (by decide))
    (allCons (vsP (k := s + 1) (b := s) (c := 0) (o := 1) (L := [(iN 9), z0]) (L' := [(iN 9), (iN 9)]) rfl rfl rfl rfl rfl (by show (s + 1) * 1 + 0 = s + 1; omega) rfl (by decide))
    (allCons (vsP (k := s + 1) (b := s) (c := 1) (o := 1) (L := [bT, bF]) (L' := [bT, bT]) rfl rfl rfl rfl rfl (by show (s + 1) * 1 + 0 = s + 1; omega) rfl (by decide))
    (allCons (vsP (k := d + 1) (b := 7 * d) (c := 2) (o := 9) (L := [z1, z1, (iN 18), (oN 4), z1, z2, z0, z1, z1, z0, (oN 6), z1, z2, z0]) (L' := [z1, z1, (iN 18), (oN 4), z1, z2, z0, z1, z1, z0, (oN 6), z1, z2, z0]) rfl rfl rfl rfl rfl (by show (d + 1) * 7 + 2 = 7 * d + 9; omega) rfl (by decide))
    (allCons (vsP (k := d + 1) (b := 7 * d) (c := 2) (o := 13) (L := [z1, z1, (iN 18), (oN 4), z1, z2, z0, z1, z1, z0, (oN 6), z1, z2, z0]) (L' := [z1, z1, (iN 18), (oN 4), z1, z2, z0, z1, z1, z0, (oN 6), z1, z2, z1]) rfl rfl rfl rfl rfl (by show (d + 1) * 7 + 6 = 7 * d + 13; omega) rfl (by decide))
    allNil))))))))))
theorem vaB2 {v : Int} {r : Int} {wd : Int} {c0 : Int} {s : Nat} {d : Nat} {o : Nat} (h1 : 0 ≤ v) (h2 : v ≤ 100) (h3 : 0 ≤ r) (h4 : r + 20 ≤ 2000) (h5 : 0 ≤ wd) (h6 : wd + 7 ≤ 2048) (h7 : 0 ≤ c0) (h8 : c0 ≤ 200000) (h11 : s ≤ 10000) (h12 : d ≤ 10000) : ∀ x_ ∈ ([⟨0, 6, 1, [z1], 6, 10⟩, ⟨1, 6, 1, [bT], 7, 10⟩, ⟨6, 10, 1, [(iN 9)], 10, 13⟩, ⟨7, 10, 1, [bT], 11, 13⟩, ⟨13, 7, 7, [z1, z1, z0, (oN 6), z1, z2, z0], 14, 18⟩, ⟨10, 6, 1, [z0], 15, 10⟩, ⟨11, 6, 1, [bF], 16, 10⟩, ⟨3, 7, 1, [(pN 30512)], 17, 18⟩, ⟨18, 10, 1, [(oN 0)], 20, 13⟩, ⟨7, 10, 1, [bF], 21, 13⟩] : List VA), VaOk (ivEm v r wd c0 s d o) (vvEm s d o) (vkEm s d o) x_ :=
  (allCons (vaP (j := s + 1) (j' := s + 2) (b := s) (c := 0) (o := 1) (L := [(iN 9)]) (L' := [(iN 9), z1]) rfl rfl rfl rfl rfl (by show (s + 1) * 1 = s + 1; omega) (by show (s + 2) * 1 = s + 1 + 1; omega) rfl (by decide) (by show s + 2 < 1000000; omega))
    (allCons (vaP (j := s + 1) (j' := s + 2) (b := s) (c := 1) (o := 1) (L := [bT]) (L' := [bT, bT]) rfl rfl rfl rfl rfl (by show (s + 1) * 1 = s + 1; omega) (by show (s + 2) * 1 = s + 1 + 1; omega) rfl (by decide) (by show s + 2 < 1000000; omega))
    (allCons (vaP (j := s + 2) (j' := s + 3) (b := s) (c := 0) (o := 2) (L := [(iN 9), z1]) (L' := [(iN 9), z1, (iN 9)]) rfl rfl rfl rfl rfl (by show (s + 2) * 1 = s + 2; omega) (by show (s + 3) * 1 = s + 2 + 1; omega) rfl (by decide) (by show s + 3 < 1000000; omega))
    (allCons (vaP (j := s + 2) (j' := s + 3) (b := s) (c := 1) (o := 2) (L := [bT, bT]) (L' := [bT, bT, bT]) rfl rfl rfl rfl rfl (by show (s + 2) * 1 = s + 2; omega) (by show (s + 3) * 1 = s + 2 + 1; omega) rfl (by decide) (by show s + 3 < 1000000; omega))
    (allCons (vaP (j := d + 1) (j' := d + 2) (b := 7 * d) (c := 2) (o := 7) (L := [z1, z1, (iN 18), (oN 4), z1, z2, z0]) (L' := [z1, z1, (iN 18), (oN 4), z1, z2, z0, z1, z1, z0, (oN 6), z1, z2, z0]) rfl rfl rfl rfl rfl (by show (d + 1) * 7 = 7 * d + 7; omega) (by show (d + 2) * 7 = 7 * d + 7 + 7; omega) rfl (by decide) (by show d + 2 < 1000000; omega))
    (allCons (vaP (j := s + 1) (j' := s + 2) (b := s) (c := 0) (o := 1) (L := [(iN 9), z1, (iN 9)]) (L' := [(iN 9), z0]) rfl rfl rfl rfl rfl (by show (s + 1) * 1 = s + 1; omega) (by show (s + 2) * 1 = s + 1 + 1; omega) rfl (by decide) (by show s + 2 < 1000000; omega))
    (allCons (vaP (j := s + 1) (j' := s + 2) (b := s) (c := 1) (o := 1) (L := [bT, bT, bT]) (L' := [bT, bF]) rfl rfl rfl rfl rfl (by show (s + 1) * 1 = s + 1; omega) (by show (s + 2) * 1 = s + 1 + 1; omega) rfl (by decide) (by show s + 2 < 1000000; omega))
    (allCons (vaP (j := d + 1) (j' := d + 2) (b := d) (c := 3) (o := 1) (L := [(pN 30005)]) (L' := [(pN 30005), (pN 30512)]) rfl rfl rfl rfl rfl (by show (d + 1) * 1 = d + 1; omega) (by show (d + 2) * 1 = d + 1 + 1; omega) rfl (by decide) (by show d + 2 < 1000000; omega))
    (allCons (vaP (j := s + 2) (j' := s + 3) (b := s) (c := 0) (o := 2) (L := [(iN 9), (iN 9)]) (L' := [(iN 9), (iN 9), (oN 0)]) rfl rfl rfl rfl rfl (by show (s + 2) * 1 = s + 2; omega) (by show (s + 3) * 1 = s + 2 + 1; omega) rfl (by decide) (by show s + 3 < 1000000; omega))
    (allCons (vaP (j := s + 2) (j' := s + 3) (b := s) (c := 1) (o := 2) (L := [bT, bT]) (L' := [bT, bT, bF]) rfl rfl rfl rfl rfl (by show (s + 2) * 1 = s + 2; omega) (by show (s + 3) * 1 = s + 2 + 1; omega) rfl (by decide) (by show s + 3 < 1000000; omega))
    allNil))))))))))
abbrev RB2 {v : Int} {r : Int} {wd : Int} {c0 : Int} {s : Nat} {d : Nat} {o : Nat} (h1 : 0 ≤ v) (h2 : v ≤ 100) (h3 : 0 ≤ r) (h4 : r + 20 ≤ 2000) (h5 : 0 ≤ wd) (h6 : wd + 7 ≤ 2048) (h7 : 0 ≤ c0) (h8 : c0 ≤ 200000) (h11 : s ≤ 10000) (h12 : d ≤ 10000) : VRows (ivEm v r wd c0 s d o) (vvEm s d o) (vkEm s d o) where
  vvp := vpEm s d o
  ib := [(14, .oi 1, .int .i64 2000, .bool false), (9, .oi 7, .int .i64 0, .bool false), (1, .oi 7, .int .i64 1, .oi 5), (11, .oi 5, .oi 7, .bool true), (14, .oi 5, .int .i64 0, .bool true), (0, .oi 1, .int .i64 1, .oi 8), (0, .oi 3, .int .i64 1, .oi 9), (14, .oi 8, .int .i64 2000, .bool false), (0, .oi 8, .int .i64 1, .oi 11), (0, .oi 9, .int .i64 1, .oi 12), (0, .oi 4, .int .i64 0, .oi 4), (11, .oi 4, .int .i64 0, .bool false), (11, .oi 4, .oi 10, .bool true), (14, .oi 4, .int .i64 0, .bool true), (14, .oi 11, .int .i64 2000, .bool false), (0, .oi 11, .int .i64 1, .oi 14), (0, .oi 12, .int .i64 1, .oi 15), (1, .oi 13, .int .i64 1, .oi 10), (1, .oi 10, .int .i64 1, .oi 6), (11, .oi 6, .oi 13, .bool true), (14, .oi 6, .int .i64 0, .bool true), (1, .oi 10, .int .i64 0, .oi 10), (11, .oi 10, .oi 13, .bool true), (14, .oi 10, .int .i64 0, .bool true), (1, .oi 13, .int .i64 2, .oi 6), (12, .oi 6, .oi 13, .bool true), (1, .int .i64 2048, .oi 2, .oi 16), (13, .int .i64 7, .oi 16, .bool false), (0, .oi 2, .int .i64 7, .oi 17), (9, .oi 18, .int .i64 0, .bool false), (1, .oi 18, .int .i64 1, .oi 7), (11, .oi 7, .oi 18, .bool true), (14, .oi 7, .int .i64 0, .bool true), (0, .oi 6, .int .i64 0, .oi 6), (11, .oi 6, .oi 10, .bool true), (14, .oi 14, .int .i64 2000, .bool false), (0, .oi 14, .int .i64 1, .oi 19), (0, .oi 15, .int .i64 1, .oi 20)]
  ibok := ibB2 h1 h2 h3 h4 h5 h6 h7 h8 h11 h12
  ic := []
  icok := icB2 h1 h2 h3 h4 h5 h6 h7 h8 h11 h12
  vl := [⟨3, 5, 1, 0, [(pN 30005)]⟩, ⟨4, 5, 7, 6, [z0]⟩, ⟨4, 5, 7, 5, [z2]⟩, ⟨8, 5, 7, 4, [z1]⟩, ⟨8, 5, 7, 3, [(oN 4)]⟩, ⟨6, 4, 1, 0, [(iN 9)]⟩, ⟨7, 4, 1, 0, [bT]⟩, ⟨8, 5, 7, 6, [z1]⟩, ⟨8, 5, 7, 5, [z2]⟩, ⟨12, 5, 7, 6, [z2]⟩, ⟨10, 6, 1, 0, [z1]⟩, ⟨11, 6, 1, 0, [bT]⟩, ⟨10, 10, 1, 0, [(iN 9)]⟩, ⟨11, 10, 1, 0, [bT]⟩, ⟨14, 7, 7, 4, [z1]⟩, ⟨14, 7, 7, 3, [(oN 6)]⟩, ⟨17, 7, 1, 0, [(pN 30512)]⟩, ⟨14, 7, 7, 6, [z0]⟩, ⟨14, 7, 7, 5, [z2]⟩]
  vlok := vlB2 h1 h2 h3 h4 h5 h6 h7 h8 h11 h12
  vs := [⟨2, 5, 7, 2, [(iN 14)], 4⟩, ⟨4, 5, 7, 6, [z1], 5⟩, ⟨5, 5, 7, 2, [(iN 17)], 8⟩, ⟨8, 5, 7, 6, [z2], 9⟩, ⟨9, 5, 7, 2, [(iN 18)], 12⟩, ⟨12, 5, 7, 6, [z0], 13⟩, ⟨15, 6, 1, 0, [(iN 9)], 18⟩, ⟨16, 6, 1, 0, [bT], 7⟩, ⟨14, 7, 7, 2, [z0], 14⟩, ⟨14, 7, 7, 6, [z1], 19⟩]
  vsok := vsB2 h1 h2 h3 h4 h5 h6 h7 h8 h11 h12
  va := [⟨0, 6, 1, [z1], 6, 10⟩, ⟨1, 6, 1, [bT], 7, 10⟩, ⟨6, 10, 1, [(iN 9)], 10, 13⟩, ⟨7, 10, 1, [bT], 11, 13⟩, ⟨13, 7, 7, [z1, z1, z0, (oN 6), z1, z2, z0], 14, 18⟩, ⟨10, 6, 1, [z0], 15, 10⟩, ⟨11, 6, 1, [bF], 16, 10⟩, ⟨3, 7, 1, [(pN 30512)], 17, 18⟩, ⟨18, 10, 1, [(oN 0)], 20, 13⟩, ⟨7, 10, 1, [bF], 21, 13⟩]
  vaok := vaB2 h1 h2 h3 h4 h5 h6 h7 h8 h11 h12
  vc := []
  vcok := allNil
noncomputable abbrev rl_goB2 : List (Nat × Nat) := [(30000, 30000), (30001, 30575), (30002, 30576), (30003, 30509), (30004, 30514), (30005, 30512), (30006, 30005)]
noncomputable abbrev bs_goB2 : BS := [(7716, 7716, kb0), (7717, 7717, kb1), (7718, 7718, kb2), (7914, 7914, kb3), (7967, 7967, kb4), (10132, 10132, kb5), (10144, 10144, kb6), (10463, 10463, kb7), (10672, 10672, kb8), (10678, 10678, kb9), (10970, 10970, kb10), (10971, 10971, kb11), (10972, 10972, (.map [] 0)), (10973, 10973, kb12), (10977, 10977, kb13), (11691, 11691, kb14), (13691, 13691, (.cells 1 false [] (T.ofList 0 .leaf [bT]))), (13693, 13693, kb15), (14317, 14317, kb40), (14318, 14318, kb17), (14319, 14319, kb18), (14320, 14320, kb19), (14321, 14321, kb41), (14616, 14616, kb21), (14618, 14618, kb22), (15654, 15654, kb23), (15877, 15877, kb24), (16327, 16327, kb25), (16333, 16333, kb26), (16430, 16430, kb27), (16432, 16432, kb28), (17419, 17419, kb29), (17785, 17785, kb30), (18694, 18694, kb32), (18699, 18699, kb33), (18799, 18799, kb34), (20119, 20119, (.cells 1 false [z0] (T.ofList 0 .leaf [(oN 5)]))), (20208, 20208, kb33), (20314, 20314, kb36), (20315, 20315, kb37), (20317, 20317, kb38), (30000, 30000, kb31), (30001, 30575, (.vec 0)), (30002, 30576, (.vec 1)), (30003, 30509, (.vec 2)), (30004, 30514, (.vec 3)), (30005, 30512, kb39), (30006, 30005, kb42)]
noncomputable abbrev ip_goB2 : IP := [(.oi 13, 0), (.oi 18, 1), (.oi 17, 2), (.oi 20, 3), (.oi 19, 4), (.oi 0, 5), (.oi 4, 6), (.oi 6, 7)]
theorem bq_goB2 : hOf 30040 bs_goB2 = hOf 30040 bsE2 := hOf_congr (by kernel_rfl)
theorem goB2 {v : Int} {r : Int} {wd : Int} {c0 : Int} {s : Nat} {d : Nat} {o : Nat} (h1 : 0 ≤ v) (h2 : v ≤ 100) (h3 : 0 ≤ r) (h4 : r + 20 ≤ 2000) (h5 : 0 ≤ wd) (h6 : wd + 7 ≤ 2048) (h7 : 0 ≤ c0) (h8 : c0 ≤ 200000) (h11 : s ≤ 10000) (h12 : d ≤ 10000) {rv : Nat → Value} (hb : Base B μ 30000) {Q : Exit → Act → World → Prop} {j_ : Nat} (s_ : SEm v r wd c0 s d o rv B w0 μ a w) (hQ : ∀ a' w', SE2 (v) (r) (wd) (c0) (s) (d) (o) rv B w0 μ a' w' → Code.rounds Tryz.prog la Q j_ a' w') : Code.rounds Tryz.prog la Q (j_ + 4) a w := by
  have hip : IpOk ((RB2 (v := v) (r := r) (wd := wd) (c0 := c0) (s := s) (d := d) (o := o) h1 h2 h3 h4 h5 h6 h7 h8 h11 h12).rtab rv) (PE2 (v) (r) (wd) (c0) (s) (d) (o) rv) ip_goB2 := (ipCons (ipN (.i64, ((s + 3 : Nat) : Int)) rfl rfl) (ipCons (ipN (.i64, ((d + 2 : Nat) : Int)) rfl rfl) (ipCons (ipN (.i64, wd + 7) rfl rfl) (ipCons (ipN (.i64, c0 + 4) rfl rfl) (ipCons (ipN (.i64, r + 4) rfl rfl) (ipCons (ipN (.i64, v) rfl rfl) (ipCons (ipN (.i64, ((s : Nat) : Int)) rfl rfl) (ipCons (ipN (.i64, ((s + 1 : Nat) : Int)) rfl rfl) ipNil))))))))
  have hvp : VpOk ((RB2 (v := v) (r := r) (wd := wd) (c0 := c0) (s := s) (d := d) (o := o) h1 h2 h3 h4 h5 h6 h7 h8 h11 h12).rtab rv) (PE2 (v) (r) (wd) (c0) (s) (d) (o) rv) ⟨30000, 30040, ofPairs rl_goB2, ip_goB2⟩ [(30575, .vec 20, 0), (30576, .vec 21, 1), (30509, .vec 19, 2), (30514, .vec 17, 3)] := (vpCons (vpPre (i := 20) (i' := 0) hip rfl rfl rfl (Nat.add_le_add_left (by decide) _) (by kernel_rfl))
    (vpCons (vpPre (i := 21) (i' := 1) hip rfl rfl rfl (Nat.add_le_add_left (by decide) _) (by kernel_rfl))
    (vpCons (vpPre (i := 19) (i' := 2) hip rfl rfl rfl (Nat.add_le_add_left (by decide) _) (by kernel_rfl))
    (vpCons (vpPre (i := 17) (i' := 3) hip rfl rfl rfl (Nat.add_le_add_left (by decide) _) (by kernel_rfl))
    vpNil))))
  exact stepsTo_sound (T := ((RB2 (v := v) (r := r) (wd := wd) (c0 := c0) (s := s) (d := d) (o := o) h1 h2 h3 h4 h5 h6 h7 h8 h11 h12).rtab rv)) (T' := (PE2 (v) (r) (wd) (c0) (s) (d) (o) rv)) (K := Hand.none) (m := 5000) mixed (@HandOk.none ((RB2 (v := v) (r := r) (wd := wd) (c0 := c0) (s := s) (d := d) (o := o) h1 h2 h3 h4 h5 h6 h7 h8 h11 h12).rtab rv) Tryz.prog) (C := ⟨30000, 30040, ofPairs rl_goB2, ip_goB2⟩) (ex := .normal) (rl := rl_goB2) (vp := [(30575, .vec 20, 0), (30576, .vec 21, 1), (30509, .vec 19, 2), (30514, .vec 17, 3)]) (fs := fsR) (bs := bs_goB2)
    hb (by decide) rfl (by kernel_rfl) hip hvp (glNone rfl rfl) (by as_aux_lemma => kernel_rfl) (St.same (VRows.rsame _ _ _) s_) (fun a' w' q => hQ a' w' (by rw [bq_goB2] at q; exact q))
end
end Go.Proofs.YtbgkinjicnnkiaaGreatDoor.sp
