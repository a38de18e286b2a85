/-
  Steps from a call to the next one, or to the first answer.
-/
import Derived.Test.YtbgkinjicnnkiaaGreatDoorSNN
import Derived.Test.YtbgkinjicnnkiaaGreatDoorSPS
import Derived.Test.YtbgkinjicnnkiaaGreatDoorXN3
import Derived.Test.YtbgkinjicnnkiaaGreatDoorSPX
import Derived.Test.YtbgkinjicnnkiaaGreatDoorProg
import Derived.KernelRfl
set_option linter.unusedSectionVars false
set_option linter.unusedVariables false
set_option maxRecDepth 1000000
set_option maxHeartbeats 0
namespace Go.Proofs.YtbgkinjicnnkiaaGreatDoor.sp
open Go.X Go.RowKit Go.Proofs.YtbgkinjicnnkiaaGreatDoor
section
variable {B : Kp} {w0 : World} {μ : M} {a : Act} {w : World}
theorem ibB1 {v : Int} {r : Int} {wd : Int} {c0 : Int} {s : Nat} {d : Nat} {o : Nat} (h1 : 1 ≤ v) (h2 : v ≤ 100) (h3 : 0 ≤ r) (h4 : r + 20 ≤ 2000) (h5 : 0 ≤ wd) (h6 : wd + 7 ≤ 2048) (h7 : 0 ≤ c0) (h8 : c0 ≤ 200000) (h11 : s ≤ 10000) (h12 : d ≤ 10000) : ∀ x_ ∈ ([(14, .oi 1, .int .i64 2000, .bool false), (9, .oi 7, .int .i64 0, .bool false), (1, .oi 7, .int .i64 1, .oi 5), (11, .oi 5, .oi 7, .bool true), (14, .oi 5, .int .i64 0, .bool true), (0, .oi 1, .int .i64 1, .oi 8), (0, .oi 3, .int .i64 1, .oi 9), (1, .oi 6, .int .i64 1, .oi 10), (1, .oi 10, .int .i64 0, .oi 10), (11, .oi 10, .oi 6, .bool true), (14, .oi 10, .int .i64 0, .bool true), (12, .oi 10, .oi 6, .bool true), (12, .oi 0, .int .i64 0, .bool false), (14, .oi 8, .int .i64 2000, .bool false), (0, .oi 8, .int .i64 1, .oi 11), (0, .oi 9, .int .i64 1, .oi 12), (14, .oi 11, .int .i64 2000, .bool false), (0, .oi 11, .int .i64 1, .oi 13), (0, .oi 12, .int .i64 1, .oi 14), (14, .oi 13, .int .i64 2000, .bool false), (0, .oi 13, .int .i64 1, .oi 16), (0, .oi 14, .int .i64 1, .oi 17), (1, .oi 15, .int .i64 1, .oi 6), (1, .oi 6, .int .i64 0, .oi 6), (11, .oi 6, .oi 15, .bool true), (14, .oi 6, .int .i64 0, .bool true), (11, .oi 10, .oi 15, .bool true), (1, .oi 0, .int .i64 1, .oi 19), (1, .oi 15, .int .i64 2, .oi 10), (12, .oi 10, .oi 15, .bool true), (14, .oi 16, .int .i64 2000, .bool false), (0, .oi 16, .int .i64 1, .oi 21), (0, .oi 17, .int .i64 1, .oi 22)] : List BRow), IbOk (ivE v r wd c0 s d o) x_ := by
  letI := Tab.empty
  exact (ibCons (ibGe (a := (r)) (b := (2000)) rfl rfl (decide_eq_false (by omega)))
    (ibCons (ibEq (a := (((d + 1 : Nat) : Int))) (b := (0)) rfl rfl (decide_eq_false (by omega)))
    (ibCons (ibSub (a := (((d + 1 : Nat) : Int))) (b := (1)) (c := (((d : Nat) : Int))) rfl rfl rfl (by first | assumption | omega) (by omega) (by omega))
    (ibCons (ibLt (a := (((d : Nat) : Int))) (b := (((d + 1 : Nat) : Int))) rfl rfl (decide_eq_true (by omega)))
    (ibCons (ibGe (a := (((d : Nat) : Int))) (b := (0)) rfl rfl (decide_eq_true (by omega)))
    (ibCons (ibAdd (a := (r)) (b := (1)) (c := (r + 1)) rfl rfl rfl (by first | assumption | omega) (by omega) (by omega))
    (ibCons (ibAdd (a := (c0)) (b := (1)) (c := (c0 + 1)) rfl rfl rfl (by first | assumption | omega) (by omega) (by omega))
    (ibCons (ibSub (a := (((s + 2 : Nat) : Int))) (b := (1)) (c := (((s + 1 : Nat) : Int))) rfl rfl rfl (by first | assumption | omega) (by omega) (by omega))
    (ibCons (ibSub (a := (((s + 1 : Nat) : Int))) (b := (0)) (c := (((s + 1 : Nat) : Int))) rfl rfl rfl (by first | assumption | omega) (by omega) (by omega))
    (ibCons (ibLt (a := (((s + 1 : Nat) : Int))) (b := (((s + 2 : Nat) : Int))) rfl rfl (decide_eq_true (by omega)))
    (ibCons (ibGe (a := (((s + 1 : Nat) : Int))) (b := (0)) rfl rfl (decide_eq_true (by omega)))
    (ibCons (ibLe (a := (((s + 1 : Nat) : Int))) (b := (((s + 2 : Nat) : Int))) rfl rfl (decide_eq_true (by omega)))
    (ibCons (ibLe (a := (v)) (b := (0)) rfl rfl (decide_eq_false (by omega)))
    (ibCons (ibGe (a := (r + 1)) (b := (2000)) rfl rfl (decide_eq_false (by omega)))
    (ibCons (ibAdd (a := (r + 1)) (b := (1)) (c := (r + 2)) rfl rfl rfl (by first | assumption | omega) (by omega) (by omega))
    (ibCons (ibAdd (a := (c0 + 1)) (b := (1)) (c := (c0 + 2)) rfl rfl rfl (by first | assumption | omega) (by omega) (by omega))
    (ibCons (ibGe (a := (r + 2)) (b := (2000)) rfl rfl (decide_eq_false (by omega)))
    (ibCons (ibAdd (a := (r + 2)) (b := (1)) (c := (r + 3)) rfl rfl rfl (by first | assumption | omega) (by omega) (by omega))
    (ibCons (ibAdd (a := (c0 + 2)) (b := (1)) (c := (c0 + 3)) rfl rfl rfl (by first | assumption | omega) (by omega) (by omega))
    (ibCons (ibGe (a := (r + 3)) (b := (2000)) rfl rfl (decide_eq_false (by omega)))
    (ibCons (ibAdd (a := (r + 3)) (b := (1)) (c := (r + 4)) rfl rfl rfl (by first | assumption | omega) (by omega) (by omega))
    (ibCons (ibAdd (a := (c0 + 3)) (b := (1)) (c := (c0 + 4)) rfl rfl rfl (by first | assumption | omega) (by omega) (by omega))
    (ibCons (ibSub (a := (((s + 3 : Nat) : Int))) (b := (1)) (c := (((s + 2 : Nat) : Int))) rfl rfl rfl (by first | assumption | omega) (by omega) (by omega))
    (ibCons (ibSub (a := (((s + 2 : Nat) : Int))) (b := (0)) (c := (((s + 2 : Nat) : Int))) rfl rfl rfl (by first | assumption | omega) (by omega) (by omega))
    (ibCons (ibLt (a := (((s + 2 : Nat) : Int))) (b := (((s + 3 : Nat) : Int))) rfl rfl (decide_eq_true (by omega)))
    (ibCons (ibGe (a := (((s + 2 : Nat) : Int))) (b := (0)) rfl rfl (decide_eq_true (by omega)))
    (ibCons (ibLt (a := (((s + 1 : Nat) : Int))) (b := (((s + 3 : Nat) : Int))) rfl rfl (decide_eq_true (by omega)))
    (ibCons (ibSub (a := (v)) (b := (1)) (c := (v - 1)) rfl rfl rfl (by first | assumption | omega) (by omega) (by omega))
    (ibCons (ibSub (a := (((s + 3 : Nat) : Int))) (b := (2)) (c := (((s + 1 : Nat) : Int))) rfl rfl rfl (by first | assumption | omega) (by omega) (by omega))
    (ibCons (ibLe (a := (((s + 1 : Nat) : Int))) (b := (((s + 3 : Nat) : Int))) rfl rfl (decide_eq_true (by omega)))
    (ibCons (ibGe (a := (r + 4)) (b := (2000)) rfl rfl (decide_eq_false (by omega)))
    (ibCons (ibAdd (a := (r + 4)) (b := (1)) (c := (r + 5)) rfl rfl rfl (by first | assumption | omega) (by omega) (by omega))
    (ibCons (ibAdd (a := (c0 + 4)) (b := (1)) (c := (c0 + 5)) rfl rfl rfl (by first | assumption | omega) (by omega) (by omega))
    ibNil)))))))))))))))))))))))))))))))))
theorem icB1 {v : Int} {r : Int} {wd : Int} {c0 : Int} {s : Nat} {d : Nat} {o : Nat} (h1 : 1 ≤ v) (h2 : v ≤ 100) (h3 : 0 ≤ r) (h4 : r + 20 ≤ 2000) (h5 : 0 ≤ wd) (h6 : wd + 7 ≤ 2048) (h7 : 0 ≤ c0) (h8 : c0 ≤ 200000) (h11 : s ≤ 10000) (h12 : d ≤ 10000) : ∀ x_ ∈ ([(.i32, .oi 0, .oi 18), (.i64, .oi 18, .oi 0), (.i32, .oi 19, .oi 20), (.i64, .oi 20, .oi 19)] : List (IntKind × AV × AV)), IcOk' (ivE v r wd c0 s d o) x_ := (icCons (ic32 (n := (v)) rfl rfl (by omega) (by omega)) (icCons (ic64 (n := (v)) rfl rfl (by omega) (by omega)) (icCons (ic32 (n := (v - 1)) rfl rfl (by omega) (by omega)) (icCons (ic64 (n := (v - 1)) rfl rfl (by omega) (by omega)) icNil))))
theorem vlB1 {v : Int} {r : Int} {wd : Int} {c0 : Int} {s : Nat} {d : Nat} {o : Nat} (h1 : 1 ≤ v) (h2 : v ≤ 100) (h3 : 0 ≤ r) (h4 : r + 20 ≤ 2000) (h5 : 0 ≤ wd) (h6 : wd + 7 ≤ 2048) (h7 : 0 ≤ c0) (h8 : c0 ≤ 200000) (h11 : s ≤ 10000) (h12 : d ≤ 10000) : ∀ x_ ∈ ([⟨3, 5, 1, 0, [(pN 30005)]⟩, ⟨4, 5, 7, 6, [z1]⟩, ⟨0, 10, 1, 0, [(oN 0)]⟩, ⟨1, 10, 1, 0, [bF]⟩, ⟨6, 5, 7, 6, [z0]⟩, ⟨6, 5, 7, 5, [z2]⟩, ⟨8, 5, 7, 6, [z1]⟩, ⟨8, 5, 7, 5, [z2]⟩, ⟨12, 5, 7, 6, [z2]⟩, ⟨10, 6, 1, 0, [z1]⟩, ⟨11, 6, 1, 0, [bF]⟩, ⟨10, 10, 1, 0, [(oN 0)]⟩, ⟨11, 10, 1, 0, [bF]⟩, ⟨13, 5, 7, 6, [z0]⟩, ⟨13, 5, 7, 5, [z2]⟩, ⟨16, 5, 7, 6, [z1]⟩, ⟨15, 10, 1, 0, [(oN 19)]⟩] : List VL), VlOk (ivE v r wd c0 s d o) (vvE s d o) x_ :=
  (allCons (vlP (k := d) (b := d) (c := 3) (o := 0) (L := [(pN 30005)]) rfl rfl (by show (d) * 1 + 0 = d + 0; omega) rfl)
    (allCons (vlP (k := d) (b := 7 * d) (c := 2) (o := 6) (L := [z1, z1, (iN 3), (oN 4), z1, z2, z1]) rfl rfl (by show (d) * 7 + 6 = 7 * d + 6; omega) rfl)
    (allCons (vlP (k := s + 1) (b := s) (c := 0) (o := 1) (L := [(iN 9), (oN 0)]) rfl rfl (by show (s + 1) * 1 + 0 = s + 1; omega) rfl)
    (allCons (vlP (k := s + 1) (b := s) (c := 1) (o := 1) (L := [bT, bF]) rfl rfl (by show (s + 1) * 1 + 0 = s + 1; omega) rfl)
    (allCons (vlP (k := d) (b := 7 * d) (c := 2) (o := 6) (L := [z1, z1, (iN 6), (oN 4), z1, z2, z0]) rfl rfl (by show (d) * 7 + 6 = 7 * d + 6; omega) rfl)
    (allCons (vlP (k := d) (b := 7 * d) (c := 2) (o := 5) (L := [z1, z1, (iN 6), (oN 4), z1, z2, z0]) rfl rfl (by show (d) * 7 + 5 = 7 * d + 5; omega) rfl)
    (allCons (vlP (k := d) (b := 7 * d) (c := 2) (o := 6) (L := [z1, z1, (iN 9), (oN 4), z1, z2, z1]) rfl rfl (by show (d) * 7 + 6 = 7 * d + 6; omega) rfl)
    (allCons (vlP (k := d) (b := 7 * d) (c := 2) (o := 5) (L := [z1, z1, (iN 9), (oN 4), z1, z2, z1]) rfl rfl (by show (d) * 7 + 5 = 7 * d + 5; omega) rfl)
    (allCons (vlP (k := d) (b := 7 * d) (c := 2) (o := 6) (L := [z1, z1, (iN 10), (oN 4), z1, z2, z2]) rfl rfl (by show (d) * 7 + 6 = 7 * d + 6; omega) rfl)
    (allCons (vlP (k := s + 2) (b := s) (c := 0) (o := 2) (L := [(iN 9), (oN 0), z1]) rfl rfl (by show (s + 2) * 1 + 0 = s + 2; omega) rfl)
    (allCons (vlP (k := s + 2) (b := s) (c := 1) (o := 2) (L := [bT, bF, bF]) rfl rfl (by show (s + 2) * 1 + 0 = s + 2; omega) rfl)
    (allCons (vlP (k := s + 1) (b := s) (c := 0) (o := 1) (L := [(iN 9), (oN 0), z1]) rfl rfl (by show (s + 1) * 1 + 0 = s + 1; omega) rfl)
    (allCons (vlP (k := s + 1) (b := s) (c := 1) (o := 1) (L := [bT, bF, bF]) rfl rfl (by show (s + 1) * 1 + 0 = s + 1; omega) rfl)
    (allCons (vlP (k := d) (b := 7 * d) (c := 2) (o := 6) (L := [z1, z1, (iN 10), (oN 4), z1, z2, z0]) rfl rfl (by show (d) * 7 + 6 = 7 * d + 6; omega) rfl)
    (allCons (vlP (k := d) (b := 7 * d) (c := 2) (o := 5) (L := [z1, z1, (iN 10), (oN 4), z1, z2, z0]) rfl rfl (by show (d) * 7 + 5 = 7 * d + 5; omega) rfl)
    (allCons (vlP (k := d) (b := 7 * d) (c := 2) (o := 6) (L := [z1, z1, (iN 11), (oN 4), z1, z2, z1]) rfl rfl (by show (d) * 7 + 6 = 7 * d + 6; omega) rfl)
    (allCons (vlP (k := s + 1) (b := s) (c := 0) (o := 1) (L := [(iN 9), (oN 19)]) rfl rfl (by show (s + 1) * 1 + 0 = s + 1; omega) rfl)
    allNil)))))))))))))))))
theorem vsB1 {v : Int} {r : Int} {wd : Int} {c0 : Int} {s : Nat} {d : Nat} {o : Nat} (h1 : 1 ≤ v) (h2 : v ≤ 100) (h3 : 0 ≤ r) (h4 : r + 20 ≤ 2000) (h5 : 0 ≤ wd) (h6 : wd + 7 ≤ 2048) (h7 : 0 ≤ c0) (h8 : c0 ≤ 200000) (h11 : s ≤ 10000) (h12 : d ≤ 10000) : ∀ x_ ∈ ([⟨2, 5, 7, 2, [(iN 3)], 4⟩, ⟨4, 5, 7, 6, [z0], 5⟩, ⟨5, 5, 7, 2, [(iN 6)], 6⟩, ⟨6, 5, 7, 6, [z1], 7⟩, ⟨7, 5, 7, 2, [(iN 9)], 8⟩, ⟨8, 5, 7, 6, [z2], 9⟩, ⟨9, 5, 7, 2, [(iN 10)], 12⟩, ⟨12, 5, 7, 6, [z0], 13⟩, ⟨13, 5, 7, 6, [z1], 14⟩, ⟨14, 5, 7, 2, [(iN 11)], 16⟩, ⟨16, 5, 7, 6, [z0], 17⟩] : List VS), VsOk (ivE v r wd c0 s d o) (vvE s d o) (vkE s d o) x_ :=
  (allCons (vsP (k := d) (b := 7 * d) (c := 2) (o := 2) (L := [z1, z1, z0, (oN 4), z1, z2, z1]) (L' := [z1, z1, (iN 3), (oN 4), z1, z2, z1]) rfl rfl rfl rfl rfl (by show (d) * 7 + 2 = 7 * d + 2; omega) rfl (by decide))
    (allCons (vsP (k := d) (b := 7 * d) (c := 2) (o := 6) (L := [z1, z1, (iN 3), (oN 4), z1, z2, z1]) (L' := [z1, z1, (iN 3), (oN 4), z1, z2, z0]) rfl rfl rfl rfl rfl (by show (d) * 7 + 6 = 7 * d + 6; omega) rfl (by decide))
    (allCons (vsP (k := d) (b := 7 * d) (c := 2) (o := 2) (L := [z1, z1, (iN 3), (oN 4), z1, z2, z0]) (L' := [z1, z1, (iN 6), (oN 4), z1, z2, z0]) rfl rfl rfl rfl rfl (by show (d) * 7 + 2 = 7 * d + 2; omega) rfl (by decide))
    (allCons (vsP (k := d) (b := 7 * d) (c := 2) (o := 6) (L := [z1, z1, (iN 6), (oN 4), z1, z2, z0]) (L' := [z1, z1, (iN 6), (oN 4), z1, z2, z1]) rfl rfl rfl rfl rfl (by show (d) * 7 + 6 = 7 * d + 6; omega) rfl (by decide))
    (allCons (vsP (k := d) (b := 7 * d) (c := 2) (o := 2) (L := [z1, z1, (iN 6), (oN 4), z1, z2, z1]) (L' := [z1, z1, (iN 9), (oN 4), z1, z2, z1]) rfl rfl rfl rfl rfl (by show (d) * 7 + 2 = 7 * d + 2; omega) rfl (by decide))
    (allCons (vsP (k := d) (b := 7 * d) (c := 2) (o := 6) (L := [z1, z1, (iN 9), (oN 4), z1, z2, z1]) (L' := [z1, z1, (iN 9), (oN 4), z1, z2, z2]) rfl rfl rfl rfl rfl (by show (d) * 7 + 6 = 7 * d + 6; omega) rfl (by decide))
    (allCons (vsP (k := d) (b := 7 * d) (c := 2) (o := 2) (L := [z1, z1, (iN 9), (oN 4), z1, z2, z2]) (L' := [z1, z1, (iN 10), (oN 4), z1, z2, z2]) rfl rfl rfl rfl rfl (by show (d) * 7 + 2 = 7 * d + 2; omega) rfl (by decide))
    (allCons (vsP (k := d) (b := 7 * d) (c := 2) (o := 6) (L := [z1, z1, (iN 10), (oN 4), z1, z2, z2]) (L' := [z1, z1, (iN 10), (oN 4), z1, z2, z0]) rfl rfl rfl rfl rfl (by show (d) * 7 + 6 = 7 * d + 6; omega) rfl (by decide))
    (allCons (vsP (k := d) (b := 7 * d) (c := 2) (o := 6) (L := [z1, z1, (iN 10), (oN 4), z1, z2, z0]) (L' := [z1, z1, (iN 10), (oN 4), z1, z2, z1]) rfl rfl rfl rfl rfl (by show (d) * 7 + 6 = 7 * d + 6; omega) rfl (by decide))
    (allCons (vsP (k := d) (b := 7 * d) (c := 2) (o := 2) (L := [z1, z1, (iN 10), (oN 4), z1, z2, z1]) (L' := [z1, z1, (iN 11), (oN 4), z1, z2, z1]) rfl rfl rfl rfl rfl (by show (d) * 7 + 2 = 7 * d + 2; omega) rfl (by decide))
    (allCons (vsP (k := d) (b := 7 * d) (c := 2) (o := 6) (L := [z1, z1, (iN 11), (oN 4), z1, z2, z1]) (L' := [z1, z1, (iN 11), (oN 4), z1, z2, z0]) rfl rfl rfl rfl rfl (by show (d) * 7 + 6 = 7 * d + 6; omega) rfl (by decide))
    allNil)))))))))))
theorem vaB1 {v : Int} {r : Int} {wd : Int} {c0 : Int} {s : Nat} {d : Nat} {o : Nat} (h1 : 1 ≤ v) (h2 : v ≤ 100) (h3 : 0 ≤ r) (h4 : r + 20 ≤ 2000) (h5 : 0 ≤ wd) (h6 : wd + 7 ≤ 2048) (h7 : 0 ≤ c0) (h8 : c0 ≤ 200000) (h11 : s ≤ 10000) (h12 : d ≤ 10000) : ∀ x_ ∈ ([⟨0, 10, 1, [(oN 0)], 0, 6⟩, ⟨1, 10, 1, [bF], 1, 6⟩, ⟨0, 6, 1, [z1], 10, 15⟩, ⟨1, 6, 1, [bF], 11, 15⟩, ⟨10, 10, 1, [(oN 19)], 15, 6⟩, ⟨11, 10, 1, [bF], 1, 6⟩] : List VA), VaOk (ivE v r wd c0 s d o) (vvE s d o) (vkE s d o) x_ :=
  (allCons (vaP (j := s + 1) (j' := s + 2) (b := s) (c := 0) (o := 1) (L := [(iN 9), (oN 0)]) (L' := [(iN 9), (oN 0)]) rfl rfl rfl rfl rfl (by show (s + 1) * 1 = s + 1; omega) (by show (s + 2) * 1 = s + 1 + 1; omega) rfl (by decide) (by show s + 2 < 1000000; omega))
    (allCons (vaP (j := s + 1) (j' := s + 2) (b := s) (c := 1) (o := 1) (L := [bT, bF]) (L' := [bT, bF]) rfl rfl rfl rfl rfl (by show (s + 1) * 1 = s + 1; omega) (by show (s + 2) * 1 = s + 1 + 1; omega) rfl (by decide) (by show s + 2 < 1000000; omega))
    (allCons (vaP (j := s + 2) (j' := s + 3) (b := s) (c := 0) (o := 2) (L := [(iN 9), (oN 0)]) (L' := [(iN 9), (oN 0), z1]) rfl rfl rfl rfl rfl (by show (s + 2) * 1 = s + 2; omega) (by show (s + 3) * 1 = s + 2 + 1; omega) rfl (by decide) (by show s + 3 < 1000000; omega))
    (allCons (vaP (j := s + 2) (j' := s + 3) (b := s) (c := 1) (o := 2) (L := [bT, bF]) (L' := [bT, bF, bF]) rfl rfl rfl rfl rfl (by show (s + 2) * 1 = s + 2; omega) (by show (s + 3) * 1 = s + 2 + 1; omega) rfl (by decide) (by show s + 3 < 1000000; omega))
    (allCons (vaP (j := s + 1) (j' := s + 2) (b := s) (c := 0) (o := 1) (L := [(iN 9), (oN 0), z1]) (L' := [(iN 9), (oN 19)]) rfl rfl rfl rfl rfl (by show (s + 1) * 1 = s + 1; omega) (by show (s + 2) * 1 = s + 1 + 1; omega) rfl (by decide) (by show s + 2 < 1000000; omega))
    (allCons (vaP (j := s + 1) (j' := s + 2) (b := s) (c := 1) (o := 1) (L := [bT, bF, bF]) (L' := [bT, bF]) rfl rfl rfl rfl rfl (by show (s + 1) * 1 = s + 1; omega) (by show (s + 2) * 1 = s + 1 + 1; omega) rfl (by decide) (by show s + 2 < 1000000; omega))
    allNil))))))
abbrev RB1 {v : Int} {r : Int} {wd : Int} {c0 : Int} {s : Nat} {d : Nat} {o : Nat} (h1 : 1 ≤ v) (h2 : v ≤ 100) (h3 : 0 ≤ r) (h4 : r + 20 ≤ 2000) (h5 : 0 ≤ wd) (h6 : wd + 7 ≤ 2048) (h7 : 0 ≤ c0) (h8 : c0 ≤ 200000) (h11 : s ≤ 10000) (h12 : d ≤ 10000) : VRows (ivE v r wd c0 s d o) (vvE s d o) (vkE s d o) where
  vvp := vpE s d o
  ib := [(14, .oi 1, .int .i64 2000, .bool false), (9, .oi 7, .int .i64 0, .bool false), (1, .oi 7, .int .i64 1, .oi 5), (11, .oi 5, .oi 7, .bool true), (14, .oi 5, .int .i64 0, .bool true), (0, .oi 1, .int .i64 1, .oi 8), (0, .oi 3, .int .i64 1, .oi 9), (1, .oi 6, .int .i64 1, .oi 10), (1, .oi 10, .int .i64 0, .oi 10), (11, .oi 10, .oi 6, .bool true), (14, .oi 10, .int .i64 0, .bool true), (12, .oi 10, .oi 6, .bool true), (12, .oi 0, .int .i64 0, .bool false), (14, .oi 8, .int .i64 2000, .bool false), (0, .oi 8, .int .i64 1, .oi 11), (0, .oi 9, .int .i64 1, .oi 12), (14, .oi 11, .int .i64 2000, .bool false), (0, .oi 11, .int .i64 1, .oi 13), (0, .oi 12, .int .i64 1, .oi 14), (14, .oi 13, .int .i64 2000, .bool false), (0, .oi 13, .int .i64 1, .oi 16), (0, .oi 14, .int .i64 1, .oi 17), (1, .oi 15, .int .i64 1, .oi 6), (1, .oi 6, .int .i64 0, .oi 6), (11, .oi 6, .oi 15, .bool true), (14, .oi 6, .int .i64 0, .bool true), (11, .oi 10, .oi 15, .bool true), (1, .oi 0, .int .i64 1, .oi 19), (1, .oi 15, .int .i64 2, .oi 10), (12, .oi 10, .oi 15, .bool true), (14, .oi 16, .int .i64 2000, .bool false), (0, .oi 16, .int .i64 1, .oi 21), (0, .oi 17, .int .i64 1, .oi 22)]
  ibok := ibB1 h1 h2 h3 h4 h5 h6 h7 h8 h11 h12
  ic := [(.i32, .oi 0, .oi 18), (.i64, .oi 18, .oi 0), (.i32, .oi 19, .oi 20), (.i64, .oi 20, .oi 19)]
  icok := icB1 h1 h2 h3 h4 h5 h6 h7 h8 h11 h12
  vl := [⟨3, 5, 1, 0, [(pN 30005)]⟩, ⟨4, 5, 7, 6, [z1]⟩, ⟨0, 10, 1, 0, [(oN 0)]⟩, ⟨1, 10, 1, 0, [bF]⟩, ⟨6, 5, 7, 6, [z0]⟩, ⟨6, 5, 7, 5, [z2]⟩, ⟨8, 5, 7, 6, [z1]⟩, ⟨8, 5, 7, 5, [z2]⟩, ⟨12, 5, 7, 6, [z2]⟩, ⟨10, 6, 1, 0, [z1]⟩, ⟨11, 6, 1, 0, [bF]⟩, ⟨10, 10, 1, 0, [(oN 0)]⟩, ⟨11, 10, 1, 0, [bF]⟩, ⟨13, 5, 7, 6, [z0]⟩, ⟨13, 5, 7, 5, [z2]⟩, ⟨16, 5, 7, 6, [z1]⟩, ⟨15, 10, 1, 0, [(oN 19)]⟩]
  vlok := vlB1 h1 h2 h3 h4 h5 h6 h7 h8 h11 h12
  vs := [⟨2, 5, 7, 2, [(iN 3)], 4⟩, ⟨4, 5, 7, 6, [z0], 5⟩, ⟨5, 5, 7, 2, [(iN 6)], 6⟩, ⟨6, 5, 7, 6, [z1], 7⟩, ⟨7, 5, 7, 2, [(iN 9)], 8⟩, ⟨8, 5, 7, 6, [z2], 9⟩, ⟨9, 5, 7, 2, [(iN 10)], 12⟩, ⟨12, 5, 7, 6, [z0], 13⟩, ⟨13, 5, 7, 6, [z1], 14⟩, ⟨14, 5, 7, 2, [(iN 11)], 16⟩, ⟨16, 5, 7, 6, [z0], 17⟩]
  vsok := vsB1 h1 h2 h3 h4 h5 h6 h7 h8 h11 h12
  va := [⟨0, 10, 1, [(oN 0)], 0, 6⟩, ⟨1, 10, 1, [bF], 1, 6⟩, ⟨0, 6, 1, [z1], 10, 15⟩, ⟨1, 6, 1, [bF], 11, 15⟩, ⟨10, 10, 1, [(oN 19)], 15, 6⟩, ⟨11, 10, 1, [bF], 1, 6⟩]
  vaok := vaB1 h1 h2 h3 h4 h5 h6 h7 h8 h11 h12
  vc := []
  vcok := allNil
noncomputable abbrev rl_goB1 : List (Nat × Nat) := [(30000, 30000), (30001, 30255), (30002, 30256), (30003, 30003), (30004, 30004), (30005, 30005)]
noncomputable abbrev bs_goB1 : BS := [(7716, 7716, kb0), (7717, 7717, kb1), (7718, 7718, kb2), (7914, 7914, kb3), (7967, 7967, kb4), (10132, 10132, kb5), (10144, 10144, kb6), (10463, 10463, kb7), (10672, 10672, kb8), (10678, 10678, kb9), (10970, 10970, kb10), (10971, 10971, kb11), (10972, 10972, (.map [] 0)), (10973, 10973, kb12), (10977, 10977, kb13), (11691, 11691, kb14), (13691, 13691, (.cells 1 false [] (T.ofList 0 .leaf [bT]))), (13693, 13693, kb15), (14317, 14317, kb16), (14318, 14318, kb17), (14319, 14319, kb18), (14320, 14320, kb19), (14321, 14321, kb20), (14616, 14616, kb21), (14618, 14618, kb22), (15654, 15654, kb23), (15877, 15877, kb24), (16327, 16327, kb25), (16333, 16333, kb26), (16430, 16430, kb27), (16432, 16432, kb28), (17419, 17419, kb29), (17785, 17785, kb30), (18694, 18694, kb32), (18699, 18699, kb33), (18799, 18799, kb34), (20119, 20119, kb35), (20208, 20208, kb33), (20314, 20314, kb36), (20315, 20315, kb37), (20317, 20317, kb38), (30000, 30000, kb31), (30001, 30255, (.vec 0)), (30002, 30256, (.vec 1)), (30003, 30003, (.vec 2)), (30004, 30004, (.vec 3)), (30005, 30005, (.cells 6 false [] (T.ofList 0 .leaf [z2, z0, (pN 14616), z1, (iN 14), .nilp])))]
noncomputable abbrev ip_goB1 : IP := [(.oi 10, 6), (.oi 7, 7), (.oi 2, 2), (.oi 22, 3), (.oi 21, 1), (.oi 19, 0), (.oi 4, 4)]
theorem bq_goB1 : hOf 30040 bs_goB1 = hOf 30040 bsEm := hOf_congr (by kernel_rfl)
theorem goB1 {v : Int} {r : Int} {wd : Int} {c0 : Int} {s : Nat} {d : Nat} {o : Nat} (h1 : 1 ≤ v) (h2 : v ≤ 100) (h3 : 0 ≤ r) (h4 : r + 20 ≤ 2000) (h5 : 0 ≤ wd) (h6 : wd + 7 ≤ 2048) (h7 : 0 ≤ c0) (h8 : c0 ≤ 200000) (h11 : s ≤ 10000) (h12 : d ≤ 10000) {rv : Nat → Value} (hb : Base B μ 30000) {Q : Exit → Act → World → Prop} {j_ : Nat} (s_ : SE v r wd c0 s d o rv B w0 μ a w) (hQ : ∀ a' w', SEm (v - 1) (r + 5) (wd) (c0 + 5) (s) (d) (o) rv B w0 μ a' w' → Code.rounds Tryz.prog la Q j_ a' w') : Code.rounds Tryz.prog la Q (j_ + 5) a w := by
  have hip : IpOk ((RB1 (v := v) (r := r) (wd := wd) (c0 := c0) (s := s) (d := d) (o := o) h1 h2 h3 h4 h5 h6 h7 h8 h11 h12).rtab rv) (PEm (v - 1) (r + 5) (wd) (c0 + 5) (s) (d) (o) rv) ip_goB1 := (ipCons (ipN (.i64, ((s + 1 : Nat) : Int)) rfl rfl) (ipCons (ipN (.i64, ((d + 1 : Nat) : Int)) rfl rfl) (ipCons (ipN (.i64, wd) rfl rfl) (ipCons (ipN (.i64, c0 + 5) rfl (show (IntKind.i64, (c0 + 5)) = (IntKind.i64, c0 + 5) from Prod.ext rfl (show ((c0 + 5) : Int) = c0 + 5 by omega))) (ipCons (ipN (.i64, r + 5) rfl (show (IntKind.i64, (r + 5)) = (IntKind.i64, r + 5) from Prod.ext rfl (show ((r + 5) : Int) = r + 5 by omega))) (ipCons (ipN (.i64, v - 1) rfl (show (IntKind.i64, (v - 1)) = (IntKind.i64, v - 1) from Prod.ext rfl (show ((v - 1) : Int) = v - 1 by omega))) (ipCons (ipN (.i64, ((s : Nat) : Int)) rfl rfl) ipNil)))))))
  have hvp : VpOk ((RB1 (v := v) (r := r) (wd := wd) (c0 := c0) (s := s) (d := d) (o := o) h1 h2 h3 h4 h5 h6 h7 h8 h11 h12).rtab rv) (PEm (v - 1) (r + 5) (wd) (c0 + 5) (s) (d) (o) rv) ⟨30000, 30040, ofPairs rl_goB1, ip_goB1⟩ [(30255, .vec 15, 0), (30256, .vec 1, 1), (30003, .vec 17, 2), (30004, .vec 3, 3)] := (vpCons (vpPre (i := 15) (i' := 0) hip rfl rfl rfl (Nat.add_le_add_left (by decide) _) (by kernel_rfl))
    (vpCons (vpPre (i := 1) (i' := 1) hip rfl rfl rfl (Nat.add_le_add_left (by decide) _) (by kernel_rfl))
    (vpCons (vpPre (i := 17) (i' := 2) hip rfl rfl rfl (Nat.add_le_add_left (by decide) _) (by kernel_rfl))
    (vpCons (vpPre (i := 3) (i' := 3) hip rfl rfl rfl (Nat.add_le_add_left (by decide) _) (by kernel_rfl))
    vpNil))))
  exact stepsTo_sound (T := ((RB1 (v := v) (r := r) (wd := wd) (c0 := c0) (s := s) (d := d) (o := o) h1 h2 h3 h4 h5 h6 h7 h8 h11 h12).rtab rv)) (T' := (PEm (v - 1) (r + 5) (wd) (c0 + 5) (s) (d) (o) rv)) (K := Hand.none) (m := 5000) mixed (@HandOk.none ((RB1 (v := v) (r := r) (wd := wd) (c0 := c0) (s := s) (d := d) (o := o) h1 h2 h3 h4 h5 h6 h7 h8 h11 h12).rtab rv) Tryz.prog) (C := ⟨30000, 30040, ofPairs rl_goB1, ip_goB1⟩) (ex := .normal) (rl := rl_goB1) (vp := [(30255, .vec 15, 0), (30256, .vec 1, 1), (30003, .vec 17, 2), (30004, .vec 3, 3)]) (fs := fsR) (bs := bs_goB1)
    hb (by decide) rfl (by kernel_rfl) hip hvp (glNone rfl rfl) (by as_aux_lemma => kernel_rfl) (St.same (VRows.rsame _ _ _) s_) (fun a' w' q => hQ a' w' (by rw [bq_goB1] at q; exact q))
end
end Go.Proofs.YtbgkinjicnnkiaaGreatDoor.sp
