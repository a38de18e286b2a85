/-
  Steps from an answer to the next one.
-/
import Derived.Test.YtbgkinjicnnkiaaGreatDoorSNN
import Derived.Test.YtbgkinjicnnkiaaGreatDoorSPS
import Derived.Test.YtbgkinjicnnkiaaGreatDoorXN3
import Derived.Test.YtbgkinjicnnkiaaGreatDoorSPX
import Derived.Test.YtbgkinjicnnkiaaGreatDoorProg
import Derived.KernelRfl
set_option linter.unusedSectionVars false
set_option linter.unusedVariables false
set_option maxRecDepth 1000000
set_option maxHeartbeats 0
namespace Go.Proofs.YtbgkinjicnnkiaaGreatDoor.sp
open Go.X Go.RowKit Go.Proofs.YtbgkinjicnnkiaaGreatDoor
section
variable {B : Kp} {w0 : World} {μ : M} {a : Act} {w : World}
theorem ibC0 {r : Int} {wd : Int} {c0 : Int} {s : Nat} {d : Nat} {o : Nat} (h3 : 0 ≤ r) (h4 : r + 20 ≤ 2000) (h5 : 7 ≤ wd) (h6 : wd ≤ 2048) (h7 : 0 ≤ c0) (h8 : c0 ≤ 200000) (h11 : s ≤ 10000) (h12 : d ≤ 10000) : ∀ x_ ∈ ([(14, .oi 0, .int .i64 2000, .bool false), (9, .oi 7, .int .i64 0, .bool false), (1, .oi 7, .int .i64 1, .oi 8), (11, .oi 8, .oi 7, .bool true), (14, .oi 8, .int .i64 0, .bool true), (0, .oi 0, .int .i64 1, .oi 9), (0, .oi 2, .int .i64 1, .oi 10), (1, .oi 6, .int .i64 1, .oi 11), (1, .oi 11, .int .i64 0, .oi 11), (11, .oi 11, .oi 6, .bool true), (14, .oi 11, .int .i64 0, .bool true), (12, .oi 11, .oi 6, .bool true), (1, .oi 1, .int .i64 7, .oi 12), (12, .oi 4, .oi 11, .bool true), (14, .oi 4, .int .i64 0, .bool true), (12, .oi 8, .oi 7, .bool true), (9, .oi 8, .int .i64 0, .bool false), (1, .oi 8, .int .i64 1, .oi 5), (11, .oi 5, .oi 8, .bool true), (14, .oi 5, .int .i64 0, .bool true), (14, .oi 9, .int .i64 2000, .bool false), (0, .oi 9, .int .i64 1, .oi 13), (0, .oi 10, .int .i64 1, .oi 14)] : List BRow), IbOk (ivC0 r wd c0 s d o) x_ := by
  letI := Tab.empty
  exact (ibCons (ibGe (a := (r)) (b := (2000)) rfl rfl (decide_eq_false (by omega)))
    (ibCons (ibEq (a := (((d + 2 : Nat) : Int))) (b := (0)) rfl rfl (decide_eq_false (by omega)))
    (ibCons (ibSub (a := (((d + 2 : Nat) : Int))) (b := (1)) (c := (((d + 1 : Nat) : Int))) rfl rfl rfl (by first | assumption | omega) (by omega) (by omega))
    (ibCons (ibLt (a := (((d + 1 : Nat) : Int))) (b := (((d + 2 : Nat) : Int))) rfl rfl (decide_eq_true (by omega)))
    (ibCons (ibGe (a := (((d + 1 : Nat) : Int))) (b := (0)) rfl rfl (decide_eq_true (by omega)))
    (ibCons (ibAdd (a := (r)) (b := (1)) (c := (r + 1)) rfl rfl rfl (by first | assumption | omega) (by omega) (by omega))
    (ibCons (ibAdd (a := (c0)) (b := (1)) (c := (c0 + 1)) rfl rfl rfl (by first | assumption | omega) (by omega) (by omega))
    (ibCons (ibSub (a := (((s + 3 : Nat) : Int))) (b := (1)) (c := (((s + 2 : Nat) : Int))) rfl rfl rfl (by first | assumption | omega) (by omega) (by omega))
    (ibCons (ibSub (a := (((s + 2 : Nat) : Int))) (b := (0)) (c := (((s + 2 : Nat) : Int))) rfl rfl rfl (by first | assumption | omega) (by omega) (by omega))
    (ibCons (ibLt (a := (((s + 2 : Nat) : Int))) (b := (((s + 3 : Nat) : Int))) rfl rfl (decide_eq_true (by omega)))
    (ibCons (ibGe (a := (((s + 2 : Nat) : Int))) (b := (0)) rfl rfl (decide_eq_true (by omega)))
    (ibCons (ibLe (a := (((s + 2 : Nat) : Int))) (b := (((s + 3 : Nat) : Int))) rfl rfl (decide_eq_true (by omega)))
    (ibCons (ibSub (a := (wd)) (b := (7)) (c := (wd - 7)) rfl rfl rfl (by first | assumption | omega) (by omega) (by omega))
    (ibCons (ibLe (a := (((s + 1 : Nat) : Int))) (b := (((s + 2 : Nat) : Int))) rfl rfl (decide_eq_true (by omega)))
    (ibCons (ibGe (a := (((s + 1 : Nat) : Int))) (b := (0)) rfl rfl (decide_eq_true (by omega)))
    (ibCons (ibLe (a := (((d + 1 : Nat) : Int))) (b := (((d + 2 : Nat) : Int))) rfl rfl (decide_eq_true (by omega)))
    (ibCons (ibEq (a := (((d + 1 : Nat) : Int))) (b := (0)) rfl rfl (decide_eq_false (by omega)))
    (ibCons (ibSub (a := (((d + 1 : Nat) : Int))) (b := (1)) (c := (((d : Nat) : Int))) rfl rfl rfl (by first | assumption | omega) (by omega) (by omega))
    (ibCons (ibLt (a := (((d : Nat) : Int))) (b := (((d + 1 : Nat) : Int))) rfl rfl (decide_eq_true (by omega)))
    (ibCons (ibGe (a := (((d : Nat) : Int))) (b := (0)) rfl rfl (decide_eq_true (by omega)))
    (ibCons (ibGe (a := (r + 1)) (b := (2000)) rfl rfl (decide_eq_false (by omega)))
    (ibCons (ibAdd (a := (r + 1)) (b := (1)) (c := (r + 2)) rfl rfl rfl (by first | assumption | omega) (by omega) (by omega))
    (ibCons (ibAdd (a := (c0 + 1)) (b := (1)) (c := (c0 + 2)) rfl rfl rfl (by first | assumption | omega) (by omega) (by omega))
    ibNil)))))))))))))))))))))))
theorem icC0 {r : Int} {wd : Int} {c0 : Int} {s : Nat} {d : Nat} {o : Nat} (h3 : 0 ≤ r) (h4 : r + 20 ≤ 2000) (h5 : 7 ≤ wd) (h6 : wd ≤ 2048) (h7 : 0 ≤ c0) (h8 : c0 ≤ 200000) (h11 : s ≤ 10000) (h12 : d ≤ 10000) : ∀ x_ ∈ ([] : List (IntKind × AV × AV)), IcOk' (ivC0 r wd c0 s d o) x_ := icNil
theorem vlC0 {r : Int} {wd : Int} {c0 : Int} {s : Nat} {d : Nat} {o : Nat} (h3 : 0 ≤ r) (h4 : r + 20 ≤ 2000) (h5 : 7 ≤ wd) (h6 : wd ≤ 2048) (h7 : 0 ≤ c0) (h8 : c0 ≤ 200000) (h11 : s ≤ 10000) (h12 : d ≤ 10000) : ∀ x_ ∈ ([⟨3, 8, 1, 0, [(pN 30005)]⟩, ⟨4, 8, 7, 6, [z1]⟩, ⟨0, 11, 1, 0, [(iN 11)]⟩, ⟨1, 11, 1, 0, [bT]⟩, ⟨5, 8, 7, 4, [z1]⟩, ⟨5, 8, 7, 5, [z2]⟩, ⟨5, 8, 7, 3, [(oN 4)]⟩, ⟨3, 5, 1, 0, [(pN 30040)]⟩, ⟨6, 5, 7, 6, [z0]⟩, ⟨6, 5, 7, 5, [z2]⟩] : List VL), VlOk (ivC0 r wd c0 s d o) (vvC0 s d o) x_ :=
  (allCons (vlP (k := d + 1) (b := d) (c := 3) (o := 1) (L := [(pN 30040), (pN 30005)]) rfl rfl (by show (d + 1) * 1 + 0 = d + 1; omega) rfl)
    (allCons (vlP (k := d + 1) (b := 7 * d) (c := 2) (o := 13) (L := [z1, z1, (iN 18), (oN 3), z1, z2, z0, z1, z1, (iN 24), (oN 4), z1, z2, z1]) rfl rfl (by show (d + 1) * 7 + 6 = 7 * d + 13; omega) rfl)
    (allCons (vlP (k := s + 2) (b := s) (c := 0) (o := 2) (L := [(iN 9), (iN 9), (iN 11)]) rfl rfl (by show (s + 2) * 1 + 0 = s + 2; omega) rfl)
    (allCons (vlP (k := s + 2) (b := s) (c := 1) (o := 2) (L := [bT, bT, bT]) rfl rfl (by show (s + 2) * 1 + 0 = s + 2; omega) rfl)
    (allCons (vlP (k := d + 1) (b := 7 * d) (c := 2) (o := 11) (L := [z1, z1, (iN 18), (oN 3), z1, z2, z0, z1, z1, (iN 24), (oN 4), z1, z2, z0]) rfl rfl (by show (d + 1) * 7 + 4 = 7 * d + 11; omega) rfl)
    (allCons (vlP (k := d + 1) (b := 7 * d) (c := 2) (o := 12) (L := [z1, z1, (iN 18), (oN 3), z1, z2, z0, z1, z1, (iN 24), (oN 4), z1, z2, z0]) rfl rfl (by show (d + 1) * 7 + 5 = 7 * d + 12; omega) rfl)
    (allCons (vlP (k := d + 1) (b := 7 * d) (c := 2) (o := 10) (L := [z1, z1, (iN 18), (oN 3), z1, z2, z0, z1, z1, (iN 24), (oN 4), z1, z2, z0]) rfl rfl (by show (d + 1) * 7 + 3 = 7 * d + 10; omega) rfl)
    (allCons (vlP (k := d) (b := d) (c := 3) (o := 0) (L := [(pN 30040), (pN 30005)]) rfl rfl (by show (d) * 1 + 0 = d + 0; omega) rfl)
    (allCons (vlP (k := d) (b := 7 * d) (c := 2) (o := 6) (L := [z1, z1, (iN 21), (oN 3), z1, z2, z0, z1, z1, (iN 24), (oN 4), z1, z2, z0]) rfl rfl (by show (d) * 7 + 6 = 7 * d + 6; omega) rfl)
    (allCons (vlP (k := d) (b := 7 * d) (c := 2) (o := 5) (L := [z1, z1, (iN 21), (oN 3), z1, z2, z0, z1, z1, (iN 24), (oN 4), z1, z2, z0]) rfl rfl (by show (d) * 7 + 5 = 7 * d + 5; omega) rfl)
    allNil))))))))))
theorem vsC0 {r : Int} {wd : Int} {c0 : Int} {s : Nat} {d : Nat} {o : Nat} (h3 : 0 ≤ r) (h4 : r + 20 ≤ 2000) (h5 : 7 ≤ wd) (h6 : wd ≤ 2048) (h7 : 0 ≤ c0) (h8 : c0 ≤ 200000) (h11 : s ≤ 10000) (h12 : d ≤ 10000) : ∀ x_ ∈ ([⟨2, 8, 7, 2, [(iN 24)], 4⟩, ⟨4, 8, 7, 6, [z0], 5⟩, ⟨5, 5, 7, 2, [(iN 21)], 6⟩, ⟨6, 5, 7, 6, [z1], 7⟩] : List VS), VsOk (ivC0 r wd c0 s d o) (vvC0 s d o) (vkC0 s d o) x_ :=
  (allCons (vsP (k := d + 1) (b := 7 * d) (c := 2) (o := 9) (L := [z1, z1, (iN 18), (oN 3), z1, z2, z0, z1, z1, (iN 21), (oN 4), z1, z2, z1]) (L' := [z1, z1, (iN 18), (oN 3), z1, z2, z0, z1, z1, (iN 24), (oN 4), z1, z2, z1]) rfl rfl rfl rfl rfl (by show (d + 1) * 7 + 2 = 7 * d + 9; omega) rfl (by decide))
    (allCons (vsP (k := d + 1) (b := 7 * d) (c := 2) (o := 13) (L := [z1, z1, (iN 18), (oN 3), z1, z2, z0, z1, z1, (iN 24), (oN 4), z1, z2, z1]) (L' := [z1, z1, (iN 18), (oN 3), z1, z2, z0, z1, z1, (iN 24), (oN 4), z1, z2, z0]) rfl rfl rfl rfl rfl (by show (d + 1) * 7 + 6 = 7 * d + 13; omega) rfl (by decide))
    (allCons (vsP (k := d) (b := 7 * d) (c := 2) (o := 2) (L := [z1, z1, (iN 18), (oN 3), z1, z2, z0, z1, z1, (iN 24), (oN 4), z1, z2, z0]) (L' := [z1, z1, (iN 21), (oN 3), z1, z2, z0, z1, z1, (iN 24), (oN 4), z1, z2, z0]) rfl rfl rfl rfl rfl (by show (d) * 7 + 2 = 7 * d + 2; omega) rfl (by decide))
    (allCons (vsP (k := d) (b := 7 * d) (c := 2) (o := 6) (L := [z1, z1, (iN 21), (oN 3), z1, z2, z0, z1, z1, (iN 24), (oN 4), z1, z2, z0]) (L' := [z1, z1, (iN 21), (oN 3), z1, z2, z1, z1, z1, (iN 24), (oN 4), z1, z2, z0]) rfl rfl rfl rfl rfl (by show (d) * 7 + 6 = 7 * d + 6; omega) rfl (by decide))
    allNil))))
theorem vaC0 {r : Int} {wd : Int} {c0 : Int} {s : Nat} {d : Nat} {o : Nat} (h3 : 0 ≤ r) (h4 : r + 20 ≤ 2000) (h5 : 7 ≤ wd) (h6 : wd ≤ 2048) (h7 : 0 ≤ c0) (h8 : c0 ≤ 200000) (h11 : s ≤ 10000) (h12 : d ≤ 10000) : ∀ x_ ∈ ([⟨0, 4, 1, [(iN 11)], 8, 11⟩, ⟨1, 4, 1, [bT], 9, 11⟩] : List VA), VaOk (ivC0 r wd c0 s d o) (vvC0 s d o) (vkC0 s d o) x_ :=
  (allCons (vaP (j := s + 1) (j' := s + 2) (b := s) (c := 0) (o := 1) (L := [(iN 9), (iN 9), (iN 11)]) (L' := [(iN 9), (iN 11)]) rfl rfl rfl rfl rfl (by show (s + 1) * 1 = s + 1; omega) (by show (s + 2) * 1 = s + 1 + 1; omega) rfl (by decide) (by show s + 2 < 1000000; omega))
    (allCons (vaP (j := s + 1) (j' := s + 2) (b := s) (c := 1) (o := 1) (L := [bT, bT, bT]) (L' := [bT, bT]) rfl rfl rfl rfl rfl (by show (s + 1) * 1 = s + 1; omega) (by show (s + 2) * 1 = s + 1 + 1; omega) rfl (by decide) (by show s + 2 < 1000000; omega))
    allNil))
abbrev RC0 {r : Int} {wd : Int} {c0 : Int} {s : Nat} {d : Nat} {o : Nat} (h3 : 0 ≤ r) (h4 : r + 20 ≤ 2000) (h5 : 7 ≤ wd) (h6 : wd ≤ 2048) (h7 : 0 ≤ c0) (h8 : c0 ≤ 200000) (h11 : s ≤ 10000) (h12 : d ≤ 10000) : VRows (ivC0 r wd c0 s d o) (vvC0 s d o) (vkC0 s d o) where
  vvp := vpC0 s d o
  ib := [(14, .oi 0, .int .i64 2000, .bool false), (9, .oi 7, .int .i64 0, .bool false), (1, .oi 7, .int .i64 1, .oi 8), (11, .oi 8, .oi 7, .bool true), (14, .oi 8, .int .i64 0, .bool true), (0, .oi 0, .int .i64 1, .oi 9), (0, .oi 2, .int .i64 1, .oi 10), (1, .oi 6, .int .i64 1, .oi 11), (1, .oi 11, .int .i64 0, .oi 11), (11, .oi 11, .oi 6, .bool true), (14, .oi 11, .int .i64 0, .bool true), (12, .oi 11, .oi 6, .bool true), (1, .oi 1, .int .i64 7, .oi 12), (12, .oi 4, .oi 11, .bool true), (14, .oi 4, .int .i64 0, .bool true), (12, .oi 8, .oi 7, .bool true), (9, .oi 8, .int .i64 0, .bool false), (1, .oi 8, .int .i64 1, .oi 5), (11, .oi 5, .oi 8, .bool true), (14, .oi 5, .int .i64 0, .bool true), (14, .oi 9, .int .i64 2000, .bool false), (0, .oi 9, .int .i64 1, .oi 13), (0, .oi 10, .int .i64 1, .oi 14)]
  ibok := ibC0 h3 h4 h5 h6 h7 h8 h11 h12
  ic := []
  icok := icC0 h3 h4 h5 h6 h7 h8 h11 h12
  vl := [⟨3, 8, 1, 0, [(pN 30005)]⟩, ⟨4, 8, 7, 6, [z1]⟩, ⟨0, 11, 1, 0, [(iN 11)]⟩, ⟨1, 11, 1, 0, [bT]⟩, ⟨5, 8, 7, 4, [z1]⟩, ⟨5, 8, 7, 5, [z2]⟩, ⟨5, 8, 7, 3, [(oN 4)]⟩, ⟨3, 5, 1, 0, [(pN 30040)]⟩, ⟨6, 5, 7, 6, [z0]⟩, ⟨6, 5, 7, 5, [z2]⟩]
  vlok := vlC0 h3 h4 h5 h6 h7 h8 h11 h12
  vs := [⟨2, 8, 7, 2, [(iN 24)], 4⟩, ⟨4, 8, 7, 6, [z0], 5⟩, ⟨5, 5, 7, 2, [(iN 21)], 6⟩, ⟨6, 5, 7, 6, [z1], 7⟩]
  vsok := vsC0 h3 h4 h5 h6 h7 h8 h11 h12
  va := [⟨0, 4, 1, [(iN 11)], 8, 11⟩, ⟨1, 4, 1, [bT], 9, 11⟩]
  vaok := vaC0 h3 h4 h5 h6 h7 h8 h11 h12
  vc := []
  vcok := allNil
noncomputable abbrev rl_goC0 : List (Nat × Nat) := [(30000, 30000), (30001, 30302), (30002, 30303), (30003, 30003), (30004, 30004), (30005, 30040), (30020, 30239), (30021, 30021), (30022, 30022), (30023, 30023), (30024, 30024)]
noncomputable abbrev bs_goC0 : BS := [(7716, 7716, kb0), (7717, 7717, kb1), (7718, 7718, kb2), (7914, 7914, kb3), (10463, 10463, kb7), (10971, 10971, kb43), (10972, 10972, (.map [(tx67, z0, 0)] 1)), (10973, 10973, kb44), (10977, 10977, (.cells 7 false [] (T.ofList 0 .leaf [(pN 10971), (pN 10973), (pN 7718), (.so 11691 0 39 3), (.ov 30020 0 1), bF, bF]))), (11691, 11691, kb14), (13691, 13691, (.cells 1 false [] (T.ofList 0 .leaf [bT]))), (13693, 13693, kb15), (14317, 14317, (.cells 4 false [] (T.ofList 0 .leaf [(.ov 30001 1 1), (.ov 30002 1 1), (.ov 30003 2 7), (oN 3)]))), (14318, 14318, kb17), (14320, 14320, (.map [(tx8, (iN 7), 0), (tx7, (iN 3), 1), (tx1, (oN 4), 2)] 3)), (14321, 14321, (.cells 32 false [] (T.ofList 0 .leaf [(pN 7718), (pN 10976), (pN 10971), (pN 10973), (pN 10977), (pN 14317), (.ov 30004 2 1), (.map 14318), (.map 14319), .nils, z1, (iN 3), (iN 6), z0, .nilp, bT, (iN 2000), (oN 5), z0, z1, z0, z0, (uN 0), z0, tx4, tx4, bF, z0, .nils, z0, z0, (.map 14320)]))), (14616, 14616, kb21), (14618, 14618, kb22), (15877, 15877, kb24), (16327, 16327, kb25), (16333, 16333, kb26), (16430, 16430, kb27), (16432, 16432, kb28), (17419, 17419, kb29), (17785, 17785, kb30), (18694, 18694, kb32), (18699, 18699, kb33), (18799, 18799, kb34), (20208, 20208, kb33), (30000, 30000, kb31), (30001, 30302, (.vec 0)), (30002, 30303, (.vec 1)), (30003, 30003, (.vec 2)), (30004, 30004, (.vec 3)), (30005, 30040, kb46), (30020, 30239, (.vec 4)), (30021, 30021, kb47), (30022, 30022, kb48), (30023, 30023, kb49), (30024, 30024, (.cells 1 true [] (T.ofList 0 .leaf [(iN 11)])))]
noncomputable abbrev ip_goC0 : IP := [(.int .i64 3, 0), (.oi 11, 1), (.oi 8, 2), (.oi 12, 3), (.oi 14, 4), (.oi 13, 5), (.oi 3, 6)]
theorem bq_goC0 : hOf 30040 bs_goC0 = hOf 30040 bsR := hOf_congr (by kernel_rfl)
theorem goC0 {r : Int} {wd : Int} {c0 : Int} {s : Nat} {d : Nat} {o : Nat} (h3 : 0 ≤ r) (h4 : r + 20 ≤ 2000) (h5 : 7 ≤ wd) (h6 : wd ≤ 2048) (h7 : 0 ≤ c0) (h8 : c0 ≤ 200000) (h11 : s ≤ 10000) (h12 : d ≤ 10000) {rv : Nat → Value} (hb : Base B μ 30000) {Q : Exit → Act → World → Prop} {j_ : Nat} (s_ : SC0 r wd c0 s d o rv B w0 μ a w) (hQ : ∀ a' w', SR (r + 2) (wd - 7) (c0 + 2) (s) (d) (3) rv B w0 μ a' w' → Code.rounds Tryz.prog la Q j_ a' w') : Code.rounds Tryz.prog la Q (j_ + 2) a w := by
  have hip : IpOk ((RC0 (r := r) (wd := wd) (c0 := c0) (s := s) (d := d) (o := o) h3 h4 h5 h6 h7 h8 h11 h12).rtab rv) (PR (r + 2) (wd - 7) (c0 + 2) (s) (d) (3) rv) ip_goC0 := (ipCons (ipK (show (IntKind.i64, ((3 : Nat) : Int)) = (IntKind.i64, 3) from Prod.ext rfl (show (((3 : Nat) : Int) : Int) = 3 by omega))) (ipCons (ipN (.i64, ((s + 2 : Nat) : Int)) rfl rfl) (ipCons (ipN (.i64, ((d + 1 : Nat) : Int)) rfl rfl) (ipCons (ipN (.i64, wd - 7) rfl (show (IntKind.i64, (wd - 7)) = (IntKind.i64, wd - 7) from Prod.ext rfl (show ((wd - 7) : Int) = wd - 7 by omega))) (ipCons (ipN (.i64, c0 + 2) rfl (show (IntKind.i64, (c0 + 2)) = (IntKind.i64, c0 + 2) from Prod.ext rfl (show ((c0 + 2) : Int) = c0 + 2 by omega))) (ipCons (ipN (.i64, r + 2) rfl (show (IntKind.i64, (r + 2)) = (IntKind.i64, r + 2) from Prod.ext rfl (show ((r + 2) : Int) = r + 2 by omega))) (ipCons (ipN (.i64, ((s : Nat) : Int)) rfl rfl) ipNil)))))))
  have hvp : VpOk ((RC0 (r := r) (wd := wd) (c0 := c0) (s := s) (d := d) (o := o) h3 h4 h5 h6 h7 h8 h11 h12).rtab rv) (PR (r + 2) (wd - 7) (c0 + 2) (s) (d) (3) rv) ⟨30000, 30040, ofPairs rl_goC0, ip_goC0⟩ [(30302, .vec 8, 0), (30303, .vec 9, 1), (30003, .vec 7, 2), (30004, .vec 3, 3), (30239, .cells 3 true [] (T.ofList 0 .leaf [(uN 109), (uN 101), (uN 10)]), 4)] := (vpCons (vpPre (i := 8) (i' := 0) hip rfl rfl rfl (Nat.add_le_add_left (by decide) _) (by kernel_rfl))
    (vpCons (vpPre (i := 9) (i' := 1) hip rfl rfl rfl (Nat.add_le_add_left (by decide) _) (by kernel_rfl))
    (vpCons (vpPre (i := 7) (i' := 2) hip rfl rfl rfl (Nat.add_le_add_left (by decide) _) (by kernel_rfl))
    (vpCons (vpPre (i := 3) (i' := 3) hip rfl rfl rfl (Nat.add_le_add_left (by decide) _) (by kernel_rfl))
    (vpCons (vpCellsG (T := ((RC0 (r := r) (wd := wd) (c0 := c0) (s := s) (d := d) (o := o) h3 h4 h5 h6 h7 h8 h11 h12).rtab rv)) (T' := (PR (r + 2) (wd - 7) (c0 + 2) (s) (d) (3) rv)) (i' := 4) (b' := 3) hip (g := bs.outG) (L := [(uN 109), (uN 101), (uN 10)]) (L' := []) rfl rfl (by decide) (by show 3 + 0 ≤ 3; decide) (by decide) bs.outG_int bs.outStart (by kernel_rfl))
    vpNil)))))
  exact stepsTo_sound (T := ((RC0 (r := r) (wd := wd) (c0 := c0) (s := s) (d := d) (o := o) h3 h4 h5 h6 h7 h8 h11 h12).rtab rv)) (T' := (PR (r + 2) (wd - 7) (c0 + 2) (s) (d) (3) rv)) (K := Hand.none) (m := 5000) mixed (@HandOk.none ((RC0 (r := r) (wd := wd) (c0 := c0) (s := s) (d := d) (o := o) h3 h4 h5 h6 h7 h8 h11 h12).rtab rv) Tryz.prog) (C := ⟨30000, 30040, ofPairs rl_goC0, ip_goC0⟩) (ex := .normal) (rl := rl_goC0) (vp := [(30302, .vec 8, 0), (30303, .vec 9, 1), (30003, .vec 7, 2), (30004, .vec 3, 3), (30239, .cells 3 true [] (T.ofList 0 .leaf [(uN 109), (uN 101), (uN 10)]), 4)]) (fs := fsR) (bs := bs_goC0)
    hb (by decide) rfl (by kernel_rfl) hip hvp (glNone rfl rfl) (by as_aux_lemma => kernel_rfl) (St.same (VRows.rsame _ _ _) s_) (fun a' w' q => hQ a' w' (by rw [bq_goC0] at q; exact q))
end
end Go.Proofs.YtbgkinjicnnkiaaGreatDoor.sp
