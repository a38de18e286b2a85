/-
  Steps to the first answer.
-/
import Derived.Test.YtbgkinjicnnkiaaGreatDoorSNN
import Derived.Test.YtbgkinjicnnkiaaGreatDoorSPS
import Derived.Test.YtbgkinjicnnkiaaGreatDoorXN3
import Derived.Test.YtbgkinjicnnkiaaGreatDoorSPX
import Derived.Test.YtbgkinjicnnkiaaGreatDoorProg
import Derived.KernelRfl
set_option linter.unusedSectionVars false
set_option linter.unusedVariables false
set_option maxRecDepth 1000000
set_option maxHeartbeats 0
namespace Go.Proofs.YtbgkinjicnnkiaaGreatDoor.sp
open Go.X Go.RowKit Go.Proofs.YtbgkinjicnnkiaaGreatDoor
section
variable {B : Kp} {w0 : World} {μ : M} {a : Act} {w : World}
theorem ibA {v : Int} {r : Int} {wd : Int} {c0 : Int} {s : Nat} {d : Nat} {o : Nat} (h1 : v = 0) (h3 : 0 ≤ r) (h4 : r + 20 ≤ 2000) (h5 : 0 ≤ wd) (h6 : wd + 7 ≤ 2048) (h7 : 0 ≤ c0) (h8 : c0 ≤ 200000) (h11 : s ≤ 10000) (h12 : d ≤ 10000) : ∀ x_ ∈ ([(14, .oi 1, .int .i64 2000, .bool false), (9, .oi 7, .int .i64 0, .bool false), (1, .oi 7, .int .i64 1, .oi 5), (11, .oi 5, .oi 7, .bool true), (14, .oi 5, .int .i64 0, .bool true), (0, .oi 1, .int .i64 1, .oi 8), (0, .oi 3, .int .i64 1, .oi 9), (1, .oi 6, .int .i64 1, .oi 10), (1, .oi 10, .int .i64 0, .oi 10), (11, .oi 10, .oi 6, .bool true), (14, .oi 10, .int .i64 0, .bool true), (12, .oi 10, .oi 6, .bool true), (12, .oi 0, .int .i64 0, .bool true), (14, .oi 8, .int .i64 2000, .bool false), (0, .oi 8, .int .i64 1, .oi 11), (0, .oi 9, .int .i64 1, .oi 12)] : List BRow), IbOk (ivE v r wd c0 s d o) x_ := by
  letI := Tab.empty
  exact (ibCons (ibGe (a := (r)) (b := (2000)) rfl rfl (decide_eq_false (by omega)))
    (ibCons (ibEq (a := (((d + 1 : Nat) : Int))) (b := (0)) rfl rfl (decide_eq_false (by omega)))
    (ibCons (ibSub (a := (((d + 1 : Nat) : Int))) (b := (1)) (c := (((d : Nat) : Int))) rfl rfl rfl (by first | assumption | omega) (by omega) (by omega))
    (ibCons (ibLt (a := (((d : Nat) : Int))) (b := (((d + 1 : Nat) : Int))) rfl rfl (decide_eq_true (by omega)))
    (ibCons (ibGe (a := (((d : Nat) : Int))) (b := (0)) rfl rfl (decide_eq_true (by omega)))
    (ibCons (ibAdd (a := (r)) (b := (1)) (c := (r + 1)) rfl rfl rfl (by first | assumption | omega) (by omega) (by omega))
    (ibCons (ibAdd (a := (c0)) (b := (1)) (c := (c0 + 1)) rfl rfl rfl (by first | assumption | omega) (by omega) (by omega))
    (ibCons (ibSub (a := (((s + 2 : Nat) : Int))) (b := (1)) (c := (((s + 1 : Nat) : Int))) rfl rfl rfl (by first | assumption | omega) (by omega) (by omega))
    (ibCons (ibSub (a := (((s + 1 : Nat) : Int))) (b := (0)) (c := (((s + 1 : Nat) : Int))) rfl rfl rfl (by first | assumption | omega) (by omega) (by omega))
    (ibCons (ibLt (a := (((s + 1 : Nat) : Int))) (b := (((s + 2 : Nat) : Int))) rfl rfl (decide_eq_true (by omega)))
    (ibCons (ibGe (a := (((s + 1 : Nat) : Int))) (b := (0)) rfl rfl (decide_eq_true (by omega)))
    (ibCons (ibLe (a := (((s + 1 : Nat) : Int))) (b := (((s + 2 : Nat) : Int))) rfl rfl (decide_eq_true (by omega)))
    (ibCons (ibLe (a := (v)) (b := (0)) rfl rfl (decide_eq_true (by omega)))
    (ibCons (ibGe (a := (r + 1)) (b := (2000)) rfl rfl (decide_eq_false (by omega)))
    (ibCons (ibAdd (a := (r + 1)) (b := (1)) (c := (r + 2)) rfl rfl rfl (by first | assumption | omega) (by omega) (by omega))
    (ibCons (ibAdd (a := (c0 + 1)) (b := (1)) (c := (c0 + 2)) rfl rfl rfl (by first | assumption | omega) (by omega) (by omega))
    ibNil))))))))))))))))
theorem icA {v : Int} {r : Int} {wd : Int} {c0 : Int} {s : Nat} {d : Nat} {o : Nat} (h1 : v = 0) (h3 : 0 ≤ r) (h4 : r + 20 ≤ 2000) (h5 : 0 ≤ wd) (h6 : wd + 7 ≤ 2048) (h7 : 0 ≤ c0) (h8 : c0 ≤ 200000) (h11 : s ≤ 10000) (h12 : d ≤ 10000) : ∀ x_ ∈ ([] : List (IntKind × AV × AV)), IcOk' (ivE v r wd c0 s d o) x_ := icNil
theorem vlA {v : Int} {r : Int} {wd : Int} {c0 : Int} {s : Nat} {d : Nat} {o : Nat} (h1 : v = 0) (h3 : 0 ≤ r) (h4 : r + 20 ≤ 2000) (h5 : 0 ≤ wd) (h6 : wd + 7 ≤ 2048) (h7 : 0 ≤ c0) (h8 : c0 ≤ 200000) (h11 : s ≤ 10000) (h12 : d ≤ 10000) : ∀ x_ ∈ ([⟨3, 5, 1, 0, [(pN 30005)]⟩, ⟨4, 5, 7, 6, [z1]⟩, ⟨0, 10, 1, 0, [(oN 0)]⟩, ⟨1, 10, 1, 0, [bF]⟩, ⟨18, 5, 7, 6, [z0]⟩, ⟨18, 5, 7, 5, [z2]⟩] : List VL), VlOk (ivE v r wd c0 s d o) (vvE s d o) x_ :=
  (allCons (vlP (k := d) (b := d) (c := 3) (o := 0) (L := [(pN 30005)]) rfl rfl (by show (d) * 1 + 0 = d + 0; omega) rfl)
    (allCons (vlP (k := d) (b := 7 * d) (c := 2) (o := 6) (L := [z1, z1, (iN 3), (oN 4), z1, z2, z1]) rfl rfl (by show (d) * 7 + 6 = 7 * d + 6; omega) rfl)
    (allCons (vlP (k := s + 1) (b := s) (c := 0) (o := 1) (L := [(iN 9), (oN 0)]) rfl rfl (by show (s + 1) * 1 + 0 = s + 1; omega) rfl)
    (allCons (vlP (k := s + 1) (b := s) (c := 1) (o := 1) (L := [bT, bF]) rfl rfl (by show (s + 1) * 1 + 0 = s + 1; omega) rfl)
    (allCons (vlP (k := d) (b := 7 * d) (c := 2) (o := 6) (L := [z1, z1, (iN 21), (oN 4), z1, z2, z0]) rfl rfl (by show (d) * 7 + 6 = 7 * d + 6; omega) rfl)
    (allCons (vlP (k := d) (b := 7 * d) (c := 2) (o := 5) (L := [z1, z1, (iN 21), (oN 4), z1, z2, z0]) rfl rfl (by show (d) * 7 + 5 = 7 * d + 5; omega) rfl)
    allNil))))))
theorem vsA {v : Int} {r : Int} {wd : Int} {c0 : Int} {s : Nat} {d : Nat} {o : Nat} (h1 : v = 0) (h3 : 0 ≤ r) (h4 : r + 20 ≤ 2000) (h5 : 0 ≤ wd) (h6 : wd + 7 ≤ 2048) (h7 : 0 ≤ c0) (h8 : c0 ≤ 200000) (h11 : s ≤ 10000) (h12 : d ≤ 10000) : ∀ x_ ∈ ([⟨2, 5, 7, 2, [(iN 3)], 4⟩, ⟨4, 5, 7, 6, [z0], 5⟩, ⟨5, 5, 7, 2, [(iN 21)], 18⟩, ⟨18, 5, 7, 6, [z1], 19⟩] : List VS), VsOk (ivE v r wd c0 s d o) (vvE s d o) (vkE s d o) x_ :=
  (allCons (vsP (k := d) (b := 7 * d) (c := 2) (o := 2) (L := [z1, z1, z0, (oN 4), z1, z2, z1]) (L' := [z1, z1, (iN 3), (oN 4), z1, z2, z1]) rfl rfl rfl rfl rfl (by show (d) * 7 + 2 = 7 * d + 2; omega) rfl (by decide))
    (allCons (vsP (k := d) (b := 7 * d) (c := 2) (o := 6) (L := [z1, z1, (iN 3), (oN 4), z1, z2, z1]) (L' := [z1, z1, (iN 3), (oN 4), z1, z2, z0]) rfl rfl rfl rfl rfl (by show (d) * 7 + 6 = 7 * d + 6; omega) rfl (by decide))
    (allCons (vsP (k := d) (b := 7 * d) (c := 2) (o := 2) (L := [z1, z1, (iN 3), (oN 4), z1, z2, z0]) (L' := [z1, z1, (iN 21), (oN 4), z1, z2, z0]) rfl rfl rfl rfl rfl (by show (d) * 7 + 2 = 7 * d + 2; omega) rfl (by decide))
    (allCons (vsP (k := d) (b := 7 * d) (c := 2) (o := 6) (L := [z1, z1, (iN 21), (oN 4), z1, z2, z0]) (L' := [z1, z1, (iN 21), (oN 4), z1, z2, z1]) rfl rfl rfl rfl rfl (by show (d) * 7 + 6 = 7 * d + 6; omega) rfl (by decide))
    allNil))))
theorem vaA {v : Int} {r : Int} {wd : Int} {c0 : Int} {s : Nat} {d : Nat} {o : Nat} (h1 : v = 0) (h3 : 0 ≤ r) (h4 : r + 20 ≤ 2000) (h5 : 0 ≤ wd) (h6 : wd + 7 ≤ 2048) (h7 : 0 ≤ c0) (h8 : c0 ≤ 200000) (h11 : s ≤ 10000) (h12 : d ≤ 10000) : ∀ x_ ∈ ([⟨0, 10, 1, [(iN 11)], 20, 6⟩, ⟨1, 10, 1, [bT], 21, 6⟩] : List VA), VaOk (ivE v r wd c0 s d o) (vvE s d o) (vkE s d o) x_ :=
  (allCons (vaP (j := s + 1) (j' := s + 2) (b := s) (c := 0) (o := 1) (L := [(iN 9), (oN 0)]) (L' := [(iN 9), (iN 11)]) rfl rfl rfl rfl rfl (by show (s + 1) * 1 = s + 1; omega) (by show (s + 2) * 1 = s + 1 + 1; omega) rfl (by decide) (by show s + 2 < 1000000; omega))
    (allCons (vaP (j := s + 1) (j' := s + 2) (b := s) (c := 1) (o := 1) (L := [bT, bF]) (L' := [bT, bT]) rfl rfl rfl rfl rfl (by show (s + 1) * 1 = s + 1; omega) (by show (s + 2) * 1 = s + 1 + 1; omega) rfl (by decide) (by show s + 2 < 1000000; omega))
    allNil))
abbrev RA {v : Int} {r : Int} {wd : Int} {c0 : Int} {s : Nat} {d : Nat} {o : Nat} (h1 : v = 0) (h3 : 0 ≤ r) (h4 : r + 20 ≤ 2000) (h5 : 0 ≤ wd) (h6 : wd + 7 ≤ 2048) (h7 : 0 ≤ c0) (h8 : c0 ≤ 200000) (h11 : s ≤ 10000) (h12 : d ≤ 10000) : VRows (ivE v r wd c0 s d o) (vvE s d o) (vkE s d o) where
  vvp := vpE s d o
  ib := [(14, .oi 1, .int .i64 2000, .bool false), (9, .oi 7, .int .i64 0, .bool false), (1, .oi 7, .int .i64 1, .oi 5), (11, .oi 5, .oi 7, .bool true), (14, .oi 5, .int .i64 0, .bool true), (0, .oi 1, .int .i64 1, .oi 8), (0, .oi 3, .int .i64 1, .oi 9), (1, .oi 6, .int .i64 1, .oi 10), (1, .oi 10, .int .i64 0, .oi 10), (11, .oi 10, .oi 6, .bool true), (14, .oi 10, .int .i64 0, .bool true), (12, .oi 10, .oi 6, .bool true), (12, .oi 0, .int .i64 0, .bool true), (14, .oi 8, .int .i64 2000, .bool false), (0, .oi 8, .int .i64 1, .oi 11), (0, .oi 9, .int .i64 1, .oi 12)]
  ibok := ibA h1 h3 h4 h5 h6 h7 h8 h11 h12
  ic := []
  icok := icA h1 h3 h4 h5 h6 h7 h8 h11 h12
  vl := [⟨3, 5, 1, 0, [(pN 30005)]⟩, ⟨4, 5, 7, 6, [z1]⟩, ⟨0, 10, 1, 0, [(oN 0)]⟩, ⟨1, 10, 1, 0, [bF]⟩, ⟨18, 5, 7, 6, [z0]⟩, ⟨18, 5, 7, 5, [z2]⟩]
  vlok := vlA h1 h3 h4 h5 h6 h7 h8 h11 h12
  vs := [⟨2, 5, 7, 2, [(iN 3)], 4⟩, ⟨4, 5, 7, 6, [z0], 5⟩, ⟨5, 5, 7, 2, [(iN 21)], 18⟩, ⟨18, 5, 7, 6, [z1], 19⟩]
  vsok := vsA h1 h3 h4 h5 h6 h7 h8 h11 h12
  va := [⟨0, 10, 1, [(iN 11)], 20, 6⟩, ⟨1, 10, 1, [bT], 21, 6⟩]
  vaok := vaA h1 h3 h4 h5 h6 h7 h8 h11 h12
  vc := []
  vcok := allNil
noncomputable abbrev rl_goA : List (Nat × Nat) := [(30000, 30000), (30001, 30145), (30002, 30146), (30003, 30003), (30004, 30004), (30005, 30005), (30021, 30128), (30022, 30129), (30023, 30131), (30024, 30142)]
noncomputable abbrev bs_goA : BS := [(7716, 7716, kb0), (7717, 7717, kb1), (7718, 7718, kb2), (7914, 7914, kb3), (10463, 10463, kb7), (10971, 10971, kb43), (10972, 10972, (.map [(tx67, z0, 0)] 1)), (10973, 10973, kb44), (10977, 10977, kb13), (11691, 11691, kb14), (13691, 13691, (.cells 1 false [] (T.ofList 0 .leaf [bT]))), (13693, 13693, kb15), (14317, 14317, kb40), (14318, 14318, kb17), (14320, 14320, kb19), (14321, 14321, kb41), (14616, 14616, kb21), (14618, 14618, kb22), (15877, 15877, kb24), (16327, 16327, kb25), (16333, 16333, kb26), (16430, 16430, kb27), (16432, 16432, kb28), (17419, 17419, kb29), (17785, 17785, kb30), (18694, 18694, kb32), (18699, 18699, kb33), (18799, 18799, kb34), (20208, 20208, kb33), (30000, 30000, kb31), (30001, 30145, (.vec 0)), (30002, 30146, (.vec 1)), (30003, 30003, (.vec 2)), (30004, 30004, (.vec 3)), (30005, 30005, kb46), (30021, 30128, kb47), (30022, 30129, kb48), (30023, 30131, kb49), (30024, 30142, (.cells 1 true [] (T.ofList 0 .leaf [(iN 11)])))]
noncomputable abbrev ip_goA : IP := [(.oi 6, 0), (.oi 7, 1), (.oi 2, 2), (.oi 12, 3), (.oi 11, 4), (.oi 4, 5)]
theorem bq_goA : hOf 30040 bs_goA = hOf 30040 bsR0 := hOf_congr (by kernel_rfl)
theorem goA {v : Int} {r : Int} {wd : Int} {c0 : Int} {s : Nat} {d : Nat} {o : Nat} (h1 : v = 0) (h3 : 0 ≤ r) (h4 : r + 20 ≤ 2000) (h5 : 0 ≤ wd) (h6 : wd + 7 ≤ 2048) (h7 : 0 ≤ c0) (h8 : c0 ≤ 200000) (h11 : s ≤ 10000) (h12 : d ≤ 10000) {rv : Nat → Value} (hb : Base B μ 30000) {Q : Exit → Act → World → Prop} {j_ : Nat} (s_ : SE v r wd c0 s d o rv B w0 μ a w) (hQ : ∀ a' w', SR0 (r + 2) (wd) (c0 + 2) (s) (d) (o) rv B w0 μ a' w' → Code.rounds Tryz.prog la Q j_ a' w') : Code.rounds Tryz.prog la Q (j_ + 2) a w := by
  have hip : IpOk ((RA (v := v) (r := r) (wd := wd) (c0 := c0) (s := s) (d := d) (o := o) h1 h3 h4 h5 h6 h7 h8 h11 h12).rtab rv) (PR0 (r + 2) (wd) (c0 + 2) (s) (d) (o) rv) ip_goA := (ipCons (ipN (.i64, ((s + 2 : Nat) : Int)) rfl rfl) (ipCons (ipN (.i64, ((d + 1 : Nat) : Int)) rfl rfl) (ipCons (ipN (.i64, wd) rfl rfl) (ipCons (ipN (.i64, c0 + 2) rfl (show (IntKind.i64, (c0 + 2)) = (IntKind.i64, c0 + 2) from Prod.ext rfl (show ((c0 + 2) : Int) = c0 + 2 by omega))) (ipCons (ipN (.i64, r + 2) rfl (show (IntKind.i64, (r + 2)) = (IntKind.i64, r + 2) from Prod.ext rfl (show ((r + 2) : Int) = r + 2 by omega))) (ipCons (ipN (.i64, ((s : Nat) : Int)) rfl rfl) ipNil))))))
  have hvp : VpOk ((RA (v := v) (r := r) (wd := wd) (c0 := c0) (s := s) (d := d) (o := o) h1 h3 h4 h5 h6 h7 h8 h11 h12).rtab rv) (PR0 (r + 2) (wd) (c0 + 2) (s) (d) (o) rv) ⟨30000, 30040, ofPairs rl_goA, ip_goA⟩ [(30145, .vec 20, 0), (30146, .vec 21, 1), (30003, .vec 19, 2), (30004, .vec 3, 3)] := (vpCons (vpPre (i := 20) (i' := 0) hip rfl rfl rfl (Nat.add_le_add_left (by decide) _) (by kernel_rfl))
    (vpCons (vpPre (i := 21) (i' := 1) hip rfl rfl rfl (Nat.add_le_add_left (by decide) _) (by kernel_rfl))
    (vpCons (vpPre (i := 19) (i' := 2) hip rfl rfl rfl (Nat.add_le_add_left (by decide) _) (by kernel_rfl))
    (vpCons (vpPre (i := 3) (i' := 3) hip rfl rfl rfl (Nat.add_le_add_left (by decide) _) (by kernel_rfl))
    vpNil))))
  exact stepsTo_sound (T := ((RA (v := v) (r := r) (wd := wd) (c0 := c0) (s := s) (d := d) (o := o) h1 h3 h4 h5 h6 h7 h8 h11 h12).rtab rv)) (T' := (PR0 (r + 2) (wd) (c0 + 2) (s) (d) (o) rv)) (K := Hand.none) (m := 5000) mixed (@HandOk.none ((RA (v := v) (r := r) (wd := wd) (c0 := c0) (s := s) (d := d) (o := o) h1 h3 h4 h5 h6 h7 h8 h11 h12).rtab rv) Tryz.prog) (C := ⟨30000, 30040, ofPairs rl_goA, ip_goA⟩) (ex := .normal) (rl := rl_goA) (vp := [(30145, .vec 20, 0), (30146, .vec 21, 1), (30003, .vec 19, 2), (30004, .vec 3, 3)]) (fs := fsR) (bs := bs_goA)
    hb (by decide) rfl (by kernel_rfl) hip hvp (glNone rfl rfl) (by as_aux_lemma => kernel_rfl) (St.same (VRows.rsame _ _ _) s_) (fun a' w' q => hQ a' w' (by rw [bq_goA] at q; exact q))
end
end Go.Proofs.YtbgkinjicnnkiaaGreatDoor.sp
