/-
  First steps of the machine within the law TopSpeaks.
-/
import Derived.Test.YtbgkinjicnnkiaaGreatDoorSNN
import Derived.Test.YtbgkinjicnnkiaaGreatDoorSPT
import Derived.Test.YtbgkinjicnnkiaaGreatDoorSQT0
import Derived.Test.YtbgkinjicnnkiaaGreatDoorXN3
import Derived.Test.YtbgkinjicnnkiaaGreatDoorSPX
import Derived.Test.YtbgkinjicnnkiaaGreatDoorProg
import Derived.KernelRfl
set_option linter.unusedSectionVars false
set_option linter.unusedVariables false
set_option maxRecDepth 1000000
set_option maxHeartbeats 0
namespace Go.Proofs.YtbgkinjicnnkiaaGreatDoor.sp
open Go.X Go.RowKit Go.Proofs.YtbgkinjicnnkiaaGreatDoor
section
variable {B : Kp} {w0 w w1 : World} {μ μ0 : M} {a : Act}
theorem ibS {v : Int} {s : Nat} {d : Nat} {o : Nat} (h1 : 0 ≤ v) (h2 : v ≤ 100) : ∀ x_ ∈ ([] : List BRow), IbOk (ivB v s d o) x_ := by
  letI := Tab.empty
  exact ibNil
theorem icS {v : Int} {s : Nat} {d : Nat} {o : Nat} (h1 : 0 ≤ v) (h2 : v ≤ 100) : ∀ x_ ∈ ([(.i32, .oi 0, .oi 1), (.i64, .oi 1, .oi 0)] : List (IntKind × AV × AV)), IcOk' (ivB v s d o) x_ := (icCons (ic32 (n := (v)) rfl rfl (by omega) (by omega)) (icCons (ic64 (n := (v)) rfl rfl (by omega) (by omega)) icNil))
theorem vlS {v : Int} {s : Nat} {d : Nat} {o : Nat} (h1 : 0 ≤ v) (h2 : v ≤ 100) : ∀ x_ ∈ ([] : List VL), VlOk (ivB v s d o) (vvB s d o) x_ :=
  allNil
theorem vsS {v : Int} {s : Nat} {d : Nat} {o : Nat} (h1 : 0 ≤ v) (h2 : v ≤ 100) : ∀ x_ ∈ ([] : List VS), VsOk (ivB v s d o) (vvB s d o) (vkB s d o) x_ :=
  allNil
theorem vaS {v : Int} {s : Nat} {d : Nat} {o : Nat} (h1 : 0 ≤ v) (h2 : v ≤ 100) : ∀ x_ ∈ ([] : List VA), VaOk (ivB v s d o) (vvB s d o) (vkB s d o) x_ :=
  allNil
abbrev RS {v : Int} {s : Nat} {d : Nat} {o : Nat} (h1 : 0 ≤ v) (h2 : v ≤ 100) : VRows (ivB v s d o) (vvB s d o) (vkB s d o) where
  vvp := vpB s d o
  ib := []
  ibok := ibS h1 h2
  ic := [(.i32, .oi 0, .oi 1), (.i64, .oi 1, .oi 0)]
  icok := icS h1 h2
  vl := []
  vlok := vlS h1 h2
  vs := []
  vsok := vsS h1 h2
  va := []
  vaok := vaS h1 h2
  vc := []
  vcok := allNil
noncomputable abbrev rl_goS : List (Nat × Nat) := [(30000, 17792), (30001, 20509), (30002, 20510), (30003, 20477), (30004, 20480), (30005, 21055), (30006, 18708)]
noncomputable abbrev bs_goS : BS := [(7716, 7716, kb0), (7717, 7717, kb1), (7718, 7718, kb2), (7914, 7914, kb3), (7967, 7967, kb4), (10132, 10132, kb5), (10144, 10144, kb6), (10463, 10463, kb7), (10672, 10672, kb8), (10678, 10678, kb9), (10970, 10970, kb10), (10971, 10971, kb11), (10972, 10972, (.map [] 0)), (10973, 10973, kb12), (10977, 10977, kb13), (11691, 11691, kb14), (13691, 13691, (.cells 1 false [] (T.ofList 0 .leaf [bT]))), (13693, 13693, kb15), (14317, 14317, (.cells 4 false [] (T.ofList 0 .leaf [(.ov 30001 0 1), (.ov 30002 0 1), (.ov 30003 1 7), (iN 15)]))), (14318, 14318, kb17), (14319, 14319, kb18), (14320, 14320, (.map [(tx8, (iN 7), 0), (tx7, (iN 3), 1), (tx1, z1, 2)] 3)), (14321, 14321, (.cells 32 false [] (T.ofList 0 .leaf [(pN 7718), (pN 10976), (pN 10971), (pN 10973), (pN 10977), (pN 14317), (.ov 30004 1 1), (.map 14318), (.map 14319), .nils, z1, (iN 3), (iN 6), z0, .nilp, bT, (iN 2000), (iN 11), z0, z1, z0, z0, (uN 0), z0, tx4, tx4, bF, z0, .nils, z0, z0, (.map 14320)]))), (14616, 14616, kb21), (14618, 14618, kb22), (15654, 15654, kb23), (15877, 15877, kb24), (16327, 16327, kb25), (16333, 16333, kb26), (16430, 16430, kb27), (16432, 16432, kb28), (17419, 17419, kb29), (17785, 17785, kb30), (18694, 18694, kb32), (18699, 18699, kb33), (18799, 18799, kb34), (20119, 20119, (.cells 1 false [z0] (T.ofList 0 .leaf [(oN 2)]))), (20208, 20208, kb33), (20314, 20314, kb36), (20315, 20315, kb37), (20317, 20317, kb38), (30000, 17792, kb31), (30001, 20509, (.vec 0)), (30002, 20510, (.vec 1)), (30003, 20477, (.vec 2)), (30004, 20480, (.vec 3)), (30005, 21055, kb39), (30006, 18708, kd50)]
noncomputable abbrev ip_goS : IP := [(.int .i64 3, 0), (.int .i64 2, 1), (.oi 0, 2)]
theorem bq_goS : hOf 30040 bs_goS = hOf 30040 bsE2s := hOf_congr (by kernel_rfl)
theorem goS {v : Int} {s : Nat} {d : Nat} {o : Nat} (h1 : 0 ≤ v) (h2 : v ≤ 100) {rv : Nat → Value} (hb : Base B μ 30000) {Q : Exit → Act → World → Prop} {j_ : Nat} (s_ : SB v s d o rv B w0 μ a w) (hQ : ∀ a' w', SE2s (v) (s) (d) (o) rv B w0 μ a' w' → Code.rounds Tryz.prog la Q j_ a' w') : Code.rounds Tryz.prog la Q (j_ + 11) a w := by
  have hip : IpOk ((RS (v := v) (s := s) (d := d) (o := o) h1 h2).rtab rv) (PE2s (v) (s) (d) (o) rv) ip_goS := (ipCons (ipK (show (IntKind.i64, ((3 : Nat) : Int)) = (IntKind.i64, 3) from Prod.ext rfl (show (((3 : Nat) : Int) : Int) = 3 by omega))) (ipCons (ipK (show (IntKind.i64, ((2 : Nat) : Int)) = (IntKind.i64, 2) from Prod.ext rfl (show (((2 : Nat) : Int) : Int) = 2 by omega))) (ipCons (ipN (.i64, v) rfl rfl) ipNil)))
  have hvp : VpOk ((RS (v := v) (s := s) (d := d) (o := o) h1 h2).rtab rv) (PE2s (v) (s) (d) (o) rv) ⟨30000, 30040, ofPairs rl_goS, ip_goS⟩ [(20509, .cells 5 true [] (T.ofList 0 .leaf [(oN 0), (iN 9), (oN 0), (iN 9), (iN 9)]), 0), (20510, .cells 5 true [] (T.ofList 0 .leaf [bF, bT, bF, bT, bT]), 1), (20477, .cells 14 true [] (T.ofList 0 .leaf [z0, z0, (iN 14), z0, z1, (iN 3), z0, z1, z1, z0, z1, z1, z2, z1]), 2), (20480, .cells 2 true [] (T.ofList 0 .leaf [(pN 18708), (pN 21055)]), 3)] := (vpCons (vpCells (T := ((RS (v := v) (s := s) (d := d) (o := o) h1 h2).rtab rv)) (T' := (PE2s (v) (s) (d) (o) rv)) (c := 0) (L := [(oN 0), (iN 9), (oN 0), (iN 9), (iN 9)]) (L' := [(oN 2), (iN 9), (oN 2)]) (i' := 0) hip rfl rfl (by decide) (show pk 0 [(oN 2), (iN 9), (oN 2)] ≤ 5 from by decide) (by kernel_rfl))
    (vpCons (vpCells (T := ((RS (v := v) (s := s) (d := d) (o := o) h1 h2).rtab rv)) (T' := (PE2s (v) (s) (d) (o) rv)) (c := 1) (L := [bF, bT, bF, bT, bT]) (L' := [bF, bT, bF]) (i' := 1) hip rfl rfl (by decide) (show pk 0 [bF, bT, bF] ≤ 5 from by decide) (by kernel_rfl))
    (vpCons (vpCells (T := ((RS (v := v) (s := s) (d := d) (o := o) h1 h2).rtab rv)) (T' := (PE2s (v) (s) (d) (o) rv)) (c := 2) (L := [z0, z0, (iN 14), z0, z1, (iN 3), z0, z1, z1, z0, z1, z1, z2, z1]) (L' := [z0, z0, (iN 14), z0, z1, (iN 3), z0, z1, z1, z0, z1, z1, z2, z1]) (i' := 2) hip rfl rfl (by decide) (show pk 0 [z0, z0, (iN 14), z0, z1, (iN 3), z0, z1, z1, z0, z1, z1, z2, z1] ≤ 14 from by decide) (by kernel_rfl))
    (vpCons (vpCells (T := ((RS (v := v) (s := s) (d := d) (o := o) h1 h2).rtab rv)) (T' := (PE2s (v) (s) (d) (o) rv)) (c := 3) (L := [(pN 18708), (pN 21055)]) (L' := [(pN 30006), (pN 30005)]) (i' := 3) hip rfl rfl (by decide) (show pk 0 [(pN 30006), (pN 30005)] ≤ 2 from by decide) (by kernel_rfl))
    vpNil))))
  exact stepsTo_sound (T := ((RS (v := v) (s := s) (d := d) (o := o) h1 h2).rtab rv)) (T' := (PE2s (v) (s) (d) (o) rv)) (K := Go.Proofs.YtbgkinjicnnkiaaGreatDoor.sq.K_top0) (m := 5000) mixed (@Go.Proofs.YtbgkinjicnnkiaaGreatDoor.sq.K_top0_ok ((RS (v := v) (s := s) (d := d) (o := o) h1 h2).rtab rv)) (C := ⟨30000, 30040, ofPairs rl_goS, ip_goS⟩) (ex := .normal) (rl := rl_goS) (vp := [(20509, .cells 5 true [] (T.ofList 0 .leaf [(oN 0), (iN 9), (oN 0), (iN 9), (iN 9)]), 0), (20510, .cells 5 true [] (T.ofList 0 .leaf [bF, bT, bF, bT, bT]), 1), (20477, .cells 14 true [] (T.ofList 0 .leaf [z0, z0, (iN 14), z0, z1, (iN 3), z0, z1, z1, z0, z1, z1, z2, z1]), 2), (20480, .cells 2 true [] (T.ofList 0 .leaf [(pN 18708), (pN 21055)]), 3)]) (fs := fsR) (bs := bs_goS)
    hb (by decide) rfl (by kernel_rfl) hip hvp (glNone rfl rfl) (by as_aux_lemma => kernel_rfl) (St.same (VRows.rsame _ _ _) s_) (fun a' w' q => hQ a' w' (by rw [bq_goS] at q; exact q))
end
end Go.Proofs.YtbgkinjicnnkiaaGreatDoor.sp
